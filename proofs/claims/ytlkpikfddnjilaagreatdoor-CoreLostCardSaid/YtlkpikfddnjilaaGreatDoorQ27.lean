/- CoreLost: whichever policy and calls, the law returns true. Every input; no condition. The tied card. -/
import Derived.Test.YtlkpikfddnjilaaGreatDoorRows
import Derived.ProofKit
import Derived.OpenShut
import Derived.FnData
import Derived.MakeChecks
import Derived.Stop.Joined
import Derived.WalkKit
import Derived.Below
import Derived.BigQuiet
import Derived.WalkSpells
import Derived.Lib.Hide
import Derived.Laws.CopyOwn
import Derived.Carry
import Derived.Test.YtlkpikfddnjilaaGreatDoorCards
import Derived.Test.YtlkpikfddnjilaaGreatDoorTie
import Derived.Lib.SmallJoins
import Derived.SevenTiedAt
import Derived.LaidMore
import Derived.Test.YtlkpikfddnjilaaGreatDoorQ26
set_option linter.all false
set_option maxRecDepth 100000
set_option maxHeartbeats 4000000
open Go.Proofs.Tryz
open Go.IntKind (u8 u16 u32 u64 i64)
namespace Go.Proofs.YtlkpikfddnjilaaGreatDoor
open Go Go.RowKit Go.BigFrame Sx Go.ChangeShapes Go.WideShapes
section
variable{H:Type} {enc:TypeId×Value->H} {P:Program} {w:World} {base:Nat} {spare:Nat->Bool} {held:Bool} {fuel:Nat} {t e:TypeId} {cs:List Value} {ps:List MemPlace}
theorem Im {l:List Value} {i:Nat} {v:Value} (h:(l.drop i).take 1=[v]):l[i]?=some v:=by
 have h1:((l.drop i).take 1)[0]?=some v:=by rw[h];rfl
 rw[List.getElem?_take]at h1;simpa using h1
theorem Wu {k:IntKind} {zs:List Int} (ht:P.underlying t=some (.array zs.length e)) (he:P.underlying e=some (.int k)) (hc:P.cellsOf e=1) (hn:P.cellsOf t=zs.length)
 (h:DataW.trod enc P w base spare held fuel t cs=some (.agg (zs.map λz=>.lit (.int k z)),ps)):cs=zs.map (Value.int k):=by
 obtain⟨xs,m,rfl,hx,hlen,RQ,GW⟩:=DataW.trod_array ht h;simp only[Prod.mk.injEq,DataW.agg.injEq]at hx;rw[hn]at hlen;apply List.ext_getElem?;intro i;by_cases hi:i<zs.length
 ·have h1:=GW i hi;rw[hc,Nat.mul_one,List.getElem?_eq_getElem (by omega)]at h1;obtain⟨z,e1,e2,_⟩:=DataW.trod_int he h1;have h3:(zs.map λz=>(DataW.lit (.int k z):DataW H))[i]?=(xs.map (·.1))[i]?:=by rw[hx.1]
  rw[List.getElem?_map,List.getElem?_map,List.getElem?_eq_getElem hi,List.getElem?_eq_getElem (by omega),Option.map_some,Option.map_some,e2]at h3;simp at h3;rw[Im e1,List.getElem?_map,List.getElem?_eq_getElem hi,Option.map_some,h3]
 ·rw[List.getElem?_eq_none (by omega),List.getElem?_eq_none (by simp;omega)]
theorem Io {n:String} {g:Nat} {c:Array Value} (hg:P.globalNamed n=some g) (h:w.var? P n=some c):∃t f,w.heap[g]?=some (.cells c t f):=by
 simp only[World.var?,hg,Option.bind_some]at h;split at h
 ·next c' t f h2=>simp at h;subst h;exact⟨t,f,h2⟩
 ·cases h
end
def wy:List Int:=(List.range 64).map λi=>aT i
def Q8:List (String×DataW Unit):=[("sidestick/gate.commands",Rows.laid_sidestick_gate_commands),("sidestick/sha.roots",Rows.laid_sidestick_sha_roots)]
theorem Q9 {W:World} (h:laidMetH prog Q8 W):∃t,W.heap[0]?=some (.cells (aj .u32 64 aT) t (0,0)):=by
 rw[MakeChecks.laidMetH_plain _ _ _ (by kernel_rfl)]at h;obtain⟨ps,⟨g0,t0,cs0,f0,p0,q0,hg0,ht0,XJ,hd0,⟨g1,t1,cs1,f1,p1,q1,hg1,ht1,Rp,hd1,_,hq⟩,Mo⟩,_,gb⟩:=h;obtain rfl:g1=0:=Option.some.inj (hg1.symm.trans (show prog.globalNamed "sidestick/sha.roots" =some 0 by kernel_rfl));have e1:(prog.globals[0]?).map (·.type)=some 244:=by kernel_rfl
 obtain rfl:t1=244:=Option.some.inj (ht1.symm.trans e1);have GN:cs1.toList=wy.map (Value.int .u32):=by
  have hd2:DataW.trod (λ_=>()) prog W 0 (λ_=>true) false f1 244 cs1.toList=some (.agg (wy.map λz=>.lit (.int .u32 z)),p1):=
   hd1.trans (congrArg (λd=>some (d,p1)) (show(Rows.laid_sidestick_sha_roots:DataW Unit)=.agg (wy.map λz=>.lit (.int .u32 z)) by kernel_rfl))
  exact Wu (k:=.u32) (zs:=wy) (e:=207) (by kernel_rfl) (by kernel_rfl) (by kernel_rfl) (by kernel_rfl) hd2
 obtain⟨t,f,cD⟩:=Io (show prog.globalNamed "sidestick/sha.roots" =some 0 by kernel_rfl) Rp;have hc1:cs1=aj .u32 64 aT:=by
  apply Array.ext';rw[GN];simp[wy,aj]
 obtain⟨c,t',XR⟩:=(gb 0 0 (by
  rw[Mo,hq,hc1];have:MemPlace.cell 0 0∈MemPlace.row ⟨0,0,none⟩ (aj .u32 64 aT).size:=by
   rw[kU];simp[MemPlace.row]
  simp[this])).1
 rw[cD]at XR;simp only[Option.some.injEq,Obj.cells.injEq]at XR;refine⟨t,?_⟩;rw[cD,hc1,XR.2.2]
end Go.Proofs.YtlkpikfddnjilaaGreatDoor
namespace Sd
open Go Go.RowKit
noncomputable def over (w:World) (B:Nat) (u:World):World:=@ite _ (Below B w u) (Classical.propDecidable _) u w
theorem over_below (w:World) (B:Nat) (u:World):Below B w (over w B u):=by
 unfold over;split
 ·assumption
 ·exact Below.refl _ _
@[go_sem] theorem cell?_over (w:World) (B:Nat) (u:World) (b o:Nat) (h:b<B):(over w B u).cell? ⟨b,o,none⟩=w.cell? ⟨b,o,none⟩:=(over_below w B u).cell h
@[go_sem] theorem frozen?_over (w:World) (B:Nat) (u:World) (b o:Nat) (h:b<B):(over w B u).frozen? ⟨b,o,none⟩=w.frozen? ⟨b,o,none⟩:=(over_below w B u).frozen h
section
variable{P:Program}
end
theorem bt {w a b:World} (h:Below w.heap.size w a) (k:Below a.heap.size a b):Below w.heap.size w b:=h.trans (k.mono h.size)
theorem bs {w a:World} (h:Below w.heap.size w a) {p:Addr} (hp:w.heap.size<=p.block) (v:Value):Below w.heap.size w (a.setCell p v):=h.setCell hp v
def jc (d:TypeDesc):Bool:=match d with|.struct _|.array _ _=>true|_=>false
structure afV (P:Program) (ty n:Nat):Prop where
 desc:∃d,P.underlying ty=some d/\jc d=true
 size:(P.info? ty).map (·.size)=some n
theorem afV.load {P:Program} {ty n:Nat} (h:afV P ty n) {w:World} {g:Nat} {t:TypeId} {cs:Array Value} {fr:Nat×Nat} (hg:w.heap[g]?=some (.cells cs t fr)) (hn:cs.size=n):
 (loadVar ty ⟨g,0,none⟩).run P w=.ok (.agg cs) w:=by
 obtain⟨⟨d,hu,hd⟩,hs⟩:=h;exact run_loadVar_row w g t ty cs fr d hg hu (by cases d<;>first|rfl|simp[jc]at hd) (by rw[hs,hn])
section
variable{P:Program} {ops:Array Oper} {rest:List Oper} {o:Oper} {a:Act} {w:World} {Q:Exit->Act->World->Prop}
end
def I64 (n:Int):Prop:=-9223372036854775808<=n/\n<=9223372036854775807
theorem i64 {n:Int} (h:-9223372036854775808<=n/\n<=9223372036854775807):I64 n:=h
end Sd
namespace Sd
open Go Go.RowKit Go.ChangeShapes Go.WideShapes Go.ChangeAt
theorem ox {H:Type} {enc:TypeId×Value->H} {P:Program} (hl:laidOutB P=true) {W W':World} (hb:Below W.heap.size W W'):
 ∀{ts:List TypeId} {vs:List Value} {ds:List (DataW H)} {ps:List MemPlace},(ts.all λt=>P.readableRec t&&decide (t<P.types.size))=true->
  DataW.TrodAll enc P W 0 (λ_=>true) true ts vs ds ps->(∀p∈ps,p.block<W.heap.size)->DataW.TrodAll enc P W' 0 (λb=>decide (b<W.heap.size)) true ts vs ds ps
 |[],[],[],_,_,h,_=>h
 |t::ts,v::vs,d::ds,ps,hr,h,hp=>by
  obtain⟨p,q,h1,h2,rfl⟩:=h;simp only[List.all_cons,Bool.and_eq_true,decide_eq_true_eq]at hr;exact⟨p,q,Below.trod hl hr.1.1 hr.1.2 h1 hb (λx hx=>hp x (List.mem_append_left _ hx)),ox hl hb hr.2 h2 (λx hx=>hp x (List.mem_append_right _ hx)),rfl⟩
 |[],[],_::_,_,_,h,_=>h.elim
 |[],_::_,_,_,_,h,_=>h.elim
 |_::_,[],_,_,_,h,_=>h.elim
 |_::_,_::_,[],_,_,h,_=>h.elim
theorem Q_ {H:Type} {enc:TypeId×Value->H} {P:Program} {f:Func} {s:ChangeSpec} {W W':World} {args:Array Value} {ds gs:List (DataW H)} {before:List MemPlace} {tb:TypeId}
 (hl:laidOutB P=true) (hr:(f.params.toList.all λt=>P.readableRec t&&decide (t<P.types.size))=true) (XS:s.vars=[]) (Ps:f.resultTypes=#[tb]) (htb:P.underlying tb=some .bool)
 (hs:s.fn H (ds++gs)={results:=[.lit (.bool true)],args:=ds,vars:=[]}) (hW:DataW.Whole enc P f.params.toList s.vars false W args.toList ds gs before) (hb:Below W.heap.size W W'):
 s.post enc P f false true false false W args (.bool true) W':=by
 have hW0:=hW;have im:=λp hp=>hW.lt p hp;obtain⟨p,q,hA,hV,rfl,hz,hn⟩:=hW;rw[XS]at hV;obtain⟨rfl,rfl⟩:=trodVars_none hV;refine⟨ds,[],p++[],[],p,[],hW0,?_,?_,?_,?_,λh=>by cases h⟩
 ·rw[hs,Ps];exact trodAll_mk1 (shut_bool htb _)
 ·rw[hs];exact ox hl hb hr hA (λx hx=>im x (by simpa using hx))
 ·rw[hs,XS];exact rfl
 ·exact hb.frame _
section
variable{P:Program} {w:World} {r:Reach} {b0:Nat} {t:TypeId} {v:Value}
theorem Gw {d:TypeDesc} {ts:List TypeId} (hu:P.underlying t=some d) (hd:jc d=true) (hct:P.cellTypes P.depth t=some ts) (hn:P.cellsOf t=ts.length) (hv:Value.okWide P w r b0 t v):
 ∃cs:Array Value,v=.agg cs/\cs.size=ts.length/\∀(i:Nat) x u,cs[i]?=some x->ts[i]?=some u->Cell.okWide P w r b0 u x:=by
 have h:∃cs,v=.agg cs/\cs.size=P.cellsOf t/\Row.okWide P w r b0 t cs:=by
  unfold Value.okWide at hv;rw[hu]at hv;cases d<;>first|exact hv|simp[jc]at hd
 obtain⟨cs,rfl,iZ,ts',h1,_,h2⟩:=h;rw[hct]at h1;obtain rfl:ts=ts':=by simpa using h1
 refine⟨cs,rfl,iZ.trans hn,?_⟩;intro i x u hx hu';obtain⟨u',h3,h4⟩:=h2 i x hx;have hi:i<ts.length:=by
  rcases Nat.lt_or_ge i ts.length with h|h
  ·exact h
  ·simp[h]at hu'
 rw[Nat.mod_eq_of_lt hi,hu']at h3;obtain rfl:u=u':=by simpa using h3
 exact h4
theorem Dx {d:TypeDesc} (hu:P.underlying t=some d) (hd:jc d=false) (hv:Value.okWide P w r b0 t v):Cell.okWide P w r b0 t v:=by
 unfold Value.okWide at hv;rw[hu]at hv;cases d<;>first|exact hv|simp[jc]at hd
theorem Ra {k:IntKind} (hu:P.underlying t=some (.int k)) (h:Cell.okWide P w r b0 t v):∃n,v=.int k n/\k.min<=n/\n<=k.max:=by
 unfold Cell.okWide at h;rw[hu]at h;unfold Cell.ok at h;rw[hu]at h;cases v<;>simp at h;obtain⟨rfl,h1,h2⟩:=h;exact⟨_,rfl,h1,h2⟩
theorem Rb (hu:P.underlying t=some (.int .i64)) (h:Cell.okWide P w r b0 t v):∃n,v=.int .i64 n/\I64 n:=by
 obtain⟨n,h1,h2,h3⟩:=Ra hu h;exact⟨n,h1,by unfold I64;simpa[IntKind.min,IntKind.max,IntKind.signed,IntKind.bits]using And.intro h2 h3⟩
end
end Sd
namespace Go.Proofs.YtlkpikfddnjilaaGreatDoor
open Go Go.RowKit Go.WideShapes Sd
def Ip (W:World) (a:Option Addr) (n c:Nat):Prop:=n<=c/\((a=none/\n=0/\c=0)\/∃x,a=some x/\(c:Int)<=i64.max/\W.has prog .any 0 x 5 c)
theorem pF {W:World} {v:Value} {t e:TypeId} (hu:prog.underlying t=some (.slice e)) (h:Cell.okWide prog W .any 0 t v):
 ∃a n c,v=.slice a n c/\n<=c/\((a=none/\n=0/\c=0)\/∃x,a=some x/\(c:Int)<=i64.max/\W.has prog .any 0 x e c):=by
 unfold Cell.okWide at h;rw[hu]at h;cases v with
 |slice a n c=>
  unfold Cell.ok at h;rw[hu]at h;cases a with
  |none=>
   cases n<;>cases c<;>first|exact⟨_,_,_,rfl,by omega,Or.inl ⟨rfl,rfl,rfl⟩⟩|(simp at h)
  |some a=>exact⟨_,_,_,rfl,h.1,Or.inr ⟨a,rfl,h.2⟩⟩
 |_=>unfold Cell.ok at h;rw[hu]at h;simp at h
theorem Rc {W:World} {v:Value} (hv:Value.okWide prog W .any 0 28 v):
 ∃(q:Nat->Int) (ka:Nat->Option Addr) (kn kc:Nat->Nat),v=.agg (Fa q ka kn kc)/\(∀i,-9223372036854775808<=q i/\q i<=9223372036854775807)/\∀i,i<4->Ip W (ka i) (kn i) (kc i):=by
 obtain⟨cs,rfl,iZ,GN⟩:=Gw Tryz.underlying28 rfl (ts:=[3,3,3,3,3,23,23,23,23,3,3,3,3,3,3,3,3,3,3,3,3,3,3,3,3,3,3,3,3,3,3,3,3,3,3,3,3,3,3,3,3,3,3,3,3,3,3,3,3,3,3,3,3,3,3,3]) (by kernel_rfl) (by kernel_rfl) hv;have cD:∀i,i<56->∃x,cs[i]?=some x:=λi hi=>⟨cs[i]'(by rw[iZ];exact hi),by rw[Array.getElem?_eq_getElem]⟩;have hI:∀i,i<56->(i<5\/8<i)->∃n,cs[i]?=some (.int .i64 n)/\I64 n:=by
  intro i hi fc;obtain⟨x,hx⟩:=cD i hi;have ht:([3,3,3,3,3,23,23,23,23,3,3,3,3,3,3,3,3,3,3,3,3,3,3,3,3,3,3,3,3,3,3,3,3,3,3,3,3,3,3,3,3,3,3,3,3,3,3,3,3,3,3,3,3,3,3,3]:List Nat)[i]?=some 3:=by clear hx;revert i;decide
  obtain⟨n,rfl,hn⟩:=Rb Tryz.underlying3 (GN i x 3 hx ht);exact⟨n,hx,hn⟩
 have hS:∀i,i<4->∃a n c,cs[5+i]?=some (.slice a n c)/\Ip W a n c:=by
  intro i hi;obtain⟨x,hx⟩:=cD (5+i) (by omega);have ht:([3,3,3,3,3,23,23,23,23,3,3,3,3,3,3,3,3,3,3,3,3,3,3,3,3,3,3,3,3,3,3,3,3,3,3,3,3,3,3,3,3,3,3,3,3,3,3,3,3,3,3,3,3,3,3,3]:List Nat)[5+i]?=some 23:=by clear hx;revert i;decide
  obtain⟨a,n,c,rfl,h1,h2⟩:=pF Tryz.underlying23 (GN (5+i) x 23 hx ht);exact⟨a,n,c,hx,h1,h2⟩
 let q:Nat->Int:=λi=>match cs[i]?with|some (.int _ n)=>n|_=>0
 let ka:Nat->Option Addr:=λi=>match cs[5+i]?with|some (.slice a _ _)=>a|_=>none
 let kn:Nat->Nat:=λi=>match cs[5+i]?with|some (.slice _ n _)=>n|_=>0
 let kc:Nat->Nat:=λi=>match cs[5+i]?with|some (.slice _ _ c)=>c|_=>0
 have hq:∀i,i<56->(i<5\/8<i)->cs[i]?=some (.int .i64 (q i))/\I64 (q i):=by
  intro i hi fc;obtain⟨n,hx,hn⟩:=hI i hi fc;have:q i=n:=by simp only[q,hx]
  rw[this];exact⟨hx,hn⟩
 have hk:∀i,i<4->cs[5+i]?=some (.slice (ka i) (kn i) (kc i))/\Ip W (ka i) (kn i) (kc i):=by
  intro i hi;obtain⟨a,n,c,hx,hn⟩:=hS i hi;have h1:ka i=a:=by simp only[ka,hx]
  have h2:kn i=n:=by simp only[kn,hx]
  have h3:kc i=c:=by simp only[kc,hx]
  rw[h1,h2,h3];exact⟨hx,hn⟩
 refine⟨q,ka,kn,kc,?_,?_,λi hi=>(hk i hi).2⟩
 ·congr 1;apply Array.ext_getElem?;intro i;by_cases hi:i<56
  ·match i,hi with
   |0,_=>exact(hq 0 (by omega) (by omega)).1.trans rfl
   |1,_=>exact(hq 1 (by omega) (by omega)).1.trans rfl
   |2,_=>exact(hq 2 (by omega) (by omega)).1.trans rfl
   |3,_=>exact(hq 3 (by omega) (by omega)).1.trans rfl
   |4,_=>exact(hq 4 (by omega) (by omega)).1.trans rfl
   |5,_=>exact(hk 0 (by omega)).1.trans rfl
   |6,_=>exact(hk 1 (by omega)).1.trans rfl
   |7,_=>exact(hk 2 (by omega)).1.trans rfl
   |8,_=>exact(hk 3 (by omega)).1.trans rfl
   |9,_=>exact(hq 9 (by omega) (by omega)).1.trans rfl
   |10,_=>exact(hq 10 (by omega) (by omega)).1.trans rfl
   |11,_=>exact(hq 11 (by omega) (by omega)).1.trans rfl
   |12,_=>exact(hq 12 (by omega) (by omega)).1.trans rfl
   |13,_=>exact(hq 13 (by omega) (by omega)).1.trans rfl
   |14,_=>exact(hq 14 (by omega) (by omega)).1.trans rfl
   |15,_=>exact(hq 15 (by omega) (by omega)).1.trans rfl
   |16,_=>exact(hq 16 (by omega) (by omega)).1.trans rfl
   |17,_=>exact(hq 17 (by omega) (by omega)).1.trans rfl
   |18,_=>exact(hq 18 (by omega) (by omega)).1.trans rfl
   |19,_=>exact(hq 19 (by omega) (by omega)).1.trans rfl
   |20,_=>exact(hq 20 (by omega) (by omega)).1.trans rfl
   |21,_=>exact(hq 21 (by omega) (by omega)).1.trans rfl
   |22,_=>exact(hq 22 (by omega) (by omega)).1.trans rfl
   |23,_=>exact(hq 23 (by omega) (by omega)).1.trans rfl
   |24,_=>exact(hq 24 (by omega) (by omega)).1.trans rfl
   |25,_=>exact(hq 25 (by omega) (by omega)).1.trans rfl
   |26,_=>exact(hq 26 (by omega) (by omega)).1.trans rfl
   |27,_=>exact(hq 27 (by omega) (by omega)).1.trans rfl
   |28,_=>exact(hq 28 (by omega) (by omega)).1.trans rfl
   |29,_=>exact(hq 29 (by omega) (by omega)).1.trans rfl
   |30,_=>exact(hq 30 (by omega) (by omega)).1.trans rfl
   |31,_=>exact(hq 31 (by omega) (by omega)).1.trans rfl
   |32,_=>exact(hq 32 (by omega) (by omega)).1.trans rfl
   |33,_=>exact(hq 33 (by omega) (by omega)).1.trans rfl
   |34,_=>exact(hq 34 (by omega) (by omega)).1.trans rfl
   |35,_=>exact(hq 35 (by omega) (by omega)).1.trans rfl
   |36,_=>exact(hq 36 (by omega) (by omega)).1.trans rfl
   |37,_=>exact(hq 37 (by omega) (by omega)).1.trans rfl
   |38,_=>exact(hq 38 (by omega) (by omega)).1.trans rfl
   |39,_=>exact(hq 39 (by omega) (by omega)).1.trans rfl
   |40,_=>exact(hq 40 (by omega) (by omega)).1.trans rfl
   |41,_=>exact(hq 41 (by omega) (by omega)).1.trans rfl
   |42,_=>exact(hq 42 (by omega) (by omega)).1.trans rfl
   |43,_=>exact(hq 43 (by omega) (by omega)).1.trans rfl
   |44,_=>exact(hq 44 (by omega) (by omega)).1.trans rfl
   |45,_=>exact(hq 45 (by omega) (by omega)).1.trans rfl
   |46,_=>exact(hq 46 (by omega) (by omega)).1.trans rfl
   |47,_=>exact(hq 47 (by omega) (by omega)).1.trans rfl
   |48,_=>exact(hq 48 (by omega) (by omega)).1.trans rfl
   |49,_=>exact(hq 49 (by omega) (by omega)).1.trans rfl
   |50,_=>exact(hq 50 (by omega) (by omega)).1.trans rfl
   |51,_=>exact(hq 51 (by omega) (by omega)).1.trans rfl
   |52,_=>exact(hq 52 (by omega) (by omega)).1.trans rfl
   |53,_=>exact(hq 53 (by omega) (by omega)).1.trans rfl
   |54,_=>exact(hq 54 (by omega) (by omega)).1.trans rfl
   |55,_=>exact(hq 55 (by omega) (by omega)).1.trans rfl
   |i+56,h=>exact absurd h (by omega)
  ·rw[Array.getElem?_eq_none (by rw[iZ];exact Nat.le_of_not_lt hi),Array.getElem?_eq_none (Nat.le_of_not_lt hi)]
 ·intro i;by_cases hi:i<56/\(i<5\/8<i)
  ·exact(hq i hi.1 hi.2).2
  ·have:q i=0:=by
    by_cases h5:i<56
    ·obtain⟨a,n,c,hx,_⟩:=hS (i-5) (by omega);rw[show 5+(i-5)=i by omega]at hx;simp only[q,hx]
    ·have hx:cs[i]?=none:=Array.getElem?_eq_none (by rw[iZ];exact Nat.le_of_not_lt h5);simp only[q,hx]
   rw[this];omega
end Go.Proofs.YtlkpikfddnjilaaGreatDoor
namespace Go.Proofs.YtlkpikfddnjilaaGreatDoor
open Go Go.RowKit Go.WideShapes Sd Sx
theorem Re {W:World} {a:Option Addr} {m c:Nat} (gb:∀n,Rd prog W n 23 [.slice a m c]) (hk:Ip W a m c):∃kb:Nat->Int,Pe [] W a m c kb:=by
 obtain⟨h1,h2⟩:=hk;rcases h2 with⟨e1,e2,e3⟩|⟨x,e1,hc,hh⟩
 ·exact⟨λ_=>0,h1,λ_=>⟨e2,e3⟩,λad ha=>by rw[e1]at ha;cases ha⟩
 ·rcases wv Tryz.underlying23 gb (z:=1) (by kernel_rfl) 5 (ts:=[5]) (by kernel_rfl)with h0|⟨a',afS,afT,h0,_,_,C,hC⟩
  ·rw[e1]at h0;simp at h0
  ·rw[e1]at h0;simp only[Value.slice.injEq,Option.some.injEq]at h0;obtain⟨rfl,rfl,rfl⟩:=h0;refine⟨λj=>match C j 0 with|.int _ n=>n|_=>0,h1,λh=>(by rw[e1]at h;cases h),λad ha=>⟨by simp,λj hj=>?_⟩⟩;rw[e1]at ha;obtain rfl:=Option.some.inj ha;obtain⟨h3,h4⟩:=hC j (by omega) 0 (by omega);obtain⟨n,h5,_⟩:=wu Tryz.underlying5 (h4 _ rfl);simp only[h5]at h3⊢;simpa using h3
theorem KC {W:World} {v:Value} (hv:Value.okWide prog W .any 0 28 v) (hr:∀n,Rd prog W n 28 v.cells.toList):
 ∃(q:Nat->Int) (ka:Nat->Option Addr) (kn kc:Nat->Nat) (kb:Nat->Nat->Int),v=.agg (Fa q ka kn kc)/\(∀i,-9223372036854775808<=q i/\q i<=9223372036854775807)/\∀i,i<4->Pe [] W (ka i) (kn i) (kc i) (kb i):=by
 obtain⟨q,ka,kn,kc,rfl,hq,hk⟩:=Rc hv;have key:∀i,i<4->∃kb:Nat->Int,Pe [] W (ka i) (kn i) (kc i) kb:=by
  intro i hi;have gb:∀n,Rd prog W n 23 [.slice (ka i) (kn i) (kc i)]:=by
   have h5:(Fa q ka kn kc)[5+i]?=some (.slice (ka i) (kn i) (kc i)):=by
    match i,hi with
    |0,_=>rfl
    |1,_=>rfl
    |2,_=>rfl
    |3,_=>rfl
    |i+4,h=>exact absurd h (by omega)
   have AR:cellAt prog 6 28 (5+i)=some 23:=by
    have e:i=0\/i=1\/i=2\/i=3:=by omega
    rcases e with rfl|rfl|rfl|rfl
    ·show cellAt prog 6 28 5=some 23;kernel_rfl
    ·show cellAt prog 6 28 6=some 23;kernel_rfl
    ·show cellAt prog 6 28 7=some 23;kernel_rfl
    ·show cellAt prog 6 28 8=some 23;kernel_rfl
   exact ry 6 (P:=prog) (w:=W) (t:=28) (cs:=(Fa q ka kn kc).toList) (j:=5+i) hr AR (by simpa using h5)
  exact Re gb (hk i hi)
 obtain⟨kb,hkb⟩:=Deep.choose_lt key;exact⟨q,ka,kn,kc,kb,rfl,hq,hkb⟩
end Go.Proofs.YtlkpikfddnjilaaGreatDoor
namespace Go.Proofs.YtlkpikfddnjilaaGreatDoor
open Go Go.RowKit Go.BigFrame Go.WideShapes Go.ChangeShapes Sd Sx Vx
section
variable{H:Type} {enc:TypeId×Value->H} {P:Program} {w:World} {base:Nat} {spare:Nat->Bool} {held:Bool} {fuel:Nat} {t e:TypeId} {cs:List Value} {ps:List MemPlace}
theorem Rf {zs:List Bool} (ht:P.underlying t=some (.array zs.length e)) (he:P.underlying e=some .bool) (hc:P.cellsOf e=1) (hn:P.cellsOf t=zs.length)
 (h:DataW.trod enc P w base spare held fuel t cs=some (.agg (zs.map λz=>.lit (.bool z)),ps)):cs=zs.map Value.bool:=by
 obtain⟨xs,m,rfl,hx,hlen,RQ,GW⟩:=DataW.trod_array ht h;simp only[Prod.mk.injEq,DataW.agg.injEq]at hx;rw[hn]at hlen;apply List.ext_getElem?;intro i;by_cases hi:i<zs.length
 ·have h1:=GW i hi;rw[hc,Nat.mul_one,List.getElem?_eq_getElem (by omega)]at h1;obtain⟨z,e1,e2⟩:=DataW.trod_bool he h1;have h3:(zs.map λz=>(DataW.lit (.bool z):DataW H))[i]?=(xs.map (·.1))[i]?:=by rw[hx.1]
  rw[List.getElem?_map,List.getElem?_map,List.getElem?_eq_getElem hi,List.getElem?_eq_getElem (by omega),Option.map_some,Option.map_some]at h3;have e3:=congrArg Prod.fst e2;rw[e3]at h3;simp at h3;rw[Im e1,List.getElem?_map,List.getElem?_eq_getElem hi,Option.map_some,h3]
 ·rw[List.getElem?_eq_none (by omega),List.getElem?_eq_none (by simp;omega)]
end
def Iq:List Bool:=[false,false,false,false,false,false,false,false,false,false,true,true]
theorem Wv {W:World} (h:laidMetH prog Q8 W):∃t,W.heap[2]?=some (.cells #[.bool false,.bool false,.bool false,.bool false,.bool false,.bool false,.bool false,.bool false,.bool false,.bool false,.bool true,.bool true] t (0,0)):=by
 rw[MakeChecks.laidMetH_plain _ _ _ (by kernel_rfl)]at h;obtain⟨ps,⟨g0,t0,cs0,f0,p0,q0,hg0,ht0,XJ,hd0,⟨g1,t1,cs1,f1,p1,q1,hg1,ht1,Rp,hd1,_,hq⟩,Mo⟩,_,gb⟩:=h;obtain rfl:g0=2:=Option.some.inj (hg0.symm.trans (show prog.globalNamed "sidestick/gate.commands" =some 2 by kernel_rfl));have e1:(prog.globals[2]?).map (·.type)=some 273:=by kernel_rfl
 obtain rfl:t0=273:=Option.some.inj (ht0.symm.trans e1);have GN:cs0.toList=Iq.map Value.bool:=by
  have hd2:DataW.trod (λ_=>()) prog W 0 (λ_=>true) false f0 273 cs0.toList=some (.agg (Iq.map λz=>.lit (.bool z)),p0):=
   hd0.trans (congrArg (λd=>some (d,p0)) (show(Rows.laid_sidestick_gate_commands:DataW Unit)=.agg (Iq.map λz=>.lit (.bool z)) by kernel_rfl))
  exact Rf (zs:=Iq) (e:=4) (by kernel_rfl) (by kernel_rfl) (by kernel_rfl) (by kernel_rfl) hd2
 obtain⟨t,f,cD⟩:=Io (show prog.globalNamed "sidestick/gate.commands" =some 2 by kernel_rfl) XJ;have Yb:cs0=#[.bool false,.bool false,.bool false,.bool false,.bool false,.bool false,.bool false,.bool false,.bool false,.bool false,.bool true,.bool true]:=by
  apply Array.ext';rw[GN];rfl
 obtain⟨c,t',XR⟩:=(gb 2 0 (by
  rw[Mo,Yb];have:MemPlace.cell 2 0∈MemPlace.row ⟨2,0,none⟩ 12:=by
   simp[MemPlace.row]
  exact List.mem_append_left _ (List.mem_append_left _ this))).1
 rw[cD]at XR;simp only[Option.some.injEq,Obj.cells.injEq]at XR;refine⟨t,?_⟩;rw[cD,Yb,XR.2.2]
theorem Ir {W:World} {v:Value} (h:∀n,Rd prog W n 23 [v]):∃a n c,v=.slice a n c/\eE W a n c (dt W a):=by
 rcases wv Tryz.underlying23 h (z:=1) (by kernel_rfl) 5 (ts:=[5]) (by kernel_rfl)with rfl|⟨a,len,cap,rfl,hle,_,C,hC⟩
 ·exact⟨none,0,0,rfl,Nat.le_refl _,λ_=>⟨rfl,rfl⟩,λx e=>nomatch e⟩
 ·have hb:∀j,j<len->∃n,C j 0=.int .u8 n/\0<=n/\n<=255:=λj hj=>by
   obtain⟨n,h5,h6⟩:=wu Tryz.underlying5 ((hC j (by omega) 0 (by omega)).2 _ rfl);exact⟨n,h5,by simpa[IntKind.min,IntKind.max,IntKind.signed,IntKind.bits]using h6⟩
  refine⟨some a,len,cap,rfl,abq (f:=λj=>match C j 0 with|.int _ n=>n|_=>0) ⟨hle,(λe=>nomatch e),λx e j hj=>?_⟩ λj hj=>?_⟩
  ·obtain rfl:=Option.some.inj e;obtain⟨n,h5,_⟩:=hb j hj;have h3:=(hC j (by omega) 0 (by omega)).1;simp only[h5]at h3⊢;simpa using h3
  ·obtain⟨n,h5,h6⟩:=hb j hj;simp only[h5];exact h6
theorem Rg {W:World} {v:Value} (gb:Cell.okWide prog W .any 0 29 v) (hrd:∀k,Rd prog W k 29 [v]) {cs0:Array Value} {t0:TypeId} {f0:Nat×Nat} (h0:W.heap[0]?=some (.cells cs0 t0 f0)):
 ∃(os:Nat->AI) (i o n c:Nat) (a:Option Addr) (ty:BT) (pre post:List Value),s9 W v 11 (Wb os) i o n c a ty pre post/\QY W os n:=by
 have z4:Sd.DL ⟨0,0,0,0⟩:=Sd.x40
 let od:AI:=⟨0,0,0,none,0,0,⟨false,⟨0,0,0,0⟩,false⟩,false⟩
 obtain⟨a,m,c,rfl,hmc,ho⟩:=pF Tryz.underlying29 gb;rcases ho with⟨rfl,rfl,rfl⟩|⟨x,rfl,aiZ,afW⟩
 ·exact⟨λ_=>od,0,0,0,0,none,_,[],_,s9.nil h0,λj hj=>absurd hj (by omega),λ_=>z4,λj hj=>absurd hj (by omega)⟩
 obtain⟨bk,off,spot⟩:=x;obtain rfl:spot=none:=afW.2.1;obtain⟨row,cells,hsh,_⟩:=afW.2.2;have ahY:∃cs t f,W.heap[bk]?=some (.cells cs t f):=by
  unfold World.shape? at hsh;split at hsh
  ·rename_i cs t f hh;exact⟨cs,t,f,hh⟩
  ·cases hsh
 obtain⟨cs,t,f,cD⟩:=ahY;rcases wv Tryz.underlying29 hrd (z:=11) rfl 5 (ts:=[5,3,33,23,4,3,3,3,3,4,4])with h0'|⟨a',afS,afT,h0',_,_,C,hC⟩
 ·simp at h0'
 simp only[Value.slice.injEq,Option.some.injEq]at h0';obtain⟨rfl,rfl,rfl⟩:=h0'
 let num:Value->Int:=λv=>match v with|.int _ n=>n|_=>0
 let tv:Value->Bool:=λv=>match v with|.bool b=>b|_=>false
 let sa:Value->Option Addr:=λv=>match v with|.slice a _ _=>a|_=>none
 let sn:Value->Nat:=λv=>match v with|.slice _ n _=>n|_=>0
 let sc:Value->Nat:=λv=>match v with|.slice _ _ c=>c|_=>0
 have hB:∀k,k<c->C k 3=.slice (sa (C k 3)) (sn (C k 3)) (sc (C k 3))/\eE W (sa (C k 3)) (sn (C k 3)) (sc (C k 3)) (dt W (sa (C k 3))):=λk hk=>by
  obtain⟨a,n,c',e,h⟩:=Ir ((hC k hk 3 (by omega)).2 _ rfl);rw[e];exact⟨rfl,h⟩
 have hI:∀k,k<c->∀j,(j=1\/j=5\/j=6\/j=7\/j=8)->C k j=.int .i64 (num (C k j))/\Sd.Bd (num (C k j)):=λk hk j hj=>by
  have ht:([5,3,33,23,4,3,3,3,3,4,4]:List Nat)[j]?=some 3:=by
   rcases hj with rfl|rfl|rfl|rfl|rfl<;>rfl
  obtain⟨n,h1,h2⟩:=wu Tryz.underlying3 ((hC k hk j (by omega)).2 _ ht);rw[h1];refine⟨rfl,?_⟩;have h3:-9223372036854775808<=n/\n<=9223372036854775807:=by simpa[IntKind.min,IntKind.max,IntKind.signed,IntKind.bits]using h2
  exact h3
 have hE:∀k,k<c->C k 2=.int .i64 (num (C k 2)):=λk hk=>by
  obtain⟨n,h1,_⟩:=wu Tryz.underlying33 ((hC k hk 2 (by omega)).2 _ rfl);rw[h1]
 have hK:∀k,k<c->C k 0=.int .u8 (num (C k 0))/\0<=num (C k 0):=λk hk=>by
  obtain⟨n,h1,h2⟩:=wu Tryz.underlying5 ((hC k hk 0 (by omega)).2 _ rfl);rw[h1];have h3:0<=n/\n<=255:=by simpa[IntKind.min,IntKind.max,IntKind.signed,IntKind.bits]using h2
  exact⟨rfl,h3.1⟩
 have hT:∀k,k<c->∀j,(j=4\/j=9\/j=10)->C k j=.bool (tv (C k j)):=λk hk j hj=>by
  have ht:([5,3,33,23,4,3,3,3,3,4,4]:List Nat)[j]?=some 4:=by
   rcases hj with rfl|rfl|rfl<;>rfl
  obtain⟨n,h1⟩:=Wt Tryz.underlying4 ((hC k hk j (by omega)).2 _ ht);rw[h1]
 let os:Nat->AI:=λk=>if k<c then⟨num (C k 0),num (C k 1),num (C k 2),sa (C k 3),sn (C k 3),sc (C k 3),⟨tv (C k 4),⟨num (C k 5),num (C k 6),num (C k 7),num (C k 8)⟩,tv (C k 9)⟩,tv (C k 10)⟩else od
 have hos:∀k,k<c->os k=⟨num (C k 0),num (C k 1),num (C k 2),sa (C k 3),sn (C k 3),sc (C k 3),⟨tv (C k 4),⟨num (C k 5),num (C k 6),num (C k 7),num (C k 8)⟩,tv (C k 9)⟩,tv (C k 10)⟩:=λk hk=>if_pos hk;have wK:∀q:Nat,(⟨bk,off,none⟩:Addr).add q=⟨bk,off+q,none⟩:=λq=>by
  by_cases hq:q=0
  ·subst hq;rfl
  ·simp[Addr.add,hq]
 have AR:∀k,k<m->∀j,j<11->W.cell? ⟨bk,off+k*11+j,none⟩=(Wb os k)[j]?:=by
  intro k hk j hj;have wM:k<c:=by omega
  have h1:W.cell? ⟨bk,off+k*11+j,none⟩=some (C k j):=by
   have:=(hC k wM j hj).1;rw[wK]at this;rw[Nat.add_assoc];exact this
  rw[h1];have e:Wb os k=[.int .u8 (num (C k 0)),.int .i64 (num (C k 1)),.int .i64 (num (C k 2)),.slice (sa (C k 3)) (sn (C k 3)) (sc (C k 3)),.bool (tv (C k 4)),.int .i64 (num (C k 5)),.int .i64 (num (C k 6)),.int .i64 (num (C k 7)),.int .i64 (num (C k 8)),.bool (tv (C k 9)),.bool (tv (C k 10))]:=by
   unfold Wb;rw[hos k wM];rfl
  rw[e]
  match j,hj with
  |0,_=>rw[(hK k wM).1];rfl
  |1,_=>rw[(hI k wM 1 (by omega)).1];rfl
  |2,_=>rw[hE k wM];rfl
  |3,_=>rw[(hB k wM).1];rfl
  |4,_=>rw[hT k wM 4 (by omega)];rfl
  |5,_=>rw[(hI k wM 5 (by omega)).1];rfl
  |6,_=>rw[(hI k wM 6 (by omega)).1];rfl
  |7,_=>rw[(hI k wM 7 (by omega)).1];rfl
  |8,_=>rw[(hI k wM 8 (by omega)).1];rfl
  |9,_=>rw[hT k wM 9 (by omega)];rfl
  |10,_=>rw[hT k wM 10 (by omega)];rfl
  |j+11,h=>omega
 obtain⟨pre,post,hR⟩:=s9.some (z:=11) (g:=Wb os) hmc (λj=>Ia os j) cD AR (by decide);refine⟨os,bk,off,m,c,_,_,pre,post,hR,λj hj=>?_,λj=>?_,λj hj=>?_⟩
 ·rw[hos j (by omega)];exact(hB j (by omega)).2
 rotate_left
 ·rw[hos j (by omega)];exact(hK j (by omega)).2
 ·by_cases hj:j<c
  ·rw[hos j hj];exact⟨(hI j hj 5 (by omega)).2,(hI j hj 6 (by omega)).2,(hI j hj 7 (by omega)).2,(hI j hj 8 (by omega)).2⟩
  ·have:os j=od:=if_neg hj;rw[this];exact z4
theorem KD {W:World} {v:Value} (hv:Value.okWide prog W .any 0 28 v) (hr:∀n,Rd prog W n 28 v.cells.toList):
 ∃(q:Nat->Int) (ka:Nat->Option Addr) (kn kc:Nat->Nat),v=.agg (ta ⟨q,λ_=>(0,λ_=>0)⟩ ka kn kc).toArray/\∀j,j<4->eE W (ka j) (kn j) (kc j) (dt W (ka j)):=by
 obtain⟨q,ka,kn,kc,kb,rfl,hq,hk⟩:=KC hv hr;refine⟨q,ka,kn,kc,rfl,λj hj=>?_⟩;have gb:∀n,Rd prog W n 23 [.slice (ka j) (kn j) (kc j)]:=by
  have h5:(Fa q ka kn kc)[5+j]?=some (.slice (ka j) (kn j) (kc j)):=by
   match j,hj with
   |0,_=>rfl
   |1,_=>rfl
   |2,_=>rfl
   |3,_=>rfl
   |j+4,h=>exact absurd h (by omega)
  have AR:cellAt prog 6 28 (5+j)=some 23:=by
   have e:j=0\/j=1\/j=2\/j=3:=by omega
   rcases e with rfl|rfl|rfl|rfl
   ·show cellAt prog 6 28 5=some 23;kernel_rfl
   ·show cellAt prog 6 28 6=some 23;kernel_rfl
   ·show cellAt prog 6 28 7=some 23;kernel_rfl
   ·show cellAt prog 6 28 8=some 23;kernel_rfl
  exact ry 6 (P:=prog) (w:=W) (t:=28) (cs:=(Fa q ka kn kc).toList) (j:=5+j) hr AR (by simpa using h5)
 obtain⟨a,n,c,e,h⟩:=Ir gb;simp only[Value.slice.injEq]at e;obtain⟨rfl,rfl,rfl⟩:=e;exact h
end Go.Proofs.YtlkpikfddnjilaaGreatDoor
namespace Go.Proofs.YtlkpikfddnjilaaGreatDoor
open Go Go.RowKit Go.BigFrame Sx Vx
variable{fr:Sd.Reply->Nat×Sd.Byt}
def ajO {G:Type}:jq G:=λargs bl ch K=>match args with
 |[.agg pl,.int .i64 a,.int .i64 b]=>cond (sE pl 0) (K (.bool (Sd.cp (nP pl zkF) a b)) bl ch) False
 |_=>False
theorem ajz {G:Type} [Bl G] {gl:Nat->Option Nat}:Sound (G:=G) prog gl 16 ajO:=by
 intro args ids bl ch R ms w0 w K hg hl S hc;unfold ajO at hc;split at hc
 ·rename_i pl a b;cases hpc:sE pl 0 with
  |false=>rw[hpc]at hc;exact hc.elim
  |true=>
   rw[hpc]at hc;have:=ajC gl [.agg [.jS (nP pl zkF) (kyA ids pl) (wJ pl) (kyC pl)],.int .i64 a,.int .i64 b] bl True _ rfl trivial ids w hg ⟨hl,λi b hb=>(dY hl S hb).2⟩;have e:az ids [.agg pl,.int .i64 a,.int .i64 b]=az ids [.agg [.jS (nP pl zkF) (kyA ids pl) (wJ pl) (kyC pl)],.int .i64 a,.int .i64 b]:=by
    simp only[az,den,QA hpc zkF ids,ai,cl,List.append_nil];rfl
   rw[e];refine this.mono ?_;rintro v w' ⟨rfl,kq⟩;exact⟨.bool (Sd.cp (nP pl zkF) a b),[],bl,ch,rfl,by simpa using hl,by simpa using S.quiet kq,hc⟩
 ·exact hc.elim
theorem ajA {G:Type}:fC (ajO (G:=G)):=by
 intro args bl ch K hc;unfold ajO at hc⊢;split at hc
 ·revert hc;cases sE _ 0 with
  |false=>exact λh=>h.elim
  |true=>exact λhc=>⟨hc,[],by simp⟩
 ·exact hc.elim
def LLo (fr:Sd.Reply->Nat×Sd.Byt) (C:Sd.Crypt):List (eG (LG fr)):=⟨16,true,ajO⟩::Wc fr C
def Wg (p:Nat->Int) (i:Nat):Int:=bif Nat.beq i 42 then i64.wrap (1+(p 42).tmod 8)else bif Nat.beq i 43 then i64.wrap (1+(p 43).tmod 8)else p i
structure LoS (fr:Sd.Reply->Nat×Sd.Byt) (tg tc:TypeId) (u:World) (x:nW) (n:Nat) where
 p:Nat->Int
 m:Nat->Nat
 d:Nat->Nat
 hM:Made x p m
 p2:Sd.Pol
 k:LK
 hN:Gg (jY 4 (Wg p) m d) (Dj x u) tg tc p2 k
 j:Nat
 hj:j<=n
 s:Sd.Scene
 F:cz fr (b9 k s)
 fB:List aC
 hC:bo k s
 hp:s.c.p=p2
 v1:cJ=F.vs
 v2:cJ=F.vr
structure LtS (fr:Sd.Reply->Nat×Sd.Byt) (tg tc:TypeId) (u:World) (x:nW) where
 p:Nat->Int
 m:Nat->Nat
 d:Nat->Nat
 hM:Made x p m
 p2:Sd.Pol
 k:LK
 hN:Gg (jY 4 (Wg p) m d) (Dj x u) tg tc p2 k
 j:Nat
 s:Sd.Scene
 F:cz fr (b9 k s)
 fB:List aC
 hC:bo k s
 hp:s.c.p=p2
 v1:cJ=F.vs
 v2:cJ=F.vr
 h4:s.c.t.holder≠4
 hl:Sd.fO s.c+j<=p2.i 42+p2.i 43-1
 jt:Nat
 jn:Nat
 jg:Nat->List Value
 ju:List Value
structure LrS (fr:Sd.Reply->Nat×Sd.Byt) (tg tc:TypeId) (u:World) (x:nW) where
 y:LtS fr tg tc u x
 s:Sd.Scene
 r:TR
 fn:List aC
 F:cz fr (b9 y.k (nn s))
 hW:Sd.ajc y.s.c s.c
 hp:s.c.p=y.p2
 hq:y.s.c.q.length<=3/\s.c.q.length<=3
 hh:0<=y.s.c.t.holder/\y.s.c.t.holder<=4
 z1:Option Addr
 c1:Nat
 t1:Nat
 u1:List Value
 z3:Option Addr
 c3:Nat
 t3:Nat
 u3:List Value
 i:Nat
section
variable(C:Sd.Crypt) (tg tc:TypeId) (ty:BT) (u:World) (x:nW) (f:Nat->Nat×Sd.Byt) (o n c:Nat) (a:Option Addr) (os:Nat->AI) (pre post:List Value)
def loV (y:LoS fr tg tc u x (bJ 80 n)):List V:=[.ptr 8 0,.ptr 9 0,.je 2 o (bJ 80 n) c a,.int .i64 y.j]
def aki (y:LoS fr tg tc u x (bJ 80 n)):List VB:=lwB tg tc ty u x f n os pre post (Wg y.p) y.m y.d y.k y.s
def akj (y:LoS fr tg tc u x (bJ 80 n)):List (LG fr):=[.gh u,.core (cB y.k y.s y.F) y.fB]
def akK:Lp (LG fr):=MC (X:=LoS fr tg tc u x (bJ 80 n)) (λy=>bJ 80 n-y.j) 155 11 [6,7,9,10] (loV tg tc u x o n c a) (aki tg tc ty u x f n os pre post) (akj tg tc u x n) (λ_=>rfl) (λ_=>by kernel_rfl) (λ_=>rfl)
def ltV (y:LtS fr tg tc u x):List V:=[.ptr 8 0,.ptr 9 0,.int .i64 y.s.c.t.holder,.int .i64 y.j]
def akk (y:LtS fr tg tc u x):List VB:=lwB tg tc ty u x f n os pre post (Wg y.p) y.m y.d y.k y.s++[FZ y.jt 1 y.jn y.jg y.ju]
def akl (y:LtS fr tg tc u x):List (LG fr):=[.gh u,.core (cB y.k y.s y.F) y.fB]
def akL:Lp (LG fr):=MC (X:=LtS fr tg tc u x) (λy=>20-y.j) 155 12 [6,7,11,12] (ltV tg tc u x) (akk tg tc ty u x f n os pre post) (akl tg tc u x) (λ_=>rfl) (λ_=>by kernel_rfl) (λ_=>rfl)
def ai9 (z:LrS fr tg tc u x):List VB:=lwB tg tc ty u x f n os pre post (Wg z.y.p) z.y.m z.y.d z.y.k (nn z.s)++[FZ z.y.jt 1 z.y.jn z.y.jg z.y.ju,FZ z.t1 1 z.y.s.c.q.length (sw z.y.s.c.q) z.u1,⟨true,⟨44,(0,0)⟩,ot z.y.s (.je 12 0 z.y.s.c.q.length z.c1 z.z1)⟩,z.r.sB z.s,z.r.rB z.s,FZ z.t3 1 z.s.c.q.length (sw z.s.c.q) z.u3,⟨true,⟨44,(0,0)⟩,ot z.s (.je 16 0 z.s.c.q.length z.c3 z.z3)⟩]
def ai_ (z:LrS fr tg tc u x):List (LG fr):=[.gh u,.core (cB z.y.k (nn z.s) z.F) (z.fn++z.y.fB)]
def waF (z:LrS fr tg tc u x):Bool:=(z.s.c.t.holder==4&&(((z.s.c.q.length:Int)==0)||(z.y.s.c.t.epoch==65535)))||(z.y.s.c.q.take z.i).any λa=>a.source==z.s.c.t.holder
def lqV (z:{z:LrS fr tg tc u x //z.i<=z.s.c.q.length}):List V:=[.ptr 8 0,.int .i64 z.1.y.s.c.t.holder,.ptr 13 0,.ptr 17 0,.int .i64 z.1.i]
def akM:Lp (LG fr):=MC (X:={z:LrS fr tg tc u x //z.i<=z.s.c.q.length}) (λz=>z.1.s.c.q.length-z.1.i) 155 18 [6,11,13,14,15] (lqV tg tc u x) (λz=>ai9 tg tc ty u x f n os pre post z.1) (λz=>ai_ tg tc u x z.1) (λ_=>rfl) (λ_=>by kernel_rfl) (λ_=>rfl)
def lwV (z:{z:LrS fr tg tc u x //z.i<=z.y.s.c.q.length}):List V:=[.int .i64 z.1.y.s.c.t.holder,.ptr 13 0,.ptr 17 0,.bool (waF tg tc u x z.1),.int .i64 z.1.i]
def akN:Lp (LG fr):=MC (X:={z:LrS fr tg tc u x //z.i<=z.y.s.c.q.length}) (λz=>z.1.y.s.c.q.length-z.1.i) 155 18 [11,13,14,17,18] (lwV tg tc u x) (λz=>ai9 tg tc ty u x f n os pre post z.1) (λz=>ai_ tg tc u x z.1) (λ_=>rfl) (λ_=>by kernel_rfl) (λ_=>rfl)
def akm:Nat->Option (Lp (LG fr)):=λj=>bif Nat.beq j 0 then some (akK tg tc ty u x f o n c a os pre post)else bif Nat.beq j 2 then some (akL tg tc ty u x f n os pre post)else bif Nat.beq j 4 then some (akM tg tc ty u x f n os pre post)else bif Nat.beq j 6 then some (akN tg tc ty u x f n os pre post)else none
section
variable(K:V->Prop)
def akO (y:LoS fr tg tc u x (bJ 80 n)) (s:Sd.Scene) (F:cz fr (b9 y.k s)) (fB:List aC):Prop:=true=true/\enD (λy=>bJ 80 n-y.j) (loV tg tc u x o n c a) (aki tg tc ty u x f n os pre post) (akj tg tc u x n) y [.ptr 8 0,.ptr 9 0,.je 2 o (bJ 80 n) c a,.int .i64 (i64.wrap ((y.j:Int)+1))] (lwB tg tc ty u x f n os pre post (Wg y.p) y.m y.d y.k s) [.gh u,.core (cB y.k s F) fB]
def akQ (y:LtS fr tg tc u x) (s:Sd.Scene) (F:cz fr (b9 y.k s)) (fB:List aC):Prop:=true=true/\enD (λy=>20-y.j) (ltV tg tc u x) (akk tg tc ty u x f n os pre post) (akl tg tc u x) y [.ptr 8 0,.ptr 9 0,.int .i64 y.s.c.t.holder,.int .i64 (i64.wrap ((y.j:Int)+1))] (lwB tg tc ty u x f n os pre post (Wg y.p) y.m y.d y.k s++[FZ y.jt 1 y.jn y.jg y.ju]) [.gh u,.core (cB y.k s F) fB]
def akn (z:{z:LrS fr tg tc u x //z.i<=z.s.c.q.length}):Prop:=true=true/\enD (λz=>z.1.s.c.q.length-z.1.i) (lqV tg tc u x) (λz=>ai9 tg tc ty u x f n os pre post z.1) (λz=>ai_ tg tc u x z.1) z [.ptr 8 0,.int .i64 z.1.y.s.c.t.holder,.ptr 13 0,.ptr 17 0,.int .i64 (i64.wrap ((z.1.i:Int)+1))] (ai9 tg tc ty u x f n os pre post z.1) (ai_ tg tc u x z.1)
def ako (z:{z:LrS fr tg tc u x //z.i<=z.y.s.c.q.length}) (b:Bool):Prop:=true=true/\enD (λz=>z.1.y.s.c.q.length-z.1.i) (lwV tg tc u x) (λz=>ai9 tg tc ty u x f n os pre post z.1) (λz=>ai_ tg tc u x z.1) z [.int .i64 z.1.y.s.c.t.holder,.ptr 13 0,.ptr 17 0,.bool b,.int .i64 (i64.wrap ((z.1.i:Int)+1))] (ai9 tg tc ty u x f n os pre post z.1) (ai_ tg tc u x z.1)
def aj6 (z:LrS fr tg tc u x):Prop:=cond (z.y.s.c.t.holder==z.y.s.c.t.holder) ((0<=z.y.s.c.t.holder/\z.y.s.c.t.holder<(5:Nat))/\z.y.s.c.t.holder.toNat<5/\cond (!(acx [(cj z.s.c.tab).on 0,(cj z.s.c.tab).on 1,(cj z.s.c.tab).on 2,(cj z.s.c.tab).on 3,(cj z.s.c.tab).on 4] z.y.s.c.t.holder.toNat)) (K (.bool (waF tg tc u x z))) (K (.bool false))) (K (.bool false))
def akp (l:List Sd.Ask) (i:Nat):Prop:=(i:Int).toNat<l.length/\∀j,(sw l j).length=1
def ajm (z:{z:LrS fr tg tc u x //z.i<=z.y.s.c.q.length}):Prop:=cond (decide ((z.1.i:Int)<(z.1.y.s.c.q.length:Int)))
 (cond (waF tg tc u x z.1) (ako tg tc ty u x f n os pre post z true) (We z.1.i z.1.y.s.c.q.length/\akp z.1.y.s.c.q z.1.i/\ako tg tc ty u x f n os pre post z ((z.1.y.s.c.q.getD (z.1.i:Int).toNat default).source==z.1.s.c.t.holder))) (aj6 tg tc u x K z.1)
def aj2 (z:LrS fr tg tc u x) (b:Bool):Prop:=(true=true/\IZ (lwV tg tc u x) (λz=>ai9 tg tc ty u x f n os pre post z.1) (λz=>ai_ tg tc u x z.1) [.int .i64 z.y.s.c.t.holder,.ptr 13 0,.ptr 17 0,.bool b,.int .i64 0] (ai9 tg tc ty u x f n os pre post z) (ai_ tg tc u x z))/\∀(z6:{z:LrS fr tg tc u x //z.i<=z.y.s.c.q.length}) (g:Nat->Value),ajm tg tc ty u x f n os pre post K z6
def ajn (z:{z:LrS fr tg tc u x //z.i<=z.s.c.q.length}):Prop:=cond (decide ((z.1.i:Int)<(z.1.s.c.q.length:Int)))
 (We z.1.i z.1.s.c.q.length/\akp z.1.s.c.q z.1.i/\cond (z.1.s.c.t.holder !=4) (cond (!(Sd.cp (nP (jY 4 (Wg z.1.y.p) z.1.y.m z.1.y.d) zkF) z.1.s.c.t.holder (z.1.s.c.q.getD (z.1.i:Int).toNat default).source)) (K (.bool false)) (akn tg tc ty u x f n os pre post z)) (akn tg tc ty u x f n os pre post z))
 (cond (z.1.s.c.t.holder==4) (cond ((z.1.s.c.q.length:Int)==0) (aj2 tg tc ty u x f n os pre post K z.1 true) (aj2 tg tc ty u x f n os pre post K z.1 (z.1.y.s.c.t.epoch==65535))) (aj2 tg tc ty u x f n os pre post K z.1 false))
def akS (y:LtS fr tg tc u x) (s2:Sd.Scene) (r2:TR) (fn2:List aC) (F2:cz fr (b9 y.k (nn s2))) (z1:Option Addr) (c1 t1:Nat) (u1:List Value) (z3:Option Addr) (c3 t3:Nat) (u3:List Value):Prop:=true=true/\IZ (lqV tg tc u x) (λz=>ai9 tg tc ty u x f n os pre post z.1) (λz=>ai_ tg tc u x z.1) [.ptr 8 0,.int .i64 y.s.c.t.holder,.ptr 13 0,.ptr 17 0,.int .i64 0]
 (lwB tg tc ty u x f n os pre post (Wg y.p) y.m y.d y.k (nn s2)++[FZ y.jt 1 y.jn y.jg y.ju,FZ t1 1 y.s.c.q.length (sw y.s.c.q) u1,⟨true,⟨44,(0,0)⟩,ot y.s (.je 12 0 y.s.c.q.length c1 z1)⟩,r2.sB s2,r2.rB s2,FZ t3 1 s2.c.q.length (sw s2.c.q) u3,⟨true,⟨44,(0,0)⟩,ot s2 (.je 16 0 s2.c.q.length c3 z3)⟩]) [.gh u,.core (cB y.k (nn s2) F2) (fn2++y.fB)]
def ajo (y:LtS fr tg tc u x):Prop:=cond (decide ((y.j:Int)<i64.wrap (Wg y.p 42+Wg y.p 43))) (Dk tg tc 10 y.k y.s/\∀(z1:Option Addr) (c1 t1:Nat) (u1:List Value),Dk tg tc 10 y.k y.s/\CoA y.k y.s y.F/\afu (fr:=fr) (k:=y.k) ((du y.s).tick C) λs2 r2 fn2 F2=>
 Dk tg tc 10 y.k (nn s2)/\∀(z3:Option Addr) (c3 t3:Nat) (u3:List Value),cond (s2.c.t.holder==y.s.c.t.holder) (akQ tg tc ty u x f n os pre post y (nn s2) F2 (fn2++y.fB))
  (akS tg tc ty u x f n os pre post y s2 r2 fn2 F2 z1 c1 t1 u1 z3 c3 t3 u3/\∀(z:{z:LrS fr tg tc u x //z.i<=z.s.c.q.length}) (g:Nat->Value),ajn tg tc ty u x f n os pre post K z)) (K (.bool false))
def ajP (y:LoS fr tg tc u x (bJ 80 n)):Prop:=
 let N:=bJ 80 n
 let j:=(y.j:Int).toNat
 cond (decide ((y.j:Int)<(N:Nat))) (We y.j N/\opP o n os pre y.j/\Dk tg tc 10 y.k y.s/\(CoA y.k y.s y.F/\wc y.k/\eE u (os j).x (os j).n (os j).c (dt u (os j).x))/\afu (fr:=fr) (k:=y.k) (lE C u (du y.s) (os j)) λs2 r2 fn2 F2=>akO tg tc ty u x f o n c a os pre post y (nn s2) F2 (fn2++y.fB))
 (Dk tg tc 10 y.k y.s/\∀(z1:Option Addr) (c1 t1:Nat) (u1:List Value),cond (y.s.c.t.holder==4) (K (.bool true))
  ((true=true/\IZ (ltV tg tc u x) (akk tg tc ty u x f n os pre post) (akl tg tc u x) [.ptr 8 0,.ptr 9 0,.int .i64 y.s.c.t.holder,.int .i64 0] (lwB tg tc ty u x f n os pre post (Wg y.p) y.m y.d y.k y.s++[FZ t1 1 y.s.c.q.length (sw y.s.c.q) u1]) [.gh u,.core (cB y.k y.s y.F) y.fB])/\
    ∀(y2:LtS fr tg tc u x) (g:Nat->Value),ajo C tg tc ty u x f n os pre post K y2))
def loX:Prop:=(false=false/\(jP tg).c=(jP tg).c/\false=false/\(pD tc).c=(pD tc).c)/\rdA x u/\∀(p:Nat->Int) (m d:Nat->Nat) (hM:Made x p m),
 yc (jY 4 (Wg p) m d) (n4 m)/\∀(p2:Sd.Pol) (k:LK) (F:cz fr (b9 k (iM p2))) (hN:Gg (jY 4 (Wg p) m d) (Dj x u) tg tc p2 k) (v1:cJ=F.vs) (v2:cJ=F.vr),n<=c/\
  (true=true/\IZ (loV tg tc u x o n c a) (aki (fr:=fr) tg tc ty u x f n os pre post) (akj tg tc u x n) [.ptr 8 0,.ptr 9 0,.je 2 o (bJ 80 n) c a,.int .i64 0] (lwB tg tc ty u x f n os pre post (Wg p) m d k (iM p2)) [.gh u,.core (cB k (iM p2) F) []])/\
  ∀(y:LoS fr tg tc u x (bJ 80 n)) (g:Nat->Value),ajP C tg tc ty u x f o n c a os pre post K y
theorem akB:c_ (DE prog gS (LLo fr C) (akm (fr:=fr) tg tc ty u x f o n c a os pre post)) 60 4 [.agg [.jS ⟨x.q,f⟩ x.ka x.kn x.kc],.je 2 o n c a] [jP tg,pD tc,QO ty n os pre post] [.gh u] (λv _ _=>K v)=loX (fr:=fr) C tg tc ty u x f o n c a os pre post K:=by kernel_rfl
end
end
theorem higher_p {p p':Sd.Pol} (h:p'.i=p.i) (a b:Int):Sd.cp p' a b=Sd.cp p a b:=by unfold Sd.cp Sd.placeOf;rw[h]
theorem aj7 {p:Nat->Int} {i:Nat} (h1:i≠42) (h2:i≠43):Wg p i=p i:=by
 unfold Wg;have b1:Nat.beq i 42=false:=by cases h:Nat.beq i 42 with|false=>rfl|true=>exact absurd (Nat.eq_of_beq_eq_true h) h1
 have b2:Nat.beq i 43=false:=by cases h:Nat.beq i 43 with|false=>rfl|true=>exact absurd (Nat.eq_of_beq_eq_true h) h2
 rw[b1,b2];rfl
theorem aj8 {a:Int} (h:1<=a/\a<=1000):1<=i64.wrap (1+a.tmod 8)/\i64.wrap (1+a.tmod 8)<=8:=by
 rw[Int.tmod_eq_emod_of_nonneg (by omega),nH (by omega)];omega
theorem aj9 {p:Nat->Int} {o1 o2 o3:Int} {q:Nat->Int} (h:Gi p o1 o2 o3 q):(1<=Wg p 42/\Wg p 42<=8)/\1<=Wg p 43/\Wg p 43<=8:=⟨aj8 (h.ti 42 (by decide) (by decide)),aj8 (h.ti 43 (by decide) (by decide))⟩
theorem Gi.lost {p:Nat->Int} {o1 o2 o3:Int} {q:Nat->Int} (h:Gi p o1 o2 o3 q):Gi (Wg p) o1 o2 o3 q:=by
 refine⟨λi hi=>by rw[aj7 (by omega) (by omega)];exact h.lo i hi,λi h1 h2=>?_⟩;have hb:=aj9 h;by_cases e1:i=42
 ·subst e1;omega
 by_cases e2:i=43
 ·subst e2;omega
 rw[aj7 e1 e2];exact h.ti i h1 h2
section
variable{tg tc:TypeId} {ty:BT} {u:World} {x:nW} {f:Nat->Nat×Sd.Byt} {o n c:Nat} {a:Option Addr} {os:Nat->AI} {pre post:List Value} {K:V->Prop}
theorem LoS.Dm (y:LoS fr tg tc u x n) {s:Sd.Scene} (h:s.c.p=y.p2):Dk tg tc 10 y.k s:=Go.Proofs.YtlkpikfddnjilaaGreatDoor.Dm y.hN.tg y.hN.tc (by rw[h];exact y.hN.most.symm)
theorem LtS.Dm (y:LtS fr tg tc u x) {s:Sd.Scene} (h:s.c.p=y.p2):Dk tg tc 10 y.k s:=Go.Proofs.YtlkpikfddnjilaaGreatDoor.Dm y.hN.tg y.hN.tc (by rw[h];exact y.hN.most.symm)
theorem LtS.jS (y:LtS fr tg tc u x):(nP (jY 4 (Wg y.p) y.m y.d) zkF).i=y.p2.i:=by rw[y.hN.eq];rfl
theorem LtS.bl (y:LtS fr tg tc u x):y.p2.i 42=Wg y.p 42/\y.p2.i 43=Wg y.p 43:=by
 rw[<-y.jS];exact⟨QC 4 (Wg y.p) y.m y.d (i:=42) (by decide) rfl,QC 4 (Wg y.p) y.m y.d (i:=43) (by decide) rfl⟩
theorem ajQ {l:List Sd.Ask} {i:Nat} (h:i<l.length):akp l i:=⟨by omega,λj=>rfl⟩
theorem aj3 {l:List Sd.Ask} {j:Nat} (h:j<l.length):l.getD j default∈l:=by
 rw[List.getD_eq_getElem?_getD,List.getElem?_eq_getElem h];exact List.getElem_mem h
theorem ajR {l:List Sd.Ask} {j:Nat} (h:j<l.length):l.take (j+1)=l.take j++[l.getD j default]:=by
 rw[List.take_add_one,List.getD_eq_getElem?_getD,List.getElem?_eq_getElem h];rfl
theorem aj4 {z:LrS fr tg tc u x} (h:z.i<z.y.s.c.q.length):waF tg tc u x {z with i:=z.i+1}=(waF tg tc u x z||((z.y.s.c.q.getD z.i default).source==z.s.c.t.holder)):=by
 unfold waF;dsimp only;rw[ajR h,List.any_append];simp only[List.any_cons,List.any_nil,Bool.or_false,Bool.or_assoc]
theorem akq {z:LrS fr tg tc u x} (h:z.y.s.c.q.length<=z.i):waF tg tc u x z=true:=by
 unfold waF;rw[List.take_of_length_le h];rcases z.hW.waited with⟨h1,h2⟩|⟨a,ha,h3⟩
 ·rw[h1];rcases h2 with h2|h2
  ·rw[h2];simp
  ·rw[h2];simp
 ·rw[Bool.or_eq_true];exact .inr (List.any_eq_true.2 ⟨a,ha,by simpa using h3⟩)
theorem ajr (z:{z:LrS fr tg tc u x //z.i<=z.y.s.c.q.length}) (h:z.1.i<z.1.y.s.c.q.length) {b:Bool} (hb:waF tg tc u x {z.1 with i:=z.1.i+1}=b):ako tg tc ty u x f n os pre post z b:=by
 have hq:=z.1.hq;refine⟨rfl,⟨{z.1 with i:=z.1.i+1},h⟩,by show z.1.y.s.c.q.length-(z.1.i+1)<z.1.y.s.c.q.length-z.1.i;omega,?_,rfl,rfl⟩;rw[nH (by omega),<-hb];rfl
theorem akC (z:{z:LrS fr tg tc u x //z.i<=z.y.s.c.q.length}) (hK:K (.bool true)):ajm tg tc ty u x f n os pre post K z:=by
 have hh:=z.1.hh;unfold ajm;refine aS (λe=>?_) (λe=>?_)
 ·have im:z.1.i<z.1.y.s.c.q.length:=by simpa using e
  have hw:=aj4 im;rw[show((z.1.i:Int)).toNat=z.1.i from Int.toNat_natCast _];refine aS (λe1=>?_) (λe1=>⟨Gq im,ajQ im,?_⟩)
  ·exact ajr z im (by rw[hw,e1,Bool.true_or])
  ·exact ajr z im (by rw[hw,e1,Bool.false_or])
 ·have rC:z.1.y.s.c.q.length<=z.1.i:=by have:¬z.1.i<z.1.y.s.c.q.length:=by simpa using e
                                        omega
  unfold aj6;have akT:acx [(cj z.1.s.c.tab).on 0,(cj z.1.s.c.tab).on 1,(cj z.1.s.c.tab).on 2,(cj z.1.s.c.tab).on 3,(cj z.1.s.c.tab).on 4] z.1.y.s.c.t.holder.toNat=false:=by
   have:=aje z.1.s z.1.y.s.c.t.holder hh;rw[z.1.hW.off]at this;exact this
  rw[akT,akq rC,beq_self_eq_true];exact⟨⟨hh.1,by omega⟩,by omega,hK⟩
theorem aja (z:LrS fr tg tc u x) {b:Bool} (hb:waF tg tc u x {z with i:=0}=b) (hK:K (.bool true)):aj2 tg tc ty u x f n os pre post K z b:=by
 refine⟨⟨rfl,⟨{z with i:=0},Nat.zero_le _⟩,?_,rfl,rfl⟩,λz6 g=>akC z6 hK⟩;rw[<-hb];rfl
theorem akD (z:{z:LrS fr tg tc u x //z.i<=z.s.c.q.length}) (hK:K (.bool true)):ajn tg tc ty u x f n os pre post K z:=by
 have hq:=z.1.hq;unfold ajn;refine aS (λe=>?_) (λe=>?_)
 ·have im:z.1.i<z.1.s.c.q.length:=by simpa using e
  have hE:akn tg tc ty u x f n os pre post z:=by
   refine⟨rfl,⟨{z.1 with i:=z.1.i+1},im⟩,by show z.1.s.c.q.length-(z.1.i+1)<z.1.s.c.q.length-z.1.i;omega,?_,rfl,rfl⟩;rw[nH (by omega)];rfl
  rw[show((z.1.i:Int)).toNat=z.1.i from Int.toNat_natCast _];refine⟨Gq im,ajQ im,aS (λe4=>aS (λe5=>?_) (λ_=>hE)) (λ_=>hE)⟩;exfalso;rw[higher_p z.1.y.jS]at e5;rcases z.1.hW.aks _ (aj3 im)with h|h
  ·rw[h]at e4;simp at e4
  ·rw[z.1.y.hp]at h;rw[h]at e5;simp at e5
 ·refine aS (λe4=>aS (λe0=>?_) (λe0=>?_)) (λe4=>?_)
  ·exact aja z.1 (by simp[waF,e4,e0]) hK
  ·exact aja z.1 (by simp[waF,e4,e0]) hK
  ·exact aja z.1 (by simp[waF,e4]) hK
theorem akE (y:LtS fr tg tc u x) (hK:K (.bool true)):ajo (aq cu) tg tc ty u x f n os pre post K y:=by
 have hb:=y.bl;have hB:=aj9 y.hM.I;have hbd:=Sd.abT y.hC.i y.h4;have hl:=y.hl;have hw:i64.wrap (Wg y.p 42+Wg y.p 43)=Wg y.p 42+Wg y.p 43:=nH (by omega);unfold ajo;rw[hw];refine aS (λe=>?_) (λe=>?_)
 ·refine⟨y.Dm y.hp,λz1 c1 t1 u1=>⟨y.Dm y.hp,coA y.hC y.v1 y.v2,?_⟩⟩;rintro s2 KM r2 fn2 F2 q1 q2 -
  rw[lX]at KM;have hj:(y.j:Int)<Wg y.p 42+Wg y.p 43:=by simpa using e
  have hys:y.s=⟨y.s.c,[],[]⟩:=(QX y.hC.e1 y.hC.e2).symm;have GN:s2.c=Sd.afv (aq cu) y.s.c:=by
   rw[KM];show(y.s.tick (aq cu)).c=_;rw[hys];rfl
  obtain⟨hi,KU,hs⟩:=Sd.ajt (C:=aq cu) y.hC.i y.h4;rw[<-GN]at hi KU hs;have hC2:bo y.k (nn s2):=by rw[KM];exact y.hC.tick
  have akr:s2.c.p=y.p2:=by rw[KU];exact y.hp
  refine⟨y.Dm akr,λz3 c3 t3 u3=>aS (λe=>?_) (λe=>?_)⟩
  ·have hh:s2.c.t.holder=y.s.c.t.holder:=by simpa using e
   rcases hs with⟨_,hs⟩|⟨hs,_⟩
   ·have h42:(nn s2).c.t.holder≠4:=by show s2.c.t.holder≠4;rw[hh];exact y.h4
    refine⟨rfl,⟨y.p,y.m,y.d,y.hM,y.p2,y.k,y.hN,y.j+1,nn s2,F2,fn2++y.fB,hC2,akr,q1,q2,h42,by show Sd.fO s2.c+((y.j+1:Nat):Int)<=_;omega,y.jt,y.jn,y.jg,y.ju⟩,by show 20-(y.j+1)<20-y.j;omega,?_,rfl,rfl⟩;rw[nH (by omega)];show[V.ptr 8 0,V.ptr 9 0,V.int .i64 y.s.c.t.holder,V.int .i64 ((y.j:Int)+1)]=[V.ptr 8 0,V.ptr 9 0,V.int .i64 s2.c.t.holder,V.int .i64 ((y.j+1:Nat):Int)];rw[hh];rfl
   ·exact absurd hh hs
  ·have hh:s2.c.t.holder≠y.s.c.t.holder:=by simpa using e
   rcases hs with⟨hs,_⟩|⟨_,hW⟩
   ·exact absurd hs hh
   ·have hq1:y.s.c.q.length<=3:=by have:=y.hC.i.q.len;have:=y.hC.i.p.queue;omega
    have hq2:s2.c.q.length<=3:=by have:=hi.q.len;have:=hi.p.queue;omega
    exact⟨⟨rfl,⟨⟨y,s2,r2,fn2,F2,hW,akr,⟨hq1,hq2⟩,y.hC.i.tok.holder,z1,c1,t1,u1,z3,c3,t3,u3,0⟩,Nat.zero_le _⟩,rfl,rfl,rfl⟩,λz g=>akD z hK⟩
 ·have hj:¬(y.j:Int)<Wg y.p 42+Wg y.p 43:=by simpa using e
  exfalso;omega
theorem akF (hr:rdA x u) (hn:n<=c) (ho:∀j,j<n->o=pre.length) (hO:QY u os n) (hK:K (.bool true)):loX (fr:=fr) (aq cu) tg tc ty u x f o n c a os pre post K:=by
 refine⟨⟨rfl,rfl,rfl,rfl⟩,hr,λp m d hM=>?_⟩;have hb:∀j,j<4->1<=m j/\m j<=64:=λj hj=>by rw[hM.n j];exact Qi _
 obtain⟨h1,h2⟩:=QI (m:=4) (d:=d) hM.I.lost hM.o hb;have h1':yc (jY 4 (Wg p) m d) (n4 m):=⟨h1.code,λj hj=>by
  rw[<-h1.n j hj]
  match j,hj with
  |0,_=>rfl
  |1,_=>rfl
  |2,_=>rfl
  |3,_=>rfl
  |j+4,h=>exact absurd h (by omega),h1.k⟩
 refine⟨h1',λp2 k F hN v1 v2=>?_⟩;have hC0:bo k (iM p2):=QJ hN (h2 _) (λj hj=>by rw[wo _ _ _ _ hj];exact hb j hj);refine⟨hn,⟨rfl,⟨p,m,d,hM,p2,k,hN,0,Nat.zero_le _,iM p2,F,[],hC0,rfl,v1,v2⟩,rfl,rfl,rfl⟩,?_⟩;intro y g;unfold ajP;dsimp only;refine aS (λe=>?_) (λe=>?_)
 ·have im:y.j<bJ 80 n:=by simpa using e
  have hln:y.j<n:=by unfold bJ at im;omega
  have ho:=ho y.j hln;have hjj:((y.j:Int)).toNat=y.j:=Int.toNat_natCast _;refine⟨Gq im,QZ ho hln,y.Dm y.hp,⟨coA y.hC y.v1 y.v2,y.hN.Fw,by rw[hjj];exact hO.rd _ hln⟩,?_⟩;rintro s2 KM r2 fn2 F2 q1 q2 -
  rw[lX,hjj]at KM;have hC2:bo y.k (nn s2):=by rw[KM];exact y.hC.step u _ (hO.x4 _)
  have KU:s2.c.p=y.p2:=by rw[KM,abV y.hC];exact y.hp
  refine⟨rfl,⟨y.p,y.m,y.d,y.hM,y.p2,y.k,y.hN,y.j+1,by omega,nn s2,F2,fn2++y.fB,hC2,KU,q1,q2⟩,by show bJ 80 n-(y.j+1)<bJ 80 n-y.j;omega,?_,rfl,rfl⟩;have:bJ 80 n<=80:=by unfold bJ;omega
  rw[nH (by omega)];rfl
 ·refine⟨y.Dm y.hp,λz1 c1 t1 u1=>aS (λ_=>hK) (λe4=>?_)⟩;have h4:y.s.c.t.holder≠4:=by simpa using e4
  have hbd:=Sd.abT y.hC.i h4;rw[y.hp]at hbd;have Sa:Sd.fO y.s.c+((0:Nat):Int)<=y.p2.i 42+y.p2.i 43-1:=by
   have h:Sd.fO y.s.c<=y.p2.i 42+y.p2.i 43-1:=hbd.2;omega
  exact⟨⟨rfl,⟨y.p,y.m,y.d,y.hM,y.p2,y.k,y.hN,0,y.s,y.F,y.fB,y.hC,y.hp,y.v1,y.v2,h4,Sa,t1,y.s.c.q.length,sw y.s.c.q,u1⟩,rfl,rfl,rfl⟩,λy2 g=>akE y2 hK⟩
end
theorem akH {W:World} {tg tc:TypeId} (hG:W.heap[0]?=some (.cells (aj .u32 64 aT) tg (0,0))) (hC:W.heap[2]?=some (.cells #[.bool false,.bool false,.bool false,.bool false,.bool false,.bool false,.bool false,.bool false,.bool false,.bool false,.bool true,.bool true] tc (0,0)))
 (q:Nat->Int) (ka:Nat->Option Addr) (kn kc:Nat->Nat) (hr:∀j,j<4->eE W (ka j) (kn j) (kc j) (dt W (ka j))) {v:Value} {os:Nat->AI} {i o n c:Nat} {a:Option Addr} {ty:BT} {pre post:List Value} (hR:s9 W v 11 (Wb os) i o n c a ty pre post) (hO:QY W os n):
 au prog 4 #[.agg (ta ⟨q,λ_=>(0,λ_=>0)⟩ ka kn kc).toArray,v] W λv w1=>v=.bool true/\Ch [] W w1:=by
 have S:=acg (fr:=Il) hG hC (i:=i) (b:=QO ty n os pre post) rfl rfl (by
  rw[hR.at_];simp only[QO,ai,cl,List.append_nil])
 have fW:c_ (DE prog gS (LLo Il (aq cu)) (akm (fr:=Il) tg tc ty W ⟨q,ka,kn,kc⟩ (λ_=>(0,λ_=>0)) o n c a os pre post)) 60 4 [.agg [.jS ⟨q,λ_=>(0,λ_=>0)⟩ ka kn kc],.je 2 o n c a] [jP tg,pD tc,QO ty n os pre post] [.gh W] (λv _ _=>v=.bool true):=by
  rw[akB (x:=⟨q,ka,kn,kc⟩)];exact akF ⟨hr 0 (by decide),hr 1 (by decide),hr 2 (by decide),hr 3 (by decide)⟩ hR.le hR.po hO rfl
 have ca:(az [0,2,i] [.agg [.jS ⟨q,λ_=>(0,λ_=>0)⟩ ka kn kc],.je 2 o n c a]).toArray=#[.agg (ta ⟨q,λ_=>(0,λ_=>0)⟩ ka kn kc).toArray,v]:=by
  rw[hR.v];simp only[az,den,ai,cl,List.append_nil];rfl
 have yq:ao prog gS (LLo Il (aq cu)):=ao.cons ⟨ajz,λ_=>ajA⟩ (Ib yg);rw[<-ca];refine(bW (C:=DE prog gS (LLo Il (aq cu)) (akm (fr:=Il) tg tc ty W ⟨q,ka,kn,kc⟩ (λ_=>(0,λ_=>0)) o n c a os pre post)) (_root_.Go.Proofs.YtlkpikfddnjilaaGreatDoor.ao.TL yq) (_root_.Go.Proofs.YtlkpikfddnjilaaGreatDoor.ao.QL yq) 60 (ach i) rfl S fW).mono ?_;rintro v w' ⟨x,more,bl',ch',rfl,h1,S',rfl⟩;exact⟨rfl,S'.ch⟩
end Go.Proofs.YtlkpikfddnjilaaGreatDoor
namespace Go.Proofs.YtlkpikfddnjilaaGreatDoor.coreLost
open Go.ChangeShapes Go.WideShapes Go.ChangeAt Go.RowKit Go.Joins Sd Sx
theorem opened (H:Type) (enc:TypeId×Value->H) (W:World) (args:Array Value) (ds gs:List (DataW H)) (before:List MemPlace)
 (Rh:∀(j:Nat) t v,Tryz.f4.params[j]?=some t->args[j]?=some v->Value.okWide prog W .any 0 t v)
 (hW:DataW.Whole enc prog Tryz.f4.params.toList Rows.coreLostSpec.vars false W args.toList ds gs before) (hL:laidMetH prog Q8 W):
 Rows.coreLostSpec.fn H (ds++gs)={results:=[.lit (.bool true)],args:=ds,vars:=[]}/\Calls prog 4 args W λe W'=>e=.returned (.bool true)/\Below W.heap.size W W':=by
 obtain⟨p,q,hA,hV,rfl,XR,Ry⟩:=hW;obtain⟨tG,hG⟩:=Q9 hL;obtain⟨tC,hC⟩:=Wv hL;rw[Tryz.params4]at hA Rh;obtain⟨v0,v1,d0,d1,p0,p1,ca,rfl,_,ht0,ht1⟩:=trodAll_two hA;obtain rfl:args=#[v0,v1]:=by cases args;simp_all
 obtain⟨rfl,rfl⟩:=trodVars_none hV;obtain⟨pq,ka,kn,kc,rfl,hk⟩:=KD (Rh 0 28 v0 rfl rfl) (λn=>by obtain⟨fuel,h⟩:=ht0;exact Sx.jQ n h);have gb:=Dx Tryz.underlying29 rfl (Rh 1 29 v1 rfl rfl);have hrd:∀k,Sx.Rd prog W k 29 [v1]:=λk=>by
  obtain⟨a,m,c,rfl,_,_⟩:=pF Tryz.underlying29 gb;obtain⟨fuel,h2⟩:=ht1;exact Sx.jQ k h2
 obtain⟨os,i,o,n,c,a,ty,pre,post,hR,hO⟩:=Rg gb hrd hG;exact⟨rfl,Sx.Iv (akH hG hC pq ka kn kc hk hR hO)⟩
theorem own:ownKnob prog.godebug=none:=by kernel_rfl
def Is:List (String×DataW Unit):=[("sidestick/gate.commands",Rows.laid_sidestick_gate_commands),("sidestick/sha.roots",Rows.laid_sidestick_sha_roots)]
theorem Ri (os:Os) (args:Array Value):laidMetH prog Is ((World.doorLaid prog 400 os).forCall (λ_ _=>0) ⟨#[],args,[]⟩).memory:=
 laidMetH_of_parts3 (fuel:=8) (laidMet_of_run' 8 (by kernel_rfl) (by kernel_rfl)) (by kernel_rfl) (by kernel_rfl)
theorem lifted (os:Os) (started:os.Started) (H:Type) (enc:TypeId×Value->H):
 ReturnsInHanded {} Tryz.checked os 4 .any (λw args=>(Rows.coreLostSpec.pre enc prog Tryz.f4 [] false w args/\laidMetH prog Is w)/\sizedMet enc prog Tryz.f4 (OpenSpec.ofChange Rows.coreLostSpec) false w args)
  (Rows.coreLostSpec.post enc prog Tryz.f4 false true false false):=by
 refine returnsInHanded_of_change_and (C:=Tryz.checked) (X:=λw _=>laidMetH prog Is w) (λ_ _ _ hh h=>h.of_heap hh) own started (by kernel_rfl) Tryz.func4
  (ChangeSpec.witness_shaped (enc:=enc) (C:=Tryz.checked) (os:=os) (X:=λw _=>laidMetH prog Is w) false (World.doorLaid prog 400 os) #[.agg #[.int .i64 0,.int .i64 0,.int .i64 0,.int .i64 0,.int .i64 0,.slice none 0 0,.slice none 0 0,.slice none 0 0,.slice none 0 0,.int .i64 0,.int .i64 0,.int .i64 0,.int .i64 0,.int .i64 0,.int .i64 0,.int .i64 0,.int .i64 0,.int .i64 0,.int .i64 0,.int .i64 0,.int .i64 0,.int .i64 0,.int .i64 0,.int .i64 0,.int .i64 0,.int .i64 0,.int .i64 0,.int .i64 0,.int .i64 0,.int .i64 0,.int .i64 0,.int .i64 0,.int .i64 0,.int .i64 0,.int .i64 0,.int .i64 0,.int .i64 0,.int .i64 0,.int .i64 0,.int .i64 0,.int .i64 0,.int .i64 0,.int .i64 0,.int .i64 0,.int .i64 0,.int .i64 0,.int .i64 0,.int .i64 0,.int .i64 0,.int .i64 0,.int .i64 0,.int .i64 0,.int .i64 0,.int .i64 0,.int .i64 0,.int .i64 0],.slice none 0 0] 8 rfl (World.shaped_of_RefB (by kernel_rfl) (by kernel_rfl)) (by kernel_rfl) (by kernel_rfl) (by kernel_rfl) (Ri os _)) ?_
 intro W base args ds gs before Rh hW _ _ hL _;obtain⟨hs,hc⟩:=opened H enc W args ds gs before Rh hW hL;refine hc.mono λe W' ⟨he,hb⟩=>⟨_,he,?_⟩;exact Q_ (by kernel_rfl) (by kernel_rfl) rfl (by kernel_rfl) Tryz.underlying4 hs hW hb
end Go.Proofs.YtlkpikfddnjilaaGreatDoor.coreLost
namespace Go.Proofs.YtlkpikfddnjilaaGreatDoor.coreLost
theorem closed:joinedFacts Tryz.pinned.checked.prog 4 Tryz.f4 Rows.coreLostSpec Rows.coreLostRow=true:=by kernel_rfl
open Go.ChangeShapes Go.WideShapes Go.ChangeAt Go.RowKit Go.Joins Sd Sx
theorem said:Rows.CoreLostSaid:=
 OpenClaim.holds_of_wide 4 Tryz.f4 rfl rfl rfl rfl rfl rfl rfl ⟨rfl,rfl,rfl,rfl,rfl⟩ rfl rfl rfl rfl rfl (by kernel_rfl) Tryz.func4 closed
  (of_decide_eq_true (by kernel_rfl)) (by unfold Func.isWrapper;first|(rw[if_pos (by decide+kernel)];kernel_rfl)|(rw[if_neg (by decide+kernel)];exact⟨rfl,rfl⟩))
  (λos started H enc _=>lifted os started H enc)
theorem proved:Rows.CoreLostCardSaid:=
 Claim7.holds_tied_plain_at .later [] [.data,.data] true Rows.coreLostCard.stood.harness true
  said (λ_ h=>by cases h) (by kernel_rfl) (λ_ h=>by cases h) coreLost_row_tie rfl ⟨rfl,rfl⟩ (by kernel_rfl) rfl
  (λf fn hf hfn=>by
   obtain rfl:f=4:=Option.some.inj ((show prog.funcNamed "sidestick/sidesticklaw24.CoreLost" =some 4 by kernel_rfl).symm.trans hf)|>.symm;obtain rfl:fn=Tryz.f4:=(Option.some.inj (Tryz.func4.symm.trans hfn)).symm;exact⟨by kernel_rfl,λj t ht=>by
    have dc:(Tryz.f4.params.toList.all λu=>!prog.wantsStandIn u)=true:=by kernel_rfl
    have hm:t∈Tryz.f4.params.toList:=by simpa using Array.mem_of_getElem? ht
    exact(show prog.wantsStandIn t=false by simpa using List.all_eq_true.1 dc t hm)⟩)
  (by kernel_rfl)
end Go.Proofs.YtlkpikfddnjilaaGreatDoor.coreLost
