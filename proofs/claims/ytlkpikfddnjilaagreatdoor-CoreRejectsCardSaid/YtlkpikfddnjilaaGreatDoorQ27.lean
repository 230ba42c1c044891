/- CoreRejects: whichever policy and calls, the law returns true. Every input; no condition. The tied card. -/
import Derived.Test.YtlkpikfddnjilaaGreatDoorRows
import Derived.ProofKit
import Derived.OpenShut
import Derived.FnData
import Derived.MakeChecks
import Derived.Stop.Joined
import Derived.WalkKit
import Derived.Below
import Derived.BigQuiet
import Derived.WalkSpells
import Derived.Lib.Hide
import Derived.Laws.CopyOwn
import Derived.Carry
import Derived.Test.YtlkpikfddnjilaaGreatDoorCards
import Derived.Test.YtlkpikfddnjilaaGreatDoorTie
import Derived.Lib.SmallJoins
import Derived.SevenTiedAt
import Derived.LaidMore
import Derived.Test.YtlkpikfddnjilaaGreatDoorQ25
import Derived.Test.YtlkpikfddnjilaaGreatDoorQ26
set_option linter.all false
set_option maxRecDepth 100000
set_option maxHeartbeats 4000000
namespace Sx
open Go Go.RowKit Go.BigFrame
theorem St.afU {w:World} {bs:List aC} (h:∀y∈bs,y.wr=false∧w.heap[y.id]?=some y.obj):St [] w bs w:=by
 refine St.mk' (Ch.refl _ _) (fun y hy=>(h y hy).2) (fun y hy e=>by rw[(h y hy).1]at e;cases e) ?_;refine List.pairwise_of_forall_mem_list (fun x hx y hy hc=>?_);rcases hc with hc|hc
 ·rw[(h x hx).1]at hc;cases hc
 ·rw[(h y hy).1]at hc;cases hc
end Sx
namespace Go.Proofs.YtlkpikfddnjilaaGreatDoor
open Go Go.RowKit Go.BigFrame Go.WideShapes Sx Vx
theorem acf (u:World):∀y∈fu u,y.wr=false∧u.heap[y.id]?=some y.obj:=by
 intro y hy;unfold fu at hy;rw[List.mem_map]at hy;obtain⟨⟨o,i⟩,hp,rfl⟩:=hy;refine⟨rfl,?_⟩;rw[List.mk_mem_zipIdx_iff_getElem?]at hp;simpa using hp
theorem wx {cs:List Value} {off z:Nat} (g:Nat→List Value) (hz:∀j,(g j).length=z):∀n,(∀k,k<n→∀j,j<z→cs[off+k*z+j]?=(g k)[j]?)→cs.drop off=(List.range n).flatMap g++cs.drop (off+n*z)
 |0,_=>by simp
 |n+1,h=>by
  rw[wx g hz n (fun k hk=>h k (by omega)),List.range_succ,List.flatMap_append,List.append_assoc];congr 1;have e:(cs.drop (off+n*z)).take z=g n:=by
   apply List.ext_getElem?;intro j;by_cases hj:j<z
   ·rw[List.getElem?_take_of_lt hj,List.getElem?_drop];exact h n (by omega) j hj
   ·rw[List.getElem?_eq_none (by simp;omega),List.getElem?_eq_none (by rw[hz];omega)]
  have e2:=List.take_append_drop z (cs.drop (off+n*z));rw[e,List.drop_drop]at e2;rw[List.flatMap_cons,List.flatMap_nil,List.append_nil,←e2];congr 2;rw[Nat.add_mul];omega
structure s9 (W:World) (v:Value) (z:Nat) (g:Nat→List Value) (i o n c:Nat) (a:Option Addr) (ty:BT) (pre post:List Value):Prop where
 v:v=.slice (bif Nat.beq n 0 then a else some ⟨i,o,none⟩) n c
 le:n≤c
 po:∀j,j<n→o=pre.length
 at_:W.heap[i]?=some (.cells (pre++((List.range n).flatMap g++post)).toArray ty.t ty.fz)
theorem s9.nil {W:World} {z:Nat} {g:Nat→List Value} {cs:Array Value} {t:TypeId} {f:Nat×Nat} (h:W.heap[0]?=some (.cells cs t f)):s9 W (.slice none 0 0) z g 0 0 0 0 none ⟨t,f⟩ [] cs.toList:=
 ⟨rfl,Nat.le_refl _,(fun j hj=>absurd hj (by omega)),by simpa using h⟩
theorem s9.some {W:World} {z b o n c:Nat} {g:Nat→List Value} {cs:Array Value} {t:TypeId} {f:Nat×Nat} (hle:n≤c) (hz:∀j,(g j).length=z) (cD:W.heap[b]?=some (.cells cs t f)) (h:∀k,k<n→∀j,j<z→W.cell? ⟨b,o+k*z+j,none⟩=(g k)[j]?) (hp:0<z):
 ∃pre post,s9 W (.slice (some ⟨b,o,none⟩) n c) z g b o n c (some ⟨b,o,none⟩) ⟨t,f⟩ pre post:=by
 have hc:∀k,k<n→∀j,j<z→cs.toList[o+k*z+j]?=(g k)[j]?:=fun k hk j hj=>by
  have:=h k hk j hj;rw[cell_of cD]at this;simpa using this
 have hs:=wx g hz n hc;by_cases hn:n=0
 ·subst hn;exact⟨[],cs.toList,by cases Nat.beq 0 0<;>rfl,hle,(fun j hj=>absurd hj (by omega)),by simpa using cD⟩
 ·refine⟨cs.toList.take o,cs.toList.drop (o+n*z),by cases Nat.beq n 0<;>rfl,hle,fun j hj=>?_,?_⟩
  ·have h0:=hc 0 (by omega) 0 hp;have:o<cs.toList.length:=by
    rcases Nat.lt_or_ge o cs.toList.length with h1|h1
    ·exact h1
    ·exfalso;rw[List.getElem?_eq_none (by omega)]at h0;have h2:=hz 0;rw[List.getElem?_eq_getElem (by omega)]at h0;cases h0
   rw[List.length_take];omega
  ·rw[←hs,List.take_append_drop];exact cD
theorem acg {W:World} {tg tc:TypeId} (hG:W.heap[0]?=some (.cells (aj .u32 64 aT) tg (0,0))) (hC:W.heap[2]?=some (.cells #[.bool false,.bool false,.bool false,.bool false,.bool false,.bool false,.bool false,.bool false,.bool false,.bool false,.bool true,.bool true] tc (0,0))) {i:Nat} {b:VB} (hw:b.wr=false) (hc:cK 0 b.c=true) (cD:W.heap[i]?=some (.cells (ai [] b.c).toArray b.ty.t b.ty.fz)) {fr:Sd.Reply→Nat×Sd.Byt}:
 St [] W (lits [0,2,i] [0,2,i] [jP tg,pD tc,b]++ak [LG.gh (fr:=fr) W] []) W:=by
 refine St.afU ?_;intro y hy;rcases List.mem_append.1 hy with hy|hy
 ·simp only[lits,List.mem_cons,List.not_mem_nil,or_false]at hy;rcases hy with rfl|rfl|rfl
  ·exact⟨rfl,hG.trans (by kernel_rfl)⟩
  ·exact⟨rfl,hC.trans (by kernel_rfl)⟩
  ·rw[cq (ids':=[]) hc];exact⟨hw,cD⟩
 ·have:y∈fu W:=by
   rcases List.mem_append.1 (show y∈fu W++[]from hy)with h|h
   ·exact h
   ·cases h
  exact acf W y this
theorem ach (i:Nat):Gl gS [0,2,i]:=by
 intro g j hg;unfold gS at hg;split at hg
 ·obtain rfl:=Option.some.inj hg;exact⟨by simp,rfl⟩
 ·obtain rfl:=Option.some.inj hg;exact⟨by simp,rfl⟩
 ·cases hg
theorem Q7 {W:World} {tg tc:TypeId} (hG:W.heap[0]?=some (.cells (aj .u32 64 aT) tg (0,0))) (hC:W.heap[2]?=some (.cells #[.bool false,.bool false,.bool false,.bool false,.bool false,.bool false,.bool false,.bool false,.bool false,.bool false,.bool true,.bool true] tc (0,0)))
 (q:Nat→Int) (ka:Nat→Option Addr) (kn kc:Nat→Nat) (hr:∀j,j<4→eE W (ka j) (kn j) (kc j) (dt W (ka j))) {v:Value} {os:Nat→AI} {i o n c:Nat} {a:Option Addr} {ty:BT} {pre post:List Value} (hR:s9 W v 11 (Wb os) i o n c a ty pre post) (hO:QY W os n):
 au Tryz.prog 5 #[.agg (ta ⟨q,fun _=>(0,fun _=>0)⟩ ka kn kc).toArray,v] W fun v w1=>v=.bool true∧Ch [] W w1:=by
 have S:=acg (fr:=Il) hG hC (i:=i) (b:=QO ty n os pre post) rfl rfl (by
  rw[hR.at_];simp only[QO,ai,cl,List.append_nil])
 have fW:c_ (DE Tryz.prog gS (Wc Il (aq cu)) (SR 0 (abS (fr:=Il) tg tc ty W ⟨q,ka,kn,kc⟩ (fun _=>(0,fun _=>0)) o n c a os pre post))) 60 5 [.agg [.jS ⟨q,fun _=>(0,fun _=>0)⟩ ka kn kc],.je 2 o n c a] [jP tg,pD tc,QO ty n os pre post] [.gh W] (fun v _ _=>v=.bool true):=by
  rw[afw (x:=⟨q,ka,kn,kc⟩)];exact afy ⟨hr 0 (by decide),hr 1 (by decide),hr 2 (by decide),hr 3 (by decide)⟩ hR.le hR.po hO rfl
 have ca:(az [0,2,i] [.agg [.jS ⟨q,fun _=>(0,fun _=>0)⟩ ka kn kc],.je 2 o n c a]).toArray=#[.agg (ta ⟨q,fun _=>(0,fun _=>0)⟩ ka kn kc).toArray,v]:=by
  rw[hR.v];simp only[az,den,ai,cl,List.append_nil];rfl
 rw[←ca];refine(bW (C:=DE Tryz.prog gS (Wc Il (aq cu)) (SR 0 (abS (fr:=Il) tg tc ty W ⟨q,ka,kn,kc⟩ (fun _=>(0,fun _=>0)) o n c a os pre post))) (_root_.Go.Proofs.YtlkpikfddnjilaaGreatDoor.ao.TL (Ib yg)) (_root_.Go.Proofs.YtlkpikfddnjilaaGreatDoor.ao.QL (Ib yg)) 60 (ach i) rfl S fW).mono ?_;rintro v w' ⟨x,more,bl',ch',rfl,h1,S',rfl⟩;exact⟨rfl,S'.ch⟩
end Go.Proofs.YtlkpikfddnjilaaGreatDoor
namespace Go.Proofs.YtlkpikfddnjilaaGreatDoor
open Go Go.RowKit Go.BigFrame Sx Go.ChangeShapes Go.WideShapes
section
variable{H:Type} {enc:TypeId×Value→H} {P:Program} {w:World} {base:Nat} {spare:Nat→Bool} {held:Bool} {fuel:Nat} {t e:TypeId} {cs:List Value} {ps:List MemPlace}
theorem Im {l:List Value} {i:Nat} {v:Value} (h:(l.drop i).take 1=[v]):l[i]?=some v:=by
 have h1:((l.drop i).take 1)[0]?=some v:=by rw[h];rfl
 rw[List.getElem?_take]at h1;simpa using h1
theorem Wu {k:IntKind} {zs:List Int} (ht:P.underlying t=some (.array zs.length e)) (he:P.underlying e=some (.int k)) (hc:P.cellsOf e=1) (hn:P.cellsOf t=zs.length)
 (h:DataW.trod enc P w base spare held fuel t cs=some (.agg (zs.map fun z=>.lit (.int k z)),ps)):cs=zs.map (Value.int k):=by
 obtain⟨xs,m,rfl,hx,hlen,RQ,GW⟩:=DataW.trod_array ht h;simp only[Prod.mk.injEq,DataW.agg.injEq]at hx;rw[hn]at hlen;apply List.ext_getElem?;intro i;by_cases hi:i<zs.length
 ·have h1:=GW i hi;rw[hc,Nat.mul_one,List.getElem?_eq_getElem (by omega)]at h1;obtain⟨z,e1,e2,_⟩:=DataW.trod_int he h1;have h3:(zs.map fun z=>(DataW.lit (.int k z):DataW H))[i]?=(xs.map (·.1))[i]?:=by rw[hx.1]
  rw[List.getElem?_map,List.getElem?_map,List.getElem?_eq_getElem hi,List.getElem?_eq_getElem (by omega),Option.map_some,Option.map_some,e2]at h3;simp at h3;rw[Im e1,List.getElem?_map,List.getElem?_eq_getElem hi,Option.map_some,h3]
 ·rw[List.getElem?_eq_none (by omega),List.getElem?_eq_none (by simp;omega)]
theorem Io {n:String} {g:Nat} {c:Array Value} (hg:P.globalNamed n=some g) (h:w.var? P n=some c):∃t f,w.heap[g]?=some (.cells c t f):=by
 simp only[World.var?,hg,Option.bind_some]at h;split at h
 ·next c' t f h2=>simp at h;subst h;exact⟨t,f,h2⟩
 ·cases h
end
def wy:List Int:=(List.range 64).map fun i=>aT i
def Q8:List (String×DataW Unit):=[("sidestick/gate.commands",Rows.laid_sidestick_gate_commands),("sidestick/sha.roots",Rows.laid_sidestick_sha_roots)]
theorem Q9 {W:World} (h:laidMetH Tryz.prog Q8 W):∃t,W.heap[0]?=some (.cells (aj .u32 64 aT) t (0,0)):=by
 rw[MakeChecks.laidMetH_plain _ _ _ (by kernel_rfl)]at h;obtain⟨ps,⟨g0,t0,cs0,f0,p0,q0,hg0,ht0,XJ,hd0,⟨g1,t1,cs1,f1,p1,q1,hg1,ht1,Rp,hd1,_,hq⟩,Mo⟩,_,gb⟩:=h;obtain rfl:g1=0:=Option.some.inj (hg1.symm.trans (show Tryz.prog.globalNamed "sidestick/sha.roots" =some 0 by kernel_rfl));have e1:(Tryz.prog.globals[0]?).map (·.type)=some 244:=by kernel_rfl
 obtain rfl:t1=244:=Option.some.inj (ht1.symm.trans e1);have GN:cs1.toList=wy.map (Value.int .u32):=by
  have hd2:DataW.trod (fun _=>()) Tryz.prog W 0 (fun _=>true) false f1 244 cs1.toList=some (.agg (wy.map fun z=>.lit (.int .u32 z)),p1):=
   hd1.trans (congrArg (fun d=>some (d,p1)) (show(Rows.laid_sidestick_sha_roots:DataW Unit)=.agg (wy.map fun z=>.lit (.int .u32 z)) by kernel_rfl))
  exact Wu (k:=.u32) (zs:=wy) (e:=207) (by kernel_rfl) (by kernel_rfl) (by kernel_rfl) (by kernel_rfl) hd2
 obtain⟨t,f,cD⟩:=Io (show Tryz.prog.globalNamed "sidestick/sha.roots" =some 0 by kernel_rfl) Rp;have hc1:cs1=aj .u32 64 aT:=by
  apply Array.ext';rw[GN];simp[wy,aj]
 obtain⟨c,t',XR⟩:=(gb 0 0 (by
  rw[Mo,hq,hc1];have:MemPlace.cell 0 0∈MemPlace.row ⟨0,0,none⟩ (aj .u32 64 aT).size:=by
   rw[kU];simp[MemPlace.row]
  simp[this])).1
 rw[cD]at XR;simp only[Option.some.injEq,Obj.cells.injEq]at XR;refine⟨t,?_⟩;rw[cD,hc1,XR.2.2]
end Go.Proofs.YtlkpikfddnjilaaGreatDoor
namespace Sd
open Go Go.RowKit
noncomputable def over (w:World) (B:Nat) (u:World):World:=@ite _ (Below B w u) (Classical.propDecidable _) u w
theorem over_below (w:World) (B:Nat) (u:World):Below B w (over w B u):=by
 unfold over;split
 ·assumption
 ·exact Below.refl _ _
@[go_sem] theorem cell?_over (w:World) (B:Nat) (u:World) (b o:Nat) (h:b<B):(over w B u).cell? ⟨b,o,none⟩=w.cell? ⟨b,o,none⟩:=(over_below w B u).cell h
@[go_sem] theorem frozen?_over (w:World) (B:Nat) (u:World) (b o:Nat) (h:b<B):(over w B u).frozen? ⟨b,o,none⟩=w.frozen? ⟨b,o,none⟩:=(over_below w B u).frozen h
section
variable{P:Program}
end
theorem bt {w a b:World} (h:Below w.heap.size w a) (k:Below a.heap.size a b):Below w.heap.size w b:=h.trans (k.mono h.size)
theorem bs {w a:World} (h:Below w.heap.size w a) {p:Addr} (hp:w.heap.size≤p.block) (v:Value):Below w.heap.size w (a.setCell p v):=h.setCell hp v
def jc (d:TypeDesc):Bool:=match d with|.struct _|.array _ _=>true|_=>false
structure afV (P:Program) (ty n:Nat):Prop where
 desc:∃d,P.underlying ty=some d∧jc d=true
 size:(P.info? ty).map (·.size)=some n
theorem afV.load {P:Program} {ty n:Nat} (h:afV P ty n) {w:World} {g:Nat} {t:TypeId} {cs:Array Value} {fr:Nat×Nat} (hg:w.heap[g]?=some (.cells cs t fr)) (hn:cs.size=n):
 (loadVar ty ⟨g,0,none⟩).run P w=.ok (.agg cs) w:=by
 obtain⟨⟨d,hu,hd⟩,hs⟩:=h;exact run_loadVar_row w g t ty cs fr d hg hu (by cases d<;>first|rfl|simp[jc]at hd) (by rw[hs,hn])
section
variable{P:Program} {ops:Array Oper} {rest:List Oper} {o:Oper} {a:Act} {w:World} {Q:Exit→Act→World→Prop}
end
def I64 (n:Int):Prop:=-9223372036854775808≤n∧n≤9223372036854775807
theorem i64 {n:Int} (h:-9223372036854775808≤n∧n≤9223372036854775807):I64 n:=h
end Sd
namespace Sd
open Go Go.RowKit Go.ChangeShapes Go.WideShapes Go.ChangeAt
theorem ox {H:Type} {enc:TypeId×Value→H} {P:Program} (hl:laidOutB P=true) {W W':World} (hb:Below W.heap.size W W'):
 ∀{ts:List TypeId} {vs:List Value} {ds:List (DataW H)} {ps:List MemPlace},(ts.all fun t=>P.readableRec t&&decide (t<P.types.size))=true→
  DataW.TrodAll enc P W 0 (fun _=>true) true ts vs ds ps→(∀p∈ps,p.block<W.heap.size)→DataW.TrodAll enc P W' 0 (fun b=>decide (b<W.heap.size)) true ts vs ds ps
 |[],[],[],_,_,h,_=>h
 |t::ts,v::vs,d::ds,ps,hr,h,hp=>by
  obtain⟨p,q,h1,h2,rfl⟩:=h;simp only[List.all_cons,Bool.and_eq_true,decide_eq_true_eq]at hr;exact⟨p,q,Below.trod hl hr.1.1 hr.1.2 h1 hb (fun x hx=>hp x (List.mem_append_left _ hx)),ox hl hb hr.2 h2 (fun x hx=>hp x (List.mem_append_right _ hx)),rfl⟩
 |[],[],_::_,_,_,h,_=>h.elim
 |[],_::_,_,_,_,h,_=>h.elim
 |_::_,[],_,_,_,h,_=>h.elim
 |_::_,_::_,[],_,_,h,_=>h.elim
theorem Q_ {H:Type} {enc:TypeId×Value→H} {P:Program} {f:Func} {s:ChangeSpec} {W W':World} {args:Array Value} {ds gs:List (DataW H)} {before:List MemPlace} {tb:TypeId}
 (hl:laidOutB P=true) (hr:(f.params.toList.all fun t=>P.readableRec t&&decide (t<P.types.size))=true) (XS:s.vars=[]) (Ps:f.resultTypes=#[tb]) (htb:P.underlying tb=some .bool)
 (hs:s.fn H (ds++gs)={results:=[.lit (.bool true)],args:=ds,vars:=[]}) (hW:DataW.Whole enc P f.params.toList s.vars false W args.toList ds gs before) (hb:Below W.heap.size W W'):
 s.post enc P f false true false false W args (.bool true) W':=by
 have hW0:=hW;have im:=fun p hp=>hW.lt p hp;obtain⟨p,q,hA,hV,rfl,hz,hn⟩:=hW;rw[XS]at hV;obtain⟨rfl,rfl⟩:=trodVars_none hV;refine⟨ds,[],p++[],[],p,[],hW0,?_,?_,?_,?_,fun h=>by cases h⟩
 ·rw[hs,Ps];exact trodAll_mk1 (shut_bool htb _)
 ·rw[hs];exact ox hl hb hr hA (fun x hx=>im x (by simpa using hx))
 ·rw[hs,XS];exact rfl
 ·exact hb.frame _
section
variable{P:Program} {w:World} {r:Reach} {b0:Nat} {t:TypeId} {v:Value}
theorem Gw {d:TypeDesc} {ts:List TypeId} (hu:P.underlying t=some d) (hd:jc d=true) (hct:P.cellTypes P.depth t=some ts) (hn:P.cellsOf t=ts.length) (hv:Value.okWide P w r b0 t v):
 ∃cs:Array Value,v=.agg cs∧cs.size=ts.length∧∀(i:Nat) x u,cs[i]?=some x→ts[i]?=some u→Cell.okWide P w r b0 u x:=by
 have h:∃cs,v=.agg cs∧cs.size=P.cellsOf t∧Row.okWide P w r b0 t cs:=by
  unfold Value.okWide at hv;rw[hu]at hv;cases d<;>first|exact hv|simp[jc]at hd
 obtain⟨cs,rfl,iZ,ts',h1,_,h2⟩:=h;rw[hct]at h1;obtain rfl:ts=ts':=by simpa using h1
 refine⟨cs,rfl,iZ.trans hn,?_⟩;intro i x u hx hu';obtain⟨u',h3,h4⟩:=h2 i x hx;have hi:i<ts.length:=by
  rcases Nat.lt_or_ge i ts.length with h|h
  ·exact h
  ·simp[h]at hu'
 rw[Nat.mod_eq_of_lt hi,hu']at h3;obtain rfl:u=u':=by simpa using h3
 exact h4
theorem Dx {d:TypeDesc} (hu:P.underlying t=some d) (hd:jc d=false) (hv:Value.okWide P w r b0 t v):Cell.okWide P w r b0 t v:=by
 unfold Value.okWide at hv;rw[hu]at hv;cases d<;>first|exact hv|simp[jc]at hd
theorem Ra {k:IntKind} (hu:P.underlying t=some (.int k)) (h:Cell.okWide P w r b0 t v):∃n,v=.int k n∧k.min≤n∧n≤k.max:=by
 unfold Cell.okWide at h;rw[hu]at h;unfold Cell.ok at h;rw[hu]at h;cases v<;>simp at h;obtain⟨rfl,h1,h2⟩:=h;exact⟨_,rfl,h1,h2⟩
theorem Rb (hu:P.underlying t=some (.int .i64)) (h:Cell.okWide P w r b0 t v):∃n,v=.int .i64 n∧I64 n:=by
 obtain⟨n,h1,h2,h3⟩:=Ra hu h;exact⟨n,h1,by unfold I64;simpa[IntKind.min,IntKind.max,IntKind.signed,IntKind.bits]using And.intro h2 h3⟩
end
end Sd
namespace Go.Proofs.YtlkpikfddnjilaaGreatDoor
open Go Go.RowKit Go.WideShapes Sd
def Ip (W:World) (a:Option Addr) (n c:Nat):Prop:=n≤c∧((a=none∧n=0∧c=0)∨∃x,a=some x∧(c:Int)≤IntKind.i64.max∧W.has Tryz.prog .any 0 x 5 c)
theorem pF {W:World} {v:Value} {t e:TypeId} (hu:Tryz.prog.underlying t=some (.slice e)) (h:Cell.okWide Tryz.prog W .any 0 t v):
 ∃a n c,v=.slice a n c∧n≤c∧((a=none∧n=0∧c=0)∨∃x,a=some x∧(c:Int)≤IntKind.i64.max∧W.has Tryz.prog .any 0 x e c):=by
 unfold Cell.okWide at h;rw[hu]at h;cases v with
 |slice a n c=>
  unfold Cell.ok at h;rw[hu]at h;cases a with
  |none=>
   cases n<;>cases c<;>first|exact⟨_,_,_,rfl,by omega,Or.inl ⟨rfl,rfl,rfl⟩⟩|(simp at h)
  |some a=>exact⟨_,_,_,rfl,h.1,Or.inr ⟨a,rfl,h.2⟩⟩
 |_=>unfold Cell.ok at h;rw[hu]at h;simp at h
theorem Rc {W:World} {v:Value} (hv:Value.okWide Tryz.prog W .any 0 28 v):
 ∃(q:Nat→Int) (ka:Nat→Option Addr) (kn kc:Nat→Nat),v=.agg (Fa q ka kn kc)∧(∀i,-9223372036854775808≤q i∧q i≤9223372036854775807)∧∀i,i<4→Ip W (ka i) (kn i) (kc i):=by
 obtain⟨cs,rfl,iZ,GN⟩:=Gw Tryz.underlying28 rfl (ts:=[3,3,3,3,3,23,23,23,23,3,3,3,3,3,3,3,3,3,3,3,3,3,3,3,3,3,3,3,3,3,3,3,3,3,3,3,3,3,3,3,3,3,3,3,3,3,3,3,3,3,3,3,3,3,3,3]) (by kernel_rfl) (by kernel_rfl) hv;have cD:∀i,i<56→∃x,cs[i]?=some x:=fun i hi=>⟨cs[i]'(by rw[iZ];exact hi),by rw[Array.getElem?_eq_getElem]⟩;have hI:∀i,i<56→(i<5∨8<i)→∃n,cs[i]?=some (.int .i64 n)∧I64 n:=by
  intro i hi fc;obtain⟨x,hx⟩:=cD i hi;have ht:([3,3,3,3,3,23,23,23,23,3,3,3,3,3,3,3,3,3,3,3,3,3,3,3,3,3,3,3,3,3,3,3,3,3,3,3,3,3,3,3,3,3,3,3,3,3,3,3,3,3,3,3,3,3,3,3]:List Nat)[i]?=some 3:=by clear hx;revert i;decide
  obtain⟨n,rfl,hn⟩:=Rb Tryz.underlying3 (GN i x 3 hx ht);exact⟨n,hx,hn⟩
 have hS:∀i,i<4→∃a n c,cs[5+i]?=some (.slice a n c)∧Ip W a n c:=by
  intro i hi;obtain⟨x,hx⟩:=cD (5+i) (by omega);have ht:([3,3,3,3,3,23,23,23,23,3,3,3,3,3,3,3,3,3,3,3,3,3,3,3,3,3,3,3,3,3,3,3,3,3,3,3,3,3,3,3,3,3,3,3,3,3,3,3,3,3,3,3,3,3,3,3]:List Nat)[5+i]?=some 23:=by clear hx;revert i;decide
  obtain⟨a,n,c,rfl,h1,h2⟩:=pF Tryz.underlying23 (GN (5+i) x 23 hx ht);exact⟨a,n,c,hx,h1,h2⟩
 let q:Nat→Int:=fun i=>match cs[i]?with|some (.int _ n)=>n|_=>0
 let ka:Nat→Option Addr:=fun i=>match cs[5+i]?with|some (.slice a _ _)=>a|_=>none
 let kn:Nat→Nat:=fun i=>match cs[5+i]?with|some (.slice _ n _)=>n|_=>0
 let kc:Nat→Nat:=fun i=>match cs[5+i]?with|some (.slice _ _ c)=>c|_=>0
 have hq:∀i,i<56→(i<5∨8<i)→cs[i]?=some (.int .i64 (q i))∧I64 (q i):=by
  intro i hi fc;obtain⟨n,hx,hn⟩:=hI i hi fc;have:q i=n:=by simp only[q,hx]
  rw[this];exact⟨hx,hn⟩
 have hk:∀i,i<4→cs[5+i]?=some (.slice (ka i) (kn i) (kc i))∧Ip W (ka i) (kn i) (kc i):=by
  intro i hi;obtain⟨a,n,c,hx,hn⟩:=hS i hi;have h1:ka i=a:=by simp only[ka,hx]
  have h2:kn i=n:=by simp only[kn,hx]
  have h3:kc i=c:=by simp only[kc,hx]
  rw[h1,h2,h3];exact⟨hx,hn⟩
 refine⟨q,ka,kn,kc,?_,?_,fun i hi=>(hk i hi).2⟩
 ·congr 1;apply Array.ext_getElem?;intro i;by_cases hi:i<56
  ·match i,hi with
   |0,_=>exact(hq 0 (by omega) (by omega)).1.trans rfl
   |1,_=>exact(hq 1 (by omega) (by omega)).1.trans rfl
   |2,_=>exact(hq 2 (by omega) (by omega)).1.trans rfl
   |3,_=>exact(hq 3 (by omega) (by omega)).1.trans rfl
   |4,_=>exact(hq 4 (by omega) (by omega)).1.trans rfl
   |5,_=>exact(hk 0 (by omega)).1.trans rfl
   |6,_=>exact(hk 1 (by omega)).1.trans rfl
   |7,_=>exact(hk 2 (by omega)).1.trans rfl
   |8,_=>exact(hk 3 (by omega)).1.trans rfl
   |9,_=>exact(hq 9 (by omega) (by omega)).1.trans rfl
   |10,_=>exact(hq 10 (by omega) (by omega)).1.trans rfl
   |11,_=>exact(hq 11 (by omega) (by omega)).1.trans rfl
   |12,_=>exact(hq 12 (by omega) (by omega)).1.trans rfl
   |13,_=>exact(hq 13 (by omega) (by omega)).1.trans rfl
   |14,_=>exact(hq 14 (by omega) (by omega)).1.trans rfl
   |15,_=>exact(hq 15 (by omega) (by omega)).1.trans rfl
   |16,_=>exact(hq 16 (by omega) (by omega)).1.trans rfl
   |17,_=>exact(hq 17 (by omega) (by omega)).1.trans rfl
   |18,_=>exact(hq 18 (by omega) (by omega)).1.trans rfl
   |19,_=>exact(hq 19 (by omega) (by omega)).1.trans rfl
   |20,_=>exact(hq 20 (by omega) (by omega)).1.trans rfl
   |21,_=>exact(hq 21 (by omega) (by omega)).1.trans rfl
   |22,_=>exact(hq 22 (by omega) (by omega)).1.trans rfl
   |23,_=>exact(hq 23 (by omega) (by omega)).1.trans rfl
   |24,_=>exact(hq 24 (by omega) (by omega)).1.trans rfl
   |25,_=>exact(hq 25 (by omega) (by omega)).1.trans rfl
   |26,_=>exact(hq 26 (by omega) (by omega)).1.trans rfl
   |27,_=>exact(hq 27 (by omega) (by omega)).1.trans rfl
   |28,_=>exact(hq 28 (by omega) (by omega)).1.trans rfl
   |29,_=>exact(hq 29 (by omega) (by omega)).1.trans rfl
   |30,_=>exact(hq 30 (by omega) (by omega)).1.trans rfl
   |31,_=>exact(hq 31 (by omega) (by omega)).1.trans rfl
   |32,_=>exact(hq 32 (by omega) (by omega)).1.trans rfl
   |33,_=>exact(hq 33 (by omega) (by omega)).1.trans rfl
   |34,_=>exact(hq 34 (by omega) (by omega)).1.trans rfl
   |35,_=>exact(hq 35 (by omega) (by omega)).1.trans rfl
   |36,_=>exact(hq 36 (by omega) (by omega)).1.trans rfl
   |37,_=>exact(hq 37 (by omega) (by omega)).1.trans rfl
   |38,_=>exact(hq 38 (by omega) (by omega)).1.trans rfl
   |39,_=>exact(hq 39 (by omega) (by omega)).1.trans rfl
   |40,_=>exact(hq 40 (by omega) (by omega)).1.trans rfl
   |41,_=>exact(hq 41 (by omega) (by omega)).1.trans rfl
   |42,_=>exact(hq 42 (by omega) (by omega)).1.trans rfl
   |43,_=>exact(hq 43 (by omega) (by omega)).1.trans rfl
   |44,_=>exact(hq 44 (by omega) (by omega)).1.trans rfl
   |45,_=>exact(hq 45 (by omega) (by omega)).1.trans rfl
   |46,_=>exact(hq 46 (by omega) (by omega)).1.trans rfl
   |47,_=>exact(hq 47 (by omega) (by omega)).1.trans rfl
   |48,_=>exact(hq 48 (by omega) (by omega)).1.trans rfl
   |49,_=>exact(hq 49 (by omega) (by omega)).1.trans rfl
   |50,_=>exact(hq 50 (by omega) (by omega)).1.trans rfl
   |51,_=>exact(hq 51 (by omega) (by omega)).1.trans rfl
   |52,_=>exact(hq 52 (by omega) (by omega)).1.trans rfl
   |53,_=>exact(hq 53 (by omega) (by omega)).1.trans rfl
   |54,_=>exact(hq 54 (by omega) (by omega)).1.trans rfl
   |55,_=>exact(hq 55 (by omega) (by omega)).1.trans rfl
   |i+56,h=>exact absurd h (by omega)
  ·rw[Array.getElem?_eq_none (by rw[iZ];exact Nat.le_of_not_lt hi),Array.getElem?_eq_none (Nat.le_of_not_lt hi)]
 ·intro i;by_cases hi:i<56∧(i<5∨8<i)
  ·exact(hq i hi.1 hi.2).2
  ·have:q i=0:=by
    by_cases h5:i<56
    ·obtain⟨a,n,c,hx,_⟩:=hS (i-5) (by omega);rw[show 5+(i-5)=i by omega]at hx;simp only[q,hx]
    ·have hx:cs[i]?=none:=Array.getElem?_eq_none (by rw[iZ];exact Nat.le_of_not_lt h5);simp only[q,hx]
   rw[this];omega
end Go.Proofs.YtlkpikfddnjilaaGreatDoor
namespace Go.Proofs.YtlkpikfddnjilaaGreatDoor
open Go Go.RowKit Go.WideShapes Sd Sx
theorem Re {W:World} {a:Option Addr} {m c:Nat} (gb:∀n,Rd Tryz.prog W n 23 [.slice a m c]) (hk:Ip W a m c):∃kb:Nat→Int,Pe [] W a m c kb:=by
 obtain⟨h1,h2⟩:=hk;rcases h2 with⟨e1,e2,e3⟩|⟨x,e1,hc,hh⟩
 ·exact⟨fun _=>0,h1,fun _=>⟨e2,e3⟩,fun ad ha=>by rw[e1]at ha;cases ha⟩
 ·rcases wv Tryz.underlying23 gb (z:=1) (by kernel_rfl) 5 (ts:=[5]) (by kernel_rfl)with h0|⟨a',afS,afT,h0,_,_,C,hC⟩
  ·rw[e1]at h0;simp at h0
  ·rw[e1]at h0;simp only[Value.slice.injEq,Option.some.injEq]at h0;obtain⟨rfl,rfl,rfl⟩:=h0;refine⟨fun j=>match C j 0 with|.int _ n=>n|_=>0,h1,fun h=>(by rw[e1]at h;cases h),fun ad ha=>⟨by simp,fun j hj=>?_⟩⟩;rw[e1]at ha;obtain rfl:=Option.some.inj ha;obtain⟨h3,h4⟩:=hC j (by omega) 0 (by omega);obtain⟨n,h5,_⟩:=wu Tryz.underlying5 (h4 _ rfl);simp only[h5]at h3⊢;simpa using h3
theorem KC {W:World} {v:Value} (hv:Value.okWide Tryz.prog W .any 0 28 v) (hr:∀n,Rd Tryz.prog W n 28 v.cells.toList):
 ∃(q:Nat→Int) (ka:Nat→Option Addr) (kn kc:Nat→Nat) (kb:Nat→Nat→Int),v=.agg (Fa q ka kn kc)∧(∀i,-9223372036854775808≤q i∧q i≤9223372036854775807)∧∀i,i<4→Pe [] W (ka i) (kn i) (kc i) (kb i):=by
 obtain⟨q,ka,kn,kc,rfl,hq,hk⟩:=Rc hv;have key:∀i,i<4→∃kb:Nat→Int,Pe [] W (ka i) (kn i) (kc i) kb:=by
  intro i hi;have gb:∀n,Rd Tryz.prog W n 23 [.slice (ka i) (kn i) (kc i)]:=by
   have h5:(Fa q ka kn kc)[5+i]?=some (.slice (ka i) (kn i) (kc i)):=by
    match i,hi with
    |0,_=>rfl
    |1,_=>rfl
    |2,_=>rfl
    |3,_=>rfl
    |i+4,h=>exact absurd h (by omega)
   have AR:cellAt Tryz.prog 6 28 (5+i)=some 23:=by
    have e:i=0∨i=1∨i=2∨i=3:=by omega
    rcases e with rfl|rfl|rfl|rfl
    ·show cellAt Tryz.prog 6 28 5=some 23;kernel_rfl
    ·show cellAt Tryz.prog 6 28 6=some 23;kernel_rfl
    ·show cellAt Tryz.prog 6 28 7=some 23;kernel_rfl
    ·show cellAt Tryz.prog 6 28 8=some 23;kernel_rfl
   exact ry 6 (P:=Tryz.prog) (w:=W) (t:=28) (cs:=(Fa q ka kn kc).toList) (j:=5+i) hr AR (by simpa using h5)
  exact Re gb (hk i hi)
 obtain⟨kb,hkb⟩:=Deep.choose_lt key;exact⟨q,ka,kn,kc,kb,rfl,hq,hkb⟩
end Go.Proofs.YtlkpikfddnjilaaGreatDoor
namespace Go.Proofs.YtlkpikfddnjilaaGreatDoor
open Go Go.RowKit Go.BigFrame Go.WideShapes Go.ChangeShapes Sd Sx Vx
section
variable{H:Type} {enc:TypeId×Value→H} {P:Program} {w:World} {base:Nat} {spare:Nat→Bool} {held:Bool} {fuel:Nat} {t e:TypeId} {cs:List Value} {ps:List MemPlace}
theorem Rf {zs:List Bool} (ht:P.underlying t=some (.array zs.length e)) (he:P.underlying e=some .bool) (hc:P.cellsOf e=1) (hn:P.cellsOf t=zs.length)
 (h:DataW.trod enc P w base spare held fuel t cs=some (.agg (zs.map fun z=>.lit (.bool z)),ps)):cs=zs.map Value.bool:=by
 obtain⟨xs,m,rfl,hx,hlen,RQ,GW⟩:=DataW.trod_array ht h;simp only[Prod.mk.injEq,DataW.agg.injEq]at hx;rw[hn]at hlen;apply List.ext_getElem?;intro i;by_cases hi:i<zs.length
 ·have h1:=GW i hi;rw[hc,Nat.mul_one,List.getElem?_eq_getElem (by omega)]at h1;obtain⟨z,e1,e2⟩:=DataW.trod_bool he h1;have h3:(zs.map fun z=>(DataW.lit (.bool z):DataW H))[i]?=(xs.map (·.1))[i]?:=by rw[hx.1]
  rw[List.getElem?_map,List.getElem?_map,List.getElem?_eq_getElem hi,List.getElem?_eq_getElem (by omega),Option.map_some,Option.map_some]at h3;have e3:=congrArg Prod.fst e2;rw[e3]at h3;simp at h3;rw[Im e1,List.getElem?_map,List.getElem?_eq_getElem hi,Option.map_some,h3]
 ·rw[List.getElem?_eq_none (by omega),List.getElem?_eq_none (by simp;omega)]
end
def Iq:List Bool:=[false,false,false,false,false,false,false,false,false,false,true,true]
theorem Wv {W:World} (h:laidMetH Tryz.prog Q8 W):∃t,W.heap[2]?=some (.cells #[.bool false,.bool false,.bool false,.bool false,.bool false,.bool false,.bool false,.bool false,.bool false,.bool false,.bool true,.bool true] t (0,0)):=by
 rw[MakeChecks.laidMetH_plain _ _ _ (by kernel_rfl)]at h;obtain⟨ps,⟨g0,t0,cs0,f0,p0,q0,hg0,ht0,XJ,hd0,⟨g1,t1,cs1,f1,p1,q1,hg1,ht1,Rp,hd1,_,hq⟩,Mo⟩,_,gb⟩:=h;obtain rfl:g0=2:=Option.some.inj (hg0.symm.trans (show Tryz.prog.globalNamed "sidestick/gate.commands" =some 2 by kernel_rfl));have e1:(Tryz.prog.globals[2]?).map (·.type)=some 273:=by kernel_rfl
 obtain rfl:t0=273:=Option.some.inj (ht0.symm.trans e1);have GN:cs0.toList=Iq.map Value.bool:=by
  have hd2:DataW.trod (fun _=>()) Tryz.prog W 0 (fun _=>true) false f0 273 cs0.toList=some (.agg (Iq.map fun z=>.lit (.bool z)),p0):=
   hd0.trans (congrArg (fun d=>some (d,p0)) (show(Rows.laid_sidestick_gate_commands:DataW Unit)=.agg (Iq.map fun z=>.lit (.bool z)) by kernel_rfl))
  exact Rf (zs:=Iq) (e:=4) (by kernel_rfl) (by kernel_rfl) (by kernel_rfl) (by kernel_rfl) hd2
 obtain⟨t,f,cD⟩:=Io (show Tryz.prog.globalNamed "sidestick/gate.commands" =some 2 by kernel_rfl) XJ;have Yb:cs0=#[.bool false,.bool false,.bool false,.bool false,.bool false,.bool false,.bool false,.bool false,.bool false,.bool false,.bool true,.bool true]:=by
  apply Array.ext';rw[GN];rfl
 obtain⟨c,t',XR⟩:=(gb 2 0 (by
  rw[Mo,Yb];have:MemPlace.cell 2 0∈MemPlace.row ⟨2,0,none⟩ 12:=by
   simp[MemPlace.row]
  exact List.mem_append_left _ (List.mem_append_left _ this))).1
 rw[cD]at XR;simp only[Option.some.injEq,Obj.cells.injEq]at XR;refine⟨t,?_⟩;rw[cD,Yb,XR.2.2]
theorem Ir {W:World} {v:Value} (h:∀n,Rd Tryz.prog W n 23 [v]):∃a n c,v=.slice a n c∧eE W a n c (dt W a):=by
 rcases wv Tryz.underlying23 h (z:=1) (by kernel_rfl) 5 (ts:=[5]) (by kernel_rfl)with rfl|⟨a,len,cap,rfl,hle,_,C,hC⟩
 ·exact⟨none,0,0,rfl,Nat.le_refl _,fun _=>⟨rfl,rfl⟩,fun x e=>nomatch e⟩
 ·have hb:∀j,j<len→∃n,C j 0=.int .u8 n∧0≤n∧n≤255:=fun j hj=>by
   obtain⟨n,h5,h6⟩:=wu Tryz.underlying5 ((hC j (by omega) 0 (by omega)).2 _ rfl);exact⟨n,h5,by simpa[IntKind.min,IntKind.max,IntKind.signed,IntKind.bits]using h6⟩
  refine⟨some a,len,cap,rfl,abq (f:=fun j=>match C j 0 with|.int _ n=>n|_=>0) ⟨hle,(fun e=>nomatch e),fun x e j hj=>?_⟩ fun j hj=>?_⟩
  ·obtain rfl:=Option.some.inj e;obtain⟨n,h5,_⟩:=hb j hj;have h3:=(hC j (by omega) 0 (by omega)).1;simp only[h5]at h3⊢;simpa using h3
  ·obtain⟨n,h5,h6⟩:=hb j hj;simp only[h5];exact h6
theorem Rg {W:World} {v:Value} (gb:Cell.okWide Tryz.prog W .any 0 29 v) (hrd:∀k,Rd Tryz.prog W k 29 [v]) {cs0:Array Value} {t0:TypeId} {f0:Nat×Nat} (h0:W.heap[0]?=some (.cells cs0 t0 f0)):
 ∃(os:Nat→AI) (i o n c:Nat) (a:Option Addr) (ty:BT) (pre post:List Value),s9 W v 11 (Wb os) i o n c a ty pre post∧QY W os n:=by
 have z4:Sd.DL ⟨0,0,0,0⟩:=Sd.x40
 let od:AI:=⟨0,0,0,none,0,0,⟨false,⟨0,0,0,0⟩,false⟩,false⟩
 obtain⟨a,m,c,rfl,hmc,ho⟩:=pF Tryz.underlying29 gb;rcases ho with⟨rfl,rfl,rfl⟩|⟨x,rfl,aiZ,afW⟩
 ·exact⟨fun _=>od,0,0,0,0,none,_,[],_,s9.nil h0,fun j hj=>absurd hj (by omega),fun _=>z4,fun j hj=>absurd hj (by omega)⟩
 obtain⟨bk,off,spot⟩:=x;obtain rfl:spot=none:=afW.2.1;obtain⟨row,cells,hsh,_⟩:=afW.2.2;have ahY:∃cs t f,W.heap[bk]?=some (.cells cs t f):=by
  unfold World.shape? at hsh;split at hsh
  ·rename_i cs t f hh;exact⟨cs,t,f,hh⟩
  ·cases hsh
 obtain⟨cs,t,f,cD⟩:=ahY;rcases wv Tryz.underlying29 hrd (z:=11) rfl 5 (ts:=[5,3,33,23,4,3,3,3,3,4,4])with h0'|⟨a',afS,afT,h0',_,_,C,hC⟩
 ·simp at h0'
 simp only[Value.slice.injEq,Option.some.injEq]at h0';obtain⟨rfl,rfl,rfl⟩:=h0'
 let num:Value→Int:=fun v=>match v with|.int _ n=>n|_=>0
 let tv:Value→Bool:=fun v=>match v with|.bool b=>b|_=>false
 let sa:Value→Option Addr:=fun v=>match v with|.slice a _ _=>a|_=>none
 let sn:Value→Nat:=fun v=>match v with|.slice _ n _=>n|_=>0
 let sc:Value→Nat:=fun v=>match v with|.slice _ _ c=>c|_=>0
 have hB:∀k,k<c→C k 3=.slice (sa (C k 3)) (sn (C k 3)) (sc (C k 3))∧eE W (sa (C k 3)) (sn (C k 3)) (sc (C k 3)) (dt W (sa (C k 3))):=fun k hk=>by
  obtain⟨a,n,c',e,h⟩:=Ir ((hC k hk 3 (by omega)).2 _ rfl);rw[e];exact⟨rfl,h⟩
 have hI:∀k,k<c→∀j,(j=1∨j=5∨j=6∨j=7∨j=8)→C k j=.int .i64 (num (C k j))∧Sd.Bd (num (C k j)):=fun k hk j hj=>by
  have ht:([5,3,33,23,4,3,3,3,3,4,4]:List Nat)[j]?=some 3:=by
   rcases hj with rfl|rfl|rfl|rfl|rfl<;>rfl
  obtain⟨n,h1,h2⟩:=wu Tryz.underlying3 ((hC k hk j (by omega)).2 _ ht);rw[h1];refine⟨rfl,?_⟩;have h3:-9223372036854775808≤n∧n≤9223372036854775807:=by simpa[IntKind.min,IntKind.max,IntKind.signed,IntKind.bits]using h2
  exact h3
 have hE:∀k,k<c→C k 2=.int .i64 (num (C k 2)):=fun k hk=>by
  obtain⟨n,h1,_⟩:=wu Tryz.underlying33 ((hC k hk 2 (by omega)).2 _ rfl);rw[h1]
 have hK:∀k,k<c→C k 0=.int .u8 (num (C k 0))∧0≤num (C k 0):=fun k hk=>by
  obtain⟨n,h1,h2⟩:=wu Tryz.underlying5 ((hC k hk 0 (by omega)).2 _ rfl);rw[h1];have h3:0≤n∧n≤255:=by simpa[IntKind.min,IntKind.max,IntKind.signed,IntKind.bits]using h2
  exact⟨rfl,h3.1⟩
 have hT:∀k,k<c→∀j,(j=4∨j=9∨j=10)→C k j=.bool (tv (C k j)):=fun k hk j hj=>by
  have ht:([5,3,33,23,4,3,3,3,3,4,4]:List Nat)[j]?=some 4:=by
   rcases hj with rfl|rfl|rfl<;>rfl
  obtain⟨n,h1⟩:=Wt Tryz.underlying4 ((hC k hk j (by omega)).2 _ ht);rw[h1]
 let os:Nat→AI:=fun k=>if k<c then⟨num (C k 0),num (C k 1),num (C k 2),sa (C k 3),sn (C k 3),sc (C k 3),⟨tv (C k 4),⟨num (C k 5),num (C k 6),num (C k 7),num (C k 8)⟩,tv (C k 9)⟩,tv (C k 10)⟩else od
 have hos:∀k,k<c→os k=⟨num (C k 0),num (C k 1),num (C k 2),sa (C k 3),sn (C k 3),sc (C k 3),⟨tv (C k 4),⟨num (C k 5),num (C k 6),num (C k 7),num (C k 8)⟩,tv (C k 9)⟩,tv (C k 10)⟩:=fun k hk=>if_pos hk;have wK:∀q:Nat,(⟨bk,off,none⟩:Addr).add q=⟨bk,off+q,none⟩:=fun q=>by
  by_cases hq:q=0
  ·subst hq;rfl
  ·simp[Addr.add,hq]
 have AR:∀k,k<m→∀j,j<11→W.cell? ⟨bk,off+k*11+j,none⟩=(Wb os k)[j]?:=by
  intro k hk j hj;have wM:k<c:=by omega
  have h1:W.cell? ⟨bk,off+k*11+j,none⟩=some (C k j):=by
   have:=(hC k wM j hj).1;rw[wK]at this;rw[Nat.add_assoc];exact this
  rw[h1];have e:Wb os k=[.int .u8 (num (C k 0)),.int .i64 (num (C k 1)),.int .i64 (num (C k 2)),.slice (sa (C k 3)) (sn (C k 3)) (sc (C k 3)),.bool (tv (C k 4)),.int .i64 (num (C k 5)),.int .i64 (num (C k 6)),.int .i64 (num (C k 7)),.int .i64 (num (C k 8)),.bool (tv (C k 9)),.bool (tv (C k 10))]:=by
   unfold Wb;rw[hos k wM];rfl
  rw[e]
  match j,hj with
  |0,_=>rw[(hK k wM).1];rfl
  |1,_=>rw[(hI k wM 1 (by omega)).1];rfl
  |2,_=>rw[hE k wM];rfl
  |3,_=>rw[(hB k wM).1];rfl
  |4,_=>rw[hT k wM 4 (by omega)];rfl
  |5,_=>rw[(hI k wM 5 (by omega)).1];rfl
  |6,_=>rw[(hI k wM 6 (by omega)).1];rfl
  |7,_=>rw[(hI k wM 7 (by omega)).1];rfl
  |8,_=>rw[(hI k wM 8 (by omega)).1];rfl
  |9,_=>rw[hT k wM 9 (by omega)];rfl
  |10,_=>rw[hT k wM 10 (by omega)];rfl
  |j+11,h=>omega
 obtain⟨pre,post,hR⟩:=s9.some (z:=11) (g:=Wb os) hmc (fun j=>Ia os j) cD AR (by decide);refine⟨os,bk,off,m,c,_,_,pre,post,hR,fun j hj=>?_,fun j=>?_,fun j hj=>?_⟩
 ·rw[hos j (by omega)];exact(hB j (by omega)).2
 rotate_left
 ·rw[hos j (by omega)];exact(hK j (by omega)).2
 ·by_cases hj:j<c
  ·rw[hos j hj];exact⟨(hI j hj 5 (by omega)).2,(hI j hj 6 (by omega)).2,(hI j hj 7 (by omega)).2,(hI j hj 8 (by omega)).2⟩
  ·have:os j=od:=if_neg hj;rw[this];exact z4
theorem KD {W:World} {v:Value} (hv:Value.okWide Tryz.prog W .any 0 28 v) (hr:∀n,Rd Tryz.prog W n 28 v.cells.toList):
 ∃(q:Nat→Int) (ka:Nat→Option Addr) (kn kc:Nat→Nat),v=.agg (ta ⟨q,fun _=>(0,fun _=>0)⟩ ka kn kc).toArray∧∀j,j<4→eE W (ka j) (kn j) (kc j) (dt W (ka j)):=by
 obtain⟨q,ka,kn,kc,kb,rfl,hq,hk⟩:=KC hv hr;refine⟨q,ka,kn,kc,rfl,fun j hj=>?_⟩;have gb:∀n,Rd Tryz.prog W n 23 [.slice (ka j) (kn j) (kc j)]:=by
  have h5:(Fa q ka kn kc)[5+j]?=some (.slice (ka j) (kn j) (kc j)):=by
   match j,hj with
   |0,_=>rfl
   |1,_=>rfl
   |2,_=>rfl
   |3,_=>rfl
   |j+4,h=>exact absurd h (by omega)
  have AR:cellAt Tryz.prog 6 28 (5+j)=some 23:=by
   have e:j=0∨j=1∨j=2∨j=3:=by omega
   rcases e with rfl|rfl|rfl|rfl
   ·show cellAt Tryz.prog 6 28 5=some 23;kernel_rfl
   ·show cellAt Tryz.prog 6 28 6=some 23;kernel_rfl
   ·show cellAt Tryz.prog 6 28 7=some 23;kernel_rfl
   ·show cellAt Tryz.prog 6 28 8=some 23;kernel_rfl
  exact ry 6 (P:=Tryz.prog) (w:=W) (t:=28) (cs:=(Fa q ka kn kc).toList) (j:=5+j) hr AR (by simpa using h5)
 obtain⟨a,n,c,e,h⟩:=Ir gb;simp only[Value.slice.injEq]at e;obtain⟨rfl,rfl,rfl⟩:=e;exact h
end Go.Proofs.YtlkpikfddnjilaaGreatDoor
namespace Go.Proofs.YtlkpikfddnjilaaGreatDoor.coreRejects
open Go.ChangeShapes Go.WideShapes Go.ChangeAt Go.RowKit Go.Joins Sd Sx
theorem opened (H:Type) (enc:TypeId×Value→H) (W:World) (args:Array Value) (ds gs:List (DataW H)) (before:List MemPlace)
 (Rh:∀(j:Nat) t v,Tryz.f5.params[j]?=some t→args[j]?=some v→Value.okWide Tryz.prog W .any 0 t v)
 (hW:DataW.Whole enc Tryz.prog Tryz.f5.params.toList Rows.coreRejectsSpec.vars false W args.toList ds gs before) (hL:laidMetH Tryz.prog Q8 W):
 Rows.coreRejectsSpec.fn H (ds++gs)={results:=[.lit (.bool true)],args:=ds,vars:=[]}∧Calls Tryz.prog 5 args W fun e W'=>e=.returned (.bool true)∧Below W.heap.size W W':=by
 obtain⟨p,q,hA,hV,rfl,XR,Ry⟩:=hW;obtain⟨tG,hG⟩:=Q9 hL;obtain⟨tC,hC⟩:=Wv hL;rw[Tryz.params5]at hA Rh;obtain⟨v0,v1,d0,d1,p0,p1,ca,rfl,_,ht0,ht1⟩:=trodAll_two hA;obtain rfl:args=#[v0,v1]:=by cases args;simp_all
 obtain⟨rfl,rfl⟩:=trodVars_none hV;obtain⟨pq,ka,kn,kc,rfl,hk⟩:=KD (Rh 0 28 v0 rfl rfl) (fun n=>by obtain⟨fuel,h⟩:=ht0;exact Sx.jQ n h);have gb:=Dx Tryz.underlying29 rfl (Rh 1 29 v1 rfl rfl);have hrd:∀k,Sx.Rd Tryz.prog W k 29 [v1]:=fun k=>by
  obtain⟨a,m,c,rfl,_,_⟩:=pF Tryz.underlying29 gb;obtain⟨fuel,h2⟩:=ht1;exact Sx.jQ k h2
 obtain⟨os,i,o,n,c,a,ty,pre,post,hR,hO⟩:=Rg gb hrd hG;exact⟨rfl,Sx.Iv (Q7 hG hC pq ka kn kc hk hR hO)⟩
theorem own:ownKnob Tryz.prog.godebug=none:=by kernel_rfl
def Is:List (String×DataW Unit):=[("sidestick/gate.commands",Rows.laid_sidestick_gate_commands),("sidestick/sha.roots",Rows.laid_sidestick_sha_roots)]
theorem Ri (os:Os) (args:Array Value):laidMetH Tryz.prog Is ((World.doorLaid Tryz.prog 400 os).forCall (fun _ _=>0) ⟨#[],args,[]⟩).memory:=
 laidMetH_of_parts3 (fuel:=8) (laidMet_of_run' 8 (by kernel_rfl) (by kernel_rfl)) (by kernel_rfl) (by kernel_rfl)
theorem lifted (os:Os) (started:os.Started) (H:Type) (enc:TypeId×Value→H):
 ReturnsInHanded {} Tryz.checked os 5 .any (fun w args=>(Rows.coreRejectsSpec.pre enc Tryz.prog Tryz.f5 [] false w args∧laidMetH Tryz.prog Is w)∧sizedMet enc Tryz.prog Tryz.f5 (OpenSpec.ofChange Rows.coreRejectsSpec) false w args)
  (Rows.coreRejectsSpec.post enc Tryz.prog Tryz.f5 false true false false):=by
 refine returnsInHanded_of_change_and (C:=Tryz.checked) (X:=fun w _=>laidMetH Tryz.prog Is w) (fun _ _ _ hh h=>h.of_heap hh) own started (by kernel_rfl) Tryz.func5
  (ChangeSpec.witness_shaped (enc:=enc) (C:=Tryz.checked) (os:=os) (X:=fun w _=>laidMetH Tryz.prog Is w) false (World.doorLaid Tryz.prog 400 os) #[.agg #[.int .i64 0,.int .i64 0,.int .i64 0,.int .i64 0,.int .i64 0,.slice none 0 0,.slice none 0 0,.slice none 0 0,.slice none 0 0,.int .i64 0,.int .i64 0,.int .i64 0,.int .i64 0,.int .i64 0,.int .i64 0,.int .i64 0,.int .i64 0,.int .i64 0,.int .i64 0,.int .i64 0,.int .i64 0,.int .i64 0,.int .i64 0,.int .i64 0,.int .i64 0,.int .i64 0,.int .i64 0,.int .i64 0,.int .i64 0,.int .i64 0,.int .i64 0,.int .i64 0,.int .i64 0,.int .i64 0,.int .i64 0,.int .i64 0,.int .i64 0,.int .i64 0,.int .i64 0,.int .i64 0,.int .i64 0,.int .i64 0,.int .i64 0,.int .i64 0,.int .i64 0,.int .i64 0,.int .i64 0,.int .i64 0,.int .i64 0,.int .i64 0,.int .i64 0,.int .i64 0,.int .i64 0,.int .i64 0,.int .i64 0,.int .i64 0],.slice none 0 0] 8 rfl (World.shaped_of_RefB (by kernel_rfl) (by kernel_rfl)) (by kernel_rfl) (by kernel_rfl) (by kernel_rfl) (Ri os _)) ?_
 intro W base args ds gs before Rh hW _ _ hL _;obtain⟨hs,hc⟩:=opened H enc W args ds gs before Rh hW hL;refine hc.mono fun e W' ⟨he,hb⟩=>⟨_,he,?_⟩;exact Q_ (by kernel_rfl) (by kernel_rfl) rfl (by kernel_rfl) Tryz.underlying4 hs hW hb
end Go.Proofs.YtlkpikfddnjilaaGreatDoor.coreRejects
namespace Go.Proofs.YtlkpikfddnjilaaGreatDoor.coreRejects
theorem closed:joinedFacts Tryz.pinned.checked.prog 5 Tryz.f5 Rows.coreRejectsSpec Rows.coreRejectsRow=true:=by kernel_rfl
open Go.ChangeShapes Go.WideShapes Go.ChangeAt Go.RowKit Go.Joins Sd Sx
theorem said:Rows.CoreRejectsSaid:=
 OpenClaim.holds_of_wide 5 Tryz.f5 rfl rfl rfl rfl rfl rfl rfl ⟨rfl,rfl,rfl,rfl,rfl⟩ rfl rfl rfl rfl rfl (by kernel_rfl) Tryz.func5 closed
  (of_decide_eq_true (by kernel_rfl)) (by unfold Func.isWrapper;first|(rw[if_pos (by decide+kernel)];kernel_rfl)|(rw[if_neg (by decide+kernel)];exact⟨rfl,rfl⟩))
  (fun os started H enc _=>lifted os started H enc)
theorem proved:Rows.CoreRejectsCardSaid:=
 Claim7.holds_tied_plain_at .later [] [.data,.data] true Rows.coreRejectsCard.stood.harness true
  said (fun _ h=>by cases h) (by kernel_rfl) (fun _ h=>by cases h) coreRejects_row_tie rfl ⟨rfl,rfl⟩ (by kernel_rfl) rfl
  (fun f fn hf hfn=>by
   obtain rfl:f=5:=Option.some.inj ((show Tryz.prog.funcNamed "sidestick/sidesticklaw24.CoreRejects" =some 5 by kernel_rfl).symm.trans hf)|>.symm;obtain rfl:fn=Tryz.f5:=(Option.some.inj (Tryz.func5.symm.trans hfn)).symm;exact⟨by kernel_rfl,fun j t ht=>by
    have dc:(Tryz.f5.params.toList.all fun u=>!Tryz.prog.wantsStandIn u)=true:=by kernel_rfl
    have hm:t∈Tryz.f5.params.toList:=by simpa using Array.mem_of_getElem? ht
    exact(show Tryz.prog.wantsStandIn t=false by simpa using List.all_eq_true.1 dc t hm)⟩)
  (by kernel_rfl)
end Go.Proofs.YtlkpikfddnjilaaGreatDoor.coreRejects
