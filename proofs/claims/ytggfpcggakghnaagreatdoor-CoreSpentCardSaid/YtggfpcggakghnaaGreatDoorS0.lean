/- Part 0 of the proof. -/
import Derived.WalkKit
import Derived.Below
import Derived.BigFrame
import Derived.KernelRfl
import Derived.LoopN
import Derived.Laws.CopyRow
import Derived.Laws.StructEq
import Derived.ChangeKeysEq
import Derived.IntWalk
import Derived.Orders
import Derived.Deep.Upon
set_option linter.all false
set_option maxRecDepth 100000
set_option maxHeartbeats 4000000
namespace Sx
open Go Go.RowKit Go.BigFrame
structure Ch (ms:List Nat) (w w':World):Prop where
 os:w'.os=w.os
 tape:w'.tape=w.tape
 output:w'.output=w.output
 size:w.heap.size<=w'.heap.size
 block:∀k,k<w.heap.size->k∉ms->w'.heap[k]?=w.heap[k]?
theorem Ch.refl (ms:List Nat) (w:World):Ch ms w w:=⟨rfl,rfl,rfl,Nat.le_refl _,λ_ _ _=>rfl⟩
theorem Ch.trans {ms ns:List Nat} {a b c:World} (h:Ch ms a b) (k:Ch ns b c) (hs:∀x∈ns,x∈ms\/a.heap.size<=x):Ch ms a c:=
 ⟨k.os.trans h.os,k.tape.trans h.tape,k.output.trans h.output,Nat.le_trans h.size k.size,λi hi hm=>
  (k.block i (Nat.lt_of_lt_of_le hi h.size) (λhn=>by rcases hs i hn with h1|h1;exact hm h1;omega)).trans (h.block i hi hm)⟩
theorem Ch.below {w w':World} (h:Ch [] w w'):Below w.heap.size w w':=⟨h.os,h.tape,h.output,h.size,λk hk=>h.block k hk (by simp)⟩
theorem Ch.drew {ms:List Nat} {w w':World} (h:Ch ms w w'):Ch ms w {w' with drawn:=w'.drawn+1}:=⟨h.os,h.tape,h.output,h.size,h.block⟩
theorem Ch.alloc (ms:List Nat) (w:World) (o:Obj):Ch ms w (w.alloc o):=
 ⟨rfl,rfl,rfl,by show w.heap.size<=(w.heap.push o).size;simp,λk hk _=>Below.heap_alloc _ _ _ hk⟩
theorem Ch.setRow (w:World) (g:Nat) (cs:Array Value):Ch [g] w (w.setRow g cs):=
 ⟨rfl,rfl,rfl,by simp[World.setRow],λk hk hm=>by
  simp only[World.setRow,Array.getElem?_modify];rw[if_neg (by intro e;exact hm (by simp[e]))]⟩
structure av where
 id:Nat
 wr:Bool
 obj:Obj
structure St (ms:List Nat) (w0:World) (bs:List av) (w:World):Prop where
 ch:Ch ms w0 w
 at_:∀(i:Nat) x,bs[i]?=some x->w.heap[x.id]?=some x.obj
 own:∀(i:Nat) x,bs[i]?=some x->x.wr=true->x.id∈ms\/w0.heap.size<=x.id
 apart:∀(i j:Nat) x y,bs[i]?=some x->bs[j]?=some y->i≠j->x.wr=true->x.id≠y.id
theorem fW {w:World} {k:Nat} {x:Obj} (h:w.heap[k]?=some x):k<w.heap.size:=by
 rcases Nat.lt_or_ge k w.heap.size with h1|h1
 ·exact h1
 ·simp[h1]at h
theorem St.nil (ms:List Nat) (w:World):St ms w [] w:=⟨Ch.refl _ _,by simp,by simp,by simp⟩
theorem St.quiet {ms:List Nat} {w0 w w':World} {bs:List av} (h:St ms w0 bs w) (hc:Ch [] w w'):St ms w0 bs w':=
 ⟨h.ch.trans hc (by simp),λi x hx=>(hc.block _ (fW (h.at_ i x hx)) (by simp)).trans (h.at_ i x hx),h.own,h.apart⟩
theorem St.step {ms:List Nat} {w0 w w':World} {bs:List av} (h:St ms w0 bs w) {i:Nat} {x:av} (hi:bs[i]?=some x) (hx:x.wr=true) (hc:Ch [x.id] w w') {o':Obj} (ho:w'.heap[x.id]?=some o'):
 St ms w0 (bs.set i ⟨x.id,true,o'⟩) w':=by
 have uC:∀(j:Nat) y,(bs.set i ⟨x.id,true,o'⟩)[j]?=some y->(j=i/\y=⟨x.id,true,o'⟩)\/(j≠i/\bs[j]?=some y):=by
  intro j y hy;by_cases hj:i=j
  ·subst hj;rw[List.getElem?_set_self (by rcases Nat.lt_or_ge i bs.length with h1|h1;exact h1;simp[h1]at hi)]at hy;exact Or.inl ⟨rfl,by simpa using hy.symm⟩
  ·rw[List.getElem?_set_ne hj]at hy;exact Or.inr ⟨λe=>hj e.symm,hy⟩
 refine⟨h.ch.trans hc (by simpa using h.own i x hi hx),?_,?_,?_⟩
 ·intro j y hy;rcases uC j y hy with⟨rfl,rfl⟩|⟨e_,hy⟩
  ·exact ho
  ·exact(hc.block _ (fW (h.at_ j y hy)) (by simpa using(h.apart i j x y hi hy (λe=>e_ e.symm) hx).symm)).trans (h.at_ j y hy)
 ·intro j y hy hw;rcases uC j y hy with⟨rfl,rfl⟩|⟨_,hy⟩
  ·exact h.own _ x hi hx
  ·exact h.own j y hy hw
 ·intro j k y z hy hz e_ hw;rcases uC j y hy with⟨rfl,rfl⟩|⟨h1,hy⟩<;>rcases uC k z hz with⟨rfl,rfl⟩|⟨h2,hz⟩
  ·exact absurd rfl e_
  ·exact h.apart _ k x z hi hz (λe=>h2 e.symm) hx
  ·exact λe=>h.apart _ j x y hi ‹bs[j]?=some y› (λe=>h1 e.symm) hx e.symm
  ·exact h.apart _ _ _ _ ‹bs[j]?=some y› hz e_ hw
theorem St.new {ms:List Nat} {w0 w w':World} {bs:List av} (h:St ms w0 bs w) (hc:Ch [] w w') {b:Nat} {o:Obj} (hb:w.heap.size<=b) (ho:w'.heap[b]?=some o):St ms w0 (⟨b,true,o⟩::bs) w':=by
 have hq:=h.quiet hc;have iK:∀(i:Nat) x,bs[i]?=some x->x.id<b:=λi x hx=>Nat.lt_of_lt_of_le (fW (h.at_ i x hx)) hb;refine⟨hq.ch,?_,?_,?_⟩
 ·intro i x hx;cases i with
  |zero=>obtain rfl:_=x:=by simpa using hx
         exact ho
  |succ i=>exact hq.at_ i x (by simpa using hx)
 ·intro i x hx hw;cases i with
  |zero=>obtain rfl:_=x:=by simpa using hx
         exact Or.inr (Nat.le_trans h.ch.size hb)
  |succ i=>exact hq.own i x (by simpa using hx) hw
 ·intro i j x y hx hy e_ hw;cases i with
  |zero=>
   obtain rfl:_=x:=by simpa using hx
   cases j with
   |zero=>exact absurd rfl e_
   |succ j=>have:=iK j y (by simpa using hy);simp;omega
  |succ i=>
   cases j with
   |zero=>obtain rfl:_=y:=by simpa using hy
          have:=iK i x (by simpa using hx);simp;omega
   |succ j=>exact hq.apart i j x y (by simpa using hx) (by simpa using hy) (by omega) hw
theorem St.lt {ms:List Nat} {w0 w:World} {bs:List av} (h:St ms w0 bs w) {i:Nat} {x:av} (hi:bs[i]?=some x):x.id<w.heap.size:=fW (h.at_ i x hi)
theorem St.pick {ms:List Nat} {w0 w:World} {bs:List av} (h:St ms w0 bs w) (is:List Nat) {bs':List av} (he:is.map (bs[·]?)=bs'.map some) (hn:is.Nodup):St ms w0 bs' w:=by
 have ba:∀(i:Nat) x,bs'[i]?=some x->∃j,is[i]?=some j/\bs[j]?=some x:=by
  intro i x hx;have h1:(bs'.map some)[i]?=some (some x):=by simp[hx]
  rw[<-he]at h1;simp only[List.getElem?_map,Option.map_eq_some_iff]at h1;exact h1
 refine⟨h.ch,?_,?_,?_⟩
 ·intro i x hx;obtain⟨j,_,hj⟩:=ba i x hx;exact h.at_ j x hj
 ·intro i x hx;obtain⟨j,_,hj⟩:=ba i x hx;exact h.own j x hj
 ·intro i k x y hx hy e_;obtain⟨j,Cc,hj⟩:=ba i x hx;obtain⟨l,HP,hl⟩:=ba k y hy;refine h.apart j l x y hj hl ?_;intro e;subst e;exact e_ ((List.getElem?_inj (by rcases Nat.lt_or_ge i is.length with h1|h1;exact h1;simp[h1]at Cc) hn).1 (Cc.trans HP.symm))
def jt (d:TypeDesc):Bool:=match d with|.struct _|.array _ _=>true|_=>false
section
variable{P:Program}
theorem iq {ty:TypeId} {b:Bool} (h:(P.underlying ty).map jt=some b) (w:World):(isAgg ty).run P w=.ok b w:=by
 cases hq:P.underlying ty with
 |none=>simp[hq]at h
 |some d=>
  simp[hq]at h;unfold isAgg;rw[Sem.run_bind,run_underlying hq w];cases d<;>simp_all[jt]
theorem cell_of {w:World} {g:Nat} {cs:Array Value} {t:TypeId} {fr:Nat×Nat} (h:w.heap[g]?=some (.cells cs t fr)) (o:Nat):w.cell? ⟨g,o,none⟩=cs[o]?:=by
 simp[World.cell?,h]
theorem jF {w:World} {g off:Nat} {cs:Array Value} {t ty:TypeId} {fr:Nat×Nat} {v:Value} (hg:w.heap[g]?=some (.cells cs t fr)) (ha:(P.underlying ty).map jt=some false) (hc:cs[off]?=some v):
 (loadVar ty ⟨g,off,none⟩).run P w=.ok v w:=by
 unfold loadVar;rw[Sem.run_bind,iq ha];simp[load,Sem.run,cell_of hg,hc]
theorem kM {w:World} {g off n:Nat} {cs vs:Array Value} {t ty:TypeId} {fr:Nat×Nat} (hg:w.heap[g]?=some (.cells cs t fr)) (ha:(P.underlying ty).map jt=some true) (hn:(P.info? ty).map (·.size)=some n)
 (hc:cs.extract off (off+n)=vs) (hv:vs.size=n):(loadVar ty ⟨g,off,none⟩).run P w=.ok (.agg vs) w:=by
 have hl:(loadCells ⟨g,off,none⟩ vs.toList.length).run P w=.ok vs.toList.toArray w:=
  run_loadCells_list (P:=P) w ⟨g,off,none⟩ vs.toList (λj v hj=>by
   have OU:(⟨g,off,none⟩:Addr).add j=⟨g,off+j,none⟩:=by unfold Addr.add;split<;>simp_all
   rw[OU,cell_of hg];have h1:vs[j]?=some v:=by simpa using hj
   rw[<-hc,Array.getElem?_extract]at h1;split at h1
   ·exact h1
   ·exact absurd h1 (by simp))
 cases hq:P.info? ty with
 |none=>simp[hq]at hn
 |some i=>
  have hs:i.size=vs.size:=by simpa[hq,hv]using hn
  simp only[Array.length_toList,Array.toArray_toList]at hl;simp[loadVar,Sem.run_bind,iq ha,Go.sizeOf,typeInfo,hq,hs,hl]
def splice (cs:Array Value) (off:Nat) (vs:List Value):Array Value:=(cs.toList.take off++vs++cs.toList.drop (off+vs.length)).toArray
theorem ly {w:World} {g off:Nat} {cs:Array Value} {t ty:TypeId} {v:Value} {vs:List Value} (hg:w.heap[g]?=some (.cells cs t (0,0))) (hv:v.cells.toList=vs) (hn:(P.info? ty).map (·.size)=some vs.length)
 (hl:off+vs.length<=cs.size) (h1:vs.all (·.oneCell')=true):(storeVar ty ⟨g,off,none⟩ v).run P w=.ok () (w.setRow g (splice cs off vs)):=by
 cases hq:P.info? ty with
 |none=>simp[hq]at hn
 |some i=>
  have hs:i.size=vs.length:=by simpa[hq]using hn
  have hz:v.cells.size=vs.length:=by rw[<-hv];simp
  have:=run_storeCells_at (P:=P) g off t vs 0 cs w hg (by simpa using hl) (by simpa using h1);unfold storeVar;simp[Sem.run_bind,Go.sizeOf,typeInfo,hq,hs,hz,hv,splice]at this⊢;exact this
end
def aj (P:Program) (f:FuncId) (args:Array Value) (w:World) (R:Value->World->Prop):Prop:=Calls P f args w λe w'=>∃v,e=.returned v/\R v w'
theorem aj.mono {P:Program} {f:FuncId} {args:Array Value} {w:World} {R R':Value->World->Prop} (h:aj P f args w R) (hr:∀v w',R v w'->R' v w'):aj P f args w R':=
 Calls.mono h λe w' ⟨v,he,hv⟩=>⟨v,he,hr _ _ hv⟩
def lk (bs:List av) (i off:Nat):Option (Nat×Value):=
 match bs[i]?with
 |some ⟨b,_,.cells cs _ _⟩=>match cs[off]?with|some v=>some (b,v)|none=>none
 |_=>none
def HR (bs:List av) (i off n:Nat):Option (Nat×Array Value):=
 match bs[i]?with
 |some ⟨b,_,.cells cs _ _⟩=>match Nat.ble (off+n) cs.size with|true=>some (b,((cs.toList.drop off).take n).toArray)|false=>none
 |_=>none
def Ib (bs:List av) (i off n:Nat):Option Nat:=
 match bs[i]?with
 |some ⟨b,true,.cells cs _ (0,0)⟩=>match Nat.ble (off+n) cs.size with|true=>some b|false=>none
 |_=>none
def Wd (bs:List av) (i off:Nat) (vs:List Value):List av:=
 match bs[i]?with
 |some ⟨b,wr,.cells cs t fr⟩=>bs.set i ⟨b,wr,.cells (splice cs off vs) t fr⟩
 |_=>bs
theorem aa3 {bs:List av} {i off b:Nat} {v:Value} (h:lk bs i off=some (b,v)):∃wr cs t fr,bs[i]?=some ⟨b,wr,.cells cs t fr⟩/\cs[off]?=some v:=by
 unfold lk at h;split at h
 ·rename_i b' wr cs t fr hb;split at h
  ·rename_i v' hv;simp only[Option.some.injEq,Prod.mk.injEq]at h;obtain⟨rfl,rfl⟩:=h;exact⟨wr,cs,t,fr,hb,hv⟩
  ·simp at h
 ·simp at h
theorem Aa {bs:List av} {i off n b:Nat} {vs:Array Value} (h:HR bs i off n=some (b,vs)):∃wr cs t fr,bs[i]?=some ⟨b,wr,.cells cs t fr⟩/\cs.extract off (off+n)=vs/\vs.size=n:=by
 unfold HR at h;split at h
 ·rename_i b' wr cs t fr hb;split at h
  ·rename_i hle;simp only[Option.some.injEq,Prod.mk.injEq]at h;obtain⟨rfl,rfl⟩:=h;have:=Nat.le_of_ble_eq_true hle;have e:cs.extract off (off+n)=((cs.toList.drop off).take n).toArray:=by
    apply Array.ext';simp[List.extract]
   exact⟨wr,cs,t,fr,hb,e,by simp;omega⟩
  ·simp at h
 ·simp at h
theorem Ab {bs:List av} {i off n b:Nat} (h:Ib bs i off n=some b):∃cs t,bs[i]?=some ⟨b,true,.cells cs t (0,0)⟩/\off+n<=cs.size:=by
 unfold Ib at h;split at h
 ·rename_i b' cs t hb;split at h
  ·rename_i hle;simp only[Option.some.injEq]at h;obtain rfl:=h;exact⟨cs,t,hb,Nat.le_of_ble_eq_true hle⟩
  ·simp at h
 ·simp at h
structure WL (P:Program) (ops:Array Oper) (Q:Exit->Act->World->Prop) (l:List Oper) (a:Act) (w:World):Prop where
 out:wpList P ops Q l a w
theorem WL.want {P:Program} {ops:Array Oper} {Q:Exit->Act->World->Prop} {a:Act} {w:World} {rest:List Oper} {o:Oper} (hw:Region.wanted o (yielded ops a.tmps)=true)
 (h:∀K:Act->World->Prop,(∀a w,WL P ops Q rest a w->K a w)->o.wp P a w K Q):WL P ops Q (o::rest) a w:=⟨wpList_want hw λK hK=>h K λa w x=>hK a w x.out⟩
section
variable{P:Program} {ops:Array Oper} {rest:List Oper} {o:Oper} {a:Act} {w w0:World} {ms:List Nat} {bs:List av} {Q:Exit->Act->World->Prop}
theorem aa (v:Value) (k:WL P ops Q rest (a.put o.dst v) w) (hw:Region.wanted o (yielded ops a.tmps)=true:=by kernel_rfl) (h:(execOp a.eval o).run P w=.ok (.value v) w:=by kernel_rfl):WL P ops Q (o::rest) a w:=
 WL.want hw λK hK=>by unfold Oper.wp;rw[h];exact hK _ _ k
theorem qg (k:WL P ops Q rest (a.put o.dst undef) w) (hw:Region.wanted o (yielded ops a.tmps)=false:=by kernel_rfl):WL P ops Q (o::rest) a w:=⟨wpList_skip hw k.out⟩
theorem ir (S:St ms w0 bs w) (i:Nat) (v:Value) (b off:Nat) {x:Operand} {ty:TypeId} (k:WL P ops Q rest (a.put o.dst v) w) (hw:Region.wanted o (yielded ops a.tmps)=true:=by kernel_rfl) (ho:o.op=.load ty x:=by rfl) (hx:a.eval x=.pointer (some ⟨b,off,none⟩):=by kernel_rfl)
 (ha:(P.underlying ty).map jt=some false:=by kernel_rfl) (hb:lk bs i off=some (b,v):=by kernel_rfl):WL P ops Q (o::rest) a w:=
 WL.want hw λK hK=>by
  obtain⟨wr,cs,t,fr,hb,hc⟩:=aa3 hb;unfold Oper.wp execOp;simp only[ho,hx,Instr.loadAt,Instr.sureAddr,Sem.run_bind,Sem.run_pure,Result.andThen_ok,jF (S.at_ i _ hb) ha hc];exact hK _ _ k
theorem eC (S:St ms w0 bs w) (i:Nat) (n:Nat) (vs:Array Value) (b off:Nat) {x:Operand} {ty:TypeId} (k:WL P ops Q rest (a.put o.dst (.agg vs)) w) (hw:Region.wanted o (yielded ops a.tmps)=true:=by kernel_rfl) (ho:o.op=.load ty x:=by rfl) (hx:a.eval x=.pointer (some ⟨b,off,none⟩):=by kernel_rfl)
 (ha:(P.underlying ty).map jt=some true:=by kernel_rfl) (hn:(P.info? ty).map (·.size)=some n:=by kernel_rfl) (hb:HR bs i off n=some (b,vs):=by kernel_rfl):WL P ops Q (o::rest) a w:=
 WL.want hw λK hK=>by
  obtain⟨wr,cs,t,fr,hb,hc,hv⟩:=Aa hb;unfold Oper.wp execOp;simp only[ho,hx,Instr.loadAt,Instr.sureAddr,Sem.run_bind,Sem.run_pure,Result.andThen_ok,kM (S.at_ i _ hb) ha hn hc hv];exact hK _ _ k
theorem store_ (S:St ms w0 bs w) (i:Nat) (v:Value) (b off:Nat) {x y:Operand} {ty:TypeId} (k:∀w',St ms w0 (Wd bs i off v.cells.toList) w'->WL P ops Q rest (a.put o.dst undef) w') (hw:Region.wanted o (yielded ops a.tmps)=true:=by kernel_rfl) (ho:o.op=.store ty x y:=by rfl) (hx:a.eval x=.pointer (some ⟨b,off,none⟩):=by kernel_rfl) (hy:a.eval y=v:=by kernel_rfl)
 (hn:(P.info? ty).map (·.size)=some v.cells.toList.length:=by kernel_rfl) (h1:v.cells.toList.all (·.oneCell')=true:=by kernel_rfl) (hb:Ib bs i off v.cells.toList.length=some b:=by kernel_rfl):WL P ops Q (o::rest) a w:=
 WL.want hw λK hK=>by
  obtain⟨cs,t,hb,hl⟩:=Ab hb;unfold Oper.wp execOp;have ba:=S.at_ i _ hb;simp only[ho,hx,hy,Instr.storeAt,Instr.sureAddr,Sem.run_bind,Sem.run_pure,Result.andThen_ok,ly (P:=P) ba rfl hn hl h1];refine hK _ _ (k _ ?_);have:=S.step hb rfl (Ch.setRow w b _) (setRow_heap w b cs (splice cs off v.cells.toList) t (0,0) ba);simpa[Wd,hb]using this
theorem bY {x:Operand} (k:WL P ops Q rest (a.put o.dst (a.eval x)) w) (hw:Region.wanted o (yielded ops a.tmps)=true:=by kernel_rfl) (ho:o.op=.move x:=by rfl):WL P ops Q (o::rest) a w:=
 aa _ k hw (by unfold execOp;simp[ho])
theorem bJ {x:Operand} (k:WL P ops Q rest (a.put o.dst (a.eval x)) w) (hw:Region.wanted o (yielded ops a.tmps)=true:=by kernel_rfl) (ho:o.op=.assign x:=by rfl):WL P ops Q (o::rest) a w:=
 aa _ k hw (by unfold execOp;simp[ho])
theorem gV (v v':Value) (he:v=v') (k:WL P ops Q rest (a.put o.dst v') w) (hw:Region.wanted o (yielded ops a.tmps)=true:=by kernel_rfl) (h:(execOp a.eval o).run P w=.ok (.value v) w:=by kernel_rfl):WL P ops Q (o::rest) a w:=by
 subst he;exact aa v k hw h
theorem lz (kd:IntKind) (e:Int) (he:kd.wrap e=e) (k:WL P ops Q rest (a.put o.dst (.int kd e)) w) (hw:Region.wanted o (yielded ops a.tmps)=true:=by kernel_rfl) (h:(execOp a.eval o).run P w=.ok (.value (.int kd (kd.wrap e))) w:=by kernel_rfl):WL P ops Q (o::rest) a w:=
 gV _ _ (by rw[he]) k hw h
theorem aa4 (t:Nat) (b:Bool) (ht:b=true->WL P ops Q rest (a.put (some t) (.bool true)) w) (hf:b=false->WL P ops Q rest (a.put (some t) (.bool false)) w) (hv:a.tmps[t]?=some (.bool b):=by kernel_rfl):WL P ops Q rest a w:=by
 have hs:a.put (some t) (.bool b)=a:=by
  obtain⟨tmps,ds⟩:=a;have e:tmps.setIfInBounds t (.bool b)=tmps:=by
   apply Array.ext_getElem?;intro i;rw[Array.getElem?_setIfInBounds];have hv':tmps[t]?=some (.bool b):=hv;by_cases h:t=i
   ·subst h;rw[if_pos rfl];by_cases h2:t<tmps.size
    ·rw[if_pos h2];exact hv'.symm
    ·rw[if_neg h2];rw[Array.getElem?_eq_none (by omega)]at hv';exact absurd hv' (by simp)
   ·rw[if_neg h]
  simp only[Act.put,e]
 cases b
 ·rw[<-hs];exact hf rfl
 ·rw[<-hs];exact ht rfl
theorem eD (S:St ms w0 bs w) (f:Nat->Value) (obj:Obj) (k:∀b w',St ms w0 (⟨b,true,obj⟩::bs) w'->WL P ops Q rest (a.put o.dst (f b)) w') (hw:Region.wanted o (yielded ops a.tmps)=true:=by kernel_rfl) (h:(execOp a.eval o).run P w=.ok (.value (f w.heap.size)) (w.alloc obj):=by kernel_rfl):WL P ops Q (o::rest) a w:=
 WL.want hw λK hK=>by
  unfold Oper.wp;rw[h];exact hK _ _ (k _ _ (S.new (Ch.alloc _ _ _) (Nat.le_refl _) (heap_alloc_new w obj)))
theorem dh (f:FuncId) (args:Array Value) (k:aj P f args w λv w'=>WL P ops Q rest (a.put o.dst v) w') (hw:Region.wanted o (yielded ops a.tmps)=true:=by kernel_rfl) (h:(execOp a.eval o).run P w=.ok (.enter f args) w:=by kernel_rfl):WL P ops Q (o::rest) a w:=
 WL.want hw λK hK=>by
  unfold Oper.wp;rw[h];refine Calls.mono k ?_;rintro e w' ⟨v,rfl,hk⟩;exact hK _ _ hk
end
section
variable{P:Program} {a:Act} {w:World} {Q:Exit->Act->World->Prop}
theorem dz {f:FuncId} {fn:Func} {c:Code} {args:Array Value} {R:Value->World->Prop} (hf:P.funcs[f]?=some fn) (hb:fn.body=some c)
 (h:c.wp P (bodyPost P fn (λe w'=>∃v,e=.returned v/\R v w')) ⟨args++Array.replicate (fn.ntmps-args.size) undef,[]⟩ w):aj P f args w R:=by
 exact calls_of_wp hf hb h
theorem au {x y:Code} (h:x.wp P (Exit.then (y.wp P Q) Q) a w):(Code.seq x y).wp P Q a w:=wp_seq h
theorem ax {id:Nat} {l:List Oper} (h:WL P l.toArray Q l a w):(Code.region id l.toArray false).wp P Q a w:=wp_region_lit h.out
theorem aw {ops:Array Oper} (h:Q .normal a w):WL P ops Q [] a w:=⟨h⟩
theorem ag {y:Code} (h:y.wp P Q a w):Exit.then (y.wp P Q) Q .normal a w:=h
theorem OV {K:Act->World->Prop} (h:Q .ret a w):Exit.then K Q .ret a w:=h
theorem fy {K:Act->World->Prop} {id:Nat} (h:Q (.exit id) a w):Exit.then K Q (.exit id) a w:=h
theorem ik {id:Nat} (h:Q .normal a w):Exit.inBlock id Q .normal a w:=h
theorem qh {id:Nat} (h:Q .normal a w):Exit.inBlock id Q (.exit id) a w:=by simpa[Exit.inBlock]using h
theorem CD {c:Code} (n:Nat) (h:c.wp P (Exit.then (Code.rounds P c Q n) Q) a w):(Code.loop c).wp P Q a w:=wp_loop_rounds (n+1) h
theorem lA {c:Code} {n:Nat} (h:c.wp P (Exit.then (Code.rounds P c Q n) Q) a w):Exit.then (Code.rounds P c Q (n+1)) Q .normal a w:=h
theorem gn {fn:Func} {R:Value->World->Prop} {v:Value} (hd:a.defers=[]) (hr:(results fn a.tmps).run P w=.ok v w) (h:R v w):bodyPost P fn (λe w'=>∃v,e=.returned v/\R v w') .ret a w:=
 ⟨hd,v,hr,v,rfl,h⟩
theorem end_ {fn:Func} {R:Value->World->Prop} {v:Value} (hd:a.defers=[]) (hr:(results fn a.tmps).run P w=.ok v w) (h:R v w):bodyPost P fn (λe w'=>∃v,e=.returned v/\R v w') .normal a w:=
 ⟨hd,v,hr,v,rfl,h⟩
def mM (tmps:Array Value):ResultVar->Sem Value
 |.tmp t=>pure (tmps.getD t undef)
 |.cell a t=>do loadVar t (<-asAddr (tmps.getD a undef))
def Ac (P:Program) (w:World) (tmps:Array Value):List ResultVar->List Value->Prop
 |[],[]=>True
 |r::rs,v::vs=>(mM tmps r).run P w=.ok v w/\Ac P w tmps rs vs
 |_,_=>False
theorem CE {tmps:Array Value}:∀{rs:List ResultVar} {vs:List Value},Ac P w tmps rs vs->(rs.mapM (mM tmps)).run P w=.ok vs w
 |[],[],_=>rfl
 |r::rs,v::vs,⟨h,hs⟩=>by
  simp only[List.mapM_cons,Sem.run_bind,h,Result.andThen_ok,CE hs];rfl
 |[],_::_,h=>h.elim
 |_::_,[],h=>h.elim
def Ad:List Value->Value
 |[v]=>v
 |vs=>.tuple vs.toArray
theorem fY {fn:Func} {tmps:Array Value} (rs:List ResultVar) (vs:List Value) (v:Value) (h:Ac P w tmps rs vs) (hf:fn.results=rs.toArray:=by kernel_rfl) (hv:Ad vs=v:=by kernel_rfl):(results fn tmps).run P w=.ok v w:=by
 subst hv;have h1:results fn tmps=(do let vs <-fn.results.mapM (mM tmps);pure (if h:vs.size=1 then vs[0]else .tuple vs)):=by
  unfold results;congr 2
 rw[h1,hf,List.mapM_toArray];simp only[Sem.run_map,CE h,Result.andThen_ok,bind_pure_comp,Functor.map_map];rcases vs with _|⟨v,_|⟨u,vs⟩⟩<;>simp[Ad]
theorem cM {tmps:Array Value} {t:Nat} {v:Value} (h:tmps.getD t undef=v:=by kernel_rfl):(mM tmps (.tmp t)).run P w=.ok v w:=by subst h;rfl
theorem cU {ms:List Nat} {w0:World} {bs:List av} (S:St ms w0 bs w) (i n b off:Nat) {tmps vs:Array Value} {t ty:Nat} (h:tmps.getD t undef=.pointer (some ⟨b,off,none⟩):=by kernel_rfl)
 (ha:(P.underlying ty).map jt=some true:=by kernel_rfl) (hn:(P.info? ty).map (·.size)=some n:=by kernel_rfl) (hb:HR bs i off n=some (b,vs):=by kernel_rfl):(mM tmps (.cell t ty)).run P w=.ok (.agg vs) w:=by
 obtain⟨wr,cs,t,fr,hb,hc,hv⟩:=Aa hb;simp only[mM,h,Sem.run_bind,asAddr,Sem.run_pure,Result.andThen_ok,kM (S.at_ i _ hb) ha hn hc hv]
end
section
variable{P:Program} {a:Act} {w:World} {Q:Exit->Act->World->Prop}
theorem lB {c:Operand} {x y:Code} (h:x.wp P Q a w) (hc:a.eval c=.bool true:=by kernel_rfl):(Code.cond c x y).wp P Q a w:=wp_cond_true hc h
theorem iu {c:Operand} {x y:Code} (h:y.wp P Q a w) (hc:a.eval c=.bool false:=by kernel_rfl):(Code.cond c x y).wp P Q a w:=wp_cond_false hc h
theorem jH {c:Operand} {x y:Code} (b:Bool) (ht:b=true->x.wp P Q a w) (hf:b=false->y.wp P Q a w) (hc:a.eval c=.bool b:=by kernel_rfl):(Code.cond c x y).wp P Q a w:=wp_cond_split hc ht hf
theorem ltF {x y:Int} (h:y<=x):decide (x<y)=false:=decide_eq_false (by omega)
theorem neF {x y:Int} (h:x=y):(x !=y)=false:=by simpa using h
theorem FC {x y:Int} (h:decide (x<y)=true):x<y:=of_decide_eq_true h
theorem FE {x y:Int} (h:decide (x<y)=false):y<=x:=by have:=of_decide_eq_false h;omega
theorem agn {x y:Int} (h:decide (x<=y)=true):x<=y:=of_decide_eq_true h
theorem ago {x y:Int} (h:decide (x<=y)=false):y<x:=by have:=of_decide_eq_false h;omega
theorem abX {x y:Int} (h:(x !=y)=true):¬x=y:=by simpa using h
theorem abY {x y:Int} (h:(x !=y)=false):x=y:=by simpa using h
theorem OW {b:Bool} (h:(!b)=true):b=false:=by simpa using h
theorem OX {b:Bool} (h:(!b)=false):b=true:=by simpa using h
end
def yX (P:Program) (t:TypeId) (cs:Array Value) (off:Nat):Option Value:=
 match(P.underlying t).map jt,(P.info? t).map (·.size)with
 |some true,some n=>some (.agg (cs.extract off (off+n)))
 |some false,some _=>cs[off]?
 |_,_=>none
theorem qi {P:Program} {t:TypeId} {cs:Array Value} {off:Nat} {v:Value} (h:yX P t cs off=some v) (w:World):(part t cs off).run P w=.ok v w:=by
 unfold yX at h;split at h
 ·rename_i n h1 h2;obtain rfl:_=v:=by simpa using h
  cases hq:P.info? t with
  |none=>simp[hq]at h2
  |some i=>
   have hs:i.size=n:=by simpa[hq]using h2
   unfold part;simp[Sem.run_bind,iq h1,Go.sizeOf,typeInfo,hq,hs]
 ·rename_i n h1 h2;unfold part;simp[Sem.run_bind,iq h1,h]
 ·simp at h
def Ls (P:Program) (g:TypeId->Value->Value->Option Bool) (xs ys:Array Value):List Field->Option Bool
 |[]=>some true
 |f::fs=>
  match decide (f.name≠ "_")with
  |false=>Ls P g xs ys fs
  |true=>match yX P f.type xs f.offset,yX P f.type ys f.offset with
   |some a,some b=>match g f.type a b,Ls P g xs ys fs with
    |some r,some q=>some (r&&q)
    |_,_=>none
   |_,_=>none
def OY (P:Program) (g:TypeId->Value->Value->Option Bool) (e:TypeId) (c:Nat) (xs ys:Array Value):List Nat->Option Bool
 |[]=>some true
 |i::is=>
  match yX P e xs (i*c),yX P e ys (i*c)with
  |some a,some b=>match g e a b,OY P g e c xs ys is with
   |some r,some q=>some (r&&q)
   |_,_=>none
  |_,_=>none
def Ic (P:Program):Nat->TypeId->Value->Value->Option Bool
 |0,_,_,_=>none
 |d+1,t,x,y=>
  match P.underlying t,x,y with
  |some .bool,.bool a,.bool b=>some (a==b)
  |some (.int _),.int k a,.int k' b=>match decide (k=k')with|true=>some (a==b)|false=>none
  |some (.struct _),.agg xs,.agg ys=>match P.stoodInHeld t with|true=>none|false=>Ls P (Ic P d) xs ys (P.fieldsOf t).toList
  |some (.array n e),.agg xs,.agg ys=>match P.info? e with|some _=>OY P (Ic P d) e (P.cellsOf e) xs ys (List.range n)|none=>none
  |_,_,_=>none
section
variable{P:Program}
theorem vJ {d:Nat} {g:TypeId->Value->Value->Option Bool} (hg:∀t x y r,g t x y=some r->∀w,(Op.equalIn d t x y).run P w=.ok r w) (xs ys:Array Value):
 ∀(fs:List Field) (r:Bool),Ls P g xs ys fs=some r->∀w,(Op.eqFields d xs ys fs).run P w=.ok r w
 |[],r,h,w=>by obtain rfl:true=r:=by simpa[Ls]using h
               rfl
 |f::fs,r,h,w=>by
  unfold Ls at h;unfold Op.eqFields;split at h
  ·rename_i hn;have OZ:¬f.name≠ "_" :=of_decide_eq_false hn;rw[if_neg OZ];exact vJ hg xs ys fs r h w
  ·rename_i hn;have OZ:f.name≠ "_" :=of_decide_eq_true hn;rw[if_pos OZ];split at h
   ·rename_i a b ha hb;split at h
    ·rename_i r1 q h1 h2;obtain rfl:(r1&&q)=r:=by simpa using h
     simp only[Sem.run_bind,qi ha,qi hb,Result.andThen_ok,hg _ _ _ _ h1];cases r1
     ·simp
     ·simp[vJ hg xs ys fs q h2]
    ·simp at h
   ·simp at h
theorem CF {d:Nat} {g:TypeId->Value->Value->Option Bool} (hg:∀t x y r,g t x y=some r->∀w,(Op.equalIn d t x y).run P w=.ok r w) (e c:Nat) (xs ys:Array Value):
 ∀(is:List Nat) (r:Bool),OY P g e c xs ys is=some r->∀w,(Op.eqItems d e c xs ys is).run P w=.ok r w
 |[],r,h,w=>by obtain rfl:true=r:=by simpa[OY]using h
               rfl
 |i::is,r,h,w=>by
  unfold OY at h;unfold Op.eqItems;split at h
  ·rename_i a b ha hb;split at h
   ·rename_i r1 q h1 h2;obtain rfl:(r1&&q)=r:=by simpa using h
    simp only[Sem.run_bind,qi ha,qi hb,Result.andThen_ok,hg _ _ _ _ h1];cases r1
    ·simp
    ·simp[CF hg e c xs ys is q h2]
   ·simp at h
  ·simp at h
theorem uY:∀(d:Nat) (t:TypeId) (x y:Value) (r:Bool),Ic P d t x y=some r->∀w,(Op.equalIn d t x y).run P w=.ok r w
 |0,_,_,_,_,h,_=>by simp[Ic]at h
 |d+1,t,x,y,r,h,w=>by
  unfold Ic at h;split at h
  ·rename_i a b hu;obtain rfl:(a==b)=r:=by simpa using h
   exact run_equalIn_bool' w d t a b hu
  ·rename_i k0 k a k' b hu;split at h
   ·rename_i hk;obtain rfl:k=k':=of_decide_eq_true hk;obtain rfl:(a==b)=r:=by simpa using h
    exact run_equalIn_int w d t k k0 a b hu
   ·simp at h
  ·rename_i fs xs ys hu;split at h
   ·simp at h
   ·rename_i hp;have hf:P.underlying t=some (.struct (P.fieldsOf t)):=by simp[Program.fieldsOf,hu]
    rw[run_equalIn_struct w d t xs ys hf hp];exact vJ (uY d) xs ys _ r h w
  ·rename_i n e xs ys hu;split at h
   ·rename_i i hi;rw[run_equalIn_array w d xs ys hu hi];exact CF (uY d) e _ xs ys _ r h w
   ·simp at h
  ·simp at h
variable{ops:Array Oper} {rest:List Oper} {o:Oper} {a:Act} {w:World} {Q:Exit->Act->World->Prop}
theorem Lt {ρ:Operand->Value} {t yt:TypeId} {x y:Operand} {xs ys:Array Value} {r:Bool} (neg:Bool) (ho:o.op=.binOp (bif neg then .neq else .eql) t x y yt) (hx:ρ x=.agg xs) (hy:ρ y=.agg ys) (hg:P.eqGuardType P.depth t=false) (he:Ic P 10000 t (.agg xs) (.agg ys)=some r):
 (execOp ρ o).run P w=.ok (.value (.bool (bif neg then !r else r))) w:=by
 have h:=uY 10000 t (.agg xs) (.agg ys) r he w;unfold execOp;cases neg<;>simp only[ho,hx,hy,cond_true,cond_false,Sem.run_bind,run_eqGuard_agg _ _ t x y xs ys hg,Result.andThen_ok,run_eql_struct,run_neq_struct,h,Sem.run_pure]
end
theorem Ae {a b:Nat} (h:a<=b):(2:Int)^a<=2^b:=by
 have:=Nat.pow_le_pow_right (n:=2) (by omega) h;have h1:((2^a:Nat):Int)=(2:Int)^a:=by simp
 have h2:((2^b:Nat):Int)=(2:Int)^b:=by simp
 omega
theorem O0 {a b:Nat} (h:a<=b):(2:Int)^a∣2^b:=by
 obtain⟨c,rfl⟩:=Nat.exists_eq_add_of_le h;exact⟨2^c,Int.pow_add 2 a c⟩
theorem wrap_small (kd:IntKind) (x:Int) (j:Nat) (h0:0<=x) (h1:x<2^j) (hj:j<kd.bits):kd.wrap x=x:=by
 have h2:((2:Int)^j)<=2^(kd.bits-1):=Ae (by omega);have h3:((2:Int)^(kd.bits-1))<=2^kd.bits:=Ae (by omega);unfold IntKind.wrap;have h4:x%(2^kd.bits:Int)=x:=Int.emod_eq_of_lt h0 (by omega);simp only[h4];rw[if_neg];simp only[Bool.and_eq_true,decide_eq_true_eq,not_and];intro _;omega
theorem fl (kd:IntKind) (n m q:Int) (j:Nat) (hm:m=2^j-1) (hq:q=2^j) (hj:j<kd.bits):bits .and kd n m=n%q:=by
 subst hm hq;have hp:(0:Int)<2^j:=Int.pow_pos (by omega);have hle:(2:Int)^j<=2^kd.bits:=Ae (by omega);unfold bits;simp only[BitVec.toNat_and];have h1:(BitVec.ofInt kd.bits ((2:Int)^j-1)).toNat=2^j-1:=by
  simp only[BitVec.toNat_ofInt];have h2:((2:Int)^kd.bits)=((2^kd.bits:Nat):Int):=by simp
  rw[<-h2,Int.emod_eq_of_lt (by omega) (by omega)];have:((2:Int)^j)=((2^j:Nat):Int):=by simp
  omega
 have h5:(BitVec.ofInt kd.bits n).toNat%2^j=(n%2^j).toNat:=by
  simp only[BitVec.toNat_ofInt];have h2:((2^kd.bits:Nat):Int)=(2:Int)^kd.bits:=by simp
  rw[h2];have h6:(0:Int)<=n%2^kd.bits:=Int.emod_nonneg _ (by have:(0:Int)<2^kd.bits:=Int.pow_pos (by omega)
                                                             omega)
  have h7:(n%2^kd.bits)%2^j=n%2^j:=Int.emod_emod_of_dvd n (O0 (by omega));rw[<-h7];have:((2^j:Nat):Int)=(2:Int)^j:=by simp
  rw[<-this];have:=Int.natCast_emod (n%2^kd.bits).toNat (2^j);rw[Int.toNat_of_nonneg h6]at this;omega
 rw[h1,Nat.and_two_pow_sub_one_eq_mod,h5];have h0:=Int.emod_nonneg n (by omega:(2:Int)^j≠0);rw[Int.toNat_of_nonneg h0];exact wrap_small kd _ j h0 (Int.emod_lt_of_pos _ hp) hj
theorem Ll {a b:Bool} (h:a=false) (k:b=false):(a||b)=false:=by simp[h,k]
theorem Lu {P:Program} {f:FuncId} {args:Array Value} {w:World} {x:Value} (h:aj P f args w λv w'=>v=x/\Ch [] w w'):Calls P f args w λe w'=>e=.returned x/\Below w.heap.size w w':=by
 refine Calls.mono h ?_;rintro e w' ⟨v,rfl,rfl,hc⟩;exact⟨rfl,hc.below⟩
theorem St.ob {ms:List Nat} {w0 w:World} {bs:List av} (S:St ms w0 bs w) (i:Nat) (wr:Bool) (t:TypeId) {b:Nat} {cs:Array Value} {fr:Nat×Nat} (h:bs[i]?=some ⟨b,wr,.cells cs t fr⟩:=by kernel_rfl):w.heap[b]?=some (.cells cs t fr):=S.at_ i _ h
theorem St.conv {ms:List Nat} {w0 w:World} {bs bs':List av} (S:St ms w0 bs w) (h:bs=bs'):St ms w0 bs' w:=h▸S
def Yields (P:Program) (o:Oper) (ρ:Operand->Value) (w:World) (R:Value->World->Prop):Prop:=
 match(execOp ρ o).run P w with
 |.ok (.value v) w'=>R v w'
 |.ok .skip w'=>R undef w'
 |.ok (.enter f args) w'=>aj P f args w' R
 |_=>False
def We (y:Nat->Value):Operand->Value
 |.tmp t=>y t
 |.const v=>v
 |.global g=>.pointer (some ⟨g,0,none⟩)
 |.func f=>.func (.func f) #[] #[]
def fI (a:Act):Nat->Value:=λt=>a.tmps.getD t undef
theorem IZ (a:Act):We (fI a)=a.eval:=by funext x;cases x<;>rfl
theorem Yields.wp {P:Program} {o:Oper} {a:Act} {w:World} {R:Value->World->Prop} {K:Act->World->Prop} {Q:Exit->Act->World->Prop} (h:Yields P o a.eval w R) (hk:∀v w',R v w'->K (a.put o.dst v) w'):o.wp P a w K Q:=by
 unfold Yields at h;unfold Oper.wp;generalize (execOp a.eval o).run P w=r at*;cases r with
 |halt x w'=>simp at h
 |ok n w'=>
  cases n<;>simp at h<;>simp only[Oper.upon]
  ·exact hk _ _ h
  ·exact hk _ _ h
  ·refine Calls.mono h ?_;rintro e mN ⟨v,rfl,hv⟩;exact hk _ _ hv
structure Sp where
 k:Nat
 f:List Nat->Value
 bl:List Nat->List (Nat×Obj)
def Sp.holds (s:Sp) (B:Nat) (v:Value) (w:World):Prop:=∃ids:List Nat,ids.length=s.k/\v=s.f ids/\∀p∈s.bl ids,B<=p.1/\w.heap[p.1]?=some p.2
theorem Sp.holds.O1 {s:Sp} {B:Nat} {v:Value} {w w':World} (h:s.holds B v w) (hc:Ch [] w w'):s.holds B v w':=by
 obtain⟨ids,h1,h2,h3⟩:=h;exact⟨ids,h1,h2,λp hp=>⟨(h3 p hp).1,(hc.block _ (fW (h3 p hp).2) (by simp)).trans (h3 p hp).2⟩⟩
def gD (o:Oper) (j:Nat):Bool:=o.after.any λe=>e.on==j&&Region.binds .any e
def fe (l:List Oper) (o:Oper) (y:Nat->Value):Bool:=
 match o.guard with
 |none=>true
 |some (j,want)=>match(l[j]?).bind (·.dst)with
  |some d=>match y d with
   |.bool b=>b==want
   |_=>false
  |none=>false
theorem vK (l:List Oper) (o:Oper) (a:Act):Region.wanted o (yielded l.toArray a.tmps)=fe l o (fI a):=by
 unfold Region.wanted fe;cases hg:o.guard with
 |none=>rfl
 |some p=>
  obtain⟨j,want⟩:=p;simp only[yielded,List.getElem?_toArray];cases hd:(l[j]?).bind (·.dst)with
  |none=>simp
  |some d=>
   simp only[Option.bind_some,fI,Array.getD_eq_getD_getElem?];cases ht:a.tmps[d]?with
   |none=>simp[undef]
   |some v=>cases v<;>simp
def qj (l:List Oper) (i t:Nat):Bool:=l.all λok=>ok.dst !=some t||gD ok i
def lC (P:Program) (lf l:List Oper) (sp:Nat->Sp) (y0:Nat->Value) (w:World) (i:Nat) (o:Oper):Prop:=
 ∀(y:Nat->Value) (w':World),Ch [] w w'->(∀t,qj l i t=true->y t=y0 t)->
  (∀j d,gD o j=true->(l[j]?).bind (·.dst)=some d->(sp j).holds w.heap.size (y d) w')->
  (fe lf o y=true->Yields P o (We y) w' λv mN=>Ch [] w' mN/\(sp i).holds w.heap.size v mN)/\(fe lf o y=false->(sp i).holds w.heap.size undef w')
def gj (P:Program) (lf l:List Oper) (sp:Nat->Sp) (y0:Nat->Value) (w:World):Nat->List Oper->Prop
 |_,[]=>True
 |i,o::rest=>lC P lf l sp y0 w i o/\gj P lf l sp y0 w (i+1) rest
theorem gj.get {P:Program} {lf l:List Oper} {sp:Nat->Sp} {y0:Nat->Value} {w:World}:∀{k:Nat} {m:List Oper},gj P lf l sp y0 w k m->∀(i:Nat) o,m[i]?=some o->lC P lf l sp y0 w (k+i) o
 |_,[],_,i,o,h=>by simp at h
 |k,x::rest,⟨h1,h2⟩,0,o,h=>by obtain rfl:x=o:=by simpa using h
                              exact h1
 |k,x::rest,⟨h1,h2⟩,i+1,o,h=>by
  have:=gj.get h2 i o (by simpa using h)
  rwa [show k+1+i=k+(i+1) by omega]at this
def bK (vs:Nat->Value):Nat->List Oper->Act->Act
 |_,[],a=>a
 |i,o::rest,a=>bK vs (i+1) rest (a.put o.dst (vs i))
theorem size_put (a:Act) (d:Option Tmp) (v:Value):(a.put d v).tmps.size=a.tmps.size:=by cases d<;>simp[Act.put]
theorem gp (a:Act) (d:Option Tmp) (v:Value):(a.put d v).defers=a.defers:=by cases d<;>rfl
theorem kh (a:Act) (d:Nat) (v:Value) (t:Nat) (hd:d<a.tmps.size):fI (a.put (some d) v) t=if t=d then v else fI a t:=by
 simp only[fI,Act.put,Array.getD_eq_getD_getElem?,Array.getElem?_setIfInBounds];by_cases h:d=t
 ·subst h;simp[hd]
 ·rw[if_neg h,if_neg (λe=>h e.symm)]
theorem Af {a b:Act} (hs:a.tmps.size=b.tmps.size) (hd:a.defers=b.defers) (h:∀t,fI a t=fI b t):a=b:=by
 obtain⟨x,ds⟩:=a;obtain⟨y,es⟩:=b;simp only at hd hs;subst hd;congr 1;apply Array.ext hs;intro i h1 h2;have:=h i;simpa[fI,h1,h2]using this
def vL:List (Option Nat)->Bool
 |[]=>true
 |x::xs=>!(xs.any (·==x))&&vL xs
def vM (n:Nat) (l:List Oper):Bool:=l.all (λo=>match o.dst with|some d=>Nat.blt d n|none=>false)&&vL (l.map (·.dst))
theorem oZ:∀{l:List (Option Nat)},vL l=true->l.Nodup
 |[],_=>List.nodup_nil
 |x::xs,h=>by
  simp only[vL,Bool.and_eq_true,Bool.not_eq_true']at h;refine List.nodup_cons.2 ⟨?_,oZ h.2⟩;intro hm;have:=h.1;simp only[List.any_eq_false]at this;exact this x hm (by simp)
def fE:Nat->List Oper->Bool
 |_,[]=>true
 |i,o::rest=>(o.after.all λe=>!Region.binds .any e||Nat.blt e.on i)&&fE (i+1) rest
theorem dM:∀{k:Nat} {l:List Oper},fE k l=true->∀(i:Nat) o,l[i]?=some o->∀e∈o.after,Region.binds .any e=true->e.on<k+i
 |_,[],_,i,o,h,_,_,_=>by simp at h
 |k,x::rest,hh,0,o,h,e,he,hb=>by
  obtain rfl:x=o:=by simpa using h
  simp only[fE,Bool.and_eq_true,Array.all_eq_true_iff_forall_mem]at hh;have:=hh.1 e he;simp only[hb,Bool.not_true,Bool.false_or]at this;simpa[Nat.blt_eq]using this
 |k,x::rest,hh,i+1,o,h,e,he,hb=>by
  simp only[fE,Bool.and_eq_true]at hh;have:=dM hh.2 i o (by simpa using h) e he hb;omega
theorem d_ {L:Array Bool} {n i:Nat} (h:L.size=n) (hi:i<n):L[i]?=some true\/L[i]?=some false:=by
 have h1:i<L.size:=by omega
 rw[Array.getElem?_eq_getElem h1];cases L[i]<;>simp
theorem count_set:∀(L:List Bool) (i:Nat),L[i]?=some false->(L.set i true).count false+1=L.count false
 |[],i,h=>by simp at h
 |x::xs,0,h=>by obtain rfl:x=false:=by simpa using h
                simp
 |x::xs,i+1,h=>by
  have:=count_set xs i (by simpa using h);cases x<;>simp[List.set_cons_succ]<;>omega
theorem nL:∀(L:List Bool) (n m:Nat),L.length=n+m->(∀j,j<n->L[j]?=some true)->L.count false<=m
 |L,0,m,h,_=>by have:=List.count_le_length (a:=false) (l:=L);omega
 |[],n+1,m,h,_=>by simp at h;omega
 |x::xs,n+1,m,h,ht=>by
  obtain rfl:x=true:=by simpa using ht 0 (by omega)
  have:=nL xs n m (by simp at h;omega) (λj hj=>by simpa using ht (j+1) (by omega));simpa using this
theorem count_tail:∀(L:List Bool) (n m:Nat),L.length=n+m->(∀j,n<=j->j<n+m->L[j]?=some false)->m<=L.count false
 |[],n,m,h,_=>by simp at h;omega
 |x::xs,0,m,h,ht=>by
  obtain rfl:x=false:=by simpa using ht 0 (by omega) (by simp at h;omega)
  have:=count_tail xs 0 (m-1) (by simp at h;omega) (λj h1 h2=>by simpa using ht (j+1) (by omega) (by omega));simp at h⊢;omega
 |x::xs,n+1,m,h,ht=>by
  have:=count_tail xs n m (by simp at h;omega) (λj h1 h2=>by simpa using ht (j+1) (by omega) (by omega));cases x<;>simp<;>omega
theorem sJ:∀(L:List Bool) (n m:Nat),L.length=n+m->(∀j,n<=j->j<n+m->L[j]?=some false)->∀i,i<n->L[i]?=some false->m+1<=L.count false
 |[],n,m,h,_,i,hi,_=>by simp at h;omega
 |x::xs,n+1,m,h,ht,i,hi,hx=>by
  have ow:m<=xs.count false:=by
   have:=count_tail xs n m (by simp at h;omega) (λj h1 h2=>by simpa using ht (j+1) (by omega) (by omega));exact this
  cases i with
  |zero=>obtain rfl:x=false:=by simpa using hx
         simp;omega
  |succ i=>
   have:=sJ xs n m (by simp at h;omega) (λj h1 h2=>by simpa using ht (j+1) (by omega) (by omega)) i (by omega) (by simpa using hx);cases x<;>simp<;>omega
 |x::xs,0,m,h,ht,i,hi,hx=>by omega
section
variable{P:Program} {l:List Oper} {sp:Nat->Sp} {a0:Act} {w0:World} {Q:Exit->Act->World->Prop}
structure abZ (l:List Oper) (n2:Nat) (sp:Nat->Sp) (a0:Act) (w0:World) (vs:Nat->Value) (listed:Array Bool) (a:Act) (w:World):Prop where
 ls:listed.size=l.length+n2
 off:∀i,l.length<=i->i<l.length+n2->listed[i]?=some false
 size:a.tmps.size=a0.tmps.size
 defers:a.defers=a0.defers
 ch:Ch [] w0 w
 done:∀(i:Nat) (o:Oper) (d:Nat),l[i]?=some o->o.dst=some d->listed[i]?=some true->fI a d=vs i/\(sp i).holds w0.heap.size (vs i) w
 rest:∀(t:Nat),(∀(i:Nat) (o:Oper),l[i]?=some o->o.dst=some t->listed[i]?=some false)->fI a t=fI a0 t
 back:∀(i:Nat) (o:Oper),l[i]?=some o->listed[i]?=some true->∀j,gD o j=true->listed[j]?=some true
def yY (l:List Oper):List Nat->Bool
 |k::j::rest=>(match l[k]?with|some o=>gD o j|none=>false)&&yY l (j::rest)
 |_=>true
def jd (l:List Oper) (m:Nat) (paths:List (List Nat)):Bool:=
 (paths.all λp=>yY l p)&&(List.range l.length).all λk=>Nat.blt k m||(List.range k).all λi=>paths.any λp=>p.head?==some k&&p.getLast?==some i&&Nat.blt 1 p.length
theorem iL {l:List Oper} {listed:Array Bool} (back:∀(i:Nat) (o:Oper),l[i]?=some o->listed[i]?=some true->∀j,gD o j=true->listed[j]?=some true):
 ∀(p:List Nat) (k i:Nat),yY l p=true->p.head?=some k->p.getLast?=some i->1<p.length->(∀o,l[k]?=some o->∀j,gD o j=true->listed[j]?=some true)->listed[i]?=some true
 |[],_,_,_,h,_,_,_=>by simp at h
 |[x],_,_,_,_,_,h,_=>by simp at h
 |x::y::rest,k,i,hp,hh,hl,_,hk=>by
  obtain rfl:x=k:=by simpa using hh
  simp only[yY,Bool.and_eq_true]at hp;cases ho:l[x]?with
  |none=>simp[ho]at hp
  |some o=>
   have hy:=hk o ho y (by simpa[ho]using hp.1);cases rest with
   |nil=>obtain rfl:y=i:=by simpa using hl
         exact hy
   |cons z rest=>exact iL back (y::z::rest) y i hp.2 rfl (by simpa using hl) (by simp) (λoy hoy j hj=>back y oy hoy hy j hj)
theorem ud (vs:Nat->Value):∀(m:List Oper) (k:Nat) (a:Act),(∀o∈m,∃d,o.dst=some d/\d<a.tmps.size)->(m.map (·.dst)).Nodup->
 (bK vs k m a).tmps.size=a.tmps.size/\(bK vs k m a).defers=a.defers/\(∀t,(∀o∈m,o.dst≠some t)->fI (bK vs k m a) t=fI a t)/\∀i o d,m[i]?=some o->o.dst=some d->fI (bK vs k m a) d=vs (k+i)
 |[],k,a,_,_=>⟨rfl,rfl,λ_ _=>rfl,λi o d h=>by simp at h⟩
 |x::rest,k,a,hd,hn=>by
  obtain⟨dx,hx,iK⟩:=hd x (by simp);simp only[List.map_cons,List.nodup_cons]at hn;obtain⟨h1,h2,h3,h4⟩:=ud vs rest (k+1) (a.put x.dst (vs k)) (λo ho=>by
   obtain⟨d,e,h⟩:=hd o (by simp[ho]);exact⟨d,e,by rw[size_put];exact h⟩) hn.2
  refine⟨by simp only[bK];rw[h1,size_put],by simp only[bK];rw[h2,gp],?_,?_⟩
  ·intro t ht;simp only[bK];rw[h3 t (λo ho=>ht o (by simp[ho])),hx,kh _ _ _ _ iK,if_neg];intro e;subst e;exact ht x (by simp) hx
  ·intro i o d hi ho;cases i with
   |zero=>
    obtain rfl:x=o:=by simpa using hi
    simp only[bK];obtain rfl:dx=d:=by rw[hx]at ho;simpa using ho
    rw[h3 dx (λo' yD e=>hn.1 (by rw[hx,<-e];exact List.mem_map_of_mem (f:=λx=>x.dst) yD)),hx,kh _ _ _ _ iK,if_pos rfl];rfl
   |succ i=>
    simp only[bK];rw[h4 i o d (by simpa using hi) ho];congr 1;omega
theorem kN {o:Oper} {j:Nat}:gD o j=true↔∃e∈o.after,e.on=j/\Region.binds .any e=true:=by
 unfold gD;rw[<-Array.any_toList,List.any_eq_true];constructor
 ·rintro⟨e,he,hj⟩;simp only[Bool.and_eq_true,beq_iff_eq]at hj;exact⟨e,Array.mem_toList_iff.1 he,hj.1,hj.2⟩
 ·rintro⟨e,he,h1,h2⟩;exact⟨e,Array.mem_toList_iff.2 he,by simp[h1,h2]⟩
theorem mO {l:List Oper} {m:Nat} {paths:List (List Nat)} (h:jd l m paths=true) (k:Nat) (hk:k<l.length) (hm:m<=k) (i:Nat) (hi:i<k):
 ∃p,yY l p=true/\p.head?=some k/\p.getLast?=some i/\1<p.length:=by
 simp only[jd,Bool.and_eq_true,List.all_eq_true,List.mem_range,Bool.or_eq_true,List.any_eq_true]at h;obtain⟨h1,h2⟩:=h;rcases h2 k hk with h3|h3
 ·simp[Nat.blt_eq]at h3;omega
 ·obtain⟨p,hp,h4⟩:=h3 i hi;simp only[beq_iff_eq,Nat.blt_eq]at h4;exact⟨p,h1 p hp,h4.1.1,h4.1.2,h4.2⟩
theorem an (m:List Oper) (listed:Array Bool) (i:Nat):i∈Region.ready .any m.toArray listed↔∃o,m[i]?=some o/\listed.getD i true=false/\∀e∈o.after,Region.binds .any e=true->listed.getD e.on false=true:=by
 simp only[Region.ready,List.mem_filter,List.mem_range,List.size_toArray,List.getElem?_toArray,Bool.and_eq_true,Bool.not_eq_true'];constructor
 ·rintro⟨h1,h2,h3⟩;have hi:m[i]?=some m[i]:=by simp
  refine⟨m[i],hi,h2,?_⟩;rw[hi]at h3;simp only[Option.map_some,Option.getD_some,Array.all_eq_true_iff_forall_mem,Bool.or_eq_true,Bool.not_eq_true']at h3;intro e he hb;rcases h3 e he with h|h
  ·rw[hb]at h;cases h
  ·exact h
 ·rintro⟨o,ho,h2,h3⟩;refine⟨by rcases Nat.lt_or_ge i m.length with h|h;exact h;simp[h]at ho,h2,?_⟩;rw[ho];simp only[Option.map_some,Option.getD_some,Array.all_eq_true_iff_forall_mem,Bool.or_eq_true,Bool.not_eq_true'];intro e he;cases hb:Region.binds .any e with
  |false=>exact Or.inl rfl
  |true=>exact Or.inr (h3 e he hb)
theorem CH (l2:List Oper) (dN:fE 0 (l++l2)=true) (paths:List (List Nat)) (ht:jd (l++l2) l.length paths=true):
 ∀(r:List Oper) (k:Nat),l2.drop k=r->∀(listed:Array Bool) (a:Act) (w:World),listed.size=l.length+l2.length->(∀i,i<l.length+k->listed[i]?=some true)->(∀i,l.length+k<=i->i<l.length+l2.length->listed[i]?=some false)->
  wpList P (l++l2).toArray Q r a w->wpAny P .any (l++l2).toArray Q r.length listed a w:=by
 intro r;induction r with
 |nil=>
  intro k hk listed a w iM h1 h2 h;have HP:l2.length<=k:=by simpa using hk
  refine⟨?_,h⟩;refine List.eq_nil_iff_forall_not_mem.2 λi hi=>?_;obtain⟨o,ho,hf,_⟩:=(an _ listed i).1 hi;have hi:i<(l++l2).length:=by rcases Nat.lt_or_ge i (l++l2).length with h|h;exact h;simp[List.getElem?_eq_none h]at ho
  have:=h1 i (by simp at hi;omega);simp[Array.getD_eq_getD_getElem?,this]at hf
 |cons o rest ih=>
  intro k hk listed a w iM h1 h2 h;have HP:k<l2.length:=by rcases Nat.lt_or_ge k l2.length with h|h;exact h;simp[List.drop_eq_nil_of_le h]at hk
  have hok:l2[k]?=some o:=by rw[<-List.head?_drop,hk];rfl
  have ba:(l++l2)[l.length+k]?=some o:=by rw[List.getElem?_append_right (by omega)];simpa using hok
  refine⟨λhr=>?_,?_⟩
  ·exfalso;have:l.length+k∈Region.ready .any (l++l2).toArray listed:=(an _ listed _).2 ⟨o,ba,by simp[Array.getD_eq_getD_getElem?,h2 (l.length+k) (by omega) (by omega)],λe he hb=>by
    have:=dM dN _ o ba e he hb;simp[Array.getD_eq_getD_getElem?,h1 e.on (by omega)]⟩
   rw[hr]at this;simp at this
  ·intro i hi;obtain⟨oi,Lv,hf,gh⟩:=(an _ listed i).1 hi;have sL:i<(l++l2).length:=by rcases Nat.lt_or_ge i (l++l2).length with h|h;exact h;simp[List.getElem?_eq_none h]at Lv
   have jI:l.length+k<=i:=by
    rcases Nat.lt_or_ge i (l.length+k)with h|h
    ·simp[Array.getD_eq_getD_getElem?,h1 i h]at hf
    ·exact h
   have heq:i=l.length+k:=by
    rcases Nat.lt_or_ge (l.length+k) i with iK|hle
    ·exfalso;have hb:∀(x:Nat) (o':Oper),(l++l2)[x]?=some o'->listed[x]?=some true->∀j,gD o' j=true->listed[j]?=some true:=by
      intro x o' hx OB j hj;obtain⟨e,he,rfl,hbd⟩:=kN.1 hj;have h3:=dM dN x o' hx e he hbd;refine h1 e.on ?_;rcases Nat.lt_or_ge x (l.length+k)with h|h
      ·omega
      ·have Wf:x<(l++l2).length:=by rcases Nat.lt_or_ge x (l++l2).length with h'|h';exact h';simp[List.getElem?_eq_none h']at hx
       have:=h2 x h (by simpa using Wf);rw[OB]at this;simp at this
     obtain⟨p,q1,q2,q3,q4⟩:=mO ht i (by simpa using sL) (by omega) (l.length+k) iK;have:=iL hb p i (l.length+k) q1 q2 q3 q4 (λo' yD j hj=>by
      obtain rfl:oi=o':=by rw[Lv]at yD;simpa using yD
      obtain⟨e,he,rfl,hbd⟩:=kN.1 hj;have h3:=gh e he hbd;have h4:=dM dN i oi Lv e he hbd;rcases d_ iM (show e.on<l.length+l2.length by simp at sL;omega)with hx|hx
      ·exact hx
      ·simp[Array.getD_eq_getD_getElem?,hx]at h3)
     rw[h2 (l.length+k) (by omega) (by omega)]at this;simp at this
    ·omega
   subst heq;obtain rfl:o=oi:=by rw[ba]at Lv;simpa using Lv
   have next:∀a' w',wpList P (l++l2).toArray Q rest a' w'->wpAny P .any (l++l2).toArray Q rest.length (listed.setIfInBounds (l.length+k) true) a' w':=by
    intro a' w' h';refine ih (k+1) (by rw[<-List.drop_drop,hk];rfl) _ a' w' (by simpa using iM) ?_ ?_ h'
    ·intro j hj;rw[Array.getElem?_setIfInBounds];split
     ·rename_i e;subst e;rw[if_pos (by omega)]
     ·exact h1 j (by omega)
    ·intro j hj Of;rw[Array.getElem?_setIfInBounds,if_neg (by omega)];exact h2 j (by omega) Of
   unfold wpList at h;unfold wpOp;simp only[List.getElem?_toArray,ba];split at h
   ·rename_i hw;rw[if_pos hw];exact h.imp (Oper.wp_mono λa' w'=>next a' w') id
   ·rename_i hw;rw[if_neg hw];exact next _ _ h
theorem kO (l2:List Oper) (paths:List (List Nat)) (ht:jd (l++l2) l.length paths=true) (kB:vM a0.tmps.size l=true) (dN:fE 0 (l++l2)=true) (hs:gj P (l++l2) l sp (fI a0) w0 0 l)
 (hq:∀(vs:Nat->Value) w',Ch [] w0 w'->(∀i o,l[i]?=some o->(sp i).holds w0.heap.size (vs i) w')->wpList P (l++l2).toArray Q l2 (bK vs 0 l a0) w'):
 ∀(fuel:Nat) (vs:Nat->Value) (listed:Array Bool) (a:Act) (w:World),abZ l l2.length sp a0 w0 vs listed a w->listed.toList.count false=fuel+l2.length->wpAny P .any (l++l2).toArray Q (fuel+l2.length) listed a w:=by
 have inl:∀{i:Nat} {o:Oper},(l++l2)[i]?=some o->i<l.length->l[i]?=some o:=λh hi=>by rwa [List.getElem?_append_left hi]at h
 have inr:∀{i:Nat} {o:Oper},l[i]?=some o->(l++l2)[i]?=some o:=λ{i o} h=>by rwa [List.getElem?_append_left (by rcases Nat.lt_or_ge i l.length with h'|h';exact h';simp[h']at h)]
 simp only[vM,Bool.and_eq_true,List.all_eq_true]at kB;have hd:∀o∈l,∃d,o.dst=some d/\d<a0.tmps.size:=by
  intro o ho;have:=kB.1 o ho;cases hx:o.dst with
  |none=>simp[hx]at this
  |some d=>exact⟨d,rfl,by simpa[hx,Nat.blt_eq]using this⟩
 have hn:=oZ kB.2;have uniq:∀(i j:Nat) o p d,l[i]?=some o->l[j]?=some p->o.dst=some d->p.dst=some d->i=j:=by
  intro i j o p d hi hj ho hp;have sL:i<(l.map (·.dst)).length:=by simp;rcases Nat.lt_or_ge i l.length with h|h;exact h;simp[h]at hi
  refine(List.getElem?_inj sL hn).1 ?_;simp[hi,hj,ho,hp]
 have fin:∀vs listed a w,abZ l l2.length sp a0 w0 vs listed a w->(∀i,i<l.length->listed[i]?=some true)->wpAny P .any (l++l2).toArray Q l2.length listed a w:=by
  intro vs listed a w I di;obtain⟨h1,h2,h3,h4⟩:=ud vs l 0 a0 hd hn;have:a=bK vs 0 l a0:=by
   refine Af (by rw[I.size,h1]) (by rw[I.defers,h2]) ?_;intro t;by_cases ht:∃(i:Nat) (o:Oper),l[i]?=some o/\o.dst=some t
   ·obtain⟨i,o,hi,ho⟩:=ht;rw[h4 i o t hi ho,Nat.zero_add];exact(I.done i o t hi ho (di i (by rcases Nat.lt_or_ge i l.length with h|h;exact h;simp[h]at hi))).1
   ·rw[h3 t (λo ho e=>ht (by obtain⟨i,hi⟩:=List.getElem?_of_mem ho;exact⟨i,o,hi,e⟩))];exact I.rest t (λi o hi ho=>absurd ⟨i,o,hi,ho⟩ ht)
  rw[this];refine CH l2 dN paths ht l2 0 rfl listed _ w I.ls (λi hi=>di i (by omega)) (λi h1 h2=>I.off i (by omega) h2) ?_;exact hq vs w I.ch λi o hi=>by
   obtain⟨d,ho,_⟩:=hd o (List.mem_of_getElem? hi);exact(I.done i o d hi ho (di i (by rcases Nat.lt_or_ge i l.length with h|h;exact h;simp[h]at hi))).2
 have tl:∀vs listed a w,abZ l l2.length sp a0 w0 vs listed a w->∀i,i∈Region.ready .any (l++l2).toArray listed->l.length<=i->∀j,j<l.length->listed[j]?=some true:=by
  intro vs listed a w I i hi jI j hj;obtain⟨oi,Lv,hf,gh⟩:=(an _ listed i).1 hi;have sL:i<(l++l2).length:=by rcases Nat.lt_or_ge i (l++l2).length with h|h;exact h;simp[List.getElem?_eq_none h]at Lv
  obtain⟨p,q1,q2,q3,q4⟩:=mO ht i sL jI j (by omega);refine iL (l:=l++l2) ?_ p i j q1 q2 q3 q4 ?_
  ·intro x o hx OB k hk;rcases Nat.lt_or_ge x l.length with h|h
   ·exact I.back x o (inl hx h) OB k hk
   ·have Wf:x<(l++l2).length:=by rcases Nat.lt_or_ge x (l++l2).length with h'|h';exact h';simp[List.getElem?_eq_none h']at hx
    have:=I.off x h (by simpa using Wf);rw[OB]at this;simp at this
  ·intro o ho k hk;obtain rfl:oi=o:=by rw[Lv]at ho;simpa using ho
   obtain⟨e,he,rfl,hbd⟩:=kN.1 hk;have h3:=gh e he hbd;have h4:=dM dN i oi Lv e he hbd;rcases d_ I.ls (show e.on<l.length+l2.length by simp at sL;omega)with hx|hx
   ·exact hx
   ·simp[Array.getD_eq_getD_getElem?,hx]at h3
 intro fuel;induction fuel with
 |zero=>
  intro vs listed a w I hc;have di:∀i,i<l.length->listed[i]?=some true:=by
   intro i hi;rcases d_ I.ls (show i<l.length+l2.length by omega)with hb|hb
   ·exact hb
   ·exfalso;have h4:=sJ listed.toList l.length l2.length (by simpa using I.ls) (λj h1 h2=>by simpa using I.off j h1 h2) i hi (by simpa using hb);omega
  rw[Nat.zero_add];exact fin vs listed a w I di
 |succ fuel ih=>
  intro vs listed a w I hc;by_cases vN:∀i,i<l.length->listed[i]?=some true
  ·exfalso;have:=nL listed.toList l.length l2.length (by simpa using I.ls) (λj h1=>by simpa using vN j h1);omega
  rw[show fuel+1+l2.length=(fuel+l2.length)+1 by omega];refine⟨λhr=>?_,?_⟩
  ·
   exfalso;refine vN ?_;intro i;induction i using Nat.strongRecOn with
   |_ i ih2=>
    intro hi;rcases d_ I.ls (show i<l.length+l2.length by omega)with hb|hb
    ·exact hb
    ·exfalso;have:i∈Region.ready .any (l++l2).toArray listed:=(an _ listed i).2 ⟨l[i],inr (by simp),by simp[Array.getD_eq_getD_getElem?,hb],λe he O2=>by
      have iK:=dM dN i l[i] (inr (by simp)) e he O2;have:=ih2 e.on (by omega) (by omega);simp[Array.getD_eq_getD_getElem?,this]⟩
     rw[hr]at this;simp at this
  ·intro i hi;have sL:i<l.length:=by
    rcases Nat.lt_or_ge i l.length with h|h
    ·exact h
    ·exact absurd (tl vs listed a w I i hi h) vN
   obtain⟨o,CI,h2,h3⟩:=(an _ listed i).1 hi;have ho:=inl CI sL;have O3:listed[i]?=some false:=by
    rcases d_ I.ls (show i<l.length+l2.length by omega)with hb|hb
    ·simp[Array.getD_eq_getD_getElem?,hb]at h2
    ·exact hb
   obtain⟨d,NC,ab0⟩:=hd o (List.mem_of_getElem? ho);have gh:∀j,gD o j=true->listed[j]?=some true:=by
    intro j hj;unfold gD at hj;rw[<-Array.any_toList,List.any_eq_true]at hj;obtain⟨e,he,hj⟩:=hj;simp only[Bool.and_eq_true,beq_iff_eq]at hj;obtain⟨rfl,hb⟩:=hj;have he:=Array.mem_toList_iff.1 he;have h4:=h3 e he hb;have iK:=dM dN i o CI e he hb;rcases d_ I.ls (show e.on<l.length+l2.length by omega)with hb|hb
    ·exact hb
    ·simp[Array.getD_eq_getD_getElem?,hb]at h4
   have step:=(gj.get hs i o ho) (fI a) w I.ch (λt ht=>by
    refine I.rest t λk ok hk hok=>?_;rw[qj,List.all_eq_true]at ht;have:=ht ok (List.mem_of_getElem? hk);simp only[hok,bne_self_eq_false,Bool.false_or]at this;have HP:k<l.length:=by rcases Nat.lt_or_ge k l.length with h|h;exact h;simp[h]at hk
    rcases d_ I.ls (show k<l.length+l2.length by omega)with hb|hb
    ·have:=I.back k ok hk hb i (by simpa using this);rw[O3]at this;simp at this
    ·exact hb)
    (λj dj hj FF=>by
     cases jJ:l[j]?with
     |none=>simp[jJ]at FF
     |some oj=>
      have:=I.done j oj dj jJ (by simpa[jJ]using FF) (gh j hj);rw[this.1];exact this.2)
   rw[Nat.zero_add]at step;have next:∀v w',Ch [] w w'->(sp i).holds w0.heap.size v w'->wpAny P .any (l++l2).toArray Q (fuel+l2.length) (listed.setIfInBounds i true) (a.put o.dst v) w':=by
    intro v w' VE hv;refine ih (λj=>if j=i then v else vs j) _ _ _ ?_ ?_
    ·have gl:∀j b,(listed.setIfInBounds i true)[j]?=some b->(j=i/\b=true)\/(j≠i/\listed[j]?=some b):=by
      intro j b hj;rw[Array.getElem?_setIfInBounds]at hj;by_cases h:i=j
      ·subst h;have:i<l.length+l2.length:=by omega
       simp[I.ls,this]at hj;exact Or.inl ⟨rfl,hj⟩
      ·rw[if_neg h]at hj;exact Or.inr ⟨λe=>h e.symm,hj⟩
     have yp:∀t,fI (a.put o.dst v) t=if t=d then v else fI a t:=λt=>by rw[NC];exact kh _ _ _ _ (by rw[I.size];exact ab0)
     refine⟨by simp[I.ls],λj h1 h2=>by
      rw[Array.getElem?_setIfInBounds,if_neg (by omega)];exact I.off j h1 h2,by rw[size_put,I.size],by rw[gp,I.defers],I.ch.trans VE (by simp),?_,?_,?_⟩
     ·intro j oj dj hj FF jJ;rcases gl j true jJ with⟨rfl,_⟩|⟨e_,jJ⟩
      ·obtain rfl:o=oj:=by rw[ho]at hj;simpa using hj
       obtain rfl:d=dj:=by rw[NC]at FF;simpa using FF
       rw[yp];simp;exact hv
      ·have:=I.done j oj dj hj FF jJ;rw[yp,if_neg (λ(e:dj=d)=>e_ (uniq j i oj o d hj ho (e▸FF) NC)),if_neg e_];exact⟨this.1,this.2.O1 VE⟩
     ·intro t ht;rw[yp,if_neg]
      ·refine I.rest t λk ok hk hok=>?_;have:=ht k ok hk hok;rcases gl k false this with⟨_,h⟩|⟨_,h⟩
       ·cases h
       ·exact h
      ·rintro rfl;have:=ht i o ho NC;rcases gl i false this with⟨_,h⟩|⟨h,_⟩
       ·cases h
       ·exact h rfl
     ·intro k ok hk Cu j hj;have hb:listed[j]?=some true:=by
       rcases gl k true Cu with⟨rfl,_⟩|⟨e_,Cu⟩
       ·obtain rfl:o=ok:=by rw[ho]at hk;simpa using hk
        exact gh j hj
       ·exact I.back k ok hk Cu j hj
      rw[Array.getElem?_setIfInBounds];split
      ·rename_i h;subst h;rw[O3]at hb;simp at hb
      ·exact hb
    ·have h2:listed[i]?=some false:=O3;have ab3:=count_set listed.toList i (by simpa using h2);simp only[Array.toList_setIfInBounds];omega
   unfold wpOp;simp only[List.getElem?_toArray,CI];rw[vK];cases hw:fe (l++l2) o (fI a)with
   |true=>
    rw[if_pos rfl];refine Or.inl ?_;have hy:=step.1 hw;rw[IZ]at hy;exact Yields.wp hy λv w' ⟨VE,hv⟩=>next v w' VE hv
   |false=>
    rw[if_neg (by simp)];exact next undef w (Ch.refl _ _) (step.2 hw)
theorem ab4 {id:Nat} (l l2:List Oper) (sp:Nat->Sp) (paths:List (List Nat)) (hm:P.follows .mixedOrders=true) (ht:jd (l++l2) l.length paths=true) (kB:vM a0.tmps.size l=true) (dN:fE 0 (l++l2)=true) (hs:gj P (l++l2) l sp (fI a0) w0 0 l)
 (hq:∀(vs:Nat->Value) w',Ch [] w0 w'->(∀i o,l[i]?=some o->(sp i).holds w0.heap.size (vs i) w')->wpList P (l++l2).toArray Q l2 (bK vs 0 l a0) w'):(Code.region id (l++l2).toArray true).wp P Q a0 w0:=by
 refine wp_region_any hm ?_;have h:=kO l2 paths ht kB dN hs hq l.length (λ_=>undef) (Array.replicate (l++l2).toArray.size false) a0 {w0 with drawn:=w0.drawn+1} ?_ ?_
 ·rw[show(l++l2).toArray.size=l.length+l2.length by simp];rw[show(l++l2).toArray.size=l.length+l2.length by simp]at h;exact h
 ·refine⟨by simp,λi h1 h2=>by simp[Array.getElem?_replicate];omega,rfl,rfl,(Ch.refl _ _).drew,?_,λ_ _=>rfl,?_⟩
  ·intro i o d _ _ h;simp[Array.getElem?_replicate]at h
  ·intro i o _ h;simp[Array.getElem?_replicate]at h
 ·simp[List.count_replicate_self]
end
def OC (l:List Sp):Nat->Sp:=λi=>l.getD i ⟨0,λ_=>undef,λ_=>[]⟩
section
variable{B:Nat} {x:Value} {w:World} {f:List Nat->Value} {bl:List Nat->List (Nat×Obj)}
theorem Sp.dt (h:(⟨0,f,bl⟩:Sp).holds B x w):x=f []/\∀p∈bl [],B<=p.1/\w.heap[p.1]?=some p.2:=by
 obtain⟨ids,h1,h2,h3⟩:=h;obtain rfl:ids=[]:=by simpa using h1
 exact⟨h2,h3⟩
theorem Sp.Ag (h:(⟨1,f,bl⟩:Sp).holds B x w):∃b,x=f [b]/\∀p∈bl [b],B<=p.1/\w.heap[p.1]?=some p.2:=by
 obtain⟨ids,h1,h2,h3⟩:=h
 match ids,h1 with
 |[b],_=>exact⟨b,h2,h3⟩
theorem Sp.agp (h:(⟨2,f,bl⟩:Sp).holds B x w):∃b c,x=f [b,c]/\∀p∈bl [b,c],B<=p.1/\w.heap[p.1]?=some p.2:=by
 obtain⟨ids,h1,h2,h3⟩:=h
 match ids,h1 with
 |[b,c],_=>exact⟨b,c,h2,h3⟩
theorem Sp.agq (h:(⟨3,f,bl⟩:Sp).holds B x w):∃b c d,x=f [b,c,d]/\∀p∈bl [b,c,d],B<=p.1/\w.heap[p.1]?=some p.2:=by
 obtain⟨ids,h1,h2,h3⟩:=h
 match ids,h1 with
 |[b,c,d],_=>exact⟨b,c,d,h2,h3⟩
end
theorem St.ro {ms:List Nat} {w0 w w':World} {bs:List av} (S:St ms w0 bs w) (hc:Ch [] w w') (ps:List (Nat×Obj)) (h:∀p∈ps,w.heap.size<=p.1/\w'.heap[p.1]?=some p.2):St ms w0 (ps.map (λp=>⟨p.1,false,p.2⟩)++bs) w':=by
 have hq:=S.quiet hc;have OD:∀(i:Nat) x,(ps.map (λp=>(⟨p.1,false,p.2⟩:av))++bs)[i]?=some x->(∃p∈ps,x=⟨p.1,false,p.2⟩/\i<ps.length)\/(ps.length<=i/\bs[i-ps.length]?=some x):=by
  intro i x hx;rcases Nat.lt_or_ge i ps.length with hi|hi
  ·rw[List.getElem?_append_left (by simpa using hi)]at hx;simp only[List.getElem?_map,Option.map_eq_some_iff]at hx;obtain⟨p,hp,rfl⟩:=hx;exact Or.inl ⟨p,List.mem_of_getElem? hp,rfl,hi⟩
  ·rw[List.getElem?_append_right (by simpa using hi)]at hx;exact Or.inr ⟨hi,by simpa using hx⟩
 refine⟨hq.ch,?_,?_,?_⟩
 ·intro i x hx;rcases OD i x hx with⟨p,hp,rfl,_⟩|⟨_,hx⟩
  ·exact(h p hp).2
  ·exact hq.at_ _ x hx
 ·intro i x hx hw;rcases OD i x hx with⟨p,hp,rfl,_⟩|⟨_,hx⟩
  ·cases hw
  ·exact hq.own _ x hx hw
 ·intro i j x y hx hy e_ hw;rcases OD i x hx with⟨p,hp,rfl,_⟩|⟨hi,hx⟩
  ·cases hw
  ·rcases OD j y hy with⟨p,hp,rfl,_⟩|⟨hj,hy⟩
   ·have:=S.lt hx;have:=(h p hp).1;simp;omega
   ·exact hq.apart _ _ x y hx hy (by omega) hw
theorem St.loc {ms:List Nat} {w0 w:World} {bs:List av} (S:St ms w0 bs w):St [] w (bs.map λx=>⟨x.id,false,x.obj⟩) w:=by
 refine⟨Ch.refl _ _,?_,?_,?_⟩
 ·intro i x hx;simp only[List.getElem?_map,Option.map_eq_some_iff]at hx;obtain⟨y,hy,rfl⟩:=hx;exact S.at_ i y hy
 ·intro i x hx hw;simp only[List.getElem?_map,Option.map_eq_some_iff]at hx;obtain⟨y,hy,rfl⟩:=hx;cases hw
 ·intro i j x y hx hy e_ hw;simp only[List.getElem?_map,Option.map_eq_some_iff]at hx;obtain⟨y,hy,rfl⟩:=hx;cases hw
theorem St.qk {w0 w:World} {bs:List av} (S:St [] w0 bs w) {B:Nat} (hB:B<=w0.heap.size) (i:Nat) {b:Nat} {o:Obj} (hi:bs[i]?=some ⟨b,true,o⟩):B<=b/\w.heap[b]?=some o:=by
 refine⟨?_,S.at_ i _ hi⟩;rcases S.own i _ hi rfl with h|h
 ·simp at h
 ·exact Nat.le_trans hB h
theorem St.aa5 {w0 w:World} {bs:List av} (S:St [] w0 bs w) {B:Nat} (i:Nat) {b:Nat} {o:Obj} (hB:B<=b) (wr:Bool) (hi:bs[i]?=some ⟨b,wr,o⟩):B<=b/\w.heap[b]?=some o:=⟨hB,S.at_ i _ hi⟩
def mP:List Value->List Oper->Act->Act
 |v::vs,o::rest,a=>mP vs rest (a.put o.dst v)
 |_,_,a=>a
def lD (vs:Nat->Value):Nat->List Value->Prop
 |_,[]=>True
 |i,v::rest=>vs i=v/\lD vs (i+1) rest
theorem vO {vs:Nat->Value}:∀{l:List Oper} {dA:List Value} {k:Nat} {a:Act},dA.length=l.length->lD vs k dA->bK vs k l a=mP dA l a
 |[],[],_,_,_,_=>rfl
 |o::rest,v::dA,k,a,h,⟨h1,h2⟩=>by
  simp only[bK,mP,h1];exact vO (by simpa using h) h2
 |[],_::_,_,_,h,_=>by simp at h
 |_::_,[],_,_,h,_=>by simp at h
def j6 (env:List (Nat×Value)):Operand->Value:=We λt=>(env.lookup t).getD undef
def mQ (y:Nat->Value):List (Nat×Value)->Prop
 |[]=>True
 |p::rest=>y p.1=p.2/\mQ y rest
theorem oI {y:Nat->Value}:∀{env:List (Nat×Value)},mQ y env->∀t v,env.lookup t=some v->y t=v
 |[],_,t,v,h=>by simp at h
 |(s,u)::rest,⟨h1,h2⟩,t,v,h=>by
  rw[List.lookup_cons]at h;cases ju:t==s with
  |true=>
   simp[ju]at h;have:t=s:=by simpa using ju
   subst this;subst h;exact h1
  |false=>
   simp[ju]at h;exact oI h2 t v h
def ue (env:List (Nat×Value)) (o:Oper):Bool:=o.op.operands.all (λx=>match x with|.tmp t=>(env.lookup t).isSome|_=>true)&&(match o.op with|.select .. =>false|_=>true)
section
variable{P:Program} {o:Oper} {w w0:World} {ms:List Nat} {bs:List av} {R:Value->World->Prop} {y:Nat->Value}
theorem mR (env:List (Nat×Value)) (hy:mQ y env) (h:Yields P o (j6 env) w R) (Fv:ue env o=true:=by kernel_rfl):Yields P o (We y) w R:=by
 have:execOp (We y) o=execOp (j6 env) o:=by
  simp only[ue,Bool.and_eq_true]at Fv;refine execOp_congr o ?_ ?_
  ·intro cs b akv;rw[akv]at Fv;simp at Fv
  ·intro x hx;have h1:=Array.all_eq_true_iff_forall_mem.1 Fv.1 x hx;cases x with
   |tmp t=>
    simp only at h1;cases hl:env.lookup t with
    |none=>simp[hl]at h1
    |some v=>simp[We,j6,hl,oI hy t v hl]
   |_=>rfl
 unfold Yields at*;rw[this];exact h
theorem O4 {A C:Prop} {b:Bool} (hw:b=true) (h:A):(b=true->A)/\(b=false->C):=⟨λ_=>h,λe=>by rw[hw]at e;cases e⟩
end
theorem iy {y:Nat->Value}:mQ y []:=trivial
theorem eu {y:Nat->Value} {t:Nat} {v:Value} {env:List (Nat×Value)} (h:y t=v) (k:mQ y env):mQ y ((t,v)::env):=⟨h,k⟩
theorem sO {vs:Nat->Value} {i:Nat}:lD vs i []:=trivial
theorem aL {vs:Nat->Value} {i:Nat} {v:Value} {rest:List Value} (h:vs i=v) (k:lD vs (i+1) rest):lD vs i (v::rest):=⟨h,k⟩
theorem all_nil {α:Type} {C:α->Prop}:∀p∈([]:List α),C p:=λp hp=>by cases hp
theorem all_cons {α:Type} {C:α->Prop} {x:α} {xs:List α} (h:C x) (k:∀p∈xs,C p):∀p∈x::xs,C p:=λp hp=>by
 rcases List.mem_cons.1 hp with rfl|hp
 ·exact h
 ·exact k p hp
theorem Sp.eO {s:Sp} {B:Nat} {v:Value} {w:World} (ids:List Nat) (h3:∀p∈s.bl ids,B<=p.1/\w.heap[p.1]?=some p.2) (h1:ids.length=s.k:=by kernel_rfl) (h2:v=s.f ids:=by kernel_rfl):s.holds B v w:=⟨ids,h1,h2,h3⟩
theorem jK {P:Program} {lf l:List Oper} {sp:Nat->Sp} {y0:Nat->Value} {w:World} {i:Nat}:gj P lf l sp y0 w i []:=trivial
theorem step_cons {P:Program} {lf l:List Oper} {sp:Nat->Sp} {y0:Nat->Value} {w:World} {i:Nat} {o:Oper} {rest:List Oper} (h:lC P lf l sp y0 w i o) (k:gj P lf l sp y0 w (i+1) rest):gj P lf l sp y0 w i (o::rest):=⟨h,k⟩
theorem kP {A C:Prop} (h:A) {b:Bool} (hw:b=true:=by kernel_rfl):(b=true->A)/\(b=false->C):=O4 hw h
theorem St.given {w:World} (ps:List (Nat×Obj)) (h:∀p∈ps,w.heap[p.1]?=some p.2):St [] w (ps.map λp=>⟨p.1,false,p.2⟩) w:=by
 refine⟨Ch.refl _ _,?_,?_,?_⟩
 ·intro i x hx;simp only[List.getElem?_map,Option.map_eq_some_iff]at hx;obtain⟨p,hp,rfl⟩:=hx;exact h p (List.mem_of_getElem? hp)
 ·intro i x hx hw;simp only[List.getElem?_map,Option.map_eq_some_iff]at hx;obtain⟨p,hp,rfl⟩:=hx;cases hw
 ·intro i j x y hx hy e_ hw;simp only[List.getElem?_map,Option.map_eq_some_iff]at hx;obtain⟨p,hp,rfl⟩:=hx;cases hw
theorem lE {P:Program} {a0:Act} {w0:World} {Q:Exit->Act->World->Prop} {id:Nat} {L:List Oper} (m:Nat) (sp:List Sp) (paths:List (List Nat))
 (hs:gj P L (L.take m) (OC sp) (fI a0) w0 0 (L.take m))
 (hq:∀(vs:Nat->Value) w',Ch [] w0 w'->(∀i,Nat.blt i m=true->(OC sp i).holds w0.heap.size (vs i) w')->∃dA:List Value,dA.length=m/\lD vs 0 dA/\WL P L.toArray Q (L.drop m) (mP dA (L.take m) a0) w')
 (hm:P.follows .mixedOrders=true:=by kernel_rfl) (hl:Nat.ble m L.length=true:=by kernel_rfl) (ht:jd L m paths=true:=by kernel_rfl) (kB:vM a0.tmps.size (L.take m)=true:=by kernel_rfl) (dN:fE 0 L=true:=by kernel_rfl):(Code.region id L.toArray true).wp P Q a0 w0:=by
 have OE:(L.take m).length=m:=by have:=Nat.le_of_ble_eq_true hl;simp;omega
 have h:=ab4 (id:=id) (Q:=Q) (P:=P) (a0:=a0) (w0:=w0) (L.take m) (L.drop m) (OC sp) paths hm (by rw[List.take_append_drop,OE];exact ht) kB (by rw[List.take_append_drop];exact dN) (by rw[List.take_append_drop];exact hs) ?_
 ·rwa [List.take_append_drop]at h
 ·intro vs w' hc di;rw[List.take_append_drop];obtain⟨dA,h1,h2,h3⟩:=hq vs w' hc λi hi=>by
   have uD:i<m:=by simpa[Nat.blt_eq]using hi
   exact di i _ (List.getElem?_eq_getElem (by omega))
  rw[vO (by rw[h1,OE]) h2];exact h3.out
namespace Y
section
variable{P:Program} {o:Oper} {w w0:World} {ms:List Nat} {bs:List av} {R:Value->World->Prop} {ρ:Operand->Value}
theorem aa (v:Value) (k:R v w) (h:(execOp ρ o).run P w=.ok (.value v) w:=by kernel_rfl):Yields P o ρ w R:=by unfold Yields;rw[h];exact k
theorem gV (v v':Value) (he:v=v') (k:R v' w) (h:(execOp ρ o).run P w=.ok (.value v) w:=by kernel_rfl):Yields P o ρ w R:=by subst he;exact aa v k h
theorem lz (kd:IntKind) (e:Int) (he:kd.wrap e=e) (k:R (.int kd e) w) (h:(execOp ρ o).run P w=.ok (.value (.int kd (kd.wrap e))) w:=by kernel_rfl):Yields P o ρ w R:=gV _ _ (by rw[he]) k h
theorem bY {x:Operand} (k:R (ρ x) w) (ho:o.op=.move x:=by rfl):Yields P o ρ w R:=aa _ k (by unfold execOp;simp[ho])
theorem bJ {x:Operand} (k:R (ρ x) w) (ho:o.op=.assign x:=by rfl):Yields P o ρ w R:=aa _ k (by unfold execOp;simp[ho])
theorem ir (S:St ms w0 bs w) (i:Nat) (v:Value) (b off:Nat) {x:Operand} {ty:TypeId} (k:R v w) (ho:o.op=.load ty x:=by rfl) (hx:ρ x=.pointer (some ⟨b,off,none⟩):=by kernel_rfl)
 (ha:(P.underlying ty).map jt=some false:=by kernel_rfl) (hb:lk bs i off=some (b,v):=by kernel_rfl):Yields P o ρ w R:=by
 obtain⟨wr,cs,t,fr,hb,hc⟩:=aa3 hb;unfold Yields execOp;simp only[ho,hx,Instr.loadAt,Instr.sureAddr,Sem.run_bind,Sem.run_pure,Result.andThen_ok,jF (S.at_ i _ hb) ha hc];exact k
theorem eC (S:St ms w0 bs w) (i:Nat) (n:Nat) (vs:Array Value) (b off:Nat) {x:Operand} {ty:TypeId} (k:R (.agg vs) w) (ho:o.op=.load ty x:=by rfl) (hx:ρ x=.pointer (some ⟨b,off,none⟩):=by kernel_rfl)
 (ha:(P.underlying ty).map jt=some true:=by kernel_rfl) (hn:(P.info? ty).map (·.size)=some n:=by kernel_rfl) (hb:HR bs i off n=some (b,vs):=by kernel_rfl):Yields P o ρ w R:=by
 obtain⟨wr,cs,t,fr,hb,hc,hv⟩:=Aa hb;unfold Yields execOp;simp only[ho,hx,Instr.loadAt,Instr.sureAddr,Sem.run_bind,Sem.run_pure,Result.andThen_ok,kM (S.at_ i _ hb) ha hn hc hv];exact k
theorem eD (S:St ms w0 bs w) (f:Nat->Value) (obj:Obj) (k:∀b w',St ms w0 (⟨b,true,obj⟩::bs) w'->R (f b) w') (h:(execOp ρ o).run P w=.ok (.value (f w.heap.size)) (w.alloc obj):=by kernel_rfl):Yields P o ρ w R:=by
 unfold Yields;rw[h];exact k _ _ (S.new (Ch.alloc _ _ _) (Nat.le_refl _) (heap_alloc_new w obj))
theorem dh (f:FuncId) (args:Array Value) (k:aj P f args w R) (h:(execOp ρ o).run P w=.ok (.enter f args) w:=by kernel_rfl):Yields P o ρ w R:=by unfold Yields;rw[h];exact k
end
end Y
section
variable{P:Program} {a:Act} {w:World} {Q:Exit->Act->World->Prop}
theorem FG {p:Nat->Prop} (h:∃n,p n):∃n,p n/\∀m,p m->n<=m:=by
 obtain⟨n,hn⟩:=h;induction n using Nat.strongRecOn with
 |_ n ih=>
  by_cases hm:∃m,m<n/\p m
  ·obtain⟨m,hl,hp⟩:=hm;exact ih m hl hp
  ·refine⟨n,hn,λm hp=>?_⟩;by_cases hl:m<n
   ·exact absurd ⟨m,hl,hp⟩ hm
   ·omega
open Classical in
theorem ab5 {c:Code} (I:Nat->Act->World->Prop) (n:Nat) (h:I n a w)
 (round:∀n a w,I n a w->c.wp P (Exit.then (λa' w'=>∃m,m<n/\I m a' w') Q) a w):(Code.loop c).wp P Q a w:=by
 refine wp_loop (λa w=>∃n,I n a w) (λa w=>if h:∃n,I n a w then choose (FG h)else 0) ⟨n,h⟩ ?_;intro a w hI;have hs:=choose_spec (FG hI);refine wp_mono (round _ a w hs.1) ?_;intro e a' w' hh;cases e with
 |normal=>
  obtain⟨m,hm,hi⟩:=hh;refine⟨⟨m,hi⟩,?_⟩;have hx:∃n,I n a' w':=⟨m,hi⟩;have hy:=(choose_spec (FG hx)).2 m hi;simp only[dif_pos hx,dif_pos hI];omega
 |_=>exact hh
end
section
variable{P:Program} {ops:Array Oper} {Q:Exit->Act->World->Prop} {rest:List Oper} {a:Act} {w w0:World} {o:Oper} {ms:List Nat} {bs:List av}
theorem St.agr (S:St ms w0 bs w) {b off:Nat} {v:Value} (hc:w0.cell? ⟨b,off,none⟩=some v) (hm:b∉ms):w.cell? ⟨b,off,none⟩=some v:=by
 have hb:b<w0.heap.size:=by
  unfold World.cell? at hc;split at hc
  ·next h=>exact fW h
  ·exact absurd hc (by simp)
 have:=S.ch.block b hb hm;unfold World.cell? at hc⊢;simpa only[this]using hc
theorem mw (b off i n z c:Nat) (kd:IntKind) (iv:Int) {t e:TypeId} {x y:Operand} (h0:0<=iv) (h1:iv<n) (he:i=iv.toNat) (k:WL P ops Q rest (a.put o.dst (.pointer (some ⟨b,off+i*z,none⟩))) w) (hw:Region.wanted o (yielded ops a.tmps)=true:=by kernel_rfl)
 (ho:o.op=.indexAddr t x y:=by rfl) (hu:P.underlying t=some (.slice e):=by kernel_rfl) (hz:(P.info? e).map (·.size)=some z:=by kernel_rfl)
 (hx:a.eval x=.slice (some ⟨b,off,none⟩) n c:=by kernel_rfl) (hy:a.eval y=.int kd iv:=by kernel_rfl):WL P ops Q (o::rest) a w:=
 aa (.pointer (some ⟨b,off+i*z,none⟩)) k hw (by
  subst he;have OU:∀q:Nat,(⟨b,off,none⟩:Addr).add q=⟨b,off+q,none⟩:=λq=>by
   by_cases hq:q=0
   ·subst hq;rfl
   ·simp[Addr.add,hq]
  cases hq:P.info? e with
  |none=>simp[hq]at hz
  |some inf=>
   have iM:inf.size=z:=by simpa[hq]using hz
   unfold execOp;simp only[ho,hx,hy];unfold Instr.indexAt;simp only[Sem.run_bind,run_underlying hu,Result.andThen_ok,asIntOf,Sem.run_pure];simp[h0,h1,Go.sizeOf,typeInfo,hq,iM,OU])
end
namespace Y
section
variable{P:Program} {w w0:World} {o:Oper} {ms:List Nat} {bs:List av} {R:Value->World->Prop} {ρ:Operand->Value}
theorem mw (b off i n z c:Nat) (kd:IntKind) (iv:Int) {t e:TypeId} {x y:Operand} (h0:0<=iv) (h1:iv<n) (he:i=iv.toNat) (k:R (.pointer (some ⟨b,off+i*z,none⟩)) w)
 (ho:o.op=.indexAddr t x y:=by rfl) (hu:P.underlying t=some (.slice e):=by kernel_rfl) (hz:(P.info? e).map (·.size)=some z:=by kernel_rfl)
 (hx:ρ x=.slice (some ⟨b,off,none⟩) n c:=by kernel_rfl) (hy:ρ y=.int kd iv:=by kernel_rfl):Yields P o ρ w R:=
 Y.aa (.pointer (some ⟨b,off+i*z,none⟩)) k (by
  subst he;have OU:∀q:Nat,(⟨b,off,none⟩:Addr).add q=⟨b,off+q,none⟩:=λq=>by
   by_cases hq:q=0
   ·subst hq;rfl
   ·simp[Addr.add,hq]
  cases hq:P.info? e with
  |none=>simp[hq]at hz
  |some inf=>
   have iM:inf.size=z:=by simpa[hq]using hz
   unfold execOp;simp only[ho,hx,hy];unfold Instr.indexAt;simp only[Sem.run_bind,run_underlying hu,Result.andThen_ok,asIntOf,Sem.run_pure];simp[h0,h1,Go.sizeOf,typeInfo,hq,iM,OU])
end
end Y
def vP (x y:av):Prop:=x.wr=true\/y.wr=true->x.id≠y.id
section
variable{ms:List Nat} {w0 w w':World} {bs bs':List av}
theorem St.at' (S:St ms w0 bs w) {x:av} (h:x∈bs):w.heap[x.id]?=some x.obj:=by
 obtain⟨i,hi⟩:=List.getElem?_of_mem h;exact S.at_ i x hi
theorem St.ql (S:St ms w0 bs w) {x:av} (h:x∈bs) (hw:x.wr=true):x.id∈ms\/w0.heap.size<=x.id:=by
 obtain⟨i,hi⟩:=List.getElem?_of_mem h;exact S.own i x hi hw
theorem St.pw (S:St ms w0 bs w):bs.Pairwise vP:=by
 rw[List.pairwise_iff_getElem];intro i j hi hj Cc hw;have h1:bs[i]?=some bs[i]:=List.getElem?_eq_getElem hi;have h2:bs[j]?=some bs[j]:=List.getElem?_eq_getElem hj;rcases hw with hw|hw
 ·exact S.apart i j _ _ h1 h2 (by omega) hw
 ·exact(S.apart j i _ _ h2 h1 (by omega) hw).symm
theorem St.mk' (ch:Ch ms w0 w) (at_:∀x∈bs,w.heap[x.id]?=some x.obj) (own:∀x∈bs,x.wr=true->x.id∈ms\/w0.heap.size<=x.id) (pw:bs.Pairwise vP):St ms w0 bs w:=by
 refine⟨ch,λi x h=>at_ x (List.mem_of_getElem? h),λi x h=>own x (List.mem_of_getElem? h),?_⟩;intro i j x y hx hy e_ hw;rw[List.pairwise_iff_getElem]at pw;have hi:i<bs.length:=by
  rcases Nat.lt_or_ge i bs.length with h|h
  ·exact h
  ·simp[h]at hx
 have hj:j<bs.length:=by
  rcases Nat.lt_or_ge j bs.length with h|h
  ·exact h
  ·simp[h]at hy
 obtain rfl:bs[i]=x:=by simpa[hi]using hx
 obtain rfl:bs[j]=y:=by simpa[hj]using hy
 rcases Nat.lt_or_gt_of_ne e_ with h|h
 ·exact pw i j hi hj h (.inl hw)
 ·exact(pw j i hj hi h (.inr hw)).symm
theorem FH {x y:av} (h:vP x y):vP y x:=λhw=>(h hw.symm).symm
theorem St.perm (S:St ms w0 bs w) (h:bs.Perm bs'):St ms w0 bs' w:=
 St.mk' S.ch (λx hx=>S.at' (h.mem_iff.2 hx)) (λx hx=>S.ql (h.mem_iff.2 hx)) ((h.pairwise_iff (λh=>FH h)).1 S.pw)
theorem St.sub (S:St ms w0 bs w) (h:bs'.Sublist bs):St ms w0 bs' w:=
 St.mk' S.ch (λx hx=>S.at' (h.mem hx)) (λx hx=>S.ql (h.mem hx)) (S.pw.sublist h)
theorem St.ge (S:St ms w0 bs w) {x:av} (h:x∈bs):x.id<w.heap.size:=fW (S.at' h)
theorem Ch.mono {es O5:List Nat} (h:Ch es w w') (hs:∀x∈es,x∈O5):Ch O5 w w':=⟨h.os,h.tape,h.output,h.size,λk hk hm=>h.block k hk (λhx=>hm (hs k hx))⟩
theorem St.yE {A bl bl' R:List av} (S:St ms w0 (A++(bl++R)) w) (hw:∀x∈bl,x.wr=true) (hc:Ch (bl.map av.id) w w')
 (ba:∀x∈bl',w'.heap[x.id]?=some x.obj) (hid:∀x∈bl',(∃y∈bl,x.id=y.id)\/w.heap.size<=x.id) (hp:bl'.Pairwise vP):St ms w0 (A++(bl'++R)) w':=by
 have hpw:=S.pw;rw[List.pairwise_append,List.pairwise_append]at hpw;obtain⟨pA,⟨pb,pR,pbR⟩,pAb⟩:=hpw;have O6:∀z,z∈A\/z∈R->z.id∉bl.map av.id:=by
  intro z hz hm;obtain⟨y,hy,he⟩:=List.mem_map.1 hm;rcases hz with hz|hz
  ·exact pAb z hz y (by simp[hy]) (.inr (hw y hy)) he.symm
  ·exact pbR y hy z hz (.inl (hw y hy)) he
 have ags:∀z,z∈A\/z∈R->∀x∈bl',z.id≠x.id:=by
  intro z hz x hx e;rcases hid x hx with⟨y,hy,he⟩|h
  ·exact O6 z hz (by rw[e,he];exact List.mem_map_of_mem hy)
  ·have:=S.ge (x:=z) (by rcases hz with h|h<;>simp[h]);omega
 refine St.mk' (S.ch.trans hc ?_) ?_ ?_ ?_
 ·intro k hk;obtain⟨y,hy,rfl⟩:=List.mem_map.1 hk;exact S.ql (by simp[hy]) (hw y hy)
 ·intro x hx;rcases List.mem_append.1 hx with h|h
  ·exact(hc.block _ (S.ge (by simp[h])) (O6 x (.inl h))).trans (S.at' (by simp[h]))
  ·rcases List.mem_append.1 h with h|h
   ·exact ba x h
   ·exact(hc.block _ (S.ge (by simp[h])) (O6 x (.inr h))).trans (S.at' (by simp[h]))
 ·intro x hx hxw;rcases List.mem_append.1 hx with h|h
  ·exact S.ql (by simp[h]) hxw
  ·rcases List.mem_append.1 h with h|h
   ·rcases hid x h with⟨y,hy,he⟩|jI
    ·rw[he];exact S.ql (by simp[hy]) (hw y hy)
    ·exact .inr (Nat.le_trans S.ch.size jI)
   ·exact S.ql (by simp[h]) hxw
 ·rw[List.pairwise_append,List.pairwise_append];refine⟨pA,⟨hp,pR,λx hx z hz _ e=>ags z (.inr hz) x hx e.symm⟩,λz hz x hx=>?_⟩;rcases List.mem_append.1 hx with h|h
  ·exact λ_=>ags z (.inl hz) x h
  ·exact pAb z hz x (by simp[h])
theorem St.less {A bl R:List av} (S:St ms w0 (A++(bl++R)) w) (hw:∀x∈bl,x.wr=true) (hc:Ch (bl.map av.id) w w'):St ms w0 (A++R) w':=by
 have:=S.yE (bl':=[]) hw hc (by simp) (by simp) List.Pairwise.nil;simpa using this
end
def fa (z:Nat) (T:TypeId) (olds:List Value) (x:Option Addr) (n c:Nat) (bl:List av):Prop:=
 olds.length=n*z/\n<=c/\((x=none/\n=0/\c=0/\bl=[])\/∃b tail,x=some ⟨b,0,none⟩/\bl=[⟨b,true,.cells (olds++tail).toArray T (0,0)⟩]/\(olds++tail).length=c*z)
theorem iO (z:Nat) (T:TypeId):fa z T [] none 0 0 []:=⟨by simp,Nat.le_refl _,.inl ⟨rfl,rfl,rfl,rfl⟩⟩
theorem fa.wr {z T olds x n c bl} (h:fa z T olds x n c bl):∀y∈bl,y.wr=true:=by
 rcases h.2.2 with⟨_,_,_,rfl⟩|⟨b,tail,_,rfl,_⟩<;>simp
theorem fa.pw {z T olds x n c bl} (h:fa z T olds x n c bl):bl.Pairwise vP:=by
 rcases h.2.2 with⟨_,_,_,rfl⟩|⟨b,tail,_,rfl,_⟩<;>simp
def mS (z:Nat) (T:TypeId) (olds:List Value) (n:Nat) (bl:List av) (B:Nat) (v:Value) (w':World):Prop:=
 ∃x c bl',v=.slice x n c/\fa z T olds x n c bl'/\∀y∈bl',w'.heap[y.id]?=some y.obj/\((∃u∈bl,y.id=u.id)\/B<=y.id)
theorem mS.O1 {z T olds n bl B v} {w w':World} (h:mS z T olds n bl B v w) (hc:Ch [] w w'):mS z T olds n bl B v w':=by
 obtain⟨x,c,bl',h1,h2,h3⟩:=h;exact⟨x,c,bl',h1,h2,λy hy=>⟨(hc.block _ (fW (h3 y hy).1) (by simp)).trans (h3 y hy).1,(h3 y hy).2⟩⟩
section
variable{P:Program}
theorem gE {w:World} {z T n c m:Nat} {olds news:List Value} {x:Option Addr} {bl:List av} (hr:fa z T olds x n c bl) (ba:∀y∈bl,w.heap[y.id]?=some y.obj)
 {t tx ty:TypeId} {xv:Value} (bytes:Nat) (hs:Src P z tx xv m news w) (ht:P.underlying t=some (.slice T)) (hi:(P.info? T).map (λi=>(i.zero.map (·.cells.size),i.size,i.bytes))=some (some z,z,bytes))
 (hb:(n+m)*bytes<=140737488355328) (h63:n+m<=maxLen):
 ∃v w',(Builtin.append_ #[t,tx] ty #[.slice x n c,xv]).run P w=.ok v w'/\Ch (bl.map av.id) w w'/\mS z T (olds++news) (n+m) bl w.heap.size v w':=by
 obtain⟨i,aF,hi⟩:=Option.map_eq_some_iff.1 hi;simp only[Prod.mk.injEq]at hi;obtain⟨hz,iM,sP⟩:=hi;obtain⟨z0,Cv,FI⟩:=Option.map_eq_some_iff.1 hz;obtain⟨hlen,vQ,j7⟩:=hr;have Lw:=hs.newsLen;have akw:news.length=m*i.size:=by rw[iM];exact Lw
 have uZ:Src P i.size tx xv m news w:=by rw[iM];exact hs
 by_cases jL:n+m<=c
 ·rcases Nat.eq_zero_or_pos m with Ah|Ah
  ·subst Ah;obtain rfl:news=[]:=List.eq_nil_of_length_eq_zero (by simpa using Lw);refine⟨_,_,run_append_nothing (P:=P) w t tx ty T i ht aF x n c vQ xv uZ,Ch.refl _ _,x,c,bl,rfl,⟨by simpa using hlen,vQ,by simpa using j7⟩,λy hy=>⟨ba y hy,.inl ⟨y,hy,rfl⟩⟩⟩
  ·rcases j7 with⟨_,rfl,rfl,_⟩|⟨b,tail,rfl,rfl,Lx⟩
   ·omega
   ·have vR:=ba _ (List.mem_singleton.2 rfl);have hbd:n*z+news.length<=(olds++tail).length:=by
     rw[Lx,Lw,<-Nat.add_mul];exact Nat.mul_le_mul_right _ jL
    have mK:=run_storeCells_at (P:=P) b (n*z) T news 0 (olds++tail).toArray w vR (by simpa using hbd) hs.one;simp only[Nat.add_zero]at mK;have aY:(Builtin.append_ #[t,tx] ty #[.slice (some ⟨b,0,none⟩) n c,xv]).run P w=.ok (.slice (some ⟨b,0,none⟩) (n+m) c) (w.setRow b ((olds++tail).take (n*z)++news++(olds++tail).drop (n*z+news.length)).toArray):=by
     rcases uZ.kind with⟨e',hk⟩|hk<;>simp[Builtin.append_,run_underlying ht,run_underlying hk,Go.sizeOf,typeInfo,aF,uZ.len,jL,hs.cells,Addr.add_lit,iM,mK,Result.andThen]
    refine⟨_,_,aY,by simpa using Ch.setRow w b _,some ⟨b,0,none⟩,c,[⟨b,true,.cells ((olds++news)++tail.drop news.length).toArray T (0,0)⟩],rfl,⟨by rw[List.length_append,hlen,Lw,Nat.add_mul],jL,.inr ⟨b,_,rfl,rfl,?_⟩⟩,?_⟩
    ·simp only[List.length_append,List.length_drop,hlen]at Lx hbd⊢;omega
    ·intro y hy;obtain rfl:=List.mem_singleton.1 hy;refine⟨?_,.inl ⟨_,List.mem_singleton.2 rfl,rfl⟩⟩;have:=setRow_heap w b (olds++tail).toArray ((olds++tail).take (n*z)++news++(olds++tail).drop (n*z+news.length)).toArray T (0,0) vR;rw[this];congr 3;rw[<-hlen,List.take_left,List.drop_append,List.drop_eq_nil_of_le (by omega)];simp
 ·have hg:c<n+m:=by omega
  have hold:(Builtin.firstCells i.size n (.slice x n c)).run P w.drew=.ok olds.toArray w.drew:=by
   rcases j7 with⟨rfl,rfl,rfl,_⟩|⟨b,tail,rfl,rfl,Lx⟩
   ·obtain rfl:olds=[]:=List.eq_nil_of_length_eq_zero (by simpa using hlen);exact run_firstCells_none (P:=P) w.drew i.size 0 0 0
   ·have vR:=ba _ (List.mem_singleton.2 rfl);refine run_firstCells_some (P:=P) w.drew i.size n ⟨b,0,none⟩ n c olds (by rw[hlen,iM]) (λj v hj=>?_);rw[Addr.add_lit];have:w.drew.cell? ⟨b,0+j,none⟩=w.cell? ⟨b,j,none⟩:=by simp
    rw[this,cell_of vR];have yF:j<olds.length:=by
     rcases Nat.lt_or_ge j olds.length with h|h
     ·exact h
     ·simp[h]at hj
    simp[List.getElem?_append_left yF,hj]
  have aY:=run_append_grow_src (P:=P) w t tx ty T i z0 ht aF Cv x n c olds hold xv m news uZ hg (by simp only[maxLen]at h63;omega) (by rw[sP];exact growslice_fits hg hb);have jI:=grownCap_ge w (n+m) c T;refine⟨_,_,aY,?_,some ⟨w.heap.size,0,none⟩,grownCap w (n+m) c T,[⟨w.heap.size,true,.cells ((olds++news)++(Builtin.zeroCells z0.cells (grownCap w (n+m) c T-(n+m))).toList).toArray T (0,0)⟩],rfl,⟨by rw[List.length_append,hlen,Lw,Nat.add_mul],jI,.inr ⟨_,_,rfl,rfl,?_⟩⟩,?_⟩
  ·exact((Ch.refl (bl.map av.id) w).drew).trans (Ch.alloc (bl.map av.id) w.drew _) (λx hx=>.inl hx)
  ·rw[List.length_append,List.length_append,hlen,Lw,Array.length_toList,size_zeroCells,FI,<-Nat.add_mul,<-Nat.add_mul];congr 1;omega
  ·intro y hy;obtain rfl:=List.mem_singleton.1 hy;refine⟨?_,.inr (Nat.le_refl _)⟩;have:=heap_alloc_new w.drew (.cells ((olds++news).toArray++Builtin.zeroCells z0.cells (grownCap w (n+m) c T-(n+m))) T);refine Eq.trans this ?_;congr 2;apply Array.ext';simp
end
def nM (n:Nat) (l:List Oper):Bool:=l.all (λo=>match o.dst with|some d=>Nat.blt d n|none=>true)&&vL (l.map (·.dst))
theorem yZ (vs:Nat->Value):∀(m:List Oper) (k:Nat) (a:Act),(∀o∈m,∀d,o.dst=some d->d<a.tmps.size)->(m.map (·.dst)).Nodup->
 (bK vs k m a).tmps.size=a.tmps.size/\(bK vs k m a).defers=a.defers/\(∀t,(∀o∈m,o.dst≠some t)->fI (bK vs k m a) t=fI a t)/\∀i o d,m[i]?=some o->o.dst=some d->fI (bK vs k m a) d=vs (k+i)
 |[],k,a,_,_=>⟨rfl,rfl,λ_ _=>rfl,λi o d h=>by simp at h⟩
 |x::rest,k,a,hd,hn=>by
  simp only[List.map_cons,List.nodup_cons]at hn;obtain⟨h1,h2,h3,h4⟩:=yZ vs rest (k+1) (a.put x.dst (vs k)) (λo ho d e=>by
   rw[size_put];exact hd o (by simp[ho]) d e) hn.2
  refine⟨by simp only[bK];rw[h1,size_put],by simp only[bK];rw[h2,gp],?_,?_⟩
  ·intro t ht;simp only[bK];rw[h3 t (λo ho=>ht o (by simp[ho]))];cases hx:x.dst with
   |none=>rfl
   |some dx=>
    rw[kh _ _ _ _ (hd x (by simp) dx hx),if_neg];intro e;subst e;exact ht x (by simp) hx
  ·intro i o d hi ho;cases i with
   |zero=>
    obtain rfl:x=o:=by simpa using hi
    simp only[bK];rw[h3 d (λo' yD e=>hn.1 (by rw[ho,<-e];exact List.mem_map_of_mem (f:=λx=>x.dst) yD)),ho,kh _ _ _ _ (hd x (by simp) d ho),if_pos rfl];rfl
   |succ i=>
    simp only[bK];rw[h4 i o d (by simpa using hi) ho];congr 1;omega
def preB (pre:List (List Nat)) (i:Nat):Bool:=pre.any λp=>match p.getLast? with|some j=>Nat.beq j i|none=>false
def CJ (l:List Oper) (k0:Nat) (pre:List (List Nat)):Bool:=pre.all λp=>yY l p&&(match p.head? with|some k=>Nat.beq k k0|none=>false)&&Nat.blt 1 p.length
def gk (P:Program) (k0:Nat) (pre:List (List Nat)) (es:List Nat) (H:Nat->Value->World->Prop) (lf l:List Oper) (y0:Nat->Value) (w:World) (i:Nat) (o:Oper):Prop:=
 ∀(y:Nat->Value) (w':World),(i=k0\/preB pre i=true->Ch [] w w')->Ch es w w'->(∀t,qj l i t=true->y t=y0 t)->
  (∀j d,gD o j=true->(l[j]?).bind (·.dst)=some d->H j (y d) w')->
  (fe lf o y=true->Yields P o (We y) w' λv mN=>(i=k0->Ch es w' mN)/\(i≠k0->Ch [] w' mN)/\H i v mN)/\(fe lf o y=false->H i undef w')
def eQ (P:Program) (k0:Nat) (pre:List (List Nat)) (es:List Nat) (H:Nat->Value->World->Prop) (lf l:List Oper) (y0:Nat->Value) (w:World):Nat->List Oper->Prop
 |_,[]=>True
 |i,o::rest=>gk P k0 pre es H lf l y0 w i o/\eQ P k0 pre es H lf l y0 w (i+1) rest
theorem eQ.get {P:Program} {k0:Nat} {pre:List (List Nat)} {es:List Nat} {H:Nat->Value->World->Prop} {lf l:List Oper} {y0:Nat->Value} {w:World}:∀{k:Nat} {m:List Oper},eQ P k0 pre es H lf l y0 w k m->∀(i:Nat) o,m[i]?=some o->gk P k0 pre es H lf l y0 w (k+i) o
 |_,[],_,i,o,h=>by simp at h
 |k,x::rest,⟨h1,h2⟩,0,o,h=>by obtain rfl:x=o:=by simpa using h
                              exact h1
 |k,x::rest,⟨h1,h2⟩,i+1,o,h=>by
  have:=eQ.get h2 i o (by simpa using h)
  rwa [show k+1+i=k+(i+1) by omega]at this
structure ab6 (k0:Nat) (es:List Nat) (H:Nat->Value->World->Prop) (l:List Oper) (n2:Nat) (a0:Act) (w0:World) (vs:Nat->Value) (listed:Array Bool) (a:Act) (w:World):Prop where
 ls:listed.size=l.length+n2
 off:∀i,l.length<=i->i<l.length+n2->listed[i]?=some false
 size:a.tmps.size=a0.tmps.size
 defers:a.defers=a0.defers
 ch:if listed[k0]?=some true then Ch es w0 w else Ch [] w0 w
 done:∀(i:Nat) (o:Oper),l[i]?=some o->listed[i]?=some true->(∀d,o.dst=some d->fI a d=vs i)/\H i (vs i) w
 rest:∀(t:Nat),(∀(i:Nat) (o:Oper),l[i]?=some o->o.dst=some t->listed[i]?=some false)->fI a t=fI a0 t
 back:∀(i:Nat) (o:Oper),l[i]?=some o->listed[i]?=some true->∀j,gD o j=true->listed[j]?=some true
section
variable{P:Program} {l:List Oper} {k0:Nat} {pre:List (List Nat)} {es:List Nat} {H:Nat->Value->World->Prop} {a0:Act} {w0:World} {Q:Exit->Act->World->Prop}
theorem FJ (mK:∀i v w w',Ch [] w w'->H i v w->H i v w') (agt:CJ l k0 pre=true) (ab7:∀i v w w',i≠k0->w0.heap.size<=w.heap.size->Ch es w w'->H i v w->H i v w') (l2:List Oper) (paths:List (List Nat)) (ht:jd (l++l2) l.length paths=true) (kB:nM a0.tmps.size l=true) (dN:fE 0 (l++l2)=true) (hs:eQ P k0 pre es H (l++l2) l (fI a0) w0 0 l)
 (hq:∀(vs:Nat->Value) w',Ch es w0 w'->(∀i o,l[i]?=some o->H i (vs i) w')->wpList P (l++l2).toArray Q l2 (bK vs 0 l a0) w'):
 ∀(fuel:Nat) (vs:Nat->Value) (listed:Array Bool) (a:Act) (w:World),ab6 k0 es H l l2.length a0 w0 vs listed a w->listed.toList.count false=fuel+l2.length->wpAny P .any (l++l2).toArray Q (fuel+l2.length) listed a w:=by
 have inl:∀{i:Nat} {o:Oper},(l++l2)[i]?=some o->i<l.length->l[i]?=some o:=λh hi=>by rwa [List.getElem?_append_left hi]at h
 have inr:∀{i:Nat} {o:Oper},l[i]?=some o->(l++l2)[i]?=some o:=λ{i o} h=>by rwa [List.getElem?_append_left (by rcases Nat.lt_or_ge i l.length with h'|h';exact h';simp[h']at h)]
 simp only[nM,Bool.and_eq_true,List.all_eq_true]at kB;have hd:∀o∈l,∀d,o.dst=some d->d<a0.tmps.size:=by
  intro o ho d hx;have:=kB.1 o ho;simpa[hx,Nat.blt_eq]using this
 have hn:=oZ kB.2;have uniq:∀(i j:Nat) o p d,l[i]?=some o->l[j]?=some p->o.dst=some d->p.dst=some d->i=j:=by
  intro i j o p d hi hj ho hp;have sL:i<(l.map (·.dst)).length:=by simp;rcases Nat.lt_or_ge i l.length with h|h;exact h;simp[h]at hi
  refine(List.getElem?_inj sL hn).1 ?_;simp[hi,hj,ho,hp]
 have fin:∀vs listed a w,ab6 k0 es H l l2.length a0 w0 vs listed a w->(∀i,i<l.length->listed[i]?=some true)->wpAny P .any (l++l2).toArray Q l2.length listed a w:=by
  intro vs listed a w I di;obtain⟨h1,h2,h3,h4⟩:=yZ vs l 0 a0 hd hn;have:a=bK vs 0 l a0:=by
   refine Af (by rw[I.size,h1]) (by rw[I.defers,h2]) ?_;intro t;by_cases ht:∃(i:Nat) (o:Oper),l[i]?=some o/\o.dst=some t
   ·obtain⟨i,o,hi,ho⟩:=ht;rw[h4 i o t hi ho,Nat.zero_add];exact(I.done i o hi (di i (by rcases Nat.lt_or_ge i l.length with h|h;exact h;simp[h]at hi))).1 t ho
   ·rw[h3 t (λo ho e=>ht (by obtain⟨i,hi⟩:=List.getElem?_of_mem ho;exact⟨i,o,hi,e⟩))];exact I.rest t (λi o hi ho=>absurd ⟨i,o,hi,ho⟩ ht)
  rw[this];refine CH l2 dN paths ht l2 0 rfl listed _ w I.ls (λi hi=>di i (by omega)) (λi h1 h2=>I.off i (by omega) h2) ?_;exact hq vs w (by have:=I.ch;split at this;exact this;exact this.mono (by simp)) λi o hi=>(I.done i o hi (di i (by rcases Nat.lt_or_ge i l.length with h|h;exact h;simp[h]at hi))).2
 have tl:∀vs listed a w,ab6 k0 es H l l2.length a0 w0 vs listed a w->∀i,i∈Region.ready .any (l++l2).toArray listed->l.length<=i->∀j,j<l.length->listed[j]?=some true:=by
  intro vs listed a w I i hi jI j hj;obtain⟨oi,Lv,hf,gh⟩:=(an _ listed i).1 hi;have sL:i<(l++l2).length:=by rcases Nat.lt_or_ge i (l++l2).length with h|h;exact h;simp[List.getElem?_eq_none h]at Lv
  obtain⟨p,q1,q2,q3,q4⟩:=mO ht i sL jI j (by omega);refine iL (l:=l++l2) ?_ p i j q1 q2 q3 q4 ?_
  ·intro x o hx OB k hk;rcases Nat.lt_or_ge x l.length with h|h
   ·exact I.back x o (inl hx h) OB k hk
   ·have Wf:x<(l++l2).length:=by rcases Nat.lt_or_ge x (l++l2).length with h'|h';exact h';simp[List.getElem?_eq_none h']at hx
    have:=I.off x h (by simpa using Wf);rw[OB]at this;simp at this
  ·intro o ho k hk;obtain rfl:oi=o:=by rw[Lv]at ho;simpa using ho
   obtain⟨e,he,rfl,hbd⟩:=kN.1 hk;have h3:=gh e he hbd;have h4:=dM dN i oi Lv e he hbd;rcases d_ I.ls (show e.on<l.length+l2.length by simp at sL;omega)with hx|hx
   ·exact hx
   ·simp[Array.getD_eq_getD_getElem?,hx]at h3
 intro fuel;induction fuel with
 |zero=>
  intro vs listed a w I hc;have di:∀i,i<l.length->listed[i]?=some true:=by
   intro i hi;rcases d_ I.ls (show i<l.length+l2.length by omega)with hb|hb
   ·exact hb
   ·exfalso;have h4:=sJ listed.toList l.length l2.length (by simpa using I.ls) (λj h1 h2=>by simpa using I.off j h1 h2) i hi (by simpa using hb);omega
  rw[Nat.zero_add];exact fin vs listed a w I di
 |succ fuel ih=>
  intro vs listed a w I hc;by_cases vN:∀i,i<l.length->listed[i]?=some true
  ·exfalso;have:=nL listed.toList l.length l2.length (by simpa using I.ls) (λj h1=>by simpa using vN j h1);omega
  rw[show fuel+1+l2.length=(fuel+l2.length)+1 by omega];refine⟨λhr=>?_,?_⟩
  ·
   exfalso;refine vN ?_;intro i;induction i using Nat.strongRecOn with
   |_ i ih2=>
    intro hi;rcases d_ I.ls (show i<l.length+l2.length by omega)with hb|hb
    ·exact hb
    ·exfalso;have:i∈Region.ready .any (l++l2).toArray listed:=(an _ listed i).2 ⟨l[i],inr (by simp),by simp[Array.getD_eq_getD_getElem?,hb],λe he O2=>by
      have iK:=dM dN i l[i] (inr (by simp)) e he O2;have:=ih2 e.on (by omega) (by omega);simp[Array.getD_eq_getD_getElem?,this]⟩
     rw[hr]at this;simp at this
  ·intro i hi;have sL:i<l.length:=by
    rcases Nat.lt_or_ge i l.length with h|h
    ·exact h
    ·exact absurd (tl vs listed a w I i hi h) vN
   obtain⟨o,CI,h2,h3⟩:=(an _ listed i).1 hi;have ho:=inl CI sL;have O3:listed[i]?=some false:=by
    rcases d_ I.ls (show i<l.length+l2.length by omega)with hb|hb
    ·simp[Array.getD_eq_getD_getElem?,hb]at h2
    ·exact hb
   have ab0:=hd o (List.mem_of_getElem? ho);have gh:∀j,gD o j=true->listed[j]?=some true:=by
    intro j hj;unfold gD at hj;rw[<-Array.any_toList,List.any_eq_true]at hj;obtain⟨e,he,hj⟩:=hj;simp only[Bool.and_eq_true,beq_iff_eq]at hj;obtain⟨rfl,hb⟩:=hj;have he:=Array.mem_toList_iff.1 he;have h4:=h3 e he hb;have iK:=dM dN i o CI e he hb;rcases d_ I.ls (show e.on<l.length+l2.length by omega)with hb|hb
    ·exact hb
    ·simp[Array.getD_eq_getD_getElem?,hb]at h4
   have ab8:i=k0\/preB pre i=true->Ch [] w0 w:=λe=>by
    have hk:¬listed[k0]?=some true:=by
     rcases e with e|e
     ·rw[<-e,O3];simp
     ·intro hl;unfold preB at e;obtain⟨p,hp,he⟩:=List.any_eq_true.1 e;have g1:=List.all_eq_true.1 agt p hp;simp only[Bool.and_eq_true]at g1;obtain⟨⟨g2,g3⟩,g4⟩:=g1;cases hh:p.head? with
      |none=>rw[hh]at g3;simp at g3
      |some k=>
       rw[hh]at g3;have ek:=Nat.eq_of_beq_eq_true g3;cases O7:p.getLast? with
       |none=>rw[O7]at he;simp at he
       |some j=>
        rw[O7]at he;have ej:=Nat.eq_of_beq_eq_true he;have:=iL I.back p k j g2 hh O7 (by unfold Nat.blt at g4;exact Nat.le_of_ble_eq_true g4) (λo ho j hj=>I.back k o ho (by rw[ek];exact hl) j hj);rw[ej,O3]at this;simp at this
    have:=I.ch;rw[if_neg hk]at this;exact this
   have step:=(eQ.get hs i o ho) (fI a) w (by rw[Nat.zero_add];exact ab8) (by have:=I.ch;split at this;exact this;exact this.mono (by simp)) (λt ht=>by
    refine I.rest t λk ok hk hok=>?_;rw[qj,List.all_eq_true]at ht;have:=ht ok (List.mem_of_getElem? hk);simp only[hok,bne_self_eq_false,Bool.false_or]at this;have HP:k<l.length:=by rcases Nat.lt_or_ge k l.length with h|h;exact h;simp[h]at hk
    rcases d_ I.ls (show k<l.length+l2.length by omega)with hb|hb
    ·have:=I.back k ok hk hb i (by simpa using this);rw[O3]at this;simp at this
    ·exact hb)
    (λj dj hj FF=>by
     cases jJ:l[j]?with
     |none=>simp[jJ]at FF
     |some oj=>
      have:=I.done j oj jJ (gh j hj);rw[this.1 dj (by simpa[jJ]using FF)];exact this.2)
   have next:∀v w',(i=k0->Ch es w w')->(i≠k0->Ch [] w w')->H i v w'->wpAny P .any (l++l2).toArray Q (fuel+l2.length) (listed.setIfInBounds i true) (a.put o.dst v) w':=by
    intro v w' VE Ly hv;refine ih (λj=>if j=i then v else vs j) _ _ _ ?_ ?_
    ·have gl:∀j b,(listed.setIfInBounds i true)[j]?=some b->(j=i/\b=true)\/(j≠i/\listed[j]?=some b):=by
      intro j b hj;rw[Array.getElem?_setIfInBounds]at hj;by_cases h:i=j
      ·subst h;have:i<l.length+l2.length:=by omega
       simp[I.ls,this]at hj;exact Or.inl ⟨rfl,hj⟩
      ·rw[if_neg h]at hj;exact Or.inr ⟨λe=>h e.symm,hj⟩
     have yp:∀t,(o.dst≠some t->fI (a.put o.dst v) t=fI a t)/\(o.dst=some t->fI (a.put o.dst v) t=v):=λt=>by
      cases NC:o.dst with
      |none=>exact⟨λ_=>rfl,λh=>by cases h⟩
      |some d=>
       have:=kh a d v t (by rw[I.size];exact ab0 d NC);refine⟨λh=>?_,λh=>?_⟩
       ·rw[this,if_neg (λe=>h (by rw[e]))]
       ·rw[this,if_pos (by simpa using h.symm)]
     refine⟨by simp[I.ls],λj h1 h2=>by
      rw[Array.getElem?_setIfInBounds,if_neg (by omega)];exact I.off j h1 h2,by rw[size_put,I.size],by rw[gp,I.defers],?_,?_,?_,?_⟩
     ·by_cases oJ:i=k0
      ·have hk:(listed.setIfInBounds i true)[k0]?=some true:=by
        rw[<-oJ,Array.getElem?_setIfInBounds,if_pos rfl,if_pos (by rw[I.ls];omega)]
       rw[if_pos hk];exact((ab8 (.inl oJ)).mono (by simp)).trans (VE oJ) (λx hx=>.inl hx)
      ·have hk:(listed.setIfInBounds i true)[k0]?=listed[k0]?:=by
        rw[Array.getElem?_setIfInBounds,if_neg oJ]
       rw[hk];have h1:=I.ch;split at h1
       ·rename_i h2;rw[if_pos h2];exact h1.trans (Ly oJ) (by simp)
       ·rename_i h2;rw[if_neg h2];exact h1.trans (Ly oJ) (by simp)
     ·intro j oj hj jJ;rcases gl j true jJ with⟨rfl,_⟩|⟨e_,jJ⟩
      ·obtain rfl:o=oj:=by rw[ho]at hj;simpa using hj
       simp only[if_true];exact⟨λdj FF=>(yp dj).2 FF,hv⟩
      ·have:=I.done j oj hj jJ;simp only[if_neg e_];refine⟨λdj FF=>?_,?_⟩
       ·rw[(yp dj).1 (λe=>e_ (uniq j i oj o dj hj ho FF e))];exact this.1 dj FF
       ·by_cases oJ:i=k0
        ·exact ab7 _ _ _ _ (λe=>e_ (by rw[oJ];exact e)) (by have:=I.ch;split at this;exact this.size;exact this.size) (VE oJ) this.2
        ·exact mK _ _ _ _ (Ly oJ) this.2
     ·intro t ht;have e_:o.dst≠some t:=λe=>by
       have:=ht i o ho e;rcases gl i false this with⟨_,h⟩|⟨h,_⟩
       ·cases h
       ·exact h rfl
      rw[(yp t).1 e_];refine I.rest t λk ok hk hok=>?_;have:=ht k ok hk hok;rcases gl k false this with⟨_,h⟩|⟨_,h⟩
      ·cases h
      ·exact h
     ·intro k ok hk Cu j hj;have hb:listed[j]?=some true:=by
       rcases gl k true Cu with⟨rfl,_⟩|⟨e_,Cu⟩
       ·obtain rfl:o=ok:=by rw[ho]at hk;simpa using hk
        exact gh j hj
       ·exact I.back k ok hk Cu j hj
      rw[Array.getElem?_setIfInBounds];split
      ·rename_i h;subst h;rw[O3]at hb;simp at hb
      ·exact hb
    ·have h2:listed[i]?=some false:=O3;have ab3:=count_set listed.toList i (by simpa using h2);simp only[Array.toList_setIfInBounds];omega
   unfold wpOp;simp only[List.getElem?_toArray,CI];rw[vK];cases hw:fe (l++l2) o (fI a)with
   |true=>
    rw[if_pos rfl];refine Or.inl ?_;have hy:=step.1 hw;rw[IZ]at hy;exact Yields.wp hy λv w' ⟨VE,Ly,hv⟩=>next v w' (by rw[Nat.zero_add]at VE;exact VE) (by rw[Nat.zero_add]at Ly;exact Ly) (by rw[Nat.zero_add]at hv;exact hv)
   |false=>
    rw[if_neg (by simp)];exact next undef w (λ_=>Ch.refl _ _) (λ_=>Ch.refl _ _) (by have:=step.2 hw;rw[Nat.zero_add]at this;exact this)
theorem Wg {id:Nat} (l l2:List Oper) (mK:∀i v w w',Ch [] w w'->H i v w->H i v w') (gh:CJ l k0 pre=true) (ab7:∀i v w w',i≠k0->w0.heap.size<=w.heap.size->Ch es w w'->H i v w->H i v w') (paths:List (List Nat)) (hm:P.follows .mixedOrders=true) (ht:jd (l++l2) l.length paths=true) (kB:nM a0.tmps.size l=true) (dN:fE 0 (l++l2)=true) (hs:eQ P k0 pre es H (l++l2) l (fI a0) w0 0 l)
 (hq:∀(vs:Nat->Value) w',Ch es w0 w'->(∀i o,l[i]?=some o->H i (vs i) w')->wpList P (l++l2).toArray Q l2 (bK vs 0 l a0) w'):(Code.region id (l++l2).toArray true).wp P Q a0 w0:=by
 refine wp_region_any hm ?_;have h:=FJ mK gh ab7 l2 paths ht kB dN hs hq l.length (λ_=>undef) (Array.replicate (l++l2).toArray.size false) a0 {w0 with drawn:=w0.drawn+1} ?_ ?_
 ·rw[show(l++l2).toArray.size=l.length+l2.length by simp];rw[show(l++l2).toArray.size=l.length+l2.length by simp]at h;exact h
 ·refine⟨by simp,λi h1 h2=>by simp[Array.getElem?_replicate];omega,rfl,rfl,?_,?_,λ_ _=>rfl,?_⟩
  ·split
   ·exact(Ch.refl _ _).drew
   ·exact(Ch.refl _ _).drew
  ·intro i o _ h;simp[Array.getElem?_replicate]at h
  ·intro i o _ h;simp[Array.getElem?_replicate]at h
 ·simp[List.count_replicate_self]
end
section
variable{ms:List Nat} {w0 w w':World} {bs:List av}
theorem oK {α:Type}:∀{l:List α} {i:Nat} {x:α},l[i]?=some x->l.Perm (x::l.eraseIdx i)
 |[],i,x,h=>by simp at h
 |y::l,0,x,h=>by obtain rfl:y=x:=by simpa using h
                 exact List.Perm.refl _
 |y::l,i+1,x,h=>by
  have:=oK (l:=l) (i:=i) (x:=x) (by simpa using h);exact(List.Perm.cons y this).trans (List.Perm.swap _ _ _)
end
section
variable{P:Program} {w w0:World} {ms:List Nat} {bs:List av}
theorem bP {ρ:Operand->Value} {o:Oper} {w':World} {s x:Operand} {t tx:TypeId} {sv xv v:Value} (ho:o.op=.call ⟨.builtin .append,#[s,x],#[t,tx]⟩) (hs:ρ s=sv) (hx:ρ x=xv)
 (aY:(Builtin.append_ #[t,tx] o.type #[sv,xv]).run P w=.ok v w'):(execOp ρ o).run P w=.ok (.value v) w':=by
 simp[execOp,ho,resolve,invoke,builtin,hs,hx,aY,Result.andThen]
theorem akx (S:St ms w0 bs w) (i m z:Nat) (news:List Value) {b off c:Nat} {tx e':TypeId} (hk:P.underlying tx=some (.slice e')) (hb:HR bs i off (m*z)=some (b,news.toArray)) (h1:news.all (·.oneCell')=true) (hl:news.length=m*z):
 Src P z tx (.slice (some ⟨b,off,none⟩) m c) m news w:=by
 obtain⟨wr,cs,t,fr,hbi,hc,hv⟩:=Aa hb;refine Src.ofSlice w hk ⟨b,off,none⟩ m c news hl (λj u hj=>?_) (λu hu=>List.all_eq_true.1 h1 u hu);rw[Addr.add_lit,cell_of (S.at_ i _ hbi)];have h2:(cs.extract off (off+m*z))[j]?=some u:=by rw[hc];simpa using hj
 rw[Array.getElem?_extract]at h2;split at h2
 ·exact h2
 ·exact absurd h2 (by simp)
section
variable{ops:Array Oper} {rest:List Oper} {o:Oper} {a:Act} {Q:Exit->Act->World->Prop} {z T n c m bytes:Nat} {olds news tail:List Value} {s x:Operand} {t tx:TypeId} {xv:Value}
theorem O8 {A bl R:List av} {xs:Option Addr} (S:St ms w0 (A++(bl++R)) w) (hr:fa z T olds xs n c bl) (hs:Src P z tx xv m news w) (bytes:Nat) (ho:o.op=.call ⟨.builtin .append,#[s,x],#[t,tx]⟩:=by rfl) (hbd:(n+m)*bytes<=140737488355328) (h63:n+m<=maxLen)
 (k:∀x' c' bl' w',fa z T (olds++news) x' (n+m) c' bl'->St ms w0 (A++(bl'++R)) w'->WL P ops Q rest (a.put o.dst (.slice x' (n+m) c')) w')
 (hw:Region.wanted o (yielded ops a.tmps)=true:=by kernel_rfl) (BL:a.eval s=.slice xs n c:=by kernel_rfl) (BO:a.eval x=xv:=by kernel_rfl)
 (ht:P.underlying t=some (.slice T):=by kernel_rfl) (aF:(P.info? T).map (λi=>(i.zero.map (·.cells.size),i.size,i.bytes))=some (some z,z,bytes):=by kernel_rfl):WL P ops Q (o::rest) a w:=
 WL.want hw λK hK=>by
  obtain⟨v,w',aY,hc,x',c',bl',rfl,mT,ba⟩:=gE (P:=P) (ty:=o.type) hr (λy hy=>S.at' (by simp[hy])) bytes hs ht aF hbd h63;have S2:=S.yE hr.wr hc (λy hy=>(ba y hy).1) (λy hy=>(ba y hy).2) mT.pw;unfold Oper.wp;rw[bP ho BL BO aY];exact hK _ _ (k x' c' bl' w' mT S2)
end
end
def s0 (v:Value):Sp:=⟨0,λ_=>v,λ_=>[]⟩
def qm (l:List Oper) (o:Oper) (t:Nat):Option Nat:=o.after.toList.findSome? λe=>bif Region.binds .any e&&(match(l[e.on]?).bind (·.dst)with|some d=>Nat.beq d t|none=>false)then some e.on else none
def valOf (l:List Oper) (sp:Nat->Sp) (a0:Act) (o:Oper) (t:Nat):Value:=match qm l o t with|some j=>(sp j).f []|none=>fI a0 t
def eH (l:List Oper) (sp:Nat->Sp) (a0:Act) (o:Oper):List (Nat×Value):=o.op.operands.toList.filterMap λx=>match x with|.tmp t=>some (t,valOf l sp a0 o t)|_=>none
def lF (l:List Oper) (sp:Nat->Sp) (i:Nat) (o:Oper):Bool:=o.guard.isNone&&Nat.beq (sp i).k 0&&(sp i).bl [] matches[]&&ue (eH l sp ⟨#[],[]⟩ o) o&&
 o.op.operands.toList.all λx=>match x with|.tmp t=>(match qm l o t with|some j=>Nat.beq (sp j).k 0|none=>qj l i t)|_=>true
theorem o8 {y:Nat->Value}:∀{env:List (Nat×Value)},(∀p∈env,y p.1=p.2)->mQ y env
 |[],_=>trivial
 |p::env,h=>⟨h p (by simp),o8 λq hq=>h q (by simp[hq])⟩
theorem lG {l:List Oper} {o:Oper} {t j:Nat} (h:qm l o t=some j):gD o j=true/\(l[j]?).bind (·.dst)=some t:=by
 obtain⟨e,he,h⟩:=List.exists_of_findSome?_eq_some h;cases hd:(l[e.on]?).bind (·.dst)with
 |none=>simp[hd]at h
 |some d=>
  simp only[hd]at h;cases hb:Region.binds .any e with
  |false=>simp[hb]at h
  |true=>
   cases hc:Nat.beq d t with
   |false=>simp[hb,hc]at h
   |true=>
    simp only[hb,hc,Bool.and_self,cond_true,Option.some.injEq]at h;subst h;exact⟨kN.2 ⟨e,Array.mem_toList_iff.1 he,rfl,hb⟩,by rw[hd,Nat.eq_of_beq_eq_true hc]⟩
theorem qn {l:List Oper} {sp sp':Nat->Sp} {a0 a1:Act} {o:Oper}:ue (eH l sp a0 o) o=true->ue (eH l sp' a1 o) o=true:=by
 intro h;unfold ue at*;simp only[Bool.and_eq_true]at*;refine⟨?_,h.2⟩;rw[Array.all_eq_true_iff_forall_mem]at*;intro x hx;cases x with
 |tmp t=>
  simp only;have hm:∀(env:List Operand) (g:Nat->Value),Operand.tmp t∈env->((env.filterMap λx=>match x with|.tmp t=>some (t,g t)|_=>none).lookup t).isSome=true:=by
   intro env g;induction env with
   |nil=>intro h;simp at h
   |cons y env ih=>
    intro hm;rcases List.mem_cons.1 hm with h|h
    ·subst h;simp
    ·cases y with
     |tmp s=>
      simp only[List.filterMap_cons,List.lookup_cons];split
      ·rfl
      ·exact ih h
     |_=>simp only[List.filterMap_cons];exact ih h
  exact hm _ _ (Array.mem_toList_iff.2 hx)
 |_=>rfl
section
variable{P:Program} {lf l:List Oper} {sp:Nat->Sp} {a0:Act} {w:World} {i:Nat} {o:Oper}
theorem FK (hs:lF l sp i o=true) (h:∀w',Ch [] w w'->Yields P o (j6 (eH l sp a0 o)) w' λv mN=>Ch [] w' mN/\v=(sp i).f []):lC P lf l sp (fI a0) w i o:=by
 simp only[lF,Bool.and_eq_true]at hs;obtain⟨⟨⟨⟨hg,hk⟩,hb⟩,Fv⟩,di⟩:=hs;have Zy:o.guard=none:=by cases hx:o.guard<;>simp_all
 have Ej:(sp i).k=0:=Nat.eq_of_beq_eq_true hk;have Wh:(sp i).bl []=[]:=by
  revert hb;cases(sp i).bl []<;>simp
 intro y w' hc mU gh;refine⟨λ_=>?_,λhw=>by simp[fe,Zy]at hw⟩;refine mR (eH l sp a0 o) (o8 λp hp=>?_) ?_ (qn Fv)
 ·simp only[eH,List.mem_filterMap]at hp;obtain⟨x,hx,hp⟩:=hp;cases x with
  |tmp t=>
   simp only[Option.some.injEq]at hp;subst hp;have h1:=List.all_eq_true.1 di _ hx;simp only at h1;unfold valOf;cases fZ:qm l o t with
   |some j=>
    rw[fZ]at h1;obtain⟨he,hd⟩:=lG fZ;obtain⟨ids,h2,h3,_⟩:=gh j t he hd;have h4:(sp j).k=0:=Nat.eq_of_beq_eq_true h1;obtain rfl:ids=[]:=List.eq_nil_of_length_eq_zero (by rw[h2,h4]);exact h3
   |none=>
    rw[fZ]at h1;exact mU t h1
  |_=>simp at hp
 ·have:=h w' hc;unfold Yields at this⊢;split at this
  ·exact⟨this.1,[],by simp[Ej],this.2,by rw[Wh];simp⟩
  ·exact⟨this.1,[],by simp[Ej],this.2,by rw[Wh];simp⟩
  ·exact this.mono λv mN h=>⟨h.1,[],by simp[Ej],h.2,by rw[Wh];simp⟩
  ·exact this.elim
theorem sD (hs:lF l sp i o=true:=by kernel_rfl) (h:(λw=>(execOp (j6 (eH l sp a0 o)) o).run P w)=(λw=>.ok (.value ((sp i).f [])) w):=by kernel_rfl):lC P lf l sp (fI a0) w i o:=
 FK hs λw' _=>by
  have h2:(execOp (j6 (eH l sp a0 o)) o).run P w'=.ok (.value ((sp i).f [])) w':=congrFun h w';unfold Yields;rw[h2];exact⟨Ch.refl _ _,rfl⟩
theorem qE_ (v0:Value) (he:v0=(sp i).f []) (hs:lF l sp i o=true:=by kernel_rfl) (h:(λw=>(execOp (j6 (eH l sp a0 o)) o).run P w)=(λw=>.ok (.value v0) w):=by kernel_rfl):lC P lf l sp (fI a0) w i o:=by
 subst he;exact sD hs h
theorem qS_ (kd:IntKind) (e:Int) (he:kd.wrap e=e) (hv:(sp i).f []=.int kd e:=by kernel_rfl) (hs:lF l sp i o=true:=by kernel_rfl) (h:(λw=>(execOp (j6 (eH l sp a0 o)) o).run P w)=(λw=>.ok (.value (.int kd (kd.wrap e))) w):=by kernel_rfl):lC P lf l sp (fI a0) w i o:=
 qE_ (.int kd (kd.wrap e)) (by rw[he,hv]) hs h
variable{ms:List Nat} {w0:World} {bs:List av}
theorem qL_ (S:St ms w0 bs w) (j b off:Nat) {x:Operand} {ty:TypeId} (ho:o.op=.load ty x:=by rfl) (hs:lF l sp i o=true:=by kernel_rfl) (hx:j6 (eH l sp a0 o) x=.pointer (some ⟨b,off,none⟩):=by kernel_rfl)
 (ha:(P.underlying ty).map jt=some false:=by kernel_rfl) (hb:lk bs j off=some (b,(sp i).f []):=by kernel_rfl):lC P lf l sp (fI a0) w i o:=
 FK hs λw' hc=>Y.ir (S.quiet hc) j _ b off ⟨Ch.refl _ _,rfl⟩ ho hx ha hb
theorem Zz (S:St ms w0 bs w) (j b off n:Nat) (vs:Array Value) {x:Operand} {ty:TypeId} (ho:o.op=.load ty x:=by rfl) (hv:(sp i).f []=.agg vs:=by kernel_rfl) (hs:lF l sp i o=true:=by kernel_rfl) (hx:j6 (eH l sp a0 o) x=.pointer (some ⟨b,off,none⟩):=by kernel_rfl)
 (ha:(P.underlying ty).map jt=some true:=by kernel_rfl) (hn:(P.info? ty).map (·.size)=some n:=by kernel_rfl) (hb:HR bs j off n=some (b,vs):=by kernel_rfl):lC P lf l sp (fI a0) w i o:=
 FK hs λw' hc=>Y.eC (S.quiet hc) j n vs b off ⟨Ch.refl _ _,hv.symm⟩ ho hx ha hn hb
end
theorem vS {vs:Nat->Value}:∀{dA:List Value} {k:Nat},(∀i v,dA[i]?=some v->vs (k+i)=v)->lD vs k dA
 |[],_,_=>trivial
 |v::dA,k,h=>⟨by have:=h 0 v rfl;simpa using this,vS λi u hu=>by
  have:=h (i+1) u (by simpa using hu)
  rwa [show k+(i+1)=k+1+i by omega]at this⟩
theorem Wi {P:Program} {a0:Act} {w0:World} {Q:Exit->Act->World->Prop} {id:Nat} {L:List Oper} (m:Nat) (dA:List Value) (paths:List (List Nat))
 (hs:gj P L (L.take m) (OC (dA.map s0)) (fI a0) w0 0 (L.take m))
 (hq:∀w',Ch [] w0 w'->WL P L.toArray Q (L.drop m) (mP dA (L.take m) a0) w')
 (hvl:dA.length=m:=by kernel_rfl)
 (hm:P.follows .mixedOrders=true:=by kernel_rfl) (hl:Nat.ble m L.length=true:=by kernel_rfl) (ht:jd L m paths=true:=by kernel_rfl) (kB:vM a0.tmps.size (L.take m)=true:=by kernel_rfl) (dN:fE 0 L=true:=by kernel_rfl):(Code.region id L.toArray true).wp P Q a0 w0:=by
 refine lE m (dA.map s0) paths hs (λvs w' hc di=>⟨dA,hvl,vS λi v hv=>?_,hq w' hc⟩) hm hl ht kB dN;have hi:i<m:=by
  rcases Nat.lt_or_ge i dA.length with h|h
  ·omega
  ·simp[h]at hv
 obtain⟨ids,h1,h2,_⟩:=di i (by unfold Nat.blt;exact Nat.ble_eq_true_of_le hi);have h3:OC (dA.map s0) i=s0 v:=by
  unfold OC;rw[List.getD_eq_getElem?_getD,List.getElem?_map,hv];rfl
 rw[h3]at h1 h2;obtain rfl:ids=[]:=List.eq_nil_of_length_eq_zero (by simpa[s0]using h1);rw[Nat.zero_add,h2];rfl
end Sx
namespace Sx
open Go Go.RowKit Go.BigFrame
section
variable{P:Program} {ops:Array Oper} {rest:List Oper} {o:Oper} {a:Act} {w:World} {Q:Exit->Act->World->Prop}
end
section
variable{P:Program} {lf l:List Oper} {sp:Nat->Sp} {y0:Nat->Value} {w:World} {i:Nat} {o:Oper}
end
end Sx
