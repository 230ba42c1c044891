/- Part 0 of the proof. -/
import Derived.WalkKit
import Derived.Below
import Derived.BigFrame
import Derived.KernelRfl
import Derived.LoopN
import Derived.Laws.CopyRow
import Derived.Laws.StructEq
import Derived.ChangeKeysEq
import Derived.IntWalk
set_option linter.all false
set_option maxRecDepth 100000
set_option maxHeartbeats 4000000
namespace Sx
open Go Go.RowKit Go.BigFrame
structure Ch (ms:List Nat) (w w':World):Prop where
 os:w'.os=w.os
 tape:w'.tape=w.tape
 output:w'.output=w.output
 size:w.heap.size<=w'.heap.size
 block:∀k,k<w.heap.size->k∉ms->w'.heap[k]?=w.heap[k]?
theorem Ch.refl (ms:List Nat) (w:World):Ch ms w w:=⟨rfl,rfl,rfl,Nat.le_refl _,λ_ _ _=>rfl⟩
theorem Ch.trans {ms ns:List Nat} {a b c:World} (h:Ch ms a b) (k:Ch ns b c) (hs:∀x∈ns,x∈ms\/a.heap.size<=x):Ch ms a c:=
 ⟨k.os.trans h.os,k.tape.trans h.tape,k.output.trans h.output,Nat.le_trans h.size k.size,λi hi hm=>
  (k.block i (Nat.lt_of_lt_of_le hi h.size) (λhn=>by rcases hs i hn with h1|h1;exact hm h1;omega)).trans (h.block i hi hm)⟩
theorem Ch.below {w w':World} (h:Ch [] w w'):Below w.heap.size w w':=⟨h.os,h.tape,h.output,h.size,λk hk=>h.block k hk (by simp)⟩
theorem Ch.drew {ms:List Nat} {w w':World} (h:Ch ms w w'):Ch ms w {w' with drawn:=w'.drawn+1}:=⟨h.os,h.tape,h.output,h.size,h.block⟩
theorem Ch.alloc (ms:List Nat) (w:World) (o:Obj):Ch ms w (w.alloc o):=
 ⟨rfl,rfl,rfl,by show w.heap.size<=(w.heap.push o).size;simp,λk hk _=>Below.heap_alloc _ _ _ hk⟩
theorem Ch.setRow (w:World) (g:Nat) (cs:Array Value):Ch [g] w (w.setRow g cs):=
 ⟨rfl,rfl,rfl,by simp[World.setRow],λk hk hm=>by
  simp only[World.setRow,Array.getElem?_modify];rw[if_neg (by intro e;exact hm (by simp[e]))]⟩
structure av where
 id:Nat
 wr:Bool
 obj:Obj
structure St (ms:List Nat) (w0:World) (bs:List av) (w:World):Prop where
 ch:Ch ms w0 w
 at_:∀(i:Nat) x,bs[i]?=some x->w.heap[x.id]?=some x.obj
 own:∀(i:Nat) x,bs[i]?=some x->x.wr=true->x.id∈ms\/w0.heap.size<=x.id
 apart:∀(i j:Nat) x y,bs[i]?=some x->bs[j]?=some y->i≠j->x.wr=true->x.id≠y.id
theorem fW {w:World} {k:Nat} {x:Obj} (h:w.heap[k]?=some x):k<w.heap.size:=by
 rcases Nat.lt_or_ge k w.heap.size with h1|h1
 ·exact h1
 ·simp[h1]at h
theorem St.nil (ms:List Nat) (w:World):St ms w [] w:=⟨Ch.refl _ _,by simp,by simp,by simp⟩
theorem St.quiet {ms:List Nat} {w0 w w':World} {bs:List av} (h:St ms w0 bs w) (hc:Ch [] w w'):St ms w0 bs w':=
 ⟨h.ch.trans hc (by simp),λi x hx=>(hc.block _ (fW (h.at_ i x hx)) (by simp)).trans (h.at_ i x hx),h.own,h.apart⟩
theorem St.step {ms:List Nat} {w0 w w':World} {bs:List av} (h:St ms w0 bs w) {i:Nat} {x:av} (hi:bs[i]?=some x) (hx:x.wr=true) (hc:Ch [x.id] w w') {o':Obj} (ho:w'.heap[x.id]?=some o'):
 St ms w0 (bs.set i ⟨x.id,true,o'⟩) w':=by
 have uC:∀(j:Nat) y,(bs.set i ⟨x.id,true,o'⟩)[j]?=some y->(j=i/\y=⟨x.id,true,o'⟩)\/(j≠i/\bs[j]?=some y):=by
  intro j y hy;by_cases hj:i=j
  ·subst hj;rw[List.getElem?_set_self (by rcases Nat.lt_or_ge i bs.length with h1|h1;exact h1;simp[h1]at hi)]at hy;exact Or.inl ⟨rfl,by simpa using hy.symm⟩
  ·rw[List.getElem?_set_ne hj]at hy;exact Or.inr ⟨λe=>hj e.symm,hy⟩
 refine⟨h.ch.trans hc (by simpa using h.own i x hi hx),?_,?_,?_⟩
 ·intro j y hy;rcases uC j y hy with⟨rfl,rfl⟩|⟨e_,hy⟩
  ·exact ho
  ·exact(hc.block _ (fW (h.at_ j y hy)) (by simpa using(h.apart i j x y hi hy (λe=>e_ e.symm) hx).symm)).trans (h.at_ j y hy)
 ·intro j y hy hw;rcases uC j y hy with⟨rfl,rfl⟩|⟨_,hy⟩
  ·exact h.own _ x hi hx
  ·exact h.own j y hy hw
 ·intro j k y z hy hz e_ hw;rcases uC j y hy with⟨rfl,rfl⟩|⟨h1,hy⟩<;>rcases uC k z hz with⟨rfl,rfl⟩|⟨h2,hz⟩
  ·exact absurd rfl e_
  ·exact h.apart _ k x z hi hz (λe=>h2 e.symm) hx
  ·exact λe=>h.apart _ j x y hi ‹bs[j]?=some y› (λe=>h1 e.symm) hx e.symm
  ·exact h.apart _ _ _ _ ‹bs[j]?=some y› hz e_ hw
theorem St.new {ms:List Nat} {w0 w w':World} {bs:List av} (h:St ms w0 bs w) (hc:Ch [] w w') {b:Nat} {o:Obj} (hb:w.heap.size<=b) (ho:w'.heap[b]?=some o):St ms w0 (⟨b,true,o⟩::bs) w':=by
 have hq:=h.quiet hc;have iK:∀(i:Nat) x,bs[i]?=some x->x.id<b:=λi x hx=>Nat.lt_of_lt_of_le (fW (h.at_ i x hx)) hb;refine⟨hq.ch,?_,?_,?_⟩
 ·intro i x hx;cases i with
  |zero=>obtain rfl:_=x:=by simpa using hx
         exact ho
  |succ i=>exact hq.at_ i x (by simpa using hx)
 ·intro i x hx hw;cases i with
  |zero=>obtain rfl:_=x:=by simpa using hx
         exact Or.inr (Nat.le_trans h.ch.size hb)
  |succ i=>exact hq.own i x (by simpa using hx) hw
 ·intro i j x y hx hy e_ hw;cases i with
  |zero=>
   obtain rfl:_=x:=by simpa using hx
   cases j with
   |zero=>exact absurd rfl e_
   |succ j=>have:=iK j y (by simpa using hy);simp;omega
  |succ i=>
   cases j with
   |zero=>obtain rfl:_=y:=by simpa using hy
          have:=iK i x (by simpa using hx);simp;omega
   |succ j=>exact hq.apart i j x y (by simpa using hx) (by simpa using hy) (by omega) hw
theorem St.lt {ms:List Nat} {w0 w:World} {bs:List av} (h:St ms w0 bs w) {i:Nat} {x:av} (hi:bs[i]?=some x):x.id<w.heap.size:=fW (h.at_ i x hi)
theorem St.pick {ms:List Nat} {w0 w:World} {bs:List av} (h:St ms w0 bs w) (is:List Nat) {bs':List av} (he:is.map (bs[·]?)=bs'.map some) (hn:is.Nodup):St ms w0 bs' w:=by
 have ba:∀(i:Nat) x,bs'[i]?=some x->∃j,is[i]?=some j/\bs[j]?=some x:=by
  intro i x hx;have h1:(bs'.map some)[i]?=some (some x):=by simp[hx]
  rw[<-he]at h1;simp only[List.getElem?_map,Option.map_eq_some_iff]at h1;exact h1
 refine⟨h.ch,?_,?_,?_⟩
 ·intro i x hx;obtain⟨j,_,hj⟩:=ba i x hx;exact h.at_ j x hj
 ·intro i x hx;obtain⟨j,_,hj⟩:=ba i x hx;exact h.own j x hj
 ·intro i k x y hx hy e_;obtain⟨j,Cc,hj⟩:=ba i x hx;obtain⟨l,HP,hl⟩:=ba k y hy;refine h.apart j l x y hj hl ?_;intro e;subst e;exact e_ ((List.getElem?_inj (by rcases Nat.lt_or_ge i is.length with h1|h1;exact h1;simp[h1]at Cc) hn).1 (Cc.trans HP.symm))
def jt (d:TypeDesc):Bool:=match d with|.struct _|.array _ _=>true|_=>false
section
variable{P:Program}
theorem iq {ty:TypeId} {b:Bool} (h:(P.underlying ty).map jt=some b) (w:World):(isAgg ty).run P w=.ok b w:=by
 cases hq:P.underlying ty with
 |none=>simp[hq]at h
 |some d=>
  simp[hq]at h;unfold isAgg;rw[Sem.run_bind,run_underlying hq w];cases d<;>simp_all[jt]
theorem cell_of {w:World} {g:Nat} {cs:Array Value} {t:TypeId} {fr:Nat×Nat} (h:w.heap[g]?=some (.cells cs t fr)) (o:Nat):w.cell? ⟨g,o,none⟩=cs[o]?:=by
 simp[World.cell?,h]
theorem jF {w:World} {g off:Nat} {cs:Array Value} {t ty:TypeId} {fr:Nat×Nat} {v:Value} (hg:w.heap[g]?=some (.cells cs t fr)) (ha:(P.underlying ty).map jt=some false) (hc:cs[off]?=some v):
 (loadVar ty ⟨g,off,none⟩).run P w=.ok v w:=by
 unfold loadVar;rw[Sem.run_bind,iq ha];simp[load,Sem.run,cell_of hg,hc]
theorem kM {w:World} {g off n:Nat} {cs vs:Array Value} {t ty:TypeId} {fr:Nat×Nat} (hg:w.heap[g]?=some (.cells cs t fr)) (ha:(P.underlying ty).map jt=some true) (hn:(P.info? ty).map (·.size)=some n)
 (hc:cs.extract off (off+n)=vs) (hv:vs.size=n):(loadVar ty ⟨g,off,none⟩).run P w=.ok (.agg vs) w:=by
 have hl:(loadCells ⟨g,off,none⟩ vs.toList.length).run P w=.ok vs.toList.toArray w:=
  run_loadCells_list (P:=P) w ⟨g,off,none⟩ vs.toList (λj v hj=>by
   have OU:(⟨g,off,none⟩:Addr).add j=⟨g,off+j,none⟩:=by unfold Addr.add;split<;>simp_all
   rw[OU,cell_of hg];have h1:vs[j]?=some v:=by simpa using hj
   rw[<-hc,Array.getElem?_extract]at h1;split at h1
   ·exact h1
   ·exact absurd h1 (by simp))
 cases hq:P.info? ty with
 |none=>simp[hq]at hn
 |some i=>
  have hs:i.size=vs.size:=by simpa[hq,hv]using hn
  simp only[Array.length_toList,Array.toArray_toList]at hl;simp[loadVar,Sem.run_bind,iq ha,Go.sizeOf,typeInfo,hq,hs,hl]
def splice (cs:Array Value) (off:Nat) (vs:List Value):Array Value:=(cs.toList.take off++vs++cs.toList.drop (off+vs.length)).toArray
theorem ly {w:World} {g off:Nat} {cs:Array Value} {t ty:TypeId} {v:Value} {vs:List Value} (hg:w.heap[g]?=some (.cells cs t (0,0))) (hv:v.cells.toList=vs) (hn:(P.info? ty).map (·.size)=some vs.length)
 (hl:off+vs.length<=cs.size) (h1:vs.all (·.oneCell')=true):(storeVar ty ⟨g,off,none⟩ v).run P w=.ok () (w.setRow g (splice cs off vs)):=by
 cases hq:P.info? ty with
 |none=>simp[hq]at hn
 |some i=>
  have hs:i.size=vs.length:=by simpa[hq]using hn
  have hz:v.cells.size=vs.length:=by rw[<-hv];simp
  have:=run_storeCells_at (P:=P) g off t vs 0 cs w hg (by simpa using hl) (by simpa using h1);unfold storeVar;simp[Sem.run_bind,Go.sizeOf,typeInfo,hq,hs,hz,hv,splice]at this⊢;exact this
end
def aj (P:Program) (f:FuncId) (args:Array Value) (w:World) (R:Value->World->Prop):Prop:=Calls P f args w λe w'=>∃v,e=.returned v/\R v w'
theorem aj.mono {P:Program} {f:FuncId} {args:Array Value} {w:World} {R R':Value->World->Prop} (h:aj P f args w R) (hr:∀v w',R v w'->R' v w'):aj P f args w R':=
 Calls.mono h λe w' ⟨v,he,hv⟩=>⟨v,he,hr _ _ hv⟩
def lk (bs:List av) (i off:Nat):Option (Nat×Value):=
 match bs[i]?with
 |some ⟨b,_,.cells cs _ _⟩=>match cs[off]?with|some v=>some (b,v)|none=>none
 |_=>none
def HR (bs:List av) (i off n:Nat):Option (Nat×Array Value):=
 match bs[i]?with
 |some ⟨b,_,.cells cs _ _⟩=>match Nat.ble (off+n) cs.size with|true=>some (b,((cs.toList.drop off).take n).toArray)|false=>none
 |_=>none
def Ib (bs:List av) (i off n:Nat):Option Nat:=
 match bs[i]?with
 |some ⟨b,true,.cells cs _ (0,0)⟩=>match Nat.ble (off+n) cs.size with|true=>some b|false=>none
 |_=>none
def Wd (bs:List av) (i off:Nat) (vs:List Value):List av:=
 match bs[i]?with
 |some ⟨b,wr,.cells cs t fr⟩=>bs.set i ⟨b,wr,.cells (splice cs off vs) t fr⟩
 |_=>bs
theorem aa3 {bs:List av} {i off b:Nat} {v:Value} (h:lk bs i off=some (b,v)):∃wr cs t fr,bs[i]?=some ⟨b,wr,.cells cs t fr⟩/\cs[off]?=some v:=by
 unfold lk at h;split at h
 ·rename_i b' wr cs t fr hb;split at h
  ·rename_i v' hv;simp only[Option.some.injEq,Prod.mk.injEq]at h;obtain⟨rfl,rfl⟩:=h;exact⟨wr,cs,t,fr,hb,hv⟩
  ·simp at h
 ·simp at h
theorem Aa {bs:List av} {i off n b:Nat} {vs:Array Value} (h:HR bs i off n=some (b,vs)):∃wr cs t fr,bs[i]?=some ⟨b,wr,.cells cs t fr⟩/\cs.extract off (off+n)=vs/\vs.size=n:=by
 unfold HR at h;split at h
 ·rename_i b' wr cs t fr hb;split at h
  ·rename_i hle;simp only[Option.some.injEq,Prod.mk.injEq]at h;obtain⟨rfl,rfl⟩:=h;have:=Nat.le_of_ble_eq_true hle;have e:cs.extract off (off+n)=((cs.toList.drop off).take n).toArray:=by
    apply Array.ext';simp[List.extract]
   exact⟨wr,cs,t,fr,hb,e,by simp;omega⟩
  ·simp at h
 ·simp at h
theorem Ab {bs:List av} {i off n b:Nat} (h:Ib bs i off n=some b):∃cs t,bs[i]?=some ⟨b,true,.cells cs t (0,0)⟩/\off+n<=cs.size:=by
 unfold Ib at h;split at h
 ·rename_i b' cs t hb;split at h
  ·rename_i hle;simp only[Option.some.injEq]at h;obtain rfl:=h;exact⟨cs,t,hb,Nat.le_of_ble_eq_true hle⟩
  ·simp at h
 ·simp at h
structure WL (P:Program) (ops:Array Oper) (Q:Exit->Act->World->Prop) (l:List Oper) (a:Act) (w:World):Prop where
 out:wpList P ops Q l a w
theorem WL.want {P:Program} {ops:Array Oper} {Q:Exit->Act->World->Prop} {a:Act} {w:World} {rest:List Oper} {o:Oper} (hw:Region.wanted o (yielded ops a.tmps)=true)
 (h:∀K:Act->World->Prop,(∀a w,WL P ops Q rest a w->K a w)->o.wp P a w K Q):WL P ops Q (o::rest) a w:=⟨wpList_want hw λK hK=>h K λa w x=>hK a w x.out⟩
section
variable{P:Program} {ops:Array Oper} {rest:List Oper} {o:Oper} {a:Act} {w w0:World} {ms:List Nat} {bs:List av} {Q:Exit->Act->World->Prop}
theorem aa (v:Value) (k:WL P ops Q rest (a.put o.dst v) w) (hw:Region.wanted o (yielded ops a.tmps)=true:=by kernel_rfl) (h:(execOp a.eval o).run P w=.ok (.value v) w:=by kernel_rfl):WL P ops Q (o::rest) a w:=
 WL.want hw λK hK=>by unfold Oper.wp;rw[h];exact hK _ _ k
theorem qg (k:WL P ops Q rest (a.put o.dst undef) w) (hw:Region.wanted o (yielded ops a.tmps)=false:=by kernel_rfl):WL P ops Q (o::rest) a w:=⟨wpList_skip hw k.out⟩
theorem ir (S:St ms w0 bs w) (i:Nat) (v:Value) (b off:Nat) {x:Operand} {ty:TypeId} (k:WL P ops Q rest (a.put o.dst v) w) (hw:Region.wanted o (yielded ops a.tmps)=true:=by kernel_rfl) (ho:o.op=.load ty x:=by rfl) (hx:a.eval x=.pointer (some ⟨b,off,none⟩):=by kernel_rfl)
 (ha:(P.underlying ty).map jt=some false:=by kernel_rfl) (hb:lk bs i off=some (b,v):=by kernel_rfl):WL P ops Q (o::rest) a w:=
 WL.want hw λK hK=>by
  obtain⟨wr,cs,t,fr,hb,hc⟩:=aa3 hb;unfold Oper.wp execOp;simp only[ho,hx,Instr.loadAt,Instr.sureAddr,Sem.run_bind,Sem.run_pure,Result.andThen_ok,jF (S.at_ i _ hb) ha hc];exact hK _ _ k
theorem eC (S:St ms w0 bs w) (i:Nat) (n:Nat) (vs:Array Value) (b off:Nat) {x:Operand} {ty:TypeId} (k:WL P ops Q rest (a.put o.dst (.agg vs)) w) (hw:Region.wanted o (yielded ops a.tmps)=true:=by kernel_rfl) (ho:o.op=.load ty x:=by rfl) (hx:a.eval x=.pointer (some ⟨b,off,none⟩):=by kernel_rfl)
 (ha:(P.underlying ty).map jt=some true:=by kernel_rfl) (hn:(P.info? ty).map (·.size)=some n:=by kernel_rfl) (hb:HR bs i off n=some (b,vs):=by kernel_rfl):WL P ops Q (o::rest) a w:=
 WL.want hw λK hK=>by
  obtain⟨wr,cs,t,fr,hb,hc,hv⟩:=Aa hb;unfold Oper.wp execOp;simp only[ho,hx,Instr.loadAt,Instr.sureAddr,Sem.run_bind,Sem.run_pure,Result.andThen_ok,kM (S.at_ i _ hb) ha hn hc hv];exact hK _ _ k
theorem store_ (S:St ms w0 bs w) (i:Nat) (v:Value) (b off:Nat) {x y:Operand} {ty:TypeId} (k:∀w',St ms w0 (Wd bs i off v.cells.toList) w'->WL P ops Q rest (a.put o.dst undef) w') (hw:Region.wanted o (yielded ops a.tmps)=true:=by kernel_rfl) (ho:o.op=.store ty x y:=by rfl) (hx:a.eval x=.pointer (some ⟨b,off,none⟩):=by kernel_rfl) (hy:a.eval y=v:=by kernel_rfl)
 (hn:(P.info? ty).map (·.size)=some v.cells.toList.length:=by kernel_rfl) (h1:v.cells.toList.all (·.oneCell')=true:=by kernel_rfl) (hb:Ib bs i off v.cells.toList.length=some b:=by kernel_rfl):WL P ops Q (o::rest) a w:=
 WL.want hw λK hK=>by
  obtain⟨cs,t,hb,hl⟩:=Ab hb;unfold Oper.wp execOp;have ba:=S.at_ i _ hb;simp only[ho,hx,hy,Instr.storeAt,Instr.sureAddr,Sem.run_bind,Sem.run_pure,Result.andThen_ok,ly (P:=P) ba rfl hn hl h1];refine hK _ _ (k _ ?_);have:=S.step hb rfl (Ch.setRow w b _) (setRow_heap w b cs (splice cs off v.cells.toList) t (0,0) ba);simpa[Wd,hb]using this
theorem bY {x:Operand} (k:WL P ops Q rest (a.put o.dst (a.eval x)) w) (hw:Region.wanted o (yielded ops a.tmps)=true:=by kernel_rfl) (ho:o.op=.move x:=by rfl):WL P ops Q (o::rest) a w:=
 aa _ k hw (by unfold execOp;simp[ho])
theorem bJ {x:Operand} (k:WL P ops Q rest (a.put o.dst (a.eval x)) w) (hw:Region.wanted o (yielded ops a.tmps)=true:=by kernel_rfl) (ho:o.op=.assign x:=by rfl):WL P ops Q (o::rest) a w:=
 aa _ k hw (by unfold execOp;simp[ho])
theorem gV (v v':Value) (he:v=v') (k:WL P ops Q rest (a.put o.dst v') w) (hw:Region.wanted o (yielded ops a.tmps)=true:=by kernel_rfl) (h:(execOp a.eval o).run P w=.ok (.value v) w:=by kernel_rfl):WL P ops Q (o::rest) a w:=by
 subst he;exact aa v k hw h
theorem lz (kd:IntKind) (e:Int) (he:kd.wrap e=e) (k:WL P ops Q rest (a.put o.dst (.int kd e)) w) (hw:Region.wanted o (yielded ops a.tmps)=true:=by kernel_rfl) (h:(execOp a.eval o).run P w=.ok (.value (.int kd (kd.wrap e))) w:=by kernel_rfl):WL P ops Q (o::rest) a w:=
 gV _ _ (by rw[he]) k hw h
theorem aa4 (t:Nat) (b:Bool) (ht:b=true->WL P ops Q rest (a.put (some t) (.bool true)) w) (hf:b=false->WL P ops Q rest (a.put (some t) (.bool false)) w) (hv:a.tmps[t]?=some (.bool b):=by kernel_rfl):WL P ops Q rest a w:=by
 have hs:a.put (some t) (.bool b)=a:=by
  obtain⟨tmps,ds⟩:=a;have e:tmps.setIfInBounds t (.bool b)=tmps:=by
   apply Array.ext_getElem?;intro i;rw[Array.getElem?_setIfInBounds];have hv':tmps[t]?=some (.bool b):=hv;by_cases h:t=i
   ·subst h;rw[if_pos rfl];by_cases h2:t<tmps.size
    ·rw[if_pos h2];exact hv'.symm
    ·rw[if_neg h2];rw[Array.getElem?_eq_none (by omega)]at hv';exact absurd hv' (by simp)
   ·rw[if_neg h]
  simp only[Act.put,e]
 cases b
 ·rw[<-hs];exact hf rfl
 ·rw[<-hs];exact ht rfl
theorem eD (S:St ms w0 bs w) (f:Nat->Value) (obj:Obj) (k:∀b w',St ms w0 (⟨b,true,obj⟩::bs) w'->WL P ops Q rest (a.put o.dst (f b)) w') (hw:Region.wanted o (yielded ops a.tmps)=true:=by kernel_rfl) (h:(execOp a.eval o).run P w=.ok (.value (f w.heap.size)) (w.alloc obj):=by kernel_rfl):WL P ops Q (o::rest) a w:=
 WL.want hw λK hK=>by
  unfold Oper.wp;rw[h];exact hK _ _ (k _ _ (S.new (Ch.alloc _ _ _) (Nat.le_refl _) (heap_alloc_new w obj)))
theorem dh (f:FuncId) (args:Array Value) (k:aj P f args w λv w'=>WL P ops Q rest (a.put o.dst v) w') (hw:Region.wanted o (yielded ops a.tmps)=true:=by kernel_rfl) (h:(execOp a.eval o).run P w=.ok (.enter f args) w:=by kernel_rfl):WL P ops Q (o::rest) a w:=
 WL.want hw λK hK=>by
  unfold Oper.wp;rw[h];refine Calls.mono k ?_;rintro e w' ⟨v,rfl,hk⟩;exact hK _ _ hk
end
section
variable{P:Program} {a:Act} {w:World} {Q:Exit->Act->World->Prop}
theorem dz {f:FuncId} {fn:Func} {c:Code} {args:Array Value} {R:Value->World->Prop} (hf:P.funcs[f]?=some fn) (hb:fn.body=some c)
 (h:c.wp P (bodyPost P fn (λe w'=>∃v,e=.returned v/\R v w')) ⟨args++Array.replicate (fn.ntmps-args.size) undef,[]⟩ w):aj P f args w R:=by
 exact calls_of_wp hf hb h
theorem au {x y:Code} (h:x.wp P (Exit.then (y.wp P Q) Q) a w):(Code.seq x y).wp P Q a w:=wp_seq h
theorem ax {id:Nat} {l:List Oper} (h:WL P l.toArray Q l a w):(Code.region id l.toArray false).wp P Q a w:=wp_region_lit h.out
theorem aw {ops:Array Oper} (h:Q .normal a w):WL P ops Q [] a w:=⟨h⟩
theorem ag {y:Code} (h:y.wp P Q a w):Exit.then (y.wp P Q) Q .normal a w:=h
theorem OV {K:Act->World->Prop} (h:Q .ret a w):Exit.then K Q .ret a w:=h
theorem fy {K:Act->World->Prop} {id:Nat} (h:Q (.exit id) a w):Exit.then K Q (.exit id) a w:=h
theorem ik {id:Nat} (h:Q .normal a w):Exit.inBlock id Q .normal a w:=h
theorem qh {id:Nat} (h:Q .normal a w):Exit.inBlock id Q (.exit id) a w:=by simpa[Exit.inBlock]using h
theorem CD {c:Code} (n:Nat) (h:c.wp P (Exit.then (Code.rounds P c Q n) Q) a w):(Code.loop c).wp P Q a w:=wp_loop_rounds (n+1) h
theorem lA {c:Code} {n:Nat} (h:c.wp P (Exit.then (Code.rounds P c Q n) Q) a w):Exit.then (Code.rounds P c Q (n+1)) Q .normal a w:=h
theorem gn {fn:Func} {R:Value->World->Prop} {v:Value} (hd:a.defers=[]) (hr:(results fn a.tmps).run P w=.ok v w) (h:R v w):bodyPost P fn (λe w'=>∃v,e=.returned v/\R v w') .ret a w:=
 ⟨hd,v,hr,v,rfl,h⟩
theorem end_ {fn:Func} {R:Value->World->Prop} {v:Value} (hd:a.defers=[]) (hr:(results fn a.tmps).run P w=.ok v w) (h:R v w):bodyPost P fn (λe w'=>∃v,e=.returned v/\R v w') .normal a w:=
 ⟨hd,v,hr,v,rfl,h⟩
def mM (tmps:Array Value):ResultVar->Sem Value
 |.tmp t=>pure (tmps.getD t undef)
 |.cell a t=>do loadVar t (<-asAddr (tmps.getD a undef))
def Ac (P:Program) (w:World) (tmps:Array Value):List ResultVar->List Value->Prop
 |[],[]=>True
 |r::rs,v::vs=>(mM tmps r).run P w=.ok v w/\Ac P w tmps rs vs
 |_,_=>False
theorem CE {tmps:Array Value}:∀{rs:List ResultVar} {vs:List Value},Ac P w tmps rs vs->(rs.mapM (mM tmps)).run P w=.ok vs w
 |[],[],_=>rfl
 |r::rs,v::vs,⟨h,hs⟩=>by
  simp only[List.mapM_cons,Sem.run_bind,h,Result.andThen_ok,CE hs];rfl
 |[],_::_,h=>h.elim
 |_::_,[],h=>h.elim
def Ad:List Value->Value
 |[v]=>v
 |vs=>.tuple vs.toArray
theorem fY {fn:Func} {tmps:Array Value} (rs:List ResultVar) (vs:List Value) (v:Value) (h:Ac P w tmps rs vs) (hf:fn.results=rs.toArray:=by kernel_rfl) (hv:Ad vs=v:=by kernel_rfl):(results fn tmps).run P w=.ok v w:=by
 subst hv;have h1:results fn tmps=(do let vs <-fn.results.mapM (mM tmps);pure (if h:vs.size=1 then vs[0]else .tuple vs)):=by
  unfold results;congr 2
 rw[h1,hf,List.mapM_toArray];simp only[Sem.run_map,CE h,Result.andThen_ok,bind_pure_comp,Functor.map_map];rcases vs with _|⟨v,_|⟨u,vs⟩⟩<;>simp[Ad]
theorem cM {tmps:Array Value} {t:Nat} {v:Value} (h:tmps.getD t undef=v:=by kernel_rfl):(mM tmps (.tmp t)).run P w=.ok v w:=by subst h;rfl
theorem cU {ms:List Nat} {w0:World} {bs:List av} (S:St ms w0 bs w) (i n b off:Nat) {tmps vs:Array Value} {t ty:Nat} (h:tmps.getD t undef=.pointer (some ⟨b,off,none⟩):=by kernel_rfl)
 (ha:(P.underlying ty).map jt=some true:=by kernel_rfl) (hn:(P.info? ty).map (·.size)=some n:=by kernel_rfl) (hb:HR bs i off n=some (b,vs):=by kernel_rfl):(mM tmps (.cell t ty)).run P w=.ok (.agg vs) w:=by
 obtain⟨wr,cs,t,fr,hb,hc,hv⟩:=Aa hb;simp only[mM,h,Sem.run_bind,asAddr,Sem.run_pure,Result.andThen_ok,kM (S.at_ i _ hb) ha hn hc hv]
end
section
variable{P:Program} {a:Act} {w:World} {Q:Exit->Act->World->Prop}
theorem lB {c:Operand} {x y:Code} (h:x.wp P Q a w) (hc:a.eval c=.bool true:=by kernel_rfl):(Code.cond c x y).wp P Q a w:=wp_cond_true hc h
theorem iu {c:Operand} {x y:Code} (h:y.wp P Q a w) (hc:a.eval c=.bool false:=by kernel_rfl):(Code.cond c x y).wp P Q a w:=wp_cond_false hc h
theorem jH {c:Operand} {x y:Code} (b:Bool) (ht:b=true->x.wp P Q a w) (hf:b=false->y.wp P Q a w) (hc:a.eval c=.bool b:=by kernel_rfl):(Code.cond c x y).wp P Q a w:=wp_cond_split hc ht hf
theorem ltF {x y:Int} (h:y<=x):decide (x<y)=false:=decide_eq_false (by omega)
theorem neF {x y:Int} (h:x=y):(x !=y)=false:=by simpa using h
theorem FC {x y:Int} (h:decide (x<y)=true):x<y:=of_decide_eq_true h
theorem FE {x y:Int} (h:decide (x<y)=false):y<=x:=by have:=of_decide_eq_false h;omega
theorem agn {x y:Int} (h:decide (x<=y)=true):x<=y:=of_decide_eq_true h
theorem ago {x y:Int} (h:decide (x<=y)=false):y<x:=by have:=of_decide_eq_false h;omega
theorem abX {x y:Int} (h:(x !=y)=true):¬x=y:=by simpa using h
theorem abY {x y:Int} (h:(x !=y)=false):x=y:=by simpa using h
theorem OW {b:Bool} (h:(!b)=true):b=false:=by simpa using h
theorem OX {b:Bool} (h:(!b)=false):b=true:=by simpa using h
end
def yX (P:Program) (t:TypeId) (cs:Array Value) (off:Nat):Option Value:=
 match(P.underlying t).map jt,(P.info? t).map (·.size)with
 |some true,some n=>some (.agg (cs.extract off (off+n)))
 |some false,some _=>cs[off]?
 |_,_=>none
theorem qi {P:Program} {t:TypeId} {cs:Array Value} {off:Nat} {v:Value} (h:yX P t cs off=some v) (w:World):(part t cs off).run P w=.ok v w:=by
 unfold yX at h;split at h
 ·rename_i n h1 h2;obtain rfl:_=v:=by simpa using h
  cases hq:P.info? t with
  |none=>simp[hq]at h2
  |some i=>
   have hs:i.size=n:=by simpa[hq]using h2
   unfold part;simp[Sem.run_bind,iq h1,Go.sizeOf,typeInfo,hq,hs]
 ·rename_i n h1 h2;unfold part;simp[Sem.run_bind,iq h1,h]
 ·simp at h
def Ls (P:Program) (g:TypeId->Value->Value->Option Bool) (xs ys:Array Value):List Field->Option Bool
 |[]=>some true
 |f::fs=>
  match decide (f.name≠ "_")with
  |false=>Ls P g xs ys fs
  |true=>match yX P f.type xs f.offset,yX P f.type ys f.offset with
   |some a,some b=>match g f.type a b,Ls P g xs ys fs with
    |some r,some q=>some (r&&q)
    |_,_=>none
   |_,_=>none
def OY (P:Program) (g:TypeId->Value->Value->Option Bool) (e:TypeId) (c:Nat) (xs ys:Array Value):List Nat->Option Bool
 |[]=>some true
 |i::is=>
  match yX P e xs (i*c),yX P e ys (i*c)with
  |some a,some b=>match g e a b,OY P g e c xs ys is with
   |some r,some q=>some (r&&q)
   |_,_=>none
  |_,_=>none
def Ic (P:Program):Nat->TypeId->Value->Value->Option Bool
 |0,_,_,_=>none
 |d+1,t,x,y=>
  match P.underlying t,x,y with
  |some .bool,.bool a,.bool b=>some (a==b)
  |some (.int _),.int k a,.int k' b=>match decide (k=k')with|true=>some (a==b)|false=>none
  |some (.struct _),.agg xs,.agg ys=>match P.stoodInHeld t with|true=>none|false=>Ls P (Ic P d) xs ys (P.fieldsOf t).toList
  |some (.array n e),.agg xs,.agg ys=>match P.info? e with|some _=>OY P (Ic P d) e (P.cellsOf e) xs ys (List.range n)|none=>none
  |_,_,_=>none
section
variable{P:Program}
theorem vJ {d:Nat} {g:TypeId->Value->Value->Option Bool} (hg:∀t x y r,g t x y=some r->∀w,(Op.equalIn d t x y).run P w=.ok r w) (xs ys:Array Value):
 ∀(fs:List Field) (r:Bool),Ls P g xs ys fs=some r->∀w,(Op.eqFields d xs ys fs).run P w=.ok r w
 |[],r,h,w=>by obtain rfl:true=r:=by simpa[Ls]using h
               rfl
 |f::fs,r,h,w=>by
  unfold Ls at h;unfold Op.eqFields;split at h
  ·rename_i hn;have OZ:¬f.name≠ "_" :=of_decide_eq_false hn;rw[if_neg OZ];exact vJ hg xs ys fs r h w
  ·rename_i hn;have OZ:f.name≠ "_" :=of_decide_eq_true hn;rw[if_pos OZ];split at h
   ·rename_i a b ha hb;split at h
    ·rename_i r1 q h1 h2;obtain rfl:(r1&&q)=r:=by simpa using h
     simp only[Sem.run_bind,qi ha,qi hb,Result.andThen_ok,hg _ _ _ _ h1];cases r1
     ·simp
     ·simp[vJ hg xs ys fs q h2]
    ·simp at h
   ·simp at h
theorem CF {d:Nat} {g:TypeId->Value->Value->Option Bool} (hg:∀t x y r,g t x y=some r->∀w,(Op.equalIn d t x y).run P w=.ok r w) (e c:Nat) (xs ys:Array Value):
 ∀(is:List Nat) (r:Bool),OY P g e c xs ys is=some r->∀w,(Op.eqItems d e c xs ys is).run P w=.ok r w
 |[],r,h,w=>by obtain rfl:true=r:=by simpa[OY]using h
               rfl
 |i::is,r,h,w=>by
  unfold OY at h;unfold Op.eqItems;split at h
  ·rename_i a b ha hb;split at h
   ·rename_i r1 q h1 h2;obtain rfl:(r1&&q)=r:=by simpa using h
    simp only[Sem.run_bind,qi ha,qi hb,Result.andThen_ok,hg _ _ _ _ h1];cases r1
    ·simp
    ·simp[CF hg e c xs ys is q h2]
   ·simp at h
  ·simp at h
theorem uY:∀(d:Nat) (t:TypeId) (x y:Value) (r:Bool),Ic P d t x y=some r->∀w,(Op.equalIn d t x y).run P w=.ok r w
 |0,_,_,_,_,h,_=>by simp[Ic]at h
 |d+1,t,x,y,r,h,w=>by
  unfold Ic at h;split at h
  ·rename_i a b hu;obtain rfl:(a==b)=r:=by simpa using h
   exact run_equalIn_bool' w d t a b hu
  ·rename_i k0 k a k' b hu;split at h
   ·rename_i hk;obtain rfl:k=k':=of_decide_eq_true hk;obtain rfl:(a==b)=r:=by simpa using h
    exact run_equalIn_int w d t k k0 a b hu
   ·simp at h
  ·rename_i fs xs ys hu;split at h
   ·simp at h
   ·rename_i hp;have hf:P.underlying t=some (.struct (P.fieldsOf t)):=by simp[Program.fieldsOf,hu]
    rw[run_equalIn_struct w d t xs ys hf hp];exact vJ (uY d) xs ys _ r h w
  ·rename_i n e xs ys hu;split at h
   ·rename_i i hi;rw[run_equalIn_array w d xs ys hu hi];exact CF (uY d) e _ xs ys _ r h w
   ·simp at h
  ·simp at h
variable{ops:Array Oper} {rest:List Oper} {o:Oper} {a:Act} {w:World} {Q:Exit->Act->World->Prop}
theorem Lt {ρ:Operand->Value} {t yt:TypeId} {x y:Operand} {xs ys:Array Value} {r:Bool} (neg:Bool) (ho:o.op=.binOp (bif neg then .neq else .eql) t x y yt) (hx:ρ x=.agg xs) (hy:ρ y=.agg ys) (hg:P.eqGuardType P.depth t=false) (he:Ic P 10000 t (.agg xs) (.agg ys)=some r):
 (execOp ρ o).run P w=.ok (.value (.bool (bif neg then !r else r))) w:=by
 have h:=uY 10000 t (.agg xs) (.agg ys) r he w;unfold execOp;cases neg<;>simp only[ho,hx,hy,cond_true,cond_false,Sem.run_bind,run_eqGuard_agg _ _ t x y xs ys hg,Result.andThen_ok,run_eql_struct,run_neq_struct,h,Sem.run_pure]
end
theorem Ae {a b:Nat} (h:a<=b):(2:Int)^a<=2^b:=by
 have:=Nat.pow_le_pow_right (n:=2) (by omega) h;have h1:((2^a:Nat):Int)=(2:Int)^a:=by simp
 have h2:((2^b:Nat):Int)=(2:Int)^b:=by simp
 omega
theorem O0 {a b:Nat} (h:a<=b):(2:Int)^a∣2^b:=by
 obtain⟨c,rfl⟩:=Nat.exists_eq_add_of_le h;exact⟨2^c,Int.pow_add 2 a c⟩
theorem wrap_small (kd:IntKind) (x:Int) (j:Nat) (h0:0<=x) (h1:x<2^j) (hj:j<kd.bits):kd.wrap x=x:=by
 have h2:((2:Int)^j)<=2^(kd.bits-1):=Ae (by omega);have h3:((2:Int)^(kd.bits-1))<=2^kd.bits:=Ae (by omega);unfold IntKind.wrap;have h4:x%(2^kd.bits:Int)=x:=Int.emod_eq_of_lt h0 (by omega);simp only[h4];rw[if_neg];simp only[Bool.and_eq_true,decide_eq_true_eq,not_and];intro _;omega
theorem fl (kd:IntKind) (n m q:Int) (j:Nat) (hm:m=2^j-1) (hq:q=2^j) (hj:j<kd.bits):bits .and kd n m=n%q:=by
 subst hm hq;have hp:(0:Int)<2^j:=Int.pow_pos (by omega);have hle:(2:Int)^j<=2^kd.bits:=Ae (by omega);unfold bits;simp only[BitVec.toNat_and];have h1:(BitVec.ofInt kd.bits ((2:Int)^j-1)).toNat=2^j-1:=by
  simp only[BitVec.toNat_ofInt];have h2:((2:Int)^kd.bits)=((2^kd.bits:Nat):Int):=by simp
  rw[<-h2,Int.emod_eq_of_lt (by omega) (by omega)];have:((2:Int)^j)=((2^j:Nat):Int):=by simp
  omega
 have h5:(BitVec.ofInt kd.bits n).toNat%2^j=(n%2^j).toNat:=by
  simp only[BitVec.toNat_ofInt];have h2:((2^kd.bits:Nat):Int)=(2:Int)^kd.bits:=by simp
  rw[h2];have h6:(0:Int)<=n%2^kd.bits:=Int.emod_nonneg _ (by have:(0:Int)<2^kd.bits:=Int.pow_pos (by omega)
                                                             omega)
  have h7:(n%2^kd.bits)%2^j=n%2^j:=Int.emod_emod_of_dvd n (O0 (by omega));rw[<-h7];have:((2^j:Nat):Int)=(2:Int)^j:=by simp
  rw[<-this];have:=Int.natCast_emod (n%2^kd.bits).toNat (2^j);rw[Int.toNat_of_nonneg h6]at this;omega
 rw[h1,Nat.and_two_pow_sub_one_eq_mod,h5];have h0:=Int.emod_nonneg n (by omega:(2:Int)^j≠0);rw[Int.toNat_of_nonneg h0];exact wrap_small kd _ j h0 (Int.emod_lt_of_pos _ hp) hj
theorem Ll {a b:Bool} (h:a=false) (k:b=false):(a||b)=false:=by simp[h,k]
theorem Lu {P:Program} {f:FuncId} {args:Array Value} {w:World} {x:Value} (h:aj P f args w λv w'=>v=x/\Ch [] w w'):Calls P f args w λe w'=>e=.returned x/\Below w.heap.size w w':=by
 refine Calls.mono h ?_;rintro e w' ⟨v,rfl,rfl,hc⟩;exact⟨rfl,hc.below⟩
theorem St.ob {ms:List Nat} {w0 w:World} {bs:List av} (S:St ms w0 bs w) (i:Nat) (wr:Bool) (t:TypeId) {b:Nat} {cs:Array Value} {fr:Nat×Nat} (h:bs[i]?=some ⟨b,wr,.cells cs t fr⟩:=by kernel_rfl):w.heap[b]?=some (.cells cs t fr):=S.at_ i _ h
theorem St.conv {ms:List Nat} {w0 w:World} {bs bs':List av} (S:St ms w0 bs w) (h:bs=bs'):St ms w0 bs' w:=h▸S
end Sx
