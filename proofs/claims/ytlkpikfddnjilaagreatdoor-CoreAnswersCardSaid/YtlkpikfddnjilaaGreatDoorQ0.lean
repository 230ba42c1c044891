/- Part 0 of the proof. -/
import Derived.WalkKit
import Derived.Below
import Derived.BigFrame
import Derived.KernelRfl
import Derived.LoopN
import Derived.Laws.CopyRow
import Derived.Laws.StructEq
import Derived.ChangeKeysEq
import Derived.IntWalk
set_option linter.all false
set_option maxRecDepth 100000
set_option maxHeartbeats 4000000
namespace Sx
open Go Go.RowKit Go.BigFrame
structure Ch (ms:List Nat) (w w':World):Prop where
 os:w'.os=w.os
 tape:w'.tape=w.tape
 output:w'.output=w.output
 size:w.heap.size<=w'.heap.size
 block:∀k,k<w.heap.size->k∉ms->w'.heap[k]?=w.heap[k]?
theorem Ch.refl (ms:List Nat) (w:World):Ch ms w w:=⟨rfl,rfl,rfl,Nat.le_refl _,λ_ _ _=>rfl⟩
theorem Ch.trans {ms ns:List Nat} {a b c:World} (h:Ch ms a b) (k:Ch ns b c) (hs:∀x∈ns,x∈ms\/a.heap.size<=x):Ch ms a c:=
 ⟨k.os.trans h.os,k.tape.trans h.tape,k.output.trans h.output,Nat.le_trans h.size k.size,λi hi hm=>
  (k.block i (Nat.lt_of_lt_of_le hi h.size) (λhn=>by rcases hs i hn with h1|h1;exact hm h1;omega)).trans (h.block i hi hm)⟩
theorem Ch.below {w w':World} (h:Ch [] w w'):Below w.heap.size w w':=⟨h.os,h.tape,h.output,h.size,λk hk=>h.block k hk (by simp)⟩
theorem Ch.drew {ms:List Nat} {w w':World} (h:Ch ms w w'):Ch ms w {w' with drawn:=w'.drawn+1}:=⟨h.os,h.tape,h.output,h.size,h.block⟩
theorem Ch.alloc (ms:List Nat) (w:World) (o:Obj):Ch ms w (w.alloc o):=
 ⟨rfl,rfl,rfl,by show w.heap.size<=(w.heap.push o).size;simp,λk hk _=>Below.heap_alloc _ _ _ hk⟩
theorem Ch.setRow (w:World) (g:Nat) (cs:Array Value):Ch [g] w (w.setRow g cs):=
 ⟨rfl,rfl,rfl,by simp[World.setRow],λk hk hm=>by
  simp only[World.setRow,Array.getElem?_modify];rw[if_neg (by intro e;exact hm (by simp[e]))]⟩
structure ax where
 id:Nat
 wr:Bool
 obj:Obj
structure St (ms:List Nat) (w0:World) (bs:List ax) (w:World):Prop where
 ch:Ch ms w0 w
 at_:∀(i:Nat) x,bs[i]?=some x->w.heap[x.id]?=some x.obj
 own:∀(i:Nat) x,bs[i]?=some x->x.wr=true->x.id∈ms\/w0.heap.size<=x.id
 apart:∀(i j:Nat) x y,bs[i]?=some x->bs[j]?=some y->i≠j->x.wr=true->x.id≠y.id
theorem fg {w:World} {k:Nat} {x:Obj} (h:w.heap[k]?=some x):k<w.heap.size:=by
 rcases Nat.lt_or_ge k w.heap.size with h1|h1
 ·exact h1
 ·simp[h1]at h
theorem St.nil (ms:List Nat) (w:World):St ms w [] w:=⟨Ch.refl _ _,by simp,by simp,by simp⟩
theorem St.quiet {ms:List Nat} {w0 w w':World} {bs:List ax} (h:St ms w0 bs w) (hc:Ch [] w w'):St ms w0 bs w':=
 ⟨h.ch.trans hc (by simp),λi x hx=>(hc.block _ (fg (h.at_ i x hx)) (by simp)).trans (h.at_ i x hx),h.own,h.apart⟩
theorem St.step {ms:List Nat} {w0 w w':World} {bs:List ax} (h:St ms w0 bs w) {i:Nat} {x:ax} (hi:bs[i]?=some x) (hx:x.wr=true) (hc:Ch [x.id] w w') {o':Obj} (ho:w'.heap[x.id]?=some o'):
 St ms w0 (bs.set i ⟨x.id,true,o'⟩) w':=by
 have tB:∀(j:Nat) y,(bs.set i ⟨x.id,true,o'⟩)[j]?=some y->(j=i/\y=⟨x.id,true,o'⟩)\/(j≠i/\bs[j]?=some y):=by
  intro j y hy;by_cases hj:i=j
  ·subst hj;rw[List.getElem?_set_self (by rcases Nat.lt_or_ge i bs.length with h1|h1;exact h1;simp[h1]at hi)]at hy;exact Or.inl ⟨rfl,by simpa using hy.symm⟩
  ·rw[List.getElem?_set_ne hj]at hy;exact Or.inr ⟨λe=>hj e.symm,hy⟩
 refine⟨h.ch.trans hc (by simpa using h.own i x hi hx),?_,?_,?_⟩
 ·intro j y hy;rcases tB j y hy with⟨rfl,rfl⟩|⟨eS,hy⟩
  ·exact ho
  ·exact(hc.block _ (fg (h.at_ j y hy)) (by simpa using(h.apart i j x y hi hy (λe=>eS e.symm) hx).symm)).trans (h.at_ j y hy)
 ·intro j y hy hw;rcases tB j y hy with⟨rfl,rfl⟩|⟨_,hy⟩
  ·exact h.own _ x hi hx
  ·exact h.own j y hy hw
 ·intro j k y z hy hz eS hw;rcases tB j y hy with⟨rfl,rfl⟩|⟨h1,hy⟩<;>rcases tB k z hz with⟨rfl,rfl⟩|⟨h2,hz⟩
  ·exact absurd rfl eS
  ·exact h.apart _ k x z hi hz (λe=>h2 e.symm) hx
  ·exact λe=>h.apart _ j x y hi ‹bs[j]?=some y› (λe=>h1 e.symm) hx e.symm
  ·exact h.apart _ _ _ _ ‹bs[j]?=some y› hz eS hw
theorem St.new {ms:List Nat} {w0 w w':World} {bs:List ax} (h:St ms w0 bs w) (hc:Ch [] w w') {b:Nat} {o:Obj} (hb:w.heap.size<=b) (ho:w'.heap[b]?=some o):St ms w0 (⟨b,true,o⟩::bs) w':=by
 have hq:=h.quiet hc;have f_:∀(i:Nat) x,bs[i]?=some x->x.id<b:=λi x hx=>Nat.lt_of_lt_of_le (fg (h.at_ i x hx)) hb;refine⟨hq.ch,?_,?_,?_⟩
 ·intro i x hx;cases i with
  |zero=>obtain rfl:_=x:=by simpa using hx
         exact ho
  |succ i=>exact hq.at_ i x (by simpa using hx)
 ·intro i x hx hw;cases i with
  |zero=>obtain rfl:_=x:=by simpa using hx
         exact Or.inr (Nat.le_trans h.ch.size hb)
  |succ i=>exact hq.own i x (by simpa using hx) hw
 ·intro i j x y hx hy eS hw;cases i with
  |zero=>
   obtain rfl:_=x:=by simpa using hx
   cases j with
   |zero=>exact absurd rfl eS
   |succ j=>have:=f_ j y (by simpa using hy);simp;omega
  |succ i=>
   cases j with
   |zero=>obtain rfl:_=y:=by simpa using hy
          have:=f_ i x (by simpa using hx);simp;omega
   |succ j=>exact hq.apart i j x y (by simpa using hx) (by simpa using hy) (by omega) hw
theorem St.lt {ms:List Nat} {w0 w:World} {bs:List ax} (h:St ms w0 bs w) {i:Nat} {x:ax} (hi:bs[i]?=some x):x.id<w.heap.size:=fg (h.at_ i x hi)
theorem St.pick {ms:List Nat} {w0 w:World} {bs:List ax} (h:St ms w0 bs w) (is:List Nat) {bs':List ax} (he:is.map (bs[·]?)=bs'.map some) (hn:is.Nodup):St ms w0 bs' w:=by
 have bD:∀(i:Nat) x,bs'[i]?=some x->∃j,is[i]?=some j/\bs[j]?=some x:=by
  intro i x hx;have h1:(bs'.map some)[i]?=some (some x):=by simp[hx]
  rw[<-he]at h1;simp only[List.getElem?_map,Option.map_eq_some_iff]at h1;exact h1
 refine⟨h.ch,?_,?_,?_⟩
 ·intro i x hx;obtain⟨j,_,hj⟩:=bD i x hx;exact h.at_ j x hj
 ·intro i x hx;obtain⟨j,_,hj⟩:=bD i x hx;exact h.own j x hj
 ·intro i k x y hx hy eS;obtain⟨j,Mo,hj⟩:=bD i x hx;obtain⟨l,Yn,hl⟩:=bD k y hy;refine h.apart j l x y hj hl ?_;intro e;subst e;exact eS ((List.getElem?_inj (by rcases Nat.lt_or_ge i is.length with h1|h1;exact h1;simp[h1]at Mo) hn).1 (Mo.trans Yn.symm))
def iX (d:TypeDesc):Bool:=match d with|.struct _|.array _ _=>true|_=>false
section
variable{P:Program}
theorem gQ {ty:TypeId} {b:Bool} (h:(P.underlying ty).map iX=some b) (w:World):(isAgg ty).run P w=.ok b w:=by
 cases hq:P.underlying ty with
 |none=>simp[hq]at h
 |some d=>
  simp[hq]at h;unfold isAgg;rw[Sem.run_bind,run_underlying hq w];cases d<;>simp_all[iX]
theorem cell_of {w:World} {g:Nat} {cs:Array Value} {t:TypeId} {fr:Nat×Nat} (h:w.heap[g]?=some (.cells cs t fr)) (o:Nat):w.cell? ⟨g,o,none⟩=cs[o]?:=by
 simp[World.cell?,h]
theorem jg {w:World} {g off:Nat} {cs:Array Value} {t ty:TypeId} {fr:Nat×Nat} {v:Value} (hg:w.heap[g]?=some (.cells cs t fr)) (ha:(P.underlying ty).map iX=some false) (hc:cs[off]?=some v):
 (loadVar ty ⟨g,off,none⟩).run P w=.ok v w:=by
 unfold loadVar;rw[Sem.run_bind,gQ ha];simp[load,Sem.run,cell_of hg,hc]
theorem kA {w:World} {g off n:Nat} {cs vs:Array Value} {t ty:TypeId} {fr:Nat×Nat} (hg:w.heap[g]?=some (.cells cs t fr)) (ha:(P.underlying ty).map iX=some true) (hn:(P.info? ty).map (·.size)=some n)
 (hc:cs.extract off (off+n)=vs) (hv:vs.size=n):(loadVar ty ⟨g,off,none⟩).run P w=.ok (.agg vs) w:=by
 have hl:(loadCells ⟨g,off,none⟩ vs.toList.length).run P w=.ok vs.toList.toArray w:=
  run_loadCells_list (P:=P) w ⟨g,off,none⟩ vs.toList (λj v hj=>by
   have xk:(⟨g,off,none⟩:Addr).add j=⟨g,off+j,none⟩:=by unfold Addr.add;split<;>simp_all
   rw[xk,cell_of hg];have h1:vs[j]?=some v:=by simpa using hj
   rw[<-hc,Array.getElem?_extract]at h1;split at h1
   ·exact h1
   ·exact absurd h1 (by simp))
 cases hq:P.info? ty with
 |none=>simp[hq]at hn
 |some i=>
  have hs:i.size=vs.size:=by simpa[hq,hv]using hn
  simp only[Array.length_toList,Array.toArray_toList]at hl;simp[loadVar,Sem.run_bind,gQ ha,Go.sizeOf,typeInfo,hq,hs,hl]
def splice (cs:Array Value) (off:Nat) (vs:List Value):Array Value:=(cs.toList.take off++vs++cs.toList.drop (off+vs.length)).toArray
theorem kZ {w:World} {g off:Nat} {cs:Array Value} {t ty:TypeId} {v:Value} {vs:List Value} (hg:w.heap[g]?=some (.cells cs t (0,0))) (hv:v.cells.toList=vs) (hn:(P.info? ty).map (·.size)=some vs.length)
 (hl:off+vs.length<=cs.size) (h1:vs.all (·.oneCell')=true):(storeVar ty ⟨g,off,none⟩ v).run P w=.ok () (w.setRow g (splice cs off vs)):=by
 cases hq:P.info? ty with
 |none=>simp[hq]at hn
 |some i=>
  have hs:i.size=vs.length:=by simpa[hq]using hn
  have hz:v.cells.size=vs.length:=by rw[<-hv];simp
  have:=run_storeCells_at (P:=P) g off t vs 0 cs w hg (by simpa using hl) (by simpa using h1);unfold storeVar;simp[Sem.run_bind,Go.sizeOf,typeInfo,hq,hs,hz,hv,splice]at this⊢;exact this
end
def ak (P:Program) (f:FuncId) (args:Array Value) (w:World) (R:Value->World->Prop):Prop:=Calls P f args w λe w'=>∃v,e=.returned v/\R v w'
theorem ak.mono {P:Program} {f:FuncId} {args:Array Value} {w:World} {R R':Value->World->Prop} (h:ak P f args w R) (hr:∀v w',R v w'->R' v w'):ak P f args w R':=
 Calls.mono h λe w' ⟨v,he,hv⟩=>⟨v,he,hr _ _ hv⟩
def lk (bs:List ax) (i off:Nat):Option (Nat×Value):=
 match bs[i]?with
 |some ⟨b,_,.cells cs _ _⟩=>match cs[off]?with|some v=>some (b,v)|none=>none
 |_=>none
def Yo (bs:List ax) (i off n:Nat):Option (Nat×Array Value):=
 match bs[i]?with
 |some ⟨b,_,.cells cs _ _⟩=>match Nat.ble (off+n) cs.size with|true=>some (b,((cs.toList.drop off).take n).toArray)|false=>none
 |_=>none
def Yp (bs:List ax) (i off n:Nat):Option Nat:=
 match bs[i]?with
 |some ⟨b,true,.cells cs _ (0,0)⟩=>match Nat.ble (off+n) cs.size with|true=>some b|false=>none
 |_=>none
def S9 (bs:List ax) (i off:Nat) (vs:List Value):List ax:=
 match bs[i]?with
 |some ⟨b,wr,.cells cs t fr⟩=>bs.set i ⟨b,wr,.cells (splice cs off vs) t fr⟩
 |_=>bs
theorem Yq {bs:List ax} {i off b:Nat} {v:Value} (h:lk bs i off=some (b,v)):∃wr cs t fr,bs[i]?=some ⟨b,wr,.cells cs t fr⟩/\cs[off]?=some v:=by
 unfold lk at h;split at h
 ·rename_i b' wr cs t fr hb;split at h
  ·rename_i v' hv;simp only[Option.some.injEq,Prod.mk.injEq]at h;obtain⟨rfl,rfl⟩:=h;exact⟨wr,cs,t,fr,hb,hv⟩
  ·simp at h
 ·simp at h
theorem yK {bs:List ax} {i off n b:Nat} {vs:Array Value} (h:Yo bs i off n=some (b,vs)):∃wr cs t fr,bs[i]?=some ⟨b,wr,.cells cs t fr⟩/\cs.extract off (off+n)=vs/\vs.size=n:=by
 unfold Yo at h;split at h
 ·rename_i b' wr cs t fr hb;split at h
  ·rename_i hle;simp only[Option.some.injEq,Prod.mk.injEq]at h;obtain⟨rfl,rfl⟩:=h;have:=Nat.le_of_ble_eq_true hle;have e:cs.extract off (off+n)=((cs.toList.drop off).take n).toArray:=by
    apply Array.ext';simp[List.extract]
   exact⟨wr,cs,t,fr,hb,e,by simp;omega⟩
  ·simp at h
 ·simp at h
theorem yL {bs:List ax} {i off n b:Nat} (h:Yp bs i off n=some b):∃cs t,bs[i]?=some ⟨b,true,.cells cs t (0,0)⟩/\off+n<=cs.size:=by
 unfold Yp at h;split at h
 ·rename_i b' cs t hb;split at h
  ·rename_i hle;simp only[Option.some.injEq]at h;obtain rfl:=h;exact⟨cs,t,hb,Nat.le_of_ble_eq_true hle⟩
  ·simp at h
 ·simp at h
structure WL (P:Program) (ops:Array Oper) (Q:Exit->Act->World->Prop) (l:List Oper) (a:Act) (w:World):Prop where
 out:wpList P ops Q l a w
theorem WL.want {P:Program} {ops:Array Oper} {Q:Exit->Act->World->Prop} {a:Act} {w:World} {rest:List Oper} {o:Oper} (hw:Region.wanted o (yielded ops a.tmps)=true)
 (h:∀K:Act->World->Prop,(∀a w,WL P ops Q rest a w->K a w)->o.wp P a w K Q):WL P ops Q (o::rest) a w:=⟨wpList_want hw λK hK=>h K λa w x=>hK a w x.out⟩
section
variable{P:Program} {ops:Array Oper} {rest:List Oper} {o:Oper} {a:Act} {w w0:World} {ms:List Nat} {bs:List ax} {Q:Exit->Act->World->Prop}
theorem aa (v:Value) (k:WL P ops Q rest (a.put o.dst v) w) (hw:Region.wanted o (yielded ops a.tmps)=true:=by kernel_rfl) (h:(execOp a.eval o).run P w=.ok (.value v) w:=by kernel_rfl):WL P ops Q (o::rest) a w:=
 WL.want hw λK hK=>by unfold Oper.wp;rw[h];exact hK _ _ k
theorem mf (k:WL P ops Q rest (a.put o.dst undef) w) (hw:Region.wanted o (yielded ops a.tmps)=false:=by kernel_rfl):WL P ops Q (o::rest) a w:=⟨wpList_skip hw k.out⟩
theorem eh (S:St ms w0 bs w) (i:Nat) (v:Value) (b off:Nat) {x:Operand} {ty:TypeId} (k:WL P ops Q rest (a.put o.dst v) w) (hw:Region.wanted o (yielded ops a.tmps)=true:=by kernel_rfl) (ho:o.op=.load ty x:=by rfl) (hx:a.eval x=.pointer (some ⟨b,off,none⟩):=by kernel_rfl)
 (ha:(P.underlying ty).map iX=some false:=by kernel_rfl) (hb:lk bs i off=some (b,v):=by kernel_rfl):WL P ops Q (o::rest) a w:=
 WL.want hw λK hK=>by
  obtain⟨wr,cs,t,fr,hb,hc⟩:=Yq hb;unfold Oper.wp execOp;simp only[ho,hx,Instr.loadAt,Instr.sureAddr,Sem.run_bind,Sem.run_pure,Result.andThen_ok,jg (S.at_ i _ hb) ha hc];exact hK _ _ k
theorem c_ (S:St ms w0 bs w) (i:Nat) (n:Nat) (vs:Array Value) (b off:Nat) {x:Operand} {ty:TypeId} (k:WL P ops Q rest (a.put o.dst (.agg vs)) w) (hw:Region.wanted o (yielded ops a.tmps)=true:=by kernel_rfl) (ho:o.op=.load ty x:=by rfl) (hx:a.eval x=.pointer (some ⟨b,off,none⟩):=by kernel_rfl)
 (ha:(P.underlying ty).map iX=some true:=by kernel_rfl) (hn:(P.info? ty).map (·.size)=some n:=by kernel_rfl) (hb:Yo bs i off n=some (b,vs):=by kernel_rfl):WL P ops Q (o::rest) a w:=
 WL.want hw λK hK=>by
  obtain⟨wr,cs,t,fr,hb,hc,hv⟩:=yK hb;unfold Oper.wp execOp;simp only[ho,hx,Instr.loadAt,Instr.sureAddr,Sem.run_bind,Sem.run_pure,Result.andThen_ok,kA (S.at_ i _ hb) ha hn hc hv];exact hK _ _ k
theorem store_ (S:St ms w0 bs w) (i:Nat) (v:Value) (b off:Nat) {x y:Operand} {ty:TypeId} (k:∀w',St ms w0 (S9 bs i off v.cells.toList) w'->WL P ops Q rest (a.put o.dst undef) w') (hw:Region.wanted o (yielded ops a.tmps)=true:=by kernel_rfl) (ho:o.op=.store ty x y:=by rfl) (hx:a.eval x=.pointer (some ⟨b,off,none⟩):=by kernel_rfl) (hy:a.eval y=v:=by kernel_rfl)
 (hn:(P.info? ty).map (·.size)=some v.cells.toList.length:=by kernel_rfl) (h1:v.cells.toList.all (·.oneCell')=true:=by kernel_rfl) (hb:Yp bs i off v.cells.toList.length=some b:=by kernel_rfl):WL P ops Q (o::rest) a w:=
 WL.want hw λK hK=>by
  obtain⟨cs,t,hb,hl⟩:=yL hb;unfold Oper.wp execOp;have bD:=S.at_ i _ hb;simp only[ho,hx,hy,Instr.storeAt,Instr.sureAddr,Sem.run_bind,Sem.run_pure,Result.andThen_ok,kZ (P:=P) bD rfl hn hl h1];refine hK _ _ (k _ ?_);have:=S.step hb rfl (Ch.setRow w b _) (setRow_heap w b cs (splice cs off v.cells.toList) t (0,0) bD);simpa[S9,hb]using this
theorem bJ {x:Operand} (k:WL P ops Q rest (a.put o.dst (a.eval x)) w) (hw:Region.wanted o (yielded ops a.tmps)=true:=by kernel_rfl) (ho:o.op=.move x:=by rfl):WL P ops Q (o::rest) a w:=
 aa _ k hw (by unfold execOp;simp[ho])
theorem bm {x:Operand} (k:WL P ops Q rest (a.put o.dst (a.eval x)) w) (hw:Region.wanted o (yielded ops a.tmps)=true:=by kernel_rfl) (ho:o.op=.assign x:=by rfl):WL P ops Q (o::rest) a w:=
 aa _ k hw (by unfold execOp;simp[ho])
theorem e_ (v v':Value) (he:v=v') (k:WL P ops Q rest (a.put o.dst v') w) (hw:Region.wanted o (yielded ops a.tmps)=true:=by kernel_rfl) (h:(execOp a.eval o).run P w=.ok (.value v) w:=by kernel_rfl):WL P ops Q (o::rest) a w:=by
 subst he;exact aa v k hw h
theorem j9 (kd:IntKind) (e:Int) (he:kd.wrap e=e) (k:WL P ops Q rest (a.put o.dst (.int kd e)) w) (hw:Region.wanted o (yielded ops a.tmps)=true:=by kernel_rfl) (h:(execOp a.eval o).run P w=.ok (.value (.int kd (kd.wrap e))) w:=by kernel_rfl):WL P ops Q (o::rest) a w:=
 e_ _ _ (by rw[he]) k hw h
theorem Yr (t:Nat) (b:Bool) (ht:b=true->WL P ops Q rest (a.put (some t) (.bool true)) w) (hf:b=false->WL P ops Q rest (a.put (some t) (.bool false)) w) (hv:a.tmps[t]?=some (.bool b):=by kernel_rfl):WL P ops Q rest a w:=by
 have hs:a.put (some t) (.bool b)=a:=by
  obtain⟨tmps,ds⟩:=a;have e:tmps.setIfInBounds t (.bool b)=tmps:=by
   apply Array.ext_getElem?;intro i;rw[Array.getElem?_setIfInBounds];have hv':tmps[t]?=some (.bool b):=hv;by_cases h:t=i
   ·subst h;rw[if_pos rfl];by_cases h2:t<tmps.size
    ·rw[if_pos h2];exact hv'.symm
    ·rw[if_neg h2];rw[Array.getElem?_eq_none (by omega)]at hv';exact absurd hv' (by simp)
   ·rw[if_neg h]
  simp only[Act.put,e]
 cases b
 ·rw[<-hs];exact hf rfl
 ·rw[<-hs];exact ht rfl
theorem cq (S:St ms w0 bs w) (f:Nat->Value) (obj:Obj) (k:∀b w',St ms w0 (⟨b,true,obj⟩::bs) w'->WL P ops Q rest (a.put o.dst (f b)) w') (hw:Region.wanted o (yielded ops a.tmps)=true:=by kernel_rfl) (h:(execOp a.eval o).run P w=.ok (.value (f w.heap.size)) (w.alloc obj):=by kernel_rfl):WL P ops Q (o::rest) a w:=
 WL.want hw λK hK=>by
  unfold Oper.wp;rw[h];exact hK _ _ (k _ _ (S.new (Ch.alloc _ _ _) (Nat.le_refl _) (heap_alloc_new w obj)))
theorem cd (f:FuncId) (args:Array Value) (k:ak P f args w λv w'=>WL P ops Q rest (a.put o.dst v) w') (hw:Region.wanted o (yielded ops a.tmps)=true:=by kernel_rfl) (h:(execOp a.eval o).run P w=.ok (.enter f args) w:=by kernel_rfl):WL P ops Q (o::rest) a w:=
 WL.want hw λK hK=>by
  unfold Oper.wp;rw[h];refine Calls.mono k ?_;rintro e w' ⟨v,rfl,hk⟩;exact hK _ _ hk
end
section
variable{P:Program} {a:Act} {w:World} {Q:Exit->Act->World->Prop}
theorem ct {f:FuncId} {fn:Func} {c:Code} {args:Array Value} {R:Value->World->Prop} (hf:P.funcs[f]?=some fn) (hb:fn.body=some c)
 (h:c.wp P (bodyPost P fn (λe w'=>∃v,e=.returned v/\R v w')) ⟨args++Array.replicate (fn.ntmps-args.size) undef,[]⟩ w):ak P f args w R:=by
 exact calls_of_wp hf hb h
theorem ao {x y:Code} (h:x.wp P (Exit.then (y.wp P Q) Q) a w):(Code.seq x y).wp P Q a w:=wp_seq h
theorem aw {id:Nat} {l:List Oper} (h:WL P l.toArray Q l a w):(Code.region id l.toArray false).wp P Q a w:=wp_region_lit h.out
theorem au {ops:Array Oper} (h:Q .normal a w):WL P ops Q [] a w:=⟨h⟩
theorem ae {y:Code} (h:y.wp P Q a w):Exit.then (y.wp P Q) Q .normal a w:=h
theorem oE {K:Act->World->Prop} (h:Q .ret a w):Exit.then K Q .ret a w:=h
theorem fa {K:Act->World->Prop} {id:Nat} (h:Q (.exit id) a w):Exit.then K Q (.exit id) a w:=h
theorem gL {id:Nat} (h:Q .normal a w):Exit.inBlock id Q .normal a w:=h
theorem pM {id:Nat} (h:Q .normal a w):Exit.inBlock id Q (.exit id) a w:=by simpa[Exit.inBlock]using h
theorem Bx {c:Code} (n:Nat) (h:c.wp P (Exit.then (Code.rounds P c Q n) Q) a w):(Code.loop c).wp P Q a w:=wp_loop_rounds (n+1) h
theorem k7 {c:Code} {n:Nat} (h:c.wp P (Exit.then (Code.rounds P c Q n) Q) a w):Exit.then (Code.rounds P c Q (n+1)) Q .normal a w:=h
theorem eD {fn:Func} {R:Value->World->Prop} {v:Value} (hd:a.defers=[]) (hr:(results fn a.tmps).run P w=.ok v w) (h:R v w):bodyPost P fn (λe w'=>∃v,e=.returned v/\R v w') .ret a w:=
 ⟨hd,v,hr,v,rfl,h⟩
theorem end_ {fn:Func} {R:Value->World->Prop} {v:Value} (hd:a.defers=[]) (hr:(results fn a.tmps).run P w=.ok v w) (h:R v w):bodyPost P fn (λe w'=>∃v,e=.returned v/\R v w') .normal a w:=
 ⟨hd,v,hr,v,rfl,h⟩
def mg (tmps:Array Value):ResultVar->Sem Value
 |.tmp t=>pure (tmps.getD t undef)
 |.cell a t=>do loadVar t (<-asAddr (tmps.getD a undef))
def yM (P:Program) (w:World) (tmps:Array Value):List ResultVar->List Value->Prop
 |[],[]=>True
 |r::rs,v::vs=>(mg tmps r).run P w=.ok v w/\yM P w tmps rs vs
 |_,_=>False
theorem Bz {tmps:Array Value}:∀{rs:List ResultVar} {vs:List Value},yM P w tmps rs vs->(rs.mapM (mg tmps)).run P w=.ok vs w
 |[],[],_=>rfl
 |r::rs,v::vs,⟨h,hs⟩=>by
  simp only[List.mapM_cons,Sem.run_bind,h,Result.andThen_ok,Bz hs];rfl
 |[],_::_,h=>h.elim
 |_::_,[],h=>h.elim
def yN:List Value->Value
 |[v]=>v
 |vs=>.tuple vs.toArray
theorem ei {fn:Func} {tmps:Array Value} (rs:List ResultVar) (vs:List Value) (v:Value) (h:yM P w tmps rs vs) (hf:fn.results=rs.toArray:=by kernel_rfl) (hv:yN vs=v:=by kernel_rfl):(results fn tmps).run P w=.ok v w:=by
 subst hv;have h1:results fn tmps=(do let vs <-fn.results.mapM (mg tmps);pure (if h:vs.size=1 then vs[0]else .tuple vs)):=by
  unfold results;congr 2
 rw[h1,hf,List.mapM_toArray];simp only[Sem.run_map,Bz h,Result.andThen_ok,bind_pure_comp,Functor.map_map];rcases vs with _|⟨v,_|⟨u,vs⟩⟩<;>simp[yN]
theorem bo {tmps:Array Value} {t:Nat} {v:Value} (h:tmps.getD t undef=v:=by kernel_rfl):(mg tmps (.tmp t)).run P w=.ok v w:=by subst h;rfl
theorem bh {ms:List Nat} {w0:World} {bs:List ax} (S:St ms w0 bs w) (i n b off:Nat) {tmps vs:Array Value} {t ty:Nat} (h:tmps.getD t undef=.pointer (some ⟨b,off,none⟩):=by kernel_rfl)
 (ha:(P.underlying ty).map iX=some true:=by kernel_rfl) (hn:(P.info? ty).map (·.size)=some n:=by kernel_rfl) (hb:Yo bs i off n=some (b,vs):=by kernel_rfl):(mg tmps (.cell t ty)).run P w=.ok (.agg vs) w:=by
 obtain⟨wr,cs,t,fr,hb,hc,hv⟩:=yK hb;simp only[mg,h,Sem.run_bind,asAddr,Sem.run_pure,Result.andThen_ok,kA (S.at_ i _ hb) ha hn hc hv]
end
section
variable{P:Program} {a:Act} {w:World} {Q:Exit->Act->World->Prop}
theorem Ep {c:Operand} {x y:Code} (b:Bool) (hb:b=true) (h:x.wp P Q a w) (hc:a.eval c=.bool b:=by kernel_rfl):(Code.cond c x y).wp P Q a w:=wp_cond_true (hb▸hc) h
theorem yO {c:Operand} {x y:Code} (b:Bool) (hb:b=false) (h:y.wp P Q a w) (hc:a.eval c=.bool b:=by kernel_rfl):(Code.cond c x y).wp P Q a w:=wp_cond_false (hb▸hc) h
theorem jk {c:Operand} {x y:Code} (h:x.wp P Q a w) (hc:a.eval c=.bool true:=by kernel_rfl):(Code.cond c x y).wp P Q a w:=wp_cond_true hc h
theorem gv {c:Operand} {x y:Code} (h:y.wp P Q a w) (hc:a.eval c=.bool false:=by kernel_rfl):(Code.cond c x y).wp P Q a w:=wp_cond_false hc h
theorem jl {c:Operand} {x y:Code} (b:Bool) (ht:b=true->x.wp P Q a w) (hf:b=false->y.wp P Q a w) (hc:a.eval c=.bool b:=by kernel_rfl):(Code.cond c x y).wp P Q a w:=wp_cond_split hc ht hf
theorem ltT {x y:Int} (h:x<y):decide (x<y)=true:=decide_eq_true h
theorem ltF {x y:Int} (h:y<=x):decide (x<y)=false:=decide_eq_false (by omega)
theorem leT {x y:Int} (h:x<=y):decide (x<=y)=true:=decide_eq_true h
theorem leF {x y:Int} (h:y<x):decide (x<=y)=false:=decide_eq_false (by omega)
theorem neF {x y:Int} (h:x=y):(x !=y)=false:=by simpa using h
theorem Er {x y:Int} (h:decide (x<y)=true):x<y:=of_decide_eq_true h
theorem Es {x y:Int} (h:decide (x<y)=false):y<=x:=by have:=of_decide_eq_false h;omega
theorem aec {x y:Int} (h:decide (x<=y)=true):x<=y:=of_decide_eq_true h
theorem aed {x y:Int} (h:decide (x<=y)=false):y<x:=by have:=of_decide_eq_false h;omega
theorem ZI {x y:Int} (h:(x !=y)=true):¬x=y:=by simpa using h
theorem ZJ {x y:Int} (h:(x !=y)=false):x=y:=by simpa using h
theorem ZK {b:Bool} (h:b=false):(!b)=true:=by simp[h]
theorem TG {b:Bool} (h:b=true):(!b)=false:=by simp[h]
theorem MJ {b:Bool} (h:(!b)=true):b=false:=by simpa using h
theorem MK {b:Bool} (h:(!b)=false):b=true:=by simpa using h
end
def xI (P:Program) (t:TypeId) (cs:Array Value) (off:Nat):Option Value:=
 match(P.underlying t).map iX,(P.info? t).map (·.size)with
 |some true,some n=>some (.agg (cs.extract off (off+n)))
 |some false,some _=>cs[off]?
 |_,_=>none
theorem pN {P:Program} {t:TypeId} {cs:Array Value} {off:Nat} {v:Value} (h:xI P t cs off=some v) (w:World):(part t cs off).run P w=.ok v w:=by
 unfold xI at h;split at h
 ·rename_i n h1 h2;obtain rfl:_=v:=by simpa using h
  cases hq:P.info? t with
  |none=>simp[hq]at h2
  |some i=>
   have hs:i.size=n:=by simpa[hq]using h2
   unfold part;simp[Sem.run_bind,gQ h1,Go.sizeOf,typeInfo,hq,hs]
 ·rename_i n h1 h2;unfold part;simp[Sem.run_bind,gQ h1,h]
 ·simp at h
def Jk (P:Program) (g:TypeId->Value->Value->Option Bool) (xs ys:Array Value):List Field->Option Bool
 |[]=>some true
 |f::fs=>
  match decide (f.name≠ "_")with
  |false=>Jk P g xs ys fs
  |true=>match xI P f.type xs f.offset,xI P f.type ys f.offset with
   |some a,some b=>match g f.type a b,Jk P g xs ys fs with
    |some r,some q=>some (r&&q)
    |_,_=>none
   |_,_=>none
def ML (P:Program) (g:TypeId->Value->Value->Option Bool) (e:TypeId) (c:Nat) (xs ys:Array Value):List Nat->Option Bool
 |[]=>some true
 |i::is=>
  match xI P e xs (i*c),xI P e ys (i*c)with
  |some a,some b=>match g e a b,ML P g e c xs ys is with
   |some r,some q=>some (r&&q)
   |_,_=>none
  |_,_=>none
def Ys (P:Program):Nat->TypeId->Value->Value->Option Bool
 |0,_,_,_=>none
 |d+1,t,x,y=>
  match P.underlying t,x,y with
  |some .bool,.bool a,.bool b=>some (a==b)
  |some (.int _),.int k a,.int k' b=>match decide (k=k')with|true=>some (a==b)|false=>none
  |some (.struct _),.agg xs,.agg ys=>match P.stoodInHeld t with|true=>none|false=>Jk P (Ys P d) xs ys (P.fieldsOf t).toList
  |some (.array n e),.agg xs,.agg ys=>match P.info? e with|some _=>ML P (Ys P d) e (P.cellsOf e) xs ys (List.range n)|none=>none
  |_,_,_=>none
section
variable{P:Program}
theorem uC {d:Nat} {g:TypeId->Value->Value->Option Bool} (hg:∀t x y r,g t x y=some r->∀w,(Op.equalIn d t x y).run P w=.ok r w) (xs ys:Array Value):
 ∀(fs:List Field) (r:Bool),Jk P g xs ys fs=some r->∀w,(Op.eqFields d xs ys fs).run P w=.ok r w
 |[],r,h,w=>by obtain rfl:true=r:=by simpa[Jk]using h
               rfl
 |f::fs,r,h,w=>by
  unfold Jk at h;unfold Op.eqFields;split at h
  ·rename_i hn;have MM:¬f.name≠ "_" :=of_decide_eq_false hn;rw[if_neg MM];exact uC hg xs ys fs r h w
  ·rename_i hn;have MM:f.name≠ "_" :=of_decide_eq_true hn;rw[if_pos MM];split at h
   ·rename_i a b ha hb;split at h
    ·rename_i r1 q h1 h2;obtain rfl:(r1&&q)=r:=by simpa using h
     simp only[Sem.run_bind,pN ha,pN hb,Result.andThen_ok,hg _ _ _ _ h1];cases r1
     ·simp
     ·simp[uC hg xs ys fs q h2]
    ·simp at h
   ·simp at h
theorem BA {d:Nat} {g:TypeId->Value->Value->Option Bool} (hg:∀t x y r,g t x y=some r->∀w,(Op.equalIn d t x y).run P w=.ok r w) (e c:Nat) (xs ys:Array Value):
 ∀(is:List Nat) (r:Bool),ML P g e c xs ys is=some r->∀w,(Op.eqItems d e c xs ys is).run P w=.ok r w
 |[],r,h,w=>by obtain rfl:true=r:=by simpa[ML]using h
               rfl
 |i::is,r,h,w=>by
  unfold ML at h;unfold Op.eqItems;split at h
  ·rename_i a b ha hb;split at h
   ·rename_i r1 q h1 h2;obtain rfl:(r1&&q)=r:=by simpa using h
    simp only[Sem.run_bind,pN ha,pN hb,Result.andThen_ok,hg _ _ _ _ h1];cases r1
    ·simp
    ·simp[BA hg e c xs ys is q h2]
   ·simp at h
  ·simp at h
theorem tT:∀(d:Nat) (t:TypeId) (x y:Value) (r:Bool),Ys P d t x y=some r->∀w,(Op.equalIn d t x y).run P w=.ok r w
 |0,_,_,_,_,h,_=>by simp[Ys]at h
 |d+1,t,x,y,r,h,w=>by
  unfold Ys at h;split at h
  ·rename_i a b hu;obtain rfl:(a==b)=r:=by simpa using h
   exact run_equalIn_bool' w d t a b hu
  ·rename_i k0 k a k' b hu;split at h
   ·rename_i hk;obtain rfl:k=k':=of_decide_eq_true hk;obtain rfl:(a==b)=r:=by simpa using h
    exact run_equalIn_int w d t k k0 a b hu
   ·simp at h
  ·rename_i fs xs ys hu;split at h
   ·simp at h
   ·rename_i hp;have hf:P.underlying t=some (.struct (P.fieldsOf t)):=by simp[Program.fieldsOf,hu]
    rw[run_equalIn_struct w d t xs ys hf hp];exact uC (tT d) xs ys _ r h w
  ·rename_i n e xs ys hu;split at h
   ·rename_i i hi;rw[run_equalIn_array w d xs ys hu hi];exact BA (tT d) e _ xs ys _ r h w
   ·simp at h
  ·simp at h
variable{ops:Array Oper} {rest:List Oper} {o:Oper} {a:Act} {w:World} {Q:Exit->Act->World->Prop}
theorem Jl {ρ:Operand->Value} {t yt:TypeId} {x y:Operand} {xs ys:Array Value} {r:Bool} (neg:Bool) (ho:o.op=.binOp (bif neg then .neq else .eql) t x y yt) (hx:ρ x=.agg xs) (hy:ρ y=.agg ys) (hg:P.eqGuardType P.depth t=false) (he:Ys P 10000 t (.agg xs) (.agg ys)=some r):
 (execOp ρ o).run P w=.ok (.value (.bool (bif neg then !r else r))) w:=by
 have h:=tT 10000 t (.agg xs) (.agg ys) r he w;unfold execOp;cases neg<;>simp only[ho,hx,hy,cond_true,cond_false,Sem.run_bind,run_eqGuard_agg _ _ t x y xs ys hg,Result.andThen_ok,run_eql_struct,run_neq_struct,h,Sem.run_pure]
end
theorem yP {a b:Nat} (h:a<=b):(2:Int)^a<=2^b:=by
 have:=Nat.pow_le_pow_right (n:=2) (by omega) h;have h1:((2^a:Nat):Int)=(2:Int)^a:=by simp
 have h2:((2^b:Nat):Int)=(2:Int)^b:=by simp
 omega
theorem MN {a b:Nat} (h:a<=b):(2:Int)^a∣2^b:=by
 obtain⟨c,rfl⟩:=Nat.exists_eq_add_of_le h;exact⟨2^c,Int.pow_add 2 a c⟩
theorem wrap_small (kd:IntKind) (x:Int) (j:Nat) (h0:0<=x) (h1:x<2^j) (hj:j<kd.bits):kd.wrap x=x:=by
 have h2:((2:Int)^j)<=2^(kd.bits-1):=yP (by omega);have h3:((2:Int)^(kd.bits-1))<=2^kd.bits:=yP (by omega);unfold IntKind.wrap;have h4:x%(2^kd.bits:Int)=x:=Int.emod_eq_of_lt h0 (by omega);simp only[h4];rw[if_neg];simp only[Bool.and_eq_true,decide_eq_true_eq,not_and];intro _;omega
theorem eT (kd:IntKind) (n m q:Int) (j:Nat) (hm:m=2^j-1) (hq:q=2^j) (hj:j<kd.bits):bits .and kd n m=n%q:=by
 subst hm hq;have hp:(0:Int)<2^j:=Int.pow_pos (by omega);have hle:(2:Int)^j<=2^kd.bits:=yP (by omega);unfold bits;simp only[BitVec.toNat_and];have h1:(BitVec.ofInt kd.bits ((2:Int)^j-1)).toNat=2^j-1:=by
  simp only[BitVec.toNat_ofInt];have h2:((2:Int)^kd.bits)=((2^kd.bits:Nat):Int):=by simp
  rw[<-h2,Int.emod_eq_of_lt (by omega) (by omega)];have:((2:Int)^j)=((2^j:Nat):Int):=by simp
  omega
 have h5:(BitVec.ofInt kd.bits n).toNat%2^j=(n%2^j).toNat:=by
  simp only[BitVec.toNat_ofInt];have h2:((2^kd.bits:Nat):Int)=(2:Int)^kd.bits:=by simp
  rw[h2];have h6:(0:Int)<=n%2^kd.bits:=Int.emod_nonneg _ (by have:(0:Int)<2^kd.bits:=Int.pow_pos (by omega)
                                                             omega)
  have h7:(n%2^kd.bits)%2^j=n%2^j:=Int.emod_emod_of_dvd n (MN (by omega));rw[<-h7];have:((2^j:Nat):Int)=(2:Int)^j:=by simp
  rw[<-this];have:=Int.natCast_emod (n%2^kd.bits).toNat (2^j);rw[Int.toNat_of_nonneg h6]at this;omega
 rw[h1,Nat.and_two_pow_sub_one_eq_mod,h5];have h0:=Int.emod_nonneg n (by omega:(2:Int)^j≠0);rw[Int.toNat_of_nonneg h0];exact wrap_small kd _ j h0 (Int.emod_lt_of_pos _ hp) hj
theorem orF {a b:Bool} (h:a=false) (k:b=false):(a||b)=false:=by simp[h,k]
theorem Jm {P:Program} {f:FuncId} {args:Array Value} {w:World} {x:Value} (h:ak P f args w λv w'=>v=x/\Ch [] w w'):Calls P f args w λe w'=>e=.returned x/\Below w.heap.size w w':=by
 refine Calls.mono h ?_;rintro e w' ⟨v,rfl,rfl,hc⟩;exact⟨rfl,hc.below⟩
theorem tU {P:Program} {ρ:Operand->Value} {o:Oper} {t e:TypeId} {x hi:Operand} {a:Option Addr} {n c:Nat} {kd:IntKind} {w:World} (h:Nat) (hle:h<=c) (ho:o.op=.slice t x none (some hi) none:=by rfl) (hu:P.underlying t=some (.slice e):=by kernel_rfl) (hs:(P.info? e).isSome=true:=by kernel_rfl)
 (hx:ρ x=.slice a n c:=by kernel_rfl) (hh:ρ hi=.int kd ((h:Nat):Int):=by kernel_rfl):(execOp ρ o).run P w=.ok (.value (.slice a h c)) w:=by
 obtain⟨i,w8⟩:=Option.isSome_iff_exists.1 hs;have xk:∀q:Addr,q.add 0=q:=λq=>by simp[Addr.add]
 have Et:(Option.map (λq:Addr=>q.add 0) a)=a:=by cases a<;>simp[xk]
 unfold execOp;simp only[ho,Option.map_none,Option.map_some,hx,hh];unfold Instr.sliceAt;simp only[Sem.run_bind,run_underlying hu,Result.andThen_ok];unfold Instr.slice;simp only[Sem.run_bind,run_underlying hu,Result.andThen_ok,Instr.sliceBounds,Instr.sliceBound,asIntOf,Sem.run_pure];have h1:(0:Int)<=(h:Int)/\(h:Int)<=(c:Int):=by omega
 simp[h1,Go.sizeOf,typeInfo,w8,xk]
theorem St.ob {ms:List Nat} {w0 w:World} {bs:List ax} (S:St ms w0 bs w) (i:Nat) (wr:Bool) (t:TypeId) {b:Nat} {cs:Array Value} {fr:Nat×Nat} (h:bs[i]?=some ⟨b,wr,.cells cs t fr⟩:=by kernel_rfl):w.heap[b]?=some (.cells cs t fr):=S.at_ i _ h
theorem St.conv {ms:List Nat} {w0 w:World} {bs bs':List ax} (S:St ms w0 bs w) (h:bs=bs'):St ms w0 bs' w:=h▸S
end Sx
