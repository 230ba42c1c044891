/- Part 3 of the proof. -/
import Derived.WideMake
import Derived.Test.YtggfpcggakghnaaGreatDoorQ2
set_option linter.all false
set_option maxRecDepth 100000
set_option maxHeartbeats 4000000
namespace Sx
open Go Go.RowKit Go.BigFrame
def eE (n:Nat) (f:Nat->Int):List Value:=(List.range n).map λi=>Value.int .u8 (f i)
theorem bQ (n:Nat) (f:Nat->Int):(eE n f).length=n:=by simp[eE]
theorem je {n:Nat} (f:Nat->Int) {j:Nat} (h:j<n):(eE n f)[j]?=some (.int .u8 (f j)):=by simp[eE,h]
theorem qq {n:Nat} {f:Nat->Int}:∀v∈eE n f,v.oneCell'=true:=λv h=>by
 simp only[eE,List.mem_map]at h;obtain⟨j,_,rfl⟩:=h;rfl
theorem ki {n:Nat} {f:Nat->Int} {j:Nat} {v:Value} (h:(eE n f)[j]?=some v):j<n/\v=.int .u8 (f j):=by
 have hj:j<n:=by
  rcases Nat.lt_or_ge j n with h1|h1
  ·exact h1
  ·rw[List.getElem?_eq_none (by rw[bQ];exact h1)]at h;cases h
 rw[je f hj]at h;exact⟨hj,(Option.some.inj h).symm⟩
def bI (n:Nat) (f g:Nat->Int):Nat->Int:=λj=>bif Nat.blt j n then f j else g (j-n)
theorem CK {a b:Nat} (h:a<b):Nat.blt a b=true:=by unfold Nat.blt;exact Nat.ble_eq_true_of_le h
theorem I4 {a b:Nat} (h:¬a<b):Nat.blt a b=false:=by
 cases hb:Nat.blt a b
 ·rfl
 ·unfold Nat.blt at hb;exact absurd (Nat.le_of_ble_eq_true hb) h
theorem agv {a b:Nat} (h:¬a<=b):Nat.ble a b=false:=by
 cases hb:Nat.ble a b
 ·rfl
 ·exact absurd (Nat.le_of_ble_eq_true hb) h
theorem u6 (n m:Nat) (f g:Nat->Int):eE n f++eE m g=eE (n+m) (bI n f g):=by
 apply List.ext_getElem?;intro j;by_cases h:j<n
 ·rw[List.getElem?_append_left (by rw[bQ];exact h),je f h,je _ (by omega)];simp[bI,CK h]
 ·rw[List.getElem?_append_right (by rw[bQ];omega),bQ];by_cases h2:j<n+m
  ·rw[je g (by omega),je _ h2];simp[bI,I4 h]
  ·rw[List.getElem?_eq_none (by rw[bQ];omega),List.getElem?_eq_none (by rw[bQ];omega)]
theorem kR {n:Nat} {f g:Nat->Int} (h:∀i,i<n->f i=g i):eE n f=eE n g:=by
 unfold eE;apply List.map_congr_left;intro i hi;rw[h i (List.mem_range.1 hi)]
def iF (f:Nat->Int) (o m:Nat) (g:Nat->Int):Nat->Int:=λj=>bif Nat.ble o j&&Nat.blt j (o+m)then g (j-o)else f j
theorem sR (kd:IntKind) {n:Nat} (f:Nat->Int) {o m:Nat} (h:o+m<=n) (g:Nat->Int):((ak kd n f).toList.take o++(List.range m).map (λi=>Value.int kd (g i))++(ak kd n f).toList.drop (o+m)).toArray=ak kd n (iF f o m g):=by
 apply Array.ext';simp only[ak];apply List.ext_getElem
 ·simp;omega
 ·intro j h1 h2;simp only[List.length_append,List.length_take,List.length_map,List.length_range,List.length_drop]at h1 h2;by_cases ha:j<o
  ·rw[List.getElem_append_left (by simp;omega),List.getElem_append_left (by simp;omega)];simp[iF,agv (show¬o<=j by omega)]
  ·by_cases hb:j<o+m
   ·rw[List.getElem_append_left (by simp;omega),List.getElem_append_right (by simp;omega)];have:min o n=o:=by omega
    simp[iF,Nat.ble_eq_true_of_le (show o<=j by omega),CK hb,this]
   ·rw[List.getElem_append_right (by simp;omega)];have:min o n=o:=by omega
    simp only[List.length_append,List.length_take,List.length_map,List.length_range,List.getElem_drop,List.getElem_map,List.getElem_range,this];have e:o+m+(j-(o+m))=j:=by omega
    simp[iF,I4 hb,e]
def eS (w:World) (b o n:Nat) (f:Nat->Int):Prop:=∀j,j<n->w.cell? ⟨b,o+j,none⟩=some (.int .u8 (f j))
theorem eS.cut {w:World} {b o n:Nat} {f:Nat->Int} (h:eS w b o n f) {m:Nat} (hm:m<=n):eS w b o m f:=λj hj=>h j (by omega)
theorem eS.drop {w:World} {b o n:Nat} {f:Nat->Int} (h:eS w b o n f) (k:Nat):eS w b (o+k) (n-k) (λj=>f (k+j)):=λj hj=>by
 rw[Nat.add_assoc];exact h (k+j) (by omega)
section
variable{ms:List Nat} {w0 w:World} {bs:List av}
theorem St.mC (S:St ms w0 bs w) {b o n:Nat} {f:Nat->Int} (h:eS w0 b o n f) (hm:b∉ms):eS w b o n f:=λj hj=>S.agr (h j hj) hm
theorem St.eK (S:St ms w0 bs w) (i:Nat) {b N:Nat} {wr:Bool} {f:Nat->Int} {t:TypeId} {fr:Nat×Nat} (hb:bs[i]?=some ⟨b,wr,.cells (ak .u8 N f) t fr⟩:=by kernel_rfl):eS w b 0 N f:=λj hj=>by
 rw[cell_of (S.at_ i _ hb),Nat.zero_add,I2 _ f hj]
end
section
variable{P:Program} {w:World}
theorem FM {b o n c:Nat} {f:Nat->Int} {tx e':TypeId} (h:eS w b o n f) (hk:P.underlying tx=some (.slice e'):=by kernel_rfl):Src P 1 tx (.slice (some ⟨b,o,none⟩) n c) n (eE n f) w:=
 Src.ofSlice w hk _ n c _ (by rw[bQ,Nat.mul_one]) (λj u hj=>by
  obtain⟨h1,rfl⟩:=ki hj;rw[Addr.add_lit];exact h j h1) qq
theorem u7 {ρ:Operand->Value} {o:Oper} {w':World} {s x:Operand} {t tx:TypeId} {sv xv v:Value} (ho:o.op=.call ⟨.builtin .copy,#[s,x],#[t,tx]⟩) (hs:ρ s=sv) (hx:ρ x=xv)
 (aY:(Builtin.copy_ #[t,tx] o.type #[sv,xv]).run P w=.ok v w'):(execOp ρ o).run P w=.ok (.value v) w':=by
 simp[execOp,ho,resolve,invoke,builtin,hs,hx,aY,Result.andThen]
end
section
variable{P:Program} {ops:Array Oper} {rest:List Oper} {o:Oper} {a:Act} {w w0:World} {ms:List Nat} {bs:List av} {Q:Exit->Act->World->Prop}
theorem copy_ (S:St ms w0 bs w) (i:Nat) (b N off n c:Nat) (f:Nat->Int) (sb so m sc:Nat) (g:Nat->Int) {t:TypeId} {s x:Operand} {tt tx elem:TypeId} (h8:eS w sb so m g) (hm:m<=n) (hn:off+m<=N)
 (hb:bs[i]?=some ⟨b,true,.cells (ak .u8 N f) t (0,0)⟩) {bs':List av} (h2:bs.set i ⟨b,true,.cells (ak .u8 N (iF f off m g)) t (0,0)⟩=bs')
 (k:∀w',St ms w0 bs' w'->WL P ops Q rest (a.put o.dst (.int .i64 m)) w')
 (hw:Region.wanted o (yielded ops a.tmps)=true:=by kernel_rfl) (ho:o.op=.call ⟨.builtin .copy,#[s,x],#[tt,tx]⟩:=by rfl) (hs:a.eval s=.slice (some ⟨b,off,none⟩) n c:=by kernel_rfl) (hx:a.eval x=.slice (some ⟨sb,so,none⟩) m sc:=by kernel_rfl)
 (hu:P.underlying tt=some (.slice elem):=by kernel_rfl) (hz:(P.info? elem).map (·.size)=some 1:=by kernel_rfl):WL P ops Q (o::rest) a w:=
 WL.want hw λK hK=>by
  have ba:=S.at_ i _ hb;have Pb:Nat.min m n=m:=Nat.min_eq_left hm;have aY:=run_copy_row (P:=P) w tt tx o.type elem b off n c ⟨sb,so,none⟩ m sc (ak .u8 N f) t (eE m g) hu hz ba (by rw[bQ,Pb]) (λj v hj=>by
   obtain⟨h1,rfl⟩:=ki hj;rw[Addr.add_lit];exact h8 j h1) (by rw[bQ,kQ];exact hn) qq
  unfold Oper.wp;rw[u7 ho hs hx aY];rw[bQ];have he:(goInt m:Value)=.int .i64 m:=rfl;rw[he];refine hK _ _ (k _ ?_);have hS:=S.step hb rfl (Ch.setRow w b _) (setRow_heap w b (ak .u8 N f) ((ak .u8 N f).toList.take off++eE m g++(ak .u8 N f).toList.drop (off+m)).toArray t (0,0) ba);have e2:((ak .u8 N f).toList.take off++eE m g++(ak .u8 N f).toList.drop (off+m)).toArray=ak .u8 N (iF f off m g):=sR .u8 f hn g;rw[e2,h2]at hS;rw[e2];exact hS
end
section
variable{P:Program} {ρ:Operand->Value} {o:Oper} {w:World}
theorem Pc {t e:TypeId} {x lo:Operand} {b off n c k:Nat} {kd:IntKind} (hk:k<=n) (hc:n<=c) (ab_:Nat) (yD:ab_=(if c=k then off else off+k)) (ho:o.op=.slice t x (some lo) none none:=by rfl) (hu:P.underlying t=some (.slice e):=by kernel_rfl) (hs:(P.info? e).map (·.size)=some 1:=by kernel_rfl)
 (hx:ρ x=.slice (some ⟨b,off,none⟩) n c:=by kernel_rfl) (hh:ρ lo=.int kd ((k:Nat):Int):=by kernel_rfl):(execOp ρ o).run P w=.ok (.value (.slice (some ⟨b,ab_,none⟩) (n-k) (c-k))) w:=by
 obtain⟨i,uD,iM⟩:=Option.map_eq_some_iff.1 hs;unfold execOp;simp only[ho,Option.map_none,Option.map_some,hx,hh];unfold Instr.sliceAt;simp only[Sem.run_bind,run_underlying hu,Result.andThen_ok];unfold Instr.slice;simp only[Sem.run_bind,run_underlying hu,Result.andThen_ok,Instr.sliceBounds,Instr.sliceBound,asIntOf,Sem.run_pure];have h1:(0:Int)<=(k:Int)/\(k:Int)<=(n:Int):=by omega
 have h3:(⟨b,off,none⟩:Addr).add k=⟨b,off+k,none⟩:=Addr.add_lit ..;by_cases hck:c=k
 ·rw[if_pos hck]at yD;simp[h1,Go.sizeOf,typeInfo,uD,iM,hck,yD]
 ·rw[if_neg hck]at yD;simp[h1,Go.sizeOf,typeInfo,uD,iM,hck,yD,h3]
end
end Sx
namespace Sx
open Go Go.RowKit Go.BigFrame
section
variable{P:Program} {lf l:List Oper} {sp:Nat->Sp} {a0:Act} {w:World} {i:Nat} {o:Oper}
end
section
variable{P:Program} {ops:Array Oper} {rest:List Oper} {o:Oper} {a:Act} {w:World} {Q:Exit->Act->World->Prop}
theorem Wo (vk:IntKind) (n:Nat) (f:Nat->Int) (kd:IntKind) (iv:Int) {t e:TypeId} {x y:Operand} (h0:0<=iv) (h1:iv<n) (k:WL P ops Q rest (a.put o.dst (.int vk (f iv.toNat))) w) (hw:Region.wanted o (yielded ops a.tmps)=true:=by kernel_rfl)
 (ho:o.op=.index t x y:=by rfl) (hu:P.underlying t=some (.array n e):=by kernel_rfl) (hz:(P.info? e).map (·.size)=some 1:=by kernel_rfl) (ha:(P.underlying e).map jt=some false:=by kernel_rfl)
 (hx:a.eval x=.agg (ak vk n f):=by kernel_rfl) (hy:a.eval y=.int kd iv:=by kernel_rfl):WL P ops Q (o::rest) a w:=
 aa (.int vk (f iv.toNat)) k hw (by
  obtain⟨inf,hq,iM⟩:=Option.map_eq_some_iff.1 hz;have iK:iv.toNat<n:=by omega
  have uC:(ak vk n f)[iv.toNat]?=some (.int vk (f iv.toNat)):=I2 vk f iK;unfold execOp;simp only[ho,hx,hy];unfold Instr.index;simp only[Sem.run_bind,run_underlying hu,Result.andThen_ok,asIntOf,Sem.run_pure];simp[h0,h1,Go.sizeOf,typeInfo,hq,iM,part,iq ha,uC])
end
end Sx
namespace Sx
open Go Go.RowKit Go.BigFrame
def dc (n:Nat) (f:Nat->Int) (c:Nat):Array Value:=(eE n f++List.replicate (c-n) (Value.int .u8 0)).toArray
theorem lH (k:Nat):(Builtin.zeroCells #[Value.int .u8 0] k).toList=List.replicate k (Value.int .u8 0):=by
 apply List.ext_getElem
 ·simp[Builtin.zeroCells]
 ·intro i h1 h2;simp[Builtin.zeroCells,Nat.mod_one]
def eK (T:TypeId) (n:Nat) (f:Nat->Int) (x:Option Addr) (c:Nat) (bl:List av):Prop:=
 n<=c/\((x=none/\n=0/\c=0/\bl=[])\/∃b,x=some ⟨b,0,none⟩/\bl=[⟨b,true,.cells (dc n f c) T (0,0)⟩])
theorem eK.wr {T n f x c bl} (h:eK T n f x c bl):Wr bl:=by
 rcases h.2 with⟨_,_,_,rfl⟩|⟨b,_,rfl⟩
 ·exact Wr.nil
 ·exact Wr.cons rfl Wr.nil
theorem eK.ty {T n f x c bl} (h:eK T n f x c bl):Ty [T] bl:=by
 rcases h.2 with⟨_,_,_,rfl⟩|⟨b,_,rfl⟩
 ·intro x hx;cases hx
 ·exact Ty.cons rfl Ty.nil
theorem vV (T:TypeId):eK T 0 (λ_=>0) none 0 []:=⟨Nat.le_refl _,.inl ⟨rfl,rfl,rfl,rfl⟩⟩
theorem Pd {n c:Nat} (f:Nat->Int) (h:n<=c):(dc n f c).size=c:=by simp[dc,bQ];omega
section
variable{P:Program}
theorem mX {w:World} {T n c m:Nat} {f g:Nat->Int} {x:Option Addr} {bl:List av} (hr:eK T n f x c bl) (ba:∀y∈bl,w.heap[y.id]?=some y.obj)
 {t tx ty:TypeId} {xv:Value} (hs:Src P 1 tx xv m (eE m g) w) (ht:P.underlying t=some (.slice T)) (hi:(P.info? T).map (λi=>(i.zero.map (·.cells),i.size,i.bytes))=some (some #[.int .u8 0],1,1))
 (hb:n+m<=140737488355328):
 ∃v w',(Builtin.append_ #[t,tx] ty #[.slice x n c,xv]).run P w=.ok v w'/\Ch (bl.map av.id) w w'/\∃x' c' bl',v=.slice x' (n+m) c'/\eK T (n+m) (bI n f g) x' c' bl'/\∀y∈bl',w'.heap[y.id]?=some y.obj/\((∃u∈bl,y.id=u.id)\/w.heap.size<=y.id):=by
 obtain⟨i,aF,hi⟩:=Option.map_eq_some_iff.1 hi;simp only[Prod.mk.injEq]at hi;obtain⟨hz,iM,sP⟩:=hi;obtain⟨z0,Cv,FI⟩:=Option.map_eq_some_iff.1 hz;obtain⟨vQ,j7⟩:=hr;have uZ:Src P i.size tx xv m (eE m g) w:=by rw[iM];exact hs
 have h63:n+m<=maxLen:=by unfold maxLen;omega
 by_cases jL:n+m<=c
 ·rcases Nat.eq_zero_or_pos m with Ah|Ah
  ·subst Ah;refine⟨_,_,run_append_nothing (P:=P) w t tx ty T i ht aF x n c vQ xv uZ,Ch.refl _ _,x,c,bl,rfl,⟨vQ,?_⟩,λy hy=>⟨ba y hy,.inl ⟨y,hy,rfl⟩⟩⟩;rcases j7 with h|⟨b,rfl,rfl⟩
   ·exact .inl h
   ·refine .inr ⟨b,rfl,?_⟩;have e:eE (n+0) (bI n f g)=eE n f:=kR λj hj=>by simp[bI,CK (show j<n by omega)]
    show[(⟨b,true,.cells (dc n f c) T (0,0)⟩:av)]=[⟨b,true,.cells ((eE (n+0) (bI n f g)++List.replicate (c-(n+0)) (Value.int .u8 0)).toArray) T (0,0)⟩];rw[e];rfl
  ·rcases j7 with⟨_,rfl,rfl,_⟩|⟨b,rfl,rfl⟩
   ·omega
   ·have vR:=ba _ (List.mem_singleton.2 rfl);have mK:=run_storeCells_at (P:=P) b n T (eE m g) 0 (dc n f c) w vR (by rw[Pd f vQ,bQ];omega) hs.one;simp only[Nat.add_zero,bQ]at mK;have aY:(Builtin.append_ #[t,tx] ty #[.slice (some ⟨b,0,none⟩) n c,xv]).run P w=.ok (.slice (some ⟨b,0,none⟩) (n+m) c) (w.setRow b ((dc n f c).toList.take n++eE m g++(dc n f c).toList.drop (n+m)).toArray):=by
     rcases uZ.kind with⟨e',hk⟩|hk<;>simp[Builtin.append_,run_underlying ht,run_underlying hk,Go.sizeOf,typeInfo,aF,uZ.len,jL,hs.cells,Addr.add_lit,iM,mK,Result.andThen]
    refine⟨_,_,aY,by simpa using Ch.setRow w b _,some ⟨b,0,none⟩,c,[⟨b,true,.cells (dc (n+m) (bI n f g) c) T (0,0)⟩],rfl,⟨jL,.inr ⟨b,rfl,rfl⟩⟩,?_⟩;intro y hy;obtain rfl:=List.mem_singleton.1 hy;refine⟨?_,.inl ⟨_,List.mem_singleton.2 rfl,rfl⟩⟩;have:=setRow_heap w b (dc n f c) ((dc n f c).toList.take n++eE m g++(dc n f c).toList.drop (n+m)).toArray T (0,0) vR;rw[this];congr 2;unfold dc;congr 1;show(eE n f++_).take n++_++(eE n f++_).drop (n+m)=_;rw[List.take_left' (bQ n f),<-List.drop_drop,List.drop_left' (bQ n f),List.drop_replicate,<-u6];congr 2;omega
 ·have hg:c<n+m:=by omega
  have hold:(Builtin.firstCells i.size n (.slice x n c)).run P w.drew=.ok (eE n f).toArray w.drew:=by
   rcases j7 with⟨rfl,rfl,rfl,_⟩|⟨b,rfl,rfl⟩
   ·exact run_firstCells_none (P:=P) w.drew i.size 0 0 0
   ·have vR:=ba _ (List.mem_singleton.2 rfl);refine run_firstCells_some (P:=P) w.drew i.size n ⟨b,0,none⟩ n c (eE n f) (by rw[bQ,iM,Nat.mul_one]) (λj v hj=>?_);obtain⟨yF,rfl⟩:=ki hj;rw[Addr.add_lit];have:w.drew.cell? ⟨b,0+j,none⟩=w.cell? ⟨b,j,none⟩:=by simp
    rw[this,cell_of vR];simp only[dc,List.getElem?_toArray];rw[List.getElem?_append_left (by rw[bQ];exact yF),je f yF]
  have aY:=run_append_grow_src (P:=P) w t tx ty T i z0 ht aF Cv x n c (eE n f) hold xv m (eE m g) uZ hg (by simp only[maxLen]at h63;omega) (by rw[sP];exact growslice_fits hg (by omega));have jI:=grownCap_ge w (n+m) c T;refine⟨_,_,aY,?_,some ⟨w.heap.size,0,none⟩,grownCap w (n+m) c T,[⟨w.heap.size,true,.cells (dc (n+m) (bI n f g) (grownCap w (n+m) c T)) T (0,0)⟩],rfl,⟨jI,.inr ⟨_,rfl,rfl⟩⟩,?_⟩
  ·exact((Ch.refl (bl.map av.id) w).drew).trans (Ch.alloc (bl.map av.id) w.drew _) (λx hx=>.inl hx)
  ·intro y hy;obtain rfl:=List.mem_singleton.1 hy;refine⟨?_,.inr (Nat.le_refl _)⟩;have:=heap_alloc_new w.drew (.cells ((eE n f++eE m g).toArray++Builtin.zeroCells z0.cells (grownCap w (n+m) c T-(n+m))) T);refine Eq.trans this ?_;congr 2;apply Array.ext';rw[FI,Array.toList_append,lH];show eE n f++eE m g++_=eE (n+m) (bI n f g)++_;rw[<-u6]
end
section
variable{P:Program} {ops:Array Oper} {rest:List Oper} {o:Oper} {a:Act} {w w0:World} {ms:List Nat} {Q:Exit->Act->World->Prop}
theorem CL {A bl R:List av} {xs:Option Addr} {T n c m:Nat} {f g:Nat->Int} {t tx:TypeId} {s x:Operand} {xv:Value} (S:St ms w0 (A++(bl++R)) w) (hr:eK T n f xs c bl) (hs:Src P 1 tx xv m (eE m g) w) (hbd:n+m<=140737488355328)
 (k:∀x' c' bl' w',eK T (n+m) (bI n f g) x' c' bl'->St ms w0 (A++(bl'++R)) w'->WL P ops Q rest (a.put o.dst (.slice x' (n+m) c')) w')
 (ho:o.op=.call ⟨.builtin .append,#[s,x],#[t,tx]⟩:=by rfl) (hw:Region.wanted o (yielded ops a.tmps)=true:=by kernel_rfl) (BL:a.eval s=.slice xs n c:=by kernel_rfl) (BO:a.eval x=xv:=by kernel_rfl)
 (ht:P.underlying t=some (.slice T):=by kernel_rfl) (aF:(P.info? T).map (λi=>(i.zero.map (·.cells),i.size,i.bytes))=some (some #[.int .u8 0],1,1):=by kernel_rfl):WL P ops Q (o::rest) a w:=
 WL.want hw λK hK=>by
  obtain⟨v,w',aY,hc,x',c',bl',rfl,mT,ba⟩:=mX (P:=P) (ty:=o.type) hr (λy hy=>S.at' (by simp[hy])) hs ht aF hbd;have S2:=S.yE hr.wr hc (λy hy=>(ba y hy).1) (λy hy=>(ba y hy).2) (by
   rcases mT.2 with⟨_,_,_,rfl⟩|⟨b,_,rfl⟩<;>simp)
  unfold Oper.wp;rw[bP ho BL BO aY];exact hK _ _ (k x' c' bl' w' mT S2)
end
end Sx
namespace Sx
open Go Go.RowKit Go.BigFrame
def Ek (f:Nat->Int) (k:Nat):Nat->Int:=λj=>f (k+j)
theorem qt {T n f x c bl} (h:eK T n f x c bl) (hn:0<n):∃b,n<=c/\x=some ⟨b,0,none⟩/\bl=[⟨b,true,.cells (dc n f c) T (0,0)⟩]:=by
 rcases h.2 with⟨_,h0,_,_⟩|⟨b,h1,h2⟩
 ·omega
 ·exact⟨b,h.1,h1,h2⟩
theorem St.FN {ms:List Nat} {w0 w:World} {bs:List av} (S:St ms w0 bs w) (i:Nat) {b n c:Nat} {wr:Bool} {f:Nat->Int} {t:TypeId} {fr:Nat×Nat} (hb:bs[i]?=some ⟨b,wr,.cells (dc n f c) t fr⟩:=by kernel_rfl):eS w b 0 n f:=λj hj=>by
 rw[cell_of (S.at_ i _ hb),Nat.zero_add];simp only[dc,List.getElem?_toArray];rw[List.getElem?_append_left (by rw[bQ];exact hj),je f hj]
end Sx
namespace Sx
open Go
end Sx
namespace Sx
open Go Go.RowKit Go.BigFrame
theorem Ch.agw (w:World) (r:Nat) (o:Obj):Ch [r] w {w with heap:=w.heap.setIfInBounds r o}:=
 ⟨rfl,rfl,rfl,by simp,λk hk hm=>by
  show(w.heap.setIfInBounds r o)[k]?=w.heap[k]?;rw[Array.getElem?_setIfInBounds_ne (λe=>hm (by simp[e]))]⟩
def ox (kd:IntKind) (l:List (Int×Value)):Obj:=.map ((l.zipIdx.map λx=>(⟨.int kd x.1.1,x.1.2,x.2⟩:MapEntry)).toArray) l.length
theorem vW (kd:IntKind) (k:Int):∀(l:List MapEntry) (i:Nat),(∀e∈l,∃j,e.key=.int kd j/\j≠k)->Instr.findNow (.int kd) (.int kd k) l i=some none
 |[],_,_=>rfl
 |e::es,i,h=>by
  obtain⟨j,h1,h2⟩:=h e (List.Mem.head _);have:Instr.sameNow (.int kd) (.int kd k) e.key=some false:=by
   rw[h1];simp[Instr.sameNow];exact λh=>h2 h.symm
  simp[Instr.findNow,this,vW kd k es (i+1) (λx hx=>h x (List.Mem.tail _ hx))]
theorem LD (kd:IntKind) (l:List (Int×Value)) (k:Int) (v:Value):
 Obj.map (((l.zipIdx.map λx=>(⟨.int kd x.1.1,x.1.2,x.2⟩:MapEntry)).toArray).push ⟨.int kd k,v,l.length⟩) (l.length+1)=ox kd (l++[(k,v)]):=by
 simp[ox,List.zipIdx_append]
theorem Pe {kd:IntKind} {l:List (Int×Value)} {k:Int} (h:l.all (λx=>x.1!=k)=true):∀e∈(l.zipIdx.map λx=>(⟨.int kd x.1.1,x.1.2,x.2⟩:MapEntry)),∃j,e.key=.int kd j/\j≠k:=by
 intro e he;obtain⟨x,hx,rfl⟩:=List.mem_map.1 he;have hm:=(List.mem_zipIdx hx);have h2:x.1∈l:=by
  obtain⟨_,_,h3⟩:=hm;rw[h3];exact List.getElem_mem _
 exact⟨x.1.1,rfl,by simpa using List.all_eq_true.1 h _ h2⟩
section
variable{P:Program} {ops:Array Oper} {rest:List Oper} {o:Oper} {a:Act} {w w0:World} {ms:List Nat} {bs:List av} {Q:Exit->Act->World->Prop}
end
theorem aky (g:Nat->Int):bI 0 (λ_=>0) g=g:=by
 funext j;show(bif Nat.blt j 0 then _ else _)=_;rw[show Nat.blt j 0=false from by cases j<;>rfl];simp
theorem St.beside {ms:List Nat} {w0 w w1:World} {bs bl:List av} (S:St ms w0 bs w) (T:St [] w bl w1) (h:Wr bl):St ms w0 (bl++bs) w1:=by
 have hq:=S.quiet T.ch;refine St.mk' hq.ch (λx hx=>?_) (λx hx hw=>?_) ?_
 ·rcases List.mem_append.1 hx with h1|h1
  ·exact T.at' h1
  ·exact hq.at' h1
 ·rcases List.mem_append.1 hx with h1|h1
  ·rcases T.ql h1 hw with h2|h2
   ·cases h2
   ·exact .inr (Nat.le_trans S.ch.size h2)
  ·exact hq.ql h1 hw
 ·rw[List.pairwise_append];refine⟨T.pw,hq.pw,λx hx y hy _ e=>?_⟩;rcases T.ql hx (h x hx)with h2|h2
  ·cases h2
  ·have:=S.ge hy;omega
theorem FO {w w1:World} (hc:Ch [] w w1) {a:Addr} {v:Value} (h:w.cell? a=some v):w1.cell? a=some v:=by
 have hb:a.block<w.heap.size:=by
  unfold World.cell? at h;split at h
  ·next h2=>exact fW h2
  ·cases h
 have h3:=hc.block _ hb (by simp);unfold World.cell? at h⊢;rw[h3];exact h
def gF (w:World) (a:Option Addr) (n c:Nat) (f:Nat->Int):Prop:=n<=c/\(a=none->n=0/\c=0)/\∀x,a=some x->∀j,j<n->w.cell? (x.add j)=some (.int .u8 (f j))
def cz (w:World) (a:Option Addr) (n c:Nat) (f:Nat->Int):Prop:=n<=1000000/\gF w a n c f
theorem gF.quiet {w w1:World} {a:Option Addr} {n c:Nat} {f:Nat->Int} (h:gF w a n c f) (hc:Ch [] w w1):gF w1 a n c f:=⟨h.1,h.2.1,λx e j hj=>FO hc (h.2.2 x e j hj)⟩
theorem cz.quiet {w w1:World} {a:Option Addr} {n c:Nat} {f:Nat->Int} (h:cz w a n c f) (hc:Ch [] w w1):cz w1 a n c f:=⟨h.1,h.2.quiet hc⟩
theorem gF.cut {w:World} {a:Option Addr} {n c m:Nat} {f:Nat->Int} (h:gF w a n c f) (hm:m<=n) (hb:m<=1000000):cz w a m c f:=
 ⟨hb,Nat.le_trans hm h.1,λe=>⟨by have:=h.2.1 e;omega,(h.2.1 e).2⟩,λx e j hj=>h.2.2 x e j (by omega)⟩
theorem FP {P:Program} {w:World} {a:Option Addr} {n c:Nat} {f:Nat->Int} (h:cz w a n c f) {tx e':TypeId} (hk:P.underlying tx=some (.slice e'):=by kernel_rfl):Src P 1 tx (.slice a n c) n (eE n f) w:=by
 obtain⟨h1,h2,h3,h4⟩:=h;cases a with
 |none=>
  obtain⟨rfl,rfl⟩:=h3 rfl;exact Src.ofNil _ hk 0
 |some x=>exact Src.ofSlice w hk _ n c _ (by rw[bQ,Nat.mul_one]) (λj u hj=>by
  obtain⟨h5,rfl⟩:=ki hj;exact h4 x rfl j h5) qq
def sS (m n:Nat):Nat:=min n m
theorem Wp (m n:Nat):(if((m:Nat):Int)<((n:Nat):Int)then((m:Nat):Int)else((n:Nat):Int))=((sS m n:Nat):Int):=by unfold sS;split<;>omega
theorem cz.isS {w:World} {a:Option Addr} {n c:Nat} {f:Nat->Int} (h:cz w a n c f) (hn:0<n):∃x,a=some x:=by
 cases a with
 |none=>have:=(h.2.2.1 rfl).1;omega
 |some x=>exact⟨x,rfl⟩
theorem cz.of8 {w:World} {b o n c:Nat} {f:Nat->Int} (h:eS w b o n f) (hn:n<=1000000) (hc:n<=c):cz w (some ⟨b,o,none⟩) n c f:=
 ⟨hn,hc,λe=>absurd e (by simp),λx e j hj=>by cases e;rw[Addr.add_lit];exact h j hj⟩
section
variable{P:Program} {ops:Array Oper} {rest:List Oper} {o o':Oper} {a:Act} {w w0:World} {ms:List Nat} {bs:List av} {Q:Exit->Act->World->Prop}
theorem aca (S:St ms w0 bs w) (i:Nat) (b N off n c:Nat) (f:Nat->Int) (ka:Option Addr) (m sc:Nat) (g:Nat->Int) {t:TypeId} {s x:Operand} {tt tx elem:TypeId} (h8:cz w ka m sc g) (h1:0<m) (hm:m<=n) (hn:off+m<=N)
 (hb:bs[i]?=some ⟨b,true,.cells (ak .u8 N f) t (0,0)⟩) {bs':List av} (h2:bs.set i ⟨b,true,.cells (ak .u8 N (iF f off m g)) t (0,0)⟩=bs')
 (k:∀w',St ms w0 bs' w'->WL P ops Q rest (a.put o.dst (.int .i64 m)) w')
 (hw:Region.wanted o (yielded ops a.tmps)=true:=by kernel_rfl) (ho:o.op=.call ⟨.builtin .copy,#[s,x],#[tt,tx]⟩:=by rfl) (hs:a.eval s=.slice (some ⟨b,off,none⟩) n c:=by kernel_rfl) (hx:a.eval x=.slice ka m sc:=by kernel_rfl)
 (hu:P.underlying tt=some (.slice elem):=by kernel_rfl) (hz:(P.info? elem).map (·.size)=some 1:=by kernel_rfl):WL P ops Q (o::rest) a w:=
 WL.want hw λK hK=>by
  obtain⟨x0,rfl⟩:=h8.isS h1;have ba:=S.at_ i _ hb;have Pb:Nat.min m n=m:=Nat.min_eq_left hm;have aY:=run_copy_row (P:=P) w tt tx o.type elem b off n c x0 m sc (ak .u8 N f) t (eE m g) hu hz ba (by rw[bQ,Pb]) (λj v hj=>by
   obtain⟨h1,rfl⟩:=ki hj;exact h8.2.2.2 x0 rfl j h1) (by rw[bQ,kQ];exact hn) qq
  unfold Oper.wp;rw[u7 ho hs hx aY];rw[bQ];have he:(goInt m:Value)=.int .i64 m:=rfl;rw[he];refine hK _ _ (k _ ?_);have hS:=S.step hb rfl (Ch.setRow w b _) (setRow_heap w b (ak .u8 N f) ((ak .u8 N f).toList.take off++eE m g++(ak .u8 N f).toList.drop (off+m)).toArray t (0,0) ba);have e2:((ak .u8 N f).toList.take off++eE m g++(ak .u8 N f).toList.drop (off+m)).toArray=ak .u8 N (iF f off m g):=sR .u8 f hn g;rw[e2,h2]at hS;rw[e2];exact hS
theorem kC (b o n off i:Nat) (f:Nat->Int) (h8:eS w b o n f) (hi:i<n) (he:off=o+i) {x:Operand} {ty:TypeId} (k:WL P ops Q rest (a.put o'.dst (.int .u8 (f i))) w) (hw:Region.wanted o' (yielded ops a.tmps)=true:=by kernel_rfl) (ho:o'.op=.load ty x:=by rfl) (hx:a.eval x=.pointer (some ⟨b,off,none⟩):=by kernel_rfl)
 (ha:(P.underlying ty).map jt=some false:=by kernel_rfl):WL P ops Q (o'::rest) a w:=
 aa _ k hw (by
  have:=h8 i hi;rw[<-he]at this;unfold execOp;simp only[ho,hx,Instr.loadAt,Instr.sureAddr,Sem.run_bind,Sem.run_pure,Result.andThen_ok];unfold loadVar;rw[Sem.run_bind,iq ha];simp[load,Sem.run,this])
end
section
variable{P:Program}
theorem qu {w:World} {T n c m:Nat} {f g:Nat->Int} {x:Option Addr} (hx:cz w x n c f)
 {t tx ty:TypeId} {xv:Value} (hs:Src P 1 tx xv m (eE m g) w) (ht:P.underlying t=some (.slice T)) (hi:(P.info? T).map (λi=>(i.zero.map (·.cells),i.size,i.bytes))=some (some #[.int .u8 0],1,1))
 (hb:n+m<=140737488355328) (hg:c<n+m):
 ∃b c' w',(Builtin.append_ #[t,tx] ty #[.slice x n c,xv]).run P w=.ok (.slice (some ⟨b,0,none⟩) (n+m) c') w'/\n+m<=c'/\Ch [] w w'/\w.heap.size<=b/\w'.heap[b]?=some (.cells (dc (n+m) (bI n f g) c') T (0,0)):=by
 obtain⟨i,aF,hi⟩:=Option.map_eq_some_iff.1 hi;simp only[Prod.mk.injEq]at hi;obtain⟨hz,iM,sP⟩:=hi;obtain⟨z0,Cv,FI⟩:=Option.map_eq_some_iff.1 hz;have uZ:Src P i.size tx xv m (eE m g) w:=by rw[iM];exact hs
 have h63:n+m<=maxLen:=by unfold maxLen;omega
 have hold:(Builtin.firstCells i.size n (.slice x n c)).run P w.drew=.ok (eE n f).toArray w.drew:=by
  cases x with
  |none=>
   obtain⟨rfl,rfl⟩:=hx.2.2.1 rfl;exact run_firstCells_none (P:=P) w.drew i.size 0 0 0
  |some a=>
   refine run_firstCells_some (P:=P) w.drew i.size n a n c (eE n f) (by rw[bQ,iM,Nat.mul_one]) (λj v hj=>?_);obtain⟨yF,rfl⟩:=ki hj;have:=hx.2.2.2 a rfl j yF;simpa using this
 have aY:=run_append_grow_src (P:=P) w t tx ty T i z0 ht aF Cv x n c (eE n f) hold xv m (eE m g) uZ hg (by simp only[maxLen]at h63;omega) (by rw[sP];exact growslice_fits hg (by omega));have jI:=grownCap_ge w (n+m) c T;refine⟨w.heap.size,grownCap w (n+m) c T,_,aY,jI,?_,Nat.le_refl _,?_⟩
 ·exact((Ch.refl [] w).drew).trans (Ch.alloc [] w.drew _) (λx hx=>.inl hx)
 ·have:=heap_alloc_new w.drew (.cells ((eE n f++eE m g).toArray++Builtin.zeroCells z0.cells (grownCap w (n+m) c T-(n+m))) T);refine Eq.trans this ?_;congr 2;apply Array.ext';rw[FI,Array.toList_append,lH];show eE n f++eE m g++_=eE (n+m) (bI n f g)++_;rw[<-u6]
end
section
variable{P:Program} {o:Oper} {ρ:Operand->Value} {w w0:World} {ms:List Nat} {bs:List av} {R:Value->World->Prop}
theorem Y.y9 {x0:Option Addr} {T n c m:Nat} {f g:Nat->Int} {t tx:TypeId} {s x:Operand} {xv:Value} (S:St ms w0 bs w) (SF:cz w x0 n c f) (hs:Src P 1 tx xv m (eE m g) w) (hbd:n+m<=140737488355328) (hg:c<n+m)
 (k:∀b c' w',n+m<=c'->St ms w0 (⟨b,true,.cells (dc (n+m) (bI n f g) c') T (0,0)⟩::bs) w'->R (.slice (some ⟨b,0,none⟩) (n+m) c') w')
 (ho:o.op=.call ⟨.builtin .append,#[s,x],#[t,tx]⟩:=by rfl) (BL:ρ s=.slice x0 n c:=by kernel_rfl) (BO:ρ x=xv:=by kernel_rfl)
 (ht:P.underlying t=some (.slice T):=by kernel_rfl) (aF:(P.info? T).map (λi=>(i.zero.map (·.cells),i.size,i.bytes))=some (some #[.int .u8 0],1,1):=by kernel_rfl):Yields P o ρ w R:=by
 obtain⟨b,c',w',aY,hc,eZ,hb,ba⟩:=qu (P:=P) (ty:=o.type) SF hs ht aF hbd hg;unfold Yields;rw[bP ho BL BO aY];exact k b c' w' hc (S.new eZ hb ba)
end
section
variable{P:Program} {ops:Array Oper} {rest:List Oper} {o:Oper} {a:Act} {w:World} {Q:Exit->Act->World->Prop} {ρ:Operand->Value} {R:Value->World->Prop}
theorem Pf (kd ykd:IntKind) (x y:Int) {t yt:TypeId} {xo yo:Operand} (h:0<=y) (k:WL P ops Q rest (a.put o.dst (.int kd (kd.wrap (x*2^(min y.toNat kd.bits))))) w) (hw:Region.wanted o (yielded ops a.tmps)=true:=by kernel_rfl)
 (ho:o.op=.binOp .shl t xo yo yt:=by rfl) (hx:a.eval xo=.int kd x:=by kernel_rfl) (hy:a.eval yo=.int ykd y:=by kernel_rfl):WL P ops Q (o::rest) a w:=
 aa _ k hw (by
  have hn:¬y<0:=by omega
  unfold execOp;simp[ho,hx,hy,Go.eqGuard,Go.binOp,Op.shift,hn])
theorem Y.Pf (kd ykd:IntKind) (x y:Int) {t yt:TypeId} {xo yo:Operand} (h:0<=y) (k:R (.int kd (kd.wrap (x*2^(min y.toNat kd.bits)))) w)
 (ho:o.op=.binOp .shl t xo yo yt:=by rfl) (hx:ρ xo=.int kd x:=by kernel_rfl) (hy:ρ yo=.int ykd y:=by kernel_rfl):Yields P o ρ w R:=
 Y.aa _ k (by
  have hn:¬y<0:=by omega
  unfold execOp;simp[ho,hx,hy,Go.eqGuard,Go.binOp,Op.shift,hn])
end
def gT (l:List Int):Nat->Int:=λj=>l.getD j 0
section
variable{P:Program} {ops:Array Oper} {rest:List Oper} {o:Oper} {a:Act} {w w0:World} {ms:List Nat} {bs:List av} {Q:Exit->Act->World->Prop} {ρ:Operand->Value}
theorem Wq (neg:Bool) (r:Bool) (xs ys:Array Value) {v:Value} (hv:v=.bool (bif neg then !r else r)) {t yt:TypeId} {x y:Operand} (ho:o.op=.binOp (bif neg then .neq else .eql) t x y yt:=by rfl) (hx:ρ x=.agg xs:=by kernel_rfl) (hy:ρ y=.agg ys:=by kernel_rfl) (hg:P.eqGuardType P.depth t=false:=by kernel_rfl) (he:Ic P 10000 t (.agg xs) (.agg ys)=some r:=by kernel_rfl):
 (execOp ρ o).run P w=.ok (.value v) w:=by
 rw[hv];exact Lt neg ho hx hy hg he
theorem y9 {x0:Option Addr} {T n c m:Nat} {f g:Nat->Int} {t tx:TypeId} {s x:Operand} {xv:Value} (S:St ms w0 bs w) (SF:cz w x0 n c f) (hs:Src P 1 tx xv m (eE m g) w) (hbd:n+m<=140737488355328) (hg:c<n+m)
 (k:∀b c' w',n+m<=c'->St ms w0 (⟨b,true,.cells (dc (n+m) (bI n f g) c') T (0,0)⟩::bs) w'->WL P ops Q rest (a.put o.dst (.slice (some ⟨b,0,none⟩) (n+m) c')) w')
 (hw:Region.wanted o (yielded ops a.tmps)=true:=by kernel_rfl) (ho:o.op=.call ⟨.builtin .append,#[s,x],#[t,tx]⟩:=by rfl) (BL:a.eval s=.slice x0 n c:=by kernel_rfl) (BO:a.eval x=xv:=by kernel_rfl)
 (ht:P.underlying t=some (.slice T):=by kernel_rfl) (aF:(P.info? T).map (λi=>(i.zero.map (·.cells),i.size,i.bytes))=some (some #[.int .u8 0],1,1):=by kernel_rfl):WL P ops Q (o::rest) a w:=
 WL.want hw λK hK=>by
  obtain⟨b,c',w',aY,hc,eZ,hb,ba⟩:=qu (P:=P) (ty:=o.type) SF hs ht aF hbd hg;unfold Oper.wp;rw[bP ho BL BO aY];exact hK _ _ (k b c' w' hc (S.new eZ hb ba))
end
theorem St.up {ms:List Nat} {w0 w:World} {b:Nat} {o:Obj} {B:List av} {L:List Nat} (S:St ms w0 (⟨b,false,o⟩::B) w) (acb:w0.heap.size<=b) (hT:Ty L B) (hd:aa7 L [SE o]=true:=by kernel_rfl):St ms w0 (⟨b,true,o⟩::B) w:=by
 refine St.mk' S.ch (λx hx=>?_) (λx hx hw=>?_) ?_
 ·rcases List.mem_cons.1 hx with rfl|hx
  ·exact S.at' (x:=⟨b,false,o⟩) (List.Mem.head _)
  ·exact S.at' (List.Mem.tail _ hx)
 ·rcases List.mem_cons.1 hx with rfl|hx
  ·exact .inr acb
  ·exact S.ql (List.Mem.tail _ hx) hw
 ·refine List.pairwise_cons.2 ⟨λy hy _ e=>?_,(List.pairwise_cons.1 S.pw).2⟩;have h1:=S.at' (x:=⟨b,false,o⟩) (List.Mem.head _);have h2:=S.at' (List.Mem.tail _ hy);simp only at h1 e;rw[e,h2]at h1;exact hT.ne hd y hy _ (List.Mem.head _) (congrArg SE (Option.some.inj h1))
end Sx
namespace Sd
abbrev Byt:=Nat->Int
structure Timer where
 n:Int
 most:Int
deriving DecidableEq,Inhabited
structure Tok where
 holder:Int
 epoch:Int
 offer:Int
 oa:Timer
 la:Timer
 bad:Bool
deriving DecidableEq,Inhabited
structure Label where
 mD:Int
 source:Int
 seq:Int
deriving DecidableEq,Inhabited
structure X4 where
 a:Int
 b:Int
 c:Int
 d:Int
deriving DecidableEq,Inhabited
def X4.get (x:X4) (i:Nat):Int:=match i with|0=>x.a|1=>x.b|2=>x.c|_=>x.d
def X4.map (f:Int->Int) (x:X4):X4:=⟨f x.a,f x.b,f x.c,f x.d⟩
def X4.zip (f:Int->Int->Int) (x y:X4):X4:=⟨f x.a y.a,f x.b y.b,f x.c y.c,f x.d y.d⟩
def X4.zero:X4:=⟨0,0,0,0⟩
structure Point where
 cls:Int
 bx:X4
 now:X4
 cX:Label
deriving DecidableEq,Inhabited
structure Rec where
 kind:Int
 source:Int
 seq:Int
 epoch:Int
 code:Int
 how:Int
deriving DecidableEq,Inhabited
structure bW where
 kind:Int
 seq:Int
 role:Int
 bx:Int
 epoch:Int
 mode:Int
 cls:Int
 now:Bool
 x:X4
deriving DecidableEq,Inhabited
structure Reply where
 kind:Int
 seq:Int:=0
 role:Int:=0
 fT:Int:=0
 epoch:Int:=0
 code:Int:=0
 ae:Byt:=λ_=>0
deriving Inhabited
structure dS where
 valid:Bool
 x:X4
 FQ:Bool
deriving DecidableEq,Inhabited
structure cN where
 any:Bool
 high:Int
 seen:Int
deriving DecidableEq,Inhabited
structure Ask where
 source:Int
 aV:Int
 gU:Timer
deriving DecidableEq,Inhabited
structure dQ where
 many:Int
 sG:Bool
 ae:Byt
deriving Inhabited
structure bm where
 on:Bool
 aH:Timer
 role:Int
 key:Byt
 seen:cN
deriving Inhabited
structure Act where
 mode:Int
 cls:Int
 out:X4
 bj:Label
 akt:Label
deriving DecidableEq,Inhabited
structure Pol where
 i:Nat->Int
 k:Nat->Nat×Byt
namespace Pol
def order (p:Pol) (k:Nat):Int:=p.i k
def vX (p:Pol) (s:Nat):Int:=p.i (9+s)
def table (p:Pol) (m r:Nat):Int:=p.i (14+4*m+r)
def graph (p:Pol) (m:Nat):Int:=p.i (34+m)
def start (p:Pol):Int:=p.i 39
def safe (p:Pol):Int:=p.i 40
def lost (p:Pol):Int:=p.i 41
def bh (p:Pol):Int:=p.i 42
def cY (p:Pol):Int:=p.i 43
def offer (p:Pol):Int:=p.i 44
def ask (p:Pol):Int:=p.i 45
def oL (p:Pol):Int:=p.i 46
def beyond (p:Pol):Int:=p.i 47
def queue (p:Pol):Int:=p.i 48
def aR (p:Pol):Int:=p.i 49
def most (p:Pol) (c:Nat):Int:=p.i (50+c)
def LF (p:Pol):Int:=p.i 54
def epoch (p:Pol):Int:=p.i 55
end Pol
end Sd
namespace Sd
def sat (n most:Int):Int:=if n<most then n+1 else most
def oM (n low high:Int):Int:=if n<low then low else if high<n then high else n
def jf (now bx cX:Int):Int:=
 if cX<1 then now
 else if now<=bx then(if bx-now<=cX then bx else now+cX)
 else(if now-bx<=cX then bx else now-cX)
def has (set i:Int):Bool:=decide (0<=set)&&decide (0<=i)&&decide (i<=62)&&decide (set/2^i.toNat%2=1)
namespace Timer
def zero:Timer:=⟨0,0⟩
def start (most:Int):Timer:=⟨0,max most 0⟩
def step (t:Timer):Timer:={t with n:=sat t.n t.most}
def due (t:Timer):Bool:=decide (t.most<=t.n)
end Timer
def placeOf (p:Pol) (s:Int):Int:=
 if p.i 0=s then 0 else if p.i 1=s then 1 else if p.i 2=s then 2 else if p.i 3=s then 3 else if p.i 4=s then 4 else-1
def aV (p:Pol) (s:Int):Int:=placeOf p s
def cu (p:Pol) (a b:Int):Bool:=decide (placeOf p a≠-1)&&decide (placeOf p b≠-1)&&decide (placeOf p a<placeOf p b)
def below (n bound:Int):Bool:=decide (0<=n)&&decide (n<bound)
def fm (p:Pol) (source role:Int):Bool:=below source 5&&below role 4&&has (p.vX source.toNat) role
def may (p:Pol) (mode role cls:Int):Bool:=below mode 5&&below role 4&&below cls 4&&has (p.table mode.toNat role.toNat) cls
def goes (p:Pol) (from_ bx:Int):Bool:=below from_ 5&&below bx 5&&has (p.graph from_.toNat) bx
namespace Tok
def pass (t:Tok) (bx epoch:Int):Tok:=⟨bx,epoch,-1,.zero,.zero,t.bad⟩
def new (p:Pol):Tok:=⟨4,p.epoch,-1,.zero,.zero,false⟩
def bz (t:Tok) (bx:Int):Tok×Int:=
 if bx<0\/5<=bx then(t,1)else if bx=t.holder then(t,25)else if 65535<=t.epoch then(t,24)
 else(t.pass bx (t.epoch+1),0)
def dO (t:Tok):Tok:=t.pass 4 (if t.holder≠4 then sat t.epoch 65535 else t.epoch)
def bG (t:Tok):Tok:={t with offer:=-1,oa:=.zero}
def make (p:Pol) (t:Tok) (from_ bx:Int) (there:Bool):Tok×Int:=
 if from_≠t.holder then(t,20)else if 65535<=t.epoch then(t,24)else if bx=from_ then(t,25)
 else if bx<1\/3<bx\/there=false then(t,2)else if 0<=t.offer then(t,28)
 else({t with offer:=bx,oa:=.start p.offer},0)
def accept (t:Tok) (from_ epoch:Int):Tok×Int:=
 if t.offer<0\/t.offer≠from_ then(t,28)else if epoch≠t.epoch then(t,21)else t.bz from_
def fJ (t:Tok) (from_:Int):Tok×Int:=
 if t.offer<0\/t.offer≠from_ then(t,28)else(t.bG,0)
def drop (t:Tok) (source:Int):Tok×Bool:=
 if t.offer<0\/t.offer≠source then(t,false)else(t.bG,true)
def tick (t:Tok):Tok×Int:=
 if t.offer<0 then(t,-1)
 else if t.oa.step.due then(({t with oa:=t.oa.step}:Tok).bG,t.offer)
 else({t with oa:=t.oa.step},-1)
end Tok
namespace Q
def waits (l:List Ask) (s:Int):Bool:=l.any λa=>decide (a.source=s)
def insert (l:List Ask) (a:Ask):List Ask:=(l.takeWhile λx=>decide (x.aV<=a.aV))++a::(l.dropWhile λx=>decide (x.aV<=a.aV))
def push (most:Int) (l:List Ask) (a:Ask):List Ask×Int:=
 if waits l a.source then(l,27)else if most<=l.length then(l,3)else(insert l a,0)
def drop (l:List Ask) (s:Int):List Ask:=l.filter λa=>decide (a.source≠s)
def qx (l:List Ask):List Ask:=l.map λa=>{a with gU:=a.gU.step}
def gone (l:List Ask):List Ask:=(qx l).filter λa=>a.gU.due
def kept (l:List Ask):List Ask:=(qx l).filter λa=>!a.gU.due
end Q
def cv (p:Pol) (t:Tok) (most:Int) (q:List Ask) (from_:Int) (now:Bool):Tok×Int×Int×List Ask:=
 if t.bad then(t,0,29,q)else if from_=t.holder then(t,0,25,q)else if 65535<=t.epoch then(t,0,24,q)
 else if t.holder=4\/(now=true/\cu p from_ t.holder=true)then
  (if(t.bz from_).2≠0 then(t,0,(t.bz from_).2,q)else((t.bz from_).1,3,0,Q.drop q from_))
 else if now then(t,0,26,q)
 else(t,0,(Q.push most q ⟨from_,aV p from_,.start p.ask⟩).2,(Q.push most q ⟨from_,aV p from_,.start p.ask⟩).1)
def bg (t:Tok) (q:List Ask):Tok×Int×List Ask:=
 match q with
 |[]=>(t,2,q)
 |a::_=>if(t.bz a.source).2≠0 then(t,(t.bz a.source).2,q)else((t.bz a.source).1,0,Q.drop q a.source)
def an (t:Tok) (q:List Ask) (from_:Int):Tok×Int×List Ask:=
 if from_≠t.holder then(t,20,q)else if 65535<=t.epoch then(t,24,q)else bg t q
def bM (p:Pol) (t:Tok) (q:List Ask) (there:Bool):Tok×Int×List Ask:=
 if t.holder=4\/there=true then({t with la:=.zero},0,q)
 else
  let la:=(if t.la.most=0 then Timer.start p.cY else t.la).step
  let t1:Tok:={t with la:=la}
  if la.due=false then(t1,0,q)
  else if 65535<=t.epoch then(t1.dO,6,q)
  else if(bg t1 q).2.1≠0 then((t1.bz 4).1,5,(bg t1 q).2.2)
  else((bg t1 q).1,5,(bg t1 q).2.2)
namespace Point
def set (p:Pol) (pt:Point) (cls:Int) (x:X4) (cX:Label):Point:=
 {pt with cls:=cls,cX:=cX,bx:=if cls<0\/4<=cls then .zero else x.map λn=>oM n (-(p.most cls.toNat)) (p.most cls.toNat)}
def hold (pt:Point) (cX:Label):Point:={pt with bx:=.zero,cX:=cX}
def step (p:Pol) (pt:Point):Point:=
 let now:=X4.zip (λa b=>jf a b p.LF) pt.now pt.bx
 {pt with now:=now,cX:=if now=pt.now then pt.cX else{pt.cX with mD:=4}}
end Point
def O6 (most:Int) (x:X4):Bool:=
 (decide (x.a< -most)||decide (most<x.a))||(decide (x.b< -most)||decide (most<x.b))||(decide (x.c< -most)||decide (most<x.c))||(decide (x.d< -most)||decide (most<x.d))
def kS (p:Pol) (run:Int) (s:dS):Int×Bool:=
 if s.valid=false\/O6 p.beyond s.x=false then(0,false)
 else(sat (max run 0) p.oL,decide (p.oL<=sat (max run 0) p.oL))
def fM (p:Pol) (t:Tok) (source role mode:Int) (m:bW):Int:=
 if m.kind≠10/\m.kind≠11 then 1 else if source≠t.holder then 20 else if m.epoch≠t.epoch then 21
 else if may p mode role (if m.kind=10 then 0 else m.cls)=false then 22
 else if m.kind=10/\goes p mode m.mode=false then 23 else 0
end Sd
namespace Sd
def aD (k:Int):bW:=⟨k,0,0,0,0,0,0,false,.zero⟩
structure Crypt where
 take:Nat->Byt->Option bW
 ae:Nat×Byt->Int->Int->Byt
 right:Nat×Byt->Int->Int->Byt->Byt->Bool
 key:Nat×Byt->Int->Int->Byt->Byt
 opens:Byt->Int->Nat->Byt->Bool
 next:Byt->Rec->Byt
 kS:cN->Int->cN
structure Tab where
 aA:Bool×Timer
 ay:Nat->bm
def bm.zero:bm:=⟨false,.zero,0,λ_=>0,⟨false,0,0⟩⟩
namespace Tab
def new:Tab:=⟨(false,.zero),λ_=>.zero⟩
def cZ (t:Tab) (s:Int):Bool:=decide (1<=s)&&decide (s<=3)&&(t.ay (s.toNat-1)).on
def on (t:Tab) (s:Int):Bool:=if s=4 then true else if s=0 then t.aA.1 else t.cZ s
def role (t:Tab) (s:Int):Int:=if t.cZ s then(t.ay (s.toNat-1)).role else 0
def many (t:Tab):Int:=(if(t.ay 0).on then 1 else 0)+(if(t.ay 1).on then 1 else 0)+(if(t.ay 2).on then 1 else 0)
def dT (t:Tab) (i:Nat) (s:bm):Tab:={t with ay:=λj=>if j=i then s else t.ay j}
def br (p:Pol) (t:Tab) (s r:Int) (key:Byt):Tab×Int:=
 if s<1\/3<s\/r<0\/4<=r then(t,1)
 else if t.cZ s=false/\p.aR<=t.many then(t,19)
 else(t.dT (s.toNat-1) ⟨true,.start p.bh,r,key,⟨false,0,0⟩⟩,0)
def take (C:Crypt) (p:Pol) (t:Tab) (s:Int) (n:Nat) (f:Byt):Tab×Except Int bW:=
 if t.cZ s=false then(t,.error 16)else
 if n<8\/C.opens (t.ay (s.toNat-1)).key s n f=false then(t,.error 14)else
  match C.take (n-8) f with
  |none=>(t,.error 13)
  |some m=>
   if m.kind=1\/m.kind=2 then(t,.error 13)
   else if C.kS (t.ay (s.toNat-1)).seen m.seq=(t.ay (s.toNat-1)).seen then(t,.error 15)
   else(t.dT (s.toNat-1) {(t.ay (s.toNat-1))with seen:=C.kS (t.ay (s.toNat-1)).seen m.seq,on:=true,aH:=.start p.bh},.ok m)
def end_ (t:Tab) (s:Int):Tab:=if t.cZ s then t.dT (s.toNat-1) .zero else t
def dU (p:Pol) (t:Tab):Tab:={t with aA:=(true,.start p.bh)}
def fN (t:Tab):Bool:=t.aA.1&&t.aA.2.step.due
def dG (t:Tab) (i:Nat):Bool:=(t.ay i).on&&(t.ay i).aH.step.due
def tick (t:Tab):Tab:=
 {aA:=if t.aA.1 then(if t.aA.2.step.due then(false,.zero)else(true,t.aA.2.step))else t.aA,ay:=λi=>if(t.ay i).on then(if(t.ay i).aH.step.due then bm.zero else{(t.ay i)with aH:=(t.ay i).aH.step})else t.ay i}
def ended (t:Tab):List Int:=
 (if t.fN then[0]else[])++(if t.dG 0 then[1]else[])++(if t.dG 1 then[2]else[])++(if t.dG 2 then[3]else[])
end Tab
structure Core where
 p:Pol
 t:Tok
 q:List Ask
 doors:Nat->dQ
 tab:Tab
 samples:Int
 beyond:Int
 mode:Int
 bj:Label
 pt:Point
 head:Byt
structure Scene where
 c:Core
 sent:List (Int×Reply)
 recs:List Rec
def dV:Label:=⟨2,4,0⟩
def linked (s:Int):Bool:=decide (1<=s)&&decide (s<=3)
def dQ.zero:dQ:=⟨0,false,λ_=>0⟩
def Core.new (p:Pol):Core:=
 ⟨p,.new p,[],λ_=>.zero,.new,0,0,p.start,dV,⟨1,.zero,.zero,dV⟩,λ_=>0⟩
def Core.act (c:Core):Act:=⟨c.mode,c.pt.cls,c.pt.now,c.bj,c.pt.cX⟩
namespace Scene
variable(C:Crypt)
def tell (s:Scene) (l:Int) (r:Reply):Scene:={s with sent:=s.sent++[(l,r)]}
def hear (s:Scene) (l:Int) (r:Reply):Scene:=if linked l&&s.c.tab.on l then s.tell l r else s
def record (s:Scene) (kind source seq code how:Int):Scene:=
 let r:Rec:=⟨kind,source,seq,s.c.t.epoch,code,how⟩
 {s with recs:=s.recs++[r],c:={s.c with head:=C.next s.c.head r}}
def refuse (s:Scene) (l n code:Int):Scene:=(s.tell l {kind:=132,seq:=n,code:=code}).record C 7 l n code 0
def dp (s:Scene) (l code:Int):Scene:=s.record C 1 l 0 code 0
def done (s:Scene) (l n:Int):Scene:=s.tell l {kind:=131,seq:=n}
def goes (s:Scene) (t:Tok) (how n:Int):Scene:=
 let a:=s.c.t.holder
 let s1:Scene:={s with c:={s.c with t:=t,q:=Q.drop s.c.q t.holder}}
 let s2:=s1.hear a {kind:=134,fT:=t.holder,epoch:=t.epoch}
 let s3:=s2.hear t.holder {kind:=133,epoch:=t.epoch}
 s3.record C 8 t.holder n 0 how
def gone (s:Scene) (l fT code:Int):Scene:=s.hear l {kind:=136,fT:=fT,code:=code}
def leave (s:Scene) (source:Int):Scene:=
 let s1:Scene:={s with c:={s.c with q:=Q.drop s.c.q source}}
 if(s1.c.t.drop source).2=false then s1
 else(({s1 with c:={s1.c with t:=(s1.c.t.drop source).1}}:Scene).gone (s1.c.t.drop source).1.holder source 16).record C 12 source 0 16 0
def dH (s:Scene) (mode:Int) (cX:Label):Scene:={s with c:={s.c with mode:=mode,bj:=cX,pt:=s.c.pt.hold cX}}
def gW (s:Scene) (l:Int) (n:Nat) (f:Byt):Scene:=
 match C.take n f with
 |none=>s.dp C l 13
 |some m=>
  if fm s.c.p l m.role=false then s.refuse C l 0 18
  else
   let d:=s.c.doors (l.toNat-1)
   if 4294967295<=d.many then s.refuse C l 0 24
   else
    let x:=C.ae (s.c.p.k 3) l (d.many+1)
    let s1:Scene:={s with c:={s.c with doors:=λj=>if j=l.toNat-1 then⟨d.many+1,true,x⟩else s.c.doors j}}
    (s1.tell l {kind:=129,ae:=x}).record C 2 l 0 0 0
def prove (s:Scene) (l:Int) (n:Nat) (f:Byt):Scene:=
 if n≠10 then s.dp C l 13
 else match C.take 2 f with
 |none=>s.dp C l 13
 |some m=>
  let d:=s.c.doors (l.toNat-1)
  if d.sG=false then s.refuse C l 0 17
  else
   let s1:Scene:={s with c:={s.c with doors:=λj=>if j=l.toNat-1 then⟨d.many,false,λ_=>0⟩else s.c.doors j}}
   if C.right (s.c.p.k (l.toNat-1)) l m.role d.ae (λj=>f (2+j))=false then s1.dp C l 14
   else if fm s.c.p l m.role=false then s1.refuse C l 0 18
   else
    let(tab,e):=Tab.br s.c.p s.c.tab l m.role (C.key (s.c.p.k (l.toNat-1)) l m.role d.ae)
    if e≠0 then s1.refuse C l 0 e
    else
     let s2:Scene:={s1 with c:={s1.c with tab:=tab}}
     (s2.tell l {kind:=130,role:=m.role,fT:=s.c.t.holder,epoch:=s.c.t.epoch}).record C 3 l 0 0 0
def bb (s:Scene) (t:Tok):Scene:={s with c:={s.c with t:=t}}
def En (s:Scene) (l:Int) (m:bW):Scene:=
 ((({s with c:={s.c with tab:=s.c.tab.end_ l}}:Scene).leave C l).record C 4 l m.seq 0 0).done l m.seq
def ask (s:Scene) (l:Int) (m:bW):Scene:=
 let(t,how,e,q):=cv s.c.p s.c.t s.c.p.queue s.c.q l m.now
 if e≠0 then s.refuse C l m.seq e
 else
  let s1:Scene:={s with c:={s.c with q:=q}}
  (if 0<how then s1.goes C t how m.seq else(s1.bb t).record C 10 l m.seq 0 0).done l m.seq
def offer (s:Scene) (l:Int) (m:bW):Scene:=
 let(t,e):=Tok.make s.c.p s.c.t l m.bx (s.c.tab.on m.bx)
 if e≠0 then s.refuse C l m.seq e
 else((((s.bb t).hear m.bx {kind:=135,fT:=l,epoch:=t.epoch}).record C 9 l m.seq 0 m.bx)).done l m.seq
def accept (s:Scene) (l:Int) (m:bW):Scene:=
 let(t,e):=s.c.t.accept l m.epoch
 if e≠0 then s.refuse C l m.seq e else(s.goes C t 1 m.seq).done l m.seq
def fJ (s:Scene) (l:Int) (m:bW):Scene:=
 let(t,e):=s.c.t.fJ l
 if e≠0 then s.refuse C l m.seq e
 else((((s.bb t).gone t.holder l 0).record C 11 l m.seq 0 0)).done l m.seq
def release (s:Scene) (l:Int) (m:bW):Scene:=
 let(t,e,q):=an s.c.t s.c.q l
 if e≠0 then s.refuse C l m.seq e else(({s with c:={s.c with q:=q}}:Scene).goes C t 2 m.seq).done l m.seq
def command (s:Scene) (l:Int) (m:bW):Scene:=
 let e:=fM s.c.p s.c.t l (s.c.tab.role l) s.c.mode m
 if e≠0 then s.refuse C l m.seq e
 else
  let cX:Label:=⟨1,l,m.seq⟩
  let s1:Scene:=if m.kind=10 then{s with c:={s.c with mode:=m.mode,bj:=cX}}
   else{s with c:={s.c with pt:=s.c.pt.set s.c.p m.cls m.x cX}}
  (s1.record C 6 l m.seq 0 0).done l m.seq
def u9 (s:Scene) (l:Int) (m:bW):Scene:=
 if m.kind=3 then s.done l m.seq else if m.kind=4 then s.En C l m else if m.kind=5 then s.ask C l m
 else if m.kind=6 then s.offer C l m else if m.kind=7 then s.accept C l m else if m.kind=8 then s.fJ C l m
 else if m.kind=9 then s.release C l m else if m.kind=10\/m.kind=11 then s.command C l m else s
def item (s:Scene) (l code:Int) (n:Nat) (f:Byt):Scene:=
 if code≠0 then s.dp C l code
 else if 0<n/\f 0=1 then s.gW C l n f
 else if 0<n/\f 0=2 then s.prove C l n f
 else
  match s.c.tab.take C s.c.p l n f with
  |(_,.error e)=>s.dp C l e
  |(tab,.ok m)=>({s with c:={s.c with tab:=tab}}:Scene).u9 C l m
def dU (s:Scene) (x:dS):Scene:=
 if x.valid=false then{s with c:={s.c with beyond:=0}}
 else
  let n:=sat s.c.samples 4294967295
  let r:=kS s.c.p s.c.beyond x
  let s1:Scene:={s with c:={s.c with samples:=n,tab:=s.c.tab.dU s.c.p,beyond:=r.1}}
  if s.c.t.holder=0/\x.FQ=true then
   let(t,e,q):=an s.c.t s.c.q 0
   if e≠0 then s1.record C 7 0 n e 0 else({s1 with c:={s1.c with q:=q}}:Scene).goes C t 2 n
  else if s.c.t.holder=0 then
   let e:=fM s.c.p s.c.t 0 0 s.c.mode {aD 11 with epoch:=s.c.t.epoch,cls:=1}
   if e≠0 then s1.record C 7 0 n e 0
   else({s1 with c:={s1.c with pt:=s1.c.pt.set s.c.p 1 x.x ⟨1,0,n⟩}}:Scene).record C 6 0 n 0 0
  else if r.2 then
   let(t,e):=s.c.t.bz 0
   if e≠0 then s1.record C 7 0 n e 0 else s1.goes C t 4 n
  else s1
def jg (s:Scene) (bad:Bool):Scene:=
 let s1:=s.bb {s.c.t with bad:=bad}
 if bad=false then s1
 else
  let t:=s1.c.t.dO
  let s2:=if s1.c.t.holder≠4 then s1.goes C t 6 0 else s1.bb t
  let s3:=s2.c.q.foldl (λ(s:Scene) (a:Ask)=>({s with c:={s.c with q:=Q.drop s.c.q a.source}}:Scene).gone a.source 4 29) s2
  s3.dH s3.c.p.safe dV
def cY (s:Scene):Scene:=
 let(t,how,q):=bM s.c.p s.c.t s.c.q (s.c.tab.on s.c.t.holder)
 if how<=0 then s.bb t
 else
  let s1:=({s with c:={s.c with q:=q}}:Scene).goes C t how 0
  if how=5 then s1.dH s1.c.p.lost ⟨3,4,0⟩else s1.dH s1.c.p.safe dV
def tick (s:Scene):Scene:=
 let agx:=s.c.tab.ended
 let s0:Scene:={s with c:={s.c with tab:=s.c.tab.tick}}
 let s1:=agx.foldl (λ(s:Scene) (x:Int)=>let s:=s.record C 5 x 0 0 0;if linked x then s.leave C x else s) s0
 let(t,Pg):=s1.c.t.tick
 let s2:=s1.bb t
 let s3:=if 0<=Pg then(s2.gone t.holder Pg 30).record C 12 Pg 0 30 0 else s2
 let late:=Q.gone s3.c.q
 let s4:Scene:={s3 with c:={s3.c with q:=Q.kept s3.c.q}}
 let s5:=late.foldl (λ(s:Scene) (a:Ask)=>(s.gone a.source a.source 30).record C 12 a.source 0 30 0) s4
 let s6:=s5.cY C
 {s6 with c:={s6.c with pt:=s6.c.pt.step s6.c.p}}
end Scene
structure cK (p:Pol):Prop where
 o0:p.i 0=0
 o4:p.i 4=4
 perm:(p.i 1=1/\p.i 2=2/\p.i 3=3)\/(p.i 1=1/\p.i 2=3/\p.i 3=2)\/(p.i 1=2/\p.i 2=1/\p.i 3=3)\/
  (p.i 1=2/\p.i 2=3/\p.i 3=1)\/(p.i 1=3/\p.i 2=1/\p.i 3=2)\/(p.i 1=3/\p.i 2=2/\p.i 3=1)
 start:0<=p.start/\p.start<=4
 safe:0<=p.safe/\p.safe<=4
 lost:0<=p.lost/\p.lost<=4
 bh:1<=p.bh/\p.bh<=1000
 cY:1<=p.cY/\p.cY<=1000
 offer:1<=p.offer/\p.offer<=1000
 ask:1<=p.ask/\p.ask<=1000
 oL:1<=p.oL/\p.oL<=1000
 beyond:0<=p.beyond/\p.beyond<=1000
 queue:1<=p.queue/\p.queue<=3
 aR:1<=p.aR/\p.aR<=3
 most:∀c,c<4->0<=p.most c/\p.most c<=1000
 LF:1<=p.LF/\p.LF<=1000
 epoch:0<=p.epoch/\p.epoch<=65535
theorem uf {p:Pol} (h:cK p) (s:Int) (h0:0<=s) (h4:s<=4):0<=placeOf p s/\placeOf p s<=4:=by
 have e:s=0\/s=1\/s=2\/s=3\/s=4:=by omega
 have:=h.o0;have:=h.o4
 rcases e with rfl|rfl|rfl|rfl|rfl<;>rcases h.perm with⟨a,b,c⟩|⟨a,b,c⟩|⟨a,b,c⟩|⟨a,b,c⟩|⟨a,b,c⟩|⟨a,b,c⟩<;>simp[placeOf, *]
theorem y_ {p:Pol} (h:cK p) {s t:Int} (hs:0<=s/\s<=4) (ht:0<=t/\t<=4) (e:placeOf p s=placeOf p t):s=t:=by
 have es:s=0\/s=1\/s=2\/s=3\/s=4:=by omega
 have et:t=0\/t=1\/t=2\/t=3\/t=4:=by omega
 have:=h.o0;have:=h.o4
 rcases es with rfl|rfl|rfl|rfl|rfl<;>rcases et with rfl|rfl|rfl|rfl|rfl<;>first|rfl|(rcases h.perm with⟨a,b,c⟩|⟨a,b,c⟩|⟨a,b,c⟩|⟨a,b,c⟩|⟨a,b,c⟩|⟨a,b,c⟩<;>simp[placeOf, *]at e)
theorem LJ {p:Pol} (h:cK p) {s t:Int} (hs:0<=s/\s<=4) (ht:0<=t/\t<=4):cu p s t=decide (aV p s<aV p t):=by
 have a:=uf h s hs.1 hs.2;have b:=uf h t ht.1 ht.2;unfold cu aV;have a':placeOf p s≠-1:=by omega
 have b':placeOf p t≠-1:=by omega
 simp[a',b']
theorem acd {p:Pol} (h:cK p) {s:Int} (hs:0<=s/\s<=3):aV p s<aV p 4:=by
 have es:s=0\/s=1\/s=2\/s=3:=by omega
 have:=h.o0;have:=h.o4
 unfold aV;rcases es with rfl|rfl|rfl|rfl<;>rcases h.perm with⟨a,b,c⟩|⟨a,b,c⟩|⟨a,b,c⟩|⟨a,b,c⟩|⟨a,b,c⟩|⟨a,b,c⟩<;>simp[placeOf, *]
structure LN (p:Pol) (t:Tab) (holder:Int) (q:List Ask):Prop where
 each:∀a∈q,a.aV=aV p a.source/\1<=a.source/\a.source<=3/\t.on a.source=true/\a.source≠holder/\a.gU.most=p.ask/\0<=a.gU.n/\a.gU.n<p.ask
 sorted:q.Pairwise λa b=>a.aV<b.aV
 len:(q.length:Int)<=p.queue
structure iP (p:Pol) (tab:Tab) (t:Tok):Prop where
 holder:0<=t.holder/\t.holder<=4
 epoch:p.epoch<=t.epoch/\t.epoch<=65535
 offer:t.offer=-1\/(1<=t.offer/\t.offer<=3/\t.offer≠t.holder/\tab.on t.offer=true/\t.oa.most=p.offer/\0<=t.oa.n/\t.oa.n<p.offer)
 lost:(t.la.most=0/\t.la.n=0)\/(t.la.most=p.cY/\0<=t.la.n/\t.la.n<p.cY)
structure zb (p:Pol) (t:Tab):Prop where
 aA:t.aA.1=true->t.aA.2.most=p.bh/\0<=t.aA.2.n/\t.aA.2.n<p.bh
 ay:∀i,i<3->(t.ay i).on=true->(t.ay i).aH.most=p.bh/\0<=(t.ay i).aH.n/\(t.ay i).aH.n<p.bh/\0<=(t.ay i).role/\(t.ay i).role<=3/\0<=(t.ay i).seen.high/\(t.ay i).seen.high<=4294967295
structure Inv (c:Core):Prop where
 p:cK c.p
 tok:iP c.p c.tab c.t
 q:LN c.p c.tab c.t.holder c.q
 tab:zb c.p c.tab
 samples:0<=c.samples/\c.samples<=4294967295
 mode:0<=c.mode/\c.mode<=4
 doors:∀i,i<3->0<=(c.doors i).many
theorem ace {n m:Int} (h:0<=n) (hm:0<=m) (hn:n<=m):0<=sat n m/\sat n m<=m:=by unfold sat;split<;>omega
theorem Inv.new {p:Pol} (h:cK p):Inv (Core.new p) where
 p:=h
 tok:=⟨by simp[Core.new,Tok.new],by simp[Core.new,Tok.new];exact h.epoch.2,.inl rfl,.inl ⟨rfl,rfl⟩⟩
 q:=⟨by simp[Core.new],by simp[Core.new],by simp[Core.new];have:=h.queue;omega⟩
 tab:=⟨by simp[Core.new,Tab.new],by simp[Core.new,Tab.new,bm.zero]⟩
 samples:=by simp[Core.new]
 mode:=h.start
 doors:=by simp[Core.new,dQ.zero]
end Sd
namespace Vx
open Go Sx
inductive V where
 |int (k:IntKind) (n:Int)
 |bool (b:Bool)
 |ptr (i off:Nat)
 |sl (i off len cap:Nat)
 |oN (i off len cap:Nat) (x:Option Addr)
 |fn (f:FuncId) (fs cs:List V)
 |CM (t:TypeId) (v:V)
 |agg (l:List V)
 |az (l:List V)
 |dC (k:IntKind) (n:Nat) (f:Nat->Int)
 |arr (k:IntKind) (n:Nat) (f:Nat->Int)
 |j8 (p:Sd.Pol) (ka:Nat->Option Addr) (kn kc:Nat->Nat)
 |rest (l:List Value)
 |fp (z n:Nat) (g:Nat->List Value)
 |pe (i o j z k:Nat)
 |raw (v:Value)
def uE (p:Sd.Pol) (ka:Nat->Option Addr) (kn kc:Nat->Nat):List Value:=(List.range 56).map λo=>bif Nat.ble 5 o&&Nat.ble o 8 then .slice (ka (o-5)) (kn (o-5)) (kc (o-5))else .int .i64 (p.i o)
mutual
def fK (n:Nat):V->Bool
 |.ptr i _=>Nat.blt i n
 |.sl i _ _ _=>Nat.blt i n
 |.oN i _ _ _ _=>Nat.blt i n
 |.pe i _ _ _ _=>Nat.blt i n
 |.fn _ a b=>cH n a&&cH n b
 |.CM _ v=>fK n v
 |.agg l=>cH n l
 |.az l=>cH n l
 |_=>true
def cH (n:Nat):List V->Bool
 |[]=>true
 |v::l=>fK n v&&cH n l
end
def cl (v:V) (d:Value):List Value:=match v with
 |.dC k n f=>(List.range n).map λj=>Value.int k (f j)
 |.arr k n f=>(List.range n).map λj=>Value.int k (f j)
 |.j8 p ka kn kc=>uE p ka kn kc
 |.rest l=>l
 |.fp z n g=>(List.range n).flatMap g
 |_=>[d]
mutual
def den (ids:List Nat):V->Value
 |.int k n=>.int k n
 |.bool b=>.bool b
 |.ptr i off=>.pointer (some ⟨ids.getD i 0,off,none⟩)
 |.sl i off n c=>.slice (some ⟨ids.getD i 0,off,none⟩) n c
 |.oN i off n c x=>.slice (bif Nat.beq n 0 then x else some ⟨ids.getD i 0,off,none⟩) n c
 |.fn f a b=>.func (.func f) (ao ids a).toArray (ao ids b).toArray
 |.CM t v=>.iface t (den ids v)
 |.agg l=>.agg (ab ids l).toArray
 |.az l=>.tuple (ao ids l).toArray
 |.dC _ _ _=>undef
 |.arr _ _ _=>undef
 |.j8 _ _ _ _=>undef
 |.rest _=>undef
 |.fp _ _ _=>undef
 |.pe i o j z k=>.pointer (some ⟨ids.getD i 0,o+(j*z+k),none⟩)
 |.raw v=>v
def ao (ids:List Nat):List V->List Value
 |[]=>[]
 |v::l=>den ids v::ao ids l
def ab (ids:List Nat):List V->List Value
 |[]=>[]
 |v::l=>cl v (den ids v)++ab ids l
end
theorem kj (ids:List Nat) (l:List V):ao ids l=l.map (den ids):=by
 induction l with
 |nil=>simp[ao]
 |cons v l ih=>simp[ao,ih]
theorem kU {ids more:List Nat} {i:Nat} (h:Nat.blt i ids.length=true):(ids++more).getD i 0=ids.getD i 0:=by
 rw[Nat.blt_eq]at h;simp[List.getD,List.getElem?_append_left h]
mutual
theorem bC {ids more:List Nat}:∀(v:V),fK ids.length v=true->den (ids++more) v=den ids v
 |.int _ _,_=>by simp[den]
 |.bool _,_=>by simp[den]
 |.ptr i _,h=>by simp only[fK]at h;simp only[den,kU h]
 |.sl i _ _ _,h=>by simp only[fK]at h;simp only[den,kU h]
 |.oN i _ _ _ _,h=>by simp only[fK]at h;simp only[den,kU h]
 |.fn _ a b,h=>by simp only[fK,Bool.and_eq_true]at h;simp only[den,dW a h.1,dW b h.2]
 |.CM _ v,h=>by simp only[fK]at h;simp only[den,bC v h]
 |.agg l,h=>by simp only[fK]at h;simp only[den,bU l h]
 |.az l,h=>by simp only[fK]at h;simp only[den,dW l h]
 |.dC _ _ _,_=>by simp[den]
 |.arr _ _ _,_=>by simp[den]
 |.j8 _ _ _ _,_=>by simp[den]
 |.rest _,_=>by simp[den]
 |.fp _ _ _,_=>by simp[den]
 |.pe i _ _ _ _,h=>by simp only[fK]at h;simp only[den,kU h]
 |.raw _,_=>by simp[den]
theorem dW {ids more:List Nat}:∀(l:List V),cH ids.length l=true->ao (ids++more) l=ao ids l
 |[],_=>by simp[ao]
 |v::l,h=>by simp only[cH,Bool.and_eq_true]at h;simp only[ao,bC v h.1,dW l h.2]
theorem bU {ids more:List Nat}:∀(l:List V),cH ids.length l=true->ab (ids++more) l=ab ids l
 |[],_=>by simp[ab]
 |v::l,h=>by
  simp only[cH,Bool.and_eq_true]at h;simp only[ab,bC v h.1,bU l h.2]
end
end Vx
