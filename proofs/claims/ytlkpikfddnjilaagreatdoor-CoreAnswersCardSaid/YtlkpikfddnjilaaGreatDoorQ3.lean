/- Part 3 of the proof. -/
import Derived.WideMake
import Derived.Test.YtlkpikfddnjilaaGreatDoorQ2
set_option linter.all false
set_option maxRecDepth 100000
set_option maxHeartbeats 4000000
namespace Sx
open Go Go.RowKit Go.BigFrame
def fi (n:Nat) (f:Nat->Int):List Value:=(List.range n).map λi=>Value.int .u8 (f i)
theorem bW (n:Nat) (f:Nat->Int):(fi n f).length=n:=by simp[fi]
theorem lh {n:Nat} (f:Nat->Int) {j:Nat} (h:j<n):(fi n f)[j]?=some (.int .u8 (f j)):=by simp[fi,h]
theorem pV {n:Nat} {f:Nat->Int}:∀v∈fi n f,v.oneCell'=true:=λv h=>by
 simp only[fi,List.mem_map]at h;obtain⟨j,_,rfl⟩:=h;rfl
theorem lj {n:Nat} {f:Nat->Int} {j:Nat} {v:Value} (h:(fi n f)[j]?=some v):j<n/\v=.int .u8 (f j):=by
 have hj:j<n:=by
  rcases Nat.lt_or_ge j n with h1|h1
  ·exact h1
  ·rw[List.getElem?_eq_none (by rw[bW];exact h1)]at h;cases h
 rw[lh f hj]at h;exact⟨hj,(Option.some.inj h).symm⟩
def cy (n:Nat) (f g:Nat->Int):Nat->Int:=λj=>bif Nat.blt j n then f j else g (j-n)
theorem MZ {a b:Nat} (h:a<b):Nat.blt a b=true:=by unfold Nat.blt;exact Nat.ble_eq_true_of_le h
theorem Yy {a b:Nat} (h:¬a<b):Nat.blt a b=false:=by
 cases hb:Nat.blt a b
 ·rfl
 ·unfold Nat.blt at hb;exact absurd (Nat.le_of_ble_eq_true hb) h
theorem aej {a b:Nat} (h:¬a<=b):Nat.ble a b=false:=by
 cases hb:Nat.ble a b
 ·rfl
 ·exact absurd (Nat.le_of_ble_eq_true hb) h
theorem yY (n m:Nat) (f g:Nat->Int):fi n f++fi m g=fi (n+m) (cy n f g):=by
 apply List.ext_getElem?;intro j;by_cases h:j<n
 ·rw[List.getElem?_append_left (by rw[bW];exact h),lh f h,lh _ (by omega)];simp[cy,MZ h]
 ·rw[List.getElem?_append_right (by rw[bW];omega),bW];by_cases h2:j<n+m
  ·rw[lh g (by omega),lh _ h2];simp[cy,Yy h]
  ·rw[List.getElem?_eq_none (by rw[bW];omega),List.getElem?_eq_none (by rw[bW];omega)]
theorem xM {n:Nat} {f g:Nat->Int} (h:∀i,i<n->f i=g i):fi n f=fi n g:=by
 unfold fi;apply List.map_congr_left;intro i hi;rw[h i (List.mem_range.1 hi)]
def iD (f:Nat->Int) (o m:Nat) (g:Nat->Int):Nat->Int:=λj=>bif Nat.ble o j&&Nat.blt j (o+m)then g (j-o)else f j
theorem rM (kd:IntKind) {n:Nat} (f:Nat->Int) {o m:Nat} (h:o+m<=n) (g:Nat->Int):((ai kd n f).toList.take o++(List.range m).map (λi=>Value.int kd (g i))++(ai kd n f).toList.drop (o+m)).toArray=ai kd n (iD f o m g):=by
 apply Array.ext';simp only[ai];apply List.ext_getElem
 ·simp;omega
 ·intro j h1 h2;simp only[List.length_append,List.length_take,List.length_map,List.length_range,List.length_drop]at h1 h2;by_cases ha:j<o
  ·rw[List.getElem_append_left (by simp;omega),List.getElem_append_left (by simp;omega)];simp[iD,aej (show¬o<=j by omega)]
  ·by_cases hb:j<o+m
   ·rw[List.getElem_append_left (by simp;omega),List.getElem_append_right (by simp;omega)];have:min o n=o:=by omega
    simp[iD,Nat.ble_eq_true_of_le (show o<=j by omega),MZ hb,this]
   ·rw[List.getElem_append_right (by simp;omega)];have:min o n=o:=by omega
    simp only[List.length_append,List.length_take,List.length_map,List.length_range,List.getElem_drop,List.getElem_map,List.getElem_range,this];have e:o+m+(j-(o+m))=j:=by omega
    simp[iD,Yy hb,e]
def fl (w:World) (b o n:Nat) (f:Nat->Int):Prop:=∀j,j<n->w.cell? ⟨b,o+j,none⟩=some (.int .u8 (f j))
theorem fl.cut {w:World} {b o n:Nat} {f:Nat->Int} (h:fl w b o n f) {m:Nat} (hm:m<=n):fl w b o m f:=λj hj=>h j (by omega)
theorem fl.drop {w:World} {b o n:Nat} {f:Nat->Int} (h:fl w b o n f) (k:Nat):fl w b (o+k) (n-k) (λj=>f (k+j)):=λj hj=>by
 rw[Nat.add_assoc];exact h (k+j) (by omega)
section
variable{ms:List Nat} {w0 w:World} {bs:List ax}
theorem St.iE (S:St ms w0 bs w) {b o n:Nat} {f:Nat->Int} (h:fl w0 b o n f) (hm:b∉ms):fl w b o n f:=λj hj=>S.aef (h j hj) hm
theorem St.dG (S:St ms w0 bs w) (i:Nat) {b N:Nat} {wr:Bool} {f:Nat->Int} {t:TypeId} {fr:Nat×Nat} (hb:bs[i]?=some ⟨b,wr,.cells (ai .u8 N f) t fr⟩:=by kernel_rfl):fl w b 0 N f:=λj hj=>by
 rw[cell_of (S.at_ i _ hb),Nat.zero_add,Hq _ f hj]
end
section
variable{P:Program} {w:World}
theorem Ju {b o n c:Nat} {f:Nat->Int} {tx e':TypeId} (h:fl w b o n f) (hk:P.underlying tx=some (.slice e'):=by kernel_rfl):Src P 1 tx (.slice (some ⟨b,o,none⟩) n c) n (fi n f) w:=
 Src.ofSlice w hk _ n c _ (by rw[bW,Nat.mul_one]) (λj u hj=>by
  obtain⟨h1,rfl⟩:=lj hj;rw[Addr.add_lit];exact h j h1) pV
theorem tX {ρ:Operand->Value} {o:Oper} {w':World} {s x:Operand} {t tx:TypeId} {sv xv v:Value} (ho:o.op=.call ⟨.builtin .copy,#[s,x],#[t,tx]⟩) (hs:ρ s=sv) (hx:ρ x=xv)
 (a_:(Builtin.copy_ #[t,tx] o.type #[sv,xv]).run P w=.ok v w'):(execOp ρ o).run P w=.ok (.value v) w':=by
 simp[execOp,ho,resolve,invoke,builtin,hs,hx,a_,Result.andThen]
end
section
variable{P:Program} {ops:Array Oper} {rest:List Oper} {o:Oper} {a:Act} {w w0:World} {ms:List Nat} {bs:List ax} {Q:Exit->Act->World->Prop}
theorem copy_ (S:St ms w0 bs w) (i:Nat) (b N off n c:Nat) (f:Nat->Int) (sb so m sc:Nat) (g:Nat->Int) {t:TypeId} {s x:Operand} {tt tx elem:TypeId} (h8:fl w sb so m g) (hm:m<=n) (hn:off+m<=N)
 (hb:bs[i]?=some ⟨b,true,.cells (ai .u8 N f) t (0,0)⟩) {bs':List ax} (h2:bs.set i ⟨b,true,.cells (ai .u8 N (iD f off m g)) t (0,0)⟩=bs')
 (k:∀w',St ms w0 bs' w'->WL P ops Q rest (a.put o.dst (.int .i64 m)) w')
 (hw:Region.wanted o (yielded ops a.tmps)=true:=by kernel_rfl) (ho:o.op=.call ⟨.builtin .copy,#[s,x],#[tt,tx]⟩:=by rfl) (hs:a.eval s=.slice (some ⟨b,off,none⟩) n c:=by kernel_rfl) (hx:a.eval x=.slice (some ⟨sb,so,none⟩) m sc:=by kernel_rfl)
 (hu:P.underlying tt=some (.slice elem):=by kernel_rfl) (hz:(P.info? elem).map (·.size)=some 1:=by kernel_rfl):WL P ops Q (o::rest) a w:=
 WL.want hw λK hK=>by
  have bD:=S.at_ i _ hb;have M0:Nat.min m n=m:=Nat.min_eq_left hm;have a_:=run_copy_row (P:=P) w tt tx o.type elem b off n c ⟨sb,so,none⟩ m sc (ai .u8 N f) t (fi m g) hu hz bD (by rw[bW,M0]) (λj v hj=>by
   obtain⟨h1,rfl⟩:=lj hj;rw[Addr.add_lit];exact h8 j h1) (by rw[bW,kF];exact hn) pV
  unfold Oper.wp;rw[tX ho hs hx a_];rw[bW];have he:(goInt m:Value)=.int .i64 m:=rfl;rw[he];refine hK _ _ (k _ ?_);have hS:=S.step hb rfl (Ch.setRow w b _) (setRow_heap w b (ai .u8 N f) ((ai .u8 N f).toList.take off++fi m g++(ai .u8 N f).toList.drop (off+m)).toArray t (0,0) bD);have e2:((ai .u8 N f).toList.take off++fi m g++(ai .u8 N f).toList.drop (off+m)).toArray=ai .u8 N (iD f off m g):=rM .u8 f hn g;rw[e2,h2]at hS;rw[e2];exact hS
end
section
variable{P:Program} {ρ:Operand->Value} {o:Oper} {w:World}
theorem M1 {t e:TypeId} {x lo:Operand} {b off n c k:Nat} {kd:IntKind} (hk:k<=n) (hc:n<=c) (Z3:Nat) (xm:Z3=(if c=k then off else off+k)) (ho:o.op=.slice t x (some lo) none none:=by rfl) (hu:P.underlying t=some (.slice e):=by kernel_rfl) (hs:(P.info? e).map (·.size)=some 1:=by kernel_rfl)
 (hx:ρ x=.slice (some ⟨b,off,none⟩) n c:=by kernel_rfl) (hh:ρ lo=.int kd ((k:Nat):Int):=by kernel_rfl):(execOp ρ o).run P w=.ok (.value (.slice (some ⟨b,Z3,none⟩) (n-k) (c-k))) w:=by
 obtain⟨i,w8,iQ⟩:=Option.map_eq_some_iff.1 hs;unfold execOp;simp only[ho,Option.map_none,Option.map_some,hx,hh];unfold Instr.sliceAt;simp only[Sem.run_bind,run_underlying hu,Result.andThen_ok];unfold Instr.slice;simp only[Sem.run_bind,run_underlying hu,Result.andThen_ok,Instr.sliceBounds,Instr.sliceBound,asIntOf,Sem.run_pure];have h1:(0:Int)<=(k:Int)/\(k:Int)<=(n:Int):=by omega
 have h3:(⟨b,off,none⟩:Addr).add k=⟨b,off+k,none⟩:=Addr.add_lit ..;by_cases hck:c=k
 ·rw[if_pos hck]at xm;simp[h1,Go.sizeOf,typeInfo,w8,iQ,hck,xm]
 ·rw[if_neg hck]at xm;simp[h1,Go.sizeOf,typeInfo,w8,iQ,hck,xm,h3]
end
end Sx
namespace Sx
open Go Go.RowKit Go.BigFrame
section
variable{P:Program} {lf l:List Oper} {sp:Nat->Sp} {a0:Act} {w:World} {i:Nat} {o:Oper}
end
section
variable{P:Program} {ops:Array Oper} {rest:List Oper} {o:Oper} {a:Act} {w:World} {Q:Exit->Act->World->Prop}
theorem TT (vk:IntKind) (n:Nat) (f:Nat->Int) (kd:IntKind) (iv:Int) {t e:TypeId} {x y:Operand} (h0:0<=iv) (h1:iv<n) (k:WL P ops Q rest (a.put o.dst (.int vk (f iv.toNat))) w) (hw:Region.wanted o (yielded ops a.tmps)=true:=by kernel_rfl)
 (ho:o.op=.index t x y:=by rfl) (hu:P.underlying t=some (.array n e):=by kernel_rfl) (hz:(P.info? e).map (·.size)=some 1:=by kernel_rfl) (ha:(P.underlying e).map iX=some false:=by kernel_rfl)
 (hx:a.eval x=.agg (ai vk n f):=by kernel_rfl) (hy:a.eval y=.int kd iv:=by kernel_rfl):WL P ops Q (o::rest) a w:=
 aa (.int vk (f iv.toNat)) k hw (by
  obtain⟨inf,hq,iQ⟩:=Option.map_eq_some_iff.1 hz;have f_:iv.toNat<n:=by omega
  have tB:(ai vk n f)[iv.toNat]?=some (.int vk (f iv.toNat)):=Hq vk f f_;unfold execOp;simp only[ho,hx,hy];unfold Instr.index;simp only[Sem.run_bind,run_underlying hu,Result.andThen_ok,asIntOf,Sem.run_pure];simp[h0,h1,Go.sizeOf,typeInfo,hq,iQ,part,gQ ha,tB])
end
end Sx
namespace Sx
open Go Go.RowKit Go.BigFrame
def cN (n:Nat) (f:Nat->Int) (c:Nat):Array Value:=(fi n f++List.replicate (c-n) (Value.int .u8 0)).toArray
theorem oJ (k:Nat):(Builtin.zeroCells #[Value.int .u8 0] k).toList=List.replicate k (Value.int .u8 0):=by
 apply List.ext_getElem
 ·simp[Builtin.zeroCells]
 ·intro i h1 h2;simp[Builtin.zeroCells,Nat.mod_one]
def dG (T:TypeId) (n:Nat) (f:Nat->Int) (x:Option Addr) (c:Nat) (bl:List ax):Prop:=
 n<=c/\((x=none/\n=0/\c=0/\bl=[])\/∃b,x=some ⟨b,0,none⟩/\bl=[⟨b,true,.cells (cN n f c) T (0,0)⟩])
theorem dG.wr {T n f x c bl} (h:dG T n f x c bl):Wr bl:=by
 rcases h.2 with⟨_,_,_,rfl⟩|⟨b,_,rfl⟩
 ·exact Wr.nil
 ·exact Wr.cons rfl Wr.nil
theorem dG.ty {T n f x c bl} (h:dG T n f x c bl):Ty [T] bl:=by
 rcases h.2 with⟨_,_,_,rfl⟩|⟨b,_,rfl⟩
 ·intro x hx;cases hx
 ·exact Ty.cons rfl Ty.nil
theorem uM (T:TypeId):dG T 0 (λ_=>0) none 0 []:=⟨Nat.le_refl _,.inl ⟨rfl,rfl,rfl,rfl⟩⟩
theorem M3 {n c:Nat} (f:Nat->Int) (h:n<=c):(cN n f c).size=c:=by simp[cN,bW];omega
section
variable{P:Program}
theorem mz {w:World} {T n c m:Nat} {f g:Nat->Int} {x:Option Addr} {bl:List ax} (hr:dG T n f x c bl) (bD:∀y∈bl,w.heap[y.id]?=some y.obj)
 {t tx ty:TypeId} {xv:Value} (hs:Src P 1 tx xv m (fi m g) w) (ht:P.underlying t=some (.slice T)) (hi:(P.info? T).map (λi=>(i.zero.map (·.cells),i.size,i.bytes))=some (some #[.int .u8 0],1,1))
 (hb:n+m<=140737488355328):
 ∃v w',(Builtin.append_ #[t,tx] ty #[.slice x n c,xv]).run P w=.ok v w'/\Ch (bl.map ax.id) w w'/\∃x' c' bl',v=.slice x' (n+m) c'/\dG T (n+m) (cy n f g) x' c' bl'/\∀y∈bl',w'.heap[y.id]?=some y.obj/\((∃u∈bl,y.id=u.id)\/w.heap.size<=y.id):=by
 obtain⟨i,aI,hi⟩:=Option.map_eq_some_iff.1 hi;simp only[Prod.mk.injEq]at hi;obtain⟨hz,iQ,Bn⟩:=hi;obtain⟨z0,Eg,Jp⟩:=Option.map_eq_some_iff.1 hz;obtain⟨Bo,jM⟩:=hr;have w9:Src P i.size tx xv m (fi m g) w:=by rw[iQ];exact hs
 have h63:n+m<=maxLen:=by unfold maxLen;omega
 by_cases jq:n+m<=c
 ·rcases Nat.eq_zero_or_pos m with yS|yS
  ·subst yS;refine⟨_,_,run_append_nothing (P:=P) w t tx ty T i ht aI x n c Bo xv w9,Ch.refl _ _,x,c,bl,rfl,⟨Bo,?_⟩,λy hy=>⟨bD y hy,.inl ⟨y,hy,rfl⟩⟩⟩;rcases jM with h|⟨b,rfl,rfl⟩
   ·exact .inl h
   ·refine .inr ⟨b,rfl,?_⟩;have e:fi (n+0) (cy n f g)=fi n f:=xM λj hj=>by simp[cy,MZ (show j<n by omega)]
    show[(⟨b,true,.cells (cN n f c) T (0,0)⟩:ax)]=[⟨b,true,.cells ((fi (n+0) (cy n f g)++List.replicate (c-(n+0)) (Value.int .u8 0)).toArray) T (0,0)⟩];rw[e];rfl
  ·rcases jM with⟨_,rfl,rfl,_⟩|⟨b,rfl,rfl⟩
   ·omega
   ·have yT:=bD _ (List.mem_singleton.2 rfl);have ng:=run_storeCells_at (P:=P) b n T (fi m g) 0 (cN n f c) w yT (by rw[M3 f Bo,bW];omega) hs.one;simp only[Nat.add_zero,bW]at ng;have a_:(Builtin.append_ #[t,tx] ty #[.slice (some ⟨b,0,none⟩) n c,xv]).run P w=.ok (.slice (some ⟨b,0,none⟩) (n+m) c) (w.setRow b ((cN n f c).toList.take n++fi m g++(cN n f c).toList.drop (n+m)).toArray):=by
     rcases w9.kind with⟨e',hk⟩|hk<;>simp[Builtin.append_,run_underlying ht,run_underlying hk,Go.sizeOf,typeInfo,aI,w9.len,jq,hs.cells,Addr.add_lit,iQ,ng,Result.andThen]
    refine⟨_,_,a_,by simpa using Ch.setRow w b _,some ⟨b,0,none⟩,c,[⟨b,true,.cells (cN (n+m) (cy n f g) c) T (0,0)⟩],rfl,⟨jq,.inr ⟨b,rfl,rfl⟩⟩,?_⟩;intro y hy;obtain rfl:=List.mem_singleton.1 hy;refine⟨?_,.inl ⟨_,List.mem_singleton.2 rfl,rfl⟩⟩;have:=setRow_heap w b (cN n f c) ((cN n f c).toList.take n++fi m g++(cN n f c).toList.drop (n+m)).toArray T (0,0) yT;rw[this];congr 2;unfold cN;congr 1;show(fi n f++_).take n++_++(fi n f++_).drop (n+m)=_;rw[List.take_left' (bW n f),<-List.drop_drop,List.drop_left' (bW n f),List.drop_replicate,<-yY];congr 2;omega
 ·have hg:c<n+m:=by omega
  have hold:(Builtin.firstCells i.size n (.slice x n c)).run P w.drew=.ok (fi n f).toArray w.drew:=by
   rcases jM with⟨rfl,rfl,rfl,_⟩|⟨b,rfl,rfl⟩
   ·exact run_firstCells_none (P:=P) w.drew i.size 0 0 0
   ·have yT:=bD _ (List.mem_singleton.2 rfl);refine run_firstCells_some (P:=P) w.drew i.size n ⟨b,0,none⟩ n c (fi n f) (by rw[bW,iQ,Nat.mul_one]) (λj v hj=>?_);obtain⟨Bp,rfl⟩:=lj hj;rw[Addr.add_lit];have:w.drew.cell? ⟨b,0+j,none⟩=w.cell? ⟨b,j,none⟩:=by simp
    rw[this,cell_of yT];simp only[cN,List.getElem?_toArray];rw[List.getElem?_append_left (by rw[bW];exact Bp),lh f Bp]
  have a_:=run_append_grow_src (P:=P) w t tx ty T i z0 ht aI Eg x n c (fi n f) hold xv m (fi m g) w9 hg (by simp only[maxLen]at h63;omega) (by rw[Bn];exact growslice_fits hg (by omega));have mj:=grownCap_ge w (n+m) c T;refine⟨_,_,a_,?_,some ⟨w.heap.size,0,none⟩,grownCap w (n+m) c T,[⟨w.heap.size,true,.cells (cN (n+m) (cy n f g) (grownCap w (n+m) c T)) T (0,0)⟩],rfl,⟨mj,.inr ⟨_,rfl,rfl⟩⟩,?_⟩
  ·exact((Ch.refl (bl.map ax.id) w).drew).trans (Ch.alloc (bl.map ax.id) w.drew _) (λx hx=>.inl hx)
  ·intro y hy;obtain rfl:=List.mem_singleton.1 hy;refine⟨?_,.inr (Nat.le_refl _)⟩;have:=heap_alloc_new w.drew (.cells ((fi n f++fi m g).toArray++Builtin.zeroCells z0.cells (grownCap w (n+m) c T-(n+m))) T);refine Eq.trans this ?_;congr 2;apply Array.ext';rw[Jp,Array.toList_append,oJ];show fi n f++fi m g++_=fi (n+m) (cy n f g)++_;rw[<-yY]
end
section
variable{P:Program} {ops:Array Oper} {rest:List Oper} {o:Oper} {a:Act} {w w0:World} {ms:List Nat} {Q:Exit->Act->World->Prop}
theorem BE {A bl R:List ax} {xs:Option Addr} {T n c m:Nat} {f g:Nat->Int} {t tx:TypeId} {s x:Operand} {xv:Value} (S:St ms w0 (A++(bl++R)) w) (hr:dG T n f xs c bl) (hs:Src P 1 tx xv m (fi m g) w) (hbd:n+m<=140737488355328)
 (k:∀x' c' bl' w',dG T (n+m) (cy n f g) x' c' bl'->St ms w0 (A++(bl'++R)) w'->WL P ops Q rest (a.put o.dst (.slice x' (n+m) c')) w')
 (ho:o.op=.call ⟨.builtin .append,#[s,x],#[t,tx]⟩:=by rfl) (hw:Region.wanted o (yielded ops a.tmps)=true:=by kernel_rfl) (ZU:a.eval s=.slice xs n c:=by kernel_rfl) (ZV:a.eval x=xv:=by kernel_rfl)
 (ht:P.underlying t=some (.slice T):=by kernel_rfl) (aI:(P.info? T).map (λi=>(i.zero.map (·.cells),i.size,i.bytes))=some (some #[.int .u8 0],1,1):=by kernel_rfl):WL P ops Q (o::rest) a w:=
 WL.want hw λK hK=>by
  obtain⟨v,w',a_,hc,x',c',bl',rfl,oG,bD⟩:=mz (P:=P) (ty:=o.type) hr (λy hy=>S.at' (by simp[hy])) hs ht aI hbd;have S2:=S.BD hr.wr hc (λy hy=>(bD y hy).1) (λy hy=>(bD y hy).2) (by
   rcases oG.2 with⟨_,_,_,rfl⟩|⟨b,_,rfl⟩<;>simp)
  unfold Oper.wp;rw[bN ho ZU ZV a_];exact hK _ _ (k x' c' bl' w' oG S2)
end
end Sx
namespace Sx
open Go Go.RowKit Go.BigFrame
def Z4 (f:Nat->Int) (k:Nat):Nat->Int:=λj=>f (k+j)
theorem pW {T n f x c bl} (h:dG T n f x c bl) (hn:0<n):∃b,n<=c/\x=some ⟨b,0,none⟩/\bl=[⟨b,true,.cells (cN n f c) T (0,0)⟩]:=by
 rcases h.2 with⟨_,h0,_,_⟩|⟨b,h1,h2⟩
 ·omega
 ·exact⟨b,h.1,h1,h2⟩
theorem St.yZ {ms:List Nat} {w0 w:World} {bs:List ax} (S:St ms w0 bs w) (i:Nat) {b n c:Nat} {wr:Bool} {f:Nat->Int} {t:TypeId} {fr:Nat×Nat} (hb:bs[i]?=some ⟨b,wr,.cells (cN n f c) t fr⟩:=by kernel_rfl):fl w b 0 n f:=λj hj=>by
 rw[cell_of (S.at_ i _ hb),Nat.zero_add];simp only[cN,List.getElem?_toArray];rw[List.getElem?_append_left (by rw[bW];exact hj),lh f hj]
end Sx
namespace Sx
open Go
end Sx
namespace Sx
open Go Go.RowKit Go.BigFrame
theorem Ch.aek (w:World) (r:Nat) (o:Obj):Ch [r] w {w with heap:=w.heap.setIfInBounds r o}:=
 ⟨rfl,rfl,rfl,by simp,λk hk hm=>by
  show(w.heap.setIfInBounds r o)[k]?=w.heap[k]?;rw[Array.getElem?_setIfInBounds_ne (λe=>hm (by simp[e]))]⟩
def nQ (kd:IntKind) (l:List (Int×Value)):Obj:=.map ((l.zipIdx.map λx=>(⟨.int kd x.1.1,x.1.2,x.2⟩:MapEntry)).toArray) l.length
theorem uN (kd:IntKind) (k:Int):∀(l:List MapEntry) (i:Nat),(∀e∈l,∃j,e.key=.int kd j/\j≠k)->Instr.findNow (.int kd) (.int kd k) l i=some none
 |[],_,_=>rfl
 |e::es,i,h=>by
  obtain⟨j,h1,h2⟩:=h e (List.Mem.head _);have:Instr.sameNow (.int kd) (.int kd k) e.key=some false:=by
   rw[h1];simp[Instr.sameNow];exact λh=>h2 h.symm
  simp[Instr.findNow,this,uN kd k es (i+1) (λx hx=>h x (List.Mem.tail _ hx))]
theorem Jv (kd:IntKind) (l:List (Int×Value)) (k:Int) (v:Value):
 Obj.map (((l.zipIdx.map λx=>(⟨.int kd x.1.1,x.1.2,x.2⟩:MapEntry)).toArray).push ⟨.int kd k,v,l.length⟩) (l.length+1)=nQ kd (l++[(k,v)]):=by
 simp[nQ,List.zipIdx_append]
theorem M4 {kd:IntKind} {l:List (Int×Value)} {k:Int} (h:l.all (λx=>x.1!=k)=true):∀e∈(l.zipIdx.map λx=>(⟨.int kd x.1.1,x.1.2,x.2⟩:MapEntry)),∃j,e.key=.int kd j/\j≠k:=by
 intro e he;obtain⟨x,hx,rfl⟩:=List.mem_map.1 he;have hm:=(List.mem_zipIdx hx);have h2:x.1∈l:=by
  obtain⟨_,_,h3⟩:=hm;rw[h3];exact List.getElem_mem _
 exact⟨x.1.1,rfl,by simpa using List.all_eq_true.1 h _ h2⟩
section
variable{P:Program} {ops:Array Oper} {rest:List Oper} {o:Oper} {a:Act} {w w0:World} {ms:List Nat} {bs:List ax} {Q:Exit->Act->World->Prop}
end
theorem ah7 (g:Nat->Int):cy 0 (λ_=>0) g=g:=by
 funext j;show(bif Nat.blt j 0 then _ else _)=_;rw[show Nat.blt j 0=false from by cases j<;>rfl];simp
theorem St.beside {ms:List Nat} {w0 w w1:World} {bs bl:List ax} (S:St ms w0 bs w) (T:St [] w bl w1) (h:Wr bl):St ms w0 (bl++bs) w1:=by
 have hq:=S.quiet T.ch;refine St.mk' hq.ch (λx hx=>?_) (λx hx hw=>?_) ?_
 ·rcases List.mem_append.1 hx with h1|h1
  ·exact T.at' h1
  ·exact hq.at' h1
 ·rcases List.mem_append.1 hx with h1|h1
  ·rcases T.pP h1 hw with h2|h2
   ·cases h2
   ·exact .inr (Nat.le_trans S.ch.size h2)
  ·exact hq.pP h1 hw
 ·rw[List.pairwise_append];refine⟨T.pw,hq.pw,λx hx y hy _ e=>?_⟩;rcases T.pP hx (h x hx)with h2|h2
  ·cases h2
  ·have:=S.ge hy;omega
theorem EC {w w1:World} (hc:Ch [] w w1) {a:Addr} {v:Value} (h:w.cell? a=some v):w1.cell? a=some v:=by
 have hb:a.block<w.heap.size:=by
  unfold World.cell? at h;split at h
  ·next h2=>exact fg h2
  ·cases h
 have h3:=hc.block _ hb (by simp);unfold World.cell? at h⊢;rw[h3];exact h
def eA (w:World) (a:Option Addr) (n c:Nat) (f:Nat->Int):Prop:=n<=c/\(a=none->n=0/\c=0)/\∀x,a=some x->∀j,j<n->w.cell? (x.add j)=some (.int .u8 (f j))
def cn (w:World) (a:Option Addr) (n c:Nat) (f:Nat->Int):Prop:=n<=1000000/\eA w a n c f
theorem eA.quiet {w w1:World} {a:Option Addr} {n c:Nat} {f:Nat->Int} (h:eA w a n c f) (hc:Ch [] w w1):eA w1 a n c f:=⟨h.1,h.2.1,λx e j hj=>EC hc (h.2.2 x e j hj)⟩
theorem cn.quiet {w w1:World} {a:Option Addr} {n c:Nat} {f:Nat->Int} (h:cn w a n c f) (hc:Ch [] w w1):cn w1 a n c f:=⟨h.1,h.2.quiet hc⟩
theorem eA.cut {w:World} {a:Option Addr} {n c m:Nat} {f:Nat->Int} (h:eA w a n c f) (hm:m<=n) (hb:m<=1000000):cn w a m c f:=
 ⟨hb,Nat.le_trans hm h.1,λe=>⟨by have:=h.2.1 e;omega,(h.2.1 e).2⟩,λx e j hj=>h.2.2 x e j (by omega)⟩
theorem y9 {P:Program} {w:World} {a:Option Addr} {n c:Nat} {f:Nat->Int} (h:cn w a n c f) {tx e':TypeId} (hk:P.underlying tx=some (.slice e'):=by kernel_rfl):Src P 1 tx (.slice a n c) n (fi n f) w:=by
 obtain⟨h1,h2,h3,h4⟩:=h;cases a with
 |none=>
  obtain⟨rfl,rfl⟩:=h3 rfl;exact Src.ofNil _ hk 0
 |some x=>exact Src.ofSlice w hk _ n c _ (by rw[bW,Nat.mul_one]) (λj u hj=>by
  obtain⟨h5,rfl⟩:=lj hj;exact h4 x rfl j h5) pV
def aY (m n:Nat):Nat:=min n m
theorem y_ (m n:Nat):(if((m:Nat):Int)<((n:Nat):Int)then((m:Nat):Int)else((n:Nat):Int))=((aY m n:Nat):Int):=by unfold aY;split<;>omega
theorem cn.isS {w:World} {a:Option Addr} {n c:Nat} {f:Nat->Int} (h:cn w a n c f) (hn:0<n):∃x,a=some x:=by
 cases a with
 |none=>have:=(h.2.2.1 rfl).1;omega
 |some x=>exact⟨x,rfl⟩
theorem cn.of8 {w:World} {b o n c:Nat} {f:Nat->Int} (h:fl w b o n f) (hn:n<=1000000) (hc:n<=c):cn w (some ⟨b,o,none⟩) n c f:=
 ⟨hn,hc,λe=>absurd e (by simp),λx e j hj=>by cases e;rw[Addr.add_lit];exact h j hj⟩
section
variable{P:Program} {ops:Array Oper} {rest:List Oper} {o o':Oper} {a:Act} {w w0:World} {ms:List Nat} {bs:List ax} {Q:Exit->Act->World->Prop}
theorem Z5 (S:St ms w0 bs w) (i:Nat) (b N off n c:Nat) (f:Nat->Int) (ka:Option Addr) (m sc:Nat) (g:Nat->Int) {t:TypeId} {s x:Operand} {tt tx elem:TypeId} (h8:cn w ka m sc g) (h1:0<m) (hm:m<=n) (hn:off+m<=N)
 (hb:bs[i]?=some ⟨b,true,.cells (ai .u8 N f) t (0,0)⟩) {bs':List ax} (h2:bs.set i ⟨b,true,.cells (ai .u8 N (iD f off m g)) t (0,0)⟩=bs')
 (k:∀w',St ms w0 bs' w'->WL P ops Q rest (a.put o.dst (.int .i64 m)) w')
 (hw:Region.wanted o (yielded ops a.tmps)=true:=by kernel_rfl) (ho:o.op=.call ⟨.builtin .copy,#[s,x],#[tt,tx]⟩:=by rfl) (hs:a.eval s=.slice (some ⟨b,off,none⟩) n c:=by kernel_rfl) (hx:a.eval x=.slice ka m sc:=by kernel_rfl)
 (hu:P.underlying tt=some (.slice elem):=by kernel_rfl) (hz:(P.info? elem).map (·.size)=some 1:=by kernel_rfl):WL P ops Q (o::rest) a w:=
 WL.want hw λK hK=>by
  obtain⟨x0,rfl⟩:=h8.isS h1;have bD:=S.at_ i _ hb;have M0:Nat.min m n=m:=Nat.min_eq_left hm;have a_:=run_copy_row (P:=P) w tt tx o.type elem b off n c x0 m sc (ai .u8 N f) t (fi m g) hu hz bD (by rw[bW,M0]) (λj v hj=>by
   obtain⟨h1,rfl⟩:=lj hj;exact h8.2.2.2 x0 rfl j h1) (by rw[bW,kF];exact hn) pV
  unfold Oper.wp;rw[tX ho hs hx a_];rw[bW];have he:(goInt m:Value)=.int .i64 m:=rfl;rw[he];refine hK _ _ (k _ ?_);have hS:=S.step hb rfl (Ch.setRow w b _) (setRow_heap w b (ai .u8 N f) ((ai .u8 N f).toList.take off++fi m g++(ai .u8 N f).toList.drop (off+m)).toArray t (0,0) bD);have e2:((ai .u8 N f).toList.take off++fi m g++(ai .u8 N f).toList.drop (off+m)).toArray=ai .u8 N (iD f off m g):=rM .u8 f hn g;rw[e2,h2]at hS;rw[e2];exact hS
theorem j_ (b o n off i:Nat) (f:Nat->Int) (h8:fl w b o n f) (hi:i<n) (he:off=o+i) {x:Operand} {ty:TypeId} (k:WL P ops Q rest (a.put o'.dst (.int .u8 (f i))) w) (hw:Region.wanted o' (yielded ops a.tmps)=true:=by kernel_rfl) (ho:o'.op=.load ty x:=by rfl) (hx:a.eval x=.pointer (some ⟨b,off,none⟩):=by kernel_rfl)
 (ha:(P.underlying ty).map iX=some false:=by kernel_rfl):WL P ops Q (o'::rest) a w:=
 aa _ k hw (by
  have:=h8 i hi;rw[<-he]at this;unfold execOp;simp only[ho,hx,Instr.loadAt,Instr.sureAddr,Sem.run_bind,Sem.run_pure,Result.andThen_ok];unfold loadVar;rw[Sem.run_bind,gQ ha];simp[load,Sem.run,this])
end
section
variable{P:Program}
theorem pZ {w:World} {T n c m:Nat} {f g:Nat->Int} {x:Option Addr} (hx:cn w x n c f)
 {t tx ty:TypeId} {xv:Value} (hs:Src P 1 tx xv m (fi m g) w) (ht:P.underlying t=some (.slice T)) (hi:(P.info? T).map (λi=>(i.zero.map (·.cells),i.size,i.bytes))=some (some #[.int .u8 0],1,1))
 (hb:n+m<=140737488355328) (hg:c<n+m):
 ∃b c' w',(Builtin.append_ #[t,tx] ty #[.slice x n c,xv]).run P w=.ok (.slice (some ⟨b,0,none⟩) (n+m) c') w'/\n+m<=c'/\Ch [] w w'/\w.heap.size<=b/\w'.heap[b]?=some (.cells (cN (n+m) (cy n f g) c') T (0,0)):=by
 obtain⟨i,aI,hi⟩:=Option.map_eq_some_iff.1 hi;simp only[Prod.mk.injEq]at hi;obtain⟨hz,iQ,Bn⟩:=hi;obtain⟨z0,Eg,Jp⟩:=Option.map_eq_some_iff.1 hz;have w9:Src P i.size tx xv m (fi m g) w:=by rw[iQ];exact hs
 have h63:n+m<=maxLen:=by unfold maxLen;omega
 have hold:(Builtin.firstCells i.size n (.slice x n c)).run P w.drew=.ok (fi n f).toArray w.drew:=by
  cases x with
  |none=>
   obtain⟨rfl,rfl⟩:=hx.2.2.1 rfl;exact run_firstCells_none (P:=P) w.drew i.size 0 0 0
  |some a=>
   refine run_firstCells_some (P:=P) w.drew i.size n a n c (fi n f) (by rw[bW,iQ,Nat.mul_one]) (λj v hj=>?_);obtain⟨Bp,rfl⟩:=lj hj;have:=hx.2.2.2 a rfl j Bp;simpa using this
 have a_:=run_append_grow_src (P:=P) w t tx ty T i z0 ht aI Eg x n c (fi n f) hold xv m (fi m g) w9 hg (by simp only[maxLen]at h63;omega) (by rw[Bn];exact growslice_fits hg (by omega));have mj:=grownCap_ge w (n+m) c T;refine⟨w.heap.size,grownCap w (n+m) c T,_,a_,mj,?_,Nat.le_refl _,?_⟩
 ·exact((Ch.refl [] w).drew).trans (Ch.alloc [] w.drew _) (λx hx=>.inl hx)
 ·have:=heap_alloc_new w.drew (.cells ((fi n f++fi m g).toArray++Builtin.zeroCells z0.cells (grownCap w (n+m) c T-(n+m))) T);refine Eq.trans this ?_;congr 2;apply Array.ext';rw[Jp,Array.toList_append,oJ];show fi n f++fi m g++_=fi (n+m) (cy n f g)++_;rw[<-yY]
end
section
variable{P:Program} {o:Oper} {ρ:Operand->Value} {w w0:World} {ms:List Nat} {bs:List ax} {R:Value->World->Prop}
theorem Y.xN {x0:Option Addr} {T n c m:Nat} {f g:Nat->Int} {t tx:TypeId} {s x:Operand} {xv:Value} (S:St ms w0 bs w) (hx0:cn w x0 n c f) (hs:Src P 1 tx xv m (fi m g) w) (hbd:n+m<=140737488355328) (hg:c<n+m)
 (k:∀b c' w',n+m<=c'->St ms w0 (⟨b,true,.cells (cN (n+m) (cy n f g) c') T (0,0)⟩::bs) w'->R (.slice (some ⟨b,0,none⟩) (n+m) c') w')
 (ho:o.op=.call ⟨.builtin .append,#[s,x],#[t,tx]⟩:=by rfl) (ZU:ρ s=.slice x0 n c:=by kernel_rfl) (ZV:ρ x=xv:=by kernel_rfl)
 (ht:P.underlying t=some (.slice T):=by kernel_rfl) (aI:(P.info? T).map (λi=>(i.zero.map (·.cells),i.size,i.bytes))=some (some #[.int .u8 0],1,1):=by kernel_rfl):Yields P o ρ w R:=by
 obtain⟨b,c',w',a_,hc,fP,hb,bD⟩:=pZ (P:=P) (ty:=o.type) hx0 hs ht aI hbd hg;unfold Yields;rw[bN ho ZU ZV a_];exact k b c' w' hc (S.new fP hb bD)
end
section
variable{P:Program} {ops:Array Oper} {rest:List Oper} {o:Oper} {a:Act} {w:World} {Q:Exit->Act->World->Prop} {ρ:Operand->Value} {R:Value->World->Prop}
theorem M5 (kd ykd:IntKind) (x y:Int) {t yt:TypeId} {xo yo:Operand} (h:0<=y) (k:WL P ops Q rest (a.put o.dst (.int kd (kd.wrap (x*2^(min y.toNat kd.bits))))) w) (hw:Region.wanted o (yielded ops a.tmps)=true:=by kernel_rfl)
 (ho:o.op=.binOp .shl t xo yo yt:=by rfl) (hx:a.eval xo=.int kd x:=by kernel_rfl) (hy:a.eval yo=.int ykd y:=by kernel_rfl):WL P ops Q (o::rest) a w:=
 aa _ k hw (by
  have hn:¬y<0:=by omega
  unfold execOp;simp[ho,hx,hy,Go.eqGuard,Go.binOp,Op.shift,hn])
theorem Y.M5 (kd ykd:IntKind) (x y:Int) {t yt:TypeId} {xo yo:Operand} (h:0<=y) (k:R (.int kd (kd.wrap (x*2^(min y.toNat kd.bits)))) w)
 (ho:o.op=.binOp .shl t xo yo yt:=by rfl) (hx:ρ xo=.int kd x:=by kernel_rfl) (hy:ρ yo=.int ykd y:=by kernel_rfl):Yields P o ρ w R:=
 Y.aa _ k (by
  have hn:¬y<0:=by omega
  unfold execOp;simp[ho,hx,hy,Go.eqGuard,Go.binOp,Op.shift,hn])
end
def rN (l:List Int):Nat->Int:=λj=>l.getD j 0
section
variable{P:Program} {ops:Array Oper} {rest:List Oper} {o:Oper} {a:Act} {w w0:World} {ms:List Nat} {bs:List ax} {Q:Exit->Act->World->Prop} {ρ:Operand->Value}
theorem TU (neg:Bool) (r:Bool) (xs ys:Array Value) {v:Value} (hv:v=.bool (bif neg then !r else r)) {t yt:TypeId} {x y:Operand} (ho:o.op=.binOp (bif neg then .neq else .eql) t x y yt:=by rfl) (hx:ρ x=.agg xs:=by kernel_rfl) (hy:ρ y=.agg ys:=by kernel_rfl) (hg:P.eqGuardType P.depth t=false:=by kernel_rfl) (he:Ys P 10000 t (.agg xs) (.agg ys)=some r:=by kernel_rfl):
 (execOp ρ o).run P w=.ok (.value v) w:=by
 rw[hv];exact Jl neg ho hx hy hg he
theorem xN {x0:Option Addr} {T n c m:Nat} {f g:Nat->Int} {t tx:TypeId} {s x:Operand} {xv:Value} (S:St ms w0 bs w) (hx0:cn w x0 n c f) (hs:Src P 1 tx xv m (fi m g) w) (hbd:n+m<=140737488355328) (hg:c<n+m)
 (k:∀b c' w',n+m<=c'->St ms w0 (⟨b,true,.cells (cN (n+m) (cy n f g) c') T (0,0)⟩::bs) w'->WL P ops Q rest (a.put o.dst (.slice (some ⟨b,0,none⟩) (n+m) c')) w')
 (hw:Region.wanted o (yielded ops a.tmps)=true:=by kernel_rfl) (ho:o.op=.call ⟨.builtin .append,#[s,x],#[t,tx]⟩:=by rfl) (ZU:a.eval s=.slice x0 n c:=by kernel_rfl) (ZV:a.eval x=xv:=by kernel_rfl)
 (ht:P.underlying t=some (.slice T):=by kernel_rfl) (aI:(P.info? T).map (λi=>(i.zero.map (·.cells),i.size,i.bytes))=some (some #[.int .u8 0],1,1):=by kernel_rfl):WL P ops Q (o::rest) a w:=
 WL.want hw λK hK=>by
  obtain⟨b,c',w',a_,hc,fP,hb,bD⟩:=pZ (P:=P) (ty:=o.type) hx0 hs ht aI hbd hg;unfold Oper.wp;rw[bN ho ZU ZV a_];exact hK _ _ (k b c' w' hc (S.new fP hb bD))
end
theorem St.up {ms:List Nat} {w0 w:World} {b:Nat} {o:Obj} {B:List ax} {L:List Nat} (S:St ms w0 (⟨b,false,o⟩::B) w) (Z6:w0.heap.size<=b) (hT:Ty L B) (hd:Yx L [tyO o]=true:=by kernel_rfl):St ms w0 (⟨b,true,o⟩::B) w:=by
 refine St.mk' S.ch (λx hx=>?_) (λx hx hw=>?_) ?_
 ·rcases List.mem_cons.1 hx with rfl|hx
  ·exact S.at' (x:=⟨b,false,o⟩) (List.Mem.head _)
  ·exact S.at' (List.Mem.tail _ hx)
 ·rcases List.mem_cons.1 hx with rfl|hx
  ·exact .inr Z6
  ·exact S.pP (List.Mem.tail _ hx) hw
 ·refine List.pairwise_cons.2 ⟨λy hy _ e=>?_,(List.pairwise_cons.1 S.pw).2⟩;have h1:=S.at' (x:=⟨b,false,o⟩) (List.Mem.head _);have h2:=S.at' (List.Mem.tail _ hy);simp only at h1 e;rw[e,h2]at h1;exact hT.ne hd y hy _ (List.Mem.head _) (congrArg tyO (Option.some.inj h1))
end Sx
namespace Sd
abbrev Byt:=Nat->Int
structure Timer where
 n:Int
 most:Int
deriving DecidableEq,Inhabited
structure Tok where
 holder:Int
 epoch:Int
 offer:Int
 oa:Timer
 la:Timer
 bad:Bool
deriving DecidableEq,Inhabited
structure Label where
 l5:Int
 source:Int
 seq:Int
deriving DecidableEq,Inhabited
structure X4 where
 a:Int
 b:Int
 c:Int
 d:Int
deriving DecidableEq,Inhabited
def X4.get (x:X4) (i:Nat):Int:=match i with|0=>x.a|1=>x.b|2=>x.c|_=>x.d
def X4.map (f:Int->Int) (x:X4):X4:=⟨f x.a,f x.b,f x.c,f x.d⟩
def X4.zip (f:Int->Int->Int) (x y:X4):X4:=⟨f x.a y.a,f x.b y.b,f x.c y.c,f x.d y.d⟩
def X4.zero:X4:=⟨0,0,0,0⟩
structure Point where
 cls:Int
 bZ:X4
 now:X4
 eo:Label
deriving DecidableEq,Inhabited
structure Rec where
 kind:Int
 source:Int
 seq:Int
 epoch:Int
 code:Int
 how:Int
deriving DecidableEq,Inhabited
structure db where
 kind:Int
 seq:Int
 role:Int
 bZ:Int
 epoch:Int
 mode:Int
 cls:Int
 now:Bool
 x:X4
deriving DecidableEq,Inhabited
structure Reply where
 kind:Int
 seq:Int:=0
 role:Int:=0
 iY:Int:=0
 epoch:Int:=0
 code:Int:=0
 ab:Byt:=λ_=>0
deriving Inhabited
structure dq where
 valid:Bool
 x:X4
 ED:Bool
deriving DecidableEq,Inhabited
structure cU where
 any:Bool
 high:Int
 seen:Int
deriving DecidableEq,Inhabited
structure Ask where
 source:Int
 aU:Int
 gu:Timer
deriving DecidableEq,Inhabited
structure dR where
 many:Int
 kz:Bool
 ab:Byt
deriving Inhabited
structure br where
 on:Bool
 aN:Timer
 role:Int
 key:Byt
 seen:cU
deriving Inhabited
structure Act where
 mode:Int
 cls:Int
 out:X4
 cA:Label
 ah1:Label
deriving DecidableEq,Inhabited
structure Pol where
 i:Nat->Int
 k:Nat->Nat×Byt
namespace Pol
def order (p:Pol) (k:Nat):Int:=p.i k
def M6 (p:Pol) (s:Nat):Int:=p.i (9+s)
def table (p:Pol) (m r:Nat):Int:=p.i (14+4*m+r)
def graph (p:Pol) (m:Nat):Int:=p.i (34+m)
def start (p:Pol):Int:=p.i 39
def safe (p:Pol):Int:=p.i 40
def lost (p:Pol):Int:=p.i 41
def bR (p:Pol):Int:=p.i 42
def cM (p:Pol):Int:=p.i 43
def offer (p:Pol):Int:=p.i 44
def ask (p:Pol):Int:=p.i 45
def oe (p:Pol):Int:=p.i 46
def beyond (p:Pol):Int:=p.i 47
def queue (p:Pol):Int:=p.i 48
def bz (p:Pol):Int:=p.i 49
def most (p:Pol) (c:Nat):Int:=p.i (50+c)
def Jw (p:Pol):Int:=p.i 54
def epoch (p:Pol):Int:=p.i 55
end Pol
end Sd
namespace Sd
def sat (n most:Int):Int:=if n<most then n+1 else most
def og (n low high:Int):Int:=if n<low then low else if high<n then high else n
def iF (now bZ eo:Int):Int:=
 if eo<1 then now
 else if now<=bZ then(if bZ-now<=eo then bZ else now+eo)
 else(if now-bZ<=eo then bZ else now-eo)
def has (set i:Int):Bool:=decide (0<=set)&&decide (0<=i)&&decide (i<=62)&&decide (set/2^i.toNat%2=1)
namespace Timer
def zero:Timer:=⟨0,0⟩
def start (most:Int):Timer:=⟨0,max most 0⟩
def step (t:Timer):Timer:={t with n:=sat t.n t.most}
def due (t:Timer):Bool:=decide (t.most<=t.n)
end Timer
def placeOf (p:Pol) (s:Int):Int:=
 if p.i 0=s then 0 else if p.i 1=s then 1 else if p.i 2=s then 2 else if p.i 3=s then 3 else if p.i 4=s then 4 else-1
def aU (p:Pol) (s:Int):Int:=placeOf p s
def b9 (p:Pol) (a b:Int):Bool:=decide (placeOf p a≠-1)&&decide (placeOf p b≠-1)&&decide (placeOf p a<placeOf p b)
def below (n bound:Int):Bool:=decide (0<=n)&&decide (n<bound)
def jW (p:Pol) (source role:Int):Bool:=below source 5&&below role 4&&has (p.M6 source.toNat) role
def may (p:Pol) (mode role cls:Int):Bool:=below mode 5&&below role 4&&below cls 4&&has (p.table mode.toNat role.toNat) cls
def goes (p:Pol) (from_ bZ:Int):Bool:=below from_ 5&&below bZ 5&&has (p.graph from_.toNat) bZ
namespace Tok
def pass (t:Tok) (bZ epoch:Int):Tok:=⟨bZ,epoch,-1,.zero,.zero,t.bad⟩
def new (p:Pol):Tok:=⟨4,p.epoch,-1,.zero,.zero,false⟩
def bA (t:Tok) (bZ:Int):Tok×Int:=
 if bZ<0\/5<=bZ then(t,1)else if bZ=t.holder then(t,25)else if 65535<=t.epoch then(t,24)
 else(t.pass bZ (t.epoch+1),0)
def dB (t:Tok):Tok:=t.pass 4 (if t.holder≠4 then sat t.epoch 65535 else t.epoch)
def bG (t:Tok):Tok:={t with offer:=-1,oa:=.zero}
def make (p:Pol) (t:Tok) (from_ bZ:Int) (there:Bool):Tok×Int:=
 if from_≠t.holder then(t,20)else if 65535<=t.epoch then(t,24)else if bZ=from_ then(t,25)
 else if bZ<1\/3<bZ\/there=false then(t,2)else if 0<=t.offer then(t,28)
 else({t with offer:=bZ,oa:=.start p.offer},0)
def accept (t:Tok) (from_ epoch:Int):Tok×Int:=
 if t.offer<0\/t.offer≠from_ then(t,28)else if epoch≠t.epoch then(t,21)else t.bA from_
def fb (t:Tok) (from_:Int):Tok×Int:=
 if t.offer<0\/t.offer≠from_ then(t,28)else(t.bG,0)
def drop (t:Tok) (source:Int):Tok×Bool:=
 if t.offer<0\/t.offer≠source then(t,false)else(t.bG,true)
def tick (t:Tok):Tok×Int:=
 if t.offer<0 then(t,-1)
 else if t.oa.step.due then(({t with oa:=t.oa.step}:Tok).bG,t.offer)
 else({t with oa:=t.oa.step},-1)
end Tok
namespace Q
def waits (l:List Ask) (s:Int):Bool:=l.any λa=>decide (a.source=s)
def insert (l:List Ask) (a:Ask):List Ask:=(l.takeWhile λx=>decide (x.aU<=a.aU))++a::(l.dropWhile λx=>decide (x.aU<=a.aU))
def push (most:Int) (l:List Ask) (a:Ask):List Ask×Int:=
 if waits l a.source then(l,27)else if most<=l.length then(l,3)else(insert l a,0)
def drop (l:List Ask) (s:Int):List Ask:=l.filter λa=>decide (a.source≠s)
def oK (l:List Ask):List Ask:=l.map λa=>{a with gu:=a.gu.step}
def gone (l:List Ask):List Ask:=(oK l).filter λa=>a.gu.due
def kept (l:List Ask):List Ask:=(oK l).filter λa=>!a.gu.due
end Q
def cC (p:Pol) (t:Tok) (most:Int) (q:List Ask) (from_:Int) (now:Bool):Tok×Int×Int×List Ask:=
 if t.bad then(t,0,29,q)else if from_=t.holder then(t,0,25,q)else if 65535<=t.epoch then(t,0,24,q)
 else if t.holder=4\/(now=true/\b9 p from_ t.holder=true)then
  (if(t.bA from_).2≠0 then(t,0,(t.bA from_).2,q)else((t.bA from_).1,3,0,Q.drop q from_))
 else if now then(t,0,26,q)
 else(t,0,(Q.push most q ⟨from_,aU p from_,.start p.ask⟩).2,(Q.push most q ⟨from_,aU p from_,.start p.ask⟩).1)
def a9 (t:Tok) (q:List Ask):Tok×Int×List Ask:=
 match q with
 |[]=>(t,2,q)
 |a::_=>if(t.bA a.source).2≠0 then(t,(t.bA a.source).2,q)else((t.bA a.source).1,0,Q.drop q a.source)
def an (t:Tok) (q:List Ask) (from_:Int):Tok×Int×List Ask:=
 if from_≠t.holder then(t,20,q)else if 65535<=t.epoch then(t,24,q)else a9 t q
def bK (p:Pol) (t:Tok) (q:List Ask) (there:Bool):Tok×Int×List Ask:=
 if t.holder=4\/there=true then({t with la:=.zero},0,q)
 else
  let la:=(if t.la.most=0 then Timer.start p.cM else t.la).step
  let t1:Tok:={t with la:=la}
  if la.due=false then(t1,0,q)
  else if 65535<=t.epoch then(t1.dB,6,q)
  else if(a9 t1 q).2.1≠0 then((t1.bA 4).1,5,(a9 t1 q).2.2)
  else((a9 t1 q).1,5,(a9 t1 q).2.2)
namespace Point
def set (p:Pol) (pt:Point) (cls:Int) (x:X4) (eo:Label):Point:=
 {pt with cls:=cls,eo:=eo,bZ:=if cls<0\/4<=cls then .zero else x.map λn=>og n (-(p.most cls.toNat)) (p.most cls.toNat)}
def hold (pt:Point) (eo:Label):Point:={pt with bZ:=.zero,eo:=eo}
def step (p:Pol) (pt:Point):Point:=
 let now:=X4.zip (λa b=>iF a b p.Jw) pt.now pt.bZ
 {pt with now:=now,eo:=if now=pt.now then pt.eo else{pt.eo with l5:=4}}
end Point
def MT (most:Int) (x:X4):Bool:=
 (decide (x.a< -most)||decide (most<x.a))||(decide (x.b< -most)||decide (most<x.b))||(decide (x.c< -most)||decide (most<x.c))||(decide (x.d< -most)||decide (most<x.d))
def oh (p:Pol) (run:Int) (s:dq):Int×Bool:=
 if s.valid=false\/MT p.beyond s.x=false then(0,false)
 else(sat (max run 0) p.oe,decide (p.oe<=sat (max run 0) p.oe))
def iR (p:Pol) (t:Tok) (source role mode:Int) (m:db):Int:=
 if m.kind≠10/\m.kind≠11 then 1 else if source≠t.holder then 20 else if m.epoch≠t.epoch then 21
 else if may p mode role (if m.kind=10 then 0 else m.cls)=false then 22
 else if m.kind=10/\goes p mode m.mode=false then 23 else 0
end Sd
namespace Sd
def iZ (k:Int):db:=⟨k,0,0,0,0,0,0,false,.zero⟩
structure Crypt where
 take:Nat->Byt->Option db
 ab:Nat×Byt->Int->Int->Byt
 right:Nat×Byt->Int->Int->Byt->Byt->Bool
 key:Nat×Byt->Int->Int->Byt->Byt
 opens:Byt->Int->Nat->Byt->Bool
 next:Byt->Rec->Byt
 oh:cU->Int->cU
structure Tab where
 aA:Bool×Timer
 az:Nat->br
def br.zero:br:=⟨false,.zero,0,λ_=>0,⟨false,0,0⟩⟩
namespace Tab
def new:Tab:=⟨(false,.zero),λ_=>.zero⟩
def fq (t:Tab) (s:Int):Bool:=decide (1<=s)&&decide (s<=3)&&(t.az (s.toNat-1)).on
def on (t:Tab) (s:Int):Bool:=if s=4 then true else if s=0 then t.aA.1 else t.fq s
def role (t:Tab) (s:Int):Int:=if t.fq s then(t.az (s.toNat-1)).role else 0
def many (t:Tab):Int:=(if(t.az 0).on then 1 else 0)+(if(t.az 1).on then 1 else 0)+(if(t.az 2).on then 1 else 0)
def eU (t:Tab) (i:Nat) (s:br):Tab:={t with az:=λj=>if j=i then s else t.az j}
def bu (p:Pol) (t:Tab) (s r:Int) (key:Byt):Tab×Int:=
 if s<1\/3<s\/r<0\/4<=r then(t,1)
 else if t.fq s=false/\p.bz<=t.many then(t,19)
 else(t.eU (s.toNat-1) ⟨true,.start p.bR,r,key,⟨false,0,0⟩⟩,0)
def take (C:Crypt) (p:Pol) (t:Tab) (s:Int) (n:Nat) (f:Byt):Tab×Except Int db:=
 if t.fq s=false then(t,.error 16)else
 if n<8\/C.opens (t.az (s.toNat-1)).key s n f=false then(t,.error 14)else
  match C.take (n-8) f with
  |none=>(t,.error 13)
  |some m=>
   if m.kind=1\/m.kind=2 then(t,.error 13)
   else if C.oh (t.az (s.toNat-1)).seen m.seq=(t.az (s.toNat-1)).seen then(t,.error 15)
   else(t.eU (s.toNat-1) {(t.az (s.toNat-1))with seen:=C.oh (t.az (s.toNat-1)).seen m.seq,on:=true,aN:=.start p.bR},.ok m)
def end_ (t:Tab) (s:Int):Tab:=if t.fq s then t.eU (s.toNat-1) .zero else t
def cV (p:Pol) (t:Tab):Tab:={t with aA:=(true,.start p.bR)}
def ft (t:Tab):Bool:=t.aA.1&&t.aA.2.step.due
def dv (t:Tab) (i:Nat):Bool:=(t.az i).on&&(t.az i).aN.step.due
def tick (t:Tab):Tab:=
 {aA:=if t.aA.1 then(if t.aA.2.step.due then(false,.zero)else(true,t.aA.2.step))else t.aA,az:=λi=>if(t.az i).on then(if(t.az i).aN.step.due then br.zero else{(t.az i)with aN:=(t.az i).aN.step})else t.az i}
def ended (t:Tab):List Int:=
 (if t.ft then[0]else[])++(if t.dv 0 then[1]else[])++(if t.dv 1 then[2]else[])++(if t.dv 2 then[3]else[])
end Tab
structure Core where
 p:Pol
 t:Tok
 q:List Ask
 doors:Nat->dR
 tab:Tab
 samples:Int
 beyond:Int
 mode:Int
 cA:Label
 pt:Point
 head:Byt
structure Scene where
 c:Core
 sent:List (Int×Reply)
 recs:List Rec
def dH:Label:=⟨2,4,0⟩
def linked (s:Int):Bool:=decide (1<=s)&&decide (s<=3)
def dR.zero:dR:=⟨0,false,λ_=>0⟩
def Core.new (p:Pol):Core:=
 ⟨p,.new p,[],λ_=>.zero,.new,0,0,p.start,dH,⟨1,.zero,.zero,dH⟩,λ_=>0⟩
def Core.act (c:Core):Act:=⟨c.mode,c.pt.cls,c.pt.now,c.cA,c.pt.eo⟩
namespace Scene
variable(C:Crypt)
def tell (s:Scene) (l:Int) (r:Reply):Scene:={s with sent:=s.sent++[(l,r)]}
def hear (s:Scene) (l:Int) (r:Reply):Scene:=if linked l&&s.c.tab.on l then s.tell l r else s
def record (s:Scene) (kind source seq code how:Int):Scene:=
 let r:Rec:=⟨kind,source,seq,s.c.t.epoch,code,how⟩
 {s with recs:=s.recs++[r],c:={s.c with head:=C.next s.c.head r}}
def refuse (s:Scene) (l n code:Int):Scene:=(s.tell l {kind:=132,seq:=n,code:=code}).record C 7 l n code 0
def cW (s:Scene) (l code:Int):Scene:=s.record C 1 l 0 code 0
def done (s:Scene) (l n:Int):Scene:=s.tell l {kind:=131,seq:=n}
def goes (s:Scene) (t:Tok) (how n:Int):Scene:=
 let a:=s.c.t.holder
 let s1:Scene:={s with c:={s.c with t:=t,q:=Q.drop s.c.q t.holder}}
 let s2:=s1.hear a {kind:=134,iY:=t.holder,epoch:=t.epoch}
 let s3:=s2.hear t.holder {kind:=133,epoch:=t.epoch}
 s3.record C 8 t.holder n 0 how
def gone (s:Scene) (l iY code:Int):Scene:=s.hear l {kind:=136,iY:=iY,code:=code}
def leave (s:Scene) (source:Int):Scene:=
 let s1:Scene:={s with c:={s.c with q:=Q.drop s.c.q source}}
 if(s1.c.t.drop source).2=false then s1
 else(({s1 with c:={s1.c with t:=(s1.c.t.drop source).1}}:Scene).gone (s1.c.t.drop source).1.holder source 16).record C 12 source 0 16 0
def dt (s:Scene) (mode:Int) (eo:Label):Scene:={s with c:={s.c with mode:=mode,cA:=eo,pt:=s.c.pt.hold eo}}
def jt (s:Scene) (l:Int) (n:Nat) (f:Byt):Scene:=
 match C.take n f with
 |none=>s.cW C l 13
 |some m=>
  if jW s.c.p l m.role=false then s.refuse C l 0 18
  else
   let d:=s.c.doors (l.toNat-1)
   if 4294967295<=d.many then s.refuse C l 0 24
   else
    let x:=C.ab (s.c.p.k 3) l (d.many+1)
    let s1:Scene:={s with c:={s.c with doors:=λj=>if j=l.toNat-1 then⟨d.many+1,true,x⟩else s.c.doors j}}
    (s1.tell l {kind:=129,ab:=x}).record C 2 l 0 0 0
def prove (s:Scene) (l:Int) (n:Nat) (f:Byt):Scene:=
 if n≠10 then s.cW C l 13
 else match C.take 2 f with
 |none=>s.cW C l 13
 |some m=>
  let d:=s.c.doors (l.toNat-1)
  if d.kz=false then s.refuse C l 0 17
  else
   let s1:Scene:={s with c:={s.c with doors:=λj=>if j=l.toNat-1 then⟨d.many,false,λ_=>0⟩else s.c.doors j}}
   if C.right (s.c.p.k (l.toNat-1)) l m.role d.ab (λj=>f (2+j))=false then s1.cW C l 14
   else if jW s.c.p l m.role=false then s1.refuse C l 0 18
   else
    let(tab,e):=Tab.bu s.c.p s.c.tab l m.role (C.key (s.c.p.k (l.toNat-1)) l m.role d.ab)
    if e≠0 then s1.refuse C l 0 e
    else
     let s2:Scene:={s1 with c:={s1.c with tab:=tab}}
     (s2.tell l {kind:=130,role:=m.role,iY:=s.c.t.holder,epoch:=s.c.t.epoch}).record C 3 l 0 0 0
def aZ (s:Scene) (t:Tok):Scene:={s with c:={s.c with t:=t}}
def Yz (s:Scene) (l:Int) (m:db):Scene:=
 ((({s with c:={s.c with tab:=s.c.tab.end_ l}}:Scene).leave C l).record C 4 l m.seq 0 0).done l m.seq
def ask (s:Scene) (l:Int) (m:db):Scene:=
 let(t,how,e,q):=cC s.c.p s.c.t s.c.p.queue s.c.q l m.now
 if e≠0 then s.refuse C l m.seq e
 else
  let s1:Scene:={s with c:={s.c with q:=q}}
  (if 0<how then s1.goes C t how m.seq else(s1.aZ t).record C 10 l m.seq 0 0).done l m.seq
def offer (s:Scene) (l:Int) (m:db):Scene:=
 let(t,e):=Tok.make s.c.p s.c.t l m.bZ (s.c.tab.on m.bZ)
 if e≠0 then s.refuse C l m.seq e
 else((((s.aZ t).hear m.bZ {kind:=135,iY:=l,epoch:=t.epoch}).record C 9 l m.seq 0 m.bZ)).done l m.seq
def accept (s:Scene) (l:Int) (m:db):Scene:=
 let(t,e):=s.c.t.accept l m.epoch
 if e≠0 then s.refuse C l m.seq e else(s.goes C t 1 m.seq).done l m.seq
def fb (s:Scene) (l:Int) (m:db):Scene:=
 let(t,e):=s.c.t.fb l
 if e≠0 then s.refuse C l m.seq e
 else((((s.aZ t).gone t.holder l 0).record C 11 l m.seq 0 0)).done l m.seq
def release (s:Scene) (l:Int) (m:db):Scene:=
 let(t,e,q):=an s.c.t s.c.q l
 if e≠0 then s.refuse C l m.seq e else(({s with c:={s.c with q:=q}}:Scene).goes C t 2 m.seq).done l m.seq
def command (s:Scene) (l:Int) (m:db):Scene:=
 let e:=iR s.c.p s.c.t l (s.c.tab.role l) s.c.mode m
 if e≠0 then s.refuse C l m.seq e
 else
  let eo:Label:=⟨1,l,m.seq⟩
  let s1:Scene:=if m.kind=10 then{s with c:={s.c with mode:=m.mode,cA:=eo}}
   else{s with c:={s.c with pt:=s.c.pt.set s.c.p m.cls m.x eo}}
  (s1.record C 6 l m.seq 0 0).done l m.seq
def uO (s:Scene) (l:Int) (m:db):Scene:=
 if m.kind=3 then s.done l m.seq else if m.kind=4 then s.Yz C l m else if m.kind=5 then s.ask C l m
 else if m.kind=6 then s.offer C l m else if m.kind=7 then s.accept C l m else if m.kind=8 then s.fb C l m
 else if m.kind=9 then s.release C l m else if m.kind=10\/m.kind=11 then s.command C l m else s
def item (s:Scene) (l code:Int) (n:Nat) (f:Byt):Scene:=
 if code≠0 then s.cW C l code
 else if 0<n/\f 0=1 then s.jt C l n f
 else if 0<n/\f 0=2 then s.prove C l n f
 else
  match s.c.tab.take C s.c.p l n f with
  |(_,.error e)=>s.cW C l e
  |(tab,.ok m)=>({s with c:={s.c with tab:=tab}}:Scene).uO C l m
def cV (s:Scene) (x:dq):Scene:=
 if x.valid=false then{s with c:={s.c with beyond:=0}}
 else
  let n:=sat s.c.samples 4294967295
  let r:=oh s.c.p s.c.beyond x
  let s1:Scene:={s with c:={s.c with samples:=n,tab:=s.c.tab.cV s.c.p,beyond:=r.1}}
  if s.c.t.holder=0/\x.ED=true then
   let(t,e,q):=an s.c.t s.c.q 0
   if e≠0 then s1.record C 7 0 n e 0 else({s1 with c:={s1.c with q:=q}}:Scene).goes C t 2 n
  else if s.c.t.holder=0 then
   let e:=iR s.c.p s.c.t 0 0 s.c.mode {iZ 11 with epoch:=s.c.t.epoch,cls:=1}
   if e≠0 then s1.record C 7 0 n e 0
   else({s1 with c:={s1.c with pt:=s1.c.pt.set s.c.p 1 x.x ⟨1,0,n⟩}}:Scene).record C 6 0 n 0 0
  else if r.2 then
   let(t,e):=s.c.t.bA 0
   if e≠0 then s1.record C 7 0 n e 0 else s1.goes C t 4 n
  else s1
def fM (s:Scene) (bad:Bool):Scene:=
 let s1:=s.aZ {s.c.t with bad:=bad}
 if bad=false then s1
 else
  let t:=s1.c.t.dB
  let s2:=if s1.c.t.holder≠4 then s1.goes C t 6 0 else s1.aZ t
  let s3:=s2.c.q.foldl (λ(s:Scene) (a:Ask)=>({s with c:={s.c with q:=Q.drop s.c.q a.source}}:Scene).gone a.source 4 29) s2
  s3.dt s3.c.p.safe dH
def cM (s:Scene):Scene:=
 let(t,how,q):=bK s.c.p s.c.t s.c.q (s.c.tab.on s.c.t.holder)
 if how<=0 then s.aZ t
 else
  let s1:=({s with c:={s.c with q:=q}}:Scene).goes C t how 0
  if how=5 then s1.dt s1.c.p.lost ⟨3,4,0⟩else s1.dt s1.c.p.safe dH
def tick (s:Scene):Scene:=
 let ael:=s.c.tab.ended
 let s0:Scene:={s with c:={s.c with tab:=s.c.tab.tick}}
 let s1:=ael.foldl (λ(s:Scene) (x:Int)=>let s:=s.record C 5 x 0 0 0;if linked x then s.leave C x else s) s0
 let(t,M7):=s1.c.t.tick
 let s2:=s1.aZ t
 let s3:=if 0<=M7 then(s2.gone t.holder M7 30).record C 12 M7 0 30 0 else s2
 let late:=Q.gone s3.c.q
 let s4:Scene:={s3 with c:={s3.c with q:=Q.kept s3.c.q}}
 let s5:=late.foldl (λ(s:Scene) (a:Ask)=>(s.gone a.source a.source 30).record C 12 a.source 0 30 0) s4
 let s6:=s5.cM C
 {s6 with c:={s6.c with pt:=s6.c.pt.step s6.c.p}}
end Scene
structure cJ (p:Pol):Prop where
 o0:p.i 0=0
 o4:p.i 4=4
 perm:(p.i 1=1/\p.i 2=2/\p.i 3=3)\/(p.i 1=1/\p.i 2=3/\p.i 3=2)\/(p.i 1=2/\p.i 2=1/\p.i 3=3)\/
  (p.i 1=2/\p.i 2=3/\p.i 3=1)\/(p.i 1=3/\p.i 2=1/\p.i 3=2)\/(p.i 1=3/\p.i 2=2/\p.i 3=1)
 start:0<=p.start/\p.start<=4
 safe:0<=p.safe/\p.safe<=4
 lost:0<=p.lost/\p.lost<=4
 bR:1<=p.bR/\p.bR<=1000
 cM:1<=p.cM/\p.cM<=1000
 offer:1<=p.offer/\p.offer<=1000
 ask:1<=p.ask/\p.ask<=1000
 oe:1<=p.oe/\p.oe<=1000
 beyond:0<=p.beyond/\p.beyond<=1000
 queue:1<=p.queue/\p.queue<=3
 bz:1<=p.bz/\p.bz<=3
 most:∀c,c<4->0<=p.most c/\p.most c<=1000
 Jw:1<=p.Jw/\p.Jw<=1000
 epoch:0<=p.epoch/\p.epoch<=65535
theorem s9 {p:Pol} (h:cJ p) (s:Int) (h0:0<=s) (h4:s<=4):0<=placeOf p s/\placeOf p s<=4:=by
 have e:s=0\/s=1\/s=2\/s=3\/s=4:=by omega
 have:=h.o0;have:=h.o4
 rcases e with rfl|rfl|rfl|rfl|rfl<;>rcases h.perm with⟨a,b,c⟩|⟨a,b,c⟩|⟨a,b,c⟩|⟨a,b,c⟩|⟨a,b,c⟩|⟨a,b,c⟩<;>simp[placeOf, *]
theorem xO {p:Pol} (h:cJ p) {s t:Int} (hs:0<=s/\s<=4) (ht:0<=t/\t<=4) (e:placeOf p s=placeOf p t):s=t:=by
 have es:s=0\/s=1\/s=2\/s=3\/s=4:=by omega
 have et:t=0\/t=1\/t=2\/t=3\/t=4:=by omega
 have:=h.o0;have:=h.o4
 rcases es with rfl|rfl|rfl|rfl|rfl<;>rcases et with rfl|rfl|rfl|rfl|rfl<;>first|rfl|(rcases h.perm with⟨a,b,c⟩|⟨a,b,c⟩|⟨a,b,c⟩|⟨a,b,c⟩|⟨a,b,c⟩|⟨a,b,c⟩<;>simp[placeOf, *]at e)
theorem Jx {p:Pol} (h:cJ p) {s t:Int} (hs:0<=s/\s<=4) (ht:0<=t/\t<=4):b9 p s t=decide (aU p s<aU p t):=by
 have a:=s9 h s hs.1 hs.2;have b:=s9 h t ht.1 ht.2;unfold b9 aU;have a':placeOf p s≠-1:=by omega
 have b':placeOf p t≠-1:=by omega
 simp[a',b']
theorem Z7 {p:Pol} (h:cJ p) {s:Int} (hs:0<=s/\s<=3):aU p s<aU p 4:=by
 have es:s=0\/s=1\/s=2\/s=3:=by omega
 have:=h.o0;have:=h.o4
 unfold aU;rcases es with rfl|rfl|rfl|rfl<;>rcases h.perm with⟨a,b,c⟩|⟨a,b,c⟩|⟨a,b,c⟩|⟨a,b,c⟩|⟨a,b,c⟩|⟨a,b,c⟩<;>simp[placeOf, *]
structure Jy (p:Pol) (t:Tab) (holder:Int) (q:List Ask):Prop where
 each:∀a∈q,a.aU=aU p a.source/\1<=a.source/\a.source<=3/\t.on a.source=true/\a.source≠holder/\a.gu.most=p.ask/\0<=a.gu.n/\a.gu.n<p.ask
 sorted:q.Pairwise λa b=>a.aU<b.aU
 len:(q.length:Int)<=p.queue
structure ig (p:Pol) (tab:Tab) (t:Tok):Prop where
 holder:0<=t.holder/\t.holder<=4
 epoch:p.epoch<=t.epoch/\t.epoch<=65535
 offer:t.offer=-1\/(1<=t.offer/\t.offer<=3/\t.offer≠t.holder/\tab.on t.offer=true/\t.oa.most=p.offer/\0<=t.oa.n/\t.oa.n<p.offer)
 lost:(t.la.most=0/\t.la.n=0)\/(t.la.most=p.cM/\0<=t.la.n/\t.la.n<p.cM)
structure xP (p:Pol) (t:Tab):Prop where
 aA:t.aA.1=true->t.aA.2.most=p.bR/\0<=t.aA.2.n/\t.aA.2.n<p.bR
 az:∀i,i<3->(t.az i).on=true->(t.az i).aN.most=p.bR/\0<=(t.az i).aN.n/\(t.az i).aN.n<p.bR/\0<=(t.az i).role/\(t.az i).role<=3/\0<=(t.az i).seen.high/\(t.az i).seen.high<=4294967295
structure Inv (c:Core):Prop where
 p:cJ c.p
 tok:ig c.p c.tab c.t
 q:Jy c.p c.tab c.t.holder c.q
 tab:xP c.p c.tab
 samples:0<=c.samples/\c.samples<=4294967295
 mode:0<=c.mode/\c.mode<=4
 doors:∀i,i<3->0<=(c.doors i).many
theorem Z8 {n m:Int} (h:0<=n) (hm:0<=m) (hn:n<=m):0<=sat n m/\sat n m<=m:=by unfold sat;split<;>omega
theorem Inv.new {p:Pol} (h:cJ p):Inv (Core.new p) where
 p:=h
 tok:=⟨by simp[Core.new,Tok.new],by simp[Core.new,Tok.new];exact h.epoch.2,.inl rfl,.inl ⟨rfl,rfl⟩⟩
 q:=⟨by simp[Core.new],by simp[Core.new],by simp[Core.new];have:=h.queue;omega⟩
 tab:=⟨by simp[Core.new,Tab.new],by simp[Core.new,Tab.new,br.zero]⟩
 samples:=by simp[Core.new]
 mode:=h.start
 doors:=by simp[Core.new,dR.zero]
end Sd
namespace Vx
open Go Sx
inductive V where
 |int (k:IntKind) (n:Int)
 |bool (b:Bool)
 |ptr (i off:Nat)
 |sl (i off len cap:Nat)
 |ij (i off len cap:Nat) (x:Option Addr)
 |fn (f:FuncId) (fs cs:List V)
 |BF (t:TypeId) (v:V)
 |agg (l:List V)
 |aC (l:List V)
 |dS (k:IntKind) (n:Nat) (f:Nat->Int)
 |arr (k:IntKind) (n:Nat) (f:Nat->Int)
 |jN (p:Sd.Pol) (ka:Nat->Option Addr) (kn kc:Nat->Nat)
 |rest (l:List Value)
 |fN (z n:Nat) (g:Nat->List Value)
 |pe (i o j z k:Nat)
 |raw (v:Value)
def tD (p:Sd.Pol) (ka:Nat->Option Addr) (kn kc:Nat->Nat):List Value:=(List.range 56).map λo=>bif Nat.ble 5 o&&Nat.ble o 8 then .slice (ka (o-5)) (kn (o-5)) (kc (o-5))else .int .i64 (p.i o)
mutual
def fu (n:Nat):V->Bool
 |.ptr i _=>Nat.blt i n
 |.sl i _ _ _=>Nat.blt i n
 |.ij i _ _ _ _=>Nat.blt i n
 |.pe i _ _ _ _=>Nat.blt i n
 |.fn _ a b=>cG n a&&cG n b
 |.BF _ v=>fu n v
 |.agg l=>cG n l
 |.aC l=>cG n l
 |_=>true
def cG (n:Nat):List V->Bool
 |[]=>true
 |v::l=>fu n v&&cG n l
end
def cl (v:V) (d:Value):List Value:=match v with
 |.dS k n f=>(List.range n).map λj=>Value.int k (f j)
 |.arr k n f=>(List.range n).map λj=>Value.int k (f j)
 |.jN p ka kn kc=>tD p ka kn kc
 |.rest l=>l
 |.fN z n g=>(List.range n).flatMap g
 |_=>[d]
mutual
def den (ids:List Nat):V->Value
 |.int k n=>.int k n
 |.bool b=>.bool b
 |.ptr i off=>.pointer (some ⟨ids.getD i 0,off,none⟩)
 |.sl i off n c=>.slice (some ⟨ids.getD i 0,off,none⟩) n c
 |.ij i off n c x=>.slice (bif Nat.beq n 0 then x else some ⟨ids.getD i 0,off,none⟩) n c
 |.fn f a b=>.func (.func f) (aq ids a).toArray (aq ids b).toArray
 |.BF t v=>.iface t (den ids v)
 |.agg l=>.agg (af ids l).toArray
 |.aC l=>.tuple (aq ids l).toArray
 |.dS _ _ _=>undef
 |.arr _ _ _=>undef
 |.jN _ _ _ _=>undef
 |.rest _=>undef
 |.fN _ _ _=>undef
 |.pe i o j z k=>.pointer (some ⟨ids.getD i 0,o+(j*z+k),none⟩)
 |.raw v=>v
def aq (ids:List Nat):List V->List Value
 |[]=>[]
 |v::l=>den ids v::aq ids l
def af (ids:List Nat):List V->List Value
 |[]=>[]
 |v::l=>cl v (den ids v)++af ids l
end
theorem jX (ids:List Nat) (l:List V):aq ids l=l.map (den ids):=by
 induction l with
 |nil=>simp[aq]
 |cons v l ih=>simp[aq,ih]
theorem kG {ids more:List Nat} {i:Nat} (h:Nat.blt i ids.length=true):(ids++more).getD i 0=ids.getD i 0:=by
 rw[Nat.blt_eq]at h;simp[List.getD,List.getElem?_append_left h]
mutual
theorem bx {ids more:List Nat}:∀(v:V),fu ids.length v=true->den (ids++more) v=den ids v
 |.int _ _,_=>by simp[den]
 |.bool _,_=>by simp[den]
 |.ptr i _,h=>by simp only[fu]at h;simp only[den,kG h]
 |.sl i _ _ _,h=>by simp only[fu]at h;simp only[den,kG h]
 |.ij i _ _ _ _,h=>by simp only[fu]at h;simp only[den,kG h]
 |.fn _ a b,h=>by simp only[fu,Bool.and_eq_true]at h;simp only[den,dI a h.1,dI b h.2]
 |.BF _ v,h=>by simp only[fu]at h;simp only[den,bx v h]
 |.agg l,h=>by simp only[fu]at h;simp only[den,bY l h]
 |.aC l,h=>by simp only[fu]at h;simp only[den,dI l h]
 |.dS _ _ _,_=>by simp[den]
 |.arr _ _ _,_=>by simp[den]
 |.jN _ _ _ _,_=>by simp[den]
 |.rest _,_=>by simp[den]
 |.fN _ _ _,_=>by simp[den]
 |.pe i _ _ _ _,h=>by simp only[fu]at h;simp only[den,kG h]
 |.raw _,_=>by simp[den]
theorem dI {ids more:List Nat}:∀(l:List V),cG ids.length l=true->aq (ids++more) l=aq ids l
 |[],_=>by simp[aq]
 |v::l,h=>by simp only[cG,Bool.and_eq_true]at h;simp only[aq,bx v h.1,dI l h.2]
theorem bY {ids more:List Nat}:∀(l:List V),cG ids.length l=true->af (ids++more) l=af ids l
 |[],_=>by simp[af]
 |v::l,h=>by
  simp only[cG,Bool.and_eq_true]at h;simp only[af,bx v h.1,bY l h.2]
end
end Vx
