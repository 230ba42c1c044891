/- Part 5 of the proof. -/
import Derived.Test.YtggfpcggakghnaaGreatDoorQ4
set_option linter.all false
set_option maxRecDepth 100000
set_option maxHeartbeats 4000000
namespace Vx
open Go Go.RowKit Go.BigFrame Sx
section
variable{ids:List Nat} {P:Program} {w w0:World} {ms:List Nat} {e:Operand->V} {ρ:Operand->Value} {bl:List VB} {R:List av}
theorem cy (b:Nat):(ids++[b]).getD ids.length 0=b:=by simp[List.getD]
theorem na {t el:TypeId} {len z:Nat} {zc c:List V} {ps:List (Nat×V)} (hu:P.underlying t=some (.slice el)) (hz:j_ P el=some (z+1)) (h0:jo P el=some zc) (hl:eL zc=z+1) (hb:len*(z+1)<=2^24)
 (hf:ug (λi=>some (i*(z+1),z+1)) (lK zc len) ps=some c):(Instr.buildSlice t len (ps.map λp=>(p.1,den ids p.2)).toArray).run P w=.ok (.slice (some ⟨w.heap.size,0,none⟩) len len) (w.alloc (.cells (ab ids c).toArray el)):=by
 have hf':=Ao (ids:=ids) (place:=λi=>some (i*(z+1),z+1)) (λi x hx=>hx) ps _ c hf;obtain⟨v0,z1,z2⟩:=jM (P:=P) (w:=w) (ids:=ids) h0;have Wh:¬(len*(z+1)>2^24):=by omega
 have hv:v0.cells.size=z+1:=by rw[<-Array.length_toList,z2,cL,hl]
 have Pw:(Array.range (len*(z+1))).map (λi=>v0.cells[i%v0.cells.size]!)=(ab ids (lK zc len)).toArray:=by
  apply Array.ext';rw[sW v0.cells z hv,z2,CU]
 by_cases Cv:len*(z+1)=0
 ·have Px:len=0:=by rcases Nat.mul_eq_zero.1 Cv with h|h;exact h;omega
  subst Px;simp only[Instr.buildSlice,Sem.run_bind,run_underlying hu,Result.andThen_ok,bu hz,if_neg Wh];simp only[lK,ab]at hf';simp only[Nat.zero_mul,if_true,Sem.run_bind,Sem.run_pure,Result.andThen_ok,List.toList_toArray,show Array.range 0=#[]from rfl,Array.map_empty];rw[hf'];rfl
 ·simp only[Instr.buildSlice,Sem.run_bind,run_underlying hu,Result.andThen_ok,bu hz,if_neg Wh,if_neg Cv,z1,Sem.run_pure,List.toList_toArray];rw[Pw,hf'];rfl
theorem Py (cx:∀x,ρ x=den ids (e x)) (o:Oper) {v:V} {b:VB} (h:CS P e ids.length o.op=some (v,b)):
 (execOp ρ o).run P w=.ok (.value (den (ids++[w.heap.size]) v)) (w.alloc (.cells (ab ids b.c).toArray b.ty.t))/\b.wr=true/\b.ty.fz=(0,0):=by
 unfold execOp;unfold CS at h;split at h
 ·rename_i t ho;split at h
  ·rename_i z hz;simp only[Option.some.injEq,Prod.mk.injEq]at h;obtain⟨rfl,rfl⟩:=h;obtain⟨v0,z1,z2⟩:=jM (P:=P) (w:=w) (ids:=ids) hz;have Eu:v0.cells=(ab ids z).toArray:=by apply Array.ext';simpa using z2
   refine⟨?_,rfl,rfl⟩;simp only[ho,Instr.alloc,Sem.run_bind,z1,Result.andThen_ok,newVar,newRow,Eu,den,cy];rfl
  ·cases h
 ·rename_i t x ho;cases hq:LR (e x)with
  |false=>rw[hq]at h;simp at h
  |true=>
   rw[hq]at h;simp only[cond_true,Option.some.injEq,Prod.mk.injEq]at h;obtain⟨rfl,rfl⟩:=h;have hc:(ρ x).cells=(ab ids (dX (e x))).toArray:=by apply Array.ext';rw[cx,vY hq]
   refine⟨?_,rfl,rfl⟩;simp only[ho,Instr.box,Sem.run_bind,newVar,newRow,hc,den,cy];rfl
 ·rename_i t len ps ho;split at h
  ·rename_i el hu;split at h
   ·rename_i z zc hz hzc;cases hq:Nat.beq (eL zc) (z+1)&&(Nat.ble (len*(z+1)) (2^24)&&!(Nat.beq len 0&&(Nat.beq z 5||Nat.beq z 13)))with
    |false=>rw[hq]at h;simp at h
    |true=>
     rw[hq]at h;simp only[cond_true]at h;simp only[Bool.and_eq_true]at hq;split at h
     ·rename_i c hc;simp only[Option.some.injEq,Prod.mk.injEq]at h;obtain⟨rfl,rfl⟩:=h;have:=na (ids:=ids) (w:=w) hu hz hzc (Nat.eq_of_beq_eq_true hq.1) (Nat.le_of_ble_eq_true hq.2.1) hc;refine⟨?_,rfl,rfl⟩;simp only[ho];rw[Sem.run_bind,show(ps.map λ(x:Nat×Operand)=>match x with|(i,x)=>(i,ρ x))=(ps.map λ(p:Nat×Operand)=>(p.1,ρ p.2))from rfl,zg ps cx,this];simp[den,cy]
     ·cases h
   ·cases h
  ·cases h
 ·cases h
theorem grow (hl:ids.length=bl.length) (S:St ms w0 (lits ids ids bl++R) w) (b:VB) (hw:b.wr=true) (hf:b.ty.fz=(0,0)) (h1:dk ids.length bl=true) (h2:cH ids.length b.c=true):
 St ms w0 (lits (ids++[w.heap.size]) (ids++[w.heap.size]) (bl++[b])++R) (w.alloc (.cells (ab ids b.c).toArray b.ty.t))/\(ids++[w.heap.size]).length=(bl++[b]).length:=by
 refine⟨?_,by simp[hl]⟩;have h:=S.new (Ch.alloc [] w (.cells (ab ids b.c).toArray b.ty.t)) (Nat.le_refl _) (heap_alloc_new w _);have e:aE (ids++[w.heap.size]) w.heap.size b=⟨w.heap.size,true,.cells (ab ids b.c).toArray b.ty.t (0,0)⟩:=by
  simp only[aE,bU _ h2,hw,hf]
 rw[aI _ _ _ _ hl,aJ _ _ h1];simp only[lits,e];refine h.perm ?_;rw[List.append_assoc];exact List.perm_middle.symm
end
def WD:List V->Option (IntKind×Nat×(Nat->Int))
 |.arr k n f::_=>some (k,n,f)
 |_=>none
def upF (f:Nat->Int) (i:Nat) (v:Int):Nat->Int:=λj=>bif Nat.beq j i then v else f j
def hdS (i:Nat) (v:Int):List V->List V
 |.arr k n f::r=>.arr k n (upF f i v)::r
 |l=>l
def Pz:List V->Option (List Bool)
 |[]=>some []
 |.bool b::l=>(match Pz l with|some r=>some (b::r)|none=>none)
 |_=>none
def aa8 (P:Program) (t:TypeId):Bool:=match P.underlying t with|some .bool=>true|_=>false
def agA (l:List Bool) (j:Nat):Bool:=l.getD j false
def Ev (P:Program) (bl:List VB) (t:TypeId) (x:V):Option (Prop×V):=match x with
 |.pe i o j z k=>(match bl[i]?with
  |some b=>(match b.c with
   |.fp z' n g::_=>(match o with
    |0=>bif Nat.beq z z' then(match m_ P t ((g j).map Eo) k with|some v=>some ((j<n/\∀j,(g j).length=z),v)|none=>none)else none
    |_=>none)
   |.rest pre::.fp z' n g::_=>bif Nat.beq z z' then(match m_ P t ((g j).map Eo) k with|some v=>some ((o=pre.length/\j<n/\∀j,(g j).length=z),v)|none=>none)else none
   |c=>(match WD c,z,k,jh P t with
    |some (kd,n,f),1,0,some false=>some (o+j<n,.int kd (f (o+j)))
    |none,1,0,some false=>(match CN c o 5 with|some l=>(match Pz l with|some r=>some (j<5,.bool (agA r j))|none=>none)|none=>none)
    |_,_,_,_=>none))
  |none=>none)
 |_=>none
def EF (P:Program) (bl:List VB) (t:TypeId) (x v:V):Prop:=VI P bl t x=some v\/∃p,Ev P bl t x=some (p,v)/\p
def hfN (P:Program) (e:Operand->V) (bl:List VB):Op->Option (Prop×V)
 |.indexAddr t x ix=>(match e x with
  |.sl i o n _=>(match bl[i]?with
   |some b=>(match b.c with
    |.fp z' _ _::_=>(match o with
     |0=>(match P.underlying t,e ix with
      |some (.slice el),.int _ m=>(match j_ P el with
       |some z=>bif Nat.beq z z' then some ((0<=m/\m<(n:Int)),.pe i 0 m.toNat z 0)else none
       |none=>none)
      |_,_=>none)
     |_=>none)
    |.rest pre::.fp z' _ _::_=>(match P.underlying t,e ix with
     |some (.slice el),.int _ m=>(match j_ P el with
      |some z=>bif Nat.beq z z' then some ((0<=m/\m<(n:Int)),.pe i o m.toNat z 0)else none
      |none=>none)
     |_,_=>none)
    |c=>(match WD c,P.underlying t,e ix with
     |some _,some (.slice el),.int _ m=>(match j_ P el with
      |some 1=>some ((0<=m/\m<(n:Int)),.pe i o m.toNat 1 0)
      |_=>none)
     |_,_,_=>none))
   |none=>none)
  |.ptr i o=>(match bl[i]?with
   |some b=>(match WD b.c,P.underlying t,e ix with
    |some _,some (.array n el),.int _ m=>(match j_ P el with
     |some 1=>some ((0<=m/\m<(n:Int)),.pe i o m.toNat 1 0)
     |_=>none)
    |none,some (.array n el),.int _ m=>bif Nat.beq n 5&&aa8 P el then(match j_ P el with
     |some 1=>some ((0<=m/\m<(n:Int)),.pe i o m.toNat 1 0)
     |_=>none)else none
    |_,_,_=>none)
   |none=>none)
  |.oN i o n _ _=>(match bl[i]?with
   |some b=>(match b.c with
    |.fp z' _ _::_=>(match o with
     |0=>(match P.underlying t,e ix with
      |some (.slice el),.int _ m=>(match j_ P el with
       |some z=>bif Nat.beq z z' then some ((0<=m/\m<(n:Int)),.pe i 0 m.toNat z 0)else none
       |none=>none)
      |_,_=>none)
     |_=>none)
    |.rest pre::.fp z' _ _::_=>(match P.underlying t,e ix with
     |some (.slice el),.int _ m=>(match j_ P el with
      |some z=>bif Nat.beq z z' then some ((0<=m/\m<(n:Int)),.pe i o m.toNat z 0)else none
      |none=>none)
     |_,_=>none)
    |_=>none)
   |none=>none)
  |_=>none)
 |.slice t x none (some hi) none=>(match e x with
  |.sl i o n c=>(match bl[i]?with
   |some b=>(match b.c with
    |.fp z' _ _::_=>(match o with
     |0=>(match P.underlying t,e hi with
      |some (.slice el),.int _ m=>(match j_ P el with
       |some z=>some ((0<=m/\m<=(c:Int)),.sl i 0 m.toNat c)
       |none=>none)
      |_,_=>none)
     |_=>none)
    |.rest pre::.fp z' _ _::_=>(match P.underlying t,e hi with
     |some (.slice el),.int _ m=>(match j_ P el with
      |some z=>some ((0<=m/\m<=(c:Int)),.sl i o m.toNat c)
      |none=>none)
     |_,_=>none)
    |_=>none)
   |none=>none)
  |.raw (.slice a n c)=>(match P.underlying t,e hi with
   |some (.slice el),.int _ m=>(match j_ P el with
    |some z=>some ((0<=m/\m<=(c:Int)),.raw (.slice a m.toNat c))
    |none=>none)
   |_,_=>none)
  |_=>none)
 |.index t x ix=>(match P.underlying t,e x,e ix with
  |some (.array n el),.agg l,.int _ m=>(match WD l,j_ P el,jh P el with
   |some (kd,N,f),some 1,some false=>some (((0<=m/\m<(n:Int))/\m.toNat<N),.int kd (f m.toNat))
   |_,_,_=>none)
  |_,_,_=>none)
 |.slice t x (some lo) none none=>(match e x,P.underlying t,e lo with
  |.raw (.slice (some ⟨b,q,none⟩) n c),some (.slice el),.int _ (.ofNat k)=>(match j_ P el with
   |some 1=>some ((k<n/\n<=c),.raw (.slice (some ⟨b,q+k,none⟩) (n-k) (c-k)))
   |_=>none)
  |_,_,_=>none)
 |_=>none
def hfS (P:Program) (bl:List VB) (t:TypeId) (x y:V):Option (Prop×List VB):=match x,y with
 |.pe i o j 1 0,.int kd' v=>(match bl[i]?with
  |some ⟨true,⟨ty,(0,0)⟩,c⟩=>(match WD c,jh P t,j_ P t with
   |some (kd,n,f),some false,some 1=>(match decEq kd kd' with
    |isTrue _=>some (o+j<n,bl.set i ⟨true,⟨ty,(0,0)⟩,hdS (o+j) v c⟩)
    |isFalse _=>none)
   |_,_,_=>none)
  |_=>none)
 |.pe i o j 1 0,.bool b=>(match stV P bl t (.ptr i (o+j)) (.bool b)with|some bl'=>some (True,bl')|none=>none)
 |_,_=>none
section
variable{ids:List Nat} {P:Program} {w w0:World} {ms:List Nat} {e:Operand->V} {ρ:Operand->Value} {bl:List VB} {R:List av}
theorem FT {k:IntKind} {n q:Nat} {f:Nat->Int} {v:Int} {r:List Value} (h:q<n):((((List.range n).map λj=>Value.int k (f j))++r).take q++[.int k v])++(((List.range n).map λj=>Value.int k (f j))++r).drop (q+1)=((List.range n).map λj=>Value.int k (upF f q v j))++r:=by
 have e:=List.set_eq_take_append_cons_drop (l:=((List.range n).map λj=>Value.int k (f j))++r) (i:=q) (a:=.int k v);rw[if_pos (by simp;omega)]at e;rw[List.append_assoc,List.singleton_append,<-e,List.set_append_left _ _ (by simpa using h)];congr 1;apply List.ext_getElem?;intro i;rw[List.getElem?_set];by_cases hi:q=i
 ·subst hi;simp[h,upF]
 ·rw[if_neg hi];simp only[List.getElem?_map];cases hr:(List.range n)[i]?with
  |none=>rfl
  |some y=>
   obtain rfl:y=i:=by
    rcases Nat.lt_or_ge i n with h1|h1
    ·rw[List.getElem?_range h1]at hr;exact(Option.some.inj hr).symm
    ·rw[List.getElem?_eq_none (by simpa using h1)]at hr;cases hr
   have hb:Nat.beq y q=false:=by
    cases hb:Nat.beq y q with
    |false=>rfl
    |true=>exact absurd (Nat.eq_of_beq_eq_true hb).symm hi
   simp only[Option.map_some,upF,hb,cond_false]
theorem I8 {l:List V} {k:IntKind} {n:Nat} {f:Nat->Int} (h:WD l=some (k,n,f)) (ids:List Nat):ab ids l=((List.range n).map λj=>Value.int k (f j))++ab ids (l.drop 1):=by
 unfold WD at h;split at h
 ·simp only[Option.some.injEq,Prod.mk.injEq]at h;obtain⟨rfl,rfl,rfl⟩:=h;simp only[ab,cl,List.drop_succ_cons,List.drop_zero]
 ·cases h
theorem At:∀{l:List V} {r:List Bool},Pz l=some r->∀ids,ab ids l=r.map Value.bool
 |[],r,h,ids=>by simp only[Pz,Option.some.injEq]at h;subst h;rfl
 |v::l,r,h,ids=>by
  unfold Pz at h;split at h
  ·rename_i e;cases e
  ·rename_i b l' e;cases e;split at h
   ·rename_i r' hr;simp only[Option.some.injEq]at h;subst h;simp only[ab,cl,den,At hr ids,List.map_cons,List.cons_append,List.nil_append]
   ·cases h
  ·cases h
theorem CV {bl ex:List VB} {i:Nat} {b:VB} (h:bl[i]?=some b):(bl++ex)[i]?=some b:=by
 have hi:i<bl.length:=by rcases Nat.lt_or_ge i bl.length with h'|h';exact h';simp[h']at h
 rw[List.getElem?_append_left hi,h]
theorem WE {t:TypeId} {x:V} {p:Prop} {v:V} {ex:List VB} (h:Ev P bl t x=some (p,v)):Ev P (bl++ex) t x=some (p,v):=by
 unfold Ev at h⊢;split at h
 ·split at h
  ·rename_i hb;rw[CV hb];exact h
  ·cases h
 ·cases h
theorem PA {z:Nat} (g:Nat->List Value) (hz:∀j,(g j).length=z):∀(n j:Nat),j<n->(((List.range n).flatMap g).drop (j*z)).take z=g j:=by
 intro n;induction n with
 |zero=>intro j h;omega
 |succ n ih=>
  intro j h;have hl:((List.range n).flatMap g).length=n*z:=by
   clear ih h;induction n with
   |zero=>simp
   |succ n ih=>rw[List.range_succ,List.flatMap_append,List.length_append,ih];simp[hz,Nat.add_mul]
  rw[List.range_succ,List.flatMap_append];rcases Nat.lt_or_ge j n with h1|h1
  ·have h2:j*z+z<=n*z:=by rw[<-Nat.succ_mul];exact Nat.mul_le_mul_right z h1
   rw[List.drop_append_of_le_length (by omega),List.take_append_of_le_length (by rw[List.length_drop];omega)];exact ih j h1
  ·obtain rfl:j=n:=by omega
   rw[List.drop_append,List.drop_eq_nil_of_le (by omega),hl,Nat.sub_self];simp only[List.nil_append,List.flatMap_cons,List.flatMap_nil,List.append_nil,List.drop_zero];exact List.take_of_length_le (Nat.le_of_eq (hz j))
theorem CW {z n j k m:Nat} {g:Nat->List Value} {r:List Value} (hz:∀j,(g j).length=z) (hj:j<n) (hk:k+m<=z):((((List.range n).flatMap g)++r).drop (j*z+k)).take m=((g j).drop k).take m:=by
 have h1:=PA g hz n j hj;have hl:((List.range n).flatMap g).length=n*z:=by
  clear h1 hj;induction n with
  |zero=>simp
  |succ n ih=>rw[List.range_succ,List.flatMap_append,List.length_append,ih];simp[hz,Nat.add_mul]
 have h2:j*z+z<=n*z:=by rw[<-Nat.succ_mul];exact Nat.mul_le_mul_right z hj
 rw[<-h1];apply List.ext_getElem?;intro i;simp only[List.getElem?_take,List.getElem?_drop];split
 ·rename_i hi;rw[if_pos (by omega),List.getElem?_append_left (by omega),Nat.add_assoc]
 ·rfl
theorem CX {α:Type} (pre l:List α) (i:Nat):(pre++l).drop (pre.length+i)=l.drop i:=by
 rw[List.drop_append,List.drop_eq_nil_of_le (by omega)];simp
theorem CY (hl:ids.length=bl.length) (S:St ms w0 (lits ids ids bl++R) w) {t:TypeId} {u:V} {i o j z k n:Nat} {g:Nat->List Value} {pre r:List Value} {b:VB} (hb:bl[i]?=some b) (hD:ab ids b.c=pre++(((List.range n).flatMap g)++r)) (ho:o=pre.length) (hu:m_ P t ((g j).map Eo) k=some u) (hj:j<n) (hz:∀j,(g j).length=z):
 (Instr.loadAt t (den ids (.pe i o j z k))).run P w=.ok (den ids u) w:=by
 subst ho;have ba:=(cA hl S hb).2;rw[hD]at ba;have hg:ab ids ((g j).map Eo)=g j:=qy (g j);unfold m_ at hu;simp only[Instr.loadAt,den,Instr.sureAddr,Sem.run_bind,Sem.run_pure,Result.andThen_ok];split at hu
 ·rename_i m ha hn;split at hu
  ·rename_i c OG;simp only[Option.some.injEq]at hu;subst hu;obtain⟨g1,g2,g3⟩:=km (ids:=ids) OG;rw[hg]at g1 g3;rw[hz]at g3;refine kM (n:=m) ba ?_ ?_ ?_ ?_
   ·unfold jh at ha;split at ha
    ·rename_i d hd;rw[hd];simpa using ha
    ·cases ha
   ·unfold j_ at hn;split at hn
    ·rename_i d hd;rw[hd];simpa using hn
    ·cases hn
   ·apply Array.ext';have:=CW (r:=r) (n:=n) hz hj g3;simp only[Array.toList_extract,List.extract];rw[show pre.length+(j*z+k)+m-(pre.length+(j*z+k))=m by omega,CX,this,g1]
   ·simpa using g2
  ·cases hu
 ·rename_i ha;have h1:=Am (ids:=ids) hu;rw[hg]at h1;have hkz:k<z:=by
   rcases Nat.lt_or_ge k z with h|h
   ·exact h
   ·rw[List.getElem?_eq_none (by rw[hz];exact h)]at h1;cases h1
  have h2:=CW (r:=r) (n:=n) (j:=j) (k:=k) (m:=1) hz hj (by omega);have h3:(pre++((List.flatMap g (List.range n))++r))[pre.length+(j*z+k)]?=(g j)[k]?:=by
   rw[<-CX pre]at h2;have:=congrArg (λl=>l[0]?) h2;simp only[List.getElem?_take,List.getElem?_drop,Nat.add_zero]at this;simpa using this
  refine jF ba ?_ (by rw[List.getElem?_toArray,h3,h1]);unfold jh at ha;split at ha
  ·rename_i d hd;rw[hd];simpa using ha
  ·cases ha
 ·cases hu
theorem PB (hl:ids.length=bl.length) (S:St ms w0 (lits ids ids bl++R) w) {t:TypeId} {x v:V} {p:Prop} (h:Ev P bl t x=some (p,v)) (hp:p):(Instr.loadAt t (den ids x)).run P w=.ok (den ids v) w:=by
 unfold Ev at h;split at h
 ·rename_i i o j z k;split at h
  ·rename_i b hb;split at h
   ·rename_i z' n g r hc;split at h
    ·cases hq:Nat.beq z z' with
     |false=>rw[hq]at h;simp at h
     |true=>
      rw[hq]at h;simp only[cond_true]at h;split at h
      ·rename_i u hu;simp only[Option.some.injEq,Prod.mk.injEq]at h;obtain⟨rfl,rfl⟩:=h;exact CY hl S (pre:=[]) hb (by rw[hc];simp only[ab,cl,List.nil_append];rfl) rfl hu hp.1 hp.2
      ·cases h
    ·cases h
   ·rename_i pre z' n g r hc;cases hq:Nat.beq z z' with
    |false=>rw[hq]at h;simp at h
    |true=>
     rw[hq]at h;simp only[cond_true]at h;split at h
     ·rename_i u hu;simp only[Option.some.injEq,Prod.mk.injEq]at h;obtain⟨rfl,rfl⟩:=h;exact CY hl S (pre:=pre) hb (by rw[hc];simp only[ab,cl];rfl) hp.1 hu hp.2.1 hp.2.2
     ·cases h
   ·split at h
    ·rename_i kd n f hA uG;simp only[Option.some.injEq,Prod.mk.injEq]at h;obtain⟨rfl,rfl⟩:=h;have ba:=(cA hl S hb).2;simp only[Instr.loadAt,den,Instr.sureAddr,Sem.run_bind,Sem.run_pure,Result.andThen_ok];refine jF ba ?_ ?_
     ·unfold jh at uG;split at uG
      ·rename_i d hd;rw[hd];simpa using uG
      ·cases uG
     ·rw[List.getElem?_toArray,I8 hA ids,show o+(j*1+0)=o+j by omega,List.getElem?_append_left (by simpa using hp)];simp[List.getElem?_range hp]
    ·rename_i hA uG;split at h
     ·rename_i l hg;split at h
      ·rename_i r hr;simp only[Option.some.injEq,Prod.mk.injEq]at h;obtain⟨rfl,rfl⟩:=h;have ba:=(cA hl S hb).2;obtain⟨g1,g2,g3⟩:=km (ids:=ids) hg;rw[At hr]at g1;have hr5:r.length=5:=by have:=g2;rw[At hr]at this;simpa using this
       simp only[Instr.loadAt,den,Instr.sureAddr,Sem.run_bind,Sem.run_pure,Result.andThen_ok];refine jF ba ?_ ?_
       ·unfold jh at uG;split at uG
        ·rename_i d hd;rw[hd];simpa using uG
        ·cases uG
       ·have h1:=congrArg (λl=>l[j]?) g1;simp only[List.getElem?_take,List.getElem?_drop,if_pos hp,List.getElem?_map]at h1;rw[List.getElem?_toArray,show o+(j*1+0)=o+j by omega,h1,List.getElem?_eq_getElem (by omega)];simp[agA,List.getD,List.getElem?_eq_getElem (show j<r.length by omega)]
      ·cases h
     ·cases h
    ·cases h
  ·cases h
 ·cases h
theorem EF.run (hl:ids.length=bl.length) (S:St ms w0 (lits ids ids bl++R) w) {t:TypeId} {x v:V} (h:EF P bl t x v):(Instr.loadAt t (den ids x)).run P w=.ok (den ids v) w:=by
 rcases h with h|⟨p,h,hp⟩
 ·exact As (P:=P) hl S h
 ·exact PB hl S h hp
theorem PC (cx:∀x,ρ x=den ids (e x)) (o:Oper) {p:Prop} {v:V} (h:hfN P e bl o.op=some (p,v)) (hp:p):(execOp ρ o).run P w=.ok (.value (den ids v)) w:=by
 generalize uh:o.op=op at h;unfold hfN at h;split at h
 ·rename_i t x ix;split at h
  ·rename_i i o n c hx;split at h
   ·rename_i b hb;split at h
    ·rename_i z' n' g r hc;split at h
     ·split at h
      ·rename_i el kk m hu sV;split at h
       ·rename_i z hz;cases hq:Nat.beq z z' with
        |false=>rw[hq]at h;simp at h
        |true=>
         rw[hq]at h;simp only[cond_true,Option.some.injEq,Prod.mk.injEq]at h;obtain⟨rfl,rfl⟩:=h;unfold execOp;simp only[uh,cx,hx,sV,den,Instr.indexAt,asIntOf,Instr.sureAddr,Sem.run_bind,Sem.run_pure,Result.andThen_ok,run_underlying hu];rw[if_pos hp];simp[Sem.run_bind,bu hz,fO]
       ·cases h
      ·cases h
     ·cases h
    ·rename_i pre z' n' g r hc;split at h
     ·rename_i el kk m hu sV;split at h
      ·rename_i z hz;cases hq:Nat.beq z z' with
       |false=>rw[hq]at h;simp at h
       |true=>
        rw[hq]at h;simp only[cond_true,Option.some.injEq,Prod.mk.injEq]at h;obtain⟨rfl,rfl⟩:=h;unfold execOp;simp only[uh,cx,hx,sV,den,Instr.indexAt,asIntOf,Instr.sureAddr,Sem.run_bind,Sem.run_pure,Result.andThen_ok,run_underlying hu];rw[if_pos hp];simp[Sem.run_bind,bu hz,fO]
      ·cases h
     ·cases h
    ·split at h
     ·rename_i el kk m hA hu sV;split at h
      ·rename_i hz;simp only[Option.some.injEq,Prod.mk.injEq]at h;obtain⟨rfl,rfl⟩:=h;unfold execOp;simp only[uh,cx,hx,sV,den,Instr.indexAt,asIntOf,Instr.sureAddr,Sem.run_bind,Sem.run_pure,Result.andThen_ok,run_underlying hu];rw[if_pos hp];simp[Sem.run_bind,bu hz,fO]
      ·cases h
     ·cases h
   ·cases h
  ·rename_i i o hx;split at h
   ·rename_i b hb;split at h
    ·rename_i n el kk m hA hu sV;split at h
     ·rename_i hz;simp only[Option.some.injEq,Prod.mk.injEq]at h;obtain⟨rfl,rfl⟩:=h;unfold execOp;simp only[uh,cx,hx,sV,den,Instr.indexAt,asIntOf,Instr.sureAddr,Sem.run_bind,Sem.run_pure,Result.andThen_ok,run_underlying hu];rw[if_pos hp];simp[Sem.run_bind,bu hz,fO]
     ·cases h
    ·rename_i n el kk m hA hu sV;cases hq:Nat.beq n 5&&aa8 P el with
     |false=>rw[hq]at h;simp at h
     |true=>
      rw[hq]at h;simp only[cond_true]at h;split at h
      ·rename_i hz;simp only[Option.some.injEq,Prod.mk.injEq]at h;obtain⟨rfl,rfl⟩:=h;unfold execOp;simp only[uh,cx,hx,sV,den,Instr.indexAt,asIntOf,Instr.sureAddr,Sem.run_bind,Sem.run_pure,Result.andThen_ok,run_underlying hu];rw[if_pos hp];simp[Sem.run_bind,bu hz,fO]
      ·cases h
    ·cases h
   ·cases h
  ·rename_i i o n c y hx;split at h
   ·rename_i b hb;split at h
    ·rename_i z' n' g r hc;split at h
     ·split at h
      ·rename_i el kk m hu sV;split at h
       ·rename_i z hz;cases hq:Nat.beq z z' with
        |false=>rw[hq]at h;simp at h
        |true=>
         rw[hq]at h;simp only[cond_true,Option.some.injEq,Prod.mk.injEq]at h;obtain⟨rfl,rfl⟩:=h;have hn0:Nat.beq n 0=false:=by
          cases WG:Nat.beq n 0 with
          |false=>rfl
          |true=>exact absurd (Nat.eq_of_beq_eq_true WG) (by omega)
         unfold execOp;simp only[uh,cx,hx,sV,den,hn0,cond_false,Instr.indexAt,asIntOf,Instr.sureAddr,Sem.run_bind,Sem.run_pure,Result.andThen_ok,run_underlying hu];rw[if_pos hp];simp[Sem.run_bind,bu hz,fO]
       ·cases h
      ·cases h
     ·cases h
    ·rename_i pre z' n' g r hc;split at h
     ·rename_i el kk m hu sV;split at h
      ·rename_i z hz;cases hq:Nat.beq z z' with
       |false=>rw[hq]at h;simp at h
       |true=>
        rw[hq]at h;simp only[cond_true,Option.some.injEq,Prod.mk.injEq]at h;obtain⟨rfl,rfl⟩:=h;have hn0:Nat.beq n 0=false:=by
         cases WG:Nat.beq n 0 with
         |false=>rfl
         |true=>exact absurd (Nat.eq_of_beq_eq_true WG) (by omega)
        unfold execOp;simp only[uh,cx,hx,sV,den,hn0,cond_false,Instr.indexAt,asIntOf,Instr.sureAddr,Sem.run_bind,Sem.run_pure,Result.andThen_ok,run_underlying hu];rw[if_pos hp];simp[Sem.run_bind,bu hz,fO]
      ·cases h
     ·cases h
    ·cases h
   ·cases h
  ·cases h
 ·rename_i t x hi;split at h
  ·rename_i i o n c hx;split at h
   ·rename_i b hb;split at h
    ·rename_i z' n' g r hc;split at h
     ·split at h
      ·rename_i el kk m hu sV;split at h
       ·rename_i z hz;simp only[Option.some.injEq,Prod.mk.injEq]at h;obtain⟨rfl,rfl⟩:=h;have va:∀code,(Instr.sliceBound (.int kk m) c code).run P w=.ok m.toNat w:=by
         intro code;simp only[Instr.sliceBound,asIntOf,Sem.run_bind,Sem.run_pure,Result.andThen_ok];rw[if_pos hp];rfl
        have hs:=bu (P:=P) (w:=w) hz;unfold execOp;simp[uh,cx,hx,sV,den,Instr.sliceAt,Instr.slice,Instr.sliceBounds,run_underlying hu,va,hs,Result.andThen,Addr.add]
       ·cases h
      ·cases h
     ·cases h
    ·rename_i pre z' n' g r hc;split at h
     ·rename_i el kk m hu sV;split at h
      ·rename_i z hz;simp only[Option.some.injEq,Prod.mk.injEq]at h;obtain⟨rfl,rfl⟩:=h;have va:∀code,(Instr.sliceBound (.int kk m) c code).run P w=.ok m.toNat w:=by
        intro code;simp only[Instr.sliceBound,asIntOf,Sem.run_bind,Sem.run_pure,Result.andThen_ok];rw[if_pos hp];rfl
       have hs:=bu (P:=P) (w:=w) hz;unfold execOp;simp[uh,cx,hx,sV,den,Instr.sliceAt,Instr.slice,Instr.sliceBounds,run_underlying hu,va,hs,Result.andThen,Addr.add]
      ·cases h
     ·cases h
    ·cases h
   ·cases h
  ·rename_i a n c hx;split at h
   ·rename_i el kk m hu sV;split at h
    ·rename_i z hz;simp only[Option.some.injEq,Prod.mk.injEq]at h;obtain⟨rfl,rfl⟩:=h;have va:∀code,(Instr.sliceBound (.int kk m) c code).run P w=.ok m.toNat w:=by
      intro code;simp only[Instr.sliceBound,asIntOf,Sem.run_bind,Sem.run_pure,Result.andThen_ok];rw[if_pos hp];rfl
     have hs:=bu (P:=P) (w:=w) hz;unfold execOp;cases a<;>simp[uh,cx,hx,sV,den,Instr.sliceAt,Instr.slice,Instr.sliceBounds,run_underlying hu,va,hs,Result.andThen,Addr.add]
    ·cases h
   ·cases h
  ·cases h
 ·rename_i t x ix;split at h
  ·rename_i n el l kk m hu hx sV;split at h
   ·rename_i kd N f hA hz uG;simp only[Option.some.injEq,Prod.mk.injEq]at h;obtain⟨rfl,rfl⟩:=h;unfold execOp;simp only[uh,cx,hx,sV,den,Instr.index,asIntOf,Sem.run_bind,Sem.run_pure,Result.andThen_ok,run_underlying hu];rw[if_pos hp.1];have hg:oz l m.toNat=some (.int kd (f m.toNat)):=by
     unfold WD at hA;split at hA
     ·rename_i k2 n2 f2 r;cases hA;have:Nat.ble N m.toNat=false:=by
       cases hb:Nat.ble N m.toNat with
       |false=>rfl
       |true=>exact absurd (Nat.le_of_ble_eq_true hb) (by have:=hp.2;omega)
      simp only[oz,this,cond_false]
     ·cases hA
    have:=Ap (ids:=ids) (w:=w) (t:=el) (l:=l) (off:=m.toNat*1) (v:=.int kd (f m.toNat)) (by unfold m_;rw[uG];simpa using hg);simp[Sem.run_bind,bu hz]at this⊢;rw[this];rfl
   ·cases h
  ·cases h
 ·rename_i t x lo;split at h
  ·rename_i b q n c el kd k hx hu hlo;split at h
   ·rename_i hz;simp only[Option.some.injEq,Prod.mk.injEq]at h;obtain⟨rfl,rfl⟩:=h;have hs:(P.info? el).map (·.size)=some 1:=by
     unfold j_ at hz;split at hz
     ·rename_i inf hi;rw[hi];exact hz
     ·cases hz
    exact Pc (o:=o) (w:=w) (k:=k) (kd:=kd) (by omega) hp.2 (q+k) (by rw[if_neg (by omega)]) uh hu hs (by rw[cx,hx];rfl) (by rw[cx,hlo];rfl)
   ·cases h
  ·cases h
 ·cases h
theorem aco (hl:ids.length=bl.length) (S:St ms w0 (lits ids ids bl++R) w) {t:TypeId} {x y:V} {p:Prop} {bl':List VB} (h:hfS P bl t x y=some (p,bl')) (hp:p):
 ∃w',(Instr.storeAt t (den ids x) (den ids y)).run P w=.ok () w'/\St ms w0 (lits ids ids bl'++R) w'/\ids.length=bl'.length:=by
 unfold hfS at h;split at h
 ·rename_i i o j kd' v;split at h
  ·rename_i ty c hb;split at h
   ·rename_i kd n f hA uG hz;split at h
    ·rename_i hk _;subst hk;simp only[Option.some.injEq,Prod.mk.injEq]at h;obtain⟨rfl,rfl⟩:=h;obtain⟨hi,ba⟩:=cA hl S hb;have hc:=I8 hA ids;have aY:=ly (P:=P) (off:=o+(j*1+0)) (v:=.int kd v) (vs:=[.int kd v]) (ty:=t) ba rfl (by
      unfold j_ at hz;split at hz
      ·rename_i d hd;rw[hd];simpa using hz
      ·cases hz) (by simp only[List.length_singleton,List.size_toArray];rw[hc];simp;omega) (by rfl)
     have mK:=S.step hi rfl (Ch.setRow w (ids.getD i 0) _) (setRow_heap w (ids.getD i 0) _ (splice (ab ids c).toArray (o+(j*1+0)) [.int kd v]) ty (0,0) ba);have OD:splice (ab ids c).toArray (o+(j*1+0)) [.int kd v]=(ab ids (hdS (o+j) v c)).toArray:=by
      unfold WD at hA;split at hA
      ·cases hA;apply Array.ext';simp only[splice,hdS,ab,cl,show o+(j*1+0)=o+j by omega,List.length_singleton];exact FT hp
      ·cases hA
     have uD:i<(lits ids ids bl).length:=by rw[iQ ids bl hl];rcases Nat.lt_or_ge i bl.length with h'|h';exact h';simp[h']at hb
     refine⟨w.setRow (ids.getD i 0) (splice (ab ids c).toArray (o+(j*1+0)) [.int kd v]),?_,?_,by simpa using hl⟩
     ·simp only[Instr.storeAt,den,Instr.sureAddr,Sem.run_bind,Sem.run_pure,Result.andThen_ok];exact aY
     ·have CT:=iR (ids:=ids) ids bl i ⟨true,⟨ty,(0,0)⟩,hdS (o+j) v c⟩ hl;rw[<-CT,<-List.set_append_left _ _ uD];rw[OD]at mK⊢;exact mK
    ·cases h
   ·cases h
  ·cases h
 ·rename_i i o j b;split at h
  ·rename_i bl2 hs;simp only[Option.some.injEq,Prod.mk.injEq]at h;obtain⟨-,rfl⟩:=h;have:=Pv (P:=P) hl S hs;simpa[den,show o+(j*1+0)=o+j by omega]using this
  ·cases h
 ·cases h
end
class Bl (G:Type) where
 B:G->List av
abbrev VK (G:Type):=V->List VB->List G->Prop
abbrev gm (G:Type):=List V->List VB->List G->VK G->Prop
variable{G:Type} [Bl G]
def af:List G->List av->List av
 |[],R=>R
 |b::l,R=>Bl.B b++af l R
def Gl (gl:Nat->Option Nat) (ids:List Nat):Prop:=∀g i,gl g=some i->i<ids.length/\ids.getD i 0=g
def Sound (P:Program) (gl:Nat->Option Nat) (f:FuncId) (c:gm G):Prop:=∀(args:List V) (ids:List Nat) (bl:List VB) (ch:List G) (R:List av) (ms:List Nat) (w0 w:World) (K:VK G),
 Gl gl ids->ids.length=bl.length->St ms w0 (lits ids ids bl++af ch R) w->c args bl ch K->aj P f (ao ids args).toArray w λv w'=>
  ∃x more bl' ch',v=den (ids++more) x/\(ids++more).length=bl'.length/\St ms w0 (lits (ids++more) (ids++more) bl'++af ch' R) w'/\K x bl' ch'
def oA (P:Program) (gl:Nat->Option Nat) (h:(Operand->V)->Op->List VB->List G->VK G->Prop):Prop:=∀(e:Operand->V) (op:Op) (ids:List Nat) (bl:List VB) (ch:List G) (R:List av) (ms:List Nat) (w0 w:World) (K:VK G) (ρ:Operand->Value) (o:Oper),
 Gl gl ids->ids.length=bl.length->St ms w0 (lits ids ids bl++af ch R) w->(∀x,ρ x=den ids (e x))->o.op=op->h e op bl ch K->
  ∃x more bl' ch' w',((execOp ρ o).run P w=.ok (.value (den (ids++more) x)) w'\/((execOp ρ o).run P w=.ok .skip w'/\x=cE))/\(ids++more).length=bl'.length/\St ms w0 (lits (ids++more) (ids++more) bl'++af ch' R) w'/\K x bl' ch'
def noH:(Operand->V)->Op->List VB->List G->VK G->Prop:=λ_ _ _ _ _=>False
theorem FU {P:Program} {gl:Nat->Option Nat}:oA (G:=G) P gl noH:=λ_ _ _ _ _ _ _ _ _ _ _ _ _ _ _ _ _ h=>h.elim
def kV:Op->Bool
 |.call ⟨.builtin .append,_,_⟩=>true
 |.call ⟨.builtin .copy,_,_⟩=>true
 |.buildSlice _ n _=>Nat.beq n 0
 |.makeMap .. =>true
 |.makeSlice .. =>true
 |.lookup .. =>true
 |.insert .. =>true
 |.mapUpdate .. =>true
 |.typeAssert .. =>true
 |.binOp op _ _ y _=>Ww op y
 |_=>false
def fill:List (Option V)->(Nat->Value)->Nat->List V
 |[],_,_=>[]
 |some v::l,g,i=>v::fill l g (i+1)
 |none::l,g,i=>.raw (g i)::fill l g (i+1)
def SG (n:Nat):List (Option V)->List V->Prop
 |[],[]=>True
 |some v::l,u::fr=>u=v/\fK n v=true/\SG n l fr
 |none::l,_::fr=>SG n l fr
 |_,_=>False
structure Lp (G:Type) where
 X:Type
 m:X->Nat
 fr:X->List (Option V)
 bl:X->List VB
 ch:X->List G
 en0:List V->List VB->List G->Prop
 en:X->List V->List VB->List G->Prop
 ok0:∀fr' bl' ch',en0 fr' bl' ch'->∃x,SG bl'.length (fr x) fr'/\bl x=bl'/\ch x=ch'
 ok:∀x fr' bl' ch',en x fr' bl' ch'->∃y,m y<m x/\SG (bl x).length (fr y) fr'/\(bl y).length=(bl x).length/\dk (bl x).length (bl y)=true/\(∃j,bl'=bl y++j)/\ch y=ch'
structure Ctx (G:Type) [Bl G] where
 P:Program
 T:FuncId->Option (gm G)
 gl:Nat->Option Nat
 q:Nat->Bool
 h:(Operand->V)->Op->List VB->List G->VK G->Prop
 hok:oA P gl h
 lp:Nat->List V->Option (Lp G)
def ev (gl:Nat->Option Nat) (fr:List V):Operand->V
 |.tmp t=>nth fr t
 |.const v=>zd v
 |.global g=>match gl g with|some i=>.ptr i 0|none=>.raw (.pointer (some ⟨g,0,none⟩))
 |.func f=>.fn f [] []
def okF (P:Program) (f:FuncId):Bool:=match P.funcs[f]?with
 |some fn=>!(fn.name== "runtime.NumGoroutine")&&!fn.body.isNone
 |none=>false
def acp (P:Program) (bl:List VB) (t:TypeId) (v:V) (name:String):Option (FuncId×V):=
 match P.info? t with
 |some i=>(match i.methods.find? (·.name==name)with
  |some m=>(match m.path.toList,m.func,P.underlying t with
   |[],some (f,true),some (.pointer _)=>some (f,v)
   |[],some (f,false),some (.pointer el)=>(match v with
    |.ptr j o=>(match VI P bl el (.ptr j o)with|some u=>some (f,u)|none=>none)
    |_=>none)
   |[],some (f,false),some (.slice _)=>some (f,v)
   |_,_,_=>none)
  |none=>none)
 |none=>none
def callee (P:Program) (e:Operand->V) (bl:List VB):Op->Option (FuncId×List V)
 |.call c=>(match c.callee with
  |.value f=>(match e f with
   |.fn g a b=>bif okF P g then some (g,a++c.args.toList.map e++b)else none
   |_=>none)
  |.invoke r name=>(match e r with
   |.CM t v=>(match acp P bl t v name with
    |some (g,u)=>bif okF P g then some (g,u::c.args.toList.map e)else none
    |none=>none)
   |_=>none)
  |_=>none)
 |_=>none
abbrev gG (G:Type):=FuncId->List V->List VB->List G->VK G->Prop
abbrev yG (G:Type):=List V->List VB->List G->Prop
def kW (C:Ctx G) (call:gG G) (o:Oper) (fr:List V) (bl:List VB) (ch:List G) (k:yG G):Prop:=
 match o.op with
 |.load t x=>(match VI C.P bl t (ev C.gl fr x)with|some v=>k (put fr o.dst v) bl ch|none=>(match Ev C.P bl t (ev C.gl fr x)with|some (p,v)=>p/\k (put fr o.dst v) bl ch|none=>False))
 |.store t x y=>(match stV C.P bl t (ev C.gl fr x) (ev C.gl fr y)with|some bl'=>k (put fr o.dst cE) bl' ch|none=>(match hfS C.P bl t (ev C.gl fr x) (ev C.gl fr y)with|some (p,bl')=>p/\k (put fr o.dst cE) bl' ch|none=>False))
 |op=>match hfN C.P (ev C.gl fr) bl op with
  |some (p,v)=>p/\k (put fr o.dst v) bl ch
  |none=>match evQ C.P (ev C.gl fr) op with
  |some v=>k (put fr o.dst v) bl ch
  |none=>match CS C.P (ev C.gl fr) bl.length op with
   |some (v,b)=>cond (cH bl.length fr&&(dk bl.length bl&&cH bl.length b.c)) (k (put fr o.dst v) (bl++[b]) ch) False
   |none=>match callee C.P (ev C.gl fr) bl op with
    |some (f,args)=>cond (cH bl.length fr) (call f args bl ch λv bl' ch'=>k (put fr o.dst v) bl' ch') False
    |none=>cond (kV op&&cH bl.length fr) (C.h (ev C.gl fr) op bl ch λv bl' ch'=>k (put fr o.dst v) bl' ch') False
def ui (ops:Array Oper) (j:Nat):Option Tmp:=match ops[j]?with|some o=>o.dst|none=>none
def uH (C:Ctx G) (call:gG G) (ops:Array Oper):List Oper->List V->List VB->List G->yG G->Prop
 |[],fr,bl,ch,K=>K fr bl ch
 |o::l,fr,bl,ch,K=>match o.guard with
  |none=>kW C call o fr bl ch λfr bl ch=>uH C call ops l fr bl ch K
  |some (j,want)=>match ui ops j with
   |none=>False
   |some t=>match nth fr t with
    |.bool b=>cond b
     (cond want (kW C call o (j9 fr t (.bool true)) bl ch λfr bl ch=>uH C call ops l fr bl ch K) (uH C call ops l (put (j9 fr t (.bool true)) o.dst cE) bl ch K))
     (cond want (uH C call ops l (put (j9 fr t (.bool false)) o.dst cE) bl ch K) (kW C call o (j9 fr t (.bool false)) bl ch λfr bl ch=>uH C call ops l fr bl ch K))
    |.raw (.tuple _)=>uH C call ops l (put fr o.dst cE) bl ch K
    |_=>False
def act (ids:List Nat) (fr:List V):Act:=⟨(ao ids fr).toArray,[]⟩
def sY (P:Program) (gl:Nat->Option Nat) (call:gG G):Prop:=∀f,okF P f=true->Sound P gl f (call f)
section
variable{ids:List Nat} {w w0:World} {ms:List Nat} {bl:List VB} {ch:List G} {R:List av} {fr:List V} {C:Ctx G} {call:gG G}
theorem Gl.app {gl:Nat->Option Nat} (h:Gl gl ids) (more:List Nat):Gl gl (ids++more):=λg i hg=>by
 obtain⟨h1,h2⟩:=h g i hg;refine⟨by simp;omega,?_⟩;rw[kU (by rw[Nat.blt_eq];exact h1),h2]
theorem aa9 {gl:Nat->Option Nat} (hg:Gl gl ids) (x:Operand):(act ids fr).eval x=den ids (ev gl fr x):=by
 cases x with
 |tmp t=>simp only[Act.eval,act,ev,lI]
 |const v=>simp only[Act.eval,ev,LS]
 |global g=>
  simp only[Act.eval,ev];split
  ·rename_i i hi;simp only[den,(hg g i hi).2]
  ·simp[den]
 |func f=>simp[Act.eval,ev,den,ao]
theorem I9 (d:Option Tmp) (v:V):(act ids fr).put d (den ids v)=act ids (put fr d v):=by
 cases d with
 |none=>rfl
 |some t=>simp only[act,Act.put,put,Ph]
theorem WH {more:List Nat} (h:cH ids.length fr=true):act (ids++more) fr=act ids fr:=by simp only[act,dW fr h]
theorem sZ {P:Program} {t:TypeId} {i:TypeInfo} (h:P.info? t=some i) (w:World):(typeInfo t).run P w=.ok i w:=by simp[typeInfo,h]
theorem qA {P:Program} {f:FuncId} (hk:okF P f=true) (args:Array Value) (w:World):(callFunc f args).run P w=.ok (.enter f args) w:=by
 unfold okF at hk;split at hk
 ·rename_i fn hfn;simp only[Bool.and_eq_true,Bool.not_eq_true']at hk;simp only[callFunc,Sem.run_bind,run_program,Result.andThen_ok,hfn];rw[if_neg (by simp[hk.1]),if_neg (by simp[hk.2])];simp only[Sem.run_pure]
 ·cases hk
theorem WI {P:Program} (hl:ids.length=bl.length) (S:St ms w0 (lits ids ids bl++R) w) {t:TypeId} {v u:V} {name:String} {f:FuncId} (h:acp P bl t v name=some (f,u)) (n:Nat):
 (method (n+1) t (den ids v) name).run P w=.ok (f,den ids u) w:=by
 unfold acp at h;split at h
 ·rename_i i hi;split at h
  ·rename_i m hm;split at h
   ·rename_i f' el hp hf hu;cases h;simp only[method,Sem.run_bind,sZ hi,Result.andThen_ok,hm,hp,hf,follow,Sem.run_pure,receiverAt,run_underlying hu,Place.get]
   ·rename_i f' el hp hf hu;split at h
    ·rename_i j o;split at h
     ·rename_i u' hv;cases h;have hld:=As (P:=P) hl S hv;have e1:m.path.isEmpty=true:=by simpa using hp
      have hw:∀(a:Addr) (nm:String),Builtin.ssaWrapNilChk_ #[t] t #[.pointer (some a),strVal "",strVal nm]=pure (.pointer (some a)):=λ_ _=>rfl;have akB:(loadVar el ⟨ids.getD j 0,o,none⟩).run P w=.ok (den ids u) w:=hld;simp only[method,Sem.run_bind,sZ hi,Result.andThen_ok,hm,hp,hf,follow,Sem.run_pure,receiverAt,run_underlying hu,Place.get,e1,if_true,den,hw,asAddr];rw[akB];rfl
     ·cases h
    ·cases h
   ·rename_i f' el hp hf hu;cases h;simp only[method,Sem.run_bind,sZ hi,Result.andThen_ok,hm,hp,hf,follow,Sem.run_pure,receiverAt,run_underlying hu,Place.get]
   ·cases h
  ·cases h
 ·cases h
theorem LX {P:Program} {ρ:Operand->Value} {e:Operand->V} (cx:∀x,ρ x=den ids (e x)) (hl:ids.length=bl.length) (S:St ms w0 (lits ids ids bl++R) w) (o:Oper) {f:FuncId} {args:List V} (h:callee P e bl o.op=some (f,args)):
 (execOp ρ o).run P w=.ok (.enter f (ao ids args).toArray) w/\okF P f=true:=by
 have LY:∀l:List Operand,l.map ρ=ao ids (l.map e):=λl=>by
  rw[kj,List.map_map];exact List.map_congr_left λx _=>cx x
 unfold callee at h;split at h
 ·rename_i c ho;split at h
  ·rename_i fo hc;split at h
   ·rename_i g a b hf;cases hk:okF P g with
    |false=>rw[hk]at h;simp at h
    |true=>
     rw[hk]at h;simp only[cond_true,Option.some.injEq,Prod.mk.injEq]at h;obtain⟨rfl,rfl⟩:=h;refine⟨?_,hk⟩;have a9:(ao ids a).toArray++c.args.map ρ++(ao ids b).toArray=(ao ids (a++c.args.toList.map e++b)).toArray:=by
      apply Array.ext';simp only[Array.toList_append,Array.toList_map,LY];simp only[kj,List.map_append]
     simp only[execOp,ho,resolve,hc,cx,hf,den,Deferred.ofValue,Sem.run_bind,Sem.run_pure,Result.andThen_ok,invoke,qA hk];rw[<-a9]
   ·cases h
  ·rename_i r name hc;split at h
   ·rename_i t v hr;split at h
    ·rename_i g u hm;cases hk:okF P g with
     |false=>rw[hk]at h;simp at h
     |true=>
      rw[hk]at h;simp only[cond_true,Option.some.injEq,Prod.mk.injEq]at h;obtain⟨rfl,rfl⟩:=h;refine⟨?_,hk⟩;have hmt:=λn=>WI (P:=P) hl S hm n;have hfu:∀n:Nat,n+Made.depth=(n+99)+1:=λn=>rfl;have a9:#[den ids u]++c.args.map ρ=(ao ids (u::c.args.toList.map e)).toArray:=by
       apply Array.ext';simp only[Array.toList_append,Array.toList_map,LY,ao];rfl
      have hex:(#[den ids (.CM t v)]++c.args.map ρ).extract 1 (#[den ids (.CM t v)]++c.args.map ρ).size=c.args.map ρ:=by
       apply Array.ext';simp;exact List.take_of_length_le (by simp)
      have h0:(#[den ids (.CM t v)]++c.args.map ρ)[0]?=some (.iface t (den ids v)):=by
       simp[Array.getElem?_append,den]
      simp only[execOp,ho,resolve,hc,cx,hr,Sem.run_bind,Sem.run_pure,Result.andThen_ok,invoke,h0,hex,callMethod,run_program,hfu,hmt,qA hk];rw[<-a9]
    ·cases h
   ·cases h
  ·cases h
 ·cases h
theorem v8 (hc:sY C.P C.gl call) (hg:Gl C.gl ids) (hl:ids.length=bl.length) (S:St ms w0 (lits ids ids bl++af ch R) w) {o:Oper} {k:yG G} (h:kW C call o fr bl ch k) {a:Act}
 (ha:execOp a.eval o=execOp (act ids fr).eval o) {next:Act->World->Prop} {Q:Exit->Act->World->Prop}
 (hk:∀x more bl' ch' w',(ids++more).length=bl'.length->St ms w0 (lits (ids++more) (ids++more) bl'++af ch' R) w'->k (put fr o.dst x) bl' ch'->more=[]\/cH ids.length fr=true->next (a.put o.dst (den (ids++more) x)) w'):
 o.wp C.P a w next Q:=by
 have cx:=λx=>aa9 (fr:=fr) hg x;have OF:∀x bl' w',ids.length=bl'.length->St ms w0 (lits ids ids bl'++af ch R) w'->k (put fr o.dst x) bl' ch->next (a.put o.dst (den ids x)) w':=λx bl' w' h1 h2 h3=>by
  have:=hk x [] bl' ch w' (by simpa using h1) (by simpa using h2) h3 (.inl rfl);simpa using this
 unfold Oper.wp;rw[ha];unfold kW at h;split at h
 ·rename_i t x ho;split at h
  ·rename_i v hv;have:=As (P:=C.P) hl S hv;have e:(execOp (act ids fr).eval o).run C.P w=.ok (.value (den ids v)) w:=by
    unfold execOp;simp only[ho,cx,Sem.run_bind,this];rfl
   rw[e];simp only[Oper.upon_value];exact OF _ _ _ hl S h
  ·split at h
   ·rename_i p v hv;have:=PB (P:=C.P) hl S hv h.1;have e:(execOp (act ids fr).eval o).run C.P w=.ok (.value (den ids v)) w:=by
     unfold execOp;simp only[ho,cx,Sem.run_bind,this];rfl
    rw[e];simp only[Oper.upon_value];exact OF _ _ _ hl S h.2
   ·exact h.elim
 ·rename_i t x y ho;split at h
  ·rename_i bl' hv;obtain⟨w',h1,h2,h3⟩:=Pv (P:=C.P) hl S hv;have e:(execOp (act ids fr).eval o).run C.P w=.ok .skip w':=by
    unfold execOp;simp only[ho,cx,Sem.run_bind,h1];rfl
   rw[e];simp only[Oper.upon_skip];rw[show(undef:Value)=den ids cE by simp[cE,den]];exact OF _ _ _ h3 h2 h
  ·split at h
   ·rename_i p bl' hv;obtain⟨w',h1,h2,h3⟩:=aco (P:=C.P) hl S hv h.1;have e:(execOp (act ids fr).eval o).run C.P w=.ok .skip w':=by
     unfold execOp;simp only[ho,cx,Sem.run_bind,h1];rfl
    rw[e];simp only[Oper.upon_skip];rw[show(undef:Value)=den ids cE by simp[cE,den]];exact OF _ _ _ h3 h2 h.2
   ·exact h.elim
 ·split at h
  ·rename_i p v hv;rw[PC cx o hv h.1];simp only[Oper.upon_value];exact OF _ _ _ hl S h.2
  ·split at h
   ·rename_i v hv;rw[Pu cx o v hv];simp only[Oper.upon_value];exact OF _ _ _ hl S h
   ·split at h
    ·rename_i v b hv;cases hq:cH bl.length fr&&(dk bl.length bl&&cH bl.length b.c)with
     |false=>rw[hq]at h;exact h.elim
     |true=>
      rw[hq]at h;simp only[Bool.and_eq_true]at hq;rw[<-hl]at hv hq;obtain⟨h1,h2,h2f⟩:=Py (w:=w) cx o hv;obtain⟨h3,h4⟩:=grow hl S b h2 h2f hq.2.1 hq.2.2;rw[h1];simp only[Oper.upon_value];exact hk _ _ _ _ _ h4 h3 h (.inr hq.1)
    ·split at h
     ·rename_i f args hv;cases hq:cH bl.length fr with
      |false=>rw[hq]at h;exact h.elim
      |true=>
       rw[hq]at h;rw[<-hl]at hq;obtain⟨h1,h2⟩:=LX cx hl S o hv;rw[h1,Oper.upon_enter];refine Calls.mono (hc f h2 args ids bl ch R ms w0 w _ hg hl S h) ?_;rintro e w' ⟨v,rfl,x,more,bl',ch',rfl,g1,g2,g3⟩;exact hk _ _ _ _ _ g1 g2 g3 (.inr hq)
     ·cases hq:kV o.op&&cH bl.length fr with
      |false=>rw[hq]at h;exact h.elim
      |true=>
       rw[hq]at h;rw[<-hl]at hq;simp only[Bool.and_eq_true]at hq;obtain⟨x,more,bl',ch',w',h1,g1,g2,g3⟩:=C.hok _ _ ids bl ch R ms w0 w _ _ o hg hl S cx rfl h;rcases h1 with h1|⟨h1,rfl⟩
       ·rw[h1];simp only[Oper.upon_value];exact hk _ _ _ _ _ g1 g2 g3 (.inr hq.2)
       ·rw[h1];simp only[Oper.upon_skip];have:=hk _ _ _ _ _ g1 g2 g3 (.inr hq.2);simpa[cE,den]using this
theorem PD {more:List Nat} (h:more=[]\/cH ids.length fr=true):act (ids++more) fr=act ids fr:=by
 rcases h with rfl|h
 ·simp
 ·exact WH h
end
end Vx
namespace Vx
open Go Go.RowKit Go.BigFrame Sx
variable{G:Type} [Bl G]
section
variable{C:Ctx G} {call:gG G}
theorem qB:∀(fr:List V) (t:Nat),j9 fr t (nth fr t)=fr
 |[],_=>rfl
 |_::_,0=>rfl
 |v::l,t+1=>by simp[j9,nth,qB l t]
theorem FV {ids:List Nat} {fr:List V} {ops:Array Oper} {j t:Nat} {b:Bool} (hd:ui ops j=some t) (h:nth fr t=.bool b):yielded ops (act ids fr).tmps j=some b:=by
 have h1:(ops[j]?).bind (·.dst)=some t:=by
  unfold ui at hd;split at hd
  ·rename_i o ho;rw[ho];simpa using hd
  ·cases hd
 have h2:(act ids fr).tmps[t]?=some (.bool b):=by
  have h3:=lI (ids:=ids) fr t;rw[h]at h3;have h4:t<(ao ids fr).toArray.size:=by
   rcases Nat.lt_or_ge t (ao ids fr).toArray.size with h5|h5
   ·exact h5
   ·exfalso;rw[Array.getD,dif_neg (by omega)]at h3;simp[den,undef]at h3
  rw[Array.getD,dif_pos h4]at h3;simp only[act];rw[Array.getElem?_eq_getElem h4];simp only[den]at h3;exact congrArg some h3.symm
 simp[yielded,h1,h2]
theorem FW {ids:List Nat} {fr:List V} {ops:Array Oper} {j t:Nat} {vs:Array Value} (hd:ui ops j=some t) (h:nth fr t=.raw (.tuple vs)):yielded ops (act ids fr).tmps j=none:=by
 have h1:(ops[j]?).bind (·.dst)=some t:=by
  unfold ui at hd;split at hd
  ·rename_i o ho;rw[ho];simpa using hd
  ·cases hd
 unfold yielded;rw[h1];simp only[Option.bind_some];by_cases h4:t<(ao ids fr).toArray.size
 ·have h3:=lI (ids:=ids) fr t;rw[h,Array.getD,dif_pos h4]at h3;simp only[act];rw[Array.getElem?_eq_getElem h4];simp only[den]at h3;rw[Array.getInternal_eq_getElem]at h3;rw[<-h3]
 ·simp only[act];rw[Array.getElem?_eq_none (by omega)]
theorem FX (hc:sY C.P C.gl call) {ops:Array Oper} {R:List av} {ms:List Nat} {w0:World} {Q:Exit->Act->World->Prop} {k:yG G}:∀(l:List Oper) {ids:List Nat} {bl:List VB} {ch:List G} {fr:List V} {w:World},
 Gl C.gl ids->ids.length=bl.length->St ms w0 (lits ids ids bl++af ch R) w->uH C call ops l fr bl ch k->
 (∀fr' more bl' ch' w',(ids++more).length=bl'.length->St ms w0 (lits (ids++more) (ids++more) bl'++af ch' R) w'->k fr' bl' ch'->Q .normal (act (ids++more) fr') w')->
 WL C.P ops Q l (act ids fr) w
 |[],ids,bl,ch,fr,w,hg,hl,S,h,hk=>by
  refine aw ?_;have:=hk fr [] bl ch w (by simpa using hl) (by simpa using S) h;simpa using this
 |o::l,ids,bl,ch,fr,w,hg,hl,S,h,hk=>by
  have go:∀fr,Region.wanted o (yielded ops (act ids fr).tmps)=true->kW C call o fr bl ch (λfr bl ch=>uH C call ops l fr bl ch k)->WL C.P ops Q (o::l) (act ids fr) w:=by
   intro fr hw h;refine WL.want hw λK hK=>v8 hc hg hl S h rfl ?_;intro x more bl' ch' w' g1 g2 g3 g4;rw[<-PD g4,I9];refine hK _ _ (FX hc l (hg.app more) g1 g2 g3 ?_);intro VJ aP bl2 ch2 w2 e1 e2 e3;have:=hk VJ (more++aP) bl2 ch2 w2 (by rw[<-List.append_assoc];exact e1) (by rw[<-List.append_assoc];exact e2) e3;rw[<-List.append_assoc]at this;exact this
  have sk:∀fr,Region.wanted o (yielded ops (act ids fr).tmps)=false->uH C call ops l (put fr o.dst cE) bl ch k->WL C.P ops Q (o::l) (act ids fr) w:=by
   intro fr hw h;refine qg ?_ hw;rw[show(undef:Value)=den ids cE by simp[cE,den],I9];exact FX hc l hg hl S h hk
  simp only[uH]at h;split at h
  ·rename_i U8;exact go fr (by simp[Region.wanted,U8]) h
  ·rename_i j want U8;split at h
   ·exact h.elim
   ·rename_i t hd;split at h
    ·rename_i b hb;have hy:=FV (ids:=ids) hd hb;have hwt:Region.wanted o (yielded ops (act ids fr).tmps)=(b==want):=by
      simp only[Region.wanted,U8,hy];cases b<;>cases want<;>rfl
     have hs:=qB fr t;rw[hb]at hs;cases b with
     |true=>
      rw[hs]at h;cases want with
      |true=>exact go fr (by rw[hwt];rfl) h
      |false=>exact sk fr (by rw[hwt];rfl) h
     |false=>
      rw[hs]at h;cases want with
      |true=>exact sk fr (by rw[hwt];rfl) h
      |false=>exact go fr (by rw[hwt];rfl) h
    ·rename_i vs hb;exact sk fr (by simp only[Region.wanted,U8,FW (ids:=ids) hd hb];rfl) h
    ·exact h.elim
end
inductive Cl where|f|a|x
 deriving DecidableEq
def fH (o:Oper):Cl:=match o.op with
 |.alloc _=>.a
 |.move _=>.f
 |.assign _=>.f
 |.pick .. =>.f
 |.load .. =>.f
 |.nilCheck _=>.f
 |.binOp op _ _ y _=>bif Ww op y then .x else .f
 |.unOp .. =>.f
 |.convert .. =>.f
 |.makeFunc .. =>.f
 |.makeInterface .. =>.f
 |.build .. =>.f
 |.fieldAddr .. =>.f
 |.field .. =>.f
 |.indexAddr .. =>.f
 |.index .. =>.f
 |.extract .. =>.f
 |.call ⟨.builtin .len,_,_⟩=>.f
 |.call ⟨.builtin .min,_,_⟩=>.f
 |.call ⟨.builtin .max,_,_⟩=>.f
 |.slice .. =>.f
 |.sliceToArrayPointer .. =>.f
 |_=>.x
def yz (o:Oper):Bool:=match fH o with|.f=>true|_=>false
def oO (o:Oper):Bool:=match fH o with|.a=>true|_=>false
def zi (o:Oper):Bool:=match fH o with|.x=>true|_=>false
def acq (o:Oper):Bool:=match o.op with|.load .. =>true|_=>false
def kD (q:Nat->Bool) (o:Oper):Bool:=match o.op with
 |.box .. =>true
 |.buildSlice _ n _=>!(Nat.beq n 0)
 |.call ⟨.value (.func f),_,_⟩=>q f
 |_=>false
def WJ (pm:List Nat):List Edge->Nat
 |[]=>0
 |e::l=>bif Region.binds .any e then WJ pm l|||(2^e.on|||pm.getD e.on 0)else WJ pm l
def I_:List Oper->List Nat->List Nat
 |[],pm=>pm
 |o::l,pm=>I_ l (pm++[WJ pm o.after.toList])
def nO (pm:List Nat) (i j:Nat):Bool:=(pm.getD j 0).testBit i
def yH (l:List Oper) (pm:List Nat):Bool:=Nat.beq pm.length l.length&&(l.zip pm).all λp=>Nat.beq p.2 (WJ pm p.1.after.toList)
def aK (l:List Oper) (i:Nat):Oper:=match l[i]?with|some o=>o|none=>default
def eT (p:Nat->Nat->Bool):List Nat->Bool
 |[]=>true
 |i::l=>l.all (p i)&&eT p l
def jN (l:List Oper):List Nat->Option Nat
 |[]=>none
 |i::r=>bif oO (aK l i)then jN l r else some i
def fR (l:List Oper) (pm:List Nat):List Nat->Bool
 |[]=>true
 |i::r=>(bif oO (aK l i)then(match jN l r with|some x=>zi (aK l x)&&nO pm i x|none=>false)else true)&&fR l pm r
def looks (l:List Oper) (i:Nat):List Tmp:=Oper.looksAt l.toArray (aK l i)
def WK (t:Tmp) (l:List Tmp):Bool:=l.any λu=>Nat.beq u t
def lL (q:Nat->Bool) (l:List Oper) (pm:List Nat) (i j:Nat):Bool:=
 !(nO pm j i)&&(nO pm i j||
   (bif zi (aK l i)then oO (aK l j)else true)&&
   (bif zi (aK l j)&&acq (aK l i)then kD q (aK l j)else true))&&
 (match(aK l i).dst with|some t=>(bif WK t (looks l j)then nO pm i j else true)&&(match(aK l j).dst with|some u=>!(Nat.beq t u)|none=>true)|none=>true)&&
 (match(aK l j).dst with|some t=>(bif WK t (looks l i)then nO pm i j else true)|none=>true)
def Ja (C:Ctx G) (n:Nat) (o:Oper):Bool:=
 (match o.dst with|some t=>Nat.blt t n|none=>true)&&(match o.op with|.select .. =>false|_=>true)&&
 (bif oO o then(match o.guard,o.dst,o.op with|none,some _,.alloc t=>(match jo C.P t with|some _=>true|none=>false)|_,_,_=>false)else true)
def VL (l:List Oper) (ts:List Nat):List Oper:=ts.map (aK l)
def s9:List Nat->Bool
 |[]=>true
 |i::l=>!(l.any λj=>Nat.beq j i)&&s9 l
def kp (l:List Oper) (n:Nat):Bool:=l.all λo=>o.after.all λe=>!Region.binds .any e||Nat.blt e.on n
def Jb (C:Ctx G) (q:Nat->Bool) (l:List Oper) (pm ts:List Nat):Bool:=
 yH l pm&&kp l l.length&&C.P.follows .mixedOrders&&Nat.beq ts.length l.length&&ts.all (λi=>Nat.blt i l.length)&&s9 ts&&
 eT (lL q l pm) ts&&fR l pm ts&&ts.all (λi=>!(nO pm i i))
def v9 (C:Ctx G) (q:Nat->Bool) (l:List Oper) (pm ts:List Nat) (n:Nat):Bool:=Jb C q l pm ts&&l.all (Ja C n)
def FY (pm:List Nat) (done m:Nat) (l:List Oper) (c:Oper->Bool) (am:Nat):Nat->Option Nat
 |0=>none
 |k+1=>match FY pm done m l c am k with
  |some i=>some i
  |none=>bif Nat.testBit done k then none else bif c (aK l k)&&Nat.beq ((pm.getD k 0)|||(done|||am)) (done|||am)then some k else none
def PE (l:List Oper):Nat->Nat
 |0=>0
 |k+1=>bif oO (aK l k)then PE l k|||2^k else PE l k
def PF (pm:List Nat) (l:List Oper) (done j:Nat):Nat->List Nat
 |0=>[]
 |k+1=>PF pm l done j k++(bif oO (aK l k)&&(nO pm k j&&!(Nat.testBit done k))then[k]else[])
def sched (pm:List Nat) (l:List Oper) (am:Nat):Nat->Nat->List Nat
 |0,_=>[]
 |n+1,done=>match FY pm done l.length l yz 0 l.length with
  |some i=>i::sched pm l am n (done|||2^i)
  |none=>match FY pm done l.length l zi am l.length with
   |some j=>PF pm l done j l.length++(j::sched pm l am n ((PF pm l done j l.length).foldl (λs i=>s|||2^i) (done|||2^j)))
   |none=>[]
def nQ (l:List Oper) (pm:List Nat):List Nat:=sched pm l (PE l l.length) l.length 0
def upE (i:Nat) (o:Oper):Oper:={o with after:=o.after.push ⟨i,.data⟩}
def fb (l:List Oper) (i j:Nat):List Oper:=match l[j]?with|some o=>l.set j (upE i o)|none=>l
def wa:List Oper->List Nat->List Nat->List Nat
 |[],pm,_=>pm
 |o::l,pm,old=>wa l (pm++[WJ (pm++old) o.after.toList]) old.tail
def pa (l:List Oper):List Nat->Option (Nat×List Nat)
 |[]=>none
 |i::r=>bif zi (aK l i)then some (i,r)else pa l r
def okS (C:Ctx G) (l:List Oper) (pm ts:List Nat) (i n:Nat):Bool:=v9 C C.q l pm ts n&&(l.all λo=>!(oO o))&&(match pa l ts with|some (x,_)=>Nat.beq x i|none=>false)
section
variable{l:List Oper} {pm:List Nat}
theorem vb (pm:List Nat) (i:Nat):∀es:List Edge,(WJ pm es).testBit i=true↔∃e∈es,Region.binds .any e=true/\(e.on=i\/(pm.getD e.on 0).testBit i=true)
 |[]=>by simp[WJ]
 |e::l=>by
  unfold WJ;cases hb:Region.binds .any e with
  |false=>simp[hb,vb pm i l]
  |true=>
   simp only[cond_true,Nat.testBit_or,Bool.or_eq_true,vb pm i l,Nat.testBit_two_pow,decide_eq_true_eq];constructor
   ·rintro(⟨x,hx,h1,h2⟩|h2)
    ·exact⟨x,by simp[hx],h1,h2⟩
    ·exact⟨e,by simp,hb,h2⟩
   ·rintro⟨x,hx,h1,h2⟩;rcases List.mem_cons.1 hx with rfl|hx
    ·exact .inr h2
    ·exact .inl ⟨x,hx,h1,h2⟩
theorem aa_ (h:yH l pm=true) {j:Nat} {o:Oper} (ho:l[j]?=some o):pm.getD j 0=WJ pm o.after.toList:=by
 unfold yH at h;simp only[Bool.and_eq_true]at h;have hlen:=Nat.eq_of_beq_eq_true h.1;have hj:j<l.length:=by rcases Nat.lt_or_ge j l.length with h'|h';exact h';simp[h']at ho
 have hm:(l.zip pm)[j]?=some (o,pm[j]):=by
  rw[List.getElem?_zip_eq_some];exact⟨ho,by simp⟩
 have:=List.all_eq_true.1 h.2 _ (List.mem_of_getElem? hm);have:=Nat.eq_of_beq_eq_true this;simp only[List.getD,List.getElem?_eq_getElem (show j<pm.length by omega),Option.getD_some];exact this
theorem nR {i:Nat} {o:Oper} (h:l[i]?=some o):aK l i=o:=by unfold aK;rw[h]
theorem PG {i t:Nat} (h:(aK l i).dst=some t):l[i]?=some (aK l i):=by
 unfold aK at h⊢;cases hi:l[i]?with
 |some o=>rfl
 |none=>rw[hi]at h;cases h
theorem zj (h:yH l pm=true) {i j:Nat} {o:Oper} (ho:l[j]?=some o) (hb:nO pm i j=true):∃e∈o.after,Region.binds .any e=true/\(e.on=i\/nO pm i e.on=true):=by
 unfold nO at hb;rw[aa_ h ho]at hb;obtain⟨e,he,h1,h2⟩:=(vb pm _ _).1 hb;exact⟨e,by simpa using he,h1,h2⟩
theorem gu {p:Nat->Nat->Bool}:∀{a b:List Nat},eT p (a++b)=true->(∀i∈a,∀j∈b,p i j=true)/\eT p a=true/\eT p b=true
 |[],b,h=>⟨by simp,rfl,h⟩
 |x::a,b,h=>by
  simp only[List.cons_append,eT,Bool.and_eq_true,List.all_eq_true]at h;obtain⟨i1,i2,i3⟩:=gu h.2;refine⟨?_,?_,i3⟩
  ·intro i hi j hj;rcases List.mem_cons.1 hi with rfl|hi
   ·exact h.1 j (by simp[hj])
   ·exact i1 i hi j hj
  ·simp only[eT,Bool.and_eq_true,List.all_eq_true];exact⟨λj hj=>h.1 j (by simp[hj]),i2⟩
theorem s_ {p:Nat->Nat->Bool}:∀{a:List Nat},eT p a=true->∀i∈a,∀j∈a,i≠j->p i j=true\/p j i=true
 |[],_,_,hi,_,_,_=>by cases hi
 |x::a,h,i,hi,j,hj,e_=>by
  simp only[eT,Bool.and_eq_true,List.all_eq_true]at h;rcases List.mem_cons.1 hi with e1|uD
  ·rcases List.mem_cons.1 hj with e2|yF
   ·exact absurd (e1.trans e2.symm) e_
   ·rw[e1];exact .inl (h.1 j yF)
  ·rcases List.mem_cons.1 hj with e2|yF
   ·rw[e2];exact .inr (h.1 i uD)
   ·exact s_ h.2 i uD j yF e_
theorem pd:∀{a:List Nat},s9 a=true->a.Nodup
 |[],_=>List.nodup_nil
 |i::a,h=>by
  simp only[s9,Bool.and_eq_true,Bool.not_eq_true']at h;refine List.nodup_cons.2 ⟨?_,pd h.2⟩;intro hm;have:=List.any_eq_false.1 h.1 i hm;simp[Nat.beq_refl]at this
theorem CZ {t:Tmp} {ts:List Tmp}:WK t ts=true↔t∈ts:=by
 unfold WK;rw[List.any_eq_true];constructor
 ·rintro⟨u,hu,h⟩;obtain rfl:=Nat.eq_of_beq_eq_true h;exact hu
 ·intro h;exact⟨t,h,Nat.beq_refl t⟩
theorem gX (o:Oper):(yz o=true/\oO o=false/\zi o=false)\/(yz o=false/\oO o=true/\zi o=false)\/(yz o=false/\oO o=false/\zi o=true):=by
 unfold yz oO zi;cases fH o<;>simp
structure PH (q:Nat->Bool) (l:List Oper) (pm:List Nat) (i j:Nat):Prop where
 nb:nO pm j i=false
 xj:zi (aK l i)=true->oO (aK l j)=false->nO pm i j=true
 ld:zi (aK l j)=true->acq (aK l i)=true->nO pm i j=true\/kD q (aK l j)=true
 wi:∀t,(aK l i).dst=some t->t∈looks l j->nO pm i j=true
 wj:∀t,(aK l j).dst=some t->t∈looks l i->nO pm i j=true
 ww:∀t,(aK l i).dst=some t->(aK l j).dst≠some t
theorem nf {q:Nat->Bool} {i j:Nat} (h:lL q l pm i j=true):PH q l pm i j:=by
 unfold lL at h;simp only[Bool.and_eq_true,Bool.not_eq_true']at h;obtain⟨⟨⟨h1,h2⟩,h3⟩,h4⟩:=h;refine⟨h1,?_,?_,?_,?_,?_⟩
 ·intro hx ha;rcases Bool.or_eq_true _ _▸h2 with h2|h2
  ·exact h2
  ·rw[hx,ha]at h2;simp at h2
 ·intro hx hl;rcases Bool.or_eq_true _ _▸h2 with h2|h2
  ·exact .inl h2
  ·rw[hx,hl]at h2;simp only[Bool.and_eq_true,Bool.and_self,cond_true]at h2;exact .inr h2.2
 ·intro t ht hm;rw[ht]at h3;simp only[Bool.and_eq_true,CZ.2 hm,cond_true]at h3;exact h3.1
 ·intro t ht hm;rw[ht]at h4;simpa only[CZ.2 hm,cond_true]using h4
 ·intro t ht e;rw[ht,e]at h3;simp[Nat.beq_refl]at h3
end
def gOK (l:List Oper) (fr:List V) (o:Oper) (b:Bool):Prop:=match o.guard with
 |none=>b=true
 |some (g,want)=>∃t,ui l.toArray g=some t/\((∃c,nth fr t=.bool c/\b=(c==want))\/(∃vs,nth fr t=.raw (.tuple vs)/\b=false))
def EvS (C:Ctx G) (bl:List VB) (fr:List V) (o:Oper) (v:V):Prop:=(evQ C.P (ev C.gl fr) o.op=some v\/∃b0 p,hfN C.P (ev C.gl fr) b0 o.op=some (p,v)/\p)\/(∃t x,o.op=.load t x/\EF C.P bl t (ev C.gl fr x) v)
structure Rec (C:Ctx G) (l:List Oper) (pm:List Nat) (jv fr:List V) (bl:List VB) (i:Nat) (wb:List V) (v:V) (b:Bool):Prop where
 w1:∀t∈looks l i,∀h,(aK l h).dst=some t->nO pm h i=true->nth wb t=nth fr t
 w0:∀t∈looks l i,(∀h,(aK l h).dst=some t->nO pm h i=false)->nth wb t=nth jv t
 val:∀d,(aK l i).dst=some d->nth fr d=v
 g:gOK l wb (aK l i) b
 e:if b then EvS C bl wb (aK l i) v else v=cE
section
variable{C:Ctx G} {l:List Oper} {pm:List Nat} {ids:List Nat} {w:World}
theorem wc (a:Act) (t:Tmp):a.eval (.tmp t)=fI a t:=rfl
theorem Au {fr:List V} (t:Nat):fI (act ids fr) t=den ids (nth fr t):=by rw[<-wc];simp only[Act.eval,act,lI]
theorem PI {a:Act} {t:Tmp} {b:Bool} (h:fI a t=.bool b):a.tmps[t]?=some (.bool b):=by
 have h':a.tmps.getD t undef=.bool b:=h;by_cases h1:t<a.tmps.size
 ·rw[Array.getD,dif_pos h1]at h';rw[Array.getElem?_eq_getElem h1];exact congrArg some h'
 ·rw[Array.getD,dif_neg h1]at h';cases h'
theorem WM {a:Act} {t:Tmp} {vs:Array Value} (h:fI a t=.tuple vs):a.tmps[t]?=none\/a.tmps[t]?=some (.tuple vs):=by
 have h':a.tmps.getD t undef=.tuple vs:=h;by_cases h1:t<a.tmps.size
 ·rw[Array.getD,dif_pos h1]at h';rw[Array.getElem?_eq_getElem h1];exact .inr (congrArg some h')
 ·exact .inl (Array.getElem?_eq_none (Nat.le_of_not_lt h1))
theorem PJ {ops:Array Oper} {g t:Nat} (h:ui ops g=some t):(ops[g]?).bind (·.dst)=some t:=by
 unfold ui at h;split at h
 ·rename_i o ho;rw[ho];simpa using h
 ·cases h
theorem lM {a:Act} {fr:List V} {o:Oper} {b:Bool} (hy:∀t∈Oper.looksAt l.toArray o,fI a t=den ids (nth fr t)) (hg:gOK l fr o b):Region.wanted o (yielded l.toArray a.tmps)=b:=by
 unfold gOK at hg;unfold Region.wanted;split at hg
 ·rename_i h;rw[h];exact hg.symm
 ·rename_i g want h;rw[h];obtain⟨t,ht,hc⟩:=hg;have hb:=PJ ht;have hm:t∈Oper.looksAt l.toArray o:=by
   unfold Oper.looksAt;rw[h];refine List.mem_append_right _ ?_;simp only[hb];simp
  have hyt:=hy t hm;simp only[yielded,hb,Option.bind_some];rcases hc with⟨c,h1,h2⟩|⟨vs,h1,h2⟩
  ·rw[h1]at hyt;rw[PI (b:=c) (by rw[hyt];simp only[den])];simp only;rw[h2];cases c<;>cases want<;>rfl
  ·rw[h1]at hyt;rcases WM (a:=a) (t:=t) (vs:=vs) (by rw[hyt];simp only[den])with h3|h3
   ·rw[h3,h2];rfl
   ·rw[h3,h2];rfl
theorem jO {a:Act} {fr:List V} {o:Oper} (hs:∀cs b,o.op≠.select cs b) (hy:∀t∈Oper.looksAt l.toArray o,fI a t=den ids (nth fr t)):execOp a.eval o=execOp (act ids fr).eval o:=by
 refine execOp_congr o hs ?_;intro x hx;cases x with
 |tmp t=>
  rw[wc,wc,Au];refine hy t ?_;unfold Oper.looksAt;exact List.mem_append_left _ (List.mem_filterMap.2 ⟨.tmp t,by simpa using hx,rfl⟩)
 |const v=>rfl
 |global g=>rfl
 |func f=>rfl
theorem Av {bl:List VB} {R:List av} {ms:List Nat} {w0:World} {fr:List V} {o:Oper} {v:V} (hg:Gl C.gl ids) (hl:ids.length=bl.length) (S:St ms w0 (lits ids ids bl++R) w) (h:EvS C bl fr o v):
 (execOp (act ids fr).eval o).run C.P w=.ok (.value (den ids v)) w:=by
 have cx:=λx=>aa9 (fr:=fr) hg x;rcases h with(h|⟨b0,p,h,hp⟩)|⟨t,x,ho,h⟩
 ·exact Pu cx o v h
 ·exact PC cx o h hp
 ·have:=h.run hl S;unfold execOp;simp only[ho,cx,Sem.run_bind,this];rfl
theorem agB {call:gG G} {o:Oper} {fr:List V} {bl:List VB} {ch:List G} {k:yG G} (hf:yz o=true) (h:kW C call o fr bl ch k):∃v,EvS C bl fr o v/\k (put fr o.dst v) bl ch:=by
 unfold kW at h;split at h
 ·rename_i t x ho;split at h
  ·rename_i v hv;exact⟨v,.inr ⟨t,x,ho,.inl hv⟩,h⟩
  ·split at h
   ·rename_i p v hv;exact⟨v,.inr ⟨t,x,ho,.inr ⟨p,hv,h.1⟩⟩,h.2⟩
   ·exact h.elim
 ·rename_i t x y ho;simp[yz,fH,ho]at hf
 ·rename_i op h1 h2;split at h
  ·rename_i p v hv;exact⟨v,.inl (.inr ⟨_,p,hv,h.1⟩),h.2⟩
  split at h
  ·rename_i v hv;exact⟨v,.inl (.inl hv),h⟩
  ·exfalso;unfold yz fH at hf;split at h
   ·rename_i v b hv;unfold CS at hv;split at hv<;>simp_all
   ·split at h
    ·rename_i f args hv;unfold callee at hv;split at hv
     ·rename_i c hc;split at hv
      ·rename_i fo hfo;obtain⟨FZ,ar,ts⟩:=c;simp only at hfo;subst hfo;rw[hc]at hf;simp at hf
      ·rename_i r nm hfo;obtain⟨FZ,ar,ts⟩:=c;simp only at hfo;subst hfo;rw[hc]at hf;simp at hf
      ·cases hv
     ·cases hv
    ·cases hq:kV o.op with
     |false=>rw[hq]at h;exact h
     |true=>
      unfold kV at hq;split at hq<;>simp_all
end
end Vx
