/- Part 8 of the proof. -/
import Derived.Test.YtggfpcggakghnaaGreatDoorProg
import Derived.Test.YtggfpcggakghnaaGreatDoorQ7
set_option linter.all false
set_option maxRecDepth 100000
set_option maxHeartbeats 4000000
open Go.Proofs.Tryz
open Go.IntKind (u8 u16 u32 u64 i64)
namespace Vx
open Go Go.RowKit Go.BigFrame Sx
variable{G:Type} [Bl G]
def acz (P:Program):(Operand->V)->Op->List VB->List G->VK G->Prop:=λe op bl ch K=>match op with
 |.call c=>(match c.callee,c.args.toList,c.argTypes.toList with
  |.builtin .append,[s,xs],[t,tx]=>(match P.underlying t,P.underlying tx with
   |some (.slice T),some (.slice _)=>(match gZ P T,e s,e xs with
    |some (z,cX),.raw (.slice none 0 0),.sl i 0 (m+1) _=>(match bl[i]?with
     |some b=>cond (Nat.beq (eL b.c) ((m+1)*z)&&(mY b.c&&(Nat.ble cX 10000000&&(Nat.ble (m+1) 1000000&&(cH bl.length b.c&&dk bl.length bl)))))
      (∀(c':Nat) (u:List Value),m+1<=c'->eL (b.c++[.rest u])=c'*z->K (.sl bl.length 0 (m+1) c') (bl++[⟨true,T,b.c++[.rest u]⟩]) ch) False
     |none=>False)
    |_,_,_=>False)
   |_,_=>False)
  |_,_,_=>False)
 |_=>False
theorem W_ {P:Program} {gl:Nat->Option Nat}:oA (G:=G) P gl (acz P):=by
 intro e op ids bl ch R ms w0 w K ρ o hg hl S cx ho h;unfold acz at h;split at h
 ·rename_i c;split at h
  ·rename_i s xs t tx eU a9 ju;split at h
   ·rename_i T T' ht o9;split at h
    ·rename_i z cX i m Fw aF qc ow;split at h
     ·rename_i b hb;cases hq:Nat.beq (eL b.c) ((m+1)*z)&&(mY b.c&&(Nat.ble cX 10000000&&(Nat.ble (m+1) 1000000&&(cH bl.length b.c&&dk bl.length bl))))with
      |false=>rw[hq]at h;exact h.elim
      |true=>
       rw[hq]at h;simp only[cond_true]at h;simp only[Bool.and_eq_true]at hq;obtain⟨q3,q4,q5,q6,q9,q10⟩:=hq;have q3:=Nat.eq_of_beq_eq_true q3;have q5:=Nat.le_of_ble_eq_true q5;have q6:=Nat.le_of_ble_eq_true q6;have ba:=(cA hl S hb).2;have qJ:(ab ids b.c).length=(m+1)*z:=by rw[cL,q3]
       have fZ:Src P z tx (.slice (some ⟨ids.getD i 0,0,none⟩) (m+1) Fw) (m+1) (ab ids b.c) w:=by
        refine Src.ofSlice w o9 ⟨ids.getD i 0,0,none⟩ (m+1) Fw _ qJ (λj u hj=>?_) (λu hu=>lJ q4 u hu);rw[Addr.add_lit,cell_of ba];simpa using hj
       have AD:(0+(m+1))*cX<=140737488355328:=Nat.le_trans (Nat.mul_le_mul (by omega:0+(m+1)<=1000000) q5) (by decide);obtain⟨FZ,ar,td⟩:=c;simp only at eU a9 ju;have e2:ar=#[s,xs]:=by rw[<-a9]
       have e3:td=#[t,tx]:=by rw[<-ju]
       subst eU e2 e3;obtain⟨v,w',aY,hc,x',c',bl',rfl,⟨r1,r2,r3⟩,oC⟩:=gE (P:=P) (ty:=o.type) (iO z T) (by simp) cX fZ ht (jR aF) AD (Nat.le_trans (by omega:0+(m+1)<=1000000) (by decide));rcases r3 with⟨_,h0,_⟩|⟨b',tail,rfl,rfl,hlen⟩
       ·omega
       ·obtain⟨hh,hid⟩:=oC _ (List.mem_singleton.2 rfl);have jI:w.heap.size<=b':=by
         rcases hid with⟨u,hu,_⟩|h
         ·cases hu
         ·exact h
        simp only[List.nil_append,Nat.zero_add]at hh hlen r2 aY;have dd:∀(is:List Nat) (u:List Value),ab is (b.c++[.rest u])=ab is b.c++u:=λis u=>by
         rw[bo];simp[ab,cl]
        have PW:cH ids.length (b.c++[.rest tail])=true:=by
         rw[hl];have Mh:∀(x y:List V),cH bl.length x=true->cH bl.length y=true->cH bl.length (x++y)=true:=by
          intro x y;induction x with
          |nil=>intro _ h;simpa using h
          |cons v x ih=>intro h1 h2;simp only[List.cons_append,cH,Bool.and_eq_true]at h1⊢;exact⟨h1.1,ih h1.2 h2⟩
         exact Mh _ _ q9 rfl
        refine⟨_,[b'],_,ch,w',.inl ?_,by simp[hl],?_,h c' tail r2 ?_⟩
        ·have:=bP (P:=P) (ρ:=ρ) (o:=o) ho (sv:=.slice none 0 0) (xv:=.slice (some ⟨ids.getD i 0,0,none⟩) (m+1) Fw) (by rw[cx,qc];simp only[den]) (by rw[cx,ow];simp only[den]) aY;rw[this];simp only[den];rw[<-hl,cy]
        ·rw[aI _ _ _ _ hl,aJ _ _ (by rw[hl];exact q10)];simp only[lits,aE];rw[bU _ PW,dd];have:=S.new hc jI hh;refine this.perm ?_;rw[List.append_assoc (lits ids ids bl)];exact(List.perm_middle).symm
        ·rw[<-cL (ids:=ids),dd,hlen]
     ·exact h.elim
    ·exact h.elim
   ·exact h.elim
  ·exact h.elim
 ·exact h.elim
theorem lO {P:Program} {gl:Nat->Option Nat} {a b:(Operand->V)->Op->List VB->List G->VK G->Prop} (t:(Operand->V)->Op->Bool) (ha:oA P gl a) (hb:oA P gl b):oA P gl (λe op bl ch K=>cond (t e op) (a e op bl ch K) (b e op bl ch K)):=by
 intro e op ids bl ch R ms w0 w K ρ o hg hl S cx ho h;cases ht:t e op with
 |true=>simp only[ht]at h;exact ha e op ids bl ch R ms w0 w K ρ o hg hl S cx ho h
 |false=>simp only[ht]at h;exact hb e op ids bl ch R ms w0 w K ρ o hg hl S cx ho h
def agO (e:Operand->V) (op:Op):Bool:=match op with
 |.call c=>(match c.args.toList with
  |s::_=>(match e s with|.sl _ _ _ _=>true|_=>false)
  |_=>false)
 |_=>false
def PZ (P:Program):(Operand->V)->Op->List VB->List G->VK G->Prop:=λe op bl ch K=>cond (agO e op) (W6 P e op bl ch K) (acz P e op bl ch K)
theorem vf {P:Program} {gl:Nat->Option Nat}:oA (G:=G) P gl (PZ P):=lO agO Jh W_
end Vx
namespace Vx
open Go Sx
section
variable{ids:List Nat} {P:Program} {w:World}
theorem iw0 {n:Nat} (h:n<=1000000):i64.wrap (n:Int)=n:=by simp[IntKind.wrap,IntKind.bits,IntKind.signed];omega
theorem run_mk {t el:TypeId} {n z:Nat} {zc:List V} {inf:TypeInfo} {k1 k2:IntKind} (hu:P.underlying t=some (.slice el)) (hi:P.info? el=some inf) (hz:j_ P el=some (z+1)) (h0:jo P el=some zc) (hl:eL zc=z+1) (h1:1<=n) (hn:n<=1000000) (hb:inf.bytes<=100):
 (Instr.makeSlice t (.int k1 (n:Int)) (.int k2 (n:Int))).run P w=.ok (.slice (some ⟨w.heap.size,0,none⟩) n n) (w.alloc (.cells (ab ids (lK zc n)).toArray el)):=by
 obtain⟨v0,z1,z2⟩:=jM (P:=P) (w:=w) (ids:=ids) h0;have hv:v0.cells.size=z+1:=by rw[<-Array.length_toList,z2,cL,hl]
 have Pw:(Array.range (n*(z+1))).map (λi=>v0.cells[i%v0.cells.size]!)=(ab ids (lK zc n)).toArray:=by
  apply Array.ext';rw[sW v0.cells z hv,z2,CU]
 have hm:inf.bytes*n<=100000000:=Nat.le_trans (Nat.mul_le_mul hb hn) (by decide);have e1:(decide ((n:Int)<0)||decide ((inf.bytes:Int)*(n:Int)>2^48))=false:=by
  have:(inf.bytes:Int)*(n:Int)<=100000000:=by
   have q:=Int.ofNat_le.2 hm;rw[Int.natCast_mul]at q;exact q
  rw[decide_eq_false (by omega),decide_eq_false (by omega)];rfl
 have e2:¬(n*inf.bytes>roomBytes):=by
  have:n*inf.bytes<=100000000:=by rw[Nat.mul_comm];exact hm
  show¬(n*inf.bytes>_);unfold roomBytes;omega
 have e3:¬n*(z+1)=0:=by
  intro h;rcases Nat.mul_eq_zero.1 h with h|h<;>omega
 simp only[Instr.makeSlice,Sem.run_bind,run_underlying hu,Result.andThen_ok,asInt,asIntOf,Sem.run_pure,qz hi,iw0 hn,e1,Bool.false_or,askRoom,if_neg e2,Int.toNat_natCast,bu hz,if_neg e3,z1];simp only[show decide ((n:Int)<0)=false by simp,show decide ((n:Int)>(n:Int))=false by simp,Bool.or_self,Bool.false_eq_true,if_false,Sem.run_bind,Sem.run_pure,Result.andThen_ok,bu hz,if_neg e3,z1];rw[Pw];rfl
end
variable{G:Type} [Bl G]
def lP (P:Program):(Operand->V)->Op->List VB->List G->VK G->Prop:=λe op bl ch K=>match op with
 |.makeSlice t l c=>(match P.underlying t,e l,e c with
  |some (.slice el),.int _ (.ofNat n),.int _ (.ofNat m)=>(match P.info? el,j_ P el,jo P el with
   |some inf,some (z+1),some zc=>cond (Nat.beq n m&&(Nat.beq (eL zc) (z+1)&&(Nat.ble 1 n&&(Nat.ble n 1000000&&(Nat.ble inf.bytes 100&&(dk bl.length bl&&cH bl.length (lK zc n))))))) (K (.sl bl.length 0 n n) (bl++[⟨true,el,lK zc n⟩]) ch) False
   |_,_,_=>False)
  |_,_,_=>False)
 |_=>False
theorem acA {P:Program} {gl:Nat->Option Nat}:oA (G:=G) P gl (lP P):=by
 intro e op ids bl ch R ms w0 w K ρ o hg hl S cx ho h;unfold lP at h;split at h
 ·rename_i t l c;split at h
  ·rename_i el k1 n k2 m hu Fx hec;split at h
   ·rename_i inf z zc hi hz h0;cases hq:Nat.beq n m&&(Nat.beq (eL zc) (z+1)&&(Nat.ble 1 n&&(Nat.ble n 1000000&&(Nat.ble inf.bytes 100&&(dk bl.length bl&&cH bl.length (lK zc n))))))with
    |false=>rw[hq]at h;exact h.elim
    |true=>
     rw[hq]at h;simp only[Bool.and_eq_true]at hq;obtain⟨q1,q2,q3,q4,q5,q6,q7⟩:=hq;obtain rfl:=Nat.eq_of_beq_eq_true q1;have aY:=run_mk (ids:=ids) (w:=w) (k1:=k1) (k2:=k2) hu hi hz h0 (Nat.eq_of_beq_eq_true q2) (Nat.le_of_ble_eq_true q3) (Nat.le_of_ble_eq_true q4) (Nat.le_of_ble_eq_true q5);obtain⟨g1,g2⟩:=grow hl S ⟨true,el,lK zc n⟩ rfl rfl (by rw[hl];exact q6) (by rw[hl];exact q7);refine⟨_,[w.heap.size],_,ch,_,.inl ?_,g2,g1,h⟩;unfold execOp;rw[ho];simp only[cx,Fx,hec,den];have e1:Int.ofNat n=(n:Int):=rfl;rw[e1,Sem.run_bind,aY,Result.andThen_ok,Sem.run_pure,<-hl,cy]
   ·exact h.elim
  ·exact h.elim
 ·exact h.elim
def agP (e:Operand->V) (op:Op):Bool:=match op with
 |.makeSlice _ _ _=>true
 |_=>false
def Dh (P:Program):(Operand->V)->Op->List VB->List G->VK G->Prop:=λe op bl ch K=>cond (agP e op) (lP P e op bl ch K) (PZ P e op bl ch K)
theorem lQ {P:Program} {gl:Nat->Option Nat}:oA (G:=G) P gl (Dh P):=lO agP acA vf
end Vx
namespace Vx
open Go Go.RowKit Go.BigFrame Sx
theorem AF {P:Program} {w:World} {z T m:Nat} {x:Option Addr} {news:List Value} {t tx ty:TypeId} {xv:Value} (bytes:Nat) (hs:Src P z tx xv m news w) (Ah:0<m) (ht:P.underlying t=some (.slice T))
 (hi:(P.info? T).map (λi=>(i.zero.map (·.cells.size),i.size,i.bytes))=some (some z,z,bytes)) (hb:m*bytes<=140737488355328) (h63:m<=maxLen):
 ∃b' c' uk w',(Builtin.append_ #[t,tx] ty #[.slice x 0 0,xv]).run P w=.ok (.slice (some ⟨b',0,none⟩) m c') w'/\Ch [] w w'/\w.heap.size<=b'/\w'.heap[b']?=some (.cells (news++uk).toArray T (0,0))/\(news++uk).length=c'*z/\m<=c':=by
 obtain⟨i,aF,hi⟩:=Option.map_eq_some_iff.1 hi;simp only[Prod.mk.injEq]at hi;obtain⟨hz,iM,sP⟩:=hi;obtain⟨z0,Cv,FI⟩:=Option.map_eq_some_iff.1 hz;have Lw:=hs.newsLen;have uZ:Src P i.size tx xv m news w:=by rw[iM];exact hs
 have hold:(Builtin.firstCells i.size 0 (.slice x 0 0)).run P w.drew=.ok ([]:List Value).toArray w.drew:=by
  cases x with
  |none=>exact run_firstCells_none (P:=P) w.drew i.size 0 0 0
  |some a=>exact run_firstCells_some (P:=P) w.drew i.size 0 a 0 0 [] (by simp) (λj v hj=>by simp at hj)
 have aY:=run_append_grow_src (P:=P) w t tx ty T i z0 ht aF Cv x 0 0 [] hold xv m news uZ (by omega) (by simp only[maxLen]at h63;omega) (by rw[sP];exact growslice_fits (by omega) (by rw[Nat.zero_add];exact hb));simp only[Nat.zero_add]at aY;have jI:=grownCap_ge w m 0 T;refine⟨w.heap.size,grownCap w m 0 T,(Builtin.zeroCells z0.cells (grownCap w m 0 T-m)).toList,_,aY,?_,Nat.le_refl _,?_,?_,jI⟩
 ·exact((Ch.refl [] w).drew).trans (Ch.alloc [] w.drew _) (λx hx=>.inl hx)
 ·have:=heap_alloc_new w.drew (.cells ((([]:List Value)++news).toArray++Builtin.zeroCells z0.cells (grownCap w m 0 T-m)) T);refine Eq.trans this ?_;congr 2;apply Array.ext';simp
 ·rw[List.length_append,Lw,Array.length_toList,size_zeroCells,FI,<-Nat.add_mul];congr 1;omega
variable{G:Type} [Bl G]
def acB (P:Program):(Operand->V)->Op->List VB->List G->VK G->Prop:=λe op bl ch K=>match op with
 |.call c=>(match c.callee,c.args.toList,c.argTypes.toList with
  |.builtin .append,[s,xs],[t,tx]=>(match P.underlying t,P.underlying tx with
   |some (.slice T),some (.slice _)=>(match gZ P T,e s,e xs with
    |some (z,cX),.sl _ _ 0 0,.sl i 0 (m+1) _=>(match bl[i]?with
     |some b=>(match CN b.c 0 ((m+1)*z)with
      |some C=>cond (mY C&&(Nat.ble cX 10000000&&(Nat.ble (m+1) 1000000&&(cH bl.length C&&dk bl.length bl))))
       (∀(c':Nat) (u:List Value),m+1<=c'->eL (C++[.rest u])=c'*z->K (.sl bl.length 0 (m+1) c') (bl++[⟨true,T,C++[.rest u]⟩]) ch) False
      |none=>False)
     |none=>False)
    |_,_,_=>False)
   |_,_=>False)
  |_,_,_=>False)
 |_=>False
theorem Xa {P:Program} {gl:Nat->Option Nat}:oA (G:=G) P gl (acB P):=by
 intro e op ids bl ch R ms w0 w K ρ o hg hl S cx ho h;unfold acB at h;split at h
 ·rename_i c;split at h
  ·rename_i s xs t tx eU a9 ju;split at h
   ·rename_i T T' ht o9;split at h
    ·rename_i z cX j0 o0 i m Fw aF qc ow;split at h
     ·rename_i b hb;split at h
      ·rename_i C hC;cases hq:mY C&&(Nat.ble cX 10000000&&(Nat.ble (m+1) 1000000&&(cH bl.length C&&dk bl.length bl)))with
       |false=>rw[hq]at h;exact h.elim
       |true=>
        rw[hq]at h;simp only[cond_true]at h;simp only[Bool.and_eq_true]at hq;obtain⟨q4,q5,q6,q9,q10⟩:=hq;have q5:=Nat.le_of_ble_eq_true q5;have q6:=Nat.le_of_ble_eq_true q6;have ba:=(cA hl S hb).2;obtain⟨g1,g2,g3⟩:=km (ids:=ids) hC;rw[List.drop_zero]at g1;have qJ:(ab ids C).length=(m+1)*z:=by rw[<-g1,List.length_take];omega
        have fZ:Src P z tx (.slice (some ⟨ids.getD i 0,0,none⟩) (m+1) Fw) (m+1) (ab ids C) w:=by
         refine Src.ofSlice w o9 ⟨ids.getD i 0,0,none⟩ (m+1) Fw _ qJ (λj u hj=>?_) (λu hu=>lJ q4 u hu);rw[Addr.add_lit,cell_of ba];rw[<-g1]at hj;have Of:j<(m+1)*z:=by
          rcases Nat.lt_or_ge j ((m+1)*z)with h|h
          ·exact h
          ·rw[List.getElem?_eq_none (by rw[List.length_take];omega)]at hj;cases hj
         rw[List.getElem?_take_of_lt Of]at hj;simpa using hj
        have AD:(m+1)*cX<=140737488355328:=Nat.le_trans (Nat.mul_le_mul q6 q5) (by decide);obtain⟨FZ,ar,td⟩:=c;simp only at eU a9 ju;have e2:ar=#[s,xs]:=by rw[<-a9]
        have e3:td=#[t,tx]:=by rw[<-ju]
        subst eU e2 e3;obtain⟨b',c',tail,w',aY,hc,jI,hh,hlen,r2⟩:=AF (P:=P) (ty:=o.type) (x:=some ⟨ids.getD j0 0,o0,none⟩) cX fZ (by omega) ht (jR aF) AD (Nat.le_trans q6 (by decide));have dd:∀(is:List Nat) (u:List Value),ab is (C++[.rest u])=ab is C++u:=λis u=>by
         rw[bo];simp[ab,cl]
        have PW:cH ids.length (C++[.rest tail])=true:=by
         rw[hl];have Mh:∀(x y:List V),cH bl.length x=true->cH bl.length y=true->cH bl.length (x++y)=true:=by
          intro x y;induction x with
          |nil=>intro _ h;simpa using h
          |cons v x ih=>intro h1 h2;simp only[List.cons_append,cH,Bool.and_eq_true]at h1⊢;exact⟨h1.1,ih h1.2 h2⟩
         exact Mh _ _ q9 rfl
        refine⟨_,[b'],_,ch,w',.inl ?_,by simp[hl],?_,h c' tail r2 ?_⟩
        ·have:=bP (P:=P) (ρ:=ρ) (o:=o) ho (sv:=.slice (some ⟨ids.getD j0 0,o0,none⟩) 0 0) (xv:=.slice (some ⟨ids.getD i 0,0,none⟩) (m+1) Fw) (by rw[cx,qc];simp only[den]) (by rw[cx,ow];simp only[den]) aY;rw[this];simp only[den];rw[<-hl,cy]
        ·rw[aI _ _ _ _ hl,aJ _ _ (by rw[hl];exact q10)];simp only[lits,aE];rw[bU _ PW,dd];have:=S.new hc jI hh;refine this.perm ?_;rw[List.append_assoc (lits ids ids bl)];exact(List.perm_middle).symm
        ·rw[<-cL (ids:=ids),dd,hlen]
      ·exact h.elim
     ·exact h.elim
    ·exact h.elim
   ·exact h.elim
  ·exact h.elim
 ·exact h.elim
def acC (P:Program):(Operand->V)->Op->List VB->List G->VK G->Prop:=λe op bl ch K=>match op with
 |.call c=>(match c.callee,c.args.toList,c.argTypes.toList with
  |.builtin .append,[s,xs],[t,tx]=>(match P.underlying t,P.underlying tx with
   |some (.slice T),some (.slice _)=>(match P.info? T,e s,e xs with
    |some _,.sl j o n c,.sl _ _ 0 _=>cond (Nat.ble n c) (K (.sl j o n c) bl ch) False
    |some _,.raw (.slice none 0 0),.raw (.slice none 0 0)=>K (.raw (.slice none 0 0)) bl ch
    |_,_,_=>False)
   |_,_=>False)
  |_,_,_=>False)
 |.typeAssert x _ t true=>(match e x,P.underlying t with
  |.CM t' v,some (.struct _)=>cond (Nat.beq t' t) (K (.az [v,.bool true]) bl ch) False
  |_,_=>False)
 |_=>False
theorem Xb {P:Program} {gl:Nat->Option Nat}:oA (G:=G) P gl (acC P):=by
 intro e op ids bl ch R ms w0 w K ρ o hg hl S cx ho h;unfold acC at h;split at h
 ·rename_i c;split at h
  ·rename_i s xs t tx eU a9 ju;split at h
   ·rename_i T T' ht o9;obtain⟨FZ,ar,td⟩:=c;simp only at eU a9 ju;have e2:ar=#[s,xs]:=by rw[<-a9]
    have e3:td=#[t,tx]:=by rw[<-ju]
    subst eU e2 e3;split at h
    ·rename_i inf j o0 n c i o1 c1 aF qc ow;cases hq:Nat.ble n c with
     |false=>rw[hq]at h;exact h.elim
     |true=>
      rw[hq]at h;have aY:=run_append_nothing (P:=P) w t tx o.type T inf ht aF (some ⟨ids.getD j 0,o0,none⟩) n c (Nat.le_of_ble_eq_true hq) (.slice (some ⟨ids.getD i 0,o1,none⟩) 0 c1) (Src.ofSlice w o9 _ 0 c1 [] (by simp) (λj u hj=>by simp at hj) (λu hu=>by simp at hu));refine⟨_,[],bl,ch,w,.inl ?_,by simpa using hl,by simpa using S,h⟩;have:=bP (P:=P) (ρ:=ρ) (o:=o) ho (by rw[cx,qc];simp only[den]) (by rw[cx,ow];simp only[den]) aY;rw[this];simp only[den,List.append_nil]
    ·rename_i inf aF qc ow;have aY:=run_append_nothing (P:=P) w t tx o.type T inf ht aF none 0 0 (Nat.le_refl _) (.slice none 0 0) (Src.ofNil w o9 0);refine⟨_,[],bl,ch,w,.inl ?_,by simpa using hl,by simpa using S,h⟩;have:=bP (P:=P) (ρ:=ρ) (o:=o) ho (by rw[cx,qc];simp only[den]) (by rw[cx,ow];simp only[den]) aY;rw[this];simp only[den]
    ·exact h.elim
   ·exact h.elim
  ·exact h.elim
 ·rename_i x xt t;split at h
  ·rename_i t' v fs hx hu;cases hq:Nat.beq t' t with
   |false=>rw[hq]at h;exact h.elim
   |true=>
    rw[hq]at h;obtain rfl:=Nat.eq_of_beq_eq_true hq;refine⟨_,[],bl,ch,w,.inl ?_,by simpa using hl,by simpa using S,h⟩;unfold execOp;simp only[ho,cx,hx,den,ao,Instr.typeAssert,Sem.run_bind,run_underlying hu,Result.andThen_ok,if_true,Sem.run_pure,List.append_nil];try rfl
  ·exact h.elim
 ·exact h.elim
def isO (e:Operand->V) (op:Op):Bool:=match op with
 |.call c=>(match c.args.toList with
  |[_,x]=>(match e x with|.sl _ _ 0 _=>true|.raw (.slice none 0 0)=>true|_=>false)
  |_=>false)
 |.typeAssert .. =>true
 |_=>false
def isE (e:Operand->V) (op:Op):Bool:=match op with
 |.call c=>(match c.args.toList with
  |s::_=>(match e s with|.sl _ _ 0 0=>true|_=>false)
  |_=>false)
 |_=>false
def P1 (P:Program):(Operand->V)->Op->List VB->List G->VK G->Prop:=λe op bl ch K=>cond (isO e op) (acC P e op bl ch K) (cond (isE e op) (acB P e op bl ch K) (Dh P e op bl ch K))
theorem vg {P:Program} {gl:Nat->Option Nat}:oA (G:=G) P gl (P1 P):=lO isO Xb (lO isE Xa lQ)
end Vx
namespace Go.Proofs.YtggfpcggakghnaaGreatDoor
open Go Go.RowKit Go.BigFrame Sx Vx
def Tn:List Nat->List V->Nat->Option V
 |i::is,v::vs,t=>bif Nat.beq i t then some v else Tn is vs t
 |_,_,_=>none
def Xc (ix:List Nat) (vs:List V):Nat->Nat->List (Option V)
 |0,_=>[]
 |n+1,i=>Tn ix vs i::Xc ix vs n (i+1)
def Di:List Nat->List V->List V
 |[],_=>[]
 |i::is,fr=>nth fr i::Di is fr
theorem wy {n:Nat} {fr:List V}:∀(ix:List Nat) (vs:List V),Di ix fr=vs->cH n vs=true->∀t v,Tn ix vs t=some v->nth fr t=v/\fK n v=true
 |[],vs,_,_,t,v,h=>by cases vs<;>cases h
 |i::is,[],h,_,t,v,_=>by cases h
 |i::is,u::vs,h,hw,t,v,hl=>by
  simp only[Di,List.cons.injEq]at h;simp only[cH,Bool.and_eq_true]at hw;unfold Tn at hl;cases hb:Nat.beq i t with
  |true=>
   rw[hb]at hl;cases hl;obtain rfl:=Nat.eq_of_beq_eq_true hb;exact⟨h.1,hw.1⟩
  |false=>
   rw[hb]at hl;exact wy is vs h.2 hw.2 t v hl
theorem AG {n:Nat} {jv:List V} {ix:List Nat} {vs:List V} (h:∀t v,Tn ix vs t=some v->nth jv t=v/\fK n v=true):∀(N i:Nat) (fr:List V),fr.length=N->(∀k,nth jv (i+k)=nth fr k)->SG n (Xc ix vs N i) fr
 |0,_,[],_,_=>trivial
 |0,_,_::_,hl,_=>by simp at hl
 |N+1,i,[],hl,_=>by simp at hl
 |N+1,i,v::fr,hl,hn=>by
  unfold Xc;have ih:=AG h N (i+1) fr (by simpa using hl) (λk=>by have:=hn (k+1);simp only[nth]at this;rw[<-this];congr 1;omega);have h0:=hn 0;simp only[nth,Nat.add_zero]at h0;cases hk:Tn ix vs i with
  |none=>exact ih
  |some u=>
   obtain⟨h1,h2⟩:=h i u hk;exact⟨h0.symm.trans h1,h2,ih⟩
section
variable{G:Type} {X:Type}
def P2 (dA:X->List V) (bl:X->List VB) (ch:X->List G) (vs:List V) (b:List VB) (c:List G):Prop:=∃x,vs=dA x/\b=bl x/\c=ch x
def enD (m:X->Nat) (dA:X->List V) (bl:X->List VB) (ch:X->List G) (x:X) (vs:List V) (b:List VB) (c:List G):Prop:=∃y,m y<m x/\vs=dA y/\b=bl y/\c=ch y
def Xd (m:X->Nat) (N n0:Nat) (ix:List Nat) (dA:X->List V) (bl:X->List VB) (ch:X->List G) (h1:∀x,(bl x).length=n0) (h2:∀x,dk n0 (bl x)=true) (h3:∀x,cH n0 (dA x)=true):Lp G where
 X:=X
 m:=m
 fr x:=Xc ix (dA x) N 0
 bl:=bl
 ch:=ch
 en0 fr b c:=Nat.beq fr.length N=true/\P2 dA bl ch (Di ix fr) b c
 en x fr b c:=Nat.beq fr.length N=true/\enD m dA bl ch x (Di ix fr) (b.take n0) c
 ok0:=by
  rintro fr b c ⟨hl,x,hv,rfl,rfl⟩;refine⟨x,?_,rfl,rfl⟩;rw[h1];exact AG (wy ix _ hv (h3 x)) N 0 fr (Nat.eq_of_beq_eq_true hl) (λk=>by rw[Nat.zero_add])
 ok:=by
  rintro x fr b c ⟨hl,y,hm,hv,hb,rfl⟩;refine⟨y,hm,?_,by rw[h1,h1],by rw[h1];exact h2 y,⟨b.drop n0,?_⟩,rfl⟩
  ·rw[h1];exact AG (wy ix _ hv (h3 y)) N 0 fr (Nat.eq_of_beq_eq_true hl) (λk=>by rw[Nat.zero_add])
  ·rw[<-hb,List.take_append_drop]
end
def VR {G:Type} [Bl G] (P:Program) (gl:Nat->Option Nat) (L:List (dI G)) (lp:Nat->Option (Lp G)):Ctx G:=⟨P,OK L,gl,VQ L,noH,FU,λi _=>lp i⟩
theorem ai.TL {G:Type} [Bl G] {P:Program} {gl:Nat->Option Nat} {L:List (dI G)} {lp:Nat->Option (Lp G)} (h:ai P gl L):∀f c,(VR P gl L lp).T f=some c->Sound (VR P gl L lp).P (VR P gl L lp).gl f c:=h.T
theorem ai.QL {G:Type} [Bl G] {P:Program} {gl:Nat->Option Nat} {L:List (dI G)} {lp:Nat->Option (Lp G)} (h:ai P gl L):iz (VR P gl L lp):=h.Q
def gv:Nat->Option Nat:=λ_=>none
def lp1 {G:Type} (i:Nat) (I:Lp G):Nat->Option (Lp G):=λj=>bif Nat.beq j i then some I else none
def aX (k:Nat):Int:=([1116352408,1899447441,3049323471,3921009573,961987163,1508970993,2453635748,2870763221,3624381080,310598401,607225278,1426881987,1925078388,2162078206,2614888103,3248222580,3835390401,4022224774,264347078,604807628,770255983,1249150122,1555081692,1996064986,2554220882,2821834349,2952996808,3210313671,3336571891,3584528711,113926993,338241895,666307205,773529912,1294757372,1396182291,1695183700,1986661051,2177026350,2456956037,2730485921,2820302411,3259730800,3345764771,3516065817,3600352804,4094571909,275423344,430227734,506948616,659060556,883997877,958139571,1322822218,1537002063,1747873779,1955562222,2024104815,2227730452,2361852424,2428436474,2756734187,3204031479,3329325298]:List Int).getD k 0
def qN (n:Nat) (x:Int):Int:=bits .or .u32 (u32.wrap (x*2^(32-n))) (Int.fdiv x (2^n))
def Dj:QF:=⟨202,λargs _=>match args with
 |[.int .u32 a,.int .i64 (.ofNat n)]=>(match n with
  |2|6|7|11|13|17|18|19|22|25=>some (True,.int .u32 (qN n a))
  |_=>none)
 |_=>none⟩
theorem vq0 {f:Nat} {xs:List V} {v:V} {n:Nat} (h:∀K,jQ prog [] n f xs K=K v) (ha:cH 0 xs=true) (hv:fK 0 v=true) {ids:List Nat} {w:World}:aj prog f (ao ids xs).toArray w λx w'=>x=den ids v/\Ch [] w w':=
 ta aZ.nil n (by rw[h]) ha hv ids w
theorem Jl (gl:Nat->Option Nat):Dj.Ok prog gl:=by
 intro args bl p_ v_ h hp ids w _ _;unfold Dj at h;dsimp only at h;split at h
 ·rename_i a n;split at h<;>first|cases h;done|(simp only[Option.some.injEq,Prod.mk.injEq]at h;obtain⟨rfl,rfl⟩:=h;exact vq0 (n:=30) (λK=>by kernel_rfl) rfl rfl)
 ·cases h
def w1E (f:Nat->Int) (i:Int):Int:=bits .or .u32 (bits .or .u32 (bits .or .u32 (u32.wrap (u32.wrap (f (0+(i64.wrap (4*i)).toNat))*2^24)) (u32.wrap (u32.wrap (f (0+(i64.wrap (i64.wrap (4*i)+1)).toNat))*2^16)))
 (u32.wrap (u32.wrap (f (0+(i64.wrap (i64.wrap (4*i)+2)).toNat))*2^8))) (u32.wrap (f (0+(i64.wrap (i64.wrap (4*i)+3)).toNat)))
def HE (f:Nat->Int):Nat->Nat->Int
 |0=>λ_=>0
 |k+1=>o_ (HE f k) (0+((k:Nat):Int).toNat) (w1E f (k:Nat))
def w2E (V:Nat->Int) (k:Int):Int:=
 let at_:=λd:Int=>V (0+(i64.wrap (k-d)).toNat)
 u32.wrap (u32.wrap (u32.wrap (at_ 16+at_ 7)+bits .xor .u32 (bits .xor .u32 (qN 7 (at_ 15)) (qN 18 (at_ 15))) (Int.fdiv (at_ 15) (2^3)))+bits .xor .u32 (bits .xor .u32 (qN 17 (at_ 2)) (qN 19 (at_ 2))) (Int.fdiv (at_ 2) (2^10)))
def Dk (f:Nat->Int):Nat->Nat->Int
 |0=>HE f 16
 |k+1=>o_ (Dk f k) (0+((16+k:Nat):Int).toNat) (w2E (Dk f k) ((16+k:Nat):Int))
def l8 (a b c d e f g h:Int):Nat->Int:=λj=>([a,b,c,d,e,f,g,h]:List Int).getD j 0
def rE (N W:Nat->Int) (k:Int):Nat->Int:=(l8 (u32.wrap ((u32.wrap ((u32.wrap ((u32.wrap ((u32.wrap ((N 7)+(bits .xor .u32 (bits .xor .u32 (qN 6 (N 4)) (qN 11 (N 4))) (qN 25 (N 4)))))+(bits .or .u32 (bits .and .u32 (N 4) (N 5)) (bits .and .u32 (bits .xor .u32 4294967295 (N 4)) (N 6)))))+(aX (0+(k).toNat))))+(W (0+(k).toNat))))+(u32.wrap ((bits .xor .u32 (bits .xor .u32 (qN 2 (N 0)) (qN 13 (N 0))) (qN 22 (N 0)))+(bits .or .u32 (bits .or .u32 (bits .and .u32 (N 0) (N 1)) (bits .and .u32 (N 0) (N 2))) (bits .and .u32 (N 1) (N 2))))))) (N 0) (N 1) (N 2) (u32.wrap ((N 3)+(u32.wrap ((u32.wrap ((u32.wrap ((u32.wrap ((N 7)+(bits .xor .u32 (bits .xor .u32 (qN 6 (N 4)) (qN 11 (N 4))) (qN 25 (N 4)))))+(bits .or .u32 (bits .and .u32 (N 4) (N 5)) (bits .and .u32 (bits .xor .u32 4294967295 (N 4)) (N 6)))))+(aX (0+(k).toNat))))+(W (0+(k).toNat)))))) (N 4) (N 5) (N 6))
def Gf (h W:Nat->Int):Nat->Nat->Int
 |0=>h
 |n+1=>rE (Gf h W n) W (n:Int)
def kE (h f:Nat->Int):Nat->Int:=λj=>u32.wrap (Gf h (Dk f 48) 64 j+h j)
def Gg (m:Int) (n:Nat) (X:Prop):Prop:=(0<=m/\m<(n:Int))/\0+m.toNat<n/\X
theorem g9 {m:Int} {n:Nat} {X:Prop} (h:0<=m/\m<(n:Int)) (k:X):Gg m n X:=⟨h,by omega,k⟩
theorem kF {x:Int} (h:-9223372036854775808<=x/\x<=9223372036854775807):i64.wrap x=x:=by simp[IntKind.wrap,IntKind.bits,IntKind.signed];omega
section
variable(f:Nat->Int) (K:VK Empty)
def wB (W:Nat->Int):List VB:=[⟨true,⟨205,(0,0)⟩,[.arr .u8 64 f]⟩,⟨true,⟨287,(0,0)⟩,[.arr .u32 64 λ_=>0]⟩,⟨true,⟨287,(0,0)⟩,[.arr .u32 64 W]⟩]
def w3 (i:Int):List V:=[.ptr 0 0,.ptr 1 0,.ptr 2 0,.int .i64 i]
def w1L:Lp Empty:=Xd (X:={i:Nat //i<=16}) (λi=>16-i.1) 89 3 [1,2,3,10] (λi=>w3 (i.1:Int)) (λi=>wB f (HE f i.1)) (λ_=>[]) (λ_=>rfl) (λ_=>rfl) (λ_=>rfl)
def w2L:Lp Empty:=Xd (X:={i:Nat //i<=48}) (λi=>48-i.1) 89 3 [1,2,3,5] (λi=>w3 ((16+i.1:Nat):Int)) (λi=>wB f (Dk f i.1)) (λ_=>[]) (λ_=>rfl) (λ_=>rfl) (λ_=>rfl)
def wLp:Nat->Option (Lp Empty):=λj=>match j with|0=>some (w1L f)|2=>some (w2L f)|_=>none
def wX:Prop:=
 (true=true/\P2 (λi:{i:Nat //i<=16}=>w3 (i.1:Int)) (λi=>wB f (HE f i.1)) (λ_=>[]) (w3 0) (wB f λ_=>0) ([]:List Empty))/\∀(x:{i:Nat //i<=16}) (g:Nat->Value),cond (decide ((x.1:Int)<16))
  (Gg (i64.wrap (4*(x.1:Int))) 64<|Gg (i64.wrap (i64.wrap (4*(x.1:Int))+1)) 64<|Gg (i64.wrap (i64.wrap (4*(x.1:Int))+2)) 64<|Gg (i64.wrap (i64.wrap (4*(x.1:Int))+3)) 64<|Gg (x.1:Int) 64
   (true=true/\enD (λi:{i:Nat //i<=16}=>16-i.1) (λi=>w3 (i.1:Int)) (λi=>wB f (HE f i.1)) (λ_=>[]) x (w3 (i64.wrap ((x.1:Int)+1))) (wB f (HE f (x.1+1))) ([]:List Empty)))
  ((true=true/\P2 (λi:{i:Nat //i<=48}=>w3 ((16+i.1:Nat):Int)) (λi=>wB f (Dk f i.1)) (λ_=>[]) (w3 16) (wB f (HE f x.1)) ([]:List Empty))/\∀(y:{i:Nat //i<=48}) (g:Nat->Value),cond (decide (((16+y.1:Nat):Int)<64))
    (Gg (i64.wrap (((16+y.1:Nat):Int)-15)) 64<|Gg (i64.wrap (((16+y.1:Nat):Int)-2)) 64<|True/\True/\True/\True/\(Gg (i64.wrap (((16+y.1:Nat):Int)-16)) 64<|Gg (i64.wrap (((16+y.1:Nat):Int)-7)) 64<|Gg ((16+y.1:Nat):Int) 64
     (true=true/\enD (λi:{i:Nat //i<=48}=>48-i.1) (λi=>w3 ((16+i.1:Nat):Int)) (λi=>wB f (Dk f i.1)) (λ_=>[]) y (w3 (i64.wrap (((16+y.1:Nat):Int)+1))) (wB f (Dk f (y.1+1))) ([]:List Empty))))
    (K (.agg [.arr .u32 64 (Dk f y.1)]) [] []))
theorem P3:cJ (VR prog gv (qL Empty [Dj]) (wLp f)) 60 201 [.agg [.arr .u8 64 f]] [] [] (cP 0 K)=wX f K:=by kernel_rfl
end
theorem Mj (f:Nat->Int):wX f λv _ _=>v=.agg [.arr .u32 64 (Dk f 48)]:=by
 refine⟨⟨rfl,⟨0,by omega⟩,rfl,rfl,rfl⟩,λx g=>aU (λh=>?_) λh=>?_⟩
 ·have hx:(x.1:Int)<16:=of_decide_eq_true h;have e:=kF (x:=4*(x.1:Int)) (by omega);have e1:=kF (x:=4*(x.1:Int)+1) (by omega);have e2:=kF (x:=4*(x.1:Int)+2) (by omega);have e3:=kF (x:=4*(x.1:Int)+3) (by omega);rw[e,e1,e2,e3];refine g9 (by omega) (g9 (by omega) (g9 (by omega) (g9 (by omega) (g9 (by omega) ⟨rfl,⟨x.1+1,by omega⟩,by show 16-(x.1+1)<16-x.1;omega,?_,rfl,rfl⟩))));rw[kF (by omega)];rfl
 ·have hx:x.1=16:=by have:=of_decide_eq_false h;have:=x.2;omega
  rw[hx];refine⟨⟨rfl,⟨0,by omega⟩,rfl,rfl,rfl⟩,λy g=>aU (λh=>?_) λh=>?_⟩
  ·have hy:((16+y.1:Nat):Int)<64:=of_decide_eq_true h;rw[kF (x:=((16+y.1:Nat):Int)-15) (by omega),kF (x:=((16+y.1:Nat):Int)-2) (by omega),kF (x:=((16+y.1:Nat):Int)-16) (by omega),kF (x:=((16+y.1:Nat):Int)-7) (by omega)];refine g9 (by omega) (g9 (by omega) ⟨trivial,trivial,trivial,trivial,g9 (by omega) (g9 (by omega) (g9 (by omega) ⟨rfl,⟨y.1+1,by omega⟩,by show 48-(y.1+1)<48-y.1;omega,?_,rfl,rfl⟩))⟩);rw[kF (by omega)];rfl
  ·have hy:y.1=48:=by have:=of_decide_eq_false h;have:=y.2;omega
   rw[hy]
def Dl:QF:=⟨201,λargs _=>match args with
 |[.agg [.arr .u8 64 f]]=>some (True,.agg [.arr .u32 64 (Dk f 48)])
 |_=>none⟩
theorem P4 (gl:Nat->Option Nat):Dl.Ok prog gl:=by
 intro args bl p_ v_ h hp ids w _ _;unfold Dl at h;dsimp only at h;split at h
 ·rename_i f;simp only[Option.some.injEq,Prod.mk.injEq]at h;obtain⟨rfl,rfl⟩:=h;have hv:cJ (VR prog gv (qL Empty [Dj]) (wLp f)) 60 201 [.agg [.arr .u8 64 f]] [] [] (cP 0 λv _ _=>v=.agg [.arr .u32 64 (Dk f 48)]):=by rw[P3];exact Mj f
  have di:=f_ (G:=Empty) (P:=prog) (gl:=gv) (aZ.cons (Jl _) aZ.nil);refine(bw (C:=VR prog gv (qL Empty [Dj]) (wLp f)) (_root_.Go.Proofs.YtggfpcggakghnaaGreatDoor.ai.TL di) (_root_.Go.Proofs.YtggfpcggakghnaaGreatDoor.ai.QL di) 60 (ids:=[]) (bl:=[]) (ch:=[]) (R:=[]) (ms:=[]) (w0:=w) (w:=w) (λg i h=>nomatch h) rfl (St.nil [] w) hv).mono ?_;rintro x w' ⟨y,more,bl',ch',rfl,h1,S',hK⟩;obtain⟨v2,aP,bl2,e,_,_,rfl⟩:=c9 (n0:=0) h1 (by simp) S' hK;exact⟨e.trans rfl,S'.ch⟩
 ·cases h
section
variable(t:Nat) (h f:Nat->Int) (K:VK Empty)
def i8 (h:Nat->Int):List V:=[.int .u32 (h 0),.int .u32 (h 1),.int .u32 (h 2),.int .u32 (h 3),.int .u32 (h 4),.int .u32 (h 5),.int .u32 (h 6),.int .u32 (h 7)]
def kX:VB:=⟨false,⟨t,(0,0)⟩,[.arr .u32 64 aX]⟩
def bB (N:Nat->Int):List VB:=[kX t,⟨true,⟨253,(0,0)⟩,i8 h⟩,⟨true,⟨205,(0,0)⟩,[.arr .u8 64 f]⟩,⟨true,⟨253,(0,0)⟩,i8 λ_=>0⟩,⟨true,⟨287,(0,0)⟩,[.arr .u32 64 (Dk f 48)]⟩,⟨true,⟨253,(0,0)⟩,i8 N⟩]
def b6 (i:Int):List V:=[.ptr 1 0,.ptr 2 0,.ptr 3 0,.ptr 4 0,.ptr 5 0,.int .i64 i]
def bL:Lp Empty:=Xd (X:={i:Nat //i<=64}) (λi=>64-i.1) 113 6 [2,3,4,5,6,17] (λi=>b6 (i.1:Int)) (λi=>bB t h f (Gf h (Dk f 48) i.1)) (λ_=>[]) (λ_=>rfl) (λ_=>rfl) (λ_=>rfl)
def Gi:Nat->Option Nat:=λg=>bif Nat.beq g 1 then some 0 else none
def bX:Prop:=True/\(true=true/\P2 (λi:{i:Nat //i<=64}=>b6 (i.1:Int)) (λi=>bB t h f (Gf h (Dk f 48) i.1)) (λ_=>[]) (b6 0) (bB t h f h) ([]:List Empty))/\∀(x:{i:Nat //i<=64}) (g:Nat->Value),cond (decide ((x.1:Int)<64))
 (Gg (x.1:Int) 64<|Gg (x.1:Int) 64<|True/\True/\True/\True/\True/\True/\
  (true=true/\enD (λi:{i:Nat //i<=64}=>64-i.1) (λi=>b6 (i.1:Int)) (λi=>bB t h f (Gf h (Dk f 48) i.1)) (λ_=>[]) x (b6 (i64.wrap ((x.1:Int)+1))) (bB t h f (Gf h (Dk f 48) (x.1+1))) ([]:List Empty)))
 (K (.agg (i8 λj=>u32.wrap (Gf h (Dk f 48) x.1 j+h j))) [kX t] [])
theorem P5:cJ (VR prog Gi (qL Empty [Dj,Dl]) (lp1 0 (bL t h f))) 60 163 [.agg (i8 h),.agg [.arr .u8 64 f]] [kX t] [] (cP 1 K)=bX t h f K:=by kernel_rfl
end
theorem Mk (t:Nat) (h f:Nat->Int):bX t h f λv _ _=>v=.agg (i8 (kE h f)):=by
 refine⟨trivial,⟨rfl,⟨0,by omega⟩,rfl,rfl,rfl⟩,λx g=>aU (λhh=>?_) λhh=>?_⟩
 ·have hx:(x.1:Int)<64:=of_decide_eq_true hh;refine g9 (by omega) (g9 (by omega) ⟨trivial,trivial,trivial,trivial,trivial,trivial,rfl,⟨x.1+1,by omega⟩,by show 64-(x.1+1)<64-x.1;omega,?_,rfl,rfl⟩);rw[kF (by omega)];rfl
 ·have hx:x.1=64:=by have:=of_decide_eq_false hh;have:=x.2;omega
  rw[hx];rfl
theorem Ml (t:Nat) (h f:Nat->Int) {ids:List Nat} {w:World} (hG:w.heap[1]?=some (.cells (ak .u32 64 aX) t (0,0))):aj prog 163 (ao ids [.agg (i8 h),.agg [.arr .u8 64 f]]).toArray w λx w'=>x=den ids (.agg (i8 (kE h f)))/\Ch [] w w':=by
 have hv:cJ (VR prog Gi (qL Empty [Dj,Dl]) (lp1 0 (bL t h f))) 60 163 [.agg (i8 h),.agg [.arr .u8 64 f]] [kX t] [] (cP 1 λv _ _=>v=.agg (i8 (kE h f))):=by rw[P5];exact Mk t h f
 have di:=f_ (G:=Empty) (P:=prog) (gl:=Gi) (aZ.cons (Jl _) (aZ.cons (P4 _) aZ.nil));have S0:St [] w (lits [1] [1] [kX t]++[]) w:=St.given (w:=w) [(1,.cells (ab [1] [.arr .u32 64 aX]).toArray t (0,0))] (by
  intro p hp;simp only[List.mem_singleton]at hp;subst hp;have e:(ab [1] [.arr .u32 64 aX]).toArray=ak .u32 64 aX:=by simp[ab,cl,ak]
  rw[e];exact hG)
 have e0:∀ids,ao ids [.agg (i8 h),.agg [.arr .u8 64 f]]=ao [1] [.agg (i8 h),.agg [.arr .u8 64 f]]:=λ_=>rfl;rw[e0];refine(bw (C:=VR prog Gi (qL Empty [Dj,Dl]) (lp1 0 (bL t h f))) (_root_.Go.Proofs.YtggfpcggakghnaaGreatDoor.ai.TL di) (_root_.Go.Proofs.YtggfpcggakghnaaGreatDoor.ai.QL di) 60 (ids:=[1]) (bl:=[kX t]) (ch:=[]) (R:=[]) (λg i h=>by
  have h:Gi g=some i:=h;unfold Gi at h;cases hb:Nat.beq g 1 with
  |false=>rw[hb]at h;cases h
  |true=>rw[hb]at h;cases h;exact⟨by simp,by simp[List.getD,Nat.eq_of_beq_eq_true hb]⟩) rfl S0 hv).mono ?_
 rintro x w' ⟨y,more,bl',ch',rfl,h1,S',hK⟩;obtain⟨v2,aP,bl2,e,_,_,rfl⟩:=c9 (n0:=1) h1 (by simp) S' hK;exact⟨e.trans rfl,S'.ch⟩
structure Mm (p:Prop):Prop where
 h:p
structure pj where
 bl:List av
 b:Nat
 o:Nat
 n:Nat
 f:Nat->Int
 h:∀w:World,(∀y∈bl,w.heap[y.id]?=some y.obj)->eS w b o n f
instance:Bl pj:=⟨λg=>g.bl⟩
def Xe (N:Nat):(Operand->V)->Op->List VB->List pj->VK pj->Prop:=λe op bl ch K=>match op with
 |.makeSlice t l c=>(match prog.underlying t,e l,e c with
  |some (.slice 5),.int .i64 m,.int .i64 m'=>cond (dk bl.length bl) ((m=(N:Int)/\m'=(N:Int))/\K (.sl bl.length 0 N N) (bl++[⟨true,⟨5,(0,0)⟩,[.arr .u8 N λ_=>0]⟩]) ch) False
  |_,_,_=>False)
 |.call c=>(match c.callee,c.args.toList,c.argTypes.toList with
  |.builtin .copy,[s,xs],[t,tx]=>(match prog.underlying t,e s,e xs,ch with
   |some (.slice 5),.sl i 0 n c,.raw (.slice (some ⟨b,o,none⟩) m mc),[g]=>(match bl[i]?with
    |some ⟨true,⟨5,(0,0)⟩,[.arr .u8 N' f]⟩=>((g.b=b/\g.o=o/\g.n=m)/\m<=n/\n<=N')/\K (.int .i64 (m:Int)) (bl.set i ⟨true,⟨5,(0,0)⟩,[.arr .u8 N' (iF f 0 m g.f)]⟩) ch
    |_=>False)
   |_,_,_,_=>False)
  |_,_,_=>False)
 |_=>False
theorem nZ (ids:List Nat) (N:Nat) (f:Nat->Int):(ab ids [.arr .u8 N f]).toArray=ak .u8 N f:=by simp[ab,cl,ak]
theorem Jm {N:Nat} (h0:1<=N) (h1:N<=1000):oA prog (λ_=>none) (Xe N):=by
 intro e op ids bl ch R ms w0 w K ρ o hg hl S cx ho h;unfold Xe at h;split at h
 ·rename_i t l c;split at h
  ·rename_i m m' hu Fx hec;cases hq:dk bl.length bl with
   |false=>rw[hq]at h;exact h.elim
   |true=>
    rw[hq]at h;obtain⟨⟨rfl,rfl⟩,hK⟩:=h;obtain⟨inf,wv,sP⟩:∃inf,prog.info? 5=some inf/\inf.bytes<=100:=⟨_,rfl,Nat.le_of_ble_eq_true (by kernel_rfl)⟩;have hz:∀k:Nat,(ab ids (lK [.int .u8 0] k))=(List.range k).map λ_=>Value.int .u8 0:=by
     intro k;induction k with
     |zero=>rfl
     |succ k ih=>rw[lK,bo,ih,List.range_succ_eq_map,List.map_cons,List.map_map];rfl
    have aY:=run_mk (P:=prog) (ids:=ids) (w:=w) (t:=t) (el:=5) (n:=N) (z:=0) (zc:=[.int .u8 0]) (inf:=inf) (k1:=.i64) (k2:=.i64) hu wv (by kernel_rfl) (by kernel_rfl) rfl h0 (by omega) sP;refine⟨_,[w.heap.size],_,ch,w.alloc (.cells (ab ids (lK [.int .u8 0] N)).toArray 5),.inl ?_,by simp[hl],?_,hK⟩
    ·unfold execOp;simp only[ho,cx,Fx,hec,den,Sem.run_bind,aY,Result.andThen_ok,Sem.run_pure];rw[<-hl,cy]
    ·rw[aI _ _ _ _ hl,aJ _ _ (by rw[hl];exact hq)];simp only[lits,aE,nZ];have e1:(ab ids (lK [.int .u8 0] N)).toArray=ak .u8 N λ_=>0:=by rw[hz];rfl
     rw[e1];refine(S.new (Ch.alloc [] w _) (Nat.le_refl _) (heap_alloc_new w _)).perm ?_;rw[List.append_assoc];exact List.perm_middle.symm
  ·exact h.elim
 ·rename_i c;split at h
  ·rename_i s xs t tx eU a9 ju;split at h
   ·rename_i i n cc b o' m mc g hu qc ow;split at h
    ·rename_i N' f hb;obtain⟨⟨⟨rfl,rfl,rfl⟩,hm,hn⟩,hK⟩:=h;obtain⟨FZ,ar,td⟩:=c;simp only at eU a9 ju;have e2:ar=#[s,xs]:=by rw[<-a9]
     have e3:td=#[t,tx]:=by rw[<-ju]
     subst eU e2 e3;obtain⟨hj,ba⟩:=cA hl S hb;rw[nZ]at ba;have qM:=(cA hl S hb).2;rw[nZ]at qM;have h8:eS w g.b g.o g.n g.f:=g.h w λy hy=>S.at' (List.mem_append_right _ (show y∈g.bl++R from List.mem_append_left _ hy));have Pb:Nat.min g.n n=g.n:=Nat.min_eq_left hm;have aY:=run_copy_row (P:=prog) w t tx o.type 5 (ids.getD i 0) 0 n cc ⟨g.b,g.o,none⟩ g.n mc (ak .u8 N' f) 5 (eE g.n g.f) hu (by kernel_rfl) qM (by rw[bQ,Pb]) (λj v hj=>by
      obtain⟨h1,rfl⟩:=ki hj;rw[Addr.add_lit];exact h8 j h1) (by rw[bQ,kQ];omega) qq
     have e4:((ak .u8 N' f).toList.take 0++eE g.n g.f++(ak .u8 N' f).toList.drop (0+(eE g.n g.f).length)).toArray=ak .u8 N' (iF f 0 g.n g.f):=by
      rw[bQ];exact sR .u8 f (by omega) g.f
     rw[e4]at aY;have sE:ρ s=.slice (some ⟨ids.getD i 0,0,none⟩) n cc:=by rw[cx,qc];simp only[den]
     have OM:ρ xs=.slice (some ⟨g.b,g.o,none⟩) g.n mc:=by rw[cx,ow];simp only[den]
     have hex:=u7 (P:=prog) (ρ:=ρ) (o:=o) ho sE OM aY;rw[bQ]at hex;refine⟨.int .i64 (g.n:Int),[],_,_,_,.inl hex,by simpa using hl,?_,hK⟩
     ·simp only[List.append_nil];have mK:=S.step hj rfl (Ch.setRow w _ _) (setRow_heap w (ids.getD i 0) (ak .u8 N' f) (ak .u8 N' (iF f 0 g.n g.f)) 5 (0,0) qM);have yF:i<(lits ids ids bl).length:=by rw[iQ ids bl hl];rcases Nat.lt_or_ge i bl.length with h'|h';exact h';simp[h']at hb
      rw[<-iR (ids:=ids) ids bl i _ hl,<-List.set_append_left _ _ yF];simp only[aE,nZ];exact mK
    ·exact h.elim
   ·exact h.elim
  ·exact h.elim
 ·exact h.elim
def tj (n:Nat):Int:=i64.wrap (i64.wrap (Int.tdiv (i64.wrap (i64.wrap (i64.wrap ((n:Int)+9)+64)-1)) 64)*64)
def akE (e d:Int) (i:Nat) (F:Nat->Int):Nat->Int:=o_ F (0+(i64.wrap (i64.wrap (e-1)-(i:Int))).toNat) (u8.wrap (Int.fdiv d (2^(8*i))))
def agQ (e d:Int) (F:Nat->Int):Nat->Nat->Int
 |0=>F
 |k+1=>akE e d k (agQ e d F k)
def tm (N n:Nat) (f:Nat->Int):Nat->Int:=agQ (tj n) (u64.wrap (u64.wrap (n:Int)*8)) (o_ (iF (λ_=>0) 0 n f) (0+((n:Nat):Int).toNat) 128) 8
def Xf (e:Int) (N:Nat) (X:Prop):Nat->Nat->Prop
 |0,_=>X
 |k+1,i=>Gg (i64.wrap (i64.wrap (e-1)-(i:Int))) N (Xf e N X k (i+1))
def acD (N n b o:Nat) (g:pj) (K:VK pj):Prop:=(tj n=(N:Int)/\tj n=(N:Int))/\((g.b=b/\g.o=o/\g.n=n)/\n<=N/\N<=N)/\Gg (n:Int) N (Xf (tj n) N (K (.sl 0 0 N N) [⟨true,⟨5,(0,0)⟩,[.arr .u8 N (tm N n g.f)]⟩] [g]) 8 0)
def P6 (N:Nat) (h0:1<=N) (h1:N<=1000) (f:FuncId) (args:List V) (g:pj) (K:VK pj):Prop:=cJ (mL prog (λ_=>none) ([]:List (dI pj)) (Xe N) (Jm h0 h1)) 60 f args [] [g] K
theorem P7 (g:pj) (b o n c:Nat) (K:VK pj):P6 64 (by omega) (by omega) 162 [.raw (.slice (some ⟨b,o,none⟩) n c)] g K=acD 64 n b o g K:=by kernel_rfl
theorem Mn (g:pj) (b o n c:Nat) (K:VK pj):P6 128 (by omega) (by omega) 162 [.raw (.slice (some ⟨b,o,none⟩) n c)] g K=acD 128 n b o g K:=by kernel_rfl
def Dm (H:Nat->Int):Nat->Int:=λj=>match j%4 with
 |0=>u8.wrap (Int.fdiv (H (j/4)) (2^24))
 |1=>u8.wrap (Int.fdiv (H (j/4)) (2^16))
 |2=>u8.wrap (Int.fdiv (H (j/4)) (2^8))
 |_=>u8.wrap (H (j/4))
def AH:Nat->Int:=l8 1779033703 3144134277 1013904242 2773480762 1359893119 2600822924 528734635 1541459225
def r8 (X:Nat->Int):Nat->Int:=l8 (X 0) (X 1) (X 2) (X 3) (X 4) (X 5) (X 6) (X 7)
def abc (n:Nat) (f:Nat->Int):Nat->Int:=Dm (kE AH (tm 64 n f))
def acE (f:Nat->Int) (k:Nat):Nat->Int:=λj=>f (k+j)
def P8 (n:Nat) (f:Nat->Int):Nat->Int:=Dm (kE (r8 (kE AH (tm 128 n f))) (acE (tm 128 n f) 64))
def ji (n:Nat) (f:Nat->Int):Nat->Int:=bif Nat.ble n 55 then abc n f else P8 n f
def pk:QF:=⟨163,λargs bl=>match args,bl with
 |[.agg [.int .u32 a,.int .u32 b,.int .u32 c,.int .u32 d,.int .u32 e,.int .u32 f,.int .u32 g,.int .u32 h],.agg [.arr .u8 64 F]],⟨false,⟨t,(0,0)⟩,[.arr .u32 64 R]⟩::_=>some (R=aX,.agg (i8 (kE (l8 a b c d e f g h) F)))
 |_,_=>none⟩
def acF:Nat->(Nat->Int)->List V
 |64,F=>[.arr .u8 64 F]
 |128,F=>[.arr .u8 64 F,.arr .u8 64 (acE F 64)]
 |n,F=>[.arr .u8 n F]
def Gj (N:Nat):gm pj:=λargs bl ch K=>match args,ch with
 |[.raw (.slice (some ⟨b,o,none⟩) n c)],[g]=>cond (dk bl.length bl) (((g.b=b/\g.o=o/\g.n=n)/\tj n=(N:Int)/\n<N)/\K (.sl bl.length 0 N N) (bl++[⟨true,⟨5,(0,0)⟩,acF N (tm N n g.f)⟩]) [g]) False
 |_,_=>False
def o4 (x:Int):List V:=[.int .u8 (u8.wrap (Int.fdiv x (2^24))),.int .u8 (u8.wrap (Int.fdiv x (2^16))),.int .u8 (u8.wrap (Int.fdiv x (2^8))),.int .u8 (u8.wrap x)]
def Jn (H:Nat->Int):List V:=o4 (H 0)++(o4 (H 1)++(o4 (H 2)++(o4 (H 3)++(o4 (H 4)++(o4 (H 5)++(o4 (H 6)++o4 (H 7)))))))
theorem Mo (H:Nat->Int) (ids:List Nat):den ids (.agg (Jn H))=.agg (ak .u8 32 (Dm H)):=by kernel_rfl
section
variable(t:Nat) (g:pj) (b o n c:Nat) (K:VK pj)
theorem P9:cJ (dR prog Gi (⟨162,false,Gj 64⟩::qL pj [pk])) 60 106 [.raw (.slice (some ⟨b,o,none⟩) n c)] [kX t] [g] (cP 1 K)=(((g.b=b/\g.o=o/\g.n=n)/\tj n=((64:Nat):Int)/\n<64)/\aX=aX/\K (.agg (Jn (kE AH (tm 64 n g.f)))) [kX t] [g]):=by kernel_rfl
theorem Mp:cJ (dR prog Gi (⟨162,false,Gj 128⟩::qL pj [pk])) 60 106 [.raw (.slice (some ⟨b,o,none⟩) n c)] [kX t] [g] (cP 1 K)=(((g.b=b/\g.o=o/\g.n=n)/\tj n=((128:Nat):Int)/\n<128)/\aX=aX/\aX=aX/\K (.agg (Jn (kE (r8 (kE AH (tm 128 n g.f))) (acE (tm 128 n g.f) 64)))) [kX t] [g]):=by kernel_rfl
end
theorem akF {w:World} {b o n:Nat} {f:Nat->Int} (h:eS w b o n f):∃g:pj,(g.b=b/\g.o=o/\g.n=n)/\g.f=f/\∃ps:List (Nat×Obj),g.bl=ps.map (λp=>⟨p.1,false,p.2⟩)/\∀p∈ps,w.heap[p.1]?=some p.2:=by
 rcases Nat.eq_zero_or_pos n with rfl|hn
 ·exact⟨⟨[],b,o,0,f,λ_ _ j hj=>absurd hj (by omega)⟩,⟨rfl,rfl,rfl⟩,rfl,[],rfl,λ_ h=>nomatch h⟩
 ·cases hb:w.heap[b]?with
  |none=>
   have:=h 0 hn;unfold World.cell? at this;simp only[hb]at this;cases this
  |some ob=>
   refine⟨⟨[⟨b,false,ob⟩],b,o,n,f,λw' hw j hj=>?_⟩,⟨rfl,rfl,rfl⟩,rfl,[(b,ob)],rfl,?_⟩
   ·have h1:=h j hj;have h2:w'.heap[b]?=some ob:=hw _ (List.mem_singleton.2 rfl);unfold World.cell? at h1⊢;simp only[hb]at h1;simp only[h2];exact h1
   ·intro p hp;obtain rfl:=List.mem_singleton.1 hp;exact hb
theorem Jo {e:Int} {N:Nat} {X:Prop} (he:e=(N:Int)) (h8:8<=N) (hN:N<=1000) (hX:X):∀k i,i+k<=8->Xf e N X k i
 |0,_,_=>hX
 |k+1,i,h=>by
  have e1:i64.wrap (i64.wrap (e-1)-(i:Int))=(N:Int)-1-(i:Int):=by rw[he,kF (x:=(N:Int)-1) (by omega),kF (by omega)]
  unfold Xf;rw[e1];exact g9 (by omega) (Jo he h8 hN hX k (i+1) (by omega))
theorem Jp {n:Nat} (h:n<=55):tj n=((64:Nat):Int):=by
 unfold tj;rw[kF (x:=(n:Int)+9) (by omega),kF (x:=(n:Int)+9+64) (by omega),kF (x:=(n:Int)+9+64-1) (by omega),Int.tdiv_eq_ediv_of_nonneg (by omega),show((n:Int)+9+64-1)/64=1 by omega];rfl
theorem Jq {n:Nat} (h:56<=n) (h2:n<=119):tj n=((128:Nat):Int):=by
 unfold tj;rw[kF (x:=(n:Int)+9) (by omega),kF (x:=(n:Int)+9+64) (by omega),kF (x:=(n:Int)+9+64-1) (by omega),Int.tdiv_eq_ediv_of_nonneg (by omega),show((n:Int)+9+64-1)/64=2 by omega];rfl
theorem P_ {N:Nat} (h0:1<=N) (h1:N<=1000) {f:Nat} {args:List V} {g:pj} {K:VK pj} (h:Mm (P6 N h0 h1 f args g K)) {R:List av} {ms:List Nat} {w0 w:World} (S:St ms w0 (g.bl++R) w):
 aj prog f (ao [] args).toArray w λv w1=>∃x more b ch,v=den more x/\more.length=b.length/\St ms w0 (lits more more b++af ch R) w1/\K x b ch:=by
 have S0:St ms w0 (lits [] [] []++af [g] R) w:=S;exact bw (ai.nil (G:=pj) (P:=prog) (gl:=λ_=>none)).T (ai.nil (G:=pj) (P:=prog) (gl:=λ_=>none)).Q 60 (C:=mL prog (λ_=>none) ([]:List (dI pj)) (Xe N) (Jm h0 h1)) (ids:=[]) (bl:=[]) (ch:=[g]) (R:=R) Gl.none rfl S0 h.h
def Xg (N n:Nat) (g:pj):VK pj:=λv bl ch=>v=.sl 0 0 N N/\bl=[⟨true,⟨5,(0,0)⟩,[.arr .u8 N (tm N n g.f)]⟩]/\ch=[g]
theorem Jr {N n b o:Nat} {g:pj} (h8:8<=N) (h1:N<=1000) (hg:g.b=b/\g.o=o/\g.n=n) (he:tj n=(N:Int)) (hn:n<N):acD N n b o g (Xg N n g):=
 ⟨⟨he,he⟩,⟨hg,by omega,Nat.le_refl _⟩,g9 (by omega) (Jo he h8 h1 ⟨rfl,rfl,rfl⟩ 8 0 (by omega))⟩
theorem Xh {N:Nat} (h0:1<=N) (h8:8<=N) (h1:N<=1000) {b o n c:Nat} (g:pj) (fU:Mm (P6 N h0 h1 162 [.raw (.slice (some ⟨b,o,none⟩) n c)] g (Xg N n g)))
 {R:List av} {ms:List Nat} {w0 w:World} (S:St ms w0 (g.bl++R) w):aj prog 162 #[.slice (some ⟨b,o,none⟩) n c] w λv w1=>∃b',v=.slice (some ⟨b',0,none⟩) N N/\St ms w0 (⟨b',true,.cells (ak .u8 N (tm N n g.f)) 5 (0,0)⟩::(g.bl++R)) w1:=by
 have hr:=P_ h0 h1 (f:=162) (args:=[.raw (.slice (some ⟨b,o,none⟩) n c)]) (g:=g) (K:=Xg N n g) fU S;have e0:(ao [] [V.raw (.slice (some ⟨b,o,none⟩) n c)]).toArray=#[.slice (some ⟨b,o,none⟩) n c]:=rfl;rw[e0]at hr;clear fU;refine hr.mono ?_;rintro v w' ⟨y,more,bl',ch',rfl,hl,S',rfl,rfl,rfl⟩
 match more,hl with
 |[b'],_=>
  refine⟨b',rfl,?_⟩;have e:lits [b'] [b'] [⟨true,⟨5,(0,0)⟩,[.arr .u8 N (tm N n g.f)]⟩]=[⟨b',true,.cells (ak .u8 N (tm N n g.f)) 5 (0,0)⟩]:=by
   simp only[lits,aE,nZ]
  rw[e]at S';exact S'
theorem Xi (ids:List Nat) {N:Nat} (hN:N=64\/N=128) (F:Nat->Int):(ab ids (acF N F)).toArray=ak .u8 N F:=by
 rcases hN with rfl|rfl
 ·exact nZ ids 64 F
 ·have e:List.range 128=List.range 64++(List.range 64).map (64+·):=by decide
  unfold acF ak;rw[e,List.map_append,List.map_map];simp only[ab,cl,List.append_nil];rfl
theorem Gk {N:Nat} (hN:N=64\/N=128) (gl:Nat->Option Nat):Sound prog gl 162 (Gj N):=by
 intro args ids bl ch R ms w0 w K hg hl S hc;unfold Gj at hc;split at hc
 ·rename_i b o n c g;cases hq:dk bl.length bl with
  |false=>rw[hq]at hc;exact hc.elim
  |true=>
   rw[hq]at hc;obtain⟨⟨hgg,he,hn⟩,hK⟩:=hc;have fU:∃(h0:1<=N) (h1:N<=1000),8<=N/\Mm (P6 N h0 h1 162 [.raw (.slice (some ⟨b,o,none⟩) n c)] g (Xg N n g)):=by
    rcases hN with rfl|rfl
    ·exact⟨by omega,by omega,by omega,⟨by rw[P7];exact Jr (by omega) (by omega) hgg he hn⟩⟩
    ·exact⟨by omega,by omega,by omega,⟨by rw[Mn];exact Jr (by omega) (by omega) hgg he hn⟩⟩
   obtain⟨h0,h1,h8,fU⟩:=fU;have S1:St ms w0 (g.bl++(lits ids ids bl++R)) w:=S.perm (List.perm_append_comm_assoc _ _ _);refine(Xh h0 h8 h1 g fU S1).mono ?_;rintro v w' ⟨b',rfl,S2⟩;refine⟨_,[b'],_,_,?_,by simp[hl],?_,hK⟩
   ·simp only[den];rw[<-hl,cy]
   ·rw[aI _ _ _ _ hl,aJ _ _ (by rw[hl];exact hq)];simp only[lits,aE,Xi _ hN];refine S2.perm ?_;show List.Perm ([_]++(g.bl++(lits ids ids bl++R))) ((lits ids ids bl++[_])++(g.bl++R));refine(List.Perm.append_left _ (List.perm_append_comm_assoc _ _ _)).trans ?_;rw[<-List.append_assoc];exact List.Perm.append_right _ List.perm_append_comm
 ·exact hc.elim
theorem Mq:pk.Ok prog Gi:=by
 intro args bl p_ v_ h hp ids w hg hm;unfold pk at h;dsimp only at h;split at h
 ·rename_i a b c d e f g h' F t R bl';simp only[Option.some.injEq,Prod.mk.injEq]at h;obtain⟨rfl,rfl⟩:=h;subst hp;have h1:=hm.2 0 _ rfl;rw[(hg 1 0 rfl).2]at h1;have e1:(ab ids [.arr .u32 64 aX]).toArray=ak .u32 64 aX:=by simp[ab,cl,ak]
  rw[e1]at h1;exact Ml t (l8 a b c d e f g h') F h1
 ·cases h
theorem Js {N n:Nat} (hN:N=64\/N=128) {b o c t:Nat} {f H:Nat->Int} {w:World} (hG:w.heap[1]?=some (.cells (ak .u32 64 aX) t (0,0))) (hB:eS w b o n f) (he:tj n=(N:Int)) (hn:n<N)
 (fU:∀g:pj,(g.b=b/\g.o=o/\g.n=n)->g.f=f->cJ (dR prog Gi (⟨162,false,Gj N⟩::qL pj [pk])) 60 106 [.raw (.slice (some ⟨b,o,none⟩) n c)] [kX t] [g] (cP 1 λv _ _=>v=.agg (Jn H))):
 aj prog 106 #[.slice (some ⟨b,o,none⟩) n c] w λv w1=>v=.agg (ak .u8 32 (Dm H))/\Ch [] w w1:=by
 obtain⟨g,hg,hf,ps,Mc,hh⟩:=akF hB;have di:ai prog Gi (⟨162,false,Gj N⟩::qL pj [pk]):=ai.cons ⟨Gk hN Gi,λe=>by cases e⟩ (f_ (aZ.cons Mq aZ.nil));have S0:St [] w (lits [1] [1] [kX t]++af [g] []) w:=by
  have:=St.given (w:=w) ((1,.cells (ab [1] [.arr .u32 64 aX]).toArray t (0,0))::ps) (by
   intro p hp;rcases List.mem_cons.1 hp with rfl|hp
   ·have e:(ab [1] [.arr .u32 64 aX]).toArray=ak .u32 64 aX:=by simp[ab,cl,ak]
    rw[e];exact hG
   ·exact hh p hp)
  show St [] w ([_]++(g.bl++[])) w;rw[Mc,List.append_nil];exact this
 refine(bw di.T di.Q 60 (C:=dR prog Gi (⟨162,false,Gj N⟩::qL pj [pk])) (ids:=[1]) (bl:=[kX t]) (ch:=[g]) (R:=[]) (λg i h=>by
  have h:Gi g=some i:=h;unfold Gi at h;cases hb:Nat.beq g 1 with
  |false=>rw[hb]at h;cases h
  |true=>rw[hb]at h;cases h;exact⟨by simp,by simp[List.getD,Nat.eq_of_beq_eq_true hb]⟩) rfl S0 (fU g hg hf)).mono ?_
 rintro v w' ⟨y,more,bl',ch',rfl,h1,S',hK⟩;obtain⟨v2,aP,bl2,e,_,_,rfl⟩:=c9 (n0:=1) h1 (by simp) S' hK;exact⟨e.trans (Mo H _),S'.ch⟩
theorem AI (b o n c:Nat) (f:Nat->Int) (hn:n<=119) {tG:TypeId} (w:World) (hG:w.heap[1]?=some (.cells (ak .u32 64 aX) tG (0,0))) (hB:eS w b o n f):aj prog 106 #[.slice (some ⟨b,o,none⟩) n c] w λv w1=>v=.agg (ak .u8 32 (ji n f))/\Ch [] w w1:=by
 unfold ji;by_cases h:n<=55
 ·rw[Nat.ble_eq_true_of_le h];exact Js (.inl rfl) hG hB (Jp h) (by omega) λg hg hf=>by rw[P9,hf];exact⟨⟨hg,Jp h,by omega⟩,rfl,rfl⟩
 ·have hb:Nat.ble n 55=false:=by
   cases e:Nat.ble n 55 with
   |false=>rfl
   |true=>exact absurd (Nat.le_of_ble_eq_true e) h
  rw[hb];exact Js (.inr rfl) hG hB (Jq (by omega) hn) (by omega) λg hg hf=>by rw[Mp,hf];exact⟨⟨hg,Jq (by omega) hn,by omega⟩,rfl,rfl,rfl⟩
end Go.Proofs.YtggfpcggakghnaaGreatDoor
