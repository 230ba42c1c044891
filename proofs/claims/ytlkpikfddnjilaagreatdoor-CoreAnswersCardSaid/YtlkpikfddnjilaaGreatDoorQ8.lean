/- Part 8 of the proof. -/
import Derived.Test.YtlkpikfddnjilaaGreatDoorProg
import Derived.Test.YtlkpikfddnjilaaGreatDoorQ7
set_option linter.all false
set_option maxRecDepth 100000
set_option maxHeartbeats 4000000
open Go.Proofs.Tryz
open Go.IntKind (u8 u16 u32 u64 i64)
namespace Vx
open Go Go.RowKit Go.BigFrame Sx
variable{G:Type} [Bl G]
def aar (P:Program):(Operand->V)->Op->List VB->List G->VK G->Prop:=λe op bl ch K=>match op with
 |.call c=>(match c.callee,c.args.toList,c.argTypes.toList with
  |.builtin .append,[s,xs],[t,tx]=>(match P.underlying t,P.underlying tx with
   |some (.slice T),some (.slice _)=>(match g9 P T,e s,e xs with
    |some (z,eo),.raw (.slice none 0 0),.sl i 0 (m+1) _=>(match bl[i]?with
     |some b=>cond (Nat.beq (eF b.c) ((m+1)*z)&&(oL b.c&&(Nat.ble eo 10000000&&(Nat.ble (m+1) 1000000&&(cG bl.length b.c&&dE bl.length bl)))))
      (∀(c':Nat) (u:List Value),m+1<=c'->eF (b.c++[.rest u])=c'*z->K (.sl bl.length 0 (m+1) c') (bl++[⟨true,T,b.c++[.rest u]⟩]) ch) False
     |none=>False)
    |_,_,_=>False)
   |_,_=>False)
  |_,_,_=>False)
 |_=>False
theorem Uv {P:Program} {gl:Nat->Option Nat}:rR (G:=G) P gl (aar P):=by
 intro e op ids bl ch R ms w0 w K ρ o hg hl S cz ho h;unfold aar at h;split at h
 ·rename_i c;split at h
  ·rename_i s xs t tx eV bd jL;split at h
   ·rename_i T T' ht pJ;split at h
    ·rename_i z eo i m Eh aI rJ pI;split at h
     ·rename_i b hb;cases hq:Nat.beq (eF b.c) ((m+1)*z)&&(oL b.c&&(Nat.ble eo 10000000&&(Nat.ble (m+1) 1000000&&(cG bl.length b.c&&dE bl.length bl))))with
      |false=>rw[hq]at h;exact h.elim
      |true=>
       rw[hq]at h;simp only[cond_true]at h;simp only[Bool.and_eq_true]at hq;obtain⟨q3,q4,q5,q6,q9,q10⟩:=hq;have q3:=Nat.eq_of_beq_eq_true q3;have q5:=Nat.le_of_ble_eq_true q5;have q6:=Nat.le_of_ble_eq_true q6;have bD:=(cQ hl S hb).2;have qj:(af ids b.c).length=(m+1)*z:=by rw[cP,q3]
       have fp:Src P z tx (.slice (some ⟨ids.getD i 0,0,none⟩) (m+1) Eh) (m+1) (af ids b.c) w:=by
        refine Src.ofSlice w pJ ⟨ids.getD i 0,0,none⟩ (m+1) Eh _ qj (λj u hj=>?_) (λu hu=>ni q4 u hu);rw[Addr.add_lit,cell_of bD];simpa using hj
       have Bt:(0+(m+1))*eo<=140737488355328:=Nat.le_trans (Nat.mul_le_mul (by omega:0+(m+1)<=1000000) q5) (by decide);obtain⟨HA,ar,tJ⟩:=c;simp only at eV bd jL;have e2:ar=#[s,xs]:=by rw[<-bd]
       have e3:tJ=#[t,tx]:=by rw[<-jL]
       subst eV e2 e3;obtain⟨v,w',a_,hc,x',c',bl',rfl,⟨r1,r2,r3⟩,vb⟩:=ie (P:=P) (ty:=o.type) (ib z T) (by simp) eo fp ht (lv aI) Bt (Nat.le_trans (by omega:0+(m+1)<=1000000) (by decide));rcases r3 with⟨_,h0,_⟩|⟨b',tail,rfl,rfl,hlen⟩
       ·omega
       ·obtain⟨hh,hid⟩:=vb _ (List.mem_singleton.2 rfl);have mj:w.heap.size<=b':=by
         rcases hid with⟨u,hu,_⟩|h
         ·cases hu
         ·exact h
        simp only[List.nil_append,Nat.zero_add]at hh hlen r2 a_;have dd:∀(is:List Nat) (u:List Value),af is (b.c++[.rest u])=af is b.c++u:=λis u=>by
         rw[bj];simp[af,cl]
        have NM:cG ids.length (b.c++[.rest tail])=true:=by
         rw[hl];have JQ:∀(x y:List V),cG bl.length x=true->cG bl.length y=true->cG bl.length (x++y)=true:=by
          intro x y;induction x with
          |nil=>intro _ h;simpa using h
          |cons v x ih=>intro h1 h2;simp only[List.cons_append,cG,Bool.and_eq_true]at h1⊢;exact⟨h1.1,ih h1.2 h2⟩
         exact JQ _ _ q9 rfl
        refine⟨_,[b'],_,ch,w',.inl ?_,by simp[hl],?_,h c' tail r2 ?_⟩
        ·have:=bN (P:=P) (ρ:=ρ) (o:=o) ho (sv:=.slice none 0 0) (xv:=.slice (some ⟨ids.getD i 0,0,none⟩) (m+1) Eh) (by rw[cz,rJ];simp only[den]) (by rw[cz,pI];simp only[den]) a_;rw[this];simp only[den];rw[<-hl,cv]
        ·rw[aQ _ _ _ _ hl,aR _ _ (by rw[hl];exact q10)];simp only[lits,aL];rw[bY _ NM,dd];have:=S.new hc mj hh;refine this.perm ?_;rw[List.append_assoc (lits ids ids bl)];exact(List.perm_middle).symm
        ·rw[<-cP (ids:=ids),dd,hlen]
     ·exact h.elim
    ·exact h.elim
   ·exact h.elim
  ·exact h.elim
 ·exact h.elim
theorem ve {P:Program} {gl:Nat->Option Nat} {a b:(Operand->V)->Op->List VB->List G->VK G->Prop} (t:(Operand->V)->Op->Bool) (ha:rR P gl a) (hb:rR P gl b):rR P gl (λe op bl ch K=>cond (t e op) (a e op bl ch K) (b e op bl ch K)):=by
 intro e op ids bl ch R ms w0 w K ρ o hg hl S cz ho h;cases ht:t e op with
 |true=>simp only[ht]at h;exact ha e op ids bl ch R ms w0 w K ρ o hg hl S cz ho h
 |false=>simp only[ht]at h;exact hb e op ids bl ch R ms w0 w K ρ o hg hl S cz ho h
def aeC (e:Operand->V) (op:Op):Bool:=match op with
 |.call c=>(match c.args.toList with
  |s::_=>(match e s with|.sl _ _ _ _=>true|_=>false)
  |_=>false)
 |_=>false
def NP (P:Program):(Operand->V)->Op->List VB->List G->VK G->Prop:=λe op bl ch K=>cond (aeC e op) (Ur P e op bl ch K) (aar P e op bl ch K)
theorem ua {P:Program} {gl:Nat->Option Nat}:rR (G:=G) P gl (NP P):=ve aeC HG Uv
end Vx
namespace Vx
open Go Sx
section
variable{ids:List Nat} {P:Program} {w:World}
theorem iw0 {n:Nat} (h:n<=1000000):i64.wrap (n:Int)=n:=by simp[IntKind.wrap,IntKind.bits,IntKind.signed];omega
theorem run_mk {t el:TypeId} {n z:Nat} {zc:List V} {inf:TypeInfo} {k1 k2:IntKind} (hu:P.underlying t=some (.slice el)) (hi:P.info? el=some inf) (hz:jQ P el=some (z+1)) (h0:iS P el=some zc) (hl:eF zc=z+1) (h1:1<=n) (hn:n<=1000000) (hb:inf.bytes<=100):
 (Instr.makeSlice t (.int k1 (n:Int)) (.int k2 (n:Int))).run P w=.ok (.slice (some ⟨w.heap.size,0,none⟩) n n) (w.alloc (.cells (af ids (ln zc n)).toArray el)):=by
 obtain⟨v0,z1,z2⟩:=ju (P:=P) (w:=w) (ids:=ids) h0;have hv:v0.cells.size=z+1:=by rw[<-Array.length_toList,z2,cP,hl]
 have Nm:(Array.range (n*(z+1))).map (λi=>v0.cells[i%v0.cells.size]!)=(af ids (ln zc n)).toArray:=by
  apply Array.ext';rw[rQ v0.cells z hv,z2,BN]
 have hm:inf.bytes*n<=100000000:=Nat.le_trans (Nat.mul_le_mul hb hn) (by decide);have e1:(decide ((n:Int)<0)||decide ((inf.bytes:Int)*(n:Int)>2^48))=false:=by
  have:(inf.bytes:Int)*(n:Int)<=100000000:=by
   have q:=Int.ofNat_le.2 hm;rw[Int.natCast_mul]at q;exact q
  rw[decide_eq_false (by omega),decide_eq_false (by omega)];rfl
 have e2:¬(n*inf.bytes>roomBytes):=by
  have:n*inf.bytes<=100000000:=by rw[Nat.mul_comm];exact hm
  show¬(n*inf.bytes>_);unfold roomBytes;omega
 have e3:¬n*(z+1)=0:=by
  intro h;rcases Nat.mul_eq_zero.1 h with h|h<;>omega
 simp only[Instr.makeSlice,Sem.run_bind,run_underlying hu,Result.andThen_ok,asInt,asIntOf,Sem.run_pure,qb hi,iw0 hn,e1,Bool.false_or,askRoom,if_neg e2,Int.toNat_natCast,bb hz,if_neg e3,z1];simp only[show decide ((n:Int)<0)=false by simp,show decide ((n:Int)>(n:Int))=false by simp,Bool.or_self,Bool.false_eq_true,if_false,Sem.run_bind,Sem.run_pure,Result.andThen_ok,bb hz,if_neg e3,z1];rw[Nm];rfl
end
variable{G:Type} [Bl G]
def ot (P:Program):(Operand->V)->Op->List VB->List G->VK G->Prop:=λe op bl ch K=>match op with
 |.makeSlice t l c=>(match P.underlying t,e l,e c with
  |some (.slice el),.int _ (.ofNat n),.int _ (.ofNat m)=>(match P.info? el,jQ P el,iS P el with
   |some inf,some (z+1),some zc=>cond (Nat.beq n m&&(Nat.beq (eF zc) (z+1)&&(Nat.ble 1 n&&(Nat.ble n 1000000&&(Nat.ble inf.bytes 100&&(dE bl.length bl&&cG bl.length (ln zc n))))))) (K (.sl bl.length 0 n n) (bl++[⟨true,el,ln zc n⟩]) ch) False
   |_,_,_=>False)
  |_,_,_=>False)
 |_=>False
theorem aas {P:Program} {gl:Nat->Option Nat}:rR (G:=G) P gl (ot P):=by
 intro e op ids bl ch R ms w0 w K ρ o hg hl S cz ho h;unfold ot at h;split at h
 ·rename_i t l c;split at h
  ·rename_i el k1 n k2 m hu Ei hec;split at h
   ·rename_i inf z zc hi hz h0;cases hq:Nat.beq n m&&(Nat.beq (eF zc) (z+1)&&(Nat.ble 1 n&&(Nat.ble n 1000000&&(Nat.ble inf.bytes 100&&(dE bl.length bl&&cG bl.length (ln zc n))))))with
    |false=>rw[hq]at h;exact h.elim
    |true=>
     rw[hq]at h;simp only[Bool.and_eq_true]at hq;obtain⟨q1,q2,q3,q4,q5,q6,q7⟩:=hq;obtain rfl:=Nat.eq_of_beq_eq_true q1;have a_:=run_mk (ids:=ids) (w:=w) (k1:=k1) (k2:=k2) hu hi hz h0 (Nat.eq_of_beq_eq_true q2) (Nat.le_of_ble_eq_true q3) (Nat.le_of_ble_eq_true q4) (Nat.le_of_ble_eq_true q5);obtain⟨g1,g2⟩:=grow hl S ⟨true,el,ln zc n⟩ rfl rfl (by rw[hl];exact q6) (by rw[hl];exact q7);refine⟨_,[w.heap.size],_,ch,_,.inl ?_,g2,g1,h⟩;unfold execOp;rw[ho];simp only[cz,Ei,hec,den];have e1:Int.ofNat n=(n:Int):=rfl;rw[e1,Sem.run_bind,a_,Result.andThen_ok,Sem.run_pure,<-hl,cv]
   ·exact h.elim
  ·exact h.elim
 ·exact h.elim
def aeD (e:Operand->V) (op:Op):Bool:=match op with
 |.makeSlice _ _ _=>true
 |_=>false
def JS (P:Program):(Operand->V)->Op->List VB->List G->VK G->Prop:=λe op bl ch K=>cond (aeD e op) (ot P e op bl ch K) (NP P e op bl ch K)
theorem ql {P:Program} {gl:Nat->Option Nat}:rR (G:=G) P gl (JS P):=ve aeD aas ua
end Vx
namespace Vx
open Go Go.RowKit Go.BigFrame Sx
theorem zC {P:Program} {w:World} {z T m:Nat} {x:Option Addr} {news:List Value} {t tx ty:TypeId} {xv:Value} (bytes:Nat) (hs:Src P z tx xv m news w) (yS:0<m) (ht:P.underlying t=some (.slice T))
 (hi:(P.info? T).map (λi=>(i.zero.map (·.cells.size),i.size,i.bytes))=some (some z,z,bytes)) (hb:m*bytes<=140737488355328) (h63:m<=maxLen):
 ∃b' c' te w',(Builtin.append_ #[t,tx] ty #[.slice x 0 0,xv]).run P w=.ok (.slice (some ⟨b',0,none⟩) m c') w'/\Ch [] w w'/\w.heap.size<=b'/\w'.heap[b']?=some (.cells (news++te).toArray T (0,0))/\(news++te).length=c'*z/\m<=c':=by
 obtain⟨i,aI,hi⟩:=Option.map_eq_some_iff.1 hi;simp only[Prod.mk.injEq]at hi;obtain⟨hz,iQ,Bn⟩:=hi;obtain⟨z0,Eg,Jp⟩:=Option.map_eq_some_iff.1 hz;have Jq:=hs.newsLen;have w9:Src P i.size tx xv m news w:=by rw[iQ];exact hs
 have hold:(Builtin.firstCells i.size 0 (.slice x 0 0)).run P w.drew=.ok ([]:List Value).toArray w.drew:=by
  cases x with
  |none=>exact run_firstCells_none (P:=P) w.drew i.size 0 0 0
  |some a=>exact run_firstCells_some (P:=P) w.drew i.size 0 a 0 0 [] (by simp) (λj v hj=>by simp at hj)
 have a_:=run_append_grow_src (P:=P) w t tx ty T i z0 ht aI Eg x 0 0 [] hold xv m news w9 (by omega) (by simp only[maxLen]at h63;omega) (by rw[Bn];exact growslice_fits (by omega) (by rw[Nat.zero_add];exact hb));simp only[Nat.zero_add]at a_;have mj:=grownCap_ge w m 0 T;refine⟨w.heap.size,grownCap w m 0 T,(Builtin.zeroCells z0.cells (grownCap w m 0 T-m)).toList,_,a_,?_,Nat.le_refl _,?_,?_,mj⟩
 ·exact((Ch.refl [] w).drew).trans (Ch.alloc [] w.drew _) (λx hx=>.inl hx)
 ·have:=heap_alloc_new w.drew (.cells ((([]:List Value)++news).toArray++Builtin.zeroCells z0.cells (grownCap w m 0 T-m)) T);refine Eq.trans this ?_;congr 2;apply Array.ext';simp
 ·rw[List.length_append,Jq,Array.length_toList,size_zeroCells,Jp,<-Nat.add_mul];congr 1;omega
variable{G:Type} [Bl G]
def aat (P:Program):(Operand->V)->Op->List VB->List G->VK G->Prop:=λe op bl ch K=>match op with
 |.call c=>(match c.callee,c.args.toList,c.argTypes.toList with
  |.builtin .append,[s,xs],[t,tx]=>(match P.underlying t,P.underlying tx with
   |some (.slice T),some (.slice _)=>(match g9 P T,e s,e xs with
    |some (z,eo),.sl _ _ 0 0,.sl i 0 (m+1) _=>(match bl[i]?with
     |some b=>(match BG b.c 0 ((m+1)*z)with
      |some C=>cond (oL C&&(Nat.ble eo 10000000&&(Nat.ble (m+1) 1000000&&(cG bl.length C&&dE bl.length bl))))
       (∀(c':Nat) (u:List Value),m+1<=c'->eF (C++[.rest u])=c'*z->K (.sl bl.length 0 (m+1) c') (bl++[⟨true,T,C++[.rest u]⟩]) ch) False
      |none=>False)
     |none=>False)
    |_,_,_=>False)
   |_,_=>False)
  |_,_,_=>False)
 |_=>False
theorem Uw {P:Program} {gl:Nat->Option Nat}:rR (G:=G) P gl (aat P):=by
 intro e op ids bl ch R ms w0 w K ρ o hg hl S cz ho h;unfold aat at h;split at h
 ·rename_i c;split at h
  ·rename_i s xs t tx eV bd jL;split at h
   ·rename_i T T' ht pJ;split at h
    ·rename_i z eo j0 o0 i m Eh aI rJ pI;split at h
     ·rename_i b hb;split at h
      ·rename_i C hC;cases hq:oL C&&(Nat.ble eo 10000000&&(Nat.ble (m+1) 1000000&&(cG bl.length C&&dE bl.length bl)))with
       |false=>rw[hq]at h;exact h.elim
       |true=>
        rw[hq]at h;simp only[cond_true]at h;simp only[Bool.and_eq_true]at hq;obtain⟨q4,q5,q6,q9,q10⟩:=hq;have q5:=Nat.le_of_ble_eq_true q5;have q6:=Nat.le_of_ble_eq_true q6;have bD:=(cQ hl S hb).2;obtain⟨g1,g2,g3⟩:=jY (ids:=ids) hC;rw[List.drop_zero]at g1;have qj:(af ids C).length=(m+1)*z:=by rw[<-g1,List.length_take];omega
        have fp:Src P z tx (.slice (some ⟨ids.getD i 0,0,none⟩) (m+1) Eh) (m+1) (af ids C) w:=by
         refine Src.ofSlice w pJ ⟨ids.getD i 0,0,none⟩ (m+1) Eh _ qj (λj u hj=>?_) (λu hu=>ni q4 u hu);rw[Addr.add_lit,cell_of bD];rw[<-g1]at hj;have S_:j<(m+1)*z:=by
          rcases Nat.lt_or_ge j ((m+1)*z)with h|h
          ·exact h
          ·rw[List.getElem?_eq_none (by rw[List.length_take];omega)]at hj;cases hj
         rw[List.getElem?_take_of_lt S_]at hj;simpa using hj
        have Bt:(m+1)*eo<=140737488355328:=Nat.le_trans (Nat.mul_le_mul q6 q5) (by decide);obtain⟨HA,ar,tJ⟩:=c;simp only at eV bd jL;have e2:ar=#[s,xs]:=by rw[<-bd]
        have e3:tJ=#[t,tx]:=by rw[<-jL]
        subst eV e2 e3;obtain⟨b',c',tail,w',a_,hc,mj,hh,hlen,r2⟩:=zC (P:=P) (ty:=o.type) (x:=some ⟨ids.getD j0 0,o0,none⟩) eo fp (by omega) ht (lv aI) Bt (Nat.le_trans q6 (by decide));have dd:∀(is:List Nat) (u:List Value),af is (C++[.rest u])=af is C++u:=λis u=>by
         rw[bj];simp[af,cl]
        have NM:cG ids.length (C++[.rest tail])=true:=by
         rw[hl];have JQ:∀(x y:List V),cG bl.length x=true->cG bl.length y=true->cG bl.length (x++y)=true:=by
          intro x y;induction x with
          |nil=>intro _ h;simpa using h
          |cons v x ih=>intro h1 h2;simp only[List.cons_append,cG,Bool.and_eq_true]at h1⊢;exact⟨h1.1,ih h1.2 h2⟩
         exact JQ _ _ q9 rfl
        refine⟨_,[b'],_,ch,w',.inl ?_,by simp[hl],?_,h c' tail r2 ?_⟩
        ·have:=bN (P:=P) (ρ:=ρ) (o:=o) ho (sv:=.slice (some ⟨ids.getD j0 0,o0,none⟩) 0 0) (xv:=.slice (some ⟨ids.getD i 0,0,none⟩) (m+1) Eh) (by rw[cz,rJ];simp only[den]) (by rw[cz,pI];simp only[den]) a_;rw[this];simp only[den];rw[<-hl,cv]
        ·rw[aQ _ _ _ _ hl,aR _ _ (by rw[hl];exact q10)];simp only[lits,aL];rw[bY _ NM,dd];have:=S.new hc mj hh;refine this.perm ?_;rw[List.append_assoc (lits ids ids bl)];exact(List.perm_middle).symm
        ·rw[<-cP (ids:=ids),dd,hlen]
      ·exact h.elim
     ·exact h.elim
    ·exact h.elim
   ·exact h.elim
  ·exact h.elim
 ·exact h.elim
def aau (P:Program):(Operand->V)->Op->List VB->List G->VK G->Prop:=λe op bl ch K=>match op with
 |.call c=>(match c.callee,c.args.toList,c.argTypes.toList with
  |.builtin .append,[s,xs],[t,tx]=>(match P.underlying t,P.underlying tx with
   |some (.slice T),some (.slice _)=>(match P.info? T,e s,e xs with
    |some _,.sl j o n c,.sl _ _ 0 _=>cond (Nat.ble n c) (K (.sl j o n c) bl ch) False
    |some _,.raw (.slice none 0 0),.raw (.slice none 0 0)=>K (.raw (.slice none 0 0)) bl ch
    |_,_,_=>False)
   |_,_=>False)
  |_,_,_=>False)
 |.typeAssert x _ t true=>(match e x,P.underlying t with
  |.BF t' v,some (.struct _)=>cond (Nat.beq t' t) (K (.aC [v,.bool true]) bl ch) False
  |_,_=>False)
 |_=>False
theorem Ux {P:Program} {gl:Nat->Option Nat}:rR (G:=G) P gl (aau P):=by
 intro e op ids bl ch R ms w0 w K ρ o hg hl S cz ho h;unfold aau at h;split at h
 ·rename_i c;split at h
  ·rename_i s xs t tx eV bd jL;split at h
   ·rename_i T T' ht pJ;obtain⟨HA,ar,tJ⟩:=c;simp only at eV bd jL;have e2:ar=#[s,xs]:=by rw[<-bd]
    have e3:tJ=#[t,tx]:=by rw[<-jL]
    subst eV e2 e3;split at h
    ·rename_i inf j o0 n c i o1 c1 aI rJ pI;cases hq:Nat.ble n c with
     |false=>rw[hq]at h;exact h.elim
     |true=>
      rw[hq]at h;have a_:=run_append_nothing (P:=P) w t tx o.type T inf ht aI (some ⟨ids.getD j 0,o0,none⟩) n c (Nat.le_of_ble_eq_true hq) (.slice (some ⟨ids.getD i 0,o1,none⟩) 0 c1) (Src.ofSlice w pJ _ 0 c1 [] (by simp) (λj u hj=>by simp at hj) (λu hu=>by simp at hu));refine⟨_,[],bl,ch,w,.inl ?_,by simpa using hl,by simpa using S,h⟩;have:=bN (P:=P) (ρ:=ρ) (o:=o) ho (by rw[cz,rJ];simp only[den]) (by rw[cz,pI];simp only[den]) a_;rw[this];simp only[den,List.append_nil]
    ·rename_i inf aI rJ pI;have a_:=run_append_nothing (P:=P) w t tx o.type T inf ht aI none 0 0 (Nat.le_refl _) (.slice none 0 0) (Src.ofNil w pJ 0);refine⟨_,[],bl,ch,w,.inl ?_,by simpa using hl,by simpa using S,h⟩;have:=bN (P:=P) (ρ:=ρ) (o:=o) ho (by rw[cz,rJ];simp only[den]) (by rw[cz,pI];simp only[den]) a_;rw[this];simp only[den]
    ·exact h.elim
   ·exact h.elim
  ·exact h.elim
 ·rename_i x xt t;split at h
  ·rename_i t' v fs hx hu;cases hq:Nat.beq t' t with
   |false=>rw[hq]at h;exact h.elim
   |true=>
    rw[hq]at h;obtain rfl:=Nat.eq_of_beq_eq_true hq;refine⟨_,[],bl,ch,w,.inl ?_,by simpa using hl,by simpa using S,h⟩;unfold execOp;simp only[ho,cz,hx,den,aq,Instr.typeAssert,Sem.run_bind,run_underlying hu,Result.andThen_ok,if_true,Sem.run_pure,List.append_nil];try rfl
  ·exact h.elim
 ·exact h.elim
def isO (e:Operand->V) (op:Op):Bool:=match op with
 |.call c=>(match c.args.toList with
  |[_,x]=>(match e x with|.sl _ _ 0 _=>true|.raw (.slice none 0 0)=>true|_=>false)
  |_=>false)
 |.typeAssert .. =>true
 |_=>false
def isE (e:Operand->V) (op:Op):Bool:=match op with
 |.call c=>(match c.args.toList with
  |s::_=>(match e s with|.sl _ _ 0 0=>true|_=>false)
  |_=>false)
 |_=>false
def NQ (P:Program):(Operand->V)->Op->List VB->List G->VK G->Prop:=λe op bl ch K=>cond (isO e op) (aau P e op bl ch K) (cond (isE e op) (aat P e op bl ch K) (JS P e op bl ch K))
theorem ub {P:Program} {gl:Nat->Option Nat}:rR (G:=G) P gl (NQ P):=ve isO Ux (ve isE Uw ql)
end Vx
namespace Go.Proofs.YtlkpikfddnjilaaGreatDoor
open Go Go.RowKit Go.BigFrame Sx Vx
def lkS:List Nat->List V->Nat->Option V
 |i::is,v::vs,t=>bif Nat.beq i t then some v else lkS is vs t
 |_,_,_=>none
def Uy (ix:List Nat) (vs:List V):Nat->Nat->List (Option V)
 |0,_=>[]
 |n+1,i=>lkS ix vs i::Uy ix vs n (i+1)
def Cd:List Nat->List V->List V
 |[],_=>[]
 |i::is,fr=>nth fr i::Cd is fr
theorem vf {n:Nat} {fr:List V}:∀(ix:List Nat) (vs:List V),Cd ix fr=vs->cG n vs=true->∀t v,lkS ix vs t=some v->nth fr t=v/\fu n v=true
 |[],vs,_,_,t,v,h=>by cases vs<;>cases h
 |i::is,[],h,_,t,v,_=>by cases h
 |i::is,u::vs,h,hw,t,v,hl=>by
  simp only[Cd,List.cons.injEq]at h;simp only[cG,Bool.and_eq_true]at hw;unfold lkS at hl;cases hb:Nat.beq i t with
  |true=>
   rw[hb]at hl;cases hl;obtain rfl:=Nat.eq_of_beq_eq_true hb;exact⟨h.1,hw.1⟩
  |false=>
   rw[hb]at hl;exact vf is vs h.2 hw.2 t v hl
theorem zE {n:Nat} {i_:List V} {ix:List Nat} {vs:List V} (h:∀t v,lkS ix vs t=some v->nth i_ t=v/\fu n v=true):∀(N i:Nat) (fr:List V),fr.length=N->(∀k,nth i_ (i+k)=nth fr k)->frM n (Uy ix vs N i) fr
 |0,_,[],_,_=>trivial
 |0,_,_::_,hl,_=>by simp at hl
 |N+1,i,[],hl,_=>by simp at hl
 |N+1,i,v::fr,hl,hn=>by
  unfold Uy;have ih:=zE h N (i+1) fr (by simpa using hl) (λk=>by have:=hn (k+1);simp only[nth]at this;rw[<-this];congr 1;omega);have h0:=hn 0;simp only[nth,Nat.add_zero]at h0;cases hk:lkS ix vs i with
  |none=>exact ih
  |some u=>
   obtain⟨h1,h2⟩:=h i u hk;exact⟨h0.symm.trans h1,h2,ih⟩
section
variable{G:Type} {X:Type}
def EU (cS:X->List V) (bl:X->List VB) (ch:X->List G) (vs:List V) (b:List VB) (c:List G):Prop:=∃x,vs=cS x/\b=bl x/\c=ch x
def enD (m:X->Nat) (cS:X->List V) (bl:X->List VB) (ch:X->List G) (x:X) (vs:List V) (b:List VB) (c:List G):Prop:=∃y,m y<m x/\vs=cS y/\b=bl y/\c=ch y
def JT (m:X->Nat) (N n0:Nat) (ix:List Nat) (cS:X->List V) (bl:X->List VB) (ch:X->List G) (h1:∀x,(bl x).length=n0) (h2:∀x,dE n0 (bl x)=true) (h3:∀x,cG n0 (cS x)=true):Lp G where
 X:=X
 m:=m
 fr x:=Uy ix (cS x) N 0
 bl:=bl
 ch:=ch
 en0 fr b c:=Nat.beq fr.length N=true/\EU cS bl ch (Cd ix fr) b c
 en x fr b c:=Nat.beq fr.length N=true/\enD m cS bl ch x (Cd ix fr) (b.take n0) c
 ok0:=by
  rintro fr b c ⟨hl,x,hv,rfl,rfl⟩;refine⟨x,?_,rfl,rfl⟩;rw[h1];exact zE (vf ix _ hv (h3 x)) N 0 fr (Nat.eq_of_beq_eq_true hl) (λk=>by rw[Nat.zero_add])
 ok:=by
  rintro x fr b c ⟨hl,y,hm,hv,hb,rfl⟩;refine⟨y,hm,?_,by rw[h1,h1],by rw[h1];exact h2 y,⟨b.drop n0,?_⟩,rfl⟩
  ·rw[h1];exact zE (vf ix _ hv (h3 y)) N 0 fr (Nat.eq_of_beq_eq_true hl) (λk=>by rw[Nat.zero_add])
  ·rw[<-hb,List.take_append_drop]
end
def JU {G:Type} [Bl G] (P:Program) (gl:Nat->Option Nat) (L:List (dF G)) (lp:Nat->Option (Lp G)):Ctx G:=⟨P,Mw L,gl,To L,noH,EH,λi _=>lp i⟩
theorem ah.TL {G:Type} [Bl G] {P:Program} {gl:Nat->Option Nat} {L:List (dF G)} {lp:Nat->Option (Lp G)} (h:ah P gl L):∀f c,(JU P gl L lp).T f=some c->Sound (JU P gl L lp).P (JU P gl L lp).gl f c:=h.T
theorem ah.QL {G:Type} [Bl G] {P:Program} {gl:Nat->Option Nat} {L:List (dF G)} {lp:Nat->Option (Lp G)} (h:ah P gl L):gy (JU P gl L lp):=h.Q
def gz:Nat->Option Nat:=λ_=>none
theorem NR:ah (G:=Empty) prog gz []:=ah.nil
def lp1 {G:Type} (i:Nat) (I:Lp G):Nat->Option (Lp G):=λj=>bif Nat.beq j i then some I else none
def aT (k:Nat):Int:=([1116352408,1899447441,3049323471,3921009573,961987163,1508970993,2453635748,2870763221,3624381080,310598401,607225278,1426881987,1925078388,2162078206,2614888103,3248222580,3835390401,4022224774,264347078,604807628,770255983,1249150122,1555081692,1996064986,2554220882,2821834349,2952996808,3210313671,3336571891,3584528711,113926993,338241895,666307205,773529912,1294757372,1396182291,1695183700,1986661051,2177026350,2456956037,2730485921,2820302411,3259730800,3345764771,3516065817,3600352804,4094571909,275423344,430227734,506948616,659060556,883997877,958139571,1322822218,1537002063,1747873779,1955562222,2024104815,2227730452,2361852424,2428436474,2756734187,3204031479,3329325298]:List Int).getD k 0
def qm (n:Nat) (x:Int):Int:=bits .or .u32 (u32.wrap (x*2^(32-n))) (Int.fdiv x (2^n))
def Ce:QF:=⟨158,λargs _=>match args with
 |[.int .u32 a,.int .i64 (.ofNat n)]=>(match n with
  |2|6|7|11|13|17|18|19|22|25=>some (True,.int .u32 (qm n a))
  |_=>none)
 |_=>none⟩
theorem vq0 {f:Nat} {xs:List V} {v:V} {n:Nat} (h:∀K,jh prog [] n f xs K=K v) (ha:cG 0 xs=true) (hv:fu 0 v=true) {ids:List Nat} {w:World}:ak prog f (aq ids xs).toArray w λx w'=>x=den ids v/\Ch [] w w':=
 oQ aW.nil n (by rw[h]) ha hv ids w
theorem HK (gl:Nat->Option Nat):Ce.Ok prog gl:=by
 intro args bl p_ v_ h hp ids w _ _;unfold Ce at h;dsimp only at h;split at h
 ·rename_i a n;split at h<;>first|cases h;done|(simp only[Option.some.injEq,Prod.mk.injEq]at h;obtain⟨rfl,rfl⟩:=h;exact vq0 (n:=30) (λK=>by kernel_rfl) rfl rfl)
 ·cases h
def w1E (f:Nat->Int) (i:Int):Int:=bits .or .u32 (bits .or .u32 (bits .or .u32 (u32.wrap (u32.wrap (f (0+(i64.wrap (4*i)).toNat))*2^24)) (u32.wrap (u32.wrap (f (0+(i64.wrap (i64.wrap (4*i)+1)).toNat))*2^16)))
 (u32.wrap (u32.wrap (f (0+(i64.wrap (i64.wrap (4*i)+2)).toNat))*2^8))) (u32.wrap (f (0+(i64.wrap (i64.wrap (4*i)+3)).toNat)))
def w1F (f:Nat->Int):Nat->Nat->Int
 |0=>λ_=>0
 |k+1=>oI (w1F f k) (0+((k:Nat):Int).toNat) (w1E f (k:Nat))
def w2E (V:Nat->Int) (k:Int):Int:=
 let at_:=λd:Int=>V (0+(i64.wrap (k-d)).toNat)
 u32.wrap (u32.wrap (u32.wrap (at_ 16+at_ 7)+bits .xor .u32 (bits .xor .u32 (qm 7 (at_ 15)) (qm 18 (at_ 15))) (Int.fdiv (at_ 15) (2^3)))+bits .xor .u32 (bits .xor .u32 (qm 17 (at_ 2)) (qm 19 (at_ 2))) (Int.fdiv (at_ 2) (2^10)))
def Cf (f:Nat->Int):Nat->Nat->Int
 |0=>w1F f 16
 |k+1=>oI (Cf f k) (0+((16+k:Nat):Int).toNat) (w2E (Cf f k) ((16+k:Nat):Int))
def l8 (a b c d e f g h:Int):Nat->Int:=λj=>([a,b,c,d,e,f,g,h]:List Int).getD j 0
def rE (N W:Nat->Int) (k:Int):Nat->Int:=(l8 (u32.wrap ((u32.wrap ((u32.wrap ((u32.wrap ((u32.wrap ((N 7)+(bits .xor .u32 (bits .xor .u32 (qm 6 (N 4)) (qm 11 (N 4))) (qm 25 (N 4)))))+(bits .or .u32 (bits .and .u32 (N 4) (N 5)) (bits .and .u32 (bits .xor .u32 4294967295 (N 4)) (N 6)))))+(aT (0+(k).toNat))))+(W (0+(k).toNat))))+(u32.wrap ((bits .xor .u32 (bits .xor .u32 (qm 2 (N 0)) (qm 13 (N 0))) (qm 22 (N 0)))+(bits .or .u32 (bits .or .u32 (bits .and .u32 (N 0) (N 1)) (bits .and .u32 (N 0) (N 2))) (bits .and .u32 (N 1) (N 2))))))) (N 0) (N 1) (N 2) (u32.wrap ((N 3)+(u32.wrap ((u32.wrap ((u32.wrap ((u32.wrap ((N 7)+(bits .xor .u32 (bits .xor .u32 (qm 6 (N 4)) (qm 11 (N 4))) (qm 25 (N 4)))))+(bits .or .u32 (bits .and .u32 (N 4) (N 5)) (bits .and .u32 (bits .xor .u32 4294967295 (N 4)) (N 6)))))+(aT (0+(k).toNat))))+(W (0+(k).toNat)))))) (N 4) (N 5) (N 6))
def EV (h W:Nat->Int):Nat->Nat->Int
 |0=>h
 |n+1=>rE (EV h W n) W (n:Int)
def kh (h f:Nat->Int):Nat->Int:=λj=>u32.wrap (EV h (Cf f 48) 64 j+h j)
def EW (m:Int) (n:Nat) (X:Prop):Prop:=(0<=m/\m<(n:Int))/\0+m.toNat<n/\X
theorem gA {m:Int} {n:Nat} {X:Prop} (h:0<=m/\m<(n:Int)) (k:X):EW m n X:=⟨h,by omega,k⟩
theorem ki {x:Int} (h:-9223372036854775808<=x/\x<=9223372036854775807):i64.wrap x=x:=by simp[IntKind.wrap,IntKind.bits,IntKind.signed];omega
section
variable(f:Nat->Int) (K:VK Empty)
def wB (W:Nat->Int):List VB:=[⟨true,⟨211,(0,0)⟩,[.arr .u8 64 f]⟩,⟨true,⟨244,(0,0)⟩,[.arr .u32 64 λ_=>0]⟩,⟨true,⟨244,(0,0)⟩,[.arr .u32 64 W]⟩]
def w3 (i:Int):List V:=[.ptr 0 0,.ptr 1 0,.ptr 2 0,.int .i64 i]
def w1L:Lp Empty:=JT (X:={i:Nat //i<=16}) (λi=>16-i.1) 89 3 [1,2,3,10] (λi=>w3 (i.1:Int)) (λi=>wB f (w1F f i.1)) (λ_=>[]) (λ_=>rfl) (λ_=>rfl) (λ_=>rfl)
def w2L:Lp Empty:=JT (X:={i:Nat //i<=48}) (λi=>48-i.1) 89 3 [1,2,3,5] (λi=>w3 ((16+i.1:Nat):Int)) (λi=>wB f (Cf f i.1)) (λ_=>[]) (λ_=>rfl) (λ_=>rfl) (λ_=>rfl)
def wLp:Nat->Option (Lp Empty):=λj=>match j with|0=>some (w1L f)|2=>some (w2L f)|_=>none
def wX:Prop:=
 (true=true/\EU (λi:{i:Nat //i<=16}=>w3 (i.1:Int)) (λi=>wB f (w1F f i.1)) (λ_=>[]) (w3 0) (wB f λ_=>0) ([]:List Empty))/\∀(x:{i:Nat //i<=16}) (g:Nat->Value),cond (decide ((x.1:Int)<16))
  (EW (i64.wrap (4*(x.1:Int))) 64<|EW (i64.wrap (i64.wrap (4*(x.1:Int))+1)) 64<|EW (i64.wrap (i64.wrap (4*(x.1:Int))+2)) 64<|EW (i64.wrap (i64.wrap (4*(x.1:Int))+3)) 64<|EW (x.1:Int) 64
   (true=true/\enD (λi:{i:Nat //i<=16}=>16-i.1) (λi=>w3 (i.1:Int)) (λi=>wB f (w1F f i.1)) (λ_=>[]) x (w3 (i64.wrap ((x.1:Int)+1))) (wB f (w1F f (x.1+1))) ([]:List Empty)))
  ((true=true/\EU (λi:{i:Nat //i<=48}=>w3 ((16+i.1:Nat):Int)) (λi=>wB f (Cf f i.1)) (λ_=>[]) (w3 16) (wB f (w1F f x.1)) ([]:List Empty))/\∀(y:{i:Nat //i<=48}) (g:Nat->Value),cond (decide (((16+y.1:Nat):Int)<64))
    (EW (i64.wrap (((16+y.1:Nat):Int)-15)) 64<|EW (i64.wrap (((16+y.1:Nat):Int)-2)) 64<|True/\True/\True/\True/\(EW (i64.wrap (((16+y.1:Nat):Int)-16)) 64<|EW (i64.wrap (((16+y.1:Nat):Int)-7)) 64<|EW ((16+y.1:Nat):Int) 64
     (true=true/\enD (λi:{i:Nat //i<=48}=>48-i.1) (λi=>w3 ((16+i.1:Nat):Int)) (λi=>wB f (Cf f i.1)) (λ_=>[]) y (w3 (i64.wrap (((16+y.1:Nat):Int)+1))) (wB f (Cf f (y.1+1))) ([]:List Empty))))
    (K (.agg [.arr .u32 64 (Cf f y.1)]) [] []))
theorem NS:cI (JU prog gz (qL Empty [Ce]) (wLp f)) 60 157 [.agg [.arr .u8 64 f]] [] [] (du 0 K)=wX f K:=by kernel_rfl
end
theorem JV (f:Nat->Int):wX f λv _ _=>v=.agg [.arr .u32 64 (Cf f 48)]:=by
 refine⟨⟨rfl,⟨0,by omega⟩,rfl,rfl,rfl⟩,λx g=>aO (λh=>?_) λh=>?_⟩
 ·have hx:(x.1:Int)<16:=of_decide_eq_true h;have e:=ki (x:=4*(x.1:Int)) (by omega);have e1:=ki (x:=4*(x.1:Int)+1) (by omega);have e2:=ki (x:=4*(x.1:Int)+2) (by omega);have e3:=ki (x:=4*(x.1:Int)+3) (by omega);rw[e,e1,e2,e3];refine gA (by omega) (gA (by omega) (gA (by omega) (gA (by omega) (gA (by omega) ⟨rfl,⟨x.1+1,by omega⟩,by show 16-(x.1+1)<16-x.1;omega,?_,rfl,rfl⟩))));rw[ki (by omega)];rfl
 ·have hx:x.1=16:=by have:=of_decide_eq_false h;have:=x.2;omega
  rw[hx];refine⟨⟨rfl,⟨0,by omega⟩,rfl,rfl,rfl⟩,λy g=>aO (λh=>?_) λh=>?_⟩
  ·have hy:((16+y.1:Nat):Int)<64:=of_decide_eq_true h;rw[ki (x:=((16+y.1:Nat):Int)-15) (by omega),ki (x:=((16+y.1:Nat):Int)-2) (by omega),ki (x:=((16+y.1:Nat):Int)-16) (by omega),ki (x:=((16+y.1:Nat):Int)-7) (by omega)];refine gA (by omega) (gA (by omega) ⟨trivial,trivial,trivial,trivial,gA (by omega) (gA (by omega) (gA (by omega) ⟨rfl,⟨y.1+1,by omega⟩,by show 48-(y.1+1)<48-y.1;omega,?_,rfl,rfl⟩))⟩);rw[ki (by omega)];rfl
  ·have hy:y.1=48:=by have:=of_decide_eq_false h;have:=y.2;omega
   rw[hy]
def Cg:QF:=⟨157,λargs _=>match args with
 |[.agg [.arr .u8 64 f]]=>some (True,.agg [.arr .u32 64 (Cf f 48)])
 |_=>none⟩
theorem NT (gl:Nat->Option Nat):Cg.Ok prog gl:=by
 intro args bl p_ v_ h hp ids w _ _;unfold Cg at h;dsimp only at h;split at h
 ·rename_i f;simp only[Option.some.injEq,Prod.mk.injEq]at h;obtain⟨rfl,rfl⟩:=h;have hv:cI (JU prog gz (qL Empty [Ce]) (wLp f)) 60 157 [.agg [.arr .u8 64 f]] [] [] (du 0 λv _ _=>v=.agg [.arr .u32 64 (Cf f 48)]):=by rw[NS];exact JV f
  have cT:=fJ (G:=Empty) (P:=prog) (gl:=gz) (aW.cons (HK _) aW.nil);refine(bw (C:=JU prog gz (qL Empty [Ce]) (wLp f)) (_root_.Go.Proofs.YtlkpikfddnjilaaGreatDoor.ah.TL cT) (_root_.Go.Proofs.YtlkpikfddnjilaaGreatDoor.ah.QL cT) 60 (ids:=[]) (bl:=[]) (ch:=[]) (R:=[]) (ms:=[]) (w0:=w) (w:=w) (λg i h=>nomatch h) rfl (St.nil [] w) hv).mono ?_;rintro x w' ⟨y,more,bl',ch',rfl,h1,S',hK⟩;obtain⟨v2,aS,bl2,e,_,_,rfl⟩:=dr (n0:=0) h1 (by simp) S' hK;exact⟨e.trans rfl,S'.ch⟩
 ·cases h
section
variable(t:Nat) (h f:Nat->Int) (K:VK Empty)
def i8 (h:Nat->Int):List V:=[.int .u32 (h 0),.int .u32 (h 1),.int .u32 (h 2),.int .u32 (h 3),.int .u32 (h 4),.int .u32 (h 5),.int .u32 (h 6),.int .u32 (h 7)]
def kJ:VB:=⟨false,⟨t,(0,0)⟩,[.arr .u32 64 aT]⟩
def bB (N:Nat->Int):List VB:=[kJ t,⟨true,⟨208,(0,0)⟩,i8 h⟩,⟨true,⟨211,(0,0)⟩,[.arr .u8 64 f]⟩,⟨true,⟨208,(0,0)⟩,i8 λ_=>0⟩,⟨true,⟨244,(0,0)⟩,[.arr .u32 64 (Cf f 48)]⟩,⟨true,⟨208,(0,0)⟩,i8 N⟩]
def b6 (i:Int):List V:=[.ptr 1 0,.ptr 2 0,.ptr 3 0,.ptr 4 0,.ptr 5 0,.int .i64 i]
def bL:Lp Empty:=JT (X:={i:Nat //i<=64}) (λi=>64-i.1) 113 6 [2,3,4,5,6,17] (λi=>b6 (i.1:Int)) (λi=>bB t h f (EV h (Cf f 48) i.1)) (λ_=>[]) (λ_=>rfl) (λ_=>rfl) (λ_=>rfl)
def EX:Nat->Option Nat:=λg=>bif Nat.beq g 0 then some 0 else none
def bX:Prop:=True/\(true=true/\EU (λi:{i:Nat //i<=64}=>b6 (i.1:Int)) (λi=>bB t h f (EV h (Cf f 48) i.1)) (λ_=>[]) (b6 0) (bB t h f h) ([]:List Empty))/\∀(x:{i:Nat //i<=64}) (g:Nat->Value),cond (decide ((x.1:Int)<64))
 (EW (x.1:Int) 64<|EW (x.1:Int) 64<|True/\True/\True/\True/\True/\True/\
  (true=true/\enD (λi:{i:Nat //i<=64}=>64-i.1) (λi=>b6 (i.1:Int)) (λi=>bB t h f (EV h (Cf f 48) i.1)) (λ_=>[]) x (b6 (i64.wrap ((x.1:Int)+1))) (bB t h f (EV h (Cf f 48) (x.1+1))) ([]:List Empty)))
 (K (.agg (i8 λj=>u32.wrap (EV h (Cf f 48) x.1 j+h j))) [kJ t] [])
theorem NU:cI (JU prog EX (qL Empty [Ce,Cg]) (lp1 0 (bL t h f))) 60 116 [.agg (i8 h),.agg [.arr .u8 64 f]] [kJ t] [] (du 1 K)=bX t h f K:=by kernel_rfl
end
theorem JW (t:Nat) (h f:Nat->Int):bX t h f λv _ _=>v=.agg (i8 (kh h f)):=by
 refine⟨trivial,⟨rfl,⟨0,by omega⟩,rfl,rfl,rfl⟩,λx g=>aO (λhh=>?_) λhh=>?_⟩
 ·have hx:(x.1:Int)<64:=of_decide_eq_true hh;refine gA (by omega) (gA (by omega) ⟨trivial,trivial,trivial,trivial,trivial,trivial,rfl,⟨x.1+1,by omega⟩,by show 64-(x.1+1)<64-x.1;omega,?_,rfl,rfl⟩);rw[ki (by omega)];rfl
 ·have hx:x.1=64:=by have:=of_decide_eq_false hh;have:=x.2;omega
  rw[hx];rfl
theorem JX (t:Nat) (h f:Nat->Int) {ids:List Nat} {w:World} (hG:w.heap[0]?=some (.cells (ai .u32 64 aT) t (0,0))):ak prog 116 (aq ids [.agg (i8 h),.agg [.arr .u8 64 f]]).toArray w λx w'=>x=den ids (.agg (i8 (kh h f)))/\Ch [] w w':=by
 have hv:cI (JU prog EX (qL Empty [Ce,Cg]) (lp1 0 (bL t h f))) 60 116 [.agg (i8 h),.agg [.arr .u8 64 f]] [kJ t] [] (du 1 λv _ _=>v=.agg (i8 (kh h f))):=by rw[NU];exact JW t h f
 have cT:=fJ (G:=Empty) (P:=prog) (gl:=EX) (aW.cons (HK _) (aW.cons (NT _) aW.nil));have S0:St [] w (lits [0] [0] [kJ t]++[]) w:=St.given (w:=w) [(0,.cells (af [0] [.arr .u32 64 aT]).toArray t (0,0))] (by
  intro p hp;simp only[List.mem_singleton]at hp;subst hp;have e:(af [0] [.arr .u32 64 aT]).toArray=ai .u32 64 aT:=by simp[af,cl,ai]
  rw[e];exact hG)
 have e0:∀ids,aq ids [.agg (i8 h),.agg [.arr .u8 64 f]]=aq [0] [.agg (i8 h),.agg [.arr .u8 64 f]]:=λ_=>rfl;rw[e0];refine(bw (C:=JU prog EX (qL Empty [Ce,Cg]) (lp1 0 (bL t h f))) (_root_.Go.Proofs.YtlkpikfddnjilaaGreatDoor.ah.TL cT) (_root_.Go.Proofs.YtlkpikfddnjilaaGreatDoor.ah.QL cT) 60 (ids:=[0]) (bl:=[kJ t]) (ch:=[]) (R:=[]) (λg i h=>by
  have h:EX g=some i:=h;unfold EX at h;cases hb:Nat.beq g 0 with
  |false=>rw[hb]at h;cases h
  |true=>rw[hb]at h;cases h;exact⟨by simp,by simp[List.getD,Nat.eq_of_beq_eq_true hb]⟩) rfl S0 hv).mono ?_
 rintro x w' ⟨y,more,bl',ch',rfl,h1,S',hK⟩;obtain⟨v2,aS,bl2,e,_,_,rfl⟩:=dr (n0:=1) h1 (by simp) S' hK;exact⟨e.trans rfl,S'.ch⟩
structure JY (p:Prop):Prop where
 h:p
structure oR where
 bl:List ax
 b:Nat
 o:Nat
 n:Nat
 f:Nat->Int
 h:∀w:World,(∀y∈bl,w.heap[y.id]?=some y.obj)->fl w b o n f
instance:Bl oR:=⟨λg=>g.bl⟩
def Uz (N:Nat):(Operand->V)->Op->List VB->List oR->VK oR->Prop:=λe op bl ch K=>match op with
 |.makeSlice t l c=>(match prog.underlying t,e l,e c with
  |some (.slice 5),.int .i64 m,.int .i64 m'=>cond (dE bl.length bl) ((m=(N:Int)/\m'=(N:Int))/\K (.sl bl.length 0 N N) (bl++[⟨true,⟨5,(0,0)⟩,[.arr .u8 N λ_=>0]⟩]) ch) False
  |_,_,_=>False)
 |.call c=>(match c.callee,c.args.toList,c.argTypes.toList with
  |.builtin .copy,[s,xs],[t,tx]=>(match prog.underlying t,e s,e xs,ch with
   |some (.slice 5),.sl i 0 n c,.raw (.slice (some ⟨b,o,none⟩) m mc),[g]=>(match bl[i]?with
    |some ⟨true,⟨5,(0,0)⟩,[.arr .u8 N' f]⟩=>((g.b=b/\g.o=o/\g.n=m)/\m<=n/\n<=N')/\K (.int .i64 (m:Int)) (bl.set i ⟨true,⟨5,(0,0)⟩,[.arr .u8 N' (iD f 0 m g.f)]⟩) ch
    |_=>False)
   |_,_,_,_=>False)
  |_,_,_=>False)
 |_=>False
theorem nA (ids:List Nat) (N:Nat) (f:Nat->Int):(af ids [.arr .u8 N f]).toArray=ai .u8 N f:=by simp[af,cl,ai]
theorem HL {N:Nat} (h0:1<=N) (h1:N<=1000):rR prog (λ_=>none) (Uz N):=by
 intro e op ids bl ch R ms w0 w K ρ o hg hl S cz ho h;unfold Uz at h;split at h
 ·rename_i t l c;split at h
  ·rename_i m m' hu Ei hec;cases hq:dE bl.length bl with
   |false=>rw[hq]at h;exact h.elim
   |true=>
    rw[hq]at h;obtain⟨⟨rfl,rfl⟩,hK⟩:=h;obtain⟨inf,va,Bn⟩:∃inf,prog.info? 5=some inf/\inf.bytes<=100:=⟨_,rfl,Nat.le_of_ble_eq_true (by kernel_rfl)⟩;have hz:∀k:Nat,(af ids (ln [.int .u8 0] k))=(List.range k).map λ_=>Value.int .u8 0:=by
     intro k;induction k with
     |zero=>rfl
     |succ k ih=>rw[ln,bj,ih,List.range_succ_eq_map,List.map_cons,List.map_map];rfl
    have a_:=run_mk (P:=prog) (ids:=ids) (w:=w) (t:=t) (el:=5) (n:=N) (z:=0) (zc:=[.int .u8 0]) (inf:=inf) (k1:=.i64) (k2:=.i64) hu va (by kernel_rfl) (by kernel_rfl) rfl h0 (by omega) Bn;refine⟨_,[w.heap.size],_,ch,w.alloc (.cells (af ids (ln [.int .u8 0] N)).toArray 5),.inl ?_,by simp[hl],?_,hK⟩
    ·unfold execOp;simp only[ho,cz,Ei,hec,den,Sem.run_bind,a_,Result.andThen_ok,Sem.run_pure];rw[<-hl,cv]
    ·rw[aQ _ _ _ _ hl,aR _ _ (by rw[hl];exact hq)];simp only[lits,aL,nA];have e1:(af ids (ln [.int .u8 0] N)).toArray=ai .u8 N λ_=>0:=by rw[hz];rfl
     rw[e1];refine(S.new (Ch.alloc [] w _) (Nat.le_refl _) (heap_alloc_new w _)).perm ?_;rw[List.append_assoc];exact List.perm_middle.symm
  ·exact h.elim
 ·rename_i c;split at h
  ·rename_i s xs t tx eV bd jL;split at h
   ·rename_i i n cc b o' m mc g hu rJ pI;split at h
    ·rename_i N' f hb;obtain⟨⟨⟨rfl,rfl,rfl⟩,hm,hn⟩,hK⟩:=h;obtain⟨HA,ar,tJ⟩:=c;simp only at eV bd jL;have e2:ar=#[s,xs]:=by rw[<-bd]
     have e3:tJ=#[t,tx]:=by rw[<-jL]
     subst eV e2 e3;obtain⟨hj,bD⟩:=cQ hl S hb;rw[nA]at bD;have tK:=(cQ hl S hb).2;rw[nA]at tK;have h8:fl w g.b g.o g.n g.f:=g.h w λy hy=>S.at' (List.mem_append_right _ (show y∈g.bl++R from List.mem_append_left _ hy));have M0:Nat.min g.n n=g.n:=Nat.min_eq_left hm;have a_:=run_copy_row (P:=prog) w t tx o.type 5 (ids.getD i 0) 0 n cc ⟨g.b,g.o,none⟩ g.n mc (ai .u8 N' f) 5 (fi g.n g.f) hu (by kernel_rfl) tK (by rw[bW,M0]) (λj v hj=>by
      obtain⟨h1,rfl⟩:=lj hj;rw[Addr.add_lit];exact h8 j h1) (by rw[bW,kF];omega) pV
     have e4:((ai .u8 N' f).toList.take 0++fi g.n g.f++(ai .u8 N' f).toList.drop (0+(fi g.n g.f).length)).toArray=ai .u8 N' (iD f 0 g.n g.f):=by
      rw[bW];exact rM .u8 f (by omega) g.f
     rw[e4]at a_;have w_:ρ s=.slice (some ⟨ids.getD i 0,0,none⟩) n cc:=by rw[cz,rJ];simp only[den]
     have My:ρ xs=.slice (some ⟨g.b,g.o,none⟩) g.n mc:=by rw[cz,pI];simp only[den]
     have hex:=tX (P:=prog) (ρ:=ρ) (o:=o) ho w_ My a_;rw[bW]at hex;refine⟨.int .i64 (g.n:Int),[],_,_,_,.inl hex,by simpa using hl,?_,hK⟩
     ·simp only[List.append_nil];have ng:=S.step hj rfl (Ch.setRow w _ _) (setRow_heap w (ids.getD i 0) (ai .u8 N' f) (ai .u8 N' (iD f 0 g.n g.f)) 5 (0,0) tK);have Bp:i<(lits ids ids bl).length:=by rw[ik ids bl hl];rcases Nat.lt_or_ge i bl.length with h'|h';exact h';simp[h']at hb
      rw[<-il (ids:=ids) ids bl i _ hl,<-List.set_append_left _ _ Bp];simp only[aL,nA];exact ng
    ·exact h.elim
   ·exact h.elim
  ·exact h.elim
 ·exact h.elim
def rY (n:Nat):Int:=i64.wrap (i64.wrap (Int.tdiv (i64.wrap (i64.wrap (i64.wrap ((n:Int)+9)+64)-1)) 64)*64)
def aic (e d:Int) (i:Nat) (F:Nat->Int):Nat->Int:=oI F (0+(i64.wrap (i64.wrap (e-1)-(i:Int))).toNat) (u8.wrap (Int.fdiv d (2^(8*i))))
def aeE (e d:Int) (F:Nat->Int):Nat->Nat->Int
 |0=>F
 |k+1=>aic e d k (aeE e d F k)
def tL (N n:Nat) (f:Nat->Int):Nat->Int:=aeE (rY n) (u64.wrap (u64.wrap (n:Int)*8)) (oI (iD (λ_=>0) 0 n f) (0+((n:Nat):Int).toNat) 128) 8
def UA (e:Int) (N:Nat) (X:Prop):Nat->Nat->Prop
 |0,_=>X
 |k+1,i=>EW (i64.wrap (i64.wrap (e-1)-(i:Int))) N (UA e N X k (i+1))
def aav (N n b o:Nat) (g:oR) (K:VK oR):Prop:=(rY n=(N:Int)/\rY n=(N:Int))/\((g.b=b/\g.o=o/\g.n=n)/\n<=N/\N<=N)/\EW (n:Int) N (UA (rY n) N (K (.sl 0 0 N N) [⟨true,⟨5,(0,0)⟩,[.arr .u8 N (tL N n g.f)]⟩] [g]) 8 0)
def NV (N:Nat) (h0:1<=N) (h1:N<=1000) (f:FuncId) (args:List V) (g:oR) (K:VK oR):Prop:=cI (nz prog (λ_=>none) ([]:List (dF oR)) (Uz N) (HL h0 h1)) 60 f args [] [g] K
theorem NW (g:oR) (b o n c:Nat) (K:VK oR):NV 64 (by omega) (by omega) 115 [.raw (.slice (some ⟨b,o,none⟩) n c)] g K=aav 64 n b o g K:=by kernel_rfl
theorem JZ (g:oR) (b o n c:Nat) (K:VK oR):NV 128 (by omega) (by omega) 115 [.raw (.slice (some ⟨b,o,none⟩) n c)] g K=aav 128 n b o g K:=by kernel_rfl
def Ci (H:Nat->Int):Nat->Int:=λj=>match j%4 with
 |0=>u8.wrap (Int.fdiv (H (j/4)) (2^24))
 |1=>u8.wrap (Int.fdiv (H (j/4)) (2^16))
 |2=>u8.wrap (Int.fdiv (H (j/4)) (2^8))
 |_=>u8.wrap (H (j/4))
def zF:Nat->Int:=l8 1779033703 3144134277 1013904242 2773480762 1359893119 2600822924 528734635 1541459225
def r8 (X:Nat->Int):Nat->Int:=l8 (X 0) (X 1) (X 2) (X 3) (X 4) (X 5) (X 6) (X 7)
def aeF (n:Nat) (f:Nat->Int):Nat->Int:=Ci (kh zF (tL 64 n f))
def aaw (f:Nat->Int) (k:Nat):Nat->Int:=λj=>f (k+j)
def aax (n:Nat) (f:Nat->Int):Nat->Int:=Ci (kh (r8 (kh zF (tL 128 n f))) (aaw (tL 128 n f) 64))
def jR (n:Nat) (f:Nat->Int):Nat->Int:=bif Nat.ble n 55 then aeF n f else aax n f
def oS:QF:=⟨116,λargs bl=>match args,bl with
 |[.agg [.int .u32 a,.int .u32 b,.int .u32 c,.int .u32 d,.int .u32 e,.int .u32 f,.int .u32 g,.int .u32 h],.agg [.arr .u8 64 F]],⟨false,⟨t,(0,0)⟩,[.arr .u32 64 R]⟩::_=>some (R=aT,.agg (i8 (kh (l8 a b c d e f g h) F)))
 |_,_=>none⟩
def aay:Nat->(Nat->Int)->List V
 |64,F=>[.arr .u8 64 F]
 |128,F=>[.arr .u8 64 F,.arr .u8 64 (aaw F 64)]
 |n,F=>[.arr .u8 n F]
def EY (N:Nat):gZ oR:=λargs bl ch K=>match args,ch with
 |[.raw (.slice (some ⟨b,o,none⟩) n c)],[g]=>cond (dE bl.length bl) (((g.b=b/\g.o=o/\g.n=n)/\rY n=(N:Int)/\n<N)/\K (.sl bl.length 0 N N) (bl++[⟨true,⟨5,(0,0)⟩,aay N (tL N n g.f)⟩]) [g]) False
 |_,_=>False
def o4 (x:Int):List V:=[.int .u8 (u8.wrap (Int.fdiv x (2^24))),.int .u8 (u8.wrap (Int.fdiv x (2^16))),.int .u8 (u8.wrap (Int.fdiv x (2^8))),.int .u8 (u8.wrap x)]
def HM (H:Nat->Int):List V:=o4 (H 0)++(o4 (H 1)++(o4 (H 2)++(o4 (H 3)++(o4 (H 4)++(o4 (H 5)++(o4 (H 6)++o4 (H 7)))))))
theorem J0 (H:Nat->Int) (ids:List Nat):den ids (.agg (HM H))=.agg (ai .u8 32 (Ci H)):=by kernel_rfl
section
variable(t:Nat) (g:oR) (b o n c:Nat) (K:VK oR)
theorem NX:cI (dw prog EX (⟨115,false,EY 64⟩::qL oR [oS])) 60 72 [.raw (.slice (some ⟨b,o,none⟩) n c)] [kJ t] [g] (du 1 K)=(((g.b=b/\g.o=o/\g.n=n)/\rY n=((64:Nat):Int)/\n<64)/\aT=aT/\K (.agg (HM (kh zF (tL 64 n g.f)))) [kJ t] [g]):=by kernel_rfl
theorem J1:cI (dw prog EX (⟨115,false,EY 128⟩::qL oR [oS])) 60 72 [.raw (.slice (some ⟨b,o,none⟩) n c)] [kJ t] [g] (du 1 K)=(((g.b=b/\g.o=o/\g.n=n)/\rY n=((128:Nat):Int)/\n<128)/\aT=aT/\aT=aT/\K (.agg (HM (kh (r8 (kh zF (tL 128 n g.f))) (aaw (tL 128 n g.f) 64)))) [kJ t] [g]):=by kernel_rfl
end
theorem aid {w:World} {b o n:Nat} {f:Nat->Int} (h:fl w b o n f):∃g:oR,(g.b=b/\g.o=o/\g.n=n)/\g.f=f/\∃ps:List (Nat×Obj),g.bl=ps.map (λp=>⟨p.1,false,p.2⟩)/\∀p∈ps,w.heap[p.1]?=some p.2:=by
 rcases Nat.eq_zero_or_pos n with rfl|hn
 ·exact⟨⟨[],b,o,0,f,λ_ _ j hj=>absurd hj (by omega)⟩,⟨rfl,rfl,rfl⟩,rfl,[],rfl,λ_ h=>nomatch h⟩
 ·cases hb:w.heap[b]?with
  |none=>
   have:=h 0 hn;unfold World.cell? at this;simp only[hb]at this;cases this
  |some ob=>
   refine⟨⟨[⟨b,false,ob⟩],b,o,n,f,λw' hw j hj=>?_⟩,⟨rfl,rfl,rfl⟩,rfl,[(b,ob)],rfl,?_⟩
   ·have h1:=h j hj;have h2:w'.heap[b]?=some ob:=hw _ (List.mem_singleton.2 rfl);unfold World.cell? at h1⊢;simp only[hb]at h1;simp only[h2];exact h1
   ·intro p hp;obtain rfl:=List.mem_singleton.1 hp;exact hb
theorem HN {e:Int} {N:Nat} {X:Prop} (he:e=(N:Int)) (h8:8<=N) (hN:N<=1000) (hX:X):∀k i,i+k<=8->UA e N X k i
 |0,_,_=>hX
 |k+1,i,h=>by
  have e1:i64.wrap (i64.wrap (e-1)-(i:Int))=(N:Int)-1-(i:Int):=by rw[he,ki (x:=(N:Int)-1) (by omega),ki (by omega)]
  unfold UA;rw[e1];exact gA (by omega) (HN he h8 hN hX k (i+1) (by omega))
theorem HO {n:Nat} (h:n<=55):rY n=((64:Nat):Int):=by
 unfold rY;rw[ki (x:=(n:Int)+9) (by omega),ki (x:=(n:Int)+9+64) (by omega),ki (x:=(n:Int)+9+64-1) (by omega),Int.tdiv_eq_ediv_of_nonneg (by omega),show((n:Int)+9+64-1)/64=1 by omega];rfl
theorem HP {n:Nat} (h:56<=n) (h2:n<=119):rY n=((128:Nat):Int):=by
 unfold rY;rw[ki (x:=(n:Int)+9) (by omega),ki (x:=(n:Int)+9+64) (by omega),ki (x:=(n:Int)+9+64-1) (by omega),Int.tdiv_eq_ediv_of_nonneg (by omega),show((n:Int)+9+64-1)/64=2 by omega];rfl
theorem NY {N:Nat} (h0:1<=N) (h1:N<=1000) {f:Nat} {args:List V} {g:oR} {K:VK oR} (h:JY (NV N h0 h1 f args g K)) {R:List ax} {ms:List Nat} {w0 w:World} (S:St ms w0 (g.bl++R) w):
 ak prog f (aq [] args).toArray w λv w1=>∃x more b ch,v=den more x/\more.length=b.length/\St ms w0 (lits more more b++ag ch R) w1/\K x b ch:=by
 have S0:St ms w0 (lits [] [] []++ag [g] R) w:=S;exact bw (ah.nil (G:=oR) (P:=prog) (gl:=λ_=>none)).T (ah.nil (G:=oR) (P:=prog) (gl:=λ_=>none)).Q 60 (C:=nz prog (λ_=>none) ([]:List (dF oR)) (Uz N) (HL h0 h1)) (ids:=[]) (bl:=[]) (ch:=[g]) (R:=R) Gl.none rfl S0 h.h
def UB (N n:Nat) (g:oR):VK oR:=λv bl ch=>v=.sl 0 0 N N/\bl=[⟨true,⟨5,(0,0)⟩,[.arr .u8 N (tL N n g.f)]⟩]/\ch=[g]
theorem HR {N n b o:Nat} {g:oR} (h8:8<=N) (h1:N<=1000) (hg:g.b=b/\g.o=o/\g.n=n) (he:rY n=(N:Int)) (hn:n<N):aav N n b o g (UB N n g):=
 ⟨⟨he,he⟩,⟨hg,by omega,Nat.le_refl _⟩,gA (by omega) (HN he h8 h1 ⟨rfl,rfl,rfl⟩ 8 0 (by omega))⟩
theorem UC {N:Nat} (h0:1<=N) (h8:8<=N) (h1:N<=1000) {b o n c:Nat} (g:oR) (fI:JY (NV N h0 h1 115 [.raw (.slice (some ⟨b,o,none⟩) n c)] g (UB N n g)))
 {R:List ax} {ms:List Nat} {w0 w:World} (S:St ms w0 (g.bl++R) w):ak prog 115 #[.slice (some ⟨b,o,none⟩) n c] w λv w1=>∃b',v=.slice (some ⟨b',0,none⟩) N N/\St ms w0 (⟨b',true,.cells (ai .u8 N (tL N n g.f)) 5 (0,0)⟩::(g.bl++R)) w1:=by
 have hr:=NY h0 h1 (f:=115) (args:=[.raw (.slice (some ⟨b,o,none⟩) n c)]) (g:=g) (K:=UB N n g) fI S;have e0:(aq [] [V.raw (.slice (some ⟨b,o,none⟩) n c)]).toArray=#[.slice (some ⟨b,o,none⟩) n c]:=rfl;rw[e0]at hr;clear fI;refine hr.mono ?_;rintro v w' ⟨y,more,bl',ch',rfl,hl,S',rfl,rfl,rfl⟩
 match more,hl with
 |[b'],_=>
  refine⟨b',rfl,?_⟩;have e:lits [b'] [b'] [⟨true,⟨5,(0,0)⟩,[.arr .u8 N (tL N n g.f)]⟩]=[⟨b',true,.cells (ai .u8 N (tL N n g.f)) 5 (0,0)⟩]:=by
   simp only[lits,aL,nA]
  rw[e]at S';exact S'
theorem UD (ids:List Nat) {N:Nat} (hN:N=64\/N=128) (F:Nat->Int):(af ids (aay N F)).toArray=ai .u8 N F:=by
 rcases hN with rfl|rfl
 ·exact nA ids 64 F
 ·have e:List.range 128=List.range 64++(List.range 64).map (64+·):=by decide
  unfold aay ai;rw[e,List.map_append,List.map_map];simp only[af,cl,List.append_nil];rfl
theorem EZ {N:Nat} (hN:N=64\/N=128) (gl:Nat->Option Nat):Sound prog gl 115 (EY N):=by
 intro args ids bl ch R ms w0 w K hg hl S hc;unfold EY at hc;split at hc
 ·rename_i b o n c g;cases hq:dE bl.length bl with
  |false=>rw[hq]at hc;exact hc.elim
  |true=>
   rw[hq]at hc;obtain⟨⟨hgg,he,hn⟩,hK⟩:=hc;have fI:∃(h0:1<=N) (h1:N<=1000),8<=N/\JY (NV N h0 h1 115 [.raw (.slice (some ⟨b,o,none⟩) n c)] g (UB N n g)):=by
    rcases hN with rfl|rfl
    ·exact⟨by omega,by omega,by omega,⟨by rw[NW];exact HR (by omega) (by omega) hgg he hn⟩⟩
    ·exact⟨by omega,by omega,by omega,⟨by rw[JZ];exact HR (by omega) (by omega) hgg he hn⟩⟩
   obtain⟨h0,h1,h8,fI⟩:=fI;have S1:St ms w0 (g.bl++(lits ids ids bl++R)) w:=S.perm (List.perm_append_comm_assoc _ _ _);refine(UC h0 h8 h1 g fI S1).mono ?_;rintro v w' ⟨b',rfl,S2⟩;refine⟨_,[b'],_,_,?_,by simp[hl],?_,hK⟩
   ·simp only[den];rw[<-hl,cv]
   ·rw[aQ _ _ _ _ hl,aR _ _ (by rw[hl];exact hq)];simp only[lits,aL,UD _ hN];refine S2.perm ?_;show List.Perm ([_]++(g.bl++(lits ids ids bl++R))) ((lits ids ids bl++[_])++(g.bl++R));refine(List.Perm.append_left _ (List.perm_append_comm_assoc _ _ _)).trans ?_;rw[<-List.append_assoc];exact List.Perm.append_right _ List.perm_append_comm
 ·exact hc.elim
theorem J2:oS.Ok prog EX:=by
 intro args bl p_ v_ h hp ids w hg hm;unfold oS at h;dsimp only at h;split at h
 ·rename_i a b c d e f g h' F t R bl';simp only[Option.some.injEq,Prod.mk.injEq]at h;obtain⟨rfl,rfl⟩:=h;subst hp;have h1:=hm.2 0 _ rfl;rw[(hg 0 0 rfl).2]at h1;have e1:(af ids [.arr .u32 64 aT]).toArray=ai .u32 64 aT:=by simp[af,cl,ai]
  rw[e1]at h1;exact JX t (l8 a b c d e f g h') F h1
 ·cases h
theorem HS {N n:Nat} (hN:N=64\/N=128) {b o c t:Nat} {f H:Nat->Int} {w:World} (hG:w.heap[0]?=some (.cells (ai .u32 64 aT) t (0,0))) (hB:fl w b o n f) (he:rY n=(N:Int)) (hn:n<N)
 (fI:∀g:oR,(g.b=b/\g.o=o/\g.n=n)->g.f=f->cI (dw prog EX (⟨115,false,EY N⟩::qL oR [oS])) 60 72 [.raw (.slice (some ⟨b,o,none⟩) n c)] [kJ t] [g] (du 1 λv _ _=>v=.agg (HM H))):
 ak prog 72 #[.slice (some ⟨b,o,none⟩) n c] w λv w1=>v=.agg (ai .u8 32 (Ci H))/\Ch [] w w1:=by
 obtain⟨g,hg,hf,ps,JK,hh⟩:=aid hB;have cT:ah prog EX (⟨115,false,EY N⟩::qL oR [oS]):=ah.cons ⟨EZ hN EX,λe=>by cases e⟩ (fJ (aW.cons J2 aW.nil));have S0:St [] w (lits [0] [0] [kJ t]++ag [g] []) w:=by
  have:=St.given (w:=w) ((0,.cells (af [0] [.arr .u32 64 aT]).toArray t (0,0))::ps) (by
   intro p hp;rcases List.mem_cons.1 hp with rfl|hp
   ·have e:(af [0] [.arr .u32 64 aT]).toArray=ai .u32 64 aT:=by simp[af,cl,ai]
    rw[e];exact hG
   ·exact hh p hp)
  show St [] w ([_]++(g.bl++[])) w;rw[JK,List.append_nil];exact this
 refine(bw cT.T cT.Q 60 (C:=dw prog EX (⟨115,false,EY N⟩::qL oR [oS])) (ids:=[0]) (bl:=[kJ t]) (ch:=[g]) (R:=[]) (λg i h=>by
  have h:EX g=some i:=h;unfold EX at h;cases hb:Nat.beq g 0 with
  |false=>rw[hb]at h;cases h
  |true=>rw[hb]at h;cases h;exact⟨by simp,by simp[List.getD,Nat.eq_of_beq_eq_true hb]⟩) rfl S0 (fI g hg hf)).mono ?_
 rintro v w' ⟨y,more,bl',ch',rfl,h1,S',hK⟩;obtain⟨v2,aS,bl2,e,_,_,rfl⟩:=dr (n0:=1) h1 (by simp) S' hK;exact⟨e.trans (J0 H _),S'.ch⟩
theorem zG (b o n c:Nat) (f:Nat->Int) (hn:n<=119) {tG:TypeId} (w:World) (hG:w.heap[0]?=some (.cells (ai .u32 64 aT) tG (0,0))) (hB:fl w b o n f):ak prog 72 #[.slice (some ⟨b,o,none⟩) n c] w λv w1=>v=.agg (ai .u8 32 (jR n f))/\Ch [] w w1:=by
 unfold jR;by_cases h:n<=55
 ·rw[Nat.ble_eq_true_of_le h];exact HS (.inl rfl) hG hB (HO h) (by omega) λg hg hf=>by rw[NX,hf];exact⟨⟨hg,HO h,by omega⟩,rfl,rfl⟩
 ·have hb:Nat.ble n 55=false:=by
   cases e:Nat.ble n 55 with
   |false=>rfl
   |true=>exact absurd (Nat.le_of_ble_eq_true e) h
  rw[hb];exact HS (.inr rfl) hG hB (HP (by omega) hn) (by omega) λg hg hf=>by rw[J1,hf];exact⟨⟨hg,HP (by omega) hn,by omega⟩,rfl,rfl,rfl⟩
end Go.Proofs.YtlkpikfddnjilaaGreatDoor
