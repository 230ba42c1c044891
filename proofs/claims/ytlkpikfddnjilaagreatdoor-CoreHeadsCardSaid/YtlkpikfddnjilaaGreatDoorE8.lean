/- Part 8 of the proof. -/
import Derived.Test.YtlkpikfddnjilaaGreatDoorProg
import Derived.Test.YtlkpikfddnjilaaGreatDoorE7
set_option linter.all false
set_option maxRecDepth 100000
set_option maxHeartbeats 4000000
open Go.Proofs.Tryz
open Go.IntKind (u8 u16 u32 u64 i64)
namespace Vx
open Go Go.RowKit Go.BigFrame Sx
variable{G:Type} [Bl G]
def YL (P:Program):(Operand->V)->Op->List VB->List G->VK G->Prop:=λe op bl ch K=>match op with
 |.call c=>(match c.callee,c.args.toList,c.argTypes.toList with
  |.builtin .append,[s,xs],[t,tx]=>(match P.underlying t,P.underlying tx with
   |some (.slice T),some (.slice _)=>(match kg P T,e s,e xs with
    |some (z,eJ),.raw (.slice none 0 0),.sl i 0 (m+1) _=>(match bl[i]?with
     |some b=>cond (Nat.beq (fb b.c) ((m+1)*z)&&(oF b.c&&(Nat.ble eJ 10000000&&(Nat.ble (m+1) 1000000&&(cK bl.length b.c&&ez bl.length bl)))))
      (∀(c':Nat) (u:List Value),m+1<=c'->fb (b.c++[.rest u])=c'*z->K (.sl bl.length 0 (m+1) c') (bl++[⟨true,T,b.c++[.rest u]⟩]) ch) False
     |none=>False)
    |_,_,_=>False)
   |_,_=>False)
  |_,_,_=>False)
 |_=>False
theorem SL {P:Program} {gl:Nat->Option Nat}:wD (G:=G) P gl (YL P):=by
 intro e op ids bl ch R ms w0 w K ρ o hg hl S cX ho h;unfold YL at h;split at h
 ·rename_i c;split at h
  ·rename_i s xs t tx iC ca nj;split at h
   ·rename_i T T' ht xf;split at h
    ·rename_i z eJ i m DD bd yx tB;split at h
     ·rename_i b hb;cases hq:Nat.beq (fb b.c) ((m+1)*z)&&(oF b.c&&(Nat.ble eJ 10000000&&(Nat.ble (m+1) 1000000&&(cK bl.length b.c&&ez bl.length bl))))with
      |false=>rw[hq]at h;exact h.elim
      |true=>
       rw[hq]at h;simp only[cond_true]at h;simp only[Bool.and_eq_true]at hq;obtain⟨q3,q4,q5,q6,q9,q10⟩:=hq;have q3:=Nat.eq_of_beq_eq_true q3;have q5:=Nat.le_of_ble_eq_true q5;have q6:=Nat.le_of_ble_eq_true q6;have cD:=(dY hl S hb).2;have qc:(ai ids b.c).length=(m+1)*z:=by rw[cV,q3]
       have gj:Src P z tx (.slice (some ⟨ids.getD i 0,0,none⟩) (m+1) DD) (m+1) (ai ids b.c) w:=by
        refine Src.ofSlice w xf ⟨ids.getD i 0,0,none⟩ (m+1) DD _ qc (λj u hj=>?_) (λu hu=>nq q4 u hu);rw[Addr.add_lit,cell_of cD];simpa using hj
       have Ef:(0+(m+1))*eJ<=140737488355328:=Nat.le_trans (Nat.mul_le_mul (by omega:0+(m+1)<=1000000) q5) (by decide);obtain⟨Ru,ar,Bx⟩:=c;simp only at iC ca nj;have e2:ar=#[s,xs]:=by rw[<-ca]
       have e3:Bx=#[t,tx]:=by rw[<-nj]
       subst iC e2 e3;obtain⟨v,w',bO,hc,x',c',bl',rfl,⟨r1,r2,r3⟩,SF⟩:=j5 (P:=P) (ty:=o.type) (iA z T) (by simp) eJ gj ht (lQ bd) Ef (Nat.le_trans (by omega:0+(m+1)<=1000000) (by decide));rcases r3 with⟨_,h0,_⟩|⟨b',tail,rfl,rfl,hlen⟩
       ·omega
       ·obtain⟨hh,hid⟩:=SF _ (List.mem_singleton.2 rfl);have rC:w.heap.size<=b':=by
         rcases hid with⟨u,hu,_⟩|h
         ·cases hu
         ·exact h
        simp only[List.nil_append,Nat.zero_add]at hh hlen r2 bO;have dd:∀(is:List Nat) (u:List Value),ai is (b.c++[.rest u])=ai is b.c++u:=λis u=>by
         rw[bH];simp[ai,cl]
        have Mx:cK ids.length (b.c++[.rest tail])=true:=by
         rw[hl];have IX:∀(x y:List V),cK bl.length x=true->cK bl.length y=true->cK bl.length (x++y)=true:=by
          intro x y;induction x with
          |nil=>intro _ h;simpa using h
          |cons v x ih=>intro h1 h2;simp only[List.cons_append,cK,Bool.and_eq_true]at h1⊢;exact⟨h1.1,ih h1.2 h2⟩
         exact IX _ _ q9 rfl
        refine⟨_,[b'],_,ch,w',.inl ?_,by simp[hl],?_,h c' tail r2 ?_⟩
        ·have:=cO (P:=P) (ρ:=ρ) (o:=o) ho (sv:=.slice none 0 0) (xv:=.slice (some ⟨ids.getD i 0,0,none⟩) (m+1) DD) (by rw[cX,yx];simp only[den]) (by rw[cX,tB];simp only[den]) bO;rw[this];simp only[den];rw[<-hl,cQ]
        ·rw[aY _ _ _ _ hl,a_ _ _ (by rw[hl];exact q10)];simp only[lits,aW];rw[b_ _ Mx,dd];have:=S.new hc rC hh;refine this.perm ?_;rw[List.append_assoc (lits ids ids bl)];exact(List.perm_middle).symm
        ·rw[<-cV (ids:=ids),dd,hlen]
     ·exact h.elim
    ·exact h.elim
   ·exact h.elim
  ·exact h.elim
 ·exact h.elim
theorem uN {P:Program} {gl:Nat->Option Nat} {a b:(Operand->V)->Op->List VB->List G->VK G->Prop} (t:(Operand->V)->Op->Bool) (ha:wD P gl a) (hb:wD P gl b):wD P gl (λe op bl ch K=>cond (t e op) (a e op bl ch K) (b e op bl ch K)):=by
 intro e op ids bl ch R ms w0 w K ρ o hg hl S cX ho h;cases ht:t e op with
 |true=>simp only[ht]at h;exact ha e op ids bl ch R ms w0 w K ρ o hg hl S cX ho h
 |false=>simp only[ht]at h;exact hb e op ids bl ch R ms w0 w K ρ o hg hl S cX ho h
def acL (e:Operand->V) (op:Op):Bool:=match op with
 |.call c=>(match c.args.toList with
  |s::_=>(match e s with|.sl _ _ _ _=>true|_=>false)
  |_=>false)
 |_=>false
def MA (P:Program):(Operand->V)->Op->List VB->List G->VK G->Prop:=λe op bl ch K=>cond (acL e op) (SG P e op bl ch K) (YL P e op bl ch K)
theorem tK {P:Program} {gl:Nat->Option Nat}:wD (G:=G) P gl (MA P):=uN acL GR SL
end Vx
namespace Vx
open Go Sx
section
variable{ids:List Nat} {P:Program} {w:World}
theorem iw0 {n:Nat} (h:n<=1000000):i64.wrap (n:Int)=n:=by simp[IntKind.wrap,IntKind.bits,IntKind.signed];omega
theorem run_mk {t el:TypeId} {n z:Nat} {zc:List V} {inf:TypeInfo} {k1 k2:IntKind} (hu:P.underlying t=some (.slice el)) (hi:P.info? el=some inf) (hz:kY P el=some (z+1)) (h0:j9 P el=some zc) (hl:fb zc=z+1) (h1:1<=n) (hn:n<=1000000) (hb:inf.bytes<=100):
 (Instr.makeSlice t (.int k1 (n:Int)) (.int k2 (n:Int))).run P w=.ok (.slice (some ⟨w.heap.size,0,none⟩) n n) (w.alloc (.cells (ai ids (lM zc n)).toArray el)):=by
 obtain⟨v0,z1,z2⟩:=kZ (P:=P) (w:=w) (ids:=ids) h0;have hv:v0.cells.size=z+1:=by rw[<-Array.length_toList,z2,cV,hl]
 have Ys:(Array.range (n*(z+1))).map (λi=>v0.cells[i%v0.cells.size]!)=(ai ids (lM zc n)).toArray:=by
  apply Array.ext';rw[xu v0.cells z hv,z2,A8]
 have hm:inf.bytes*n<=100000000:=Nat.le_trans (Nat.mul_le_mul hb hn) (by decide);have e1:(decide ((n:Int)<0)||decide ((inf.bytes:Int)*(n:Int)>2^48))=false:=by
  have:(inf.bytes:Int)*(n:Int)<=100000000:=by
   have q:=Int.ofNat_le.2 hm;rw[Int.natCast_mul]at q;exact q
  rw[decide_eq_false (by omega),decide_eq_false (by omega)];rfl
 have e2:¬(n*inf.bytes>roomBytes):=by
  have:n*inf.bytes<=100000000:=by rw[Nat.mul_comm];exact hm
  show¬(n*inf.bytes>_);unfold roomBytes;omega
 have e3:¬n*(z+1)=0:=by
  intro h;rcases Nat.mul_eq_zero.1 h with h|h<;>omega
 simp only[Instr.makeSlice,Sem.run_bind,run_underlying hu,Result.andThen_ok,asInt,asIntOf,Sem.run_pure,uw hi,iw0 hn,e1,Bool.false_or,askRoom,if_neg e2,Int.toNat_natCast,bA hz,if_neg e3,z1];simp only[show decide ((n:Int)<0)=false by simp,show decide ((n:Int)>(n:Int))=false by simp,Bool.or_self,Bool.false_eq_true,if_false,Sem.run_bind,Sem.run_pure,Result.andThen_ok,bA hz,if_neg e3,z1];rw[Ys];rfl
end
variable{G:Type} [Bl G]
def oe (P:Program):(Operand->V)->Op->List VB->List G->VK G->Prop:=λe op bl ch K=>match op with
 |.makeSlice t l c=>(match P.underlying t,e l,e c with
  |some (.slice el),.int _ (.ofNat n),.int _ (.ofNat m)=>(match P.info? el,kY P el,j9 P el with
   |some inf,some (z+1),some zc=>cond (Nat.beq n m&&(Nat.beq (fb zc) (z+1)&&(Nat.ble 1 n&&(Nat.ble n 1000000&&(Nat.ble inf.bytes 100&&(ez bl.length bl&&cK bl.length (lM zc n))))))) (K (.sl bl.length 0 n n) (bl++[⟨true,el,lM zc n⟩]) ch) False
   |_,_,_=>False)
  |_,_,_=>False)
 |_=>False
theorem YM {P:Program} {gl:Nat->Option Nat}:wD (G:=G) P gl (oe P):=by
 intro e op ids bl ch R ms w0 w K ρ o hg hl S cX ho h;unfold oe at h;split at h
 ·rename_i t l c;split at h
  ·rename_i el k1 n k2 m hu GW hec;split at h
   ·rename_i inf z zc hi hz h0;cases hq:Nat.beq n m&&(Nat.beq (fb zc) (z+1)&&(Nat.ble 1 n&&(Nat.ble n 1000000&&(Nat.ble inf.bytes 100&&(ez bl.length bl&&cK bl.length (lM zc n))))))with
    |false=>rw[hq]at h;exact h.elim
    |true=>
     rw[hq]at h;simp only[Bool.and_eq_true]at hq;obtain⟨q1,q2,q3,q4,q5,q6,q7⟩:=hq;obtain rfl:=Nat.eq_of_beq_eq_true q1;have bO:=run_mk (ids:=ids) (w:=w) (k1:=k1) (k2:=k2) hu hi hz h0 (Nat.eq_of_beq_eq_true q2) (Nat.le_of_ble_eq_true q3) (Nat.le_of_ble_eq_true q4) (Nat.le_of_ble_eq_true q5);obtain⟨g1,g2⟩:=grow hl S ⟨true,el,lM zc n⟩ rfl rfl (by rw[hl];exact q6) (by rw[hl];exact q7);refine⟨_,[w.heap.size],_,ch,_,.inl ?_,g2,g1,h⟩;unfold execOp;rw[ho];simp only[cX,GW,hec,den];have e1:Int.ofNat n=(n:Int):=rfl;rw[e1,Sem.run_bind,bO,Result.andThen_ok,Sem.run_pure,<-hl,cQ]
   ·exact h.elim
  ·exact h.elim
 ·exact h.elim
def acM (e:Operand->V) (op:Op):Bool:=match op with
 |.makeSlice _ _ _=>true
 |_=>false
def SN (P:Program):(Operand->V)->Op->List VB->List G->VK G->Prop:=λe op bl ch K=>cond (acM e op) (oe P e op bl ch K) (MA P e op bl ch K)
theorem yV {P:Program} {gl:Nat->Option Nat}:wD (G:=G) P gl (SN P):=uN acM YM tK
end Vx
namespace Vx
open Go Go.RowKit Go.BigFrame Sx
theorem yW {P:Program} {w:World} {z T m:Nat} {x:Option Addr} {news:List Value} {t tx ty:TypeId} {xv:Value} (bytes:Nat) (hs:Src P z tx xv m news w) (IA:0<m) (ht:P.underlying t=some (.slice T))
 (hi:(P.info? T).map (λi=>(i.zero.map (·.cells.size),i.size,i.bytes))=some (some z,z,bytes)) (hb:m*bytes<=140737488355328) (h63:m<=maxLen):
 ∃b' c' sT w',(Builtin.append_ #[t,tx] ty #[.slice x 0 0,xv]).run P w=.ok (.slice (some ⟨b',0,none⟩) m c') w'/\Ch [] w w'/\w.heap.size<=b'/\w'.heap[b']?=some (.cells (news++sT).toArray T (0,0))/\(news++sT).length=c'*z/\m<=c':=by
 obtain⟨i,bd,hi⟩:=Option.map_eq_some_iff.1 hi;simp only[Prod.mk.injEq]at hi;obtain⟨hz,iZ,Dz⟩:=hi;obtain⟨z0,DA,Iy⟩:=Option.map_eq_some_iff.1 hz;have Iz:=hs.newsLen;have wA:Src P i.size tx xv m news w:=by rw[iZ];exact hs
 have hold:(Builtin.firstCells i.size 0 (.slice x 0 0)).run P w.drew=.ok ([]:List Value).toArray w.drew:=by
  cases x with
  |none=>exact run_firstCells_none (P:=P) w.drew i.size 0 0 0
  |some a=>exact run_firstCells_some (P:=P) w.drew i.size 0 a 0 0 [] (by simp) (λj v hj=>by simp at hj)
 have bO:=run_append_grow_src (P:=P) w t tx ty T i z0 ht bd DA x 0 0 [] hold xv m news wA (by omega) (by simp only[maxLen]at h63;omega) (by rw[Dz];exact growslice_fits (by omega) (by rw[Nat.zero_add];exact hb));simp only[Nat.zero_add]at bO;have rC:=grownCap_ge w m 0 T;refine⟨w.heap.size,grownCap w m 0 T,(Builtin.zeroCells z0.cells (grownCap w m 0 T-m)).toList,_,bO,?_,Nat.le_refl _,?_,?_,rC⟩
 ·exact((Ch.refl [] w).drew).trans (Ch.alloc [] w.drew _) (λx hx=>.inl hx)
 ·have:=heap_alloc_new w.drew (.cells ((([]:List Value)++news).toArray++Builtin.zeroCells z0.cells (grownCap w m 0 T-m)) T);refine Eq.trans this ?_;congr 2;apply Array.ext';simp
 ·rw[List.length_append,Iz,Array.length_toList,size_zeroCells,Iy,<-Nat.add_mul];congr 1;omega
variable{G:Type} [Bl G]
def YN (P:Program):(Operand->V)->Op->List VB->List G->VK G->Prop:=λe op bl ch K=>match op with
 |.call c=>(match c.callee,c.args.toList,c.argTypes.toList with
  |.builtin .append,[s,xs],[t,tx]=>(match P.underlying t,P.underlying tx with
   |some (.slice T),some (.slice _)=>(match kg P T,e s,e xs with
    |some (z,eJ),.sl _ _ 0 0,.sl i 0 (m+1) _=>(match bl[i]?with
     |some b=>(match A1 b.c 0 ((m+1)*z)with
      |some C=>cond (oF C&&(Nat.ble eJ 10000000&&(Nat.ble (m+1) 1000000&&(cK bl.length C&&ez bl.length bl))))
       (∀(c':Nat) (u:List Value),m+1<=c'->fb (C++[.rest u])=c'*z->K (.sl bl.length 0 (m+1) c') (bl++[⟨true,T,C++[.rest u]⟩]) ch) False
      |none=>False)
     |none=>False)
    |_,_,_=>False)
   |_,_=>False)
  |_,_,_=>False)
 |_=>False
theorem SO {P:Program} {gl:Nat->Option Nat}:wD (G:=G) P gl (YN P):=by
 intro e op ids bl ch R ms w0 w K ρ o hg hl S cX ho h;unfold YN at h;split at h
 ·rename_i c;split at h
  ·rename_i s xs t tx iC ca nj;split at h
   ·rename_i T T' ht xf;split at h
    ·rename_i z eJ j0 o0 i m DD bd yx tB;split at h
     ·rename_i b hb;split at h
      ·rename_i C hC;cases hq:oF C&&(Nat.ble eJ 10000000&&(Nat.ble (m+1) 1000000&&(cK bl.length C&&ez bl.length bl)))with
       |false=>rw[hq]at h;exact h.elim
       |true=>
        rw[hq]at h;simp only[cond_true]at h;simp only[Bool.and_eq_true]at hq;obtain⟨q4,q5,q6,q9,q10⟩:=hq;have q5:=Nat.le_of_ble_eq_true q5;have q6:=Nat.le_of_ble_eq_true q6;have cD:=(dY hl S hb).2;obtain⟨g1,g2,g3⟩:=j8 (ids:=ids) hC;rw[List.drop_zero]at g1;have qc:(ai ids C).length=(m+1)*z:=by rw[<-g1,List.length_take];omega
        have gj:Src P z tx (.slice (some ⟨ids.getD i 0,0,none⟩) (m+1) DD) (m+1) (ai ids C) w:=by
         refine Src.ofSlice w xf ⟨ids.getD i 0,0,none⟩ (m+1) DD _ qc (λj u hj=>?_) (λu hu=>nq q4 u hu);rw[Addr.add_lit,cell_of cD];rw[<-g1]at hj;have Rk:j<(m+1)*z:=by
          rcases Nat.lt_or_ge j ((m+1)*z)with h|h
          ·exact h
          ·rw[List.getElem?_eq_none (by rw[List.length_take];omega)]at hj;cases hj
         rw[List.getElem?_take_of_lt Rk]at hj;simpa using hj
        have Ef:(m+1)*eJ<=140737488355328:=Nat.le_trans (Nat.mul_le_mul q6 q5) (by decide);obtain⟨Ru,ar,Bx⟩:=c;simp only at iC ca nj;have e2:ar=#[s,xs]:=by rw[<-ca]
        have e3:Bx=#[t,tx]:=by rw[<-nj]
        subst iC e2 e3;obtain⟨b',c',tail,w',bO,hc,rC,hh,hlen,r2⟩:=yW (P:=P) (ty:=o.type) (x:=some ⟨ids.getD j0 0,o0,none⟩) eJ gj (by omega) ht (lQ bd) Ef (Nat.le_trans q6 (by decide));have dd:∀(is:List Nat) (u:List Value),ai is (C++[.rest u])=ai is C++u:=λis u=>by
         rw[bH];simp[ai,cl]
        have Mx:cK ids.length (C++[.rest tail])=true:=by
         rw[hl];have IX:∀(x y:List V),cK bl.length x=true->cK bl.length y=true->cK bl.length (x++y)=true:=by
          intro x y;induction x with
          |nil=>intro _ h;simpa using h
          |cons v x ih=>intro h1 h2;simp only[List.cons_append,cK,Bool.and_eq_true]at h1⊢;exact⟨h1.1,ih h1.2 h2⟩
         exact IX _ _ q9 rfl
        refine⟨_,[b'],_,ch,w',.inl ?_,by simp[hl],?_,h c' tail r2 ?_⟩
        ·have:=cO (P:=P) (ρ:=ρ) (o:=o) ho (sv:=.slice (some ⟨ids.getD j0 0,o0,none⟩) 0 0) (xv:=.slice (some ⟨ids.getD i 0,0,none⟩) (m+1) DD) (by rw[cX,yx];simp only[den]) (by rw[cX,tB];simp only[den]) bO;rw[this];simp only[den];rw[<-hl,cQ]
        ·rw[aY _ _ _ _ hl,a_ _ _ (by rw[hl];exact q10)];simp only[lits,aW];rw[b_ _ Mx,dd];have:=S.new hc rC hh;refine this.perm ?_;rw[List.append_assoc (lits ids ids bl)];exact(List.perm_middle).symm
        ·rw[<-cV (ids:=ids),dd,hlen]
      ·exact h.elim
     ·exact h.elim
    ·exact h.elim
   ·exact h.elim
  ·exact h.elim
 ·exact h.elim
def YO (P:Program):(Operand->V)->Op->List VB->List G->VK G->Prop:=λe op bl ch K=>match op with
 |.call c=>(match c.callee,c.args.toList,c.argTypes.toList with
  |.builtin .append,[s,xs],[t,tx]=>(match P.underlying t,P.underlying tx with
   |some (.slice T),some (.slice _)=>(match P.info? T,e s,e xs with
    |some _,.sl j o n c,.sl _ _ 0 _=>cond (Nat.ble n c) (K (.sl j o n c) bl ch) False
    |some _,.raw (.slice none 0 0),.raw (.slice none 0 0)=>K (.raw (.slice none 0 0)) bl ch
    |_,_,_=>False)
   |_,_=>False)
  |_,_,_=>False)
 |.typeAssert x _ t true=>(match e x,P.underlying t with
  |.A0 t' v,some (.struct _)=>cond (Nat.beq t' t) (K (.aI [v,.bool true]) bl ch) False
  |_,_=>False)
 |_=>False
theorem SP {P:Program} {gl:Nat->Option Nat}:wD (G:=G) P gl (YO P):=by
 intro e op ids bl ch R ms w0 w K ρ o hg hl S cX ho h;unfold YO at h;split at h
 ·rename_i c;split at h
  ·rename_i s xs t tx iC ca nj;split at h
   ·rename_i T T' ht xf;obtain⟨Ru,ar,Bx⟩:=c;simp only at iC ca nj;have e2:ar=#[s,xs]:=by rw[<-ca]
    have e3:Bx=#[t,tx]:=by rw[<-nj]
    subst iC e2 e3;split at h
    ·rename_i inf j o0 n c i o1 c1 bd yx tB;cases hq:Nat.ble n c with
     |false=>rw[hq]at h;exact h.elim
     |true=>
      rw[hq]at h;have bO:=run_append_nothing (P:=P) w t tx o.type T inf ht bd (some ⟨ids.getD j 0,o0,none⟩) n c (Nat.le_of_ble_eq_true hq) (.slice (some ⟨ids.getD i 0,o1,none⟩) 0 c1) (Src.ofSlice w xf _ 0 c1 [] (by simp) (λj u hj=>by simp at hj) (λu hu=>by simp at hu));refine⟨_,[],bl,ch,w,.inl ?_,by simpa using hl,by simpa using S,h⟩;have:=cO (P:=P) (ρ:=ρ) (o:=o) ho (by rw[cX,yx];simp only[den]) (by rw[cX,tB];simp only[den]) bO;rw[this];simp only[den,List.append_nil]
    ·rename_i inf bd yx tB;have bO:=run_append_nothing (P:=P) w t tx o.type T inf ht bd none 0 0 (Nat.le_refl _) (.slice none 0 0) (Src.ofNil w xf 0);refine⟨_,[],bl,ch,w,.inl ?_,by simpa using hl,by simpa using S,h⟩;have:=cO (P:=P) (ρ:=ρ) (o:=o) ho (by rw[cX,yx];simp only[den]) (by rw[cX,tB];simp only[den]) bO;rw[this];simp only[den]
    ·exact h.elim
   ·exact h.elim
  ·exact h.elim
 ·rename_i x xt t;split at h
  ·rename_i t' v fs hx hu;cases hq:Nat.beq t' t with
   |false=>rw[hq]at h;exact h.elim
   |true=>
    rw[hq]at h;obtain rfl:=Nat.eq_of_beq_eq_true hq;refine⟨_,[],bl,ch,w,.inl ?_,by simpa using hl,by simpa using S,h⟩;unfold execOp;simp only[ho,cX,hx,den,az,Instr.typeAssert,Sem.run_bind,run_underlying hu,Result.andThen_ok,if_true,Sem.run_pure,List.append_nil];try rfl
  ·exact h.elim
 ·exact h.elim
def isO (e:Operand->V) (op:Op):Bool:=match op with
 |.call c=>(match c.args.toList with
  |[_,x]=>(match e x with|.sl _ _ 0 _=>true|.raw (.slice none 0 0)=>true|_=>false)
  |_=>false)
 |.typeAssert .. =>true
 |_=>false
def isE (e:Operand->V) (op:Op):Bool:=match op with
 |.call c=>(match c.args.toList with
  |s::_=>(match e s with|.sl _ _ 0 0=>true|_=>false)
  |_=>false)
 |_=>false
def MB (P:Program):(Operand->V)->Op->List VB->List G->VK G->Prop:=λe op bl ch K=>cond (isO e op) (YO P e op bl ch K) (cond (isE e op) (YN P e op bl ch K) (SN P e op bl ch K))
theorem tL {P:Program} {gl:Nat->Option Nat}:wD (G:=G) P gl (MB P):=uN isO SP (uN isE SO yV)
end Vx
namespace Go.Proofs.YtlkpikfddnjilaaGreatDoor
open Go Go.RowKit Go.BigFrame Sx Vx
def lkS:List Nat->List V->Nat->Option V
 |i::is,v::vs,t=>bif Nat.beq i t then some v else lkS is vs t
 |_,_,_=>none
def SQ (ix:List Nat) (vs:List V):Nat->Nat->List (Option V)
 |0,_=>[]
 |n+1,i=>lkS ix vs i::SQ ix vs n (i+1)
def BF:List Nat->List V->List V
 |[],_=>[]
 |i::is,fr=>nth fr i::BF is fr
theorem uO {n:Nat} {fr:List V}:∀(ix:List Nat) (vs:List V),BF ix fr=vs->cK n vs=true->∀t v,lkS ix vs t=some v->nth fr t=v/\fR n v=true
 |[],vs,_,_,t,v,h=>by cases vs<;>cases h
 |i::is,[],h,_,t,v,_=>by cases h
 |i::is,u::vs,h,hw,t,v,hl=>by
  simp only[BF,List.cons.injEq]at h;simp only[cK,Bool.and_eq_true]at hw;unfold lkS at hl;cases hb:Nat.beq i t with
  |true=>
   rw[hb]at hl;cases hl;obtain rfl:=Nat.eq_of_beq_eq_true hb;exact⟨h.1,hw.1⟩
  |false=>
   rw[hb]at hl;exact uO is vs h.2 hw.2 t v hl
theorem yX {n:Nat} {jf:List V} {ix:List Nat} {vs:List V} (h:∀t v,lkS ix vs t=some v->nth jf t=v/\fR n v=true):∀(N i:Nat) (fr:List V),fr.length=N->(∀k,nth jf (i+k)=nth fr k)->frM n (SQ ix vs N i) fr
 |0,_,[],_,_=>trivial
 |0,_,_::_,hl,_=>by simp at hl
 |N+1,i,[],hl,_=>by simp at hl
 |N+1,i,v::fr,hl,hn=>by
  unfold SQ;have ih:=yX h N (i+1) fr (by simpa using hl) (λk=>by have:=hn (k+1);simp only[nth]at this;rw[<-this];congr 1;omega);have h0:=hn 0;simp only[nth,Nat.add_zero]at h0;cases hk:lkS ix vs i with
  |none=>exact ih
  |some u=>
   obtain⟨h1,h2⟩:=h i u hk;exact⟨h0.symm.trans h1,h2,ih⟩
section
variable{G:Type} {X:Type}
def IZ (c9:X->List V) (bl:X->List VB) (ch:X->List G) (vs:List V) (b:List VB) (c:List G):Prop:=∃x,vs=c9 x/\b=bl x/\c=ch x
def enD (m:X->Nat) (c9:X->List V) (bl:X->List VB) (ch:X->List G) (x:X) (vs:List V) (b:List VB) (c:List G):Prop:=∃y,m y<m x/\vs=c9 y/\b=bl y/\c=ch y
def MC (m:X->Nat) (N n0:Nat) (ix:List Nat) (c9:X->List V) (bl:X->List VB) (ch:X->List G) (h1:∀x,(bl x).length=n0) (h2:∀x,ez n0 (bl x)=true) (h3:∀x,cK n0 (c9 x)=true):Lp G where
 X:=X
 m:=m
 fr x:=SQ ix (c9 x) N 0
 bl:=bl
 ch:=ch
 en0 fr b c:=Nat.beq fr.length N=true/\IZ c9 bl ch (BF ix fr) b c
 en x fr b c:=Nat.beq fr.length N=true/\enD m c9 bl ch x (BF ix fr) (b.take n0) c
 ok0:=by
  rintro fr b c ⟨hl,x,hv,rfl,rfl⟩;refine⟨x,?_,rfl,rfl⟩;rw[h1];exact yX (uO ix _ hv (h3 x)) N 0 fr (Nat.eq_of_beq_eq_true hl) (λk=>by rw[Nat.zero_add])
 ok:=by
  rintro x fr b c ⟨hl,y,hm,hv,hb,rfl⟩;refine⟨y,hm,?_,by rw[h1,h1],by rw[h1];exact h2 y,⟨b.drop n0,?_⟩,rfl⟩
  ·rw[h1];exact yX (uO ix _ hv (h3 y)) N 0 fr (Nat.eq_of_beq_eq_true hl) (λk=>by rw[Nat.zero_add])
  ·rw[<-hb,List.take_append_drop]
end
def DE {G:Type} [Bl G] (P:Program) (gl:Nat->Option Nat) (L:List (eG G)) (lp:Nat->Option (Lp G)):Ctx G:=⟨P,Mv L,gl,SA L,noH,Mc,λi _=>lp i⟩
theorem ao.TL {G:Type} [Bl G] {P:Program} {gl:Nat->Option Nat} {L:List (eG G)} {lp:Nat->Option (Lp G)} (h:ao P gl L):∀f c,(DE P gl L lp).T f=some c->Sound (DE P gl L lp).P (DE P gl L lp).gl f c:=h.T
theorem ao.QL {G:Type} [Bl G] {P:Program} {gl:Nat->Option Nat} {L:List (eG G)} {lp:Nat->Option (Lp G)} (h:ao P gl L):ia (DE P gl L lp):=h.Q
def my:Nat->Option Nat:=λ_=>none
theorem MD:ao (G:=Empty) prog my []:=ao.nil
def SR {G:Type} (i:Nat) (I:Lp G):Nat->Option (Lp G):=λj=>bif Nat.beq j i then some I else none
def aT (k:Nat):Int:=([1116352408,1899447441,3049323471,3921009573,961987163,1508970993,2453635748,2870763221,3624381080,310598401,607225278,1426881987,1925078388,2162078206,2614888103,3248222580,3835390401,4022224774,264347078,604807628,770255983,1249150122,1555081692,1996064986,2554220882,2821834349,2952996808,3210313671,3336571891,3584528711,113926993,338241895,666307205,773529912,1294757372,1396182291,1695183700,1986661051,2177026350,2456956037,2730485921,2820302411,3259730800,3345764771,3516065817,3600352804,4094571909,275423344,430227734,506948616,659060556,883997877,958139571,1322822218,1537002063,1747873779,1955562222,2024104815,2227730452,2361852424,2428436474,2756734187,3204031479,3329325298]:List Int).getD k 0
def qf (n:Nat) (x:Int):Int:=bits .or .u32 (u32.wrap (x*2^(32-n))) (Int.fdiv x (2^n))
def BG:QF:=⟨158,λargs _=>match args with
 |[.int .u32 a,.int .i64 (.ofNat n)]=>(match n with
  |2|6|7|11|13|17|18|19|22|25=>some (True,.int .u32 (qf n a))
  |_=>none)
 |_=>none⟩
theorem vq0 {f:Nat} {xs:List V} {v:V} {n:Nat} (h:∀K,jr prog [] n f xs K=K v) (ha:cK 0 xs=true) (hv:fR 0 v=true) {ids:List Nat} {w:World}:au prog f (az ids xs).toArray w λx w'=>x=den ids v/\Ch [] w w':=
 oK aX.nil n (by rw[h]) ha hv ids w
theorem GY (gl:Nat->Option Nat):BG.Ok prog gl:=by
 intro args bl p_ v_ h hp ids w _ _;unfold BG at h;dsimp only at h;split at h
 ·rename_i a n;split at h<;>first|cases h;done|(simp only[Option.some.injEq,Prod.mk.injEq]at h;obtain⟨rfl,rfl⟩:=h;exact vq0 (n:=30) (λK=>by kernel_rfl) rfl rfl)
 ·cases h
def w1E (f:Nat->Int) (i:Int):Int:=bits .or .u32 (bits .or .u32 (bits .or .u32 (u32.wrap (u32.wrap (f (0+(i64.wrap (4*i)).toNat))*2^24)) (u32.wrap (u32.wrap (f (0+(i64.wrap (i64.wrap (4*i)+1)).toNat))*2^16)))
 (u32.wrap (u32.wrap (f (0+(i64.wrap (i64.wrap (4*i)+2)).toNat))*2^8))) (u32.wrap (f (0+(i64.wrap (i64.wrap (4*i)+3)).toNat)))
def YP (f:Nat->Int):Nat->Nat->Int
 |0=>λ_=>0
 |k+1=>oC (YP f k) (0+((k:Nat):Int).toNat) (w1E f (k:Nat))
def w2E (V:Nat->Int) (k:Int):Int:=
 let at_:=λd:Int=>V (0+(i64.wrap (k-d)).toNat)
 u32.wrap (u32.wrap (u32.wrap (at_ 16+at_ 7)+bits .xor .u32 (bits .xor .u32 (qf 7 (at_ 15)) (qf 18 (at_ 15))) (Int.fdiv (at_ 15) (2^3)))+bits .xor .u32 (bits .xor .u32 (qf 17 (at_ 2)) (qf 19 (at_ 2))) (Int.fdiv (at_ 2) (2^10)))
def BH (f:Nat->Int):Nat->Nat->Int
 |0=>YP f 16
 |k+1=>oC (BH f k) (0+((16+k:Nat):Int).toNat) (w2E (BH f k) ((16+k:Nat):Int))
def l8 (a b c d e f g h:Int):Nat->Int:=λj=>([a,b,c,d,e,f,g,h]:List Int).getD j 0
def rE (N W:Nat->Int) (k:Int):Nat->Int:=(l8 (u32.wrap ((u32.wrap ((u32.wrap ((u32.wrap ((u32.wrap ((N 7)+(bits .xor .u32 (bits .xor .u32 (qf 6 (N 4)) (qf 11 (N 4))) (qf 25 (N 4)))))+(bits .or .u32 (bits .and .u32 (N 4) (N 5)) (bits .and .u32 (bits .xor .u32 4294967295 (N 4)) (N 6)))))+(aT (0+(k).toNat))))+(W (0+(k).toNat))))+(u32.wrap ((bits .xor .u32 (bits .xor .u32 (qf 2 (N 0)) (qf 13 (N 0))) (qf 22 (N 0)))+(bits .or .u32 (bits .or .u32 (bits .and .u32 (N 0) (N 1)) (bits .and .u32 (N 0) (N 2))) (bits .and .u32 (N 1) (N 2))))))) (N 0) (N 1) (N 2) (u32.wrap ((N 3)+(u32.wrap ((u32.wrap ((u32.wrap ((u32.wrap ((N 7)+(bits .xor .u32 (bits .xor .u32 (qf 6 (N 4)) (qf 11 (N 4))) (qf 25 (N 4)))))+(bits .or .u32 (bits .and .u32 (N 4) (N 5)) (bits .and .u32 (bits .xor .u32 4294967295 (N 4)) (N 6)))))+(aT (0+(k).toNat))))+(W (0+(k).toNat)))))) (N 4) (N 5) (N 6))
def Ek (h W:Nat->Int):Nat->Nat->Int
 |0=>h
 |n+1=>rE (Ek h W n) W (n:Int)
def ku (h f:Nat->Int):Nat->Int:=λj=>u32.wrap (Ek h (BH f 48) 64 j+h j)
def El (m:Int) (n:Nat) (X:Prop):Prop:=(0<=m/\m<(n:Int))/\0+m.toNat<n/\X
theorem gI {m:Int} {n:Nat} {X:Prop} (h:0<=m/\m<(n:Int)) (k:X):El m n X:=⟨h,by omega,k⟩
theorem kx {x:Int} (h:-9223372036854775808<=x/\x<=9223372036854775807):i64.wrap x=x:=by simp[IntKind.wrap,IntKind.bits,IntKind.signed];omega
section
variable(f:Nat->Int) (K:VK Empty)
def wB (W:Nat->Int):List VB:=[⟨true,⟨211,(0,0)⟩,[.arr .u8 64 f]⟩,⟨true,⟨244,(0,0)⟩,[.arr .u32 64 λ_=>0]⟩,⟨true,⟨244,(0,0)⟩,[.arr .u32 64 W]⟩]
def w3 (i:Int):List V:=[.ptr 0 0,.ptr 1 0,.ptr 2 0,.int .i64 i]
def w1L:Lp Empty:=MC (X:={i:Nat //i<=16}) (λi=>16-i.1) 89 3 [1,2,3,10] (λi=>w3 (i.1:Int)) (λi=>wB f (YP f i.1)) (λ_=>[]) (λ_=>rfl) (λ_=>rfl) (λ_=>rfl)
def w2L:Lp Empty:=MC (X:={i:Nat //i<=48}) (λi=>48-i.1) 89 3 [1,2,3,5] (λi=>w3 ((16+i.1:Nat):Int)) (λi=>wB f (BH f i.1)) (λ_=>[]) (λ_=>rfl) (λ_=>rfl) (λ_=>rfl)
def wLp:Nat->Option (Lp Empty):=λj=>match j with|0=>some (w1L f)|2=>some (w2L f)|_=>none
def wX:Prop:=
 (true=true/\IZ (λi:{i:Nat //i<=16}=>w3 (i.1:Int)) (λi=>wB f (YP f i.1)) (λ_=>[]) (w3 0) (wB f λ_=>0) ([]:List Empty))/\∀(x:{i:Nat //i<=16}) (g:Nat->Value),cond (decide ((x.1:Int)<16))
  (El (i64.wrap (4*(x.1:Int))) 64<|El (i64.wrap (i64.wrap (4*(x.1:Int))+1)) 64<|El (i64.wrap (i64.wrap (4*(x.1:Int))+2)) 64<|El (i64.wrap (i64.wrap (4*(x.1:Int))+3)) 64<|El (x.1:Int) 64
   (true=true/\enD (λi:{i:Nat //i<=16}=>16-i.1) (λi=>w3 (i.1:Int)) (λi=>wB f (YP f i.1)) (λ_=>[]) x (w3 (i64.wrap ((x.1:Int)+1))) (wB f (YP f (x.1+1))) ([]:List Empty)))
  ((true=true/\IZ (λi:{i:Nat //i<=48}=>w3 ((16+i.1:Nat):Int)) (λi=>wB f (BH f i.1)) (λ_=>[]) (w3 16) (wB f (YP f x.1)) ([]:List Empty))/\∀(y:{i:Nat //i<=48}) (g:Nat->Value),cond (decide (((16+y.1:Nat):Int)<64))
    (El (i64.wrap (((16+y.1:Nat):Int)-15)) 64<|El (i64.wrap (((16+y.1:Nat):Int)-2)) 64<|True/\True/\True/\True/\(El (i64.wrap (((16+y.1:Nat):Int)-16)) 64<|El (i64.wrap (((16+y.1:Nat):Int)-7)) 64<|El ((16+y.1:Nat):Int) 64
     (true=true/\enD (λi:{i:Nat //i<=48}=>48-i.1) (λi=>w3 ((16+i.1:Nat):Int)) (λi=>wB f (BH f i.1)) (λ_=>[]) y (w3 (i64.wrap (((16+y.1:Nat):Int)+1))) (wB f (BH f (y.1+1))) ([]:List Empty))))
    (K (.agg [.arr .u32 64 (BH f y.1)]) [] []))
theorem ME:c_ (DE prog my (qL Empty [BG]) (wLp f)) 60 157 [.agg [.arr .u8 64 f]] [] [] (eB 0 K)=wX f K:=by kernel_rfl
end
theorem I0 (f:Nat->Int):wX f λv _ _=>v=.agg [.arr .u32 64 (BH f 48)]:=by
 refine⟨⟨rfl,⟨0,by omega⟩,rfl,rfl,rfl⟩,λx g=>aS (λh=>?_) λh=>?_⟩
 ·have hx:(x.1:Int)<16:=of_decide_eq_true h;have e:=kx (x:=4*(x.1:Int)) (by omega);have e1:=kx (x:=4*(x.1:Int)+1) (by omega);have e2:=kx (x:=4*(x.1:Int)+2) (by omega);have e3:=kx (x:=4*(x.1:Int)+3) (by omega);rw[e,e1,e2,e3];refine gI (by omega) (gI (by omega) (gI (by omega) (gI (by omega) (gI (by omega) ⟨rfl,⟨x.1+1,by omega⟩,by show 16-(x.1+1)<16-x.1;omega,?_,rfl,rfl⟩))));rw[kx (by omega)];rfl
 ·have hx:x.1=16:=by have:=of_decide_eq_false h;have:=x.2;omega
  rw[hx];refine⟨⟨rfl,⟨0,by omega⟩,rfl,rfl,rfl⟩,λy g=>aS (λh=>?_) λh=>?_⟩
  ·have hy:((16+y.1:Nat):Int)<64:=of_decide_eq_true h;rw[kx (x:=((16+y.1:Nat):Int)-15) (by omega),kx (x:=((16+y.1:Nat):Int)-2) (by omega),kx (x:=((16+y.1:Nat):Int)-16) (by omega),kx (x:=((16+y.1:Nat):Int)-7) (by omega)];refine gI (by omega) (gI (by omega) ⟨trivial,trivial,trivial,trivial,gI (by omega) (gI (by omega) (gI (by omega) ⟨rfl,⟨y.1+1,by omega⟩,by show 48-(y.1+1)<48-y.1;omega,?_,rfl,rfl⟩))⟩);rw[kx (by omega)];rfl
  ·have hy:y.1=48:=by have:=of_decide_eq_false h;have:=y.2;omega
   rw[hy]
def BI:QF:=⟨157,λargs _=>match args with
 |[.agg [.arr .u8 64 f]]=>some (True,.agg [.arr .u32 64 (BH f 48)])
 |_=>none⟩
theorem MF (gl:Nat->Option Nat):BI.Ok prog gl:=by
 intro args bl p_ v_ h hp ids w _ _;unfold BI at h;dsimp only at h;split at h
 ·rename_i f;simp only[Option.some.injEq,Prod.mk.injEq]at h;obtain⟨rfl,rfl⟩:=h;have hv:c_ (DE prog my (qL Empty [BG]) (wLp f)) 60 157 [.agg [.arr .u8 64 f]] [] [] (eB 0 λv _ _=>v=.agg [.arr .u32 64 (BH f 48)]):=by rw[ME];exact I0 f
  have dc:=fZ (G:=Empty) (P:=prog) (gl:=my) (aX.cons (GY _) aX.nil);refine(bW (C:=DE prog my (qL Empty [BG]) (wLp f)) (_root_.Go.Proofs.YtlkpikfddnjilaaGreatDoor.ao.TL dc) (_root_.Go.Proofs.YtlkpikfddnjilaaGreatDoor.ao.QL dc) 60 (ids:=[]) (bl:=[]) (ch:=[]) (R:=[]) (ms:=[]) (w0:=w) (w:=w) (λg i h=>nomatch h) rfl (St.nil [] w) hv).mono ?_;rintro x w' ⟨y,more,bl',ch',rfl,h1,S',hK⟩;obtain⟨v2,bj,bl2,e,_,_,rfl⟩:=eQ (n0:=0) h1 (by simp) S' hK;exact⟨e.trans rfl,S'.ch⟩
 ·cases h
section
variable(t:Nat) (h f:Nat->Int) (K:VK Empty)
def i8 (h:Nat->Int):List V:=[.int .u32 (h 0),.int .u32 (h 1),.int .u32 (h 2),.int .u32 (h 3),.int .u32 (h 4),.int .u32 (h 5),.int .u32 (h 6),.int .u32 (h 7)]
def k9:VB:=⟨false,⟨t,(0,0)⟩,[.arr .u32 64 aT]⟩
def bB (N:Nat->Int):List VB:=[k9 t,⟨true,⟨208,(0,0)⟩,i8 h⟩,⟨true,⟨211,(0,0)⟩,[.arr .u8 64 f]⟩,⟨true,⟨208,(0,0)⟩,i8 λ_=>0⟩,⟨true,⟨244,(0,0)⟩,[.arr .u32 64 (BH f 48)]⟩,⟨true,⟨208,(0,0)⟩,i8 N⟩]
def b6 (i:Int):List V:=[.ptr 1 0,.ptr 2 0,.ptr 3 0,.ptr 4 0,.ptr 5 0,.int .i64 i]
def bL:Lp Empty:=MC (X:={i:Nat //i<=64}) (λi=>64-i.1) 113 6 [2,3,4,5,6,17] (λi=>b6 (i.1:Int)) (λi=>bB t h f (Ek h (BH f 48) i.1)) (λ_=>[]) (λ_=>rfl) (λ_=>rfl) (λ_=>rfl)
def Em:Nat->Option Nat:=λg=>bif Nat.beq g 0 then some 0 else none
def bX:Prop:=True/\(true=true/\IZ (λi:{i:Nat //i<=64}=>b6 (i.1:Int)) (λi=>bB t h f (Ek h (BH f 48) i.1)) (λ_=>[]) (b6 0) (bB t h f h) ([]:List Empty))/\∀(x:{i:Nat //i<=64}) (g:Nat->Value),cond (decide ((x.1:Int)<64))
 (El (x.1:Int) 64<|El (x.1:Int) 64<|True/\True/\True/\True/\True/\True/\
  (true=true/\enD (λi:{i:Nat //i<=64}=>64-i.1) (λi=>b6 (i.1:Int)) (λi=>bB t h f (Ek h (BH f 48) i.1)) (λ_=>[]) x (b6 (i64.wrap ((x.1:Int)+1))) (bB t h f (Ek h (BH f 48) (x.1+1))) ([]:List Empty)))
 (K (.agg (i8 λj=>u32.wrap (Ek h (BH f 48) x.1 j+h j))) [k9 t] [])
theorem MG:c_ (DE prog Em (qL Empty [BG,BI]) (SR 0 (bL t h f))) 60 116 [.agg (i8 h),.agg [.arr .u8 64 f]] [k9 t] [] (eB 1 K)=bX t h f K:=by kernel_rfl
end
theorem I1 (t:Nat) (h f:Nat->Int):bX t h f λv _ _=>v=.agg (i8 (ku h f)):=by
 refine⟨trivial,⟨rfl,⟨0,by omega⟩,rfl,rfl,rfl⟩,λx g=>aS (λhh=>?_) λhh=>?_⟩
 ·have hx:(x.1:Int)<64:=of_decide_eq_true hh;refine gI (by omega) (gI (by omega) ⟨trivial,trivial,trivial,trivial,trivial,trivial,rfl,⟨x.1+1,by omega⟩,by show 64-(x.1+1)<64-x.1;omega,?_,rfl,rfl⟩);rw[kx (by omega)];rfl
 ·have hx:x.1=64:=by have:=of_decide_eq_false hh;have:=x.2;omega
  rw[hx];rfl
theorem I2 (t:Nat) (h f:Nat->Int) {ids:List Nat} {w:World} (hG:w.heap[0]?=some (.cells (aj .u32 64 aT) t (0,0))):au prog 116 (az ids [.agg (i8 h),.agg [.arr .u8 64 f]]).toArray w λx w'=>x=den ids (.agg (i8 (ku h f)))/\Ch [] w w':=by
 have hv:c_ (DE prog Em (qL Empty [BG,BI]) (SR 0 (bL t h f))) 60 116 [.agg (i8 h),.agg [.arr .u8 64 f]] [k9 t] [] (eB 1 λv _ _=>v=.agg (i8 (ku h f))):=by rw[MG];exact I1 t h f
 have dc:=fZ (G:=Empty) (P:=prog) (gl:=Em) (aX.cons (GY _) (aX.cons (MF _) aX.nil));have S0:St [] w (lits [0] [0] [k9 t]++[]) w:=St.given (w:=w) [(0,.cells (ai [0] [.arr .u32 64 aT]).toArray t (0,0))] (by
  intro p hp;simp only[List.mem_singleton]at hp;subst hp;have e:(ai [0] [.arr .u32 64 aT]).toArray=aj .u32 64 aT:=by simp[ai,cl,aj]
  rw[e];exact hG)
 have e0:∀ids,az ids [.agg (i8 h),.agg [.arr .u8 64 f]]=az [0] [.agg (i8 h),.agg [.arr .u8 64 f]]:=λ_=>rfl;rw[e0];refine(bW (C:=DE prog Em (qL Empty [BG,BI]) (SR 0 (bL t h f))) (_root_.Go.Proofs.YtlkpikfddnjilaaGreatDoor.ao.TL dc) (_root_.Go.Proofs.YtlkpikfddnjilaaGreatDoor.ao.QL dc) 60 (ids:=[0]) (bl:=[k9 t]) (ch:=[]) (R:=[]) (λg i h=>by
  have h:Em g=some i:=h;unfold Em at h;cases hb:Nat.beq g 0 with
  |false=>rw[hb]at h;cases h
  |true=>rw[hb]at h;cases h;exact⟨by simp,by simp[List.getD,Nat.eq_of_beq_eq_true hb]⟩) rfl S0 hv).mono ?_
 rintro x w' ⟨y,more,bl',ch',rfl,h1,S',hK⟩;obtain⟨v2,bj,bl2,e,_,_,rfl⟩:=eQ (n0:=1) h1 (by simp) S' hK;exact⟨e.trans rfl,S'.ch⟩
structure Rz (p:Prop):Prop where
 h:p
structure oL where
 bl:List aC
 b:Nat
 o:Nat
 n:Nat
 f:Nat->Int
 h:∀w:World,(∀y∈bl,w.heap[y.id]?=some y.obj)->fK w b o n f
instance:Bl oL:=⟨λg=>g.bl⟩
def SS (N:Nat):(Operand->V)->Op->List VB->List oL->VK oL->Prop:=λe op bl ch K=>match op with
 |.makeSlice t l c=>(match prog.underlying t,e l,e c with
  |some (.slice 5),.int .i64 m,.int .i64 m'=>cond (ez bl.length bl) ((m=(N:Int)/\m'=(N:Int))/\K (.sl bl.length 0 N N) (bl++[⟨true,⟨5,(0,0)⟩,[.arr .u8 N λ_=>0]⟩]) ch) False
  |_,_,_=>False)
 |.call c=>(match c.callee,c.args.toList,c.argTypes.toList with
  |.builtin .copy,[s,xs],[t,tx]=>(match prog.underlying t,e s,e xs,ch with
   |some (.slice 5),.sl i 0 n c,.raw (.slice (some ⟨b,o,none⟩) m mc),[g]=>(match bl[i]?with
    |some ⟨true,⟨5,(0,0)⟩,[.arr .u8 N' f]⟩=>((g.b=b/\g.o=o/\g.n=m)/\m<=n/\n<=N')/\K (.int .i64 (m:Int)) (bl.set i ⟨true,⟨5,(0,0)⟩,[.arr .u8 N' (dm f 0 m g.f)]⟩) ch
    |_=>False)
   |_,_,_,_=>False)
  |_,_,_=>False)
 |_=>False
theorem nD (ids:List Nat) (N:Nat) (f:Nat->Int):(ai ids [.arr .u8 N f]).toArray=aj .u8 N f:=by simp[ai,cl,aj]
theorem GZ {N:Nat} (h0:1<=N) (h1:N<=1000):wD prog (λ_=>none) (SS N):=by
 intro e op ids bl ch R ms w0 w K ρ o hg hl S cX ho h;unfold SS at h;split at h
 ·rename_i t l c;split at h
  ·rename_i m m' hu GW hec;cases hq:ez bl.length bl with
   |false=>rw[hq]at h;exact h.elim
   |true=>
    rw[hq]at h;obtain⟨⟨rfl,rfl⟩,hK⟩:=h;obtain⟨inf,Ee,Dz⟩:∃inf,prog.info? 5=some inf/\inf.bytes<=100:=⟨_,rfl,Nat.le_of_ble_eq_true (by kernel_rfl)⟩;have hz:∀k:Nat,(ai ids (lM [.int .u8 0] k))=(List.range k).map λ_=>Value.int .u8 0:=by
     intro k;induction k with
     |zero=>rfl
     |succ k ih=>rw[lM,bH,ih,List.range_succ_eq_map,List.map_cons,List.map_map];rfl
    have bO:=run_mk (P:=prog) (ids:=ids) (w:=w) (t:=t) (el:=5) (n:=N) (z:=0) (zc:=[.int .u8 0]) (inf:=inf) (k1:=.i64) (k2:=.i64) hu Ee (by kernel_rfl) (by kernel_rfl) rfl h0 (by omega) Dz;refine⟨_,[w.heap.size],_,ch,w.alloc (.cells (ai ids (lM [.int .u8 0] N)).toArray 5),.inl ?_,by simp[hl],?_,hK⟩
    ·unfold execOp;simp only[ho,cX,GW,hec,den,Sem.run_bind,bO,Result.andThen_ok,Sem.run_pure];rw[<-hl,cQ]
    ·rw[aY _ _ _ _ hl,a_ _ _ (by rw[hl];exact hq)];simp only[lits,aW,nD];have e1:(ai ids (lM [.int .u8 0] N)).toArray=aj .u8 N λ_=>0:=by rw[hz];rfl
     rw[e1];refine(S.new (Ch.alloc [] w _) (Nat.le_refl _) (heap_alloc_new w _)).perm ?_;rw[List.append_assoc];exact List.perm_middle.symm
  ·exact h.elim
 ·rename_i c;split at h
  ·rename_i s xs t tx iC ca nj;split at h
   ·rename_i i n cc b o' m mc g hu yx tB;split at h
    ·rename_i N' f hb;obtain⟨⟨⟨rfl,rfl,rfl⟩,hm,hn⟩,hK⟩:=h;obtain⟨Ru,ar,Bx⟩:=c;simp only at iC ca nj;have e2:ar=#[s,xs]:=by rw[<-ca]
     have e3:Bx=#[t,tx]:=by rw[<-nj]
     subst iC e2 e3;obtain⟨hj,cD⟩:=dY hl S hb;rw[nD]at cD;have BB:=(dY hl S hb).2;rw[nD]at BB;have h8:fK w g.b g.o g.n g.f:=g.h w λy hy=>S.at' (List.mem_append_right _ (show y∈g.bl++R from List.mem_append_left _ hy));have Lq:Nat.min g.n n=g.n:=Nat.min_eq_left hm;have bO:=run_copy_row (P:=prog) w t tx o.type 5 (ids.getD i 0) 0 n cc ⟨g.b,g.o,none⟩ g.n mc (aj .u8 N' f) 5 (fQ g.n g.f) hu (by kernel_rfl) BB (by rw[fI,Lq]) (λj v hj=>by
      obtain⟨h1,rfl⟩:=lK hj;rw[Addr.add_lit];exact h8 j h1) (by rw[fI,kU];omega) pO
     have e4:((aj .u8 N' f).toList.take 0++fQ g.n g.f++(aj .u8 N' f).toList.drop (0+(fQ g.n g.f).length)).toArray=aj .u8 N' (dm f 0 g.n g.f):=by
      rw[fI];exact rF .u8 f (by omega) g.f
     rw[e4]at bO;have um:ρ s=.slice (some ⟨ids.getD i 0,0,none⟩) n cc:=by rw[cX,yx];simp only[den]
     have RA:ρ xs=.slice (some ⟨g.b,g.o,none⟩) g.n mc:=by rw[cX,tB];simp only[den]
     have hex:=yB (P:=prog) (ρ:=ρ) (o:=o) ho um RA bO;rw[fI]at hex;refine⟨.int .i64 (g.n:Int),[],_,_,_,.inl hex,by simpa using hl,?_,hK⟩
     ·simp only[List.append_nil];have nY:=S.step hj rfl (Ch.setRow w _ _) (setRow_heap w (ids.getD i 0) (aj .u8 N' f) (aj .u8 N' (dm f 0 g.n g.f)) 5 (0,0) BB);have DC:i<(lits ids ids bl).length:=by rw[jC ids bl hl];rcases Nat.lt_or_ge i bl.length with h'|h';exact h';simp[h']at hb
      rw[<-jD (ids:=ids) ids bl i _ hl,<-List.set_append_left _ _ DC];simp only[aW,nD];exact nY
    ·exact h.elim
   ·exact h.elim
  ·exact h.elim
 ·exact h.elim
def rO (n:Nat):Int:=i64.wrap (i64.wrap (Int.tdiv (i64.wrap (i64.wrap (i64.wrap ((n:Int)+9)+64)-1)) 64)*64)
def af7 (e d:Int) (i:Nat) (F:Nat->Int):Nat->Int:=oC F (0+(i64.wrap (i64.wrap (e-1)-(i:Int))).toNat) (u8.wrap (Int.fdiv d (2^(8*i))))
def acN (e d:Int) (F:Nat->Int):Nat->Nat->Int
 |0=>F
 |k+1=>af7 e d k (acN e d F k)
def tj (N n:Nat) (f:Nat->Int):Nat->Int:=acN (rO n) (u64.wrap (u64.wrap (n:Int)*8)) (oC (dm (λ_=>0) 0 n f) (0+((n:Nat):Int).toNat) 128) 8
def SU (e:Int) (N:Nat) (X:Prop):Nat->Nat->Prop
 |0,_=>X
 |k+1,i=>El (i64.wrap (i64.wrap (e-1)-(i:Int))) N (SU e N X k (i+1))
def YQ (N n b o:Nat) (g:oL) (K:VK oL):Prop:=(rO n=(N:Int)/\rO n=(N:Int))/\((g.b=b/\g.o=o/\g.n=n)/\n<=N/\N<=N)/\El (n:Int) N (SU (rO n) N (K (.sl 0 0 N N) [⟨true,⟨5,(0,0)⟩,[.arr .u8 N (tj N n g.f)]⟩] [g]) 8 0)
def MH (N:Nat) (h0:1<=N) (h1:N<=1000) (f:Nat) (args:List V) (g:oL) (K:VK oL):Prop:=c_ (wU prog (λ_=>none) ([]:List (eG oL)) (SS N) (GZ h0 h1)) 60 f args [] [g] K
theorem MI (g:oL) (b o n c:Nat) (K:VK oL):MH 64 (by omega) (by omega) 115 [.raw (.slice (some ⟨b,o,none⟩) n c)] g K=YQ 64 n b o g K:=by kernel_rfl
theorem I3 (g:oL) (b o n c:Nat) (K:VK oL):MH 128 (by omega) (by omega) 115 [.raw (.slice (some ⟨b,o,none⟩) n c)] g K=YQ 128 n b o g K:=by kernel_rfl
def BJ (H:Nat->Int):Nat->Int:=λj=>match j%4 with
 |0=>u8.wrap (Int.fdiv (H (j/4)) (2^24))
 |1=>u8.wrap (Int.fdiv (H (j/4)) (2^16))
 |2=>u8.wrap (Int.fdiv (H (j/4)) (2^8))
 |_=>u8.wrap (H (j/4))
def yY:Nat->Int:=l8 1779033703 3144134277 1013904242 2773480762 1359893119 2600822924 528734635 1541459225
def r8 (X:Nat->Int):Nat->Int:=l8 (X 0) (X 1) (X 2) (X 3) (X 4) (X 5) (X 6) (X 7)
def acO (n:Nat) (f:Nat->Int):Nat->Int:=BJ (ku yY (tj 64 n f))
def YR (f:Nat->Int) (k:Nat):Nat->Int:=λj=>f (k+j)
def YS (n:Nat) (f:Nat->Int):Nat->Int:=BJ (ku (r8 (ku yY (tj 128 n f))) (YR (tj 128 n f) 64))
def jU (n:Nat) (f:Nat->Int):Nat->Int:=bif Nat.ble n 55 then acO n f else YS n f
def oM:QF:=⟨116,λargs bl=>match args,bl with
 |[.agg [.int .u32 a,.int .u32 b,.int .u32 c,.int .u32 d,.int .u32 e,.int .u32 f,.int .u32 g,.int .u32 h],.agg [.arr .u8 64 F]],⟨false,⟨t,(0,0)⟩,[.arr .u32 64 R]⟩::_=>some (R=aT,.agg (i8 (ku (l8 a b c d e f g h) F)))
 |_,_=>none⟩
def YT:Nat->(Nat->Int)->List V
 |64,F=>[.arr .u8 64 F]
 |128,F=>[.arr .u8 64 F,.arr .u8 64 (YR F 64)]
 |n,F=>[.arr .u8 n F]
def En (N:Nat):jq oL:=λargs bl ch K=>match args,ch with
 |[.raw (.slice (some ⟨b,o,none⟩) n c)],[g]=>cond (ez bl.length bl) (((g.b=b/\g.o=o/\g.n=n)/\rO n=(N:Int)/\n<N)/\K (.sl bl.length 0 N N) (bl++[⟨true,⟨5,(0,0)⟩,YT N (tj N n g.f)⟩]) [g]) False
 |_,_=>False
def o4 (x:Int):List V:=[.int .u8 (u8.wrap (Int.fdiv x (2^24))),.int .u8 (u8.wrap (Int.fdiv x (2^16))),.int .u8 (u8.wrap (Int.fdiv x (2^8))),.int .u8 (u8.wrap x)]
def G0 (H:Nat->Int):List V:=o4 (H 0)++(o4 (H 1)++(o4 (H 2)++(o4 (H 3)++(o4 (H 4)++(o4 (H 5)++(o4 (H 6)++o4 (H 7)))))))
theorem I4 (H:Nat->Int) (ids:List Nat):den ids (.agg (G0 H))=.agg (aj .u8 32 (BJ H)):=by kernel_rfl
section
variable(t:Nat) (g:oL) (b o n c:Nat) (K:VK oL)
theorem MJ:c_ (dQ prog Em (⟨115,false,En 64⟩::qL oL [oM])) 60 72 [.raw (.slice (some ⟨b,o,none⟩) n c)] [k9 t] [g] (eB 1 K)=(((g.b=b/\g.o=o/\g.n=n)/\rO n=((64:Nat):Int)/\n<64)/\aT=aT/\K (.agg (G0 (ku yY (tj 64 n g.f)))) [k9 t] [g]):=by kernel_rfl
theorem I5:c_ (dQ prog Em (⟨115,false,En 128⟩::qL oL [oM])) 60 72 [.raw (.slice (some ⟨b,o,none⟩) n c)] [k9 t] [g] (eB 1 K)=(((g.b=b/\g.o=o/\g.n=n)/\rO n=((128:Nat):Int)/\n<128)/\aT=aT/\aT=aT/\K (.agg (G0 (ku (r8 (ku yY (tj 128 n g.f))) (YR (tj 128 n g.f) 64)))) [k9 t] [g]):=by kernel_rfl
end
theorem af8 {w:World} {b o n:Nat} {f:Nat->Int} (h:fK w b o n f):∃g:oL,(g.b=b/\g.o=o/\g.n=n)/\g.f=f/\∃ps:List (Nat×Obj),g.bl=ps.map (λp=>⟨p.1,false,p.2⟩)/\∀p∈ps,w.heap[p.1]?=some p.2:=by
 rcases Nat.eq_zero_or_pos n with rfl|hn
 ·exact⟨⟨[],b,o,0,f,λ_ _ j hj=>absurd hj (by omega)⟩,⟨rfl,rfl,rfl⟩,rfl,[],rfl,λ_ h=>nomatch h⟩
 ·cases hb:w.heap[b]?with
  |none=>
   have:=h 0 hn;unfold World.cell? at this;simp only[hb]at this;cases this
  |some ob=>
   refine⟨⟨[⟨b,false,ob⟩],b,o,n,f,λw' hw j hj=>?_⟩,⟨rfl,rfl,rfl⟩,rfl,[(b,ob)],rfl,?_⟩
   ·have h1:=h j hj;have h2:w'.heap[b]?=some ob:=hw _ (List.mem_singleton.2 rfl);unfold World.cell? at h1⊢;simp only[hb]at h1;simp only[h2];exact h1
   ·intro p hp;obtain rfl:=List.mem_singleton.1 hp;exact hb
theorem ajp {e:Int} {N:Nat} {X:Prop} (he:e=(N:Int)) (h8:8<=N) (hN:N<=1000) (hX:X):∀k i,i+k<=8->SU e N X k i
 |0,_,_=>hX
 |k+1,i,h=>by
  have e1:i64.wrap (i64.wrap (e-1)-(i:Int))=(N:Int)-1-(i:Int):=by rw[he,kx (x:=(N:Int)-1) (by omega),kx (by omega)]
  unfold SU;rw[e1];exact gI (by omega) (ajp he h8 hN hX k (i+1) (by omega))
theorem G2 {n:Nat} (h:n<=55):rO n=((64:Nat):Int):=by
 unfold rO;rw[kx (x:=(n:Int)+9) (by omega),kx (x:=(n:Int)+9+64) (by omega),kx (x:=(n:Int)+9+64-1) (by omega),Int.tdiv_eq_ediv_of_nonneg (by omega),show((n:Int)+9+64-1)/64=1 by omega];rfl
theorem G3 {n:Nat} (h:56<=n) (h2:n<=119):rO n=((128:Nat):Int):=by
 unfold rO;rw[kx (x:=(n:Int)+9) (by omega),kx (x:=(n:Int)+9+64) (by omega),kx (x:=(n:Int)+9+64-1) (by omega),Int.tdiv_eq_ediv_of_nonneg (by omega),show((n:Int)+9+64-1)/64=2 by omega];rfl
theorem MK {N:Nat} (h0:1<=N) (h1:N<=1000) {f:Nat} {args:List V} {g:oL} {K:VK oL} (h:Rz (MH N h0 h1 f args g K)) {R:List aC} {ms:List Nat} {w0 w:World} (S:St ms w0 (g.bl++R) w):
 au prog f (az [] args).toArray w λv w1=>∃x more b ch,v=den more x/\more.length=b.length/\St ms w0 (lits more more b++ak ch R) w1/\K x b ch:=by
 have S0:St ms w0 (lits [] [] []++ak [g] R) w:=S;exact bW (ao.nil (G:=oL) (P:=prog) (gl:=λ_=>none)).T (ao.nil (G:=oL) (P:=prog) (gl:=λ_=>none)).Q 60 (C:=wU prog (λ_=>none) ([]:List (eG oL)) (SS N) (GZ h0 h1)) (ids:=[]) (bl:=[]) (ch:=[g]) (R:=R) Gl.none rfl S0 h.h
def SV (N n:Nat) (g:oL):VK oL:=λv bl ch=>v=.sl 0 0 N N/\bl=[⟨true,⟨5,(0,0)⟩,[.arr .u8 N (tj N n g.f)]⟩]/\ch=[g]
theorem G4 {N n b o:Nat} {g:oL} (h8:8<=N) (h1:N<=1000) (hg:g.b=b/\g.o=o/\g.n=n) (he:rO n=(N:Int)) (hn:n<N):YQ N n b o g (SV N n g):=
 ⟨⟨he,he⟩,⟨hg,by omega,Nat.le_refl _⟩,gI (by omega) (ajp he h8 h1 ⟨rfl,rfl,rfl⟩ 8 0 (by omega))⟩
theorem SW {N:Nat} (h0:1<=N) (h8:8<=N) (h1:N<=1000) {b o n c:Nat} (g:oL) (fW:Rz (MH N h0 h1 115 [.raw (.slice (some ⟨b,o,none⟩) n c)] g (SV N n g)))
 {R:List aC} {ms:List Nat} {w0 w:World} (S:St ms w0 (g.bl++R) w):au prog 115 #[.slice (some ⟨b,o,none⟩) n c] w λv w1=>∃b',v=.slice (some ⟨b',0,none⟩) N N/\St ms w0 (⟨b',true,.cells (aj .u8 N (tj N n g.f)) 5 (0,0)⟩::(g.bl++R)) w1:=by
 have hr:=MK h0 h1 (f:=115) (args:=[.raw (.slice (some ⟨b,o,none⟩) n c)]) (g:=g) (K:=SV N n g) fW S;have e0:(az [] [V.raw (.slice (some ⟨b,o,none⟩) n c)]).toArray=#[.slice (some ⟨b,o,none⟩) n c]:=rfl;rw[e0]at hr;clear fW;refine hr.mono ?_;rintro v w' ⟨y,more,bl',ch',rfl,hl,S',rfl,rfl,rfl⟩
 match more,hl with
 |[b'],_=>
  refine⟨b',rfl,?_⟩;have e:lits [b'] [b'] [⟨true,⟨5,(0,0)⟩,[.arr .u8 N (tj N n g.f)]⟩]=[⟨b',true,.cells (aj .u8 N (tj N n g.f)) 5 (0,0)⟩]:=by
   simp only[lits,aW,nD]
  rw[e]at S';exact S'
theorem SX (ids:List Nat) {N:Nat} (hN:N=64\/N=128) (F:Nat->Int):(ai ids (YT N F)).toArray=aj .u8 N F:=by
 rcases hN with rfl|rfl
 ·exact nD ids 64 F
 ·have e:List.range 128=List.range 64++(List.range 64).map (64+·):=by decide
  unfold YT aj;rw[e,List.map_append,List.map_map];simp only[ai,cl,List.append_nil];rfl
theorem Eo {N:Nat} (hN:N=64\/N=128) (gl:Nat->Option Nat):Sound prog gl 115 (En N):=by
 intro args ids bl ch R ms w0 w K hg hl S hc;unfold En at hc;split at hc
 ·rename_i b o n c g;cases hq:ez bl.length bl with
  |false=>rw[hq]at hc;exact hc.elim
  |true=>
   rw[hq]at hc;obtain⟨⟨hgg,he,hn⟩,hK⟩:=hc;have fW:∃(h0:1<=N) (h1:N<=1000),8<=N/\Rz (MH N h0 h1 115 [.raw (.slice (some ⟨b,o,none⟩) n c)] g (SV N n g)):=by
    rcases hN with rfl|rfl
    ·exact⟨by omega,by omega,by omega,⟨by rw[MI];exact G4 (by omega) (by omega) hgg he hn⟩⟩
    ·exact⟨by omega,by omega,by omega,⟨by rw[I3];exact G4 (by omega) (by omega) hgg he hn⟩⟩
   obtain⟨h0,h1,h8,fW⟩:=fW;have S1:St ms w0 (g.bl++(lits ids ids bl++R)) w:=S.perm (List.perm_append_comm_assoc _ _ _);refine(SW h0 h8 h1 g fW S1).mono ?_;rintro v w' ⟨b',rfl,S2⟩;refine⟨_,[b'],_,_,?_,by simp[hl],?_,hK⟩
   ·simp only[den];rw[<-hl,cQ]
   ·rw[aY _ _ _ _ hl,a_ _ _ (by rw[hl];exact hq)];simp only[lits,aW,SX _ hN];refine S2.perm ?_;show List.Perm ([_]++(g.bl++(lits ids ids bl++R))) ((lits ids ids bl++[_])++(g.bl++R));refine(List.Perm.append_left _ (List.perm_append_comm_assoc _ _ _)).trans ?_;rw[<-List.append_assoc];exact List.Perm.append_right _ List.perm_append_comm
 ·exact hc.elim
theorem I6:oM.Ok prog Em:=by
 intro args bl p_ v_ h hp ids w hg hm;unfold oM at h;dsimp only at h;split at h
 ·rename_i a b c d e f g h' F t R bl';simp only[Option.some.injEq,Prod.mk.injEq]at h;obtain⟨rfl,rfl⟩:=h;subst hp;have h1:=hm.2 0 _ rfl;rw[(hg 0 0 rfl).2]at h1;have e1:(ai ids [.arr .u32 64 aT]).toArray=aj .u32 64 aT:=by simp[ai,cl,aj]
  rw[e1]at h1;exact I2 t (l8 a b c d e f g h') F h1
 ·cases h
theorem G5 {N n:Nat} (hN:N=64\/N=128) {b o c t:Nat} {f H:Nat->Int} {w:World} (hG:w.heap[0]?=some (.cells (aj .u32 64 aT) t (0,0))) (hB:fK w b o n f) (he:rO n=(N:Int)) (hn:n<N)
 (fW:∀g:oL,(g.b=b/\g.o=o/\g.n=n)->g.f=f->c_ (dQ prog Em (⟨115,false,En N⟩::qL oL [oM])) 60 72 [.raw (.slice (some ⟨b,o,none⟩) n c)] [k9 t] [g] (eB 1 λv _ _=>v=.agg (G0 H))):
 au prog 72 #[.slice (some ⟨b,o,none⟩) n c] w λv w1=>v=.agg (aj .u8 32 (BJ H))/\Ch [] w w1:=by
 obtain⟨g,hg,hf,ps,Mo,hh⟩:=af8 hB;have dc:ao prog Em (⟨115,false,En N⟩::qL oL [oM]):=ao.cons ⟨Eo hN Em,λe=>by cases e⟩ (fZ (aX.cons I6 aX.nil));have S0:St [] w (lits [0] [0] [k9 t]++ak [g] []) w:=by
  have:=St.given (w:=w) ((0,.cells (ai [0] [.arr .u32 64 aT]).toArray t (0,0))::ps) (by
   intro p hp;rcases List.mem_cons.1 hp with rfl|hp
   ·have e:(ai [0] [.arr .u32 64 aT]).toArray=aj .u32 64 aT:=by simp[ai,cl,aj]
    rw[e];exact hG
   ·exact hh p hp)
  show St [] w ([_]++(g.bl++[])) w;rw[Mo,List.append_nil];exact this
 refine(bW dc.T dc.Q 60 (C:=dQ prog Em (⟨115,false,En N⟩::qL oL [oM])) (ids:=[0]) (bl:=[k9 t]) (ch:=[g]) (R:=[]) (λg i h=>by
  have h:Em g=some i:=h;unfold Em at h;cases hb:Nat.beq g 0 with
  |false=>rw[hb]at h;cases h
  |true=>rw[hb]at h;cases h;exact⟨by simp,by simp[List.getD,Nat.eq_of_beq_eq_true hb]⟩) rfl S0 (fW g hg hf)).mono ?_
 rintro v w' ⟨y,more,bl',ch',rfl,h1,S',hK⟩;obtain⟨v2,bj,bl2,e,_,_,rfl⟩:=eQ (n0:=1) h1 (by simp) S' hK;exact⟨e.trans (I4 H _),S'.ch⟩
theorem yZ (b o n c:Nat) (f:Nat->Int) (hn:n<=119) {tG:TypeId} (w:World) (hG:w.heap[0]?=some (.cells (aj .u32 64 aT) tG (0,0))) (hB:fK w b o n f):au prog 72 #[.slice (some ⟨b,o,none⟩) n c] w λv w1=>v=.agg (aj .u8 32 (jU n f))/\Ch [] w w1:=by
 unfold jU;by_cases h:n<=55
 ·rw[Nat.ble_eq_true_of_le h];exact G5 (.inl rfl) hG hB (G2 h) (by omega) λg hg hf=>by rw[MJ,hf];exact⟨⟨hg,G2 h,by omega⟩,rfl,rfl⟩
 ·have hb:Nat.ble n 55=false:=by
   cases e:Nat.ble n 55 with
   |false=>rfl
   |true=>exact absurd (Nat.le_of_ble_eq_true e) h
  rw[hb];exact G5 (.inr rfl) hG hB (G3 (by omega) hn) (by omega) λg hg hf=>by rw[I5,hf];exact⟨⟨hg,G3 (by omega) hn,by omega⟩,rfl,rfl,rfl⟩
end Go.Proofs.YtlkpikfddnjilaaGreatDoor
