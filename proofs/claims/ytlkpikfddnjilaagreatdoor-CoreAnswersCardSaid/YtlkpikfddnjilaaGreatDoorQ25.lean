/- Part 25 of the proof. -/
import Derived.ChangeArms
import Derived.OpenShut
import Derived.Deep.Slices
import Derived.Test.YtlkpikfddnjilaaGreatDoorRows
import Derived.ProofKit
import Derived.FnData
import Derived.MakeChecks
import Derived.Stop.Joined
import Derived.WalkKit
import Derived.Below
import Derived.BigQuiet
import Derived.WalkSpells
import Derived.Lib.Hide
import Derived.Laws.CopyOwn
import Derived.Carry
import Derived.Test.YtlkpikfddnjilaaGreatDoorQ24
set_option linter.all false
set_option maxRecDepth 100000
set_option maxHeartbeats 4000000
open Go.Proofs.Tryz
open Go.IntKind (u8 u16 u32 u64 i64)
namespace Go.Proofs.YtlkpikfddnjilaaGreatDoor
open Go Go.RowKit Go.BigFrame Sx Vx
def Sg (nc:Nat->Int):List V:=[.int .i64 129,.int .i64 0,.int .i64 0,.int .i64 0,.int .i64 0,.int .i64 0,.int .u8 (nc 0),.int .u8 (nc 1),.int .u8 (nc 2),.int .u8 (nc 3),.int .u8 (nc 4),.int .u8 (nc 5),.int .u8 (nc 6),.int .u8 (nc 7)]
def XQ (nc:Nat->Int):VB:=⟨true,⟨75,(0,0)⟩,Sg nc⟩
def D6 (j:Nat):List V:=[.int .i64 1,.int .i64 0,.int .i64 255,.fn 119 [] [.ptr j 0],.fn 120 [] [.ptr j 0]]
def aj3 (u:List Value):VB:=⟨true,⟨168,(0,0)⟩,D6 2++(D6 3++(D6 4++(D6 5++(D6 6++(D6 7++(D6 8++(D6 9++[.rest u])))))))⟩
def bx9:List VB:=(List.range 8).map λj=>⟨true,⟨170,(0,0)⟩,[.ptr 0 (6+j)]⟩
def me (nc:Nat->Int) (u:List Value):List VB:=XQ nc::aj3 u::bx9
def szP (n:Nat) (u:List Value) (c:Nat):Prop:=eF (List.replicate (5*n) (V.bool true)++[.rest u])=c*5
def Sh (X:Nat->List Value->Prop):Nat->Nat->Nat->List Value->Prop
 |0,_,c,u=>X c u
 |k+1,n,c,u=>(n<=c/\szP n u c)/\(∀(c':Nat) (u':List Value),n+1<=c'->szP (n+1) u' c'->Sh X k (n+1) c' u')/\(∀(c':Nat) (u':List Value),n+1<=c'->szP (n+1) u' c'->Sh X k (n+1) c' u')
theorem Bg {X:Nat->List Value->Prop}:∀(k n c:Nat) (u:List Value),n<=c->szP n u c->(∀c u,n+k<=c->szP (n+k) u c->X c u)->Sh X k n c u
 |0,_,c,u,h1,h2,hX=>hX c u h1 h2
 |k+1,n,c,u,h1,h2,hX=>by
  have st:∀(c':Nat) (u':List Value),n+1<=c'->szP (n+1) u' c'->Sh X k (n+1) c' u':=λc' u' a b=>Bg k (n+1) c' u' a b λc u d e=>hX c u (by omega) (by rw[show n+(k+1)=n+1+k by omega];exact e);exact⟨⟨h1,h2⟩,st,st⟩
def vcU (n:Nat) (f:FuncId) (args:List V) (bl:List VB) (K:VK Empty):Prop:=cI (nz prog (λ_=>none) ([]:List (dF Empty)) (NQ prog) ub) n f args bl [] K
def sZ (k:Nat) (x:Int) (pre post:List Value):List VB:=[⟨false,⟨170,(0,0)⟩,[.pe 1 k 0 1 0]⟩,⟨false,⟨75,(0,0)⟩,[.rest pre,.fN 1 1 λ_=>[.int .u8 x],.rest post]⟩]
def adC (x:Int):Int:=u8.wrap (Int.fdiv (u64.wrap (i64.wrap x)) (2^0))
def ahG (k:Nat) (x:Int) (pre post:List Value) (K:VK Empty):Prop:=(k=pre.length/\0<1/\∀_:Nat,[Value.int .u8 x].length=1)/\cond (decide (i64.wrap x<0)) (K (.aC [.raw (.slice none 0 0),.bool false]) (sZ k x pre post) [])
 (cond (decide (i64.wrap x>255)) (K (.aC [.raw (.slice none 0 0),.bool false]) (sZ k x pre post) []) (cond (Int.fdiv (u64.wrap (i64.wrap x)) (Int.ofNat (2^(8*1)))!=0) (K (.aC [.raw (.slice none 0 0),.bool false]) (sZ k x pre post) [])
  (K (.aC [.sl 2 0 1 1,.bool true]) (sZ k x pre post++[⟨true,⟨5,(0,0)⟩,[.int .u8 (adC x)]⟩]) [])))
theorem adD (k:Nat) (x:Int) (pre post:List Value) (K:VK Empty):vcU 60 225 [.agg [.int .i64 1,.int .i64 0,.int .i64 255,.fn 119 [] [.ptr 0 0],.fn 120 [] [.ptr 0 0]]] (sZ k x pre post) (du 2 K)=ahG k x pre post K:=by kernel_rfl
theorem XR {x:Int} (h:0<=x/\x<=255):adC x=x:=by
 unfold adC;rw[ki (by omega),IntKind.wrap_u64,Int.emod_eq_of_lt (by omega) (by omega)];rw[show(2:Int)^0=1 from rfl,Int.fdiv_one,IntKind.wrap_u8,Int.emod_eq_of_lt (by omega) (by omega)]
theorem XS {k:Nat} {x:Int} {pre post:List Value} {K:VK Empty} (hk:k=pre.length) (h:0<=x/\x<=255) (hK:K (.aC [.sl 2 0 1 1,.bool true]) (sZ k x pre post++[⟨true,⟨5,(0,0)⟩,[.int .u8 x]⟩]) []):ahG k x pre post K:=by
 have e1:i64.wrap x=x:=ki (by omega);have e2:Int.fdiv (u64.wrap x) (Int.ofNat (2^(8*1)))=0:=by
  rw[IntKind.wrap_u64,Int.emod_eq_of_lt (by omega) (by omega),show Int.ofNat (2^(8*1))=256 from rfl,Int.fdiv_eq_ediv_of_nonneg _ (by omega)];omega
 refine⟨⟨hk,by omega,λ_=>rfl⟩,aO (λa=>?_) λ_=>aO (λa=>?_) λ_=>aO (λa=>?_) λ_=>?_⟩
 ·rw[e1]at a;exact absurd (of_decide_eq_true a) (by omega)
 ·rw[e1]at a;exact absurd (of_decide_eq_true a) (by omega)
 ·rw[e1,e2]at a;cases a
 ·rw[XR h];exact hK
theorem Bh {n f n0:Nat} {args:List V} {bl:List VB} {K:VK Empty} (h:JY (vcU n f args bl (du n0 K))) {ids:List Nat} (hl:ids.length=bl.length) (hn:n0<=ids.length) {bs:List ax} {ms:List Nat} {w0 w:World} (S:St ms w0 (lits ids ids bl++bs) w):
 ak prog f (aq ids args).toArray w λv w1=>∃x more b,v=den (ids.take n0++more) x/\(ids.take n0++more).length=b.length/\St ms w0 (lits (ids.take n0++more) (ids.take n0++more) b++bs) w1/\K x b []:=by
 refine(bw (ah.nil (G:=Empty) (P:=prog) (gl:=λ_=>none)).T (ah.nil (G:=Empty) (P:=prog) (gl:=λ_=>none)).Q n (C:=nz prog (λ_=>none) ([]:List (dF Empty)) (NQ prog) ub) (ids:=ids) (bl:=bl) (ch:=[]) (R:=bs) Gl.none hl S h.h).mono ?_;rintro v w' ⟨y,more,bl',ch',rfl,h1,S',hK⟩
 match ch',S',hK with
 |[],S',hK=>
  obtain⟨v2,aS,bl2,e,gH,S2,hK⟩:=dr (n0:=n0) h1 (by simp;omega) S' hK;rw[List.take_append_of_le_length hn]at e gH S2;exact⟨v2,aS,bl2,e,gH,S2,hK⟩
 |e::_,_,_=>nomatch e
theorem XT {q r k:Nat} {x:Int} {pre post:List Value} {w:World} {f1 f2:Nat×Nat} (hf1:f1=(0,0)) (hf2:f2=(0,0)) (hq:w.heap[q]?=some (.cells #[.pointer (some ⟨r,k,none⟩)] 170 f1)) (hr:w.heap[r]?=some (.cells (pre++(.int .u8 x::post)).toArray 75 f2)) (hk:k=pre.length) (h:0<=x/\x<=255):
 ak prog 225 #[.agg #[.int .i64 1,.int .i64 0,.int .i64 255,.func (.func 119) #[] #[.pointer (some ⟨q,0,none⟩)],.func (.func 120) #[] #[.pointer (some ⟨q,0,none⟩)]]] w λv w1=>∃b,v=.tuple #[.slice (some ⟨b,0,none⟩) 1 1,.bool true]/\St [] w [⟨b,true,.cells #[.int .u8 x] 5 (0,0)⟩] w1:=by
 subst hf1 hf2;have S:St [] w (lits [q,r] [q,r] (sZ k x pre post)++[]) w:=by
  have:=St.given (w:=w) [(q,.cells #[.pointer (some ⟨r,k,none⟩)] 170 (0,0)),(r,.cells (pre++(.int .u8 x::post)).toArray 75 (0,0))] (by
   intro p hp;simp only[List.mem_cons,List.not_mem_nil,or_false]at hp;rcases hp with rfl|rfl
   ·exact hq
   ·exact hr)
  have e:lits [q,r] [q,r] (sZ k x pre post)=[⟨q,false,.cells #[.pointer (some ⟨r,k,none⟩)] 170 (0,0)⟩,⟨r,false,.cells (pre++(.int .u8 x::post)).toArray 75 (0,0)⟩]:=by
   simp[lits,aL,sZ,af,cl,den,List.range_succ]
  rw[e];exact this
 have hx:JY (vcU 60 225 [.agg [.int .i64 1,.int .i64 0,.int .i64 255,.fn 119 [] [.ptr 0 0],.fn 120 [] [.ptr 0 0]]] (sZ k x pre post) (du 2 λv b _=>v=.aC [.sl 2 0 1 1,.bool true]/\b=sZ k x pre post++[⟨true,⟨5,(0,0)⟩,[.int .u8 x]⟩])):=⟨by rw[adD];exact XS hk h ⟨rfl,rfl⟩⟩;have oG:=Bh hx (ids:=[q,r]) rfl (by simp) S;clear hx;refine oG.mono ?_;rintro v w' ⟨y,more,b,rfl,hl,S',rfl,rfl⟩
 match more,hl with
 |[b],_=>
  refine⟨b,rfl,?_⟩;have e:lits ([q,r].take 2++[b]) ([q,r].take 2++[b]) (sZ k x pre post++[⟨true,⟨5,(0,0)⟩,[.int .u8 x]⟩])=lits [q,r,b] [q,r] (sZ k x pre post)++[⟨b,true,.cells #[.int .u8 x] 5 (0,0)⟩]:=rfl;rw[e]at S';exact(S'.sub (List.sublist_append_left _ _)).sub (List.sublist_append_right _ _)
def adE {G:Type}:gZ G:=λargs bl ch K=>match args with
 |[.agg [.int .i64 1,.int .i64 0,.int .i64 255,.fn 119 [] [.ptr q 0],.fn 120 [] [.ptr q' 0]]]=>(match bl[q]?with
  |some ⟨_,⟨170,(0,0)⟩,[.ptr r k]⟩=>(match bl[r]?with
   |some ⟨_,⟨75,(0,0)⟩,c⟩=>(match takeN c k with
    |some (_,.int .u8 x::_)=>cond (Nat.beq q q'&&dE bl.length bl) ((0<=x/\x<=255)/\K (.aC [.sl bl.length 0 1 1,.bool true]) (bl++[⟨true,⟨5,(0,0)⟩,[.int .u8 x]⟩]) ch) False
    |_=>False)
   |_=>False)
  |_=>False)
 |_=>False
theorem G8 {G:Type} [Bl G] (gl:Nat->Option Nat):Sound (G:=G) prog gl 225 adE:=by
 intro args ids bl ch R ms w0 w K hg hl S hc;unfold adE at hc;split at hc
 ·rename_i q q';split at hc
  ·rename_i w1 r k JO;split at hc
   ·rename_i w2 c hbr;split at hc
    ·rename_i a x b ht;cases hq:Nat.beq q q'&&dE bl.length bl with
     |false=>rw[hq]at hc;exact hc.elim
     |true=>
      rw[hq]at hc;simp only[Bool.and_eq_true]at hq;obtain⟨hx,hK⟩:=hc;obtain rfl:=Nat.eq_of_beq_eq_true hq.1;have h1:=(cQ hl S JO).2;have h2:=(cQ hl S hbr).2;obtain⟨t1,t2⟩:=mB (ids:=ids) ht;rw[t1]at h2;have e2:af ids (.int .u8 x::b)=.int .u8 x::af ids b:=rfl;rw[e2]at h2;have e0:(aq ids [.agg [.int .i64 1,.int .i64 0,.int .i64 255,.fn 119 [] [.ptr q 0],.fn 120 [] [.ptr q 0]]]).toArray=#[.agg #[.int .i64 1,.int .i64 0,.int .i64 255,.func (.func 119) #[] #[.pointer (some ⟨ids.getD q 0,0,none⟩)],.func (.func 120) #[] #[.pointer (some ⟨ids.getD q 0,0,none⟩)]]]:=rfl;rw[e0];refine(XT (q:=ids.getD q 0) (r:=ids.getD r 0) (k:=k) rfl rfl h1 h2 t2.symm hx).mono ?_;rintro v w' ⟨b',rfl,T⟩;have S2:=S.beside T (Wr.cons rfl Wr.nil);refine⟨_,[b'],_,ch,?_,by simp[hl],?_,hK⟩
      ·simp only[den,aq,<-hl,cv]
      ·rw[aQ _ _ _ _ hl,aR _ _ (by rw[hl];exact hq.2)];rw[List.append_assoc];exact S2.perm (List.perm_append_comm_assoc [_] (lits ids ids bl) (ag ch R))
    ·exact hc.elim
   ·exact hc.elim
  ·exact hc.elim
 ·exact hc.elim
def adF (P:Program):(Operand->V)->Op->List VB->List aE->VK aE->Prop:=λe op bl ch K=>match op with
 |.call c=>(match c.callee,c.args.toList,c.argTypes.toList with
  |.builtin .append,[s,xs],[t,tx]=>(match P.underlying t,P.underlying tx with
   |some (.slice T),some (.slice _)=>(match g9 P T,e s,e xs with
    |some (z,eo),.sl j 0 n c,.sl i 0 (m+1) _=>(match bl[j]?,bl[i]?with
     |some ⟨_,⟨_,(0,0)⟩,ac⟩,some b=>(match BG ac 0 (n*z)with
      |some C=>cond (Nat.beq n c&&(Nat.beq (eF ac) (c*z)&&(Nat.beq (eF b.c) ((m+1)*z)&&(oL b.c&&(Nat.ble eo 10000000&&(Nat.ble (n+(m+1)) 1000000&&(cG 0 C&&cG 0 b.c)))))))
       (∀(x:Option Addr) (c':Nat) (bk:List ax) (h:eH z T (af [] C++af [] b.c) x (n+(m+1)) c' bk),K (.raw (.slice x (n+(m+1)) c')) bl (⟨T,z,af [] C++af [] b.c,x,n+(m+1),c',bk,h⟩::ch)) False
      |none=>False)
     |_,_=>False)
    |_,_,_=>False)
   |_,_=>False)
  |_,_,_=>False)
 |_=>False
theorem XU {P:Program} {gl:Nat->Option Nat}:rR P gl (adF P):=by
 intro e op ids bl ch R ms w0 w K ρ o hg hl S cz ho h;unfold adF at h;split at h
 ·rename_i c;split at h
  ·rename_i s xs t tx eV bd jL;split at h
   ·rename_i T T' ht pJ;split at h
    ·rename_i z eo j n cc i m Eh aI rJ pI;split at h
     ·rename_i wr Ta ac b ha hb;split at h
      ·rename_i C hC;cases hq:Nat.beq n cc&&(Nat.beq (eF ac) (cc*z)&&(Nat.beq (eF b.c) ((m+1)*z)&&(oL b.c&&(Nat.ble eo 10000000&&(Nat.ble (n+(m+1)) 1000000&&(cG 0 C&&cG 0 b.c))))))with
       |false=>rw[hq]at h;exact h.elim
       |true=>
        rw[hq]at h;simp only[cond_true]at h;simp only[Bool.and_eq_true]at hq;obtain⟨q1,q2,q3,q4,q5,q6,q8,q9⟩:=hq;obtain rfl:=Nat.eq_of_beq_eq_true q1;have q2:=Nat.eq_of_beq_eq_true q2;have q3:=Nat.eq_of_beq_eq_true q3;have q5:=Nat.le_of_ble_eq_true q5;have q6:=Nat.le_of_ble_eq_true q6;have bD:=(cQ hl S hb).2;have aao:=(cQ hl S ha).2;obtain⟨g1,g2,g3⟩:=jY (ids:=ids) hC;rw[List.drop_zero]at g1;have e1:∀l:List V,cG 0 l=true->af ids l=af [] l:=λl hw=>bY (ids:=[]) (more:=ids) l hw;have Si:af ids ac=af [] C:=by rw[<-e1 C q8,<-g1,List.take_of_length_le (by rw[cP,q2];exact Nat.le_refl _)]
        obtain⟨inf,va,hi⟩:=Option.map_eq_some_iff.1 (lv aI);simp only[Prod.mk.injEq]at hi;obtain⟨hz,iQ,Bn⟩:=hi;obtain⟨z0,Eg,Jp⟩:=Option.map_eq_some_iff.1 hz;have qj:(af ids b.c).length=(m+1)*z:=by rw[cP,q3]
        have fp:Src P z tx (.slice (some ⟨ids.getD i 0,0,none⟩) (m+1) Eh) (m+1) (af [] b.c) w:=by
         rw[<-e1 b.c q9];refine Src.ofSlice w pJ ⟨ids.getD i 0,0,none⟩ (m+1) Eh _ qj (λj u hj=>?_) (λu hu=>ni q4 u hu);rw[Addr.add_lit,cell_of bD];simpa using hj
        have NL:w.heap[ids.getD j 0]?=some (.cells (af [] C++[]).toArray Ta (0,0)):=by rw[List.append_nil,<-Si];exact aao
        have Bt:(n+(m+1))*eo<=140737488355328:=Nat.le_trans (Nat.mul_le_mul q6 q5) (by decide);have hold:(Builtin.firstCells inf.size n (.slice (some ⟨ids.getD j 0,0,none⟩) n n)).run P w.drew=.ok (af [] C).toArray w.drew:=by
         refine run_firstCells_some (P:=P) w.drew inf.size n ⟨ids.getD j 0,0,none⟩ n n (af [] C) (by rw[<-Si,cP,q2,iQ]) (λk v hk=>?_);rw[Addr.add_lit];have:w.drew.cell? ⟨ids.getD j 0,0+k,none⟩=w.cell? ⟨ids.getD j 0,k,none⟩:=by simp
         rw[this,cell_of NL,List.append_nil];simpa using hk
        have a_:=run_append_grow_src (P:=P) w t tx o.type T inf z0 ht va Eg (some ⟨ids.getD j 0,0,none⟩) n n (af [] C) hold (.slice (some ⟨ids.getD i 0,0,none⟩) (m+1) Eh) (m+1) (af [] b.c) (by rw[iQ];exact fp) (by omega) (by omega) (by rw[Bn];exact growslice_fits (by omega) Bt);have mj:=grownCap_ge w (n+(m+1)) n T;obtain⟨HA,ar,tJ⟩:=c;simp only at eV bd jL;have e2:ar=#[s,xs]:=by rw[<-bd]
        have e3:tJ=#[t,tx]:=by rw[<-jL]
        subst eV e2 e3;have w_:ρ s=.slice (some ⟨ids.getD j 0,0,none⟩) n n:=by rw[cz,rJ];simp only[den]
        have My:ρ xs=.slice (some ⟨ids.getD i 0,0,none⟩) (m+1) Eh:=by rw[cz,pI];simp only[den]
        let tl:=(Builtin.zeroCells z0.cells (grownCap w (n+(m+1)) n T-(n+(m+1)))).toList
        have jM:eH z T (af [] C++af [] b.c) (some ⟨w.heap.size,0,none⟩) (n+(m+1)) (grownCap w (n+(m+1)) n T) [⟨w.heap.size,true,.cells ((af [] C++af [] b.c)++tl).toArray T (0,0)⟩]:=by
         have l1:(af [] C).length=n*z:=by rw[<-Si,cP,q2]
         have l2:(af [] b.c).length=(m+1)*z:=by rw[<-e1 b.c q9,qj]
         refine⟨by rw[List.length_append,l1,l2,<-Nat.add_mul],mj,.inr ⟨_,tl,rfl,rfl,?_⟩⟩;rw[List.length_append,List.length_append,l1,l2,Array.length_toList,size_zeroCells,Jp,<-Nat.add_mul,<-Nat.add_mul];congr 1;omega
        refine⟨.raw (.slice (some ⟨w.heap.size,0,none⟩) (n+(m+1)) (grownCap w (n+(m+1)) n T)),[],bl,_,_,.inl (bN (P:=P) (ρ:=ρ) (o:=o) ho w_ My a_),by simpa using hl,?_,h _ _ _ jM⟩;rw[List.append_nil];have hn:=heap_alloc_new w.drew (.cells ((af [] C++af [] b.c).toArray++Builtin.zeroCells z0.cells (grownCap w (n+(m+1)) n T-(n+(m+1)))) T);have hce:(af [] C++af [] b.c).toArray++Builtin.zeroCells z0.cells (grownCap w (n+(m+1)) n T-(n+(m+1)))=((af [] C++af [] b.c)++tl).toArray:=by apply Array.ext';simp[tl]
        rw[hce]at hn⊢;have S2:=S.new (((Ch.refl [] w).drew).trans (Ch.alloc [] w.drew _) (λx hx=>.inl hx)) (Nat.le_refl _) hn;refine S2.perm ?_;exact List.perm_append_comm_assoc [_] (lits ids ids bl) (ag ch R)
      ·exact h.elim
     ·exact h.elim
    ·exact h.elim
   ·exact h.elim
  ·exact h.elim
 ·exact h.elim
def ahH (e:Operand->V) (op:Op):Bool:=match op with
 |.call c=>(match c.args.toList with
  |s::_=>(match e s with|.raw _=>true|_=>false)
  |_=>false)
 |_=>false
def adG (P:Program):(Operand->V)->Op->List VB->List aE->VK aE->Prop:=λe op bl ch K=>cond (ahH e op) (Uq P e op bl ch K) (adF P e op bl ch K)
theorem I_ {P:Program} {gl:Nat->Option Nat}:rR P gl (adG P):=ve ahH HF XU
def LB9:List (dF aE):=[⟨225,false,adE⟩]
theorem Sj:ah prog (λ_=>none) LB9:=ah.cons ⟨G8 _,λe=>by cases e⟩ ah.nil
def vcV (n:Nat) (f:FuncId) (args:List V) (bl:List VB) (K:VK aE):Prop:=cI (nz prog (λ_=>none) LB9 (adG prog) I_) n f args bl [] K
def ap9 (g:aE) (x:Int) (k:aE->Prop):Prop:=(g.v=g.v/\g.n+1<=1000000)/\∀(xa:Option Addr) (c:Nat) (bk:List ax) (h:eH g.z g.T (g.os++[.int .u8 x]) xa (g.n+1) c bk),k ⟨g.T,g.z,g.os++[.int .u8 x],xa,g.n+1,c,bk,h⟩
def adH (nc:Nat->Int) (E:aE->Prop):Nat->Nat->aE->Prop
 |0,_,g=>E g
 |k+1,i,g=>(0<=nc i/\nc i<=255)/\ap9 g (nc i) (adH nc E k (i+1))
def aj4 (nc:Nat->Int) (E:aE->Prop):Prop:=(0<=nc 0/\nc 0<=255)/\∀(x:Option Addr) (c:Nat) (bk:List ax) (h:eH 1 5 ([.int .u8 129]++[.int .u8 (nc 0)]) x 2 c bk),adH nc E 7 1 ⟨5,1,[.int .u8 129]++[.int .u8 (nc 0)],x,2,c,bk,h⟩
theorem adI (nc:Nat->Int) (c:Nat) (u:List Value) (K:VK aE):vcV 90 203 [.int .i64 129,.sl 1 0 8 c] (me nc u) (du 10 K)=aj4 nc λg=>K (.aC [g.v,.bool true]) (me nc u) [g]:=by kernel_rfl
theorem Sk (nc:Nat->Int) (K:VK Empty):vcU 60 46 [.ptr 0 0] [XQ nc] (du 1 K)=∀(c:Nat) (u:List Value),1<=c->szP 1 u c->Sh (λc u=>K (.aC [.sl 1 0 8 c,.bool true]) (me nc u) []) 7 1 c u:=by kernel_rfl
theorem XV {n f n0:Nat} {args:List V} {bl:List VB} {K:VK aE} (h:JY (vcV n f args bl (du n0 K))) {ids:List Nat} (hl:ids.length=bl.length) (hn:n0<=ids.length) {bs:List ax} {ms:List Nat} {w0 w:World} (S:St ms w0 (lits ids ids bl++bs) w):
 ak prog f (aq ids args).toArray w λv w1=>∃x more b ch,v=den (ids.take n0++more) x/\(ids.take n0++more).length=b.length/\St ms w0 (lits (ids.take n0++more) (ids.take n0++more) b++ag ch bs) w1/\K x b ch:=by
 refine(bw Sj.T Sj.Q n (C:=nz prog (λ_=>none) LB9 (adG prog) I_) (ids:=ids) (bl:=bl) (ch:=[]) (R:=bs) Gl.none hl S h.h).mono ?_;rintro v w' ⟨y,more,bl',ch',rfl,h1,S',hK⟩;obtain⟨v2,aS,bl2,e,gH,S2,hK⟩:=dr (n0:=n0) h1 (by simp;omega) S' hK;rw[List.take_append_of_le_length hn]at e gH S2;exact⟨v2,aS,bl2,ch',e,gH,S2,hK⟩
def f9 (nc:Nat->Int):Nat->Int:=rN [129,nc 0,nc 1,nc 2,nc 3,nc 4,nc 5,nc 6,nc 7]
structure Ok9 (nc:Nat->Int) (g:aE):Prop where
 T:g.T=5
 z:g.z=1
 n:g.n=9
 os:g.os=(List.range 9).map λj=>.int .u8 (f9 nc j)
def Sl:gZ aE:=λargs bl ch K=>match args,bl with
 |[.ptr 0 0],[⟨true,⟨75,(0,0)⟩,c⟩]=>∃nc,c=Sg nc/\∀(k:Nat) (u:List Value),8<=k->K (.aC [.sl 1 0 8 k,.bool true]) (me nc u) ch
 |_,_=>False
def Sn:gZ aE:=λargs bl ch K=>match args with
 |[.int .i64 129,.sl 1 0 8 _]=>∃nc u,bl=me nc u/\(∀j,0<=nc j/\nc j<=255)/\∀g:aE,Ok9 nc g->K (.aC [g.v,.bool true]) bl (g::ch)
 |_=>False
theorem G9:Sound prog (λ_=>none) 46 Sl:=by
 intro args ids bl ch R ms w0 w K hg hl S hc;unfold Sl at hc;split at hc
 ·rename_i c;obtain⟨nc,rfl,hK⟩:=hc
  match ids,hl with
  |[r],_=>
   have hv:JY (vcU 60 46 [.ptr 0 0] [XQ nc] (du 1 λv b _=>∃k u,v=.aC [.sl 1 0 8 k,.bool true]/\b=me nc u/\8<=k)):=⟨by rw[Sk];exact λc u h1 h2=>Bg 7 1 c u h1 h2 λk u h _=>⟨k,u,rfl,rfl,h⟩⟩;have hr:=Bh hv (ids:=[r]) (bs:=ag ch R) rfl (by simp) S;clear hv;refine hr.mono ?_;rintro v w' ⟨x,more,b,rfl,h1,S2,k,u,rfl,rfl,h8⟩;exact⟨_,more,_,ch,rfl,h1,S2,hK k u h8⟩
 ·exact hc.elim
theorem Ja {nc:Nat->Int} (Bo:∀j,0<=nc j/\nc j<=255) {E:aE->Prop}:∀(k i:Nat) (g:aE),g.T=5->g.z=1->g.n=i+1->g.os=.int .u8 129::(List.range i).map (λj=>.int .u8 (nc j))->i+k<=100->
 (∀g:aE,g.T=5->g.z=1->g.n=i+k+1->g.os=.int .u8 129::(List.range (i+k)).map (λj=>.int .u8 (nc j))->E g)->adH nc E k i g
 |0,i,g,h1,h2,h3,h4,_,hE=>hE g h1 h2 h3 h4
 |k+1,i,g,h1,h2,h3,h4,hb,hE=>⟨Bo i,⟨rfl,by omega⟩,λxa c bk h=>Ja Bo k (i+1) _ h1 h2 (by show g.n+1=_;omega) (by show g.os++_=_;rw[h4,List.range_succ,List.map_append];rfl) (by omega) λg a b c d=>hE g a b (by omega) (by rw[d,show i+1+k=i+(k+1) by omega])⟩
theorem G_:Sound prog (λ_=>none) 203 Sn:=by
 intro args ids bl ch R ms w0 w K hg hl S hc;unfold Sn at hc;split at hc
 ·rename_i c;obtain⟨nc,u,rfl,Bo,hK⟩:=hc;have hv:JY (vcV 90 203 [.int .i64 129,.sl 1 0 8 c] (me nc u) (du 10 λv b ch=>∃g,v=.aC [g.v,.bool true]/\b=me nc u/\ch=[g]/\Ok9 nc g)):=⟨by
   rw[adI];exact⟨Bo 0,λx c bk h=>Ja Bo 7 1 _ rfl rfl rfl rfl (by omega) λg a b c d=>⟨g,rfl,rfl,rfl,a,b,c,by rw[d];rfl⟩⟩⟩
  have hr:=XV hv (ids:=ids) (bs:=ag ch R) hl (by rw[hl];simp[me,bx9]) S;clear hv;refine hr.mono ?_;rintro v w' ⟨x,more,b,ch',rfl,h1,S2,g,rfl,rfl,rfl,h9⟩;have hlen:ids.length=10:=by rw[hl];simp[me,bx9]
  have hm:more=[]:=by
   have:(ids.take 10++more).length=10:=by rw[h1];simp[me,bx9]
   rw[List.length_append,List.length_take,hlen]at this;exact List.eq_nil_of_length_eq_zero (by simpa using this)
  subst hm;rw[List.take_of_length_le (by omega)]at S2 h1;refine⟨_,[],_,_,?_,h1,S2,hK g h9⟩;rw[List.take_of_length_le (by omega)]
 ·exact hc.elim
def LR9:List (dF aE):=[⟨46,false,Sl⟩,⟨203,false,Sn⟩]
theorem So:ah prog (λ_=>none) LR9:=ah.cons ⟨G9,λe=>by cases e⟩ (ah.cons ⟨G_,λe=>by cases e⟩ ah.nil)
def vcX (n:Nat) (f:FuncId) (args:List V) (K:VK aE):Prop:=cI (dw prog (λ_=>none) LR9) n f args [] [] K
theorem XW {n f:Nat} {args:List V} {K:VK aE} (h:JY (vcX n f args (du 0 K))) {w:World}:
 ak prog f (aq [] args).toArray w λv w1=>∃x b ch,(b=[]->v=den [] x)/\(b=[]->St [] w (ag ch []) w1)/\K x b ch:=by
 refine(bw So.T So.Q n (C:=dw prog (λ_=>none) LR9) (ids:=[]) (bl:=[]) (ch:=[]) (R:=[]) (ms:=[]) (w0:=w) (w:=w) Gl.none rfl (St.nil [] w) h.h).mono ?_;rintro v w' ⟨y,more,bl',ch',rfl,h1,S',hK⟩;obtain⟨v2,aS,bl2,e,gH,S2,hK⟩:=dr (n0:=0) (ids:=more) h1 (by simp) S' hK;refine⟨v2,bl2,ch',λhb=>?_,λhb=>?_,hK⟩
 ·subst hb;obtain rfl:aS=[]:=by simpa using gH
  exact e
 ·subst hb;obtain rfl:aS=[]:=by simpa using gH
  exact S2
theorem adJ (nc:Nat->Int) (K:VK aE):vcX 60 165 [.agg (Sg nc)] (du 0 K)=∃nc1,Sg nc=Sg nc1/\∀(k:Nat) (u:List Value),8<=k->∃nc2 u2,me nc1 u=me nc2 u2/\(∀j,0<=nc2 j/\nc2 j<=255)/\∀g:aE,Ok9 nc2 g->K (.aC [g.v,.int .i64 0]) [] [g]:=by kernel_rfl
theorem ahI (nc:Nat->Int) (h:∀j,0<=nc j/\nc j<=255) (w:World):ak prog 165 (aq [] [.agg (Sg nc)]).toArray w λv w1=>∃b c1,v=.tuple #[.slice (some ⟨b,0,none⟩) 9 c1,.int .i64 0]/\9<=c1/\w.heap.size<=b/\fl w1 b 0 9 (f9 nc)/\Ch [] w w1:=by
 have hv:JY (vcX 60 165 [.agg (Sg nc)] (du 0 λv b ch=>∃g,v=.aC [g.v,.int .i64 0]/\b=[]/\ch=[g]/\Ok9 nc g)):=⟨by rw[adJ];exact⟨nc,rfl,λk u _=>⟨nc,u,rfl,h,λg hg=>⟨g,rfl,rfl,rfl,hg⟩⟩⟩⟩;have hr:=XW hv (w:=w);clear hv;refine hr.mono ?_;rintro v w' ⟨x,b,ch',e,S2,g,rfl,rfl,rfl,h1,h2,h3,h4⟩;have e:=e rfl;have S2:=S2 rfl;have hg:=g.h;rw[h1,h2,h3,h4]at hg;obtain⟨_,hc,hx⟩:=hg;rcases hx with⟨_,h0,_⟩|⟨b,t,hx,hb,_⟩
 ·cases h0
 ·have S3:St [] w ([⟨b,true,.cells (((List.range 9).map λj=>Value.int .u8 (f9 nc j))++t).toArray 5 (0,0)⟩]++[]) w':=by
   have:St [] w (g.bl++[]) w':=S2;rw[hb]at this;exact this
  refine⟨b,g.c,?_,hc,(S3.own 0 _ rfl rfl).resolve_left (by simp),λj hj=>?_,S3.ch⟩
  ·rw[e];simp only[den,aq,aE.v,hx,h3]
  ·rw[Nat.zero_add,cell_of (S3.at_ 0 _ rfl)];simp only[List.getElem?_toArray];rw[List.getElem?_append_left (by simpa using hj)];simp[List.getElem?_range hj]
end Go.Proofs.YtlkpikfddnjilaaGreatDoor
namespace Go.Proofs.YtlkpikfddnjilaaGreatDoor
open Go Go.RowKit Go.BigFrame Sx
def adK (r:Sd.Reply):Array Value:=#[.int .i64 r.kind,.int .i64 r.seq,.int .i64 r.role,.int .i64 r.iY,.int .i64 r.epoch,.int .i64 r.code,.int .u8 (r.ab 0),.int .u8 (r.ab 1),.int .u8 (r.ab 2),.int .u8 (r.ab 3),.int .u8 (r.ab 4),.int .u8 (r.ab 5),.int .u8 (r.ab 6),.int .u8 (r.ab 7)]
def ff (r:Sd.Reply):Nat:=if r.kind=129 then 9 else if r.kind=130\/r.kind=131 then 5 else if r.kind=132 then 6 else if r.kind=133\/r.kind=136 then 3 else 4
def xH (r:Sd.Reply):Nat->Int:=if r.kind=129 then f9 r.ab else if r.kind=130 then rN [130,ay 1 (u64.wrap r.role) 0,ay 1 (u64.wrap r.iY) 0,ay 2 (u64.wrap r.epoch) 0,ay 2 (u64.wrap r.epoch) 1]
 else if r.kind=131 then rN [131,ay 4 (u64.wrap r.seq) 0,ay 4 (u64.wrap r.seq) 1,ay 4 (u64.wrap r.seq) 2,ay 4 (u64.wrap r.seq) 3]else if r.kind=132 then rN [132,ay 4 (u64.wrap r.seq) 0,ay 4 (u64.wrap r.seq) 1,ay 4 (u64.wrap r.seq) 2,ay 4 (u64.wrap r.seq) 3,ay 1 (u64.wrap r.code) 0]
 else if r.kind=133 then rN [133,ay 2 (u64.wrap r.epoch) 0,ay 2 (u64.wrap r.epoch) 1]else if r.kind=134 then rN [134,ay 1 (u64.wrap r.iY) 0,ay 2 (u64.wrap r.epoch) 0,ay 2 (u64.wrap r.epoch) 1]
 else if r.kind=135 then rN [135,ay 1 (u64.wrap r.iY) 0,ay 2 (u64.wrap r.epoch) 0,ay 2 (u64.wrap r.epoch) 1]else rN [136,ay 1 (u64.wrap r.iY) 0,ay 1 (u64.wrap r.code) 0]
theorem Sr (r:Sd.Reply):ff r=3\/ff r=4\/ff r=5\/ff r=6\/ff r=9:=by
 unfold ff;repeat' split
 all_goals simp
theorem XY (r:Sd.Reply) (h:RB r) (w:World):ak prog 165 #[.agg (adK r)] w λv w1=>∃b c1,v=.tuple #[.slice (some ⟨b,0,none⟩) (ff r) c1,.int .i64 0]/\ff r<=c1/\w.heap.size<=b/\fl w1 b 0 (ff r) (xH r)/\Ch [] w w1:=by
 have hk:r.kind=129\/r.kind=130\/r.kind=131\/r.kind=132\/r.kind=133\/r.kind=134\/r.kind=135\/r.kind=136:=by have:=h.kind;omega
 obtain⟨k,sq,ro,wh,ep,co,nc⟩:=r;obtain⟨_,⟨s1,s2⟩,⟨r1,r2⟩,⟨w1,w2⟩,⟨e1,e2⟩,⟨c1,c2⟩,⟨n1,n2⟩⟩:=h;simp only at*;rcases hk with rfl|rfl|rfl|rfl|rfl|rfl|rfl|rfl<;>simp at s2 r2 w2 e2 c2 n2<;>subst_vars
 ·exact ahI nc n1 w
 ·exact ahB ro wh ep r1 w1 e1 w
 ·exact ahA sq s1 w
 ·exact ahC sq co s1 c1 w
 ·exact ahD ep e1 w
 ·exact ahE wh ep w1 e1 w
 ·exact ahF wh ep w1 e1 w
 ·exact ahz wh co w1 c1 w
theorem ahJ (n:Nat) (hn:n=3\/n=4\/n=5\/n=6\/n=9) (b o c:Nat) (f:Nat->Int) (w:World) (hB:fl w b o n f):
 ak prog 166 #[.slice (some ⟨b,o,none⟩) n c] w λv w1=>∃b c1,v=.tuple #[.slice (some ⟨b,0,none⟩) (n+5) c1,.int .i64 0]/\n+5<=c1/\w.heap.size<=b/\w1.heap[b]?=some (.cells (cN (n+5) (o9 n f) c1) 5 (0,0))/\Ch [] w w1:=by
 exact abz b o n c f (by omega) w hB
theorem ahK (xs:Option Addr) (ns cs:Nat) (iB bc:Nat) (x:Option Addr) (n c:Nat) (bl:List ax) (so:List Value) (l:Int) (r:Sd.Reply) (hrb:RB r) (w:World) {ms:List Nat} {w0:World} {bs:List ax} (S0:St ms w0 ([⟨iB,true,.cells #[.pointer (some ⟨bc,0,none⟩),.slice xs ns cs,.slice x n c] 108 (0,0)⟩]++(bl++bs)) w) (hR:eH 2 69 so xs ns cs bl) (hn:ns<=1000):
 ak prog 130 #[.pointer (some ⟨iB,0,none⟩),.int .i64 l,.agg #[.int .i64 r.kind,.int .i64 r.seq,.int .i64 r.role,.int .i64 r.iY,.int .i64 r.epoch,.int .i64 r.code,.int .u8 (r.ab 0),.int .u8 (r.ab 1),.int .u8 (r.ab 2),.int .u8 (r.ab 3),.int .u8 (r.ab 4),.int .u8 (r.ab 5),.int .u8 (r.ab 6),.int .u8 (r.ab 7)]] w λv w1=>∃x1 c1 xf bf cf,v=.tuple #[]/\eH 2 69 (so++[.int .i64 l,.slice (some ⟨bf,0,none⟩) (ff r+5) cf]) x1 (ns+1) c1 xf/\ff r+5<=cf/\St ms w0 ([⟨iB,true,.cells #[.pointer (some ⟨bc,0,none⟩),.slice x1 (ns+1) c1,.slice x n c] 108 (0,0)⟩]++(xf++(⟨bf,true,.cells (cN (ff r+5) (o9 (ff r) (xH r)) cf) 5 (0,0)⟩::bs))) w1:=by
 refine ct Tryz.func130 rfl ?_;refine ao (aw ?_);refine cq S0 (λb=>.pointer (some ⟨b,0,none⟩)) (.cells #[.int .i64 r.kind,.int .i64 r.seq,.int .i64 r.role,.int .i64 r.iY,.int .i64 r.epoch,.int .i64 r.code,.int .u8 (r.ab 0),.int .u8 (r.ab 1),.int .u8 (r.ab 2),.int .u8 (r.ab 3),.int .u8 (r.ab 4),.int .u8 (r.ab 5),.int .u8 (r.ab 6),.int .u8 (r.ab 7)] 75) ?_;intro bQ lU fm;refine au (ae (ao (aw ?_)));refine c_ fm 0 14 #[.int .i64 r.kind,.int .i64 r.seq,.int .i64 r.role,.int .i64 r.iY,.int .i64 r.epoch,.int .i64 r.code,.int .u8 (r.ab 0),.int .u8 (r.ab 1),.int .u8 (r.ab 2),.int .u8 (r.ab 3),.int .u8 (r.ab 4),.int .u8 (r.ab 5),.int .u8 (r.ab 6),.int .u8 (r.ab 7)] bQ 0 ?_;refine cd 165 #[.agg #[.int .i64 r.kind,.int .i64 r.seq,.int .i64 r.role,.int .i64 r.iY,.int .i64 r.epoch,.int .i64 r.code,.int .u8 (r.ab 0),.int .u8 (r.ab 1),.int .u8 (r.ab 2),.int .u8 (r.ab 3),.int .u8 (r.ab 4),.int .u8 (r.ab 5),.int .u8 (r.ab 6),.int .u8 (r.ab 7)]] ?_;refine(XY r hrb _).mono ?_;rintro _ zw4 ⟨yb,zc8,rfl,J9,jy,iI,zh5⟩;have eI:=fm.quiet zh5;refine bJ ?_;refine aa (.slice (some ⟨yb,0,none⟩) (ff r) zc8) ?_;refine aa (.int .i64 0) ?_;refine bm ?_;refine aa (.int .i64 0) ?_;refine au (ae (ao (aw ?_)));refine bJ ?_;refine cd 166 #[.slice (some ⟨yb,0,none⟩) (ff r) zc8] ?_;refine(ahJ (ff r) (Sr r) yb 0 zc8 (xH r) _ iI).mono ?_;rintro _ aaI ⟨mL,kK,rfl,J5,N3,tM,nU⟩;have ja:=eI.new nU N3 tM;refine bJ ?_;refine aa (.slice (some ⟨mL,0,none⟩) (ff r+5) kK) ?_;refine aa (.int .i64 0) ?_;refine bm ?_;refine aa (.int .i64 0) ?_;refine au (ae (aw ?_));refine bJ ?_;refine bJ ?_;refine aa (.pointer (some ⟨iB,0,none⟩)) ?_;refine aa (.pointer (some ⟨iB,1,none⟩)) ?_;refine eh ja 2 (.slice xs ns cs) iB 1 ?_;refine aa (.int .i64 l) ?_;refine bJ ?_;refine aa (.agg #[.int .i64 l,.slice (some ⟨mL,0,none⟩) (ff r+5) kK]) ?_;refine cq ja (λb=>.slice (some ⟨b,0,none⟩) 1 1) (.cells #[.int .i64 l,.slice (some ⟨mL,0,none⟩) (ff r+5) kK] 69) ?_;intro Ss abr xz;have OZ:St ms w0 ([⟨Ss,true,.cells #[.int .i64 l,.slice (some ⟨mL,0,none⟩) (ff r+5) kK] 69 (0,0)⟩,⟨mL,true,.cells (cN (ff r+5) (o9 (ff r) (xH r)) kK) 5 (0,0)⟩,⟨bQ,true,.cells #[.int .i64 r.kind,.int .i64 r.seq,.int .i64 r.role,.int .i64 r.iY,.int .i64 r.epoch,.int .i64 r.code,.int .u8 (r.ab 0),.int .u8 (r.ab 1),.int .u8 (r.ab 2),.int .u8 (r.ab 3),.int .u8 (r.ab 4),.int .u8 (r.ab 5),.int .u8 (r.ab 6),.int .u8 (r.ab 7)] 75 (0,0)⟩,⟨iB,true,.cells #[.pointer (some ⟨bc,0,none⟩),.slice xs ns cs,.slice x n c] 108 (0,0)⟩]++(bl++bs)) abr:=xz.re (R:=bs) [[⟨Ss,true,.cells #[.int .i64 l,.slice (some ⟨mL,0,none⟩) (ff r+5) kK] 69 (0,0)⟩],[⟨mL,true,.cells (cN (ff r+5) (o9 (ff r) (xH r)) kK) 5 (0,0)⟩],[⟨bQ,true,.cells #[.int .i64 r.kind,.int .i64 r.seq,.int .i64 r.role,.int .i64 r.iY,.int .i64 r.epoch,.int .i64 r.code,.int .u8 (r.ab 0),.int .u8 (r.ab 1),.int .u8 (r.ab 2),.int .u8 (r.ab 3),.int .u8 (r.ab 4),.int .u8 (r.ab 5),.int .u8 (r.ab 6),.int .u8 (r.ab 7)] 75 (0,0)⟩],[⟨iB,true,.cells #[.pointer (some ⟨bc,0,none⟩),.slice xs ns cs,.slice x n c] 108 (0,0)⟩],bl] [0,1,2,3,4];refine MV (z:=2) (T:=69) (olds:=so) (xs:=xs) (n:=ns) (c:=cs) (m:=1) (news:=[.int .i64 l,.slice (some ⟨mL,0,none⟩) (ff r+5) kK]) (xv:=.slice (some ⟨Ss,0,none⟩) 1 1) (A:=[⟨Ss,true,.cells #[.int .i64 l,.slice (some ⟨mL,0,none⟩) (ff r+5) kK] 69 (0,0)⟩,⟨mL,true,.cells (cN (ff r+5) (o9 (ff r) (xH r)) kK) 5 (0,0)⟩,⟨bQ,true,.cells #[.int .i64 r.kind,.int .i64 r.seq,.int .i64 r.role,.int .i64 r.iY,.int .i64 r.epoch,.int .i64 r.code,.int .u8 (r.ab 0),.int .u8 (r.ab 1),.int .u8 (r.ab 2),.int .u8 (r.ab 3),.int .u8 (r.ab 4),.int .u8 (r.ab 5),.int .u8 (r.ab 6),.int .u8 (r.ab 7)] 75 (0,0)⟩,⟨iB,true,.cells #[.pointer (some ⟨bc,0,none⟩),.slice xs ns cs,.slice x n c] 108 (0,0)⟩]) (bl:=bl) (R:=bs) OZ hR (ah6 xz 0 1 2 [.int .i64 l,.slice (some ⟨mL,0,none⟩) (ff r+5) kK] (tx:=48) (e':=69) (by kernel_rfl) (by kernel_rfl) (by kernel_rfl) (by rfl)) 32 (hbd:=(by omega)) (h63:=(by unfold maxLen;omega)) (k:=?_);intro adL adM ahL alb nX aj5;refine aa (.pointer (some ⟨iB,0,none⟩)) ?_;refine aa (.pointer (some ⟨iB,1,none⟩)) ?_;refine store_ aj5 3 (.slice adL (ns+1) adM) iB 1 ?_;intro UK vi;refine au ?_;refine end_ rfl (ei [] [] (.tuple #[]) trivial) ?_;refine⟨adL,adM,ahL,mL,kK,rfl,?_,J5,?_⟩
 ·exact nX
 ·exact vi.re (R:=bs) [[⟨Ss,true,.cells #[.int .i64 l,.slice (some ⟨mL,0,none⟩) (ff r+5) kK] 69 (0,0)⟩],[⟨mL,true,.cells (cN (ff r+5) (o9 (ff r) (xH r)) kK) 5 (0,0)⟩],[⟨bQ,true,.cells #[.int .i64 r.kind,.int .i64 r.seq,.int .i64 r.role,.int .i64 r.iY,.int .i64 r.epoch,.int .i64 r.code,.int .u8 (r.ab 0),.int .u8 (r.ab 1),.int .u8 (r.ab 2),.int .u8 (r.ab 3),.int .u8 (r.ab 4),.int .u8 (r.ab 5),.int .u8 (r.ab 6),.int .u8 (r.ab 7)] 75 (0,0)⟩],[⟨iB,true,.cells #[.pointer (some ⟨bc,0,none⟩),.slice adL (ns+1) adM,.slice x n c] 108 (0,0)⟩],ahL] [3,4,1]
end Go.Proofs.YtlkpikfddnjilaaGreatDoor
namespace Go.Proofs.YtlkpikfddnjilaaGreatDoor
open Go Go.RowKit Go.BigFrame Sx Vx
def n8 (r:Sd.Reply):Nat×Sd.Byt:=(ff r+5,o9 (ff r) (xH r))
theorem XZ {l:List V} {r:Sd.Reply} (h:acr l=some r) (ids:List Nat):(af ids l).toArray=adK r:=by
 unfold acr at h;split at h
 ·split at h
  ·obtain rfl:=Option.some.inj h;kernel_rfl
  ·obtain rfl:=Option.some.inj h;kernel_rfl
  ·cases h
 ·cases h
theorem yJ (r c s k t:ax) (A B E R:List ax):([r,c,s,k,t]++((A++(B++E))++R)).Perm ([s]++(B++(r::c::k::t::(A++(E++R))))):=by
 have h1:([r,c,s,k,t]++((A++(B++E))++R)).Perm (s::r::c::k::t::((A++(B++E))++R)):=by
  refine((List.Perm.swap s c _).cons r).trans ?_;exact List.Perm.swap s r _
 refine h1.trans (List.Perm.cons s ?_);have h2:([r,c,k,t]++(A++(B++(E++R)))).Perm (B++([r,c,k,t]++(A++(E++R)))):=by
  have e1:[r,c,k,t]++(A++(B++(E++R)))=([r,c,k,t]++A)++(B++(E++R)):=by simp
  have e2:B++([r,c,k,t]++(A++(E++R)))=B++(([r,c,k,t]++A)++(E++R)):=by simp
  rw[e1,e2];exact List.perm_append_comm_assoc _ _ _
 simpa[List.append_assoc]using h2
def cw.tell {fr:Sd.Reply->Nat×Sd.Byt} {k:LK} {s:Sd.Scene} (F:cw fr (bV k s)) (l:Int) (r:Sd.Reply) {x1:Option Addr} {c1:Nat} {xf Bf:List ax} {so:List Value} (hs:eH 2 69 so x1 (s.tell l r).sent.length c1 xf) (hf:vO fr (s.tell l r).sent so Bf):cw fr (bV k (s.tell l r)):=
 ⟨x1,c1,F.xr,F.cr,F.Bq,F.Br,xf,Bf,F.Bk,so,F.hq,F.hr,hs,hf,F.hk⟩
theorem Mc:Body (fr:=n8) 130 bM:=by
 intro ar k s F Kb a b c R ms w0 w h0 hq hM S;unfold bM at hM;split at hM
 ·rename_i l rl;split at hM
  ·rename_i r hr;have hrm:=hM.1.1;have hrb:=hM.1.2;have hK:=hM.2;have e1:lits (aX a b c) (aX a b c) (cO k s F)=[aL (aX a b c) 0 (aF k),aL (aX a b c) 2 (iq k),⟨a,true,.cells #[.pointer (some ⟨b,0,none⟩),F.vs,F.vr] 108 (0,0)⟩,aL (aX a b c) b (ee k 4 s),aL (aX a b c) c (gp s)]:=by kernel_rfl
   rw[e1,acg]at S;have S1:=S.perm (yJ _ _ _ _ _ _ _ _ _);have e2:(aq (aX a b c) (.ptr 2 0::[.int .i64 l,.agg rl])).toArray=#[.pointer (some ⟨a,0,none⟩),.int .i64 l,.agg (adK r)]:=by
    have:=XZ hr (aX a b c);simp only[aq,den,this];rfl
   rw[e2];have hn:s.sent.length<=1000:=by have:=hrm.1;omega
   refine(ahK _ _ _ _ _ _ _ _ _ _ l r hrb w S1 F.hs hn).mono ?_;rintro v w1 ⟨x1,c1,xf,bf,cf,rfl,w_,hcf,S2⟩;have hl:(s.tell l r).sent.length=s.sent.length+1:=by simp[Sd.Scene.tell]
   have w9:eH 2 69 (F.so++[.int .i64 l,.slice (some ⟨bf,0,none⟩) (n8 r).1 cf]) x1 (s.tell l r).sent.length c1 xf:=by rw[hl];exact w_
   have hf':vO n8 (s.tell l r).sent (F.so++[.int .i64 l,.slice (some ⟨bf,0,none⟩) (n8 r).1 cf]) (F.Bf++[⟨bf,true,.cells (cN (n8 r).1 (n8 r).2 cf) 5 (0,0)⟩]):=F.hf.snoc l r (some ⟨bf,0,none⟩) cf _ ⟨hcf,.inr ⟨bf,rfl,rfl⟩⟩
   let F':cw n8 (bV k (s.tell l r)):=F.tell l r w9 hf'
   refine⟨.aC [],_,F',rfl,rfl,rfl,hK F',?_⟩;have e3:lits (aX a b c) (aX a b c) (cO k (s.tell l r) F')=[aL (aX a b c) 0 (aF k),aL (aX a b c) 2 (iq k),⟨a,true,.cells #[.pointer (some ⟨b,0,none⟩),.slice x1 (s.tell l r).sent.length c1,F.vr] 108 (0,0)⟩,aL (aX a b c) b (ee k 4 s),aL (aX a b c) c (gp s)]:=by kernel_rfl
   have e4:F'.B=F.Br++(xf++((F.Bf++[⟨bf,true,.cells (cN (n8 r).1 (n8 r).2 cf) 5 (0,0)⟩])++(F.Bq++F.Bk))):=rfl;rw[e3,e4,hl];refine(S2.perm ?_).perm (yJ _ _ _ _ _ _ _ _ _).symm;refine List.Perm.append_left _ (List.Perm.append_left _ ?_);have p:∀(f x1 x2 x3 x4:ax) (A E D R:List ax),(f::x1::x2::x3::x4::(A++((E++D)++R))).Perm (x1::x2::x3::x4::(A++(((E++[f])++D)++R))):=by
    intro f x1 x2 x3 x4 A E D R;have q1:f::x1::x2::x3::x4::(A++((E++D)++R))=[f]++(([x1,x2,x3,x4]++(A++E))++(D++R)):=by simp
    have q2:x1::x2::x3::x4::(A++(((E++[f])++D)++R))=([x1,x2,x3,x4]++(A++E))++([f]++(D++R)):=by simp
    rw[q1,q2];exact List.perm_append_comm_assoc _ _ _
   exact p _ _ _ _ _ _ _ _ _
  ·exact hM.elim
 ·exact hM.elim
end Go.Proofs.YtlkpikfddnjilaaGreatDoor
namespace Sx
open Go Go.RowKit
def Rd (P:Program) (w:World):Nat->TypeId->List Value->Prop
 |0,_,_=>True
 |d+1,t,cs=>
  match P.underlying t with
  |some .bool=>∃b,cs=[.bool b]
  |some (.int k)=>∃n,cs=[.int k n]/\k.min<=n/\n<=k.max
  |some (.slice e)=>cs=[.slice none 0 0]\/∃a len cap,cs=[.slice (some a) len cap]/\len<=cap/\cap<=maxLen/\∀i,i<cap->∃El,w.cells? 0 (a.add (i*P.cellsOf e)) (P.cellsOf e)=some El/\Rd P w d e El
  |some (.struct fs)=>cs.length=P.cellsOf t/\∀(i:Nat) f,fs[i]?=some f->Rd P w d f.type ((cs.drop f.offset).take (P.cellsOf f.type))
  |some (.array n e)=>cs.length=P.cellsOf t/\∀i,i<n->Rd P w d e ((cs.drop (i*P.cellsOf e)).take (P.cellsOf e))
  |_=>True
section
variable{H:Type} {enc:TypeId×Value->H} {P:Program} {w:World} {held:Bool}
theorem jK:∀(d:Nat) {fuel:Nat} {t:TypeId} {cs:List Value} {x:DataW H×List MemPlace},DataW.trod enc P w 0 (λ_=>true) held fuel t cs=some x->Rd P w d t cs
 |0,_,_,_,_,_=>trivial
 |d+1,fuel,t,cs,x,h=>by
  unfold Rd;split
  ·rename_i hu;obtain⟨b,hb,_⟩:=DataW.trod_bool hu h;exact⟨b,hb⟩
  ·rename_i k hu;obtain⟨n,hn,_,hw⟩:=DataW.trod_int hu h;refine⟨n,hn,?_⟩;unfold Lit.wf at hw;simpa using hw
  ·rename_i e hu;rcases Deep.open_slice hu h with⟨h0,_⟩|⟨a,len,cap,m,n,D,Pl,hc,_,hl,hm,hmm,_,hx⟩
   ·exact .inl h0
   ·refine .inr ⟨a,len,cap,hc,hl,hm,λi hi=>?_⟩;obtain⟨El,h1,h2⟩:=hx i (by rw[hmm];simpa using hi);exact⟨El,h1,jK d h2⟩
  ·rename_i fs hu;obtain⟨xs,n,_,_,hl,hs,hx⟩:=DataW.trod_struct hu h;refine⟨hl,λi f hf=>?_⟩;have h1:=hx i f hf;have hi:i<fs.size:=by
    rcases Nat.lt_or_ge i fs.size with h2|h2
    ·exact h2
    ·simp[h2]at hf
   rw[List.getElem?_eq_getElem (by rw[hs];exact hi)]at h1;exact jK d h1
  ·rename_i n e hu;obtain⟨xs,m,_,_,hl,hs,hx⟩:=DataW.trod_array hu h;refine⟨hl,λi hi=>?_⟩;have h1:=hx i hi;rw[List.getElem?_eq_getElem (by rw[hs];exact hi)]at h1;exact jK d h1
  ·trivial
def cellAt (P:Program):Nat->TypeId->Nat->Option TypeId
 |0,_,_=>none
 |d+1,t,j=>
  match P.underlying t with
  |some (.struct fs)=>fs.toList.findSome? λf=>bif Nat.ble f.offset j&&Nat.blt j (f.offset+P.cellsOf f.type)then cellAt P d f.type (j-f.offset)else none
  |some (.array n e)=>bif Nat.blt (j/P.cellsOf e) n&&Nat.blt 0 (P.cellsOf e)then cellAt P d e (j%P.cellsOf e)else none
  |_=>bif Nat.beq j 0 then some t else none
theorem rG:∀(d:Nat) {t:TypeId} {cs:List Value} {j:Nat} {u:TypeId} {v:Value},(∀n,Rd P w n t cs)->cellAt P d t j=some u->cs[j]?=some v->∀n,Rd P w n u [v]
 |0,_,_,_,_,_,_,h,_=>by simp[cellAt]at h
 |d+1,t,cs,j,u,v,hr,h,hv=>by
  unfold cellAt at h;split at h
  ·rename_i fs hu;obtain⟨f,hf,h⟩:=List.exists_of_findSome?_eq_some h;obtain⟨i,hi⟩:=List.getElem?_of_mem hf;have MR:fs[i]?=some f:=by simpa using hi
   rw[Bool.cond_eq_ite]at h;split at h
   ·rename_i hc;simp only[Bool.and_eq_true]at hc;have h1:=Nat.le_of_ble_eq_true hc.1;have h2:j<f.offset+P.cellsOf f.type:=by
     have:=hc.2;unfold Nat.blt at this;exact Nat.le_of_ble_eq_true this
    refine rG d (cs:=(cs.drop f.offset).take (P.cellsOf f.type)) (λn=>?_) h ?_
    ·have:=hr (n+1);unfold Rd at this;rw[hu]at this;exact this.2 i f MR
    ·rw[List.getElem?_take_of_lt (by omega),List.getElem?_drop];rw[show f.offset+(j-f.offset)=j by omega];exact hv
   ·simp at h
  ·rename_i n0 e hu;rw[Bool.cond_eq_ite]at h;split at h
   ·rename_i hc;simp only[Bool.and_eq_true]at hc;have h1:j/P.cellsOf e<n0:=by
     have:=hc.1;unfold Nat.blt at this;exact Nat.le_of_ble_eq_true this
    have h2:0<P.cellsOf e:=by
     have:=hc.2;unfold Nat.blt at this;exact Nat.le_of_ble_eq_true this
    refine rG d (cs:=(cs.drop (j/P.cellsOf e*P.cellsOf e)).take (P.cellsOf e)) (λn=>?_) h ?_
    ·have:=hr (n+1);unfold Rd at this;rw[hu]at this;exact this.2 _ h1
    ·rw[List.getElem?_take_of_lt (Nat.mod_lt _ h2),List.getElem?_drop];rw[show j/P.cellsOf e*P.cellsOf e+j%P.cellsOf e=j by rw[Nat.mul_comm];exact Nat.div_add_mod _ _];exact hv
   ·simp at h
  ·rename_i hns hna;rw[Bool.cond_eq_ite]at h;split at h
   ·rename_i hj;obtain rfl:j=0:=Nat.eq_of_beq_eq_true hj;obtain rfl:t=u:=by simpa using h
    intro n;have h1:=hr n;cases n with
    |zero=>trivial
    |succ n=>
     unfold Rd at h1⊢;split at h1
     ·obtain⟨b,rfl⟩:=h1;simp at hv;subst hv;exact⟨b,rfl⟩
     ·obtain⟨k,rfl,h2⟩:=h1;simp at hv;subst hv;exact⟨k,rfl,h2⟩
     ·rcases h1 with rfl|⟨a,len,cap,rfl,h2⟩
      ·simp at hv;subst hv;exact .inl rfl
      ·simp at hv;subst hv;exact .inr ⟨a,len,cap,rfl,h2⟩
     ·rename_i fs hu;exact absurd hu (hns fs)
     ·rename_i k e hu;exact absurd hu (hna k e)
     ·trivial
   ·simp at h
theorem X0 {u:TypeId} {v:Value} (hu:P.underlying u=some .bool) (h:∀n,Rd P w n u [v]):∃b,v=.bool b:=by
 have:=h 1;unfold Rd at this;rw[hu]at this;obtain⟨b,hb⟩:=this;exact⟨b,by simpa using hb⟩
theorem wV {u:TypeId} {v:Value} {k:IntKind} (hu:P.underlying u=some (.int k)) (h:∀n,Rd P w n u [v]):∃n,v=.int k n/\k.min<=n/\n<=k.max:=by
 have:=h 1;unfold Rd at this;rw[hu]at this;obtain⟨b,hb,h2⟩:=this;exact⟨b,by simpa using hb,h2⟩
theorem wW {u e:TypeId} {v:Value} {z:Nat} {ts:List TypeId} (hu:P.underlying u=some (.slice e)) (h:∀n,Rd P w n u [v]) (hz:P.cellsOf e=z:=by kernel_rfl) (d:Nat) (jL:(List.range z).map (cellAt P d e)=ts.map some:=by kernel_rfl):
 v=.slice none 0 0\/∃a len cap,v=.slice (some a) len cap/\len<=cap/\cap<=maxLen/\∃c:Nat->Nat->Value,∀i,i<cap->∀j,j<z->w.cell? (a.add (i*z+j))=some (c i j)/\∀u',ts[j]?=some u'->∀n,Rd P w n u' [c i j]:=by
 have h1:=h 1;unfold Rd at h1;rw[hu]at h1;rcases h1 with h1|⟨a,len,cap,h1,h2,h3,_⟩
 ·exact .inl (by simpa using h1)
 ·obtain rfl:v=_:=by simpa using h1
  refine .inr ⟨a,len,cap,rfl,h2,h3,?_⟩;subst hz;have key:∀i,i<cap->∃El,w.cells? 0 (a.add (i*P.cellsOf e)) (P.cellsOf e)=some El/\∀n,Rd P w n e El:=by
   intro i hi;have bD:∀n,∃El,w.cells? 0 (a.add (i*P.cellsOf e)) (P.cellsOf e)=some El/\Rd P w n e El:=by
    intro n;have h4:=h (n+1);unfold Rd at h4;rw[hu]at h4;rcases h4 with h4|⟨a',ahM,ahN,h4,_,_,h5⟩
    ·simp at h4
    ·simp at h4;obtain⟨rfl,rfl,rfl⟩:=h4;exact h5 i hi
   obtain⟨El,hc,_⟩:=bD 0;refine⟨El,hc,λn=>?_⟩;obtain⟨aj6,Tc,hr⟩:=bD n;rw[hc]at Tc;obtain rfl:El=aj6:=by simpa using Tc
   exact hr
  obtain⟨C,hC⟩:=Deep.choose_lt key;refine⟨λi j=>(C i).getD j undef,λi hi j hj=>?_⟩;obtain⟨h5,h6⟩:=hC i hi;obtain⟨_,hl,fR⟩:=World.cells?_some h5;have h7:(C i)[j]?=some ((C i).getD j undef):=by
   have f_:j<(C i).length:=by omega
   simp[List.getD,List.getElem?_eq_getElem f_]
  refine⟨?_,λu' hu'=>?_⟩
  ·have:=fR j hj;rw[h7]at this;have e1:(a.add (i*P.cellsOf e)).add j=a.add (i*P.cellsOf e+j):=by
    unfold Addr.add;split<;>split<;>split<;>simp_all<;>omega
   rw[e1]at this;exact this
  ·have hjt:cellAt P d e j=some u':=by
    have h8:((List.range (P.cellsOf e)).map (cellAt P d e))[j]?=some (some u'):=by rw[jL];simp[hu']
    simp[hj]at h8;exact h8
   exact rG d h6 hjt h7
end
end Sx
namespace Sx
open Go Go.RowKit Go.BigFrame
theorem St.Jb {w:World} {bs:List ax} (h:∀y∈bs,y.wr=false/\w.heap[y.id]?=some y.obj):St [] w bs w:=by
 refine St.mk' (Ch.refl _ _) (λy hy=>(h y hy).2) (λy hy e=>by rw[(h y hy).1]at e;cases e) ?_;refine List.pairwise_of_forall_mem_list (λx hx y hy hc=>?_);rcases hc with hc|hc
 ·rw[(h x hx).1]at hc;cases hc
 ·rw[(h y hy).1]at hc;cases hc
end Sx
namespace Go.Proofs.YtlkpikfddnjilaaGreatDoor
open Go Go.RowKit Go.BigFrame Go.WideShapes Sx Vx
theorem adN (u:World):∀y∈dV u,y.wr=false/\u.heap[y.id]?=some y.obj:=by
 intro y hy;unfold dV at hy;rw[List.mem_map]at hy;obtain⟨⟨o,i⟩,hp,rfl⟩:=hy;refine⟨rfl,?_⟩;rw[List.mk_mem_zipIdx_iff_getElem?]at hp;simpa using hp
theorem wY {cs:List Value} {off z:Nat} (g:Nat->List Value) (hz:∀j,(g j).length=z):∀n,(∀k,k<n->∀j,j<z->cs[off+k*z+j]?=(g k)[j]?)->cs.drop off=(List.range n).flatMap g++cs.drop (off+n*z)
 |0,_=>by simp
 |n+1,h=>by
  rw[wY g hz n (λk hk=>h k (by omega)),List.range_succ,List.flatMap_append,List.append_assoc];congr 1;have e:(cs.drop (off+n*z)).take z=g n:=by
   apply List.ext_getElem?;intro j;by_cases hj:j<z
   ·rw[List.getElem?_take_of_lt hj,List.getElem?_drop];exact h n (by omega) j hj
   ·rw[List.getElem?_eq_none (by simp;omega),List.getElem?_eq_none (by rw[hz];omega)]
  have e2:=List.take_append_drop z (cs.drop (off+n*z));rw[e,List.drop_drop]at e2;rw[List.flatMap_cons,List.flatMap_nil,List.append_nil,<-e2];congr 2;rw[Nat.add_mul];omega
structure tA (W:World) (v:Value) (z:Nat) (g:Nat->List Value) (i o n c:Nat) (a:Option Addr) (ty:BT) (pre post:List Value):Prop where
 v:v=.slice (bif Nat.beq n 0 then a else some ⟨i,o,none⟩) n c
 le:n<=c
 po:∀j,j<n->o=pre.length
 at_:W.heap[i]?=some (.cells (pre++((List.range n).flatMap g++post)).toArray ty.t ty.fz)
theorem tA.nil {W:World} {z:Nat} {g:Nat->List Value} {cs:Array Value} {t:TypeId} {f:Nat×Nat} (h:W.heap[0]?=some (.cells cs t f)):tA W (.slice none 0 0) z g 0 0 0 0 none ⟨t,f⟩ [] cs.toList:=
 ⟨rfl,Nat.le_refl _,(λj hj=>absurd hj (by omega)),by simpa using h⟩
theorem tA.some {W:World} {z b o n c:Nat} {g:Nat->List Value} {cs:Array Value} {t:TypeId} {f:Nat×Nat} (hle:n<=c) (hz:∀j,(g j).length=z) (bD:W.heap[b]?=some (.cells cs t f)) (h:∀k,k<n->∀j,j<z->W.cell? ⟨b,o+k*z+j,none⟩=(g k)[j]?) (hp:0<z):
 ∃pre post,tA W (.slice (some ⟨b,o,none⟩) n c) z g b o n c (some ⟨b,o,none⟩) ⟨t,f⟩ pre post:=by
 have hc:∀k,k<n->∀j,j<z->cs.toList[o+k*z+j]?=(g k)[j]?:=λk hk j hj=>by
  have:=h k hk j hj;rw[cell_of bD]at this;simpa using this
 have hs:=wY g hz n hc;by_cases hn:n=0
 ·subst hn;exact⟨[],cs.toList,by cases Nat.beq 0 0<;>rfl,hle,(λj hj=>absurd hj (by omega)),by simpa using bD⟩
 ·refine⟨cs.toList.take o,cs.toList.drop (o+n*z),by cases Nat.beq n 0<;>rfl,hle,λj hj=>?_,?_⟩
  ·have h0:=hc 0 (by omega) 0 hp;have:o<cs.toList.length:=by
    rcases Nat.lt_or_ge o cs.toList.length with h1|h1
    ·exact h1
    ·exfalso;rw[List.getElem?_eq_none (by omega)]at h0;have h2:=hz 0;rw[List.getElem?_eq_getElem (by omega)]at h0;cases h0
   rw[List.length_take];omega
  ·rw[<-hs,List.take_append_drop];exact bD
theorem adO {W:World} {tg tc:TypeId} (hG:W.heap[0]?=some (.cells (ai .u32 64 aT) tg (0,0))) (hC:W.heap[2]?=some (.cells #[.bool false,.bool false,.bool false,.bool false,.bool false,.bool false,.bool false,.bool false,.bool false,.bool false,.bool true,.bool true] tc (0,0))) {i:Nat} {b:VB} (hw:b.wr=false) (hc:cG 0 b.c=true) (bD:W.heap[i]?=some (.cells (af [] b.c).toArray b.ty.t b.ty.fz)) {fr:Sd.Reply->Nat×Sd.Byt}:
 St [] W (lits [0,2,i] [0,2,i] [iW tg,pF tc,b]++ag [LG.dC (fr:=fr) W] []) W:=by
 refine St.Jb ?_;intro y hy;rcases List.mem_append.1 hy with hy|hy
 ·simp only[lits,List.mem_cons,List.not_mem_nil,or_false]at hy;rcases hy with rfl|rfl|rfl
  ·exact⟨rfl,hG.trans (by kernel_rfl)⟩
  ·exact⟨rfl,hC.trans (by kernel_rfl)⟩
  ·rw[cj (ids':=[]) hc];exact⟨hw,bD⟩
 ·have:y∈dV W:=by
   rcases List.mem_append.1 (show y∈dV W++[]from hy)with h|h
   ·exact h
   ·cases h
  exact adN W y this
theorem adP (i:Nat):Gl gS [0,2,i]:=by
 intro g j hg;unfold gS at hg;split at hg
 ·obtain rfl:=Option.some.inj hg;exact⟨by simp,rfl⟩
 ·obtain rfl:=Option.some.inj hg;exact⟨by simp,rfl⟩
 ·cases hg
end Go.Proofs.YtlkpikfddnjilaaGreatDoor
namespace Go.Proofs.YtlkpikfddnjilaaGreatDoor
open Go Go.RowKit Go.BigFrame Sx Go.ChangeShapes Go.WideShapes
section
variable{H:Type} {enc:TypeId×Value->H} {P:Program} {w:World} {base:Nat} {spare:Nat->Bool} {held:Bool} {fuel:Nat} {t e:TypeId} {cs:List Value} {ps:List MemPlace}
theorem Jc {l:List Value} {i:Nat} {v:Value} (h:(l.drop i).take 1=[v]):l[i]?=some v:=by
 have h1:((l.drop i).take 1)[0]?=some v:=by rw[h];rfl
 rw[List.getElem?_take]at h1;simpa using h1
theorem X1 {k:IntKind} {zs:List Int} (ht:P.underlying t=some (.array zs.length e)) (he:P.underlying e=some (.int k)) (hc:P.cellsOf e=1) (hn:P.cellsOf t=zs.length)
 (h:DataW.trod enc P w base spare held fuel t cs=some (.agg (zs.map λz=>.lit (.int k z)),ps)):cs=zs.map (Value.int k):=by
 obtain⟨xs,m,rfl,hx,hlen,TH,Ei⟩:=DataW.trod_array ht h;simp only[Prod.mk.injEq,DataW.agg.injEq]at hx;rw[hn]at hlen;apply List.ext_getElem?;intro i;by_cases hi:i<zs.length
 ·have h1:=Ei i hi;rw[hc,Nat.mul_one,List.getElem?_eq_getElem (by omega)]at h1;obtain⟨z,e1,e2,_⟩:=DataW.trod_int he h1;have h3:(zs.map λz=>(DataW.lit (.int k z):DataW H))[i]?=(xs.map (·.1))[i]?:=by rw[hx.1]
  rw[List.getElem?_map,List.getElem?_map,List.getElem?_eq_getElem hi,List.getElem?_eq_getElem (by omega),Option.map_some,Option.map_some,e2]at h3;simp at h3;rw[Jc e1,List.getElem?_map,List.getElem?_eq_getElem hi,Option.map_some,h3]
 ·rw[List.getElem?_eq_none (by omega),List.getElem?_eq_none (by simp;omega)]
theorem Jd {n:String} {g:Nat} {c:Array Value} (hg:P.globalNamed n=some g) (h:w.var? P n=some c):∃t f,w.heap[g]?=some (.cells c t f):=by
 simp only[World.var?,hg,Option.bind_some]at h;split at h
 ·next c' t f h2=>simp at h;subst h;exact⟨t,f,h2⟩
 ·cases h
end
def wZ:List Int:=(List.range 64).map λi=>aT i
def Su:List (String×DataW Unit):=[("sidestick/gate.commands",Rows.laid_sidestick_gate_commands),("sidestick/sha.roots",Rows.laid_sidestick_sha_roots)]
theorem Sv {W:World} (h:laidMetH prog Su W):∃t,W.heap[0]?=some (.cells (ai .u32 64 aT) t (0,0)):=by
 rw[MakeChecks.laidMetH_plain _ _ _ (by kernel_rfl)]at h;obtain⟨ps,⟨g0,t0,cs0,f0,p0,q0,hg0,ht0,MG,hd0,⟨g1,t1,cs1,f1,p1,q1,hg1,ht1,Te,hd1,_,hq⟩,JK⟩,_,fR⟩:=h;obtain rfl:g1=0:=Option.some.inj (hg1.symm.trans (show prog.globalNamed "sidestick/sha.roots" =some 0 by kernel_rfl));have e1:(prog.globals[0]?).map (·.type)=some 244:=by kernel_rfl
 obtain rfl:t1=244:=Option.some.inj (ht1.symm.trans e1);have HC:cs1.toList=wZ.map (Value.int .u32):=by
  have hd2:DataW.trod (λ_=>()) prog W 0 (λ_=>true) false f1 244 cs1.toList=some (.agg (wZ.map λz=>.lit (.int .u32 z)),p1):=
   hd1.trans (congrArg (λd=>some (d,p1)) (show(Rows.laid_sidestick_sha_roots:DataW Unit)=.agg (wZ.map λz=>.lit (.int .u32 z)) by kernel_rfl))
  exact X1 (k:=.u32) (zs:=wZ) (e:=207) (by kernel_rfl) (by kernel_rfl) (by kernel_rfl) (by kernel_rfl) hd2
 obtain⟨t,f,bD⟩:=Jd (show prog.globalNamed "sidestick/sha.roots" =some 0 by kernel_rfl) Te;have hc1:cs1=ai .u32 64 aT:=by
  apply Array.ext';rw[HC];simp[wZ,ai]
 obtain⟨c,t',Zz⟩:=(fR 0 0 (by
  rw[JK,hq,hc1];have:MemPlace.cell 0 0∈MemPlace.row ⟨0,0,none⟩ (ai .u32 64 aT).size:=by
   rw[kF];simp[MemPlace.row]
  simp[this])).1
 rw[bD]at Zz;simp only[Option.some.injEq,Obj.cells.injEq]at Zz;refine⟨t,?_⟩;rw[bD,hc1,Zz.2.2]
end Go.Proofs.YtlkpikfddnjilaaGreatDoor
namespace Sd
open Go Go.RowKit
noncomputable def over (w:World) (B:Nat) (u:World):World:=@ite _ (Below B w u) (Classical.propDecidable _) u w
theorem over_below (w:World) (B:Nat) (u:World):Below B w (over w B u):=by
 unfold over;split
 ·assumption
 ·exact Below.refl _ _
@[go_sem] theorem cell?_over (w:World) (B:Nat) (u:World) (b o:Nat) (h:b<B):(over w B u).cell? ⟨b,o,none⟩=w.cell? ⟨b,o,none⟩:=(over_below w B u).cell h
@[go_sem] theorem frozen?_over (w:World) (B:Nat) (u:World) (b o:Nat) (h:b<B):(over w B u).frozen? ⟨b,o,none⟩=w.frozen? ⟨b,o,none⟩:=(over_below w B u).frozen h
section
variable{P:Program}
end
theorem bt {w a b:World} (h:Below w.heap.size w a) (k:Below a.heap.size a b):Below w.heap.size w b:=h.trans (k.mono h.size)
theorem bs {w a:World} (h:Below w.heap.size w a) {p:Addr} (hp:w.heap.size<=p.block) (v:Value):Below w.heap.size w (a.setCell p v):=h.setCell hp v
def iX (d:TypeDesc):Bool:=match d with|.struct _|.array _ _=>true|_=>false
structure ahO (P:Program) (ty n:Nat):Prop where
 desc:∃d,P.underlying ty=some d/\iX d=true
 size:(P.info? ty).map (·.size)=some n
theorem ahO.load {P:Program} {ty n:Nat} (h:ahO P ty n) {w:World} {g:Nat} {t:TypeId} {cs:Array Value} {fr:Nat×Nat} (hg:w.heap[g]?=some (.cells cs t fr)) (hn:cs.size=n):
 (loadVar ty ⟨g,0,none⟩).run P w=.ok (.agg cs) w:=by
 obtain⟨⟨d,hu,hd⟩,hs⟩:=h;exact run_loadVar_row w g t ty cs fr d hg hu (by cases d<;>first|rfl|simp[iX]at hd) (by rw[hs,hn])
section
variable{P:Program} {ops:Array Oper} {rest:List Oper} {o:Oper} {a:Act} {w:World} {Q:Exit->Act->World->Prop}
end
def I64 (n:Int):Prop:=-9223372036854775808<=n/\n<=9223372036854775807
theorem i64 {n:Int} (h:-9223372036854775808<=n/\n<=9223372036854775807):I64 n:=h
end Sd
namespace Sd
open Go Go.RowKit Go.ChangeShapes Go.WideShapes Go.ChangeAt
theorem oD {H:Type} {enc:TypeId×Value->H} {P:Program} (hl:laidOutB P=true) {W W':World} (hb:Below W.heap.size W W'):
 ∀{ts:List TypeId} {vs:List Value} {ds:List (DataW H)} {ps:List MemPlace},(ts.all λt=>P.readableRec t&&decide (t<P.types.size))=true->
  DataW.TrodAll enc P W 0 (λ_=>true) true ts vs ds ps->(∀p∈ps,p.block<W.heap.size)->DataW.TrodAll enc P W' 0 (λb=>decide (b<W.heap.size)) true ts vs ds ps
 |[],[],[],_,_,h,_=>h
 |t::ts,v::vs,d::ds,ps,hr,h,hp=>by
  obtain⟨p,q,h1,h2,rfl⟩:=h;simp only[List.all_cons,Bool.and_eq_true,decide_eq_true_eq]at hr;exact⟨p,q,Below.trod hl hr.1.1 hr.1.2 h1 hb (λx hx=>hp x (List.mem_append_left _ hx)),oD hl hb hr.2 h2 (λx hx=>hp x (List.mem_append_right _ hx)),rfl⟩
 |[],[],_::_,_,_,h,_=>h.elim
 |[],_::_,_,_,_,h,_=>h.elim
 |_::_,[],_,_,_,h,_=>h.elim
 |_::_,_::_,[],_,_,h,_=>h.elim
theorem Sw {H:Type} {enc:TypeId×Value->H} {P:Program} {f:Func} {s:ChangeSpec} {W W':World} {args:Array Value} {ds gs:List (DataW H)} {before:List MemPlace} {tb:TypeId}
 (hl:laidOutB P=true) (hr:(f.params.toList.all λt=>P.readableRec t&&decide (t<P.types.size))=true) (ZA:s.vars=[]) (QK:f.resultTypes=#[tb]) (htb:P.underlying tb=some .bool)
 (hs:s.fn H (ds++gs)={results:=[.lit (.bool true)],args:=ds,vars:=[]}) (hW:DataW.Whole enc P f.params.toList s.vars false W args.toList ds gs before) (hb:Below W.heap.size W W'):
 s.post enc P f false true false false W args (.bool true) W':=by
 have hW0:=hW;have f_:=λp hp=>hW.lt p hp;obtain⟨p,q,hA,hV,rfl,hz,hn⟩:=hW;rw[ZA]at hV;obtain⟨rfl,rfl⟩:=trodVars_none hV;refine⟨ds,[],p++[],[],p,[],hW0,?_,?_,?_,?_,λh=>by cases h⟩
 ·rw[hs,QK];exact trodAll_mk1 (shut_bool htb _)
 ·rw[hs];exact oD hl hb hr hA (λx hx=>f_ x (by simpa using hx))
 ·rw[hs,ZA];exact rfl
 ·exact hb.frame _
section
variable{P:Program} {w:World} {r:Reach} {b0:Nat} {t:TypeId} {v:Value}
theorem Ha {d:TypeDesc} {ts:List TypeId} (hu:P.underlying t=some d) (hd:iX d=true) (hct:P.cellTypes P.depth t=some ts) (hn:P.cellsOf t=ts.length) (hv:Value.okWide P w r b0 t v):
 ∃cs:Array Value,v=.agg cs/\cs.size=ts.length/\∀(i:Nat) x u,cs[i]?=some x->ts[i]?=some u->Cell.okWide P w r b0 u x:=by
 have h:∃cs,v=.agg cs/\cs.size=P.cellsOf t/\Row.okWide P w r b0 t cs:=by
  unfold Value.okWide at hv;rw[hu]at hv;cases d<;>first|exact hv|simp[iX]at hd
 obtain⟨cs,rfl,iQ,ts',h1,_,h2⟩:=h;rw[hct]at h1;obtain rfl:ts=ts':=by simpa using h1
 refine⟨cs,rfl,iQ.trans hn,?_⟩;intro i x u hx hu';obtain⟨u',h3,h4⟩:=h2 i x hx;have hi:i<ts.length:=by
  rcases Nat.lt_or_ge i ts.length with h|h
  ·exact h
  ·simp[h]at hu'
 rw[Nat.mod_eq_of_lt hi,hu']at h3;obtain rfl:u=u':=by simpa using h3
 exact h4
theorem D7 {d:TypeDesc} (hu:P.underlying t=some d) (hd:iX d=false) (hv:Value.okWide P w r b0 t v):Cell.okWide P w r b0 t v:=by
 unfold Value.okWide at hv;rw[hu]at hv;cases d<;>first|exact hv|simp[iX]at hd
theorem Sz {k:IntKind} (hu:P.underlying t=some (.int k)) (h:Cell.okWide P w r b0 t v):∃n,v=.int k n/\k.min<=n/\n<=k.max:=by
 unfold Cell.okWide at h;rw[hu]at h;unfold Cell.ok at h;rw[hu]at h;cases v<;>simp at h;obtain⟨rfl,h1,h2⟩:=h;exact⟨_,rfl,h1,h2⟩
theorem SA (hu:P.underlying t=some (.int .i64)) (h:Cell.okWide P w r b0 t v):∃n,v=.int .i64 n/\I64 n:=by
 obtain⟨n,h1,h2,h3⟩:=Sz hu h;exact⟨n,h1,by unfold I64;simpa[IntKind.min,IntKind.max,IntKind.signed,IntKind.bits]using And.intro h2 h3⟩
end
end Sd
