/- Part 4 of the proof. -/
import Derived.Test.YtggfpcggakghnaaGreatDoorProg
import Derived.Test.YtggfpcggakghnaaGreatDoorS3
set_option linter.all false
set_option maxRecDepth 100000
set_option maxHeartbeats 4000000
open Go.Proofs.Tryz
open Go.IntKind (u8 u16 u32 u64 i64)
namespace Vx
open Go Go.RowKit Go.BigFrame Sx
theorem AF {P:Program} {w:World} {z T m:Nat} {x:Option Addr} {news:List Value} {t tx ty:TypeId} {xv:Value} (bytes:Nat) (hs:Src P z tx xv m news w) (Ah:0<m) (ht:P.underlying t=some (.slice T))
 (hi:(P.info? T).map (λi=>(i.zero.map (·.cells.size),i.size,i.bytes))=some (some z,z,bytes)) (hb:m*bytes<=140737488355328) (h63:m<=maxLen):
 ∃b' c' uk w',(Builtin.append_ #[t,tx] ty #[.slice x 0 0,xv]).run P w=.ok (.slice (some ⟨b',0,none⟩) m c') w'/\Ch [] w w'/\w.heap.size<=b'/\w'.heap[b']?=some (.cells (news++uk).toArray T (0,0))/\(news++uk).length=c'*z/\m<=c':=by
 obtain⟨i,aF,hi⟩:=Option.map_eq_some_iff.1 hi;simp only[Prod.mk.injEq]at hi;obtain⟨hz,iM,sP⟩:=hi;obtain⟨z0,Cv,FI⟩:=Option.map_eq_some_iff.1 hz;have Lw:=hs.newsLen;have uZ:Src P i.size tx xv m news w:=by rw[iM];exact hs
 have hold:(Builtin.firstCells i.size 0 (.slice x 0 0)).run P w.drew=.ok ([]:List Value).toArray w.drew:=by
  cases x with
  |none=>exact run_firstCells_none (P:=P) w.drew i.size 0 0 0
  |some a=>exact run_firstCells_some (P:=P) w.drew i.size 0 a 0 0 [] (by simp) (λj v hj=>by simp at hj)
 have aY:=run_append_grow_src (P:=P) w t tx ty T i z0 ht aF Cv x 0 0 [] hold xv m news uZ (by omega) (by simp only[maxLen]at h63;omega) (by rw[sP];exact growslice_fits (by omega) (by rw[Nat.zero_add];exact hb));simp only[Nat.zero_add]at aY;have jI:=grownCap_ge w m 0 T;refine⟨w.heap.size,grownCap w m 0 T,(Builtin.zeroCells z0.cells (grownCap w m 0 T-m)).toList,_,aY,?_,Nat.le_refl _,?_,?_,jI⟩
 ·exact((Ch.refl [] w).drew).trans (Ch.alloc [] w.drew _) (λx hx=>.inl hx)
 ·have:=heap_alloc_new w.drew (.cells ((([]:List Value)++news).toArray++Builtin.zeroCells z0.cells (grownCap w m 0 T-m)) T);refine Eq.trans this ?_;congr 2;apply Array.ext';simp
 ·rw[List.length_append,Lw,Array.length_toList,size_zeroCells,FI,<-Nat.add_mul];congr 1;omega
variable{G:Type} [Bl G]
def acB (P:Program):(Operand->V)->Op->List VB->List G->VK G->Prop:=λe op bl ch K=>match op with
 |.call c=>(match c.callee,c.args.toList,c.argTypes.toList with
  |.builtin .append,[s,xs],[t,tx]=>(match P.underlying t,P.underlying tx with
   |some (.slice T),some (.slice _)=>(match gZ P T,e s,e xs with
    |some (z,cX),.sl _ _ 0 0,.sl i 0 (m+1) _=>(match bl[i]?with
     |some b=>(match CN b.c 0 ((m+1)*z)with
      |some C=>cond (mY C&&(Nat.ble cX 10000000&&(Nat.ble (m+1) 1000000&&(cH bl.length C&&dk bl.length bl))))
       (∀(c':Nat) (u:List Value),m+1<=c'->eL (C++[.rest u])=c'*z->K (.sl bl.length 0 (m+1) c') (bl++[⟨true,T,C++[.rest u]⟩]) ch) False
      |none=>False)
     |none=>False)
    |_,_,_=>False)
   |_,_=>False)
  |_,_,_=>False)
 |_=>False
theorem Xa {P:Program} {gl:Nat->Option Nat}:oA (G:=G) P gl (acB P):=by
 intro e op ids bl ch R ms w0 w K ρ o hg hl S cx ho h;unfold acB at h;split at h
 ·rename_i c;split at h
  ·rename_i s xs t tx eU a9 ju;split at h
   ·rename_i T T' ht o9;split at h
    ·rename_i z cX j0 o0 i m Fw aF qc ow;split at h
     ·rename_i b hb;split at h
      ·rename_i C hC;cases hq:mY C&&(Nat.ble cX 10000000&&(Nat.ble (m+1) 1000000&&(cH bl.length C&&dk bl.length bl)))with
       |false=>rw[hq]at h;exact h.elim
       |true=>
        rw[hq]at h;simp only[cond_true]at h;simp only[Bool.and_eq_true]at hq;obtain⟨q4,q5,q6,q9,q10⟩:=hq;have q5:=Nat.le_of_ble_eq_true q5;have q6:=Nat.le_of_ble_eq_true q6;have ba:=(cA hl S hb).2;obtain⟨g1,g2,g3⟩:=km (ids:=ids) hC;rw[List.drop_zero]at g1;have qJ:(ab ids C).length=(m+1)*z:=by rw[<-g1,List.length_take];omega
        have fZ:Src P z tx (.slice (some ⟨ids.getD i 0,0,none⟩) (m+1) Fw) (m+1) (ab ids C) w:=by
         refine Src.ofSlice w o9 ⟨ids.getD i 0,0,none⟩ (m+1) Fw _ qJ (λj u hj=>?_) (λu hu=>lJ q4 u hu);rw[Addr.add_lit,cell_of ba];rw[<-g1]at hj;have Of:j<(m+1)*z:=by
          rcases Nat.lt_or_ge j ((m+1)*z)with h|h
          ·exact h
          ·rw[List.getElem?_eq_none (by rw[List.length_take];omega)]at hj;cases hj
         rw[List.getElem?_take_of_lt Of]at hj;simpa using hj
        have AD:(m+1)*cX<=140737488355328:=Nat.le_trans (Nat.mul_le_mul q6 q5) (by decide);obtain⟨FZ,ar,td⟩:=c;simp only at eU a9 ju;have e2:ar=#[s,xs]:=by rw[<-a9]
        have e3:td=#[t,tx]:=by rw[<-ju]
        subst eU e2 e3;obtain⟨b',c',tail,w',aY,hc,jI,hh,hlen,r2⟩:=AF (P:=P) (ty:=o.type) (x:=some ⟨ids.getD j0 0,o0,none⟩) cX fZ (by omega) ht (jR aF) AD (Nat.le_trans q6 (by decide));have dd:∀(is:List Nat) (u:List Value),ab is (C++[.rest u])=ab is C++u:=λis u=>by
         rw[bo];simp[ab,cl]
        have PW:cH ids.length (C++[.rest tail])=true:=by
         rw[hl];have Mh:∀(x y:List V),cH bl.length x=true->cH bl.length y=true->cH bl.length (x++y)=true:=by
          intro x y;induction x with
          |nil=>intro _ h;simpa using h
          |cons v x ih=>intro h1 h2;simp only[List.cons_append,cH,Bool.and_eq_true]at h1⊢;exact⟨h1.1,ih h1.2 h2⟩
         exact Mh _ _ q9 rfl
        refine⟨_,[b'],_,ch,w',.inl ?_,by simp[hl],?_,h c' tail r2 ?_⟩
        ·have:=bP (P:=P) (ρ:=ρ) (o:=o) ho (sv:=.slice (some ⟨ids.getD j0 0,o0,none⟩) 0 0) (xv:=.slice (some ⟨ids.getD i 0,0,none⟩) (m+1) Fw) (by rw[cx,qc];simp only[den]) (by rw[cx,ow];simp only[den]) aY;rw[this];simp only[den];rw[<-hl,cy]
        ·rw[aI _ _ _ _ hl,aJ _ _ (by rw[hl];exact q10)];simp only[lits,aE];rw[bU _ PW,dd];have:=S.new hc jI hh;refine this.perm ?_;rw[List.append_assoc (lits ids ids bl)];exact(List.perm_middle).symm
        ·rw[<-cL (ids:=ids),dd,hlen]
      ·exact h.elim
     ·exact h.elim
    ·exact h.elim
   ·exact h.elim
  ·exact h.elim
 ·exact h.elim
def acC (P:Program):(Operand->V)->Op->List VB->List G->VK G->Prop:=λe op bl ch K=>match op with
 |.call c=>(match c.callee,c.args.toList,c.argTypes.toList with
  |.builtin .append,[s,xs],[t,tx]=>(match P.underlying t,P.underlying tx with
   |some (.slice T),some (.slice _)=>(match P.info? T,e s,e xs with
    |some _,.sl j o n c,.sl _ _ 0 _=>cond (Nat.ble n c) (K (.sl j o n c) bl ch) False
    |some _,.raw (.slice none 0 0),.raw (.slice none 0 0)=>K (.raw (.slice none 0 0)) bl ch
    |_,_,_=>False)
   |_,_=>False)
  |_,_,_=>False)
 |.typeAssert x _ t true=>(match e x,P.underlying t with
  |.CM t' v,some (.struct _)=>cond (Nat.beq t' t) (K (.az [v,.bool true]) bl ch) False
  |_,_=>False)
 |_=>False
theorem Xb {P:Program} {gl:Nat->Option Nat}:oA (G:=G) P gl (acC P):=by
 intro e op ids bl ch R ms w0 w K ρ o hg hl S cx ho h;unfold acC at h;split at h
 ·rename_i c;split at h
  ·rename_i s xs t tx eU a9 ju;split at h
   ·rename_i T T' ht o9;obtain⟨FZ,ar,td⟩:=c;simp only at eU a9 ju;have e2:ar=#[s,xs]:=by rw[<-a9]
    have e3:td=#[t,tx]:=by rw[<-ju]
    subst eU e2 e3;split at h
    ·rename_i inf j o0 n c i o1 c1 aF qc ow;cases hq:Nat.ble n c with
     |false=>rw[hq]at h;exact h.elim
     |true=>
      rw[hq]at h;have aY:=run_append_nothing (P:=P) w t tx o.type T inf ht aF (some ⟨ids.getD j 0,o0,none⟩) n c (Nat.le_of_ble_eq_true hq) (.slice (some ⟨ids.getD i 0,o1,none⟩) 0 c1) (Src.ofSlice w o9 _ 0 c1 [] (by simp) (λj u hj=>by simp at hj) (λu hu=>by simp at hu));refine⟨_,[],bl,ch,w,.inl ?_,by simpa using hl,by simpa using S,h⟩;have:=bP (P:=P) (ρ:=ρ) (o:=o) ho (by rw[cx,qc];simp only[den]) (by rw[cx,ow];simp only[den]) aY;rw[this];simp only[den,List.append_nil]
    ·rename_i inf aF qc ow;have aY:=run_append_nothing (P:=P) w t tx o.type T inf ht aF none 0 0 (Nat.le_refl _) (.slice none 0 0) (Src.ofNil w o9 0);refine⟨_,[],bl,ch,w,.inl ?_,by simpa using hl,by simpa using S,h⟩;have:=bP (P:=P) (ρ:=ρ) (o:=o) ho (by rw[cx,qc];simp only[den]) (by rw[cx,ow];simp only[den]) aY;rw[this];simp only[den]
    ·exact h.elim
   ·exact h.elim
  ·exact h.elim
 ·rename_i x xt t;split at h
  ·rename_i t' v fs hx hu;cases hq:Nat.beq t' t with
   |false=>rw[hq]at h;exact h.elim
   |true=>
    rw[hq]at h;obtain rfl:=Nat.eq_of_beq_eq_true hq;refine⟨_,[],bl,ch,w,.inl ?_,by simpa using hl,by simpa using S,h⟩;unfold execOp;simp only[ho,cx,hx,den,ao,Instr.typeAssert,Sem.run_bind,run_underlying hu,Result.andThen_ok,if_true,Sem.run_pure,List.append_nil];try rfl
  ·exact h.elim
 ·exact h.elim
def isO (e:Operand->V) (op:Op):Bool:=match op with
 |.call c=>(match c.args.toList with
  |[_,x]=>(match e x with|.sl _ _ 0 _=>true|.raw (.slice none 0 0)=>true|_=>false)
  |_=>false)
 |.typeAssert .. =>true
 |_=>false
def isE (e:Operand->V) (op:Op):Bool:=match op with
 |.call c=>(match c.args.toList with
  |s::_=>(match e s with|.sl _ _ 0 0=>true|_=>false)
  |_=>false)
 |_=>false
def P1 (P:Program):(Operand->V)->Op->List VB->List G->VK G->Prop:=λe op bl ch K=>cond (isO e op) (acC P e op bl ch K) (cond (isE e op) (acB P e op bl ch K) (Dh P e op bl ch K))
theorem vg {P:Program} {gl:Nat->Option Nat}:oA (G:=G) P gl (P1 P):=lO isO Xb (lO isE Xa lQ)
end Vx
namespace Go.Proofs.YtggfpcggakghnaaGreatDoor
open Go Go.RowKit Go.BigFrame Sx Vx
def Tn:List Nat->List V->Nat->Option V
 |i::is,v::vs,t=>bif Nat.beq i t then some v else Tn is vs t
 |_,_,_=>none
def Xc (ix:List Nat) (vs:List V):Nat->Nat->List (Option V)
 |0,_=>[]
 |n+1,i=>Tn ix vs i::Xc ix vs n (i+1)
def Di:List Nat->List V->List V
 |[],_=>[]
 |i::is,fr=>nth fr i::Di is fr
theorem wy {n:Nat} {fr:List V}:∀(ix:List Nat) (vs:List V),Di ix fr=vs->cH n vs=true->∀t v,Tn ix vs t=some v->nth fr t=v/\fK n v=true
 |[],vs,_,_,t,v,h=>by cases vs<;>cases h
 |i::is,[],h,_,t,v,_=>by cases h
 |i::is,u::vs,h,hw,t,v,hl=>by
  simp only[Di,List.cons.injEq]at h;simp only[cH,Bool.and_eq_true]at hw;unfold Tn at hl;cases hb:Nat.beq i t with
  |true=>
   rw[hb]at hl;cases hl;obtain rfl:=Nat.eq_of_beq_eq_true hb;exact⟨h.1,hw.1⟩
  |false=>
   rw[hb]at hl;exact wy is vs h.2 hw.2 t v hl
theorem AG {n:Nat} {jv:List V} {ix:List Nat} {vs:List V} (h:∀t v,Tn ix vs t=some v->nth jv t=v/\fK n v=true):∀(N i:Nat) (fr:List V),fr.length=N->(∀k,nth jv (i+k)=nth fr k)->SG n (Xc ix vs N i) fr
 |0,_,[],_,_=>trivial
 |0,_,_::_,hl,_=>by simp at hl
 |N+1,i,[],hl,_=>by simp at hl
 |N+1,i,v::fr,hl,hn=>by
  unfold Xc;have ih:=AG h N (i+1) fr (by simpa using hl) (λk=>by have:=hn (k+1);simp only[nth]at this;rw[<-this];congr 1;omega);have h0:=hn 0;simp only[nth,Nat.add_zero]at h0;cases hk:Tn ix vs i with
  |none=>exact ih
  |some u=>
   obtain⟨h1,h2⟩:=h i u hk;exact⟨h0.symm.trans h1,h2,ih⟩
section
variable{G:Type} {X:Type}
def P2 (dA:X->List V) (bl:X->List VB) (ch:X->List G) (vs:List V) (b:List VB) (c:List G):Prop:=∃x,vs=dA x/\b=bl x/\c=ch x
def enD (m:X->Nat) (dA:X->List V) (bl:X->List VB) (ch:X->List G) (x:X) (vs:List V) (b:List VB) (c:List G):Prop:=∃y,m y<m x/\vs=dA y/\b=bl y/\c=ch y
def Xd (m:X->Nat) (N n0:Nat) (ix:List Nat) (dA:X->List V) (bl:X->List VB) (ch:X->List G) (h1:∀x,(bl x).length=n0) (h2:∀x,dk n0 (bl x)=true) (h3:∀x,cH n0 (dA x)=true):Lp G where
 X:=X
 m:=m
 fr x:=Xc ix (dA x) N 0
 bl:=bl
 ch:=ch
 en0 fr b c:=Nat.beq fr.length N=true/\P2 dA bl ch (Di ix fr) b c
 en x fr b c:=Nat.beq fr.length N=true/\enD m dA bl ch x (Di ix fr) (b.take n0) c
 ok0:=by
  rintro fr b c ⟨hl,x,hv,rfl,rfl⟩;refine⟨x,?_,rfl,rfl⟩;rw[h1];exact AG (wy ix _ hv (h3 x)) N 0 fr (Nat.eq_of_beq_eq_true hl) (λk=>by rw[Nat.zero_add])
 ok:=by
  rintro x fr b c ⟨hl,y,hm,hv,hb,rfl⟩;refine⟨y,hm,?_,by rw[h1,h1],by rw[h1];exact h2 y,⟨b.drop n0,?_⟩,rfl⟩
  ·rw[h1];exact AG (wy ix _ hv (h3 y)) N 0 fr (Nat.eq_of_beq_eq_true hl) (λk=>by rw[Nat.zero_add])
  ·rw[<-hb,List.take_append_drop]
end
def VR {G:Type} [Bl G] (P:Program) (gl:Nat->Option Nat) (L:List (dI G)) (lp:Nat->Option (Lp G)):Ctx G:=⟨P,OK L,gl,VQ L,noH,FU,λi _=>lp i⟩
theorem ai.TL {G:Type} [Bl G] {P:Program} {gl:Nat->Option Nat} {L:List (dI G)} {lp:Nat->Option (Lp G)} (h:ai P gl L):∀f c,(VR P gl L lp).T f=some c->Sound (VR P gl L lp).P (VR P gl L lp).gl f c:=h.T
theorem ai.QL {G:Type} [Bl G] {P:Program} {gl:Nat->Option Nat} {L:List (dI G)} {lp:Nat->Option (Lp G)} (h:ai P gl L):iz (VR P gl L lp):=h.Q
def gv:Nat->Option Nat:=λ_=>none
def lp1 {G:Type} (i:Nat) (I:Lp G):Nat->Option (Lp G):=λj=>bif Nat.beq j i then some I else none
def aX (k:Nat):Int:=([1116352408,1899447441,3049323471,3921009573,961987163,1508970993,2453635748,2870763221,3624381080,310598401,607225278,1426881987,1925078388,2162078206,2614888103,3248222580,3835390401,4022224774,264347078,604807628,770255983,1249150122,1555081692,1996064986,2554220882,2821834349,2952996808,3210313671,3336571891,3584528711,113926993,338241895,666307205,773529912,1294757372,1396182291,1695183700,1986661051,2177026350,2456956037,2730485921,2820302411,3259730800,3345764771,3516065817,3600352804,4094571909,275423344,430227734,506948616,659060556,883997877,958139571,1322822218,1537002063,1747873779,1955562222,2024104815,2227730452,2361852424,2428436474,2756734187,3204031479,3329325298]:List Int).getD k 0
def qN (n:Nat) (x:Int):Int:=bits .or .u32 (u32.wrap (x*2^(32-n))) (Int.fdiv x (2^n))
def Dj:QF:=⟨202,λargs _=>match args with
 |[.int .u32 a,.int .i64 (.ofNat n)]=>(match n with
  |2|6|7|11|13|17|18|19|22|25=>some (True,.int .u32 (qN n a))
  |_=>none)
 |_=>none⟩
theorem vq0 {f:Nat} {xs:List V} {v:V} {n:Nat} (h:∀K,jQ prog [] n f xs K=K v) (ha:cH 0 xs=true) (hv:fK 0 v=true) {ids:List Nat} {w:World}:aj prog f (ao ids xs).toArray w λx w'=>x=den ids v/\Ch [] w w':=
 ta aZ.nil n (by rw[h]) ha hv ids w
theorem Jl (gl:Nat->Option Nat):Dj.Ok prog gl:=by
 intro args bl p_ v_ h hp ids w _ _;unfold Dj at h;dsimp only at h;split at h
 ·rename_i a n;split at h<;>first|cases h;done|(simp only[Option.some.injEq,Prod.mk.injEq]at h;obtain⟨rfl,rfl⟩:=h;exact vq0 (n:=30) (λK=>by kernel_rfl) rfl rfl)
 ·cases h
def w1E (f:Nat->Int) (i:Int):Int:=bits .or .u32 (bits .or .u32 (bits .or .u32 (u32.wrap (u32.wrap (f (0+(i64.wrap (4*i)).toNat))*2^24)) (u32.wrap (u32.wrap (f (0+(i64.wrap (i64.wrap (4*i)+1)).toNat))*2^16)))
 (u32.wrap (u32.wrap (f (0+(i64.wrap (i64.wrap (4*i)+2)).toNat))*2^8))) (u32.wrap (f (0+(i64.wrap (i64.wrap (4*i)+3)).toNat)))
def HE (f:Nat->Int):Nat->Nat->Int
 |0=>λ_=>0
 |k+1=>o_ (HE f k) (0+((k:Nat):Int).toNat) (w1E f (k:Nat))
def w2E (V:Nat->Int) (k:Int):Int:=
 let at_:=λd:Int=>V (0+(i64.wrap (k-d)).toNat)
 u32.wrap (u32.wrap (u32.wrap (at_ 16+at_ 7)+bits .xor .u32 (bits .xor .u32 (qN 7 (at_ 15)) (qN 18 (at_ 15))) (Int.fdiv (at_ 15) (2^3)))+bits .xor .u32 (bits .xor .u32 (qN 17 (at_ 2)) (qN 19 (at_ 2))) (Int.fdiv (at_ 2) (2^10)))
def Dk (f:Nat->Int):Nat->Nat->Int
 |0=>HE f 16
 |k+1=>o_ (Dk f k) (0+((16+k:Nat):Int).toNat) (w2E (Dk f k) ((16+k:Nat):Int))
def l8 (a b c d e f g h:Int):Nat->Int:=λj=>([a,b,c,d,e,f,g,h]:List Int).getD j 0
def rE (N W:Nat->Int) (k:Int):Nat->Int:=(l8 (u32.wrap ((u32.wrap ((u32.wrap ((u32.wrap ((u32.wrap ((N 7)+(bits .xor .u32 (bits .xor .u32 (qN 6 (N 4)) (qN 11 (N 4))) (qN 25 (N 4)))))+(bits .or .u32 (bits .and .u32 (N 4) (N 5)) (bits .and .u32 (bits .xor .u32 4294967295 (N 4)) (N 6)))))+(aX (0+(k).toNat))))+(W (0+(k).toNat))))+(u32.wrap ((bits .xor .u32 (bits .xor .u32 (qN 2 (N 0)) (qN 13 (N 0))) (qN 22 (N 0)))+(bits .or .u32 (bits .or .u32 (bits .and .u32 (N 0) (N 1)) (bits .and .u32 (N 0) (N 2))) (bits .and .u32 (N 1) (N 2))))))) (N 0) (N 1) (N 2) (u32.wrap ((N 3)+(u32.wrap ((u32.wrap ((u32.wrap ((u32.wrap ((N 7)+(bits .xor .u32 (bits .xor .u32 (qN 6 (N 4)) (qN 11 (N 4))) (qN 25 (N 4)))))+(bits .or .u32 (bits .and .u32 (N 4) (N 5)) (bits .and .u32 (bits .xor .u32 4294967295 (N 4)) (N 6)))))+(aX (0+(k).toNat))))+(W (0+(k).toNat)))))) (N 4) (N 5) (N 6))
def Gf (h W:Nat->Int):Nat->Nat->Int
 |0=>h
 |n+1=>rE (Gf h W n) W (n:Int)
def kE (h f:Nat->Int):Nat->Int:=λj=>u32.wrap (Gf h (Dk f 48) 64 j+h j)
def Gg (m:Int) (n:Nat) (X:Prop):Prop:=(0<=m/\m<(n:Int))/\0+m.toNat<n/\X
theorem g9 {m:Int} {n:Nat} {X:Prop} (h:0<=m/\m<(n:Int)) (k:X):Gg m n X:=⟨h,by omega,k⟩
theorem kF {x:Int} (h:-9223372036854775808<=x/\x<=9223372036854775807):i64.wrap x=x:=by simp[IntKind.wrap,IntKind.bits,IntKind.signed];omega
section
variable(f:Nat->Int) (K:VK Empty)
def wB (W:Nat->Int):List VB:=[⟨true,⟨205,(0,0)⟩,[.arr .u8 64 f]⟩,⟨true,⟨287,(0,0)⟩,[.arr .u32 64 λ_=>0]⟩,⟨true,⟨287,(0,0)⟩,[.arr .u32 64 W]⟩]
def w3 (i:Int):List V:=[.ptr 0 0,.ptr 1 0,.ptr 2 0,.int .i64 i]
def w1L:Lp Empty:=Xd (X:={i:Nat //i<=16}) (λi=>16-i.1) 89 3 [1,2,3,10] (λi=>w3 (i.1:Int)) (λi=>wB f (HE f i.1)) (λ_=>[]) (λ_=>rfl) (λ_=>rfl) (λ_=>rfl)
def w2L:Lp Empty:=Xd (X:={i:Nat //i<=48}) (λi=>48-i.1) 89 3 [1,2,3,5] (λi=>w3 ((16+i.1:Nat):Int)) (λi=>wB f (Dk f i.1)) (λ_=>[]) (λ_=>rfl) (λ_=>rfl) (λ_=>rfl)
def wLp:Nat->Option (Lp Empty):=λj=>match j with|0=>some (w1L f)|2=>some (w2L f)|_=>none
def wX:Prop:=
 (true=true/\P2 (λi:{i:Nat //i<=16}=>w3 (i.1:Int)) (λi=>wB f (HE f i.1)) (λ_=>[]) (w3 0) (wB f λ_=>0) ([]:List Empty))/\∀(x:{i:Nat //i<=16}) (g:Nat->Value),cond (decide ((x.1:Int)<16))
  (Gg (i64.wrap (4*(x.1:Int))) 64<|Gg (i64.wrap (i64.wrap (4*(x.1:Int))+1)) 64<|Gg (i64.wrap (i64.wrap (4*(x.1:Int))+2)) 64<|Gg (i64.wrap (i64.wrap (4*(x.1:Int))+3)) 64<|Gg (x.1:Int) 64
   (true=true/\enD (λi:{i:Nat //i<=16}=>16-i.1) (λi=>w3 (i.1:Int)) (λi=>wB f (HE f i.1)) (λ_=>[]) x (w3 (i64.wrap ((x.1:Int)+1))) (wB f (HE f (x.1+1))) ([]:List Empty)))
  ((true=true/\P2 (λi:{i:Nat //i<=48}=>w3 ((16+i.1:Nat):Int)) (λi=>wB f (Dk f i.1)) (λ_=>[]) (w3 16) (wB f (HE f x.1)) ([]:List Empty))/\∀(y:{i:Nat //i<=48}) (g:Nat->Value),cond (decide (((16+y.1:Nat):Int)<64))
    (Gg (i64.wrap (((16+y.1:Nat):Int)-15)) 64<|Gg (i64.wrap (((16+y.1:Nat):Int)-2)) 64<|True/\True/\True/\True/\(Gg (i64.wrap (((16+y.1:Nat):Int)-16)) 64<|Gg (i64.wrap (((16+y.1:Nat):Int)-7)) 64<|Gg ((16+y.1:Nat):Int) 64
     (true=true/\enD (λi:{i:Nat //i<=48}=>48-i.1) (λi=>w3 ((16+i.1:Nat):Int)) (λi=>wB f (Dk f i.1)) (λ_=>[]) y (w3 (i64.wrap (((16+y.1:Nat):Int)+1))) (wB f (Dk f (y.1+1))) ([]:List Empty))))
    (K (.agg [.arr .u32 64 (Dk f y.1)]) [] []))
theorem P3:cJ (VR prog gv (qL Empty [Dj]) (wLp f)) 60 201 [.agg [.arr .u8 64 f]] [] [] (cP 0 K)=wX f K:=by kernel_rfl
end
theorem Mj (f:Nat->Int):wX f λv _ _=>v=.agg [.arr .u32 64 (Dk f 48)]:=by
 refine⟨⟨rfl,⟨0,by omega⟩,rfl,rfl,rfl⟩,λx g=>aU (λh=>?_) λh=>?_⟩
 ·have hx:(x.1:Int)<16:=of_decide_eq_true h;have e:=kF (x:=4*(x.1:Int)) (by omega);have e1:=kF (x:=4*(x.1:Int)+1) (by omega);have e2:=kF (x:=4*(x.1:Int)+2) (by omega);have e3:=kF (x:=4*(x.1:Int)+3) (by omega);rw[e,e1,e2,e3];refine g9 (by omega) (g9 (by omega) (g9 (by omega) (g9 (by omega) (g9 (by omega) ⟨rfl,⟨x.1+1,by omega⟩,by show 16-(x.1+1)<16-x.1;omega,?_,rfl,rfl⟩))));rw[kF (by omega)];rfl
 ·have hx:x.1=16:=by have:=of_decide_eq_false h;have:=x.2;omega
  rw[hx];refine⟨⟨rfl,⟨0,by omega⟩,rfl,rfl,rfl⟩,λy g=>aU (λh=>?_) λh=>?_⟩
  ·have hy:((16+y.1:Nat):Int)<64:=of_decide_eq_true h;rw[kF (x:=((16+y.1:Nat):Int)-15) (by omega),kF (x:=((16+y.1:Nat):Int)-2) (by omega),kF (x:=((16+y.1:Nat):Int)-16) (by omega),kF (x:=((16+y.1:Nat):Int)-7) (by omega)];refine g9 (by omega) (g9 (by omega) ⟨trivial,trivial,trivial,trivial,g9 (by omega) (g9 (by omega) (g9 (by omega) ⟨rfl,⟨y.1+1,by omega⟩,by show 48-(y.1+1)<48-y.1;omega,?_,rfl,rfl⟩))⟩);rw[kF (by omega)];rfl
  ·have hy:y.1=48:=by have:=of_decide_eq_false h;have:=y.2;omega
   rw[hy]
def Dl:QF:=⟨201,λargs _=>match args with
 |[.agg [.arr .u8 64 f]]=>some (True,.agg [.arr .u32 64 (Dk f 48)])
 |_=>none⟩
theorem P4 (gl:Nat->Option Nat):Dl.Ok prog gl:=by
 intro args bl p_ v_ h hp ids w _ _;unfold Dl at h;dsimp only at h;split at h
 ·rename_i f;simp only[Option.some.injEq,Prod.mk.injEq]at h;obtain⟨rfl,rfl⟩:=h;have hv:cJ (VR prog gv (qL Empty [Dj]) (wLp f)) 60 201 [.agg [.arr .u8 64 f]] [] [] (cP 0 λv _ _=>v=.agg [.arr .u32 64 (Dk f 48)]):=by rw[P3];exact Mj f
  have di:=f_ (G:=Empty) (P:=prog) (gl:=gv) (aZ.cons (Jl _) aZ.nil);refine(bw (C:=VR prog gv (qL Empty [Dj]) (wLp f)) (_root_.Go.Proofs.YtggfpcggakghnaaGreatDoor.ai.TL di) (_root_.Go.Proofs.YtggfpcggakghnaaGreatDoor.ai.QL di) 60 (ids:=[]) (bl:=[]) (ch:=[]) (R:=[]) (ms:=[]) (w0:=w) (w:=w) (λg i h=>nomatch h) rfl (St.nil [] w) hv).mono ?_;rintro x w' ⟨y,more,bl',ch',rfl,h1,S',hK⟩;obtain⟨v2,aP,bl2,e,_,_,rfl⟩:=c9 (n0:=0) h1 (by simp) S' hK;exact⟨e.trans rfl,S'.ch⟩
 ·cases h
section
variable(t:Nat) (h f:Nat->Int) (K:VK Empty)
def i8 (h:Nat->Int):List V:=[.int .u32 (h 0),.int .u32 (h 1),.int .u32 (h 2),.int .u32 (h 3),.int .u32 (h 4),.int .u32 (h 5),.int .u32 (h 6),.int .u32 (h 7)]
def kX:VB:=⟨false,⟨t,(0,0)⟩,[.arr .u32 64 aX]⟩
def bB (N:Nat->Int):List VB:=[kX t,⟨true,⟨253,(0,0)⟩,i8 h⟩,⟨true,⟨205,(0,0)⟩,[.arr .u8 64 f]⟩,⟨true,⟨253,(0,0)⟩,i8 λ_=>0⟩,⟨true,⟨287,(0,0)⟩,[.arr .u32 64 (Dk f 48)]⟩,⟨true,⟨253,(0,0)⟩,i8 N⟩]
def b6 (i:Int):List V:=[.ptr 1 0,.ptr 2 0,.ptr 3 0,.ptr 4 0,.ptr 5 0,.int .i64 i]
def bL:Lp Empty:=Xd (X:={i:Nat //i<=64}) (λi=>64-i.1) 113 6 [2,3,4,5,6,17] (λi=>b6 (i.1:Int)) (λi=>bB t h f (Gf h (Dk f 48) i.1)) (λ_=>[]) (λ_=>rfl) (λ_=>rfl) (λ_=>rfl)
def Gi:Nat->Option Nat:=λg=>bif Nat.beq g 1 then some 0 else none
def bX:Prop:=True/\(true=true/\P2 (λi:{i:Nat //i<=64}=>b6 (i.1:Int)) (λi=>bB t h f (Gf h (Dk f 48) i.1)) (λ_=>[]) (b6 0) (bB t h f h) ([]:List Empty))/\∀(x:{i:Nat //i<=64}) (g:Nat->Value),cond (decide ((x.1:Int)<64))
 (Gg (x.1:Int) 64<|Gg (x.1:Int) 64<|True/\True/\True/\True/\True/\True/\
  (true=true/\enD (λi:{i:Nat //i<=64}=>64-i.1) (λi=>b6 (i.1:Int)) (λi=>bB t h f (Gf h (Dk f 48) i.1)) (λ_=>[]) x (b6 (i64.wrap ((x.1:Int)+1))) (bB t h f (Gf h (Dk f 48) (x.1+1))) ([]:List Empty)))
 (K (.agg (i8 λj=>u32.wrap (Gf h (Dk f 48) x.1 j+h j))) [kX t] [])
theorem P5:cJ (VR prog Gi (qL Empty [Dj,Dl]) (lp1 0 (bL t h f))) 60 163 [.agg (i8 h),.agg [.arr .u8 64 f]] [kX t] [] (cP 1 K)=bX t h f K:=by kernel_rfl
end
theorem Mk (t:Nat) (h f:Nat->Int):bX t h f λv _ _=>v=.agg (i8 (kE h f)):=by
 refine⟨trivial,⟨rfl,⟨0,by omega⟩,rfl,rfl,rfl⟩,λx g=>aU (λhh=>?_) λhh=>?_⟩
 ·have hx:(x.1:Int)<64:=of_decide_eq_true hh;refine g9 (by omega) (g9 (by omega) ⟨trivial,trivial,trivial,trivial,trivial,trivial,rfl,⟨x.1+1,by omega⟩,by show 64-(x.1+1)<64-x.1;omega,?_,rfl,rfl⟩);rw[kF (by omega)];rfl
 ·have hx:x.1=64:=by have:=of_decide_eq_false hh;have:=x.2;omega
  rw[hx];rfl
theorem Ml (t:Nat) (h f:Nat->Int) {ids:List Nat} {w:World} (hG:w.heap[1]?=some (.cells (ak .u32 64 aX) t (0,0))):aj prog 163 (ao ids [.agg (i8 h),.agg [.arr .u8 64 f]]).toArray w λx w'=>x=den ids (.agg (i8 (kE h f)))/\Ch [] w w':=by
 have hv:cJ (VR prog Gi (qL Empty [Dj,Dl]) (lp1 0 (bL t h f))) 60 163 [.agg (i8 h),.agg [.arr .u8 64 f]] [kX t] [] (cP 1 λv _ _=>v=.agg (i8 (kE h f))):=by rw[P5];exact Mk t h f
 have di:=f_ (G:=Empty) (P:=prog) (gl:=Gi) (aZ.cons (Jl _) (aZ.cons (P4 _) aZ.nil));have S0:St [] w (lits [1] [1] [kX t]++[]) w:=St.given (w:=w) [(1,.cells (ab [1] [.arr .u32 64 aX]).toArray t (0,0))] (by
  intro p hp;simp only[List.mem_singleton]at hp;subst hp;have e:(ab [1] [.arr .u32 64 aX]).toArray=ak .u32 64 aX:=by simp[ab,cl,ak]
  rw[e];exact hG)
 have e0:∀ids,ao ids [.agg (i8 h),.agg [.arr .u8 64 f]]=ao [1] [.agg (i8 h),.agg [.arr .u8 64 f]]:=λ_=>rfl;rw[e0];refine(bw (C:=VR prog Gi (qL Empty [Dj,Dl]) (lp1 0 (bL t h f))) (_root_.Go.Proofs.YtggfpcggakghnaaGreatDoor.ai.TL di) (_root_.Go.Proofs.YtggfpcggakghnaaGreatDoor.ai.QL di) 60 (ids:=[1]) (bl:=[kX t]) (ch:=[]) (R:=[]) (λg i h=>by
  have h:Gi g=some i:=h;unfold Gi at h;cases hb:Nat.beq g 1 with
  |false=>rw[hb]at h;cases h
  |true=>rw[hb]at h;cases h;exact⟨by simp,by simp[List.getD,Nat.eq_of_beq_eq_true hb]⟩) rfl S0 hv).mono ?_
 rintro x w' ⟨y,more,bl',ch',rfl,h1,S',hK⟩;obtain⟨v2,aP,bl2,e,_,_,rfl⟩:=c9 (n0:=1) h1 (by simp) S' hK;exact⟨e.trans rfl,S'.ch⟩
structure Mm (p:Prop):Prop where
 h:p
structure pj where
 bl:List av
 b:Nat
 o:Nat
 n:Nat
 f:Nat->Int
 h:∀w:World,(∀y∈bl,w.heap[y.id]?=some y.obj)->eS w b o n f
instance:Bl pj:=⟨λg=>g.bl⟩
def Xe (N:Nat):(Operand->V)->Op->List VB->List pj->VK pj->Prop:=λe op bl ch K=>match op with
 |.makeSlice t l c=>(match prog.underlying t,e l,e c with
  |some (.slice 5),.int .i64 m,.int .i64 m'=>cond (dk bl.length bl) ((m=(N:Int)/\m'=(N:Int))/\K (.sl bl.length 0 N N) (bl++[⟨true,⟨5,(0,0)⟩,[.arr .u8 N λ_=>0]⟩]) ch) False
  |_,_,_=>False)
 |.call c=>(match c.callee,c.args.toList,c.argTypes.toList with
  |.builtin .copy,[s,xs],[t,tx]=>(match prog.underlying t,e s,e xs,ch with
   |some (.slice 5),.sl i 0 n c,.raw (.slice (some ⟨b,o,none⟩) m mc),[g]=>(match bl[i]?with
    |some ⟨true,⟨5,(0,0)⟩,[.arr .u8 N' f]⟩=>((g.b=b/\g.o=o/\g.n=m)/\m<=n/\n<=N')/\K (.int .i64 (m:Int)) (bl.set i ⟨true,⟨5,(0,0)⟩,[.arr .u8 N' (iF f 0 m g.f)]⟩) ch
    |_=>False)
   |_,_,_,_=>False)
  |_,_,_=>False)
 |_=>False
theorem nZ (ids:List Nat) (N:Nat) (f:Nat->Int):(ab ids [.arr .u8 N f]).toArray=ak .u8 N f:=by simp[ab,cl,ak]
theorem Jm {N:Nat} (h0:1<=N) (h1:N<=1000):oA prog (λ_=>none) (Xe N):=by
 intro e op ids bl ch R ms w0 w K ρ o hg hl S cx ho h;unfold Xe at h;split at h
 ·rename_i t l c;split at h
  ·rename_i m m' hu Fx hec;cases hq:dk bl.length bl with
   |false=>rw[hq]at h;exact h.elim
   |true=>
    rw[hq]at h;obtain⟨⟨rfl,rfl⟩,hK⟩:=h;obtain⟨inf,wv,sP⟩:∃inf,prog.info? 5=some inf/\inf.bytes<=100:=⟨_,rfl,Nat.le_of_ble_eq_true (by kernel_rfl)⟩;have hz:∀k:Nat,(ab ids (lK [.int .u8 0] k))=(List.range k).map λ_=>Value.int .u8 0:=by
     intro k;induction k with
     |zero=>rfl
     |succ k ih=>rw[lK,bo,ih,List.range_succ_eq_map,List.map_cons,List.map_map];rfl
    have aY:=run_mk (P:=prog) (ids:=ids) (w:=w) (t:=t) (el:=5) (n:=N) (z:=0) (zc:=[.int .u8 0]) (inf:=inf) (k1:=.i64) (k2:=.i64) hu wv (by kernel_rfl) (by kernel_rfl) rfl h0 (by omega) sP;refine⟨_,[w.heap.size],_,ch,w.alloc (.cells (ab ids (lK [.int .u8 0] N)).toArray 5),.inl ?_,by simp[hl],?_,hK⟩
    ·unfold execOp;simp only[ho,cx,Fx,hec,den,Sem.run_bind,aY,Result.andThen_ok,Sem.run_pure];rw[<-hl,cy]
    ·rw[aI _ _ _ _ hl,aJ _ _ (by rw[hl];exact hq)];simp only[lits,aE,nZ];have e1:(ab ids (lK [.int .u8 0] N)).toArray=ak .u8 N λ_=>0:=by rw[hz];rfl
     rw[e1];refine(S.new (Ch.alloc [] w _) (Nat.le_refl _) (heap_alloc_new w _)).perm ?_;rw[List.append_assoc];exact List.perm_middle.symm
  ·exact h.elim
 ·rename_i c;split at h
  ·rename_i s xs t tx eU a9 ju;split at h
   ·rename_i i n cc b o' m mc g hu qc ow;split at h
    ·rename_i N' f hb;obtain⟨⟨⟨rfl,rfl,rfl⟩,hm,hn⟩,hK⟩:=h;obtain⟨FZ,ar,td⟩:=c;simp only at eU a9 ju;have e2:ar=#[s,xs]:=by rw[<-a9]
     have e3:td=#[t,tx]:=by rw[<-ju]
     subst eU e2 e3;obtain⟨hj,ba⟩:=cA hl S hb;rw[nZ]at ba;have qM:=(cA hl S hb).2;rw[nZ]at qM;have h8:eS w g.b g.o g.n g.f:=g.h w λy hy=>S.at' (List.mem_append_right _ (show y∈g.bl++R from List.mem_append_left _ hy));have Pb:Nat.min g.n n=g.n:=Nat.min_eq_left hm;have aY:=run_copy_row (P:=prog) w t tx o.type 5 (ids.getD i 0) 0 n cc ⟨g.b,g.o,none⟩ g.n mc (ak .u8 N' f) 5 (eE g.n g.f) hu (by kernel_rfl) qM (by rw[bQ,Pb]) (λj v hj=>by
      obtain⟨h1,rfl⟩:=ki hj;rw[Addr.add_lit];exact h8 j h1) (by rw[bQ,kQ];omega) qq
     have e4:((ak .u8 N' f).toList.take 0++eE g.n g.f++(ak .u8 N' f).toList.drop (0+(eE g.n g.f).length)).toArray=ak .u8 N' (iF f 0 g.n g.f):=by
      rw[bQ];exact sR .u8 f (by omega) g.f
     rw[e4]at aY;have sE:ρ s=.slice (some ⟨ids.getD i 0,0,none⟩) n cc:=by rw[cx,qc];simp only[den]
     have OM:ρ xs=.slice (some ⟨g.b,g.o,none⟩) g.n mc:=by rw[cx,ow];simp only[den]
     have hex:=u7 (P:=prog) (ρ:=ρ) (o:=o) ho sE OM aY;rw[bQ]at hex;refine⟨.int .i64 (g.n:Int),[],_,_,_,.inl hex,by simpa using hl,?_,hK⟩
     ·simp only[List.append_nil];have mK:=S.step hj rfl (Ch.setRow w _ _) (setRow_heap w (ids.getD i 0) (ak .u8 N' f) (ak .u8 N' (iF f 0 g.n g.f)) 5 (0,0) qM);have yF:i<(lits ids ids bl).length:=by rw[iQ ids bl hl];rcases Nat.lt_or_ge i bl.length with h'|h';exact h';simp[h']at hb
      rw[<-iR (ids:=ids) ids bl i _ hl,<-List.set_append_left _ _ yF];simp only[aE,nZ];exact mK
    ·exact h.elim
   ·exact h.elim
  ·exact h.elim
 ·exact h.elim
def tj (n:Nat):Int:=i64.wrap (i64.wrap (Int.tdiv (i64.wrap (i64.wrap (i64.wrap ((n:Int)+9)+64)-1)) 64)*64)
def akE (e d:Int) (i:Nat) (F:Nat->Int):Nat->Int:=o_ F (0+(i64.wrap (i64.wrap (e-1)-(i:Int))).toNat) (u8.wrap (Int.fdiv d (2^(8*i))))
def agQ (e d:Int) (F:Nat->Int):Nat->Nat->Int
 |0=>F
 |k+1=>akE e d k (agQ e d F k)
def tm (N n:Nat) (f:Nat->Int):Nat->Int:=agQ (tj n) (u64.wrap (u64.wrap (n:Int)*8)) (o_ (iF (λ_=>0) 0 n f) (0+((n:Nat):Int).toNat) 128) 8
def Xf (e:Int) (N:Nat) (X:Prop):Nat->Nat->Prop
 |0,_=>X
 |k+1,i=>Gg (i64.wrap (i64.wrap (e-1)-(i:Int))) N (Xf e N X k (i+1))
def acD (N n b o:Nat) (g:pj) (K:VK pj):Prop:=(tj n=(N:Int)/\tj n=(N:Int))/\((g.b=b/\g.o=o/\g.n=n)/\n<=N/\N<=N)/\Gg (n:Int) N (Xf (tj n) N (K (.sl 0 0 N N) [⟨true,⟨5,(0,0)⟩,[.arr .u8 N (tm N n g.f)]⟩] [g]) 8 0)
def P6 (N:Nat) (h0:1<=N) (h1:N<=1000) (f:FuncId) (args:List V) (g:pj) (K:VK pj):Prop:=cJ (mL prog (λ_=>none) ([]:List (dI pj)) (Xe N) (Jm h0 h1)) 60 f args [] [g] K
theorem P7 (g:pj) (b o n c:Nat) (K:VK pj):P6 64 (by omega) (by omega) 162 [.raw (.slice (some ⟨b,o,none⟩) n c)] g K=acD 64 n b o g K:=by kernel_rfl
theorem Mn (g:pj) (b o n c:Nat) (K:VK pj):P6 128 (by omega) (by omega) 162 [.raw (.slice (some ⟨b,o,none⟩) n c)] g K=acD 128 n b o g K:=by kernel_rfl
def Dm (H:Nat->Int):Nat->Int:=λj=>match j%4 with
 |0=>u8.wrap (Int.fdiv (H (j/4)) (2^24))
 |1=>u8.wrap (Int.fdiv (H (j/4)) (2^16))
 |2=>u8.wrap (Int.fdiv (H (j/4)) (2^8))
 |_=>u8.wrap (H (j/4))
def AH:Nat->Int:=l8 1779033703 3144134277 1013904242 2773480762 1359893119 2600822924 528734635 1541459225
def r8 (X:Nat->Int):Nat->Int:=l8 (X 0) (X 1) (X 2) (X 3) (X 4) (X 5) (X 6) (X 7)
def abc (n:Nat) (f:Nat->Int):Nat->Int:=Dm (kE AH (tm 64 n f))
def acE (f:Nat->Int) (k:Nat):Nat->Int:=λj=>f (k+j)
def P8 (n:Nat) (f:Nat->Int):Nat->Int:=Dm (kE (r8 (kE AH (tm 128 n f))) (acE (tm 128 n f) 64))
def ji (n:Nat) (f:Nat->Int):Nat->Int:=bif Nat.ble n 55 then abc n f else P8 n f
def pk:QF:=⟨163,λargs bl=>match args,bl with
 |[.agg [.int .u32 a,.int .u32 b,.int .u32 c,.int .u32 d,.int .u32 e,.int .u32 f,.int .u32 g,.int .u32 h],.agg [.arr .u8 64 F]],⟨false,⟨t,(0,0)⟩,[.arr .u32 64 R]⟩::_=>some (R=aX,.agg (i8 (kE (l8 a b c d e f g h) F)))
 |_,_=>none⟩
def acF:Nat->(Nat->Int)->List V
 |64,F=>[.arr .u8 64 F]
 |128,F=>[.arr .u8 64 F,.arr .u8 64 (acE F 64)]
 |n,F=>[.arr .u8 n F]
def Gj (N:Nat):gm pj:=λargs bl ch K=>match args,ch with
 |[.raw (.slice (some ⟨b,o,none⟩) n c)],[g]=>cond (dk bl.length bl) (((g.b=b/\g.o=o/\g.n=n)/\tj n=(N:Int)/\n<N)/\K (.sl bl.length 0 N N) (bl++[⟨true,⟨5,(0,0)⟩,acF N (tm N n g.f)⟩]) [g]) False
 |_,_=>False
def o4 (x:Int):List V:=[.int .u8 (u8.wrap (Int.fdiv x (2^24))),.int .u8 (u8.wrap (Int.fdiv x (2^16))),.int .u8 (u8.wrap (Int.fdiv x (2^8))),.int .u8 (u8.wrap x)]
def Jn (H:Nat->Int):List V:=o4 (H 0)++(o4 (H 1)++(o4 (H 2)++(o4 (H 3)++(o4 (H 4)++(o4 (H 5)++(o4 (H 6)++o4 (H 7)))))))
theorem Mo (H:Nat->Int) (ids:List Nat):den ids (.agg (Jn H))=.agg (ak .u8 32 (Dm H)):=by kernel_rfl
section
variable(t:Nat) (g:pj) (b o n c:Nat) (K:VK pj)
theorem P9:cJ (dR prog Gi (⟨162,false,Gj 64⟩::qL pj [pk])) 60 106 [.raw (.slice (some ⟨b,o,none⟩) n c)] [kX t] [g] (cP 1 K)=(((g.b=b/\g.o=o/\g.n=n)/\tj n=((64:Nat):Int)/\n<64)/\aX=aX/\K (.agg (Jn (kE AH (tm 64 n g.f)))) [kX t] [g]):=by kernel_rfl
theorem Mp:cJ (dR prog Gi (⟨162,false,Gj 128⟩::qL pj [pk])) 60 106 [.raw (.slice (some ⟨b,o,none⟩) n c)] [kX t] [g] (cP 1 K)=(((g.b=b/\g.o=o/\g.n=n)/\tj n=((128:Nat):Int)/\n<128)/\aX=aX/\aX=aX/\K (.agg (Jn (kE (r8 (kE AH (tm 128 n g.f))) (acE (tm 128 n g.f) 64)))) [kX t] [g]):=by kernel_rfl
end
theorem akF {w:World} {b o n:Nat} {f:Nat->Int} (h:eS w b o n f):∃g:pj,(g.b=b/\g.o=o/\g.n=n)/\g.f=f/\∃ps:List (Nat×Obj),g.bl=ps.map (λp=>⟨p.1,false,p.2⟩)/\∀p∈ps,w.heap[p.1]?=some p.2:=by
 rcases Nat.eq_zero_or_pos n with rfl|hn
 ·exact⟨⟨[],b,o,0,f,λ_ _ j hj=>absurd hj (by omega)⟩,⟨rfl,rfl,rfl⟩,rfl,[],rfl,λ_ h=>nomatch h⟩
 ·cases hb:w.heap[b]?with
  |none=>
   have:=h 0 hn;unfold World.cell? at this;simp only[hb]at this;cases this
  |some ob=>
   refine⟨⟨[⟨b,false,ob⟩],b,o,n,f,λw' hw j hj=>?_⟩,⟨rfl,rfl,rfl⟩,rfl,[(b,ob)],rfl,?_⟩
   ·have h1:=h j hj;have h2:w'.heap[b]?=some ob:=hw _ (List.mem_singleton.2 rfl);unfold World.cell? at h1⊢;simp only[hb]at h1;simp only[h2];exact h1
   ·intro p hp;obtain rfl:=List.mem_singleton.1 hp;exact hb
theorem Jo {e:Int} {N:Nat} {X:Prop} (he:e=(N:Int)) (h8:8<=N) (hN:N<=1000) (hX:X):∀k i,i+k<=8->Xf e N X k i
 |0,_,_=>hX
 |k+1,i,h=>by
  have e1:i64.wrap (i64.wrap (e-1)-(i:Int))=(N:Int)-1-(i:Int):=by rw[he,kF (x:=(N:Int)-1) (by omega),kF (by omega)]
  unfold Xf;rw[e1];exact g9 (by omega) (Jo he h8 hN hX k (i+1) (by omega))
theorem Jp {n:Nat} (h:n<=55):tj n=((64:Nat):Int):=by
 unfold tj;rw[kF (x:=(n:Int)+9) (by omega),kF (x:=(n:Int)+9+64) (by omega),kF (x:=(n:Int)+9+64-1) (by omega),Int.tdiv_eq_ediv_of_nonneg (by omega),show((n:Int)+9+64-1)/64=1 by omega];rfl
theorem Jq {n:Nat} (h:56<=n) (h2:n<=119):tj n=((128:Nat):Int):=by
 unfold tj;rw[kF (x:=(n:Int)+9) (by omega),kF (x:=(n:Int)+9+64) (by omega),kF (x:=(n:Int)+9+64-1) (by omega),Int.tdiv_eq_ediv_of_nonneg (by omega),show((n:Int)+9+64-1)/64=2 by omega];rfl
theorem P_ {N:Nat} (h0:1<=N) (h1:N<=1000) {f:Nat} {args:List V} {g:pj} {K:VK pj} (h:Mm (P6 N h0 h1 f args g K)) {R:List av} {ms:List Nat} {w0 w:World} (S:St ms w0 (g.bl++R) w):
 aj prog f (ao [] args).toArray w λv w1=>∃x more b ch,v=den more x/\more.length=b.length/\St ms w0 (lits more more b++af ch R) w1/\K x b ch:=by
 have S0:St ms w0 (lits [] [] []++af [g] R) w:=S;exact bw (ai.nil (G:=pj) (P:=prog) (gl:=λ_=>none)).T (ai.nil (G:=pj) (P:=prog) (gl:=λ_=>none)).Q 60 (C:=mL prog (λ_=>none) ([]:List (dI pj)) (Xe N) (Jm h0 h1)) (ids:=[]) (bl:=[]) (ch:=[g]) (R:=R) Gl.none rfl S0 h.h
def Xg (N n:Nat) (g:pj):VK pj:=λv bl ch=>v=.sl 0 0 N N/\bl=[⟨true,⟨5,(0,0)⟩,[.arr .u8 N (tm N n g.f)]⟩]/\ch=[g]
theorem Jr {N n b o:Nat} {g:pj} (h8:8<=N) (h1:N<=1000) (hg:g.b=b/\g.o=o/\g.n=n) (he:tj n=(N:Int)) (hn:n<N):acD N n b o g (Xg N n g):=
 ⟨⟨he,he⟩,⟨hg,by omega,Nat.le_refl _⟩,g9 (by omega) (Jo he h8 h1 ⟨rfl,rfl,rfl⟩ 8 0 (by omega))⟩
theorem Xh {N:Nat} (h0:1<=N) (h8:8<=N) (h1:N<=1000) {b o n c:Nat} (g:pj) (fU:Mm (P6 N h0 h1 162 [.raw (.slice (some ⟨b,o,none⟩) n c)] g (Xg N n g)))
 {R:List av} {ms:List Nat} {w0 w:World} (S:St ms w0 (g.bl++R) w):aj prog 162 #[.slice (some ⟨b,o,none⟩) n c] w λv w1=>∃b',v=.slice (some ⟨b',0,none⟩) N N/\St ms w0 (⟨b',true,.cells (ak .u8 N (tm N n g.f)) 5 (0,0)⟩::(g.bl++R)) w1:=by
 have hr:=P_ h0 h1 (f:=162) (args:=[.raw (.slice (some ⟨b,o,none⟩) n c)]) (g:=g) (K:=Xg N n g) fU S;have e0:(ao [] [V.raw (.slice (some ⟨b,o,none⟩) n c)]).toArray=#[.slice (some ⟨b,o,none⟩) n c]:=rfl;rw[e0]at hr;clear fU;refine hr.mono ?_;rintro v w' ⟨y,more,bl',ch',rfl,hl,S',rfl,rfl,rfl⟩
 match more,hl with
 |[b'],_=>
  refine⟨b',rfl,?_⟩;have e:lits [b'] [b'] [⟨true,⟨5,(0,0)⟩,[.arr .u8 N (tm N n g.f)]⟩]=[⟨b',true,.cells (ak .u8 N (tm N n g.f)) 5 (0,0)⟩]:=by
   simp only[lits,aE,nZ]
  rw[e]at S';exact S'
theorem Xi (ids:List Nat) {N:Nat} (hN:N=64\/N=128) (F:Nat->Int):(ab ids (acF N F)).toArray=ak .u8 N F:=by
 rcases hN with rfl|rfl
 ·exact nZ ids 64 F
 ·have e:List.range 128=List.range 64++(List.range 64).map (64+·):=by decide
  unfold acF ak;rw[e,List.map_append,List.map_map];simp only[ab,cl,List.append_nil];rfl
theorem Gk {N:Nat} (hN:N=64\/N=128) (gl:Nat->Option Nat):Sound prog gl 162 (Gj N):=by
 intro args ids bl ch R ms w0 w K hg hl S hc;unfold Gj at hc;split at hc
 ·rename_i b o n c g;cases hq:dk bl.length bl with
  |false=>rw[hq]at hc;exact hc.elim
  |true=>
   rw[hq]at hc;obtain⟨⟨hgg,he,hn⟩,hK⟩:=hc;have fU:∃(h0:1<=N) (h1:N<=1000),8<=N/\Mm (P6 N h0 h1 162 [.raw (.slice (some ⟨b,o,none⟩) n c)] g (Xg N n g)):=by
    rcases hN with rfl|rfl
    ·exact⟨by omega,by omega,by omega,⟨by rw[P7];exact Jr (by omega) (by omega) hgg he hn⟩⟩
    ·exact⟨by omega,by omega,by omega,⟨by rw[Mn];exact Jr (by omega) (by omega) hgg he hn⟩⟩
   obtain⟨h0,h1,h8,fU⟩:=fU;have S1:St ms w0 (g.bl++(lits ids ids bl++R)) w:=S.perm (List.perm_append_comm_assoc _ _ _);refine(Xh h0 h8 h1 g fU S1).mono ?_;rintro v w' ⟨b',rfl,S2⟩;refine⟨_,[b'],_,_,?_,by simp[hl],?_,hK⟩
   ·simp only[den];rw[<-hl,cy]
   ·rw[aI _ _ _ _ hl,aJ _ _ (by rw[hl];exact hq)];simp only[lits,aE,Xi _ hN];refine S2.perm ?_;show List.Perm ([_]++(g.bl++(lits ids ids bl++R))) ((lits ids ids bl++[_])++(g.bl++R));refine(List.Perm.append_left _ (List.perm_append_comm_assoc _ _ _)).trans ?_;rw[<-List.append_assoc];exact List.Perm.append_right _ List.perm_append_comm
 ·exact hc.elim
theorem Mq:pk.Ok prog Gi:=by
 intro args bl p_ v_ h hp ids w hg hm;unfold pk at h;dsimp only at h;split at h
 ·rename_i a b c d e f g h' F t R bl';simp only[Option.some.injEq,Prod.mk.injEq]at h;obtain⟨rfl,rfl⟩:=h;subst hp;have h1:=hm.2 0 _ rfl;rw[(hg 1 0 rfl).2]at h1;have e1:(ab ids [.arr .u32 64 aX]).toArray=ak .u32 64 aX:=by simp[ab,cl,ak]
  rw[e1]at h1;exact Ml t (l8 a b c d e f g h') F h1
 ·cases h
theorem Js {N n:Nat} (hN:N=64\/N=128) {b o c t:Nat} {f H:Nat->Int} {w:World} (hG:w.heap[1]?=some (.cells (ak .u32 64 aX) t (0,0))) (hB:eS w b o n f) (he:tj n=(N:Int)) (hn:n<N)
 (fU:∀g:pj,(g.b=b/\g.o=o/\g.n=n)->g.f=f->cJ (dR prog Gi (⟨162,false,Gj N⟩::qL pj [pk])) 60 106 [.raw (.slice (some ⟨b,o,none⟩) n c)] [kX t] [g] (cP 1 λv _ _=>v=.agg (Jn H))):
 aj prog 106 #[.slice (some ⟨b,o,none⟩) n c] w λv w1=>v=.agg (ak .u8 32 (Dm H))/\Ch [] w w1:=by
 obtain⟨g,hg,hf,ps,Mc,hh⟩:=akF hB;have di:ai prog Gi (⟨162,false,Gj N⟩::qL pj [pk]):=ai.cons ⟨Gk hN Gi,λe=>by cases e⟩ (f_ (aZ.cons Mq aZ.nil));have S0:St [] w (lits [1] [1] [kX t]++af [g] []) w:=by
  have:=St.given (w:=w) ((1,.cells (ab [1] [.arr .u32 64 aX]).toArray t (0,0))::ps) (by
   intro p hp;rcases List.mem_cons.1 hp with rfl|hp
   ·have e:(ab [1] [.arr .u32 64 aX]).toArray=ak .u32 64 aX:=by simp[ab,cl,ak]
    rw[e];exact hG
   ·exact hh p hp)
  show St [] w ([_]++(g.bl++[])) w;rw[Mc,List.append_nil];exact this
 refine(bw di.T di.Q 60 (C:=dR prog Gi (⟨162,false,Gj N⟩::qL pj [pk])) (ids:=[1]) (bl:=[kX t]) (ch:=[g]) (R:=[]) (λg i h=>by
  have h:Gi g=some i:=h;unfold Gi at h;cases hb:Nat.beq g 1 with
  |false=>rw[hb]at h;cases h
  |true=>rw[hb]at h;cases h;exact⟨by simp,by simp[List.getD,Nat.eq_of_beq_eq_true hb]⟩) rfl S0 (fU g hg hf)).mono ?_
 rintro v w' ⟨y,more,bl',ch',rfl,h1,S',hK⟩;obtain⟨v2,aP,bl2,e,_,_,rfl⟩:=c9 (n0:=1) h1 (by simp) S' hK;exact⟨e.trans (Mo H _),S'.ch⟩
theorem AI (b o n c:Nat) (f:Nat->Int) (hn:n<=119) {tG:TypeId} (w:World) (hG:w.heap[1]?=some (.cells (ak .u32 64 aX) tG (0,0))) (hB:eS w b o n f):aj prog 106 #[.slice (some ⟨b,o,none⟩) n c] w λv w1=>v=.agg (ak .u8 32 (ji n f))/\Ch [] w w1:=by
 unfold ji;by_cases h:n<=55
 ·rw[Nat.ble_eq_true_of_le h];exact Js (.inl rfl) hG hB (Jp h) (by omega) λg hg hf=>by rw[P9,hf];exact⟨⟨hg,Jp h,by omega⟩,rfl,rfl⟩
 ·have hb:Nat.ble n 55=false:=by
   cases e:Nat.ble n 55 with
   |false=>rfl
   |true=>exact absurd (Nat.le_of_ble_eq_true e) h
  rw[hb];exact Js (.inr rfl) hG hB (Jq (by omega) hn) (by omega) λg hg hf=>by rw[Mp,hf];exact⟨⟨hg,Jq (by omega) hn,by omega⟩,rfl,rfl,rfl⟩
end Go.Proofs.YtggfpcggakghnaaGreatDoor
namespace Go.Proofs.YtggfpcggakghnaaGreatDoor
open Go Go.RowKit Go.BigFrame Sx
def To (f:Nat->Int) (x:Int):Nat->Nat->Int
 |0=>λ_=>0
 |k+1=>o_ (To f x k) k (bits .xor .u8 (f k) x)
def fq (f:Nat->Int) (x:Int):Nat->Int:=λj=>bits .xor .u8 (f j) x
theorem Qa (f:Nat->Int) (x:Int):∀(k j:Nat),j<k->To f x k j=fq f x j
 |k+1,j,h=>by
  by_cases e:j=k
  ·subst e;exact I3 _ _ _
  ·exact(Aj _ _ e).trans (Qa f x k j (by omega))
theorem Qb (f:Nat->Int) (x:Int):ak .u8 64 (To f x 64)=ak .u8 64 (fq f x):=FL _ λi h=>Qa f x 64 i h
theorem Mr {f:Nat->Int} {x:Int} (i:Int) (W:Nat->Int) (h:0<=i) (e:W=To f x i.toNat):o_ W (0+i.toNat*1) (bits .xor .u8 (f i.toNat) x)=To f x (i+1).toNat:=by
 have h1:(i+1).toNat=i.toNat+1:=by omega
 rw[h1,e,Nat.zero_add,Nat.mul_one];rfl
theorem tn {n m c:Nat} {f g:Nat->Int} (e:n=m) (h:∀i,i<m->f i=g i):dc n f c=dc m g c:=by
 subst e;unfold dc;rw[kR h]
def jS (n1 n2:Nat) (f g h:Nat->Int):Nat->Int:=bI (n1+n2) (bI n1 f g) h
def Qc (n1 n2 n3:Nat) (f g h k:Nat->Int):Nat->Int:=bI (n1+n2+n3) (bI (n1+n2) (bI n1 f g) h) k
theorem Jt (f:Nat->Int) (y:Int) (w:World):
 aj prog 108 #[.agg (ak .u8 64 f),.int .u8 y] w λv w1=>∃b,v=.slice (some ⟨b,0,none⟩) 64 64/\w.heap.size<=b/\w1.heap[b]?=some (.cells (ak .u8 64 (fq f y)) 5 (0,0))/\Ch [] w w1:=by
 have S0:=St.nil [] w;refine dz Tryz.func108 rfl ?_;refine au (ax ?_);refine eD S0 (λb=>.pointer (some ⟨b,0,none⟩)) (.cells (ak .u8 64 f) 205) ?_;intro de sH i_;refine aa (.slice none 0 0) ?_;refine aw (ag (au (ax ?_)));refine eD i_ (λb=>.slice (some ⟨b,0,none⟩) 64 64) (.cells (ak .u8 64 (λ_=>0)) 5) ?_;intro iG Dn gw;refine bJ ?_;refine aw (ag (au (au (ax ?_))));refine eC gw 1 64 (ak .u8 64 f) de 0 ?_;refine aa (.int .i64 0) ?_;refine aw (ag (wp_block ?_));refine Ak (λzn za zw=>∃(i:Int) (W:Nat->Int) (Ms:Nat->Value),(zn=(64-i).toNat/\0<=i/\i<=64/\W=To f y i.toNat)/\za=⟨#[.agg (ak .u8 64 f),.int .u8 y,.pointer (some ⟨de,0,none⟩),undef,.slice none 0 0,.slice (some ⟨iG,0,none⟩) 64 64,(Ms 6),(Ms 7),.slice (some ⟨iG,0,none⟩) 64 64,.agg (ak .u8 64 f),.int .i64 i,(Ms 11),(Ms 12),(Ms 13),(Ms 14),(Ms 15),(Ms 16),(Ms 17),(Ms 18),(Ms 19),(Ms 20),undef],[]⟩/\St [] w [⟨iG,true,.cells (ak .u8 64 W) 5 (0,0)⟩,⟨de,true,.cells (ak .u8 64 f) 205 (0,0)⟩] zw) _ (λzy Dp=>⟨(0:Int),(λ_=>0),(λd=>zy.tmps.getD d undef),⟨rfl,by omega,by omega,rfl⟩,by subst Dp;kernel_rfl,gw.re (R:=([]:List av)) [[⟨iG,true,.cells (ak .u8 64 (λ_=>0)) 5 (0,0)⟩],[⟨de,true,.cells (ak .u8 64 f) 205 (0,0)⟩]] [0,1]⟩) ?_;rintro _ _ agR ⟨i,W,Ms,⟨rfl,zf8,zf9,agS⟩,rfl,tp⟩;refine au (ax ?_);refine aa (.bool (decide (i<64))) ?_;refine aw (ag (au ?_));refine jH (decide (i<64)) ?_ ?_
 ·intro oD;have yK:=FC oD;refine wp_skip (ag (au (wp_block (au (ax ?_)))));refine aa (.int .i64 i) ?_;refine Wo (e:=5) .u8 64 f .i64 i (by omega) (by omega) ?_;refine aa (.int .i64 i) ?_;refine aa (.int .u8 (f (i).toNat)) ?_;refine aw (ag (ax ?_));refine bY ?_;refine aa (.int .i64 i) ?_;refine aa (.int .u8 (f (i).toNat)) ?_;refine aa (.int .u8 y) ?_;refine aa (.int .u8 (bits .xor .u8 (f (i).toNat) y)) ?_;refine mw (e:=5) iG 0 (i).toNat 64 1 64 .i64 i (by omega) (by omega) rfl ?_;refine store_ tp 0 (.int .u8 (bits .xor .u8 (f (i).toNat) y)) iG (0+(i).toNat*1) ?_ (hb:=ckF (t:=5) (kd:=.u8) (n:=64) (f:=W) (by omega));intro Mt tq;have uI:St [] w [⟨iG,true,.cells (ak .u8 64 (o_ W (0+(i).toNat*1) (bits .xor .u8 (f (i).toNat) y))) 5 (0,0)⟩,⟨de,true,.cells (ak .u8 64 f) 205 (0,0)⟩] Mt:=St.stF (t:=5) (kd:=.u8) (n:=64) (f:=W) (i:=0) (off:=(0+(i).toNat*1)) (b:=iG) tq (by omega);refine aw (ik (ag (ax ?_)));refine lz .i64 (i+1) (IntWalk.i64_in _ (by omega)) ?_;refine aa (.int .i64 (i+1)) ?_;refine aw ?_;refine vU λzy Dp=>?_;exact⟨_,by omega,(i+1),(o_ W (0+(i).toNat*1) (bits .xor .u8 (f (i).toNat) y)),(λd=>zy.tmps.getD d undef),⟨rfl,by omega,by omega,Mr i W (by omega) agS⟩,by subst Dp;kernel_rfl,uI.re (R:=([]:List av)) [[⟨iG,true,.cells (ak .u8 64 (o_ W (0+(i).toNat*1) (bits .xor .u8 (f (i).toNat) y))) 5 (0,0)⟩],[⟨de,true,.cells (ak .u8 64 f) 205 (0,0)⟩]] [0,1]⟩
 intro Qd;have Dq:=FE Qd;refine wp_exit (fy (fy (qh (ag (au (ax ?_))))));refine bY ?_;refine bJ ?_;refine aw (ag (wp_ret ?_));refine gn rfl (fY [.tmp 4] [.slice (some ⟨iG,0,none⟩) 64 64] (.slice (some ⟨iG,0,none⟩) 64 64) ⟨cM,trivial⟩) ?_;have ze:ak .u8 64 W=ak .u8 64 (fq f y):=by rw[agS,show i.toNat=64 by omega];exact Qb f y
 exact⟨iG,rfl,(tp.own 0 _ rfl rfl).resolve_left (by simp),by rw[<-ze];exact tp.at_ 0 _ rfl,tp.ch⟩
theorem Ju (pb:Nat) (b0 o0 n0 c0:Nat) (f0:Nat->Int) (b1 o1 n1 c1:Nat) (f1:Nat->Int) (h0:0<n0) (hn:n0+n1<=1000000) (w:World) (hp:w.heap[pb]?=some (.cells #[.slice (some ⟨b0,o0,none⟩) n0 c0,.slice (some ⟨b1,o1,none⟩) n1 c1] 23 (0,0))) (HF:eS w b0 o0 n0 f0) (Xj:eS w b1 o1 n1 f1):
 aj prog 107 #[.slice (some ⟨pb,0,none⟩) 2 2] w λv w1=>∃b c1,v=.slice (some ⟨b,0,none⟩) (n0+n1) c1/\n0+n1<=c1/\w.heap.size<=b/\w1.heap[b]?=some (.cells (dc (n0+n1) (bI n0 f0 f1) c1) 5 (0,0))/\Ch [] w w1:=by
 have S0:=St.given (w:=w) [(pb,.cells #[.slice (some ⟨b0,o0,none⟩) n0 c0,.slice (some ⟨b1,o1,none⟩) n1 c1] 23 (0,0))] (all_cons hp (all_nil));refine dz Tryz.func107 rfl ?_;refine au (ax ?_);refine aa (.slice none 0 0) ?_;refine aw (ag (au (ax ?_)));refine aa (.slice none 0 0) ?_;refine aw (ag (au (au (ax ?_))));refine bY ?_;refine aa (.int .i64 2) ?_;refine aa (.int .i64 0) ?_;refine aw (ag (wp_block (CD 24 (au (ax ?_)))));refine aa (.bool true) ?_;refine aw (ag (au (lB ?_)));refine wp_skip (ag (au (wp_block (au (ax ?_)))));refine aa (.pointer (some ⟨pb,0,none⟩)) ?_;refine ir S0 0 (.slice (some ⟨b0,o0,none⟩) n0 c0) pb 0 ?_;refine bJ ?_;refine aw (ag (ax ?_));refine aa (.slice none 0 0) ?_;refine bY ?_;have zS7:St [] w ([⟨pb,false,.cells #[.slice (some ⟨b0,o0,none⟩) n0 c0,.slice (some ⟨b1,o1,none⟩) n1 c1] 23 (0,0)⟩]++([]:List av)) w:=S0.re (R:=([]:List av)) [[⟨pb,false,.cells #[.slice (some ⟨b0,o0,none⟩) n0 c0,.slice (some ⟨b1,o1,none⟩) n1 c1] 23 (0,0)⟩]] [0];have J3:St [] w ([⟨pb,false,.cells #[.slice (some ⟨b0,o0,none⟩) n0 c0,.slice (some ⟨b1,o1,none⟩) n1 c1] 23 (0,0)⟩]++([]++([]:List av))) w:=zS7.conv (by kernel_rfl);refine CL (n:=0) (c:=0) (f:=(λ_=>0)) (g:=f0) (xv:=.slice (some ⟨b0,o0,none⟩) n0 c0) J3 (vV 5) (FM (e':=5) (St.mC S0 HF (by simp))) (by omega) ?_;intro zx2 zc3 zq1 Dn zh4 gw;have akH:=qt zh4 (by omega);obtain⟨zb9,AJ,lR,kG⟩:=akH;subst lR;subst kG;refine bJ ?_;refine aw (ik (ag (ax ?_)));refine aa (.int .i64 1) ?_;refine aa (.int .i64 1) ?_;refine aw (lA (au (ax ?_)));refine aa (.bool true) ?_;refine aw (ag (au (lB ?_)));refine wp_skip (ag (au (wp_block (au (ax ?_)))));refine aa (.pointer (some ⟨pb,1,none⟩)) ?_;refine ir gw 0 (.slice (some ⟨b1,o1,none⟩) n1 c1) pb 1 ?_;refine bJ ?_;refine aw (ag (ax ?_));refine bY ?_;refine bY ?_;have uJ:St [] w ([⟨pb,false,.cells #[.slice (some ⟨b0,o0,none⟩) n0 c0,.slice (some ⟨b1,o1,none⟩) n1 c1] 23 (0,0)⟩]++([⟨zb9,true,.cells (dc (0+n0) (bI 0 (λ_=>0) f0) zc3) 5 (0,0)⟩]++([]:List av))) Dn:=gw.re (R:=([]:List av)) [[⟨pb,false,.cells #[.slice (some ⟨b0,o0,none⟩) n0 c0,.slice (some ⟨b1,o1,none⟩) n1 c1] 23 (0,0)⟩],[⟨zb9,true,.cells (dc (0+n0) (bI 0 (λ_=>0) f0) zc3) 5 (0,0)⟩]] [0,1];refine CL (n:=(0+n0)) (c:=zc3) (f:=(bI 0 (λ_=>0) f0)) (g:=f1) (xv:=.slice (some ⟨b1,o1,none⟩) n1 c1) uJ ⟨AJ,.inr ⟨_,rfl,rfl⟩⟩ (FM (e':=5) (St.mC gw Xj (by simp))) (by omega) ?_;intro anj kY ank Gm Mu tu;have akI:=qt Mu (by omega);obtain⟨AK,wz,Qe,uK⟩:=akI;subst Qe;subst uK;refine bJ ?_;refine aw (ik (ag (ax ?_)));refine aa (.int .i64 2) ?_;refine aa (.int .i64 2) ?_;refine aw (lA (au (ax ?_)));refine aa (.bool false) ?_;refine aw (ag (au (iu ?_)));refine wp_exit (fy (fy (qh (ag (au (ax ?_))))));refine bY ?_;refine bJ ?_;refine aw (ag (wp_ret ?_));refine gn rfl (fY [.tmp 2] [.slice (some ⟨AK,0,none⟩) ((0+n0)+n1) kY] (.slice (some ⟨AK,0,none⟩) ((0+n0)+n1) kY) ⟨cM,trivial⟩) ?_;have ze:dc ((0+n0)+n1) (bI (0+n0) (bI 0 (λ_=>0) f0) f1) kY=dc (n0+n1) (bI n0 f0 f1) kY:=tn (by omega) λi hi=>by simp only[aky,jS,Qc,Nat.zero_add]
 exact⟨AK,kY,by rw[show((0+n0)+n1)=n0+n1 by omega],by have:=wz;omega,(tu.own 1 _ rfl rfl).resolve_left (by simp),by rw[<-ze];exact tu.at_ 1 _ rfl,tu.ch⟩
def fA (kn:Nat) (kf:Nat->Int) (n:Nat) (d:Nat->Int):Nat->Int:=ji (64+32) (bI 64 (fq (iF (λ_=>0) 0 kn kf) 92) (ji (64+n) (bI 64 (fq (iF (λ_=>0) 0 kn kf) 54) d)))
def Ll (f g:Nat->Int):Nat->Int
 |0=>0
 |k+1=>bits .or .u8 (Ll f g k) (bits .xor .u8 (f k) (g k))
theorem Xk {f g:Nat->Int} (i s:Int) (h:0<=i) (e:s=Ll f g i.toNat):bits .or .u8 s (bits .xor .u8 (f i.toNat) (g i.toNat))=Ll f g (i+1).toNat:=by
 have h1:(i+1).toNat=i.toNat+1:=by omega
 rw[h1,e];rfl
def kq (n:Nat) (f g:Nat->Int):Bool:=Ll f g n==0
theorem VS (ka:Option Addr) (kn kc:Nat) (kf:Nat->Int) (b o n c:Nat) (d:Nat->Int) (VT:1<=kn/\kn<=64) (hn:n<=55) {tG:TypeId} (w:World) (hG:w.heap[1]?=some (.cells (ak .u32 64 aX) tG (0,0))) (hk:cz w ka kn kc kf) (hB:eS w b o n d):
 aj prog 67 #[.slice ka kn kc,.slice (some ⟨b,o,none⟩) n c] w λv w1=>v=.agg (ak .u8 32 (fA kn kf n d))/\Ch [] w w1:=by
 have S0:=St.given (w:=w) [(1,.cells (ak .u32 64 aX) tG (0,0))] (all_cons hG (all_nil));refine dz Tryz.func67 rfl ?_;refine au (ax ?_);refine eD S0 (λb=>.pointer (some ⟨b,0,none⟩)) (.cells (ak .u8 32 (λ_=>0)) 37) ?_;intro de sH i_;refine aw (ag (au (ax ?_)));refine eD i_ (λb=>.pointer (some ⟨b,0,none⟩)) (.cells (ak .u8 64 (λ_=>0)) 205) ?_;intro iG Dn gw;refine aw (ag (au (au (ax ?_))));refine aa (.slice ka kn kc) ?_;refine aa (.int .i64 ((kn:Nat):Int)) ?_;refine gV (.bool (decide (64<((kn:Nat):Int)))) (.bool false) (congrArg Value.bool (ltF (by omega))) ?_;refine aw (ag (iu ?_));refine ax ?_;refine aa (.slice (some ⟨iG,0,none⟩) 64 64) ?_;refine aa (.slice ka kn kc) ?_;refine aca (elem:=5) (t:=205) gw 0 iG 64 0 64 64 (λ_=>0) ka kn kc kf (cz.quiet hk gw.ch) (by omega) (by omega) (by omega) (by kernel_rfl) (by kernel_rfl:_=[⟨iG,true,.cells (ak .u8 64 (iF (λ_=>0) 0 kn kf)) 205 (0,0)⟩,⟨de,true,.cells (ak .u8 32 (λ_=>0)) 37 (0,0)⟩,⟨1,false,.cells (ak .u32 64 aX) tG (0,0)⟩]) ?_;intro Tp J3;refine aw (ag (au (ax ?_)));refine eC J3 0 64 (ak .u8 64 (iF (λ_=>0) 0 kn kf)) iG 0 ?_;refine dh 108 #[.agg (ak .u8 64 (iF (λ_=>0) 0 kn kf)),.int .u8 54] ?_;refine(Jt (iF (λ_=>0) 0 kn kf) 54 _).mono ?_;rintro _ zw9 ⟨Xl,rfl,oD,yK,lR⟩;have Dr:=J3.new lR oD yK;refine bY ?_;refine eD Dr (λb=>.slice (some ⟨b,0,none⟩) 2 2) (.cells #[.slice (some ⟨Xl,0,none⟩) 64 64,.slice (some ⟨b,o,none⟩) n c] 23) ?_;intro nn agT uI;refine dh 107 #[.slice (some ⟨nn,0,none⟩) 2 2] ?_;refine(Ju nn Xl 0 64 64 (fq (iF (λ_=>0) 0 kn kf) 54) b o n c d (by omega) (by omega) _ (uI.at_ 0 _ rfl) (St.eK (N:=64) (f:=(fq (iF (λ_=>0) 0 kn kf) 54)) (wr:=true) (t:=5) (fr:=(0,0)) uI 1) (St.mC uI hB (by simp))).mono ?_;rintro _ Gm ⟨AK,Gn,rfl,uK,wz,Qf,Dq⟩;have uJ:=uI.new Dq wz Qf;refine dh 106 #[.slice (some ⟨AK,0,none⟩) (64+n) Gn] ?_;refine(AI AK 0 (64+n) Gn (bI 64 (fq (iF (λ_=>0) 0 kn kf) 54) d) (by omega) _ (uJ.at_ 5 _ rfl) (St.FN (c:=Gn) (wr:=true) (t:=5) (fr:=(0,0)) uJ 0)).mono ?_;rintro _ agU ⟨rfl,kH⟩;have Qg:=uJ.quiet kH;refine eD Qg (λb=>.pointer (some ⟨b,0,none⟩)) (.cells (ak .u8 32 (λ_=>0)) 37) ?_;intro Mv Xm acG;refine store_ acG 0 (.agg (ak .u8 32 (ji (64+n) (bI 64 (fq (iF (λ_=>0) 0 kn kf) 54) d)))) Mv 0 ?_;intro akJ AL;refine aw (ag (au ?_));refine lE 3 [⟨0,λ_=>.agg (ak .u8 64 (iF (λ_=>0) 0 kn kf)),λ_=>[]⟩,⟨1,λids=>.slice (some ⟨(ids.getD 0 0),0,none⟩) 64 64,λids=>[((ids.getD 0 0),.cells (ak .u8 64 (fq (iF (λ_=>0) 0 kn kf) 92)) 5 (0,0))]⟩,⟨0,λ_=>.slice (some ⟨Mv,0,none⟩) 32 32,λ_=>[]⟩] [[3,1,0],[3,1],[3,2],[4,1,0],[4,1],[4,3,2],[4,3],[5,4,1,0],[5,4,1],[5,4,3,2],[5,4,3],[5,4],[6,0],[6,1],[6,2],[6,3],[6,4],[6,5]] ?_ ?_
 ·refine step_cons (Zz AL 4 iG 0 64 (ak .u8 64 (iF (λ_=>0) 0 kn kf))) ?_;refine step_cons ?_ ?_
  ·intro akK anl abd amZ agV;have wA:akK 25=.agg (ak .u8 64 (iF (λ_=>0) 0 kn kf)):=(Sp.dt (agV 0 25 (by kernel_rfl) (by kernel_rfl))).1;have akL:=AL.quiet abd;refine kP ?_;refine mR [(25,.agg (ak .u8 64 (iF (λ_=>0) 0 kn kf)))] (eu wA (iy)) ?_;have akM:=akL.loc;refine Y.dh 108 #[.agg (ak .u8 64 (iF (λ_=>0) 0 kn kf)),.int .u8 92] ?_;refine(Jt (iF (λ_=>0) 0 kn kf) 92 _).mono ?_;rintro _ anm ⟨akN,rfl,akO,acH,Qh⟩;have agW:=akM.new Qh akO acH;exact⟨agW.ch,Sp.eO [akN] (all_cons (agW.qk abd.size 0 (by kernel_rfl)) (all_nil))⟩
  refine step_cons sD ?_;exact jK
 intro acI agX agY Qi;have Mw:acI 0=.agg (ak .u8 64 (iF (λ_=>0) 0 kn kf)):=(Sp.dt (Qi 0 (by kernel_rfl))).1;have acJ:=Sp.Ag (Qi 1 (by kernel_rfl));obtain⟨lS,Qj,Qk⟩:=acJ;have acK:acI 1=.slice (some ⟨lS,0,none⟩) 64 64:=Qj;have acL:∀zp∈([(lS,.cells (ak .u8 64 (fq (iF (λ_=>0) 0 kn kf) 92)) 5 (0,0))]:List (Nat×Obj)),akJ.heap.size<=zp.1/\agX.heap[zp.1]?=some zp.2:=Qk;have acM:acI 2=.slice (some ⟨Mv,0,none⟩) 32 32:=(Sp.dt (Qi 2 (by kernel_rfl))).1;have Xn:=AL.ro agY ([(lS,.cells (ak .u8 64 (fq (iF (λ_=>0) 0 kn kf) 92)) 5 (0,0))]) (acL);refine⟨[.agg (ak .u8 64 (iF (λ_=>0) 0 kn kf)),.slice (some ⟨lS,0,none⟩) 64 64,.slice (some ⟨Mv,0,none⟩) 32 32],by kernel_rfl,aL Mw (aL acK (aL acM (sO))),?_⟩;refine eD Xn (λb=>.slice (some ⟨b,0,none⟩) 2 2) (.cells #[.slice (some ⟨lS,0,none⟩) 64 64,.slice (some ⟨Mv,0,none⟩) 32 32] 23) ?_;intro AM akQ Xo;refine dh 107 #[.slice (some ⟨AM,0,none⟩) 2 2] ?_;refine(Ju AM lS 0 64 64 (fq (iF (λ_=>0) 0 kn kf) 92) Mv 0 32 32 (ji (64+n) (bI 64 (fq (iF (λ_=>0) 0 kn kf) 54) d)) (by omega) (by omega) _ (Xo.at_ 0 _ rfl) (St.eK (N:=64) (f:=(fq (iF (λ_=>0) 0 kn kf) 92)) (wr:=false) (t:=5) (fr:=(0,0)) Xo 1) (St.eK (N:=32) (f:=(ji (64+n) (bI 64 (fq (iF (λ_=>0) 0 kn kf) 54) d))) (wr:=true) (t:=37) (fr:=(0,0)) Xo 2)).mono ?_;rintro _ ann ⟨agZ,acN,rfl,ag0,acO,akS,akT⟩;have acP:=Xo.new akT acO akS;refine dh 106 #[.slice (some ⟨agZ,0,none⟩) (64+32) acN] ?_;refine(AI agZ 0 (64+32) acN (bI 64 (fq (iF (λ_=>0) 0 kn kf) 92) (ji (64+n) (bI 64 (fq (iF (λ_=>0) 0 kn kf) 54) d))) (by omega) _ (acP.at_ 9 _ rfl) (St.FN (c:=acN) (wr:=true) (t:=5) (fr:=(0,0)) acP 0)).mono ?_;rintro _ ano ⟨rfl,akU⟩;have akV:=acP.quiet akU;refine store_ akV 8 (.agg (ak .u8 32 (ji (64+32) (bI 64 (fq (iF (λ_=>0) 0 kn kf) 92) (ji (64+n) (bI 64 (fq (iF (λ_=>0) 0 kn kf) 54) d)))))) de 0 ?_;intro anp ag1;refine aw (ag (wp_ret ?_));refine gn rfl (fY [.cell 4 37] [.agg (ak .u8 32 (ji (64+32) (bI 64 (fq (iF (λ_=>0) 0 kn kf) 92) (ji (64+n) (bI 64 (fq (iF (λ_=>0) 0 kn kf) 54) d)))))] (.agg (ak .u8 32 (ji (64+32) (bI 64 (fq (iF (λ_=>0) 0 kn kf) 92) (ji (64+n) (bI 64 (fq (iF (λ_=>0) 0 kn kf) 54) d)))))) ⟨cU ag1 8 32 de 0,trivial⟩) ?_;exact⟨by(unfold fA)<;>kernel_rfl,ag1.ch⟩
theorem acQ (ka:Option Addr) (kn kc:Nat) (kf:Nat->Int) (b o n c:Nat) (d:Nat->Int) (VT:1<=kn/\kn<=64) (hn:n<=55) {tG:TypeId} (w:World) (hG:w.heap[1]?=some (.cells (ak .u32 64 aX) tG (0,0))) (hk:cz w ka kn kc kf) (hB:eS w b o n d):
 aj prog 42 #[.slice ka kn kc,.slice (some ⟨b,o,none⟩) n c] w λv w1=>v=.agg (ak .u8 8 (fA kn kf n d))/\Ch [] w w1:=by
 have S0:=St.given (w:=w) [(1,.cells (ak .u32 64 aX) tG (0,0))] (all_cons hG (all_nil));refine dz Tryz.func42 rfl ?_;refine au (ax ?_);refine eD S0 (λb=>.pointer (some ⟨b,0,none⟩)) (.cells (ak .u8 8 (λ_=>0)) 38) ?_;intro de sH i_;refine aw (ag (au (ax ?_)));refine aa (.slice ka kn kc) ?_;refine bY ?_;refine dh 67 #[.slice ka kn kc,.slice (some ⟨b,o,none⟩) n c] ?_;refine(VS ka kn kc kf b o n c d (by omega) (by omega) _ (i_.at_ 1 _ rfl) (cz.quiet hk i_.ch) (St.mC i_ hB (by simp))).mono ?_;rintro _ zw4 ⟨rfl,zh5⟩;have gw:=i_.quiet zh5;refine eD gw (λb=>.pointer (some ⟨b,0,none⟩)) (.cells (ak .u8 32 (λ_=>0)) 37) ?_;intro Qm zw8 uL;refine store_ uL 0 (.agg (ak .u8 32 (fA kn kf n d))) Qm 0 ?_;intro akW Dr;refine aw (ag (au (ax ?_)));refine aa (.slice (some ⟨Qm,0,none⟩) 8 32) ?_;refine aa (.pointer (some ⟨Qm,0,none⟩)) ?_;refine eC Dr 0 8 (ak .u8 8 (fA kn kf n d)) Qm 0 ?_;refine store_ Dr 1 (.agg (ak .u8 8 (fA kn kf n d))) de 0 ?_;intro acR Gp;refine aw (ag (wp_ret ?_));refine gn rfl (fY [.cell 4 38] [.agg (ak .u8 8 (fA kn kf n d))] (.agg (ak .u8 8 (fA kn kf n d))) ⟨cU Gp 1 8 de 0,trivial⟩) ?_;exact⟨by kernel_rfl,Gp.ch⟩
theorem abe (b o n c e q k:Nat) (f g:Nat->Int) (hn:n<=1000000) (w:World) (hB:eS w b o n f) (hE:eS w e q n g):
 aj prog 192 #[.slice (some ⟨b,o,none⟩) n c,.slice (some ⟨e,q,none⟩) n k] w λv w1=>v=.bool (kq n f g)/\Ch [] w w1:=by
 have S0:=St.nil [] w;refine dz Tryz.func192 rfl ?_;refine au (ax ?_);refine aa (.bool false) ?_;refine aw (ag (au (au (ax ?_))));refine bY ?_;refine aa (.int .i64 ((n:Nat):Int)) ?_;refine bY ?_;refine aa (.int .i64 ((n:Nat):Int)) ?_;refine gV (.bool (((n:Nat):Int)!=((n:Nat):Int))) (.bool false) (congrArg Value.bool (neF (by omega))) ?_;refine aw (ag (iu ?_));refine wp_skip (ag (au (ax ?_)));refine aa (.int .u8 0) ?_;refine aw (ag (au (au (ax ?_))));refine bY ?_;refine aa (.int .i64 ((n:Nat):Int)) ?_;refine aa (.int .i64 0) ?_;refine aw (ag (wp_block ?_));refine Ak (λzn za zw=>∃(i:Int) (s:Int) (my:Nat->Value),(zn=(((n:Nat):Int)-i).toNat/\0<=i/\i<=((n:Nat):Int)/\s=Ll f g i.toNat)/\za=⟨#[.slice (some ⟨b,o,none⟩) n c,.slice (some ⟨e,q,none⟩) n k,undef,undef,.bool false,.int .u8 s,(my 6),(my 7),.slice (some ⟨b,o,none⟩) n c,.int .i64 ((n:Nat):Int),.slice (some ⟨e,q,none⟩) n k,.int .i64 ((n:Nat):Int),.bool false,.slice (some ⟨b,o,none⟩) n c,.int .i64 ((n:Nat):Int),.int .i64 i,(my 16),(my 17),(my 18),(my 19),(my 20),(my 21),(my 22),(my 23),(my 24),(my 25),(my 26),(my 27),(my 28),undef,undef],[]⟩/\St [] w [] zw) _ (λzy Dp=>⟨(0:Int),(0:Int),(λd=>zy.tmps.getD d undef),⟨rfl,by omega,by omega,rfl⟩,by subst Dp;kernel_rfl,S0.re (R:=([]:List av)) [] []⟩) ?_;rintro _ _ Dn ⟨i,s,my,⟨rfl,zf2,zf3,Xp⟩,rfl,gw⟩;refine au (ax ?_);refine aa (.bool (decide (i<((n:Nat):Int)))) ?_;refine aw (ag (au ?_));refine jH (decide (i<((n:Nat):Int))) ?_ ?_
 ·intro Xq;have Jv:=FC Xq;refine wp_skip (ag (au (wp_block (au (ax ?_)))));refine aa (.int .i64 i) ?_;refine mw (e:=5) b o (i).toNat n 1 c .i64 i (by omega) (by omega) (by omega) ?_;refine kC b o n (o+(i).toNat*1) (i).toNat f (St.mC gw hB (by simp)) (by omega) (by omega) ?_;refine aa (.int .i64 i) ?_;refine aa (.int .u8 (f (i).toNat)) ?_;refine aw (ag (ax ?_));refine aa (.int .u8 s) ?_;refine aa (.int .u8 (f (i).toNat)) ?_;refine bY ?_;refine aa (.int .i64 i) ?_;refine mw (e:=5) e q (i).toNat n 1 k .i64 i (by omega) (by omega) (by omega) ?_;refine kC e q n (q+(i).toNat*1) (i).toNat g (St.mC gw hE (by simp)) (by omega) (by omega) ?_;refine aa (.int .u8 (bits .xor .u8 (f (i).toNat) (g (i).toNat))) ?_;refine aa (.int .u8 (bits .or .u8 s (bits .xor .u8 (f (i).toNat) (g (i).toNat)))) ?_;refine bJ ?_;refine aw (ik (ag (ax ?_)));refine lz .i64 (i+1) (IntWalk.i64_in _ (by omega)) ?_;refine aa (.int .i64 (i+1)) ?_;refine aw ?_;refine vU λzy Dp=>?_;exact⟨_,by omega,(i+1),(bits .or .u8 s (bits .xor .u8 (f (i).toNat) (g (i).toNat))),(λd=>zy.tmps.getD d undef),⟨rfl,by omega,by omega,Xk i s (by omega) Xp⟩,by subst Dp;kernel_rfl,gw.re (R:=([]:List av)) [] []⟩
 intro Xr;have lR:=FE Xr;refine wp_exit (fy (fy (qh (ag (au (ax ?_))))));refine aa (.int .u8 s) ?_;refine aa (.bool (s==0)) ?_;refine aa (.bool (s==0)) ?_;refine aw (ag (wp_ret ?_));refine gn rfl (fY [.tmp 4] [.bool (s==0)] (.bool (s==0)) ⟨cM,trivial⟩) ?_;exact⟨congrArg Value.bool (by unfold kq;rw[Xp,show i.toNat=n by omega]),gw.ch⟩
end Go.Proofs.YtggfpcggakghnaaGreatDoor
namespace Go.Proofs.YtggfpcggakghnaaGreatDoor
open Go Go.RowKit Go.BigFrame Sx Vx
def du (u:World):List av:=u.heap.toList.zipIdx.map λp=>⟨p.2,false,p.1⟩
theorem qO {u:World} {i:Nat} {o:Obj} (h:u.heap[i]?=some o):(⟨i,false,o⟩:av)∈du u:=by
 unfold du;rw[List.mem_map];exact⟨(o,i),by rw[List.mk_mem_zipIdx_iff_getElem?];simpa using h,rfl⟩
theorem Jw (w:World):St [] w (du w++[]) w:=by
 have:=St.given (w:=w) (w.heap.toList.zipIdx.map λp=>(p.2,p.1)) (by
  intro p hp;obtain⟨q,hq,rfl⟩:=List.mem_map.1 hp;have:=(List.mem_zipIdx_iff_getElem?.1 (show(q.1,q.2)∈w.heap.toList.zipIdx from hq));simpa using this)
 rw[List.append_nil];unfold du;rw[List.map_map]at this;exact this
structure R8 where
 n:Nat
 f:Nat->Int
 b:Nat
 c:Nat
def R8.bl (r:R8):List av:=[⟨r.b,true,.cells (dc r.n r.f r.c) 5 (0,0)⟩]
inductive CG where
 |cn (u:World)
 |row (r:R8)
instance:Bl CG:=⟨λg=>match g with|.cn u=>du u|.row r=>r.bl⟩
def kI:List V->Option (List Int)
 |[]=>some []
 |.int .u8 x::l=>(match kI l with
  |some r=>some (x::r)
  |none=>none)
 |_=>none
theorem jw (ids:List Nat):∀{l:List V} {r:List Int},kI l=some r->ab ids l=eE r.length (gT r)
 |[],r,h=>by cases h;rfl
 |v::l,r,h=>by
  unfold kI at h;split at h
  ·rename_i e;cases e
  ·rename_i x l' e;obtain⟨rfl,rfl⟩:=List.cons.inj e;split at h
   ·rename_i r' hr;cases h;have ih:=jw ids hr;simp only[ab,cl,ih,List.length_cons];unfold eE;rw[List.range_succ_eq_map,List.map_cons,List.map_map];rfl
   ·cases h
  ·cases h
def Xs (o:Nat) (f:Nat->Int):Nat->Int:=match o with
 |0=>f
 |k+1=>Ek f (k+1)
theorem Qn (o:Nat) (f:Nat->Int) (j:Nat):Xs o f j=f (o+j):=by
 cases o with
 |zero=>simp[Xs]
 |succ k=>rfl
def zq:List CG->Option (List CG×R8)
 |[]=>none
 |[.row r]=>some ([],r)
 |g::l=>(match zq l with
  |some (a,r)=>some (g::a,r)
  |none=>none)
theorem qP:∀{ch l:List CG} {r:R8},zq ch=some (l,r)->ch=l++[.row r]
 |[],l,r,h=>by cases h
 |g::t,l,r,h=>by
  unfold zq at h;split at h
  ·cases h
  ·rename_i e;obtain⟨rfl,rfl⟩:=List.cons.inj e;cases h;rfl
  ·rename_i g' t' _ e;obtain⟨rfl,rfl⟩:=List.cons.inj e;split at h
   ·rename_i a r' hr;cases h;rw[qP hr];rfl
   ·cases h
def Xt (bl:List VB) (ch:List CG) (x:V) (X:Bool->Nat->(Nat->Int)->Prop):Prop:=match x with
 |.sl i o (m+1) _=>(match bl[i]?with
  |some ⟨_,⟨_,(0,0)⟩,l⟩=>(match kI l with
   |some r=>o+(m+1)<=r.length/\X true (m+1) (Xs o (gT r))
   |none=>False)
  |_=>False)
 |.raw (.slice (some ⟨b,o,none⟩) m _)=>(match ch with
  |.cn u::_=>∃f,eS u b o m f/\X false m f
  |_=>False)
 |_=>False
theorem vh {u w w0:World} {ms:List Nat} {B:List av} (S:St ms w0 B w) (h:∀y∈du u,y∈B) {b o m:Nat} {f:Nat->Int} (h8:eS u b o m f):eS w b o m f:=λj hj=>by
 have h1:=h8 j hj;unfold World.cell? at h1⊢;cases hh:u.heap[b]?with
 |none=>simp[hh]at h1
 |some ob=>
  have:w.heap[b]?=some ob:=S.at' (h _ (qO hh));simp only[hh,this]at h1⊢;exact h1
theorem Jx {ids:List Nat} {bl:List VB} {ch:List CG} {R:List av} {ms:List Nat} {w0 w:World} (hl:ids.length=bl.length) (S:St ms w0 (lits ids ids bl++af ch R) w) {x:V} {X:Bool->Nat->(Nat->Int)->Prop} (h:Xt bl ch x X):
 ∃b o m c f sure,den ids x=.slice (some ⟨b,o,none⟩) m c/\eS w b o m f/\(sure=true->0<m)/\X sure m f:=by
 unfold Xt at h;split at h
 ·rename_i i o m c;split at h
  ·rename_i wr t l hb;split at h
   ·rename_i r hr;have ba:=(cA hl S hb).2;refine⟨_,_,_,_,_,true,rfl,λj hj=>?_,λ_=>Nat.succ_pos m,h.2⟩;rw[cell_of ba,jw ids hr,Qn];simp only[List.getElem?_toArray];exact je _ (by have:=h.1;omega)
   ·exact h.elim
  ·exact h.elim
 ·rename_i b o m c;split at h
  ·rename_i u rest;obtain⟨f,h8,hX⟩:=h;refine⟨b,o,m,c,f,false,rfl,vh S (λy hy=>?_) h8,(λe=>by cases e),hX⟩;exact List.mem_append_right _ (List.mem_append_left _ hy)
  ·exact h.elim
 ·exact h.elim
def ap8:(Operand->V)->Op->List VB->List CG->VK CG->Prop:=λe op bl ch K=>match op with
 |.call c=>(match c.callee,c.args.toList,c.argTypes.toList with
  |.builtin .append,[s,xs],[t,tx]=>(match prog.underlying t,prog.underlying tx with
   |some (.slice 5),some (.slice _)=>(match e s with
    |.raw (.slice none 0 0)=>Xt bl ch (e xs) λsure m g=>m<=1000000/\
     cond sure (∀b c,m<=c->K (.raw (.slice (some ⟨b,0,none⟩) m c)) bl (ch++[.row ⟨m,g,b,c⟩]))
      ((m=0->K (.raw (.slice none 0 0)) bl ch)/\(0<m->∀b c,m<=c->K (.raw (.slice (some ⟨b,0,none⟩) m c)) bl (ch++[.row ⟨m,g,b,c⟩])))
    |.raw (.slice (some ⟨b,0,none⟩) n c)=>(match zq ch with
     |some (l,r)=>Xt bl ch (e xs) λ_ m g=>(b=r.b/\n=r.n/\c=r.c/\n<=c/\n+m<=1000000/\0<n+m)/\∀b' c',n+m<=c'->K (.raw (.slice (some ⟨b',0,none⟩) (n+m) c')) bl (l++[.row ⟨n+m,bI n r.f g,b',c'⟩])
     |none=>False)
    |_=>False)
   |_,_=>False)
  |_,_,_=>False)
 |.makeSlice t l c=>(match prog.underlying t,e l,e c with
  |some (.slice 5),.int _ (.ofNat 0),.int _ m=>(1<=m/\m<=1000000)/\∀b,K (.raw (.slice (some ⟨b,0,none⟩) 0 m.toNat)) bl (ch++[.row ⟨0,λ_=>0,b,m.toNat⟩])
  |_,_,_=>False)
 |_=>False
theorem Xu {P:Program} {ids:List Nat} {w:World} {t el:TypeId} {n:Nat} {inf:TypeInfo} {k1 k2:IntKind} (hu:P.underlying t=some (.slice el)) (hi:P.info? el=some inf) (hz:j_ P el=some (0+1)) (h0:jo P el=some [.int .u8 0]) (h1:1<=n) (hn:n<=1000000) (hb:inf.bytes<=100):
 (Instr.makeSlice t (.int k1 ((0:Nat):Int)) (.int k2 (n:Int))).run P w=.ok (.slice (some ⟨w.heap.size,0,none⟩) 0 n) (w.alloc (.cells (dc 0 (λ_=>0) n) el)):=by
 obtain⟨v0,z1,z2⟩:=jM (P:=P) (w:=w) (ids:=ids) h0;have hv:v0.cells.size=0+1:=by rw[<-Array.length_toList,z2];rfl
 have Pw:(Array.range (n*(0+1))).map (λi=>v0.cells[i%v0.cells.size]!)=dc 0 (λ_=>0) n:=by
  apply Array.ext';rw[sW v0.cells 0 hv,z2];simp[ab,cl,eE,dc,den]
 have hm:inf.bytes*n<=100000000:=Nat.le_trans (Nat.mul_le_mul hb hn) (by decide);have e1:(decide ((n:Int)<0)||decide ((inf.bytes:Int)*(n:Int)>2^48))=false:=by
  have:(inf.bytes:Int)*(n:Int)<=100000000:=by
   have q:=Int.ofNat_le.2 hm;rw[Int.natCast_mul]at q;exact q
  rw[decide_eq_false (by omega),decide_eq_false (by omega)];rfl
 have e4:(decide ((((0:Nat):Int))<0)||decide ((inf.bytes:Int)*((0:Nat):Int)>2^48))=false:=by simp
 have e2:¬(n*inf.bytes>roomBytes):=by
  have:n*inf.bytes<=100000000:=by rw[Nat.mul_comm];exact hm
  show¬(n*inf.bytes>_);unfold roomBytes;omega
 have e3:¬n*(0+1)=0:=by omega
 simp only[Instr.makeSlice,Sem.run_bind,run_underlying hu,Result.andThen_ok,asInt,asIntOf,Sem.run_pure,qz hi,iw0 hn,iw0 (Nat.zero_le 1000000),e1,e4,Bool.false_or,askRoom,if_neg e2,Int.toNat_natCast,bu hz,if_neg e3,z1];simp only[show decide (((0:Nat):Int)<0)=false by simp,show decide (((0:Nat):Int)>(n:Int))=false by simp,Bool.or_self,Bool.false_eq_true,if_false,Sem.run_bind,Sem.run_pure,Result.andThen_ok,bu hz,if_neg e3,z1];rw[Pw];rfl
theorem Ds {ids:List Nat} {bl:List VB} {l:List CG} {B B' R:List av} {ms:List Nat} {w0 w w':World} (S:St ms w0 ((lits ids ids bl++af l [])++(B++R)) w) {n c:Nat} {f:Nat->Int} {x:Option Addr} (hr:eK 5 n f x c B') (hB:Wr B) (hc:Ch (B.map av.id) w w') (ba:∀y∈B',w'.heap[y.id]?=some y.obj/\((∃u∈B,y.id=u.id)\/w.heap.size<=y.id)) (h0:0<n):
 ∃b,x=some ⟨b,0,none⟩/\n<=c/\St ms w0 (lits ids ids bl++af (l++[.row ⟨n,f,b,c⟩]) R) w':=by
 obtain⟨b,hle,rfl,rfl⟩:=qt hr h0;refine⟨b,rfl,hle,?_⟩;have S2:=S.yE hB hc (λy hy=>(ba y hy).1) (λy hy=>(ba y hy).2) (by simp);have e:lits ids ids bl++af (l++[.row ⟨n,f,b,c⟩]) R=(lits ids ids bl++af l [])++([⟨b,true,.cells (dc n f c) 5 (0,0)⟩]++R):=by
  rw[cV,aW (af [CG.row ⟨n,f,b,c⟩] R) l,List.append_assoc];rfl
 rw[e];exact S2
theorem kZ (ids:List Nat) (bl:List VB) (l:List CG) (r:R8) (R:List av):lits ids ids bl++af (l++[.row r]) R=(lits ids ids bl++af l [])++(r.bl++R):=by
 rw[cV,aW (af [CG.row r] R) l,List.append_assoc];rfl
theorem pr (ids:List Nat) (bl:List VB) (l:List CG) (R:List av):lits ids ids bl++af l R=(lits ids ids bl++af l [])++([]++R):=by
 rw[aW R l,List.append_assoc];rfl
theorem lT (n:Nat) (f g:Nat->Int):bI 0 f g=g:=by funext j;rfl
theorem Gq {gl:Nat->Option Nat}:oA prog gl ap8:=by
 intro e op ids bl ch R ms w0 w K ρ o hg hl S cx ho h;unfold ap8 at h;split at h
 ·rename_i c;split at h
  ·rename_i s xs t tx eU a9 ju;split at h
   ·rename_i T' ht o9;obtain⟨FZ,ar,td⟩:=c;simp only at eU a9 ju;have e2:ar=#[s,xs]:=by rw[<-a9]
    have e3:td=#[t,tx]:=by rw[<-ju]
    subst eU e2 e3;have aF:(prog.info? 5).map (λi=>(i.zero.map (·.cells),i.size,i.bytes))=some (some #[.int .u8 0],1,1):=by kernel_rfl
    split at h
    ·rename_i qc;obtain⟨b,ob,m,c,f,sure,hx,h8,abf,hm,hK⟩:=Jx hl S h;obtain⟨v,w',aY,eZ,x',c',bl',rfl,mT,oC⟩:=mX (P:=prog) (ty:=o.type) (vV 5) (w:=w) (λy hy=>nomatch hy) (FM h8 o9) ht aF (by omega);rw[Nat.zero_add,lT 0]at mT;have Dt:=bP (P:=prog) (ρ:=ρ) (o:=o) ho (sv:=.slice none 0 0) (by rw[cx,qc];rfl) (by rw[cx,hx]) aY;have hK1:0<m->∀b c,m<=c->K (.raw (.slice (some ⟨b,0,none⟩) m c)) bl (ch++[.row ⟨m,f,b,c⟩]):=by
      cases sure with
      |true=>exact λ_=>hK
      |false=>exact hK.2
     have Qo:m=0->K (.raw (.slice none 0 0)) bl ch:=λh0=>by
      cases sure with
      |true=>have:=abf rfl;omega
      |false=>exact hK.1 h0
     rcases Nat.eq_zero_or_pos m with Ah|Ah
     ·have h1:=Qo Ah;subst Ah;obtain⟨i,hi,hi2⟩:=Option.map_eq_some_iff.1 aF;simp only[Prod.mk.injEq]at hi2;have ag2:=bP (P:=prog) (ρ:=ρ) (o:=o) ho (sv:=.slice none 0 0) (by rw[cx,qc];rfl) (by rw[cx,hx]) (run_append_nothing (P:=prog) w t tx o.type 5 i ht hi none 0 0 (Nat.le_refl _) _ (by rw[hi2.2.1];exact FM h8 o9));exact⟨_,[],bl,_,w,.inl (by rw[ag2];simp[den]),by simpa using hl,by simpa using S,h1⟩
     ·obtain⟨b',rfl,hle,S2⟩:=Ds (l:=ch) (B:=[]) (by rw[<-pr];exact S) mT (λy hy=>nomatch hy) (by simpa using eZ) (λy hy=>by simpa using oC y hy) Ah;exact⟨_,[],bl,_,w',.inl (by rw[Dt,Nat.zero_add];simp[den]),by simpa using hl,by simpa using S2,hK1 Ah b' c' hle⟩
    ·rename_i b n c qc;split at h
     ·rename_i l r hlr;obtain rfl:=qP hlr;obtain⟨b1,ob,m,c1,f,sure,hx,h8,abf,⟨rfl,rfl,rfl,vQ,hb,Gs⟩,hK⟩:=Jx hl S h;have S1:=S;rw[kZ]at S1;obtain⟨v,w',aY,eZ,x',c',bl',rfl,mT,oC⟩:=mX (P:=prog) (ty:=o.type) (show eK 5 r.n r.f (some ⟨r.b,0,none⟩) r.c r.bl from⟨vQ,.inr ⟨_,rfl,rfl⟩⟩) (w:=w) (λy hy=>S1.at' (by simp[hy])) (FM h8 o9) ht aF (by omega);have Dt:=bP (P:=prog) (ρ:=ρ) (o:=o) ho (sv:=.slice (some ⟨r.b,0,none⟩) r.n r.c) (by rw[cx,qc];rfl) (by rw[cx,hx]) aY;obtain⟨b',rfl,hle,S2⟩:=Ds S1 mT (Wr.cons rfl Wr.nil) eZ oC Gs;exact⟨_,[],bl,_,w',.inl (by rw[Dt];simp[den]),by simpa using hl,by simpa using S2,hK b' c' hle⟩
     ·exact h.elim
    ·exact h.elim
   ·exact h.elim
  ·exact h.elim
 ·rename_i t l c;split at h
  ·rename_i k1 k2 m hu Fx hec;obtain⟨⟨m1,m2⟩,hK⟩:=h;obtain⟨n,rfl⟩:=Int.eq_ofNat_of_zero_le (show 0<=m by omega);obtain⟨inf,wv,sP⟩:∃inf,prog.info? 5=some inf/\inf.bytes<=100:=⟨_,rfl,Nat.le_of_ble_eq_true (by kernel_rfl)⟩;have aY:=Xu (P:=prog) (ids:=ids) (w:=w) (t:=t) (el:=5) (n:=n) (inf:=inf) (k1:=k1) (k2:=k2) hu wv (by kernel_rfl) (by kernel_rfl) (by omega) (by omega) sP;rw[Int.toNat_natCast]at hK;refine⟨_,[],bl,_,w.alloc (.cells (dc 0 (λ_=>0) n) 5),.inl ?_,by simpa using hl,?_,hK w.heap.size⟩
   ·unfold execOp;have e1:Int.ofNat 0=((0:Nat):Int):=rfl;simp only[ho,cx,Fx,hec,den,Sem.run_bind,e1,aY,Result.andThen_ok,Sem.run_pure]
   ·rw[List.append_nil,kZ];rw[pr]at S;exact S.yE (λy hy=>nomatch hy) (Ch.alloc [] w _) (λy hy=>by
     obtain rfl:=List.mem_singleton.1 hy;exact heap_alloc_new w _) (λy hy=>by
     obtain rfl:=List.mem_singleton.1 hy;exact .inr (Nat.le_refl _)) (by simp[R8.bl])
  ·exact h.elim
 ·exact h.elim
end Go.Proofs.YtggfpcggakghnaaGreatDoor
