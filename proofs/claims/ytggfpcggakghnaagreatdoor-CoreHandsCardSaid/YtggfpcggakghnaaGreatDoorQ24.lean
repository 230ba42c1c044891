/- Part 24 of the proof. -/
import Derived.Test.YtggfpcggakghnaaGreatDoorProg
import Derived.Test.YtggfpcggakghnaaGreatDoorQ23
set_option linter.all false
set_option maxRecDepth 100000
set_option maxHeartbeats 4000000
open Go.Proofs.Tryz
open Go.IntKind (u8 u16 u32 u64 i64)
namespace Go.Proofs.YtggfpcggakghnaaGreatDoor
open Go Go.RowKit Go.BigFrame Sx Vx
variable{fr:Sd.Reply->Nat×Sd.Byt}
def siC:gm (LG fr):=λargs bl ch K=>match args,ch with
 |[.ptr ic 0],.cn u::.core g fB::rest=>(match bl[ic]?with
  |some ⟨true,⟨105,(0,0)⟩,cc⟩=>(match w6 cc with
   |some x=>(match bl[x.it]?with
    |some ⟨true,⟨157,(0,0)⟩,tc⟩=>(match uR tc with
     |some y=>cond (dk bl.length bl&&(Nat.blt 1 ic&&(Nat.blt 1 x.it&&!(Nat.beq ic x.it))))
      ((bl[0]?=some (aG g.d.k)/\bl[1]?=some (iA g.d.k)/\x=Cz g.d.k x.it (lP x y g.d g.dx g.sx)/\y.b=x.p.bh/\y.m=x.p.aR/\x.p.queue=g.d.k.most)/\
        ∀(z:Option Addr) (c ty:Nat) (us:List Value),K (qf bl.length (.agg (oW (lP x y g.d g.dx g.sx) (.oN 0 0 g.d.q.length c z)))) (bl++[Ia ty 1 g.d.q.length (yT g.d.q) us]) (.cn u::.core g fB::rest)) False
     |none=>False)
    |_=>False)
   |none=>False)
  |_=>False)
 |_,_=>False
theorem E4 {bl:List VB} {i:Nat} {b:VB} (h:bl[i]?=some b):bl.set i b=bl:=by
 apply List.ext_getElem?;intro j;rw[List.getElem?_set];split
 ·rename_i hj;subst hj;rw[h];simp[bO h]
 ·rfl
theorem Iq:cT (siC (fr:=fr)):=by
 intro args bl ch K hc;unfold siC at hc⊢;split at hc
 ·split at hc
  ·split at hc
   ·split at hc
    ·split at hc
     ·rename_i y hy;revert hc;cases dk bl.length bl&&_ with
      |false=>exact λh=>h.elim
      |true=>exact λhc=>⟨hc.1,λz c ty us=>⟨hc.2 z c ty us,_,rfl⟩⟩
     ·exact hc.elim
    ·exact hc.elim
   ·exact hc.elim
  ·exact hc.elim
 ·exact hc.elim
end Go.Proofs.YtggfpcggakghnaaGreatDoor
namespace Go.Proofs.YtggfpcggakghnaaGreatDoor
open Go Go.RowKit Go.BigFrame Sx Vx
def u8V:V->Int
 |.int .u8 n=>n
 |_=>0
def Kr:List V->Nat
 |.int .u8 _::l=>Kr l+1
 |_=>0
def CA (l:List V) (o:Nat):Nat->Int:=λj=>u8V (nth l (o+j))
theorem Ir (ids:List Nat):∀(l:List V) (j:Nat),j<Kr l->(ab ids l)[j]?=some (.int .u8 (u8V (nth l j)))
 |[],j,h=>absurd h (Nat.not_lt_zero _)
 |v::l,j,h=>by
  unfold Kr at h;split at h
  ·rename_i n l' e;cases e;cases j with
   |zero=>simp only[ab,cl,den,nth,List.cons_append,List.nil_append];rfl
   |succ j=>
    simp only[ab,cl,den,nth,List.cons_append,List.nil_append,List.getElem?_cons_succ];exact Ir ids l j (by omega)
  ·exact absurd h (Nat.not_lt_zero _)
section
variable{G:Type} [Bl G]
def N3 (P:Program):(Operand->V)->Op->List VB->List G->VK G->Prop:=λe op bl ch K=>match op with
 |.call c=>(match c.callee,c.args.toList,c.argTypes.toList with
  |.builtin .append,[s,xs],[t,tx]=>(match P.underlying t,P.underlying tx with
   |some (.slice 5),some (.slice _)=>(match e s,e xs with
    |.sl i 0 0 0,.sl j o m c=>(match bl[j]?with
     |some b=>cond (dk bl.length bl&&Nat.ble (o+m) (Kr b.c)) ((0<m/\m<=c/\m<=1000000)/\∀d:Nat,K (.sl bl.length 0 m (m+d)) (bl++[dF m d (CA b.c o)]) ch) False
     |none=>False)
    |_,_=>False)
   |_,_=>False)
  |_,_,_=>False)
 |_=>False
theorem vE {gl:Nat->Option Nat}:oA (G:=G) prog gl (N3 prog):=by
 intro e op ids bl ch R ms w0 w K ρ o hg hl S cx ho h;unfold N3 at h;split at h
 ·rename_i c;split at h
  ·rename_i s xs t tx eU a9 ju;split at h
   ·rename_i T ht o9;split at h
    ·rename_i i j q m c' qc ow;split at h
     ·rename_i b hb;cases hq:dk bl.length bl&&Nat.ble (q+m) (Kr b.c)with
      |false=>rw[hq]at h;exact h.elim
      |true=>
       rw[hq]at h;obtain⟨⟨m0,amw,hm⟩,h1⟩:=h;rw[Bool.and_eq_true]at hq;obtain⟨hq,hn⟩:=hq;have hn:=Nat.le_of_ble_eq_true hn;have ba:=(cA hl S hb).2;have hk:cz w (some ⟨ids.getD j 0,q,none⟩) m c' (CA b.c q):=⟨hm,amw,(λe=>nomatch e),λx e k hkm=>by
        obtain rfl:=Option.some.inj e;rw[Addr.add_lit,cell_of ba,List.getElem?_toArray];exact Ir ids b.c (q+k) (by omega)⟩
       have fZ:=FP (P:=prog) hk o9;obtain⟨FZ,ar,td⟩:=c;simp only at eU a9 ju;have e2:ar=#[s,xs]:=by rw[<-a9]
       have e3:td=#[t,tx]:=by rw[<-ju]
       subst eU e2 e3;have sE:ρ s=.slice (some ⟨ids.getD i 0,0,none⟩) 0 0:=by rw[cx,qc];simp only[den]
       have OM:ρ xs=.slice (some ⟨ids.getD j 0,q,none⟩) m c':=by rw[cx,ow];simp only[den]
       obtain⟨c2,w2,aY,eZ,hle,ER⟩:=xU (g:=CA b.c q) (x:=some ⟨ids.getD j 0,q,none⟩) (ty:=o.type) (t:=t) fZ ht m0 (by omega) ⟨ids.getD i 0,0,none⟩;have h2:=h1 (c2-m);rw[show m+(c2-m)=c2 by omega]at h2;refine⟨_,[w.heap.size],_,_,w2,.inl ?_,by simp[hl],?_,h2⟩
       ·rw[bP (P:=prog) (ρ:=ρ) (o:=o) ho sE OM aY];simp only[den];rw[<-hl,cy]
       ·have e:aE (ids++[w.heap.size]) w.heap.size (dF m (c2-m) (CA b.c q))=⟨w.heap.size,true,.cells (dc m (CA b.c q) c2) 5 (0,0)⟩:=by
         unfold aE;rw[jC,show m+(c2-m)=c2 by omega];rfl
        rw[aI _ _ _ _ hl,aJ _ _ (by rw[hl];exact hq)];simp only[lits,e];refine(S.new eZ (Nat.le_refl _) ER).perm ?_;rw[List.append_assoc];exact List.perm_middle.symm
     ·exact h.elim
    ·exact h.elim
   ·exact h.elim
  ·exact h.elim
 ·exact h.elim
end
def UE (cr:(Nat->Int)->Nat->Int):QF:=⟨119,λargs bl=>match args with
 |[.sl i o n c]=>(match bl[i]?with
  |some b=>bif Nat.ble (o+n) (Kr b.c)&&Nat.ble n 1000000 then some (True,.int .u16 (cr (CA b.c o) n))else none
  |none=>none)
 |_=>none⟩
theorem aac (gl:Nat->Option Nat):(UE jT).Ok prog gl:=by
 intro args bl p_ v_ h hp ids w _ hm;unfold UE at h;dsimp only at h;split at h
 ·rename_i i o n c;split at h
  ·rename_i b hb;cases hq:Nat.ble (o+n) (Kr b.c)&&Nat.ble n 1000000 with
   |false=>rw[hq]at h;cases h
   |true=>
    rw[hq]at h;simp only[cond_true,Option.some.injEq,Prod.mk.injEq]at h;obtain⟨rfl,rfl⟩:=h;rw[Bool.and_eq_true]at hq;have h1:=Nat.le_of_ble_eq_true hq.1;have ba:=hm.2 i _ hb;refine ah1 (ids.getD i 0) o n c (CA b.c o) (Nat.le_of_ble_eq_true hq.2) w ?_;intro j hj;rw[cell_of ba,List.getElem?_toArray];exact Ir ids b.c (o+j) (by omega)
  ·cases h
 ·cases h
def nxI (n:Nat) (f:Nat->Int) (hi lo:Int):List Int:=[165,1,(n:Int)]++((List.range n).map f++[hi,lo])
def Is (n:Nat) (f:Nat->Int) (hi lo:Int) (us:List Value):List V:=(nxI n f hi lo).map (λx=>V.int .u8 x)++[.rest us]
def xz (n:Nat) (f:Nat->Int) (hi lo:Int) (us:List Value):List VB:=[⟨false,⟨5,(0,0)⟩,Is n f hi lo us⟩]
def KK (cr:(Nat->Int)->Nat->Int) (n:Nat) (f:Nat->Int) (hi lo:Int) (us:List Value) (d:Nat) (K:VK Empty):Prop:=True/\cond (cr (CA (Is n f hi lo us) 1) (n+2)!=bits .or .u16 (u16.wrap (u16.wrap hi*2^8)) (u16.wrap lo))
 (K (.agg [.int .i64 3,.int .i64 1,.int .i64 12,.raw (.slice none 0 0)]) (xz n f hi lo us) [])
 ((0<n/\n<=d+(n+5)-3/\n<=1000000)/\∀e:Nat,K (.agg [.int .i64 2,.int .i64 ((n+5:Nat):Int),.int .i64 0,.sl 1 0 n (n+e)]) (xz n f hi lo us++[dF n e (CA (Is n f hi lo us) 3)]) [])
def KQ (cr:(Nat->Int)->Nat->Int) (n:Nat) (f:Nat->Int) (hi lo:Int) (us:List Value) (d:Nat) (K:VK Empty):Prop:=cJ (mL prog gv (qL Empty [UE cr]) (N3 prog) vE) 60 48 [.sl 0 0 (n+5) (d+(n+5))] (xz n f hi lo us) [] (cP 1 K)
section
variable(cr:(Nat->Int)->Nat->Int) (f:Nat->Int) (hi lo:Int) (us:List Value) (d:Nat) (K:VK Empty)
theorem amx:KQ cr 3 f hi lo us d K=KK cr 3 f hi lo us d K:=by kernel_rfl
theorem amy:KQ cr 4 f hi lo us d K=KK cr 4 f hi lo us d K:=by kernel_rfl
theorem amz:KQ cr 5 f hi lo us d K=KK cr 5 f hi lo us d K:=by kernel_rfl
theorem amA:KQ cr 6 f hi lo us d K=KK cr 6 f hi lo us d K:=by kernel_rfl
theorem amB:KQ cr 9 f hi lo us d K=KK cr 9 f hi lo us d K:=by kernel_rfl
end
variable{fr:Sd.Reply->Nat×Sd.Byt}
structure LwS (fr:Sd.Reply->Nat×Sd.Byt) (tg tc:TypeId) (u:World) (x:ij) (n:Nat) where
 p:Nat->Int
 m:Nat->Nat
 d:Nat->Nat
 hM:Made x p m
 p2:Sd.Pol
 k:LK
 hN:Uk (kg 4 p m d) (xZ x u) tg tc p2 k
 j:Nat
 hj:j<=n
 s:Sd.Scene
 F:bN fr (bA k s)
 fB:List av
 hC:bd k s
 hp:s.c.p=p2
 v1:cC=F.vs
 v2:cC=F.vr
def preB (tg tc:TypeId) (ops pb:VB) (ky:List VB) (rB:VB):List VB:=gi tg::sf tc::ops::pb::(ky++[rB])
section
variable(C:Sd.Crypt) (tg tc:TypeId) (ty:BT) (u:World) (x:ij) (f:Nat->Nat×Sd.Byt) (o n c:Nat) (a:Option Addr) (os:Nat->Zp) (pre post:List Value)
end
section
variable(C:Sd.Crypt) (tg tc:TypeId) (ty:BT) (u:World) (x:ij) (f:Nat->Nat×Sd.Byt) (o n c:Nat) (a:Option Addr) (os:Nat->Zp) (pre post:List Value) (K:V->Prop)
end
end Go.Proofs.YtggfpcggakghnaaGreatDoor
namespace Go.Proofs.YtggfpcggakghnaaGreatDoor
open Go Go.RowKit Go.BigFrame Sx Vx
variable{fr:Sd.Reply->Nat×Sd.Byt}
section
variable{tg tc:TypeId} {ty:BT} {u:World} {x:ij} {f:Nat->Nat×Sd.Byt} {o n c:Nat} {a:Option Addr} {os:Nat->Zp} {pre post:List Value} {K:V->Prop}
theorem LwS.UC (y:LwS fr tg tc u x n) {s:Sd.Scene} (h:s.c.p=y.p2):EY tg tc 10 y.k s:=Go.Proofs.YtggfpcggakghnaaGreatDoor.UC y.hN.tg y.hN.tc (by rw[h];exact y.hN.most.symm)
end
end Go.Proofs.YtggfpcggakghnaaGreatDoor
namespace Go.Proofs.YtggfpcggakghnaaGreatDoor
open Go Go.RowKit Go.BigFrame Sx Vx
def yC (w:Nat) (s:Int):List V:=(List.range w).map λj=>.int .u8 (aq w (u64.wrap s) j)
def fkX (n m c:Nat) (ac cells:List V) (X:Nat->List Value->Prop):Prop:=
 (n<=c/\eL ac=c*1)/\(∀(c':Nat) (u:List Value),n+m<=c'->eL (cells++[.rest u])=c'*1->X c' u)/\(∀(c':Nat) (u:List Value),n+m<=c'->eL (cells++[.rest u])=c'*1->X c' u)
def N5 (F:Prop) (E:Nat->Nat->List V->List Value->Prop):List (Int×Int×Int×Nat)->Nat->Nat->List V->List V->List Value->Prop
 |[],n,c,ac,cells,u=>E n c cells u
 |(s,lo,hi,w)::fs,n,c,ac,cells,u=>cond (decide (s<lo)) F (cond (decide (s>hi)) F (cond (Int.fdiv (u64.wrap s) (Int.ofNat (2^(8*w)))!=0) F
  (fkX n w c ac (cells++yC w s) λc' u'=>N5 F E fs (n+w) c' (cells++yC w s++[.rest u']) (cells++yC w s) u')))
def KW (k a b c d e:Int) (nc:Nat->Int):V:=.agg [.int .i64 k,.int .i64 a,.int .i64 b,.int .i64 c,.int .i64 d,.int .i64 e,.dC .u8 8 nc]
def xS (x:V) (K:VK Empty):Prop:=cJ (mL prog (λ_=>none) ([]:List (dI Empty)) (Dh prog) lQ) 60 190 [x] [] [] (cP 0 K)
def E5 (k:Int) (fs:List (Int×Int×Int×Nat)) (K:VK Empty):Prop:=N5 (K (.az [.raw (.slice none 0 0),.int .i64 1]) [] []) (λn c cells u=>K (.az [.sl 0 0 n c,.int .i64 0]) [⟨true,⟨5,(0,0)⟩,cells++[.rest u]⟩] []) fs 1 1 [.int .u8 k] [.int .u8 k] []
theorem ajy (s:Int) (K:VK Empty):xS (KW 131 s 0 0 0 0 λ_=>0) K=E5 131 [(s,0,4294967295,4)] K:=by kernel_rfl
theorem ajz (a b c:Int) (K:VK Empty):xS (KW 130 0 a b c 0 λ_=>0) K=E5 130 [(a,0,3,1),(b,0,4,1),(c,0,65535,2)] K:=by kernel_rfl
theorem ajA (s c:Int) (K:VK Empty):xS (KW 132 s 0 0 0 c λ_=>0) K=E5 132 [(s,0,4294967295,4),(c,0,255,1)] K:=by kernel_rfl
theorem ajB (e:Int) (K:VK Empty):xS (KW 133 0 0 0 e 0 λ_=>0) K=E5 133 [(e,0,65535,2)] K:=by kernel_rfl
theorem ajC (w e:Int) (K:VK Empty):xS (KW 134 0 0 w e 0 λ_=>0) K=E5 134 [(w,0,4,1),(e,0,65535,2)] K:=by kernel_rfl
theorem ajD (w e:Int) (K:VK Empty):xS (KW 135 0 0 w e 0 λ_=>0) K=E5 135 [(w,0,4,1),(e,0,65535,2)] K:=by kernel_rfl
theorem ajE (w c:Int) (K:VK Empty):xS (KW 136 0 0 w 0 c λ_=>0) K=E5 136 [(w,0,4,1),(c,0,255,1)] K:=by kernel_rfl
theorem KX (a b:List V):eL (a++b)=eL a+eL b:=by
 induction a with
 |nil=>simp[eL]
 |cons v a ih=>simp only[List.cons_append,eL,ih];omega
theorem afu (w:Nat) (s:Int):eL (yC w s)=w:=by
 have h:∀l:List Nat,eL (l.map λj=>V.int .u8 (aq w (u64.wrap s) j))=l.length:=by
  intro l;induction l with
  |nil=>rfl
  |cons j l ih=>simp only[List.map_cons,eL,ih,List.length_cons];show 1+_=_;omega
 unfold yC;rw[h,List.length_range]
theorem KY {F:Prop} {E:Nat->Nat->List V->List Value->Prop}:∀(fs:List (Int×Int×Int×Nat)) (n c:Nat) (ac cells:List V) (u:List Value),(∀f∈fs,f.2.1<=f.1/\f.1<=f.2.2.1/\0<=f.1/\f.1<18446744073709551616/\f.1<Int.ofNat (2^(8*f.2.2.2)))->n<=c->eL ac=c->n=eL cells->eL (cells++[.rest u])=c->
 (∀c' u',n+(fs.map λf=>f.2.2.2).sum<=c'->eL (cells++(fs.map λf=>yC f.2.2.2 f.1).flatten++[.rest u'])=c'->E (n+(fs.map λf=>f.2.2.2).sum) c' (cells++(fs.map λf=>yC f.2.2.2 f.1).flatten) u')->N5 F E fs n c ac cells u
 |[],n,c,ac,cells,u,_,h1,h2,h3,h4,hE=>by
  have:=hE c u (by simpa using h1) (by simpa using h4);simpa[N5]using this
 |(s,lo,hi,w)::fs,n,c,ac,cells,u,hf,h1,h2,h3,h4,hE=>by
  obtain⟨f1,f2,f3,f5,f4⟩:=hf _ (List.mem_cons_self ..);simp only at f1 f2 f3 f4 f5;have step:∀(c':Nat) (u':List Value),n+w<=c'->eL (cells++yC w s++[.rest u'])=c'*1->N5 F E fs (n+w) c' (cells++yC w s++[.rest u']) (cells++yC w s) u':=by
   intro c' u' g1 g2;rw[Nat.mul_one]at g2;refine KY fs (n+w) c' _ _ u' (λf hm=>hf f (List.mem_cons_of_mem _ hm)) g1 g2 ?_ g2 ?_
   ·rw[KX,afu,h3]
   ·intro c2 u2 g3 g4;have:=hE c2 u2 (by simpa[Nat.add_assoc]using g3) (by simpa[List.append_assoc]using g4);simpa[Nat.add_assoc,List.append_assoc]using this
  unfold N5;refine aU (λh=>absurd (by simpa using h:s<lo) (by omega)) λ_=>aU (λh=>absurd (by simpa using h:hi<s) (by omega)) λ_=>aU (λh=>?_) λ_=>⟨⟨h1,by rw[h2,Nat.mul_one]⟩,step,step⟩;exfalso;have e:Int.fdiv (u64.wrap s) (Int.ofNat (2^(8*w)))=0:=by
   have hd:∀d:Int,0<=d->s<d->Int.fdiv s d=0:=λd h0 h=>by rw[Int.fdiv_eq_ediv_of_nonneg _ h0];exact Int.ediv_eq_zero_of_lt f3 h
   rw[IntKind.wrap_u64,Int.emod_eq_of_lt f3 (by omega)];exact hd _ (Int.natCast_nonneg _) f4
  rw[e]at h;simp at h
theorem UF {k:Int} {fs:List (Int×Int×Int×Nat)} {K:VK Empty} (hf:∀f∈fs,f.2.1<=f.1/\f.1<=f.2.2.1/\0<=f.1/\f.1<18446744073709551616/\f.1<Int.ofNat (2^(8*f.2.2.2)))
 (hK:∀c' u',1+(fs.map λf=>f.2.2.2).sum<=c'->eL ([.int .u8 k]++(fs.map λf=>yC f.2.2.2 f.1).flatten++[.rest u'])=c'->K (.az [.sl 0 0 (1+(fs.map λf=>f.2.2.2).sum) c',.int .i64 0]) [⟨true,⟨5,(0,0)⟩,([.int .u8 k]++(fs.map λf=>yC f.2.2.2 f.1).flatten)++[.rest u']⟩] []):E5 k fs K:=
 KY fs 1 1 _ _ [] hf (Nat.le_refl _) rfl rfl rfl hK
theorem pZ {x:V} {k:Int} {fs:List (Int×Int×Int×Nat)} {n:Nat} (e:∀K,xS x K=E5 k fs K) (hf:∀f∈fs,f.2.1<=f.1/\f.1<=f.2.2.1/\0<=f.1/\f.1<18446744073709551616/\f.1<Int.ofNat (2^(8*f.2.2.2))) (hn:1+(fs.map λf=>f.2.2.2).sum=n) {g:Nat->Int}
 (hg:∀j,j<n->∀u:List Value,(ab [] (([.int .u8 k]++(fs.map λf=>yC f.2.2.2 f.1).flatten)++[.rest u]))[j]?=some (.int .u8 (g j))) (hw:cH 0 (([.int .u8 k]++(fs.map λf=>yC f.2.2.2 f.1).flatten))=true) (w:World):
 aj prog 190 (ao [] [x]).toArray w λv w1=>∃b c1,v=.tuple #[.slice (some ⟨b,0,none⟩) n c1,.int .i64 0]/\n<=c1/\w.heap.size<=b/\eS w1 b 0 n g/\Ch [] w w1:=by
 have h:xS x λv b _=>∃c u,v=.az [.sl 0 0 n c,.int .i64 0]/\b=[⟨true,⟨5,(0,0)⟩,([.int .u8 k]++(fs.map λf=>yC f.2.2.2 f.1).flatten)++[.rest u]⟩]/\n<=c:=by
  rw[e];exact UF hf λc u h1 h2=>⟨c,u,by rw[hn],rfl,by omega⟩
 refine(bw (ai.nil (G:=Empty) (P:=prog) (gl:=λ_=>none)).T (ai.nil (G:=Empty) (P:=prog) (gl:=λ_=>none)).Q 60 (C:=mL prog (λ_=>none) ([]:List (dI Empty)) (Dh prog) lQ) (ids:=[]) (bl:=[]) (ch:=[]) (R:=[]) Gl.none rfl (St.nil [] w) h).mono ?_;rintro v w' ⟨y,more,bl',ch',rfl,h1,S',hK⟩;obtain⟨v2,aP,bl2,e2,gx,S2,c,u,rfl,rfl,hc⟩:=c9 (n0:=0) h1 (by simp) S' hK
 match aP,gx,S2,e2 with
 |[b],_,S2,e2=>
  have S3:St [] w ([aE [b] b ⟨true,⟨5,(0,0)⟩,([.int .u8 k]++(fs.map λf=>yC f.2.2.2 f.1).flatten)++[.rest u]⟩]) w':=match ch',S2 with
   |[],S2=>S2
   |e::_,_=>nomatch e
  refine⟨b,c,e2,hc,(S3.own 0 _ rfl rfl).resolve_left (by simp),?_,S3.ch⟩;intro j hj;have ba:w'.heap[b]?=some (.cells (ab [b] (([.int .u8 k]++(fs.map λf=>yC f.2.2.2 f.1).flatten)++[.rest u])).toArray 5 (0,0)):=S3.at_ 0 _ rfl;have hd:=hg j hj u;have e3:ab [b] (([.int .u8 k]++(fs.map λf=>yC f.2.2.2 f.1).flatten)++[.rest u])=ab [] (([.int .u8 k]++(fs.map λf=>yC f.2.2.2 f.1).flatten)++[.rest u]):=by
   have gen:∀L:List V,cH 0 L=true->ab [b] (L++[.rest u])=ab [] (L++[.rest u]):=λL hL=>by
    rw[bo,bo];have q:=bU (ids:=[]) (more:=[b]) L hL;simp only[List.nil_append]at q;rw[q];rfl
   exact gen _ hw
  rw[Nat.zero_add,cell_of ba,e3];simpa using hd
 |[],h,_,_=>simp at h
 |_::_::_,h,_,_=>simp at h
theorem ajF (wh co:Int) (It:0<=wh/\wh<=4) (KT:0<=co/\co<=255) (w:World):aj prog 190 (ao [] [KW 136 0 0 wh 0 co λ_=>0]).toArray w λv w1=>∃b c1,v=.tuple #[.slice (some ⟨b,0,none⟩) 3 c1,.int .i64 0]/\3<=c1/\w.heap.size<=b/\eS w1 b 0 3 (gT [136,aq 1 (u64.wrap wh) 0,aq 1 (u64.wrap co) 0])/\Ch [] w w1:=
 pZ (n:=3) (λK=>ajE wh co K) (λf hm=>by
  rcases List.mem_cons.1 hm with rfl|hm
  ·exact⟨It.1,It.2,It.1,by omega,by show wh<256;omega⟩
  rcases List.mem_cons.1 hm with rfl|hm
  ·exact⟨KT.1,KT.2,KT.1,by omega,by show co<256;omega⟩
  cases hm) rfl (λj hj u=>by
  rcases(by omega:j=0\/j=1\/j=2)with rfl|rfl|rfl<;>rfl) rfl w
theorem ajG (sq:Int) (vF:0<=sq/\sq<=4294967295) (w:World):aj prog 190 (ao [] [KW 131 sq 0 0 0 0 λ_=>0]).toArray w λv w1=>∃b c1,v=.tuple #[.slice (some ⟨b,0,none⟩) 5 c1,.int .i64 0]/\5<=c1/\w.heap.size<=b/\eS w1 b 0 5 (gT [131,aq 4 (u64.wrap sq) 0,aq 4 (u64.wrap sq) 1,aq 4 (u64.wrap sq) 2,aq 4 (u64.wrap sq) 3])/\Ch [] w w1:=
 pZ (n:=5) (λK=>ajy sq K) (λf hm=>by
  rcases List.mem_cons.1 hm with rfl|hm
  ·exact⟨vF.1,vF.2,vF.1,by omega,by show sq<4294967296;omega⟩
  cases hm) rfl (λj hj u=>by
  rcases(by omega:j=0\/j=1\/j=2\/j=3\/j=4)with rfl|rfl|rfl|rfl|rfl<;>rfl) rfl w
theorem ajH (ro wh ep:Int) (hro:0<=ro/\ro<=3) (It:0<=wh/\wh<=4) (Iu:0<=ep/\ep<=65535) (w:World):aj prog 190 (ao [] [KW 130 0 ro wh ep 0 λ_=>0]).toArray w λv w1=>∃b c1,v=.tuple #[.slice (some ⟨b,0,none⟩) 5 c1,.int .i64 0]/\5<=c1/\w.heap.size<=b/\eS w1 b 0 5 (gT [130,aq 1 (u64.wrap ro) 0,aq 1 (u64.wrap wh) 0,aq 2 (u64.wrap ep) 0,aq 2 (u64.wrap ep) 1])/\Ch [] w w1:=
 pZ (n:=5) (λK=>ajz ro wh ep K) (λf hm=>by
  rcases List.mem_cons.1 hm with rfl|hm
  ·exact⟨hro.1,hro.2,hro.1,by omega,by show ro<256;omega⟩
  rcases List.mem_cons.1 hm with rfl|hm
  ·exact⟨It.1,It.2,It.1,by omega,by show wh<256;omega⟩
  rcases List.mem_cons.1 hm with rfl|hm
  ·exact⟨Iu.1,Iu.2,Iu.1,by omega,by show ep<65536;omega⟩
  cases hm) rfl (λj hj u=>by
  rcases(by omega:j=0\/j=1\/j=2\/j=3\/j=4)with rfl|rfl|rfl|rfl|rfl<;>rfl) rfl w
theorem ajI (sq co:Int) (vF:0<=sq/\sq<=4294967295) (KT:0<=co/\co<=255) (w:World):aj prog 190 (ao [] [KW 132 sq 0 0 0 co λ_=>0]).toArray w λv w1=>∃b c1,v=.tuple #[.slice (some ⟨b,0,none⟩) 6 c1,.int .i64 0]/\6<=c1/\w.heap.size<=b/\eS w1 b 0 6 (gT [132,aq 4 (u64.wrap sq) 0,aq 4 (u64.wrap sq) 1,aq 4 (u64.wrap sq) 2,aq 4 (u64.wrap sq) 3,aq 1 (u64.wrap co) 0])/\Ch [] w w1:=
 pZ (n:=6) (λK=>ajA sq co K) (λf hm=>by
  rcases List.mem_cons.1 hm with rfl|hm
  ·exact⟨vF.1,vF.2,vF.1,by omega,by show sq<4294967296;omega⟩
  rcases List.mem_cons.1 hm with rfl|hm
  ·exact⟨KT.1,KT.2,KT.1,by omega,by show co<256;omega⟩
  cases hm) rfl (λj hj u=>by
  rcases(by omega:j=0\/j=1\/j=2\/j=3\/j=4\/j=5)with rfl|rfl|rfl|rfl|rfl|rfl<;>rfl) rfl w
theorem ajJ (ep:Int) (Iu:0<=ep/\ep<=65535) (w:World):aj prog 190 (ao [] [KW 133 0 0 0 ep 0 λ_=>0]).toArray w λv w1=>∃b c1,v=.tuple #[.slice (some ⟨b,0,none⟩) 3 c1,.int .i64 0]/\3<=c1/\w.heap.size<=b/\eS w1 b 0 3 (gT [133,aq 2 (u64.wrap ep) 0,aq 2 (u64.wrap ep) 1])/\Ch [] w w1:=
 pZ (n:=3) (λK=>ajB ep K) (λf hm=>by
  rcases List.mem_cons.1 hm with rfl|hm
  ·exact⟨Iu.1,Iu.2,Iu.1,by omega,by show ep<65536;omega⟩
  cases hm) rfl (λj hj u=>by
  rcases(by omega:j=0\/j=1\/j=2)with rfl|rfl|rfl<;>rfl) rfl w
theorem ajK (wh ep:Int) (It:0<=wh/\wh<=4) (Iu:0<=ep/\ep<=65535) (w:World):aj prog 190 (ao [] [KW 134 0 0 wh ep 0 λ_=>0]).toArray w λv w1=>∃b c1,v=.tuple #[.slice (some ⟨b,0,none⟩) 4 c1,.int .i64 0]/\4<=c1/\w.heap.size<=b/\eS w1 b 0 4 (gT [134,aq 1 (u64.wrap wh) 0,aq 2 (u64.wrap ep) 0,aq 2 (u64.wrap ep) 1])/\Ch [] w w1:=
 pZ (n:=4) (λK=>ajC wh ep K) (λf hm=>by
  rcases List.mem_cons.1 hm with rfl|hm
  ·exact⟨It.1,It.2,It.1,by omega,by show wh<256;omega⟩
  rcases List.mem_cons.1 hm with rfl|hm
  ·exact⟨Iu.1,Iu.2,Iu.1,by omega,by show ep<65536;omega⟩
  cases hm) rfl (λj hj u=>by
  rcases(by omega:j=0\/j=1\/j=2\/j=3)with rfl|rfl|rfl|rfl<;>rfl) rfl w
theorem ajL (wh ep:Int) (It:0<=wh/\wh<=4) (Iu:0<=ep/\ep<=65535) (w:World):aj prog 190 (ao [] [KW 135 0 0 wh ep 0 λ_=>0]).toArray w λv w1=>∃b c1,v=.tuple #[.slice (some ⟨b,0,none⟩) 4 c1,.int .i64 0]/\4<=c1/\w.heap.size<=b/\eS w1 b 0 4 (gT [135,aq 1 (u64.wrap wh) 0,aq 2 (u64.wrap ep) 0,aq 2 (u64.wrap ep) 1])/\Ch [] w w1:=
 pZ (n:=4) (λK=>ajD wh ep K) (λf hm=>by
  rcases List.mem_cons.1 hm with rfl|hm
  ·exact⟨It.1,It.2,It.1,by omega,by show wh<256;omega⟩
  rcases List.mem_cons.1 hm with rfl|hm
  ·exact⟨Iu.1,Iu.2,Iu.1,by omega,by show ep<65536;omega⟩
  cases hm) rfl (λj hj u=>by
  rcases(by omega:j=0\/j=1\/j=2\/j=3)with rfl|rfl|rfl|rfl<;>rfl) rfl w
def Iv (nc:Nat->Int):List V:=[.int .i64 129,.int .i64 0,.int .i64 0,.int .i64 0,.int .i64 0,.int .i64 0,.int .u8 (nc 0),.int .u8 (nc 1),.int .u8 (nc 2),.int .u8 (nc 3),.int .u8 (nc 4),.int .u8 (nc 5),.int .u8 (nc 6),.int .u8 (nc 7)]
def Cb (nc:Nat->Int):VB:=⟨true,⟨40,(0,0)⟩,Iv nc⟩
def E6 (j:Nat):List V:=[.int .i64 1,.int .i64 0,.int .i64 255,.fn 173 [] [.ptr j 0],.fn 174 [] [.ptr j 0]]
def amC (u:List Value):VB:=⟨true,⟨175,(0,0)⟩,E6 2++(E6 3++(E6 4++(E6 5++(E6 6++(E6 7++(E6 8++(E6 9++[.rest u])))))))⟩
def bx9:List VB:=(List.range 8).map λj=>⟨true,⟨220,(0,0)⟩,[.ptr 0 (6+j)]⟩
def mI (nc:Nat->Int) (u:List Value):List VB:=Cb nc::amC u::bx9
def LC (n:Nat) (u:List Value) (c:Nat):Prop:=eL (List.replicate (5*n) (V.bool true)++[.rest u])=c*5
def UG (X:Nat->List Value->Prop):Nat->Nat->Nat->List Value->Prop
 |0,_,c,u=>X c u
 |k+1,n,c,u=>(n<=c/\LC n u c)/\(∀(c':Nat) (u':List Value),n+1<=c'->LC (n+1) u' c'->UG X k (n+1) c' u')/\(∀(c':Nat) (u':List Value),n+1<=c'->LC (n+1) u' c'->UG X k (n+1) c' u')
theorem Cn {X:Nat->List Value->Prop}:∀(k n c:Nat) (u:List Value),n<=c->LC n u c->(∀c u,n+k<=c->LC (n+k) u c->X c u)->UG X k n c u
 |0,_,c,u,h1,h2,hX=>hX c u h1 h2
 |k+1,n,c,u,h1,h2,hX=>by
  have st:∀(c':Nat) (u':List Value),n+1<=c'->LC (n+1) u' c'->UG X k (n+1) c' u':=λc' u' a b=>Cn k (n+1) c' u' a b λc u d e=>hX c u (by omega) (by rw[show n+(k+1)=n+1+k by omega];exact e);exact⟨⟨h1,h2⟩,st,st⟩
def Zu (n:Nat) (f:FuncId) (args:List V) (bl:List VB) (K:VK Empty):Prop:=cJ (mL prog (λ_=>none) ([]:List (dI Empty)) (P1 prog) vg) n f args bl [] K
def tV (k:Nat) (x:Int) (pre post:List Value):List VB:=[⟨false,⟨220,(0,0)⟩,[.pe 1 k 0 1 0]⟩,⟨false,⟨40,(0,0)⟩,[.rest pre,.fp 1 1 λ_=>[.int .u8 x],.rest post]⟩]
def afv (x:Int):Int:=u8.wrap (Int.fdiv (u64.wrap (i64.wrap x)) (2^0))
def ajM (k:Nat) (x:Int) (pre post:List Value) (K:VK Empty):Prop:=(k=pre.length/\0<1/\∀_:Nat,[Value.int .u8 x].length=1)/\cond (decide (i64.wrap x<0)) (K (.az [.raw (.slice none 0 0),.bool false]) (tV k x pre post) [])
 (cond (decide (i64.wrap x>255)) (K (.az [.raw (.slice none 0 0),.bool false]) (tV k x pre post) []) (cond (Int.fdiv (u64.wrap (i64.wrap x)) (Int.ofNat (2^(8*1)))!=0) (K (.az [.raw (.slice none 0 0),.bool false]) (tV k x pre post) [])
  (K (.az [.sl 2 0 1 1,.bool true]) (tV k x pre post++[⟨true,⟨5,(0,0)⟩,[.int .u8 (afv x)]⟩]) [])))
theorem afw (k:Nat) (x:Int) (pre post:List Value) (K:VK Empty):Zu 60 118 [.agg [.int .i64 1,.int .i64 0,.int .i64 255,.fn 173 [] [.ptr 0 0],.fn 174 [] [.ptr 0 0]]] (tV k x pre post) (cP 2 K)=ajM k x pre post K:=by kernel_rfl
theorem aad {x:Int} (h:0<=x/\x<=255):afv x=x:=by
 unfold afv;rw[kF (by omega),IntKind.wrap_u64,Int.emod_eq_of_lt (by omega) (by omega)];rw[show(2:Int)^0=1 from rfl,Int.fdiv_one,IntKind.wrap_u8,Int.emod_eq_of_lt (by omega) (by omega)]
theorem aae {k:Nat} {x:Int} {pre post:List Value} {K:VK Empty} (hk:k=pre.length) (h:0<=x/\x<=255) (hK:K (.az [.sl 2 0 1 1,.bool true]) (tV k x pre post++[⟨true,⟨5,(0,0)⟩,[.int .u8 x]⟩]) []):ajM k x pre post K:=by
 have e1:i64.wrap x=x:=kF (by omega);have e2:Int.fdiv (u64.wrap x) (Int.ofNat (2^(8*1)))=0:=by
  rw[IntKind.wrap_u64,Int.emod_eq_of_lt (by omega) (by omega),show Int.ofNat (2^(8*1))=256 from rfl,Int.fdiv_eq_ediv_of_nonneg _ (by omega)];omega
 refine⟨⟨hk,by omega,λ_=>rfl⟩,aU (λa=>?_) λ_=>aU (λa=>?_) λ_=>aU (λa=>?_) λ_=>?_⟩
 ·rw[e1]at a;exact absurd (of_decide_eq_true a) (by omega)
 ·rw[e1]at a;exact absurd (of_decide_eq_true a) (by omega)
 ·rw[e1,e2]at a;cases a
 ·rw[aad h];exact hK
theorem Co {n f n0:Nat} {args:List V} {bl:List VB} {K:VK Empty} (h:Mm (Zu n f args bl (cP n0 K))) {ids:List Nat} (hl:ids.length=bl.length) (hn:n0<=ids.length) {bs:List av} {ms:List Nat} {w0 w:World} (S:St ms w0 (lits ids ids bl++bs) w):
 aj prog f (ao ids args).toArray w λv w1=>∃x more b,v=den (ids.take n0++more) x/\(ids.take n0++more).length=b.length/\St ms w0 (lits (ids.take n0++more) (ids.take n0++more) b++bs) w1/\K x b []:=by
 refine(bw (ai.nil (G:=Empty) (P:=prog) (gl:=λ_=>none)).T (ai.nil (G:=Empty) (P:=prog) (gl:=λ_=>none)).Q n (C:=mL prog (λ_=>none) ([]:List (dI Empty)) (P1 prog) vg) (ids:=ids) (bl:=bl) (ch:=[]) (R:=bs) Gl.none hl S h.h).mono ?_;rintro v w' ⟨y,more,bl',ch',rfl,h1,S',hK⟩
 match ch',S',hK with
 |[],S',hK=>
  obtain⟨v2,aP,bl2,e,gx,S2,hK⟩:=c9 (n0:=n0) h1 (by simp;omega) S' hK;rw[List.take_append_of_le_length hn]at e gx S2;exact⟨v2,aP,bl2,e,gx,S2,hK⟩
 |e::_,_,_=>nomatch e
theorem aaf {q r k:Nat} {x:Int} {pre post:List Value} {w:World} {f1 f2:Nat×Nat} (WY:f1=(0,0)) (WZ:f2=(0,0)) (hq:w.heap[q]?=some (.cells #[.pointer (some ⟨r,k,none⟩)] 220 f1)) (hr:w.heap[r]?=some (.cells (pre++(.int .u8 x::post)).toArray 40 f2)) (hk:k=pre.length) (h:0<=x/\x<=255):
 aj prog 118 #[.agg #[.int .i64 1,.int .i64 0,.int .i64 255,.func (.func 173) #[] #[.pointer (some ⟨q,0,none⟩)],.func (.func 174) #[] #[.pointer (some ⟨q,0,none⟩)]]] w λv w1=>∃b,v=.tuple #[.slice (some ⟨b,0,none⟩) 1 1,.bool true]/\St [] w [⟨b,true,.cells #[.int .u8 x] 5 (0,0)⟩] w1:=by
 subst WY WZ;have S:St [] w (lits [q,r] [q,r] (tV k x pre post)++[]) w:=by
  have:=St.given (w:=w) [(q,.cells #[.pointer (some ⟨r,k,none⟩)] 220 (0,0)),(r,.cells (pre++(.int .u8 x::post)).toArray 40 (0,0))] (by
   intro p hp;simp only[List.mem_cons,List.not_mem_nil,or_false]at hp;rcases hp with rfl|rfl
   ·exact hq
   ·exact hr)
  have e:lits [q,r] [q,r] (tV k x pre post)=[⟨q,false,.cells #[.pointer (some ⟨r,k,none⟩)] 220 (0,0)⟩,⟨r,false,.cells (pre++(.int .u8 x::post)).toArray 40 (0,0)⟩]:=by
   simp[lits,aE,tV,ab,cl,den,List.range_succ]
  rw[e];exact this
 have hx:Mm (Zu 60 118 [.agg [.int .i64 1,.int .i64 0,.int .i64 255,.fn 173 [] [.ptr 0 0],.fn 174 [] [.ptr 0 0]]] (tV k x pre post) (cP 2 λv b _=>v=.az [.sl 2 0 1 1,.bool true]/\b=tV k x pre post++[⟨true,⟨5,(0,0)⟩,[.int .u8 x]⟩])):=⟨by rw[afw];exact aae hk h ⟨rfl,rfl⟩⟩;have mT:=Co hx (ids:=[q,r]) rfl (by simp) S;clear hx;refine mT.mono ?_;rintro v w' ⟨y,more,b,rfl,hl,S',rfl,rfl⟩
 match more,hl with
 |[b],_=>
  refine⟨b,rfl,?_⟩;have e:lits ([q,r].take 2++[b]) ([q,r].take 2++[b]) (tV k x pre post++[⟨true,⟨5,(0,0)⟩,[.int .u8 x]⟩])=lits [q,r,b] [q,r] (tV k x pre post)++[⟨b,true,.cells #[.int .u8 x] 5 (0,0)⟩]:=rfl;rw[e]at S';exact(S'.sub (List.sublist_append_left _ _)).sub (List.sublist_append_right _ _)
def afx {G:Type}:gm G:=λargs bl ch K=>match args with
 |[.agg [.int .i64 1,.int .i64 0,.int .i64 255,.fn 173 [] [.ptr q 0],.fn 174 [] [.ptr q' 0]]]=>(match bl[q]?with
  |some ⟨_,⟨220,(0,0)⟩,[.ptr r k]⟩=>(match bl[r]?with
   |some ⟨_,⟨40,(0,0)⟩,c⟩=>(match takeN c k with
    |some (_,.int .u8 x::_)=>cond (Nat.beq q q'&&dk bl.length bl) ((0<=x/\x<=255)/\K (.az [.sl bl.length 0 1 1,.bool true]) (bl++[⟨true,⟨5,(0,0)⟩,[.int .u8 x]⟩]) ch) False
    |_=>False)
   |_=>False)
  |_=>False)
 |_=>False
theorem Iw {G:Type} [Bl G] (gl:Nat->Option Nat):Sound (G:=G) prog gl 118 afx:=by
 intro args ids bl ch R ms w0 w K hg hl S hc;unfold afx at hc;split at hc
 ·rename_i q q';split at hc
  ·rename_i w1 r k Mg;split at hc
   ·rename_i w2 c hbr;split at hc
    ·rename_i a x b ht;cases hq:Nat.beq q q'&&dk bl.length bl with
     |false=>rw[hq]at hc;exact hc.elim
     |true=>
      rw[hq]at hc;simp only[Bool.and_eq_true]at hq;obtain⟨hx,hK⟩:=hc;obtain rfl:=Nat.eq_of_beq_eq_true hq.1;have h1:=(cA hl S Mg).2;have h2:=(cA hl S hbr).2;obtain⟨t1,t2⟩:=m9 (ids:=ids) ht;rw[t1]at h2;have e2:ab ids (.int .u8 x::b)=.int .u8 x::ab ids b:=rfl;rw[e2]at h2;have e0:(ao ids [.agg [.int .i64 1,.int .i64 0,.int .i64 255,.fn 173 [] [.ptr q 0],.fn 174 [] [.ptr q 0]]]).toArray=#[.agg #[.int .i64 1,.int .i64 0,.int .i64 255,.func (.func 173) #[] #[.pointer (some ⟨ids.getD q 0,0,none⟩)],.func (.func 174) #[] #[.pointer (some ⟨ids.getD q 0,0,none⟩)]]]:=rfl;rw[e0];refine(aaf (q:=ids.getD q 0) (r:=ids.getD r 0) (k:=k) rfl rfl h1 h2 t2.symm hx).mono ?_;rintro v w' ⟨b',rfl,T⟩;have S2:=S.beside T (Wr.cons rfl Wr.nil);refine⟨_,[b'],_,ch,?_,by simp[hl],?_,hK⟩
      ·simp only[den,ao,<-hl,cy]
      ·rw[aI _ _ _ _ hl,aJ _ _ (by rw[hl];exact hq.2)];rw[List.append_assoc];exact S2.perm (List.perm_append_comm_assoc [_] (lits ids ids bl) (af ch R))
    ·exact hc.elim
   ·exact hc.elim
  ·exact hc.elim
 ·exact hc.elim
def afy (P:Program):(Operand->V)->Op->List VB->List aC->VK aC->Prop:=λe op bl ch K=>match op with
 |.call c=>(match c.callee,c.args.toList,c.argTypes.toList with
  |.builtin .append,[s,xs],[t,tx]=>(match P.underlying t,P.underlying tx with
   |some (.slice T),some (.slice _)=>(match gZ P T,e s,e xs with
    |some (z,cX),.sl j 0 n c,.sl i 0 (m+1) _=>(match bl[j]?,bl[i]?with
     |some ⟨_,⟨_,(0,0)⟩,ac⟩,some b=>(match CN ac 0 (n*z)with
      |some C=>cond (Nat.beq n c&&(Nat.beq (eL ac) (c*z)&&(Nat.beq (eL b.c) ((m+1)*z)&&(mY b.c&&(Nat.ble cX 10000000&&(Nat.ble (n+(m+1)) 1000000&&(cH 0 C&&cH 0 b.c)))))))
       (∀(x:Option Addr) (c':Nat) (bk:List av) (h:fa z T (ab [] C++ab [] b.c) x (n+(m+1)) c' bk),K (.raw (.slice x (n+(m+1)) c')) bl (⟨T,z,ab [] C++ab [] b.c,x,n+(m+1),c',bk,h⟩::ch)) False
      |none=>False)
     |_,_=>False)
    |_,_,_=>False)
   |_,_=>False)
  |_,_,_=>False)
 |_=>False
theorem aag {P:Program} {gl:Nat->Option Nat}:oA P gl (afy P):=by
 intro e op ids bl ch R ms w0 w K ρ o hg hl S cx ho h;unfold afy at h;split at h
 ·rename_i c;split at h
  ·rename_i s xs t tx eU a9 ju;split at h
   ·rename_i T T' ht o9;split at h
    ·rename_i z cX j n cc i m Fw aF qc ow;split at h
     ·rename_i wr Ta ac b ha hb;split at h
      ·rename_i C hC;cases hq:Nat.beq n cc&&(Nat.beq (eL ac) (cc*z)&&(Nat.beq (eL b.c) ((m+1)*z)&&(mY b.c&&(Nat.ble cX 10000000&&(Nat.ble (n+(m+1)) 1000000&&(cH 0 C&&cH 0 b.c))))))with
       |false=>rw[hq]at h;exact h.elim
       |true=>
        rw[hq]at h;simp only[cond_true]at h;simp only[Bool.and_eq_true]at hq;obtain⟨q1,q2,q3,q4,q5,q6,q8,q9⟩:=hq;obtain rfl:=Nat.eq_of_beq_eq_true q1;have q2:=Nat.eq_of_beq_eq_true q2;have q3:=Nat.eq_of_beq_eq_true q3;have q5:=Nat.le_of_ble_eq_true q5;have q6:=Nat.le_of_ble_eq_true q6;have ba:=(cA hl S hb).2;have acw:=(cA hl S ha).2;obtain⟨g1,g2,g3⟩:=km (ids:=ids) hC;rw[List.drop_zero]at g1;have e1:∀l:List V,cH 0 l=true->ab ids l=ab [] l:=λl hw=>bU (ids:=[]) (more:=ids) l hw;have UH:ab ids ac=ab [] C:=by rw[<-e1 C q8,<-g1,List.take_of_length_le (by rw[cL,q2];exact Nat.le_refl _)]
        obtain⟨inf,wv,hi⟩:=Option.map_eq_some_iff.1 (jR aF);simp only[Prod.mk.injEq]at hi;obtain⟨hz,iM,sP⟩:=hi;obtain⟨z0,Cv,FI⟩:=Option.map_eq_some_iff.1 hz;have qJ:(ab ids b.c).length=(m+1)*z:=by rw[cL,q3]
        have fZ:Src P z tx (.slice (some ⟨ids.getD i 0,0,none⟩) (m+1) Fw) (m+1) (ab [] b.c) w:=by
         rw[<-e1 b.c q9];refine Src.ofSlice w o9 ⟨ids.getD i 0,0,none⟩ (m+1) Fw _ qJ (λj u hj=>?_) (λu hu=>lJ q4 u hu);rw[Addr.add_lit,cell_of ba];simpa using hj
        have PV:w.heap[ids.getD j 0]?=some (.cells (ab [] C++[]).toArray Ta (0,0)):=by rw[List.append_nil,<-UH];exact acw
        have AD:(n+(m+1))*cX<=140737488355328:=Nat.le_trans (Nat.mul_le_mul q6 q5) (by decide);have hold:(Builtin.firstCells inf.size n (.slice (some ⟨ids.getD j 0,0,none⟩) n n)).run P w.drew=.ok (ab [] C).toArray w.drew:=by
         refine run_firstCells_some (P:=P) w.drew inf.size n ⟨ids.getD j 0,0,none⟩ n n (ab [] C) (by rw[<-UH,cL,q2,iM]) (λk v hk=>?_);rw[Addr.add_lit];have:w.drew.cell? ⟨ids.getD j 0,0+k,none⟩=w.cell? ⟨ids.getD j 0,k,none⟩:=by simp
         rw[this,cell_of PV,List.append_nil];simpa using hk
        have aY:=run_append_grow_src (P:=P) w t tx o.type T inf z0 ht wv Cv (some ⟨ids.getD j 0,0,none⟩) n n (ab [] C) hold (.slice (some ⟨ids.getD i 0,0,none⟩) (m+1) Fw) (m+1) (ab [] b.c) (by rw[iM];exact fZ) (by omega) (by omega) (by rw[sP];exact growslice_fits (by omega) AD);have jI:=grownCap_ge w (n+(m+1)) n T;obtain⟨FZ,ar,td⟩:=c;simp only at eU a9 ju;have e2:ar=#[s,xs]:=by rw[<-a9]
        have e3:td=#[t,tx]:=by rw[<-ju]
        subst eU e2 e3;have sE:ρ s=.slice (some ⟨ids.getD j 0,0,none⟩) n n:=by rw[cx,qc];simp only[den]
        have OM:ρ xs=.slice (some ⟨ids.getD i 0,0,none⟩) (m+1) Fw:=by rw[cx,ow];simp only[den]
        let tl:=(Builtin.zeroCells z0.cells (grownCap w (n+(m+1)) n T-(n+(m+1)))).toList
        have j7:fa z T (ab [] C++ab [] b.c) (some ⟨w.heap.size,0,none⟩) (n+(m+1)) (grownCap w (n+(m+1)) n T) [⟨w.heap.size,true,.cells ((ab [] C++ab [] b.c)++tl).toArray T (0,0)⟩]:=by
         have l1:(ab [] C).length=n*z:=by rw[<-UH,cL,q2]
         have l2:(ab [] b.c).length=(m+1)*z:=by rw[<-e1 b.c q9,qJ]
         refine⟨by rw[List.length_append,l1,l2,<-Nat.add_mul],jI,.inr ⟨_,tl,rfl,rfl,?_⟩⟩;rw[List.length_append,List.length_append,l1,l2,Array.length_toList,size_zeroCells,FI,<-Nat.add_mul,<-Nat.add_mul];congr 1;omega
        refine⟨.raw (.slice (some ⟨w.heap.size,0,none⟩) (n+(m+1)) (grownCap w (n+(m+1)) n T)),[],bl,_,_,.inl (bP (P:=P) (ρ:=ρ) (o:=o) ho sE OM aY),by simpa using hl,?_,h _ _ _ j7⟩;rw[List.append_nil];have hn:=heap_alloc_new w.drew (.cells ((ab [] C++ab [] b.c).toArray++Builtin.zeroCells z0.cells (grownCap w (n+(m+1)) n T-(n+(m+1)))) T);have hce:(ab [] C++ab [] b.c).toArray++Builtin.zeroCells z0.cells (grownCap w (n+(m+1)) n T-(n+(m+1)))=((ab [] C++ab [] b.c)++tl).toArray:=by apply Array.ext';simp[tl]
        rw[hce]at hn⊢;have S2:=S.new (((Ch.refl [] w).drew).trans (Ch.alloc [] w.drew _) (λx hx=>.inl hx)) (Nat.le_refl _) hn;refine S2.perm ?_;exact List.perm_append_comm_assoc [_] (lits ids ids bl) (af ch R)
      ·exact h.elim
     ·exact h.elim
    ·exact h.elim
   ·exact h.elim
  ·exact h.elim
 ·exact h.elim
def ajN (e:Operand->V) (op:Op):Bool:=match op with
 |.call c=>(match c.args.toList with
  |s::_=>(match e s with|.raw _=>true|_=>false)
  |_=>false)
 |_=>false
def afz (P:Program):(Operand->V)->Op->List VB->List aC->VK aC->Prop:=λe op bl ch K=>cond (ajN e op) (W5 P e op bl ch K) (afy P e op bl ch K)
theorem KZ {P:Program} {gl:Nat->Option Nat}:oA P gl (afz P):=lO ajN Jg aag
def LB9:List (dI aC):=[⟨118,false,afx⟩]
theorem UI:ai prog (λ_=>none) LB9:=ai.cons ⟨Iw _,λe=>by cases e⟩ ai.nil
def vcV (n:Nat) (f:FuncId) (args:List V) (bl:List VB) (K:VK aC):Prop:=cJ (mL prog (λ_=>none) LB9 (afz prog) KZ) n f args bl [] K
def ap9 (g:aC) (x:Int) (k:aC->Prop):Prop:=(g.v=g.v/\g.n+1<=1000000)/\∀(xa:Option Addr) (c:Nat) (bk:List av) (h:fa g.z g.T (g.os++[.int .u8 x]) xa (g.n+1) c bk),k ⟨g.T,g.z,g.os++[.int .u8 x],xa,g.n+1,c,bk,h⟩
def afA (nc:Nat->Int) (E:aC->Prop):Nat->Nat->aC->Prop
 |0,_,g=>E g
 |k+1,i,g=>(0<=nc i/\nc i<=255)/\ap9 g (nc i) (afA nc E k (i+1))
def amD (nc:Nat->Int) (E:aC->Prop):Prop:=(0<=nc 0/\nc 0<=255)/\∀(x:Option Addr) (c:Nat) (bk:List av) (h:fa 1 5 ([.int .u8 129]++[.int .u8 (nc 0)]) x 2 c bk),afA nc E 7 1 ⟨5,1,[.int .u8 129]++[.int .u8 (nc 0)],x,2,c,bk,h⟩
theorem afB (nc:Nat->Int) (c:Nat) (u:List Value) (K:VK aC):vcV 90 72 [.int .i64 129,.sl 1 0 8 c] (mI nc u) (cP 10 K)=amD nc λg=>K (.az [g.v,.bool true]) (mI nc u) [g]:=by kernel_rfl
theorem UJ (nc:Nat->Int) (K:VK Empty):Zu 60 76 [.ptr 0 0] [Cb nc] (cP 1 K)=∀(c:Nat) (u:List Value),1<=c->LC 1 u c->UG (λc u=>K (.az [.sl 1 0 8 c,.bool true]) (mI nc u) []) 7 1 c u:=by kernel_rfl
theorem aah {n f n0:Nat} {args:List V} {bl:List VB} {K:VK aC} (h:Mm (vcV n f args bl (cP n0 K))) {ids:List Nat} (hl:ids.length=bl.length) (hn:n0<=ids.length) {bs:List av} {ms:List Nat} {w0 w:World} (S:St ms w0 (lits ids ids bl++bs) w):
 aj prog f (ao ids args).toArray w λv w1=>∃x more b ch,v=den (ids.take n0++more) x/\(ids.take n0++more).length=b.length/\St ms w0 (lits (ids.take n0++more) (ids.take n0++more) b++af ch bs) w1/\K x b ch:=by
 refine(bw UI.T UI.Q n (C:=mL prog (λ_=>none) LB9 (afz prog) KZ) (ids:=ids) (bl:=bl) (ch:=[]) (R:=bs) Gl.none hl S h.h).mono ?_;rintro v w' ⟨y,more,bl',ch',rfl,h1,S',hK⟩;obtain⟨v2,aP,bl2,e,gx,S2,hK⟩:=c9 (n0:=n0) h1 (by simp;omega) S' hK;rw[List.take_append_of_le_length hn]at e gx S2;exact⟨v2,aP,bl2,ch',e,gx,S2,hK⟩
def f9 (nc:Nat->Int):Nat->Int:=gT [129,nc 0,nc 1,nc 2,nc 3,nc 4,nc 5,nc 6,nc 7]
structure Ok9 (nc:Nat->Int) (g:aC):Prop where
 T:g.T=5
 z:g.z=1
 n:g.n=9
 os:g.os=(List.range 9).map λj=>.int .u8 (f9 nc j)
def UK:gm aC:=λargs bl ch K=>match args,bl with
 |[.ptr 0 0],[⟨true,⟨40,(0,0)⟩,c⟩]=>∃nc,c=Iv nc/\∀(k:Nat) (u:List Value),8<=k->K (.az [.sl 1 0 8 k,.bool true]) (mI nc u) ch
 |_,_=>False
def UL:gm aC:=λargs bl ch K=>match args with
 |[.int .i64 129,.sl 1 0 8 _]=>∃nc u,bl=mI nc u/\(∀j,0<=nc j/\nc j<=255)/\∀g:aC,Ok9 nc g->K (.az [g.v,.bool true]) bl (g::ch)
 |_=>False
theorem Ix:Sound prog (λ_=>none) 76 UK:=by
 intro args ids bl ch R ms w0 w K hg hl S hc;unfold UK at hc;split at hc
 ·rename_i c;obtain⟨nc,rfl,hK⟩:=hc
  match ids,hl with
  |[r],_=>
   have hv:Mm (Zu 60 76 [.ptr 0 0] [Cb nc] (cP 1 λv b _=>∃k u,v=.az [.sl 1 0 8 k,.bool true]/\b=mI nc u/\8<=k)):=⟨by rw[UJ];exact λc u h1 h2=>Cn 7 1 c u h1 h2 λk u h _=>⟨k,u,rfl,rfl,h⟩⟩;have hr:=Co hv (ids:=[r]) (bs:=af ch R) rfl (by simp) S;clear hv;refine hr.mono ?_;rintro v w' ⟨x,more,b,rfl,h1,S2,k,u,rfl,rfl,h8⟩;exact⟨_,more,_,ch,rfl,h1,S2,hK k u h8⟩
 ·exact hc.elim
theorem K1 {nc:Nat->Int} (vQ:∀j,0<=nc j/\nc j<=255) {E:aC->Prop}:∀(k i:Nat) (g:aC),g.T=5->g.z=1->g.n=i+1->g.os=.int .u8 129::(List.range i).map (λj=>.int .u8 (nc j))->i+k<=100->
 (∀g:aC,g.T=5->g.z=1->g.n=i+k+1->g.os=.int .u8 129::(List.range (i+k)).map (λj=>.int .u8 (nc j))->E g)->afA nc E k i g
 |0,i,g,h1,h2,h3,h4,_,hE=>hE g h1 h2 h3 h4
 |k+1,i,g,h1,h2,h3,h4,hb,hE=>⟨vQ i,⟨rfl,by omega⟩,λxa c bk h=>K1 vQ k (i+1) _ h1 h2 (by show g.n+1=_;omega) (by show g.os++_=_;rw[h4,List.range_succ,List.map_append];rfl) (by omega) λg a b c d=>hE g a b (by omega) (by rw[d,show i+1+k=i+(k+1) by omega])⟩
theorem Iy:Sound prog (λ_=>none) 72 UL:=by
 intro args ids bl ch R ms w0 w K hg hl S hc;unfold UL at hc;split at hc
 ·rename_i c;obtain⟨nc,u,rfl,vQ,hK⟩:=hc;have hv:Mm (vcV 90 72 [.int .i64 129,.sl 1 0 8 c] (mI nc u) (cP 10 λv b ch=>∃g,v=.az [g.v,.bool true]/\b=mI nc u/\ch=[g]/\Ok9 nc g)):=⟨by
   rw[afB];exact⟨vQ 0,λx c bk h=>K1 vQ 7 1 _ rfl rfl rfl rfl (by omega) λg a b c d=>⟨g,rfl,rfl,rfl,a,b,c,by rw[d];rfl⟩⟩⟩
  have hr:=aah hv (ids:=ids) (bs:=af ch R) hl (by rw[hl];simp[mI,bx9]) S;clear hv;refine hr.mono ?_;rintro v w' ⟨x,more,b,ch',rfl,h1,S2,g,rfl,rfl,rfl,h9⟩;have hlen:ids.length=10:=by rw[hl];simp[mI,bx9]
  have hm:more=[]:=by
   have:(ids.take 10++more).length=10:=by rw[h1];simp[mI,bx9]
   rw[List.length_append,List.length_take,hlen]at this;exact List.eq_nil_of_length_eq_zero (by simpa using this)
  subst hm;rw[List.take_of_length_le (by omega)]at S2 h1;refine⟨_,[],_,_,?_,h1,S2,hK g h9⟩;rw[List.take_of_length_le (by omega)]
 ·exact hc.elim
def LR9:List (dI aC):=[⟨76,false,UK⟩,⟨72,false,UL⟩]
theorem UM:ai prog (λ_=>none) LR9:=ai.cons ⟨Ix,λe=>by cases e⟩ (ai.cons ⟨Iy,λe=>by cases e⟩ ai.nil)
def vcX (n:Nat) (f:FuncId) (args:List V) (K:VK aC):Prop:=cJ (dR prog (λ_=>none) LR9) n f args [] [] K
theorem aai {n f:Nat} {args:List V} {K:VK aC} (h:Mm (vcX n f args (cP 0 K))) {w:World}:
 aj prog f (ao [] args).toArray w λv w1=>∃x b ch,(b=[]->v=den [] x)/\(b=[]->St [] w (af ch []) w1)/\K x b ch:=by
 refine(bw UM.T UM.Q n (C:=dR prog (λ_=>none) LR9) (ids:=[]) (bl:=[]) (ch:=[]) (R:=[]) (ms:=[]) (w0:=w) (w:=w) Gl.none rfl (St.nil [] w) h.h).mono ?_;rintro v w' ⟨y,more,bl',ch',rfl,h1,S',hK⟩;obtain⟨v2,aP,bl2,e,gx,S2,hK⟩:=c9 (n0:=0) (ids:=more) h1 (by simp) S' hK;refine⟨v2,bl2,ch',λhb=>?_,λhb=>?_,hK⟩
 ·subst hb;obtain rfl:aP=[]:=by simpa using gx
  exact e
 ·subst hb;obtain rfl:aP=[]:=by simpa using gx
  exact S2
theorem afC (nc:Nat->Int) (K:VK aC):vcX 60 190 [.agg (Iv nc)] (cP 0 K)=∃nc1,Iv nc=Iv nc1/\∀(k:Nat) (u:List Value),8<=k->∃nc2 u2,mI nc1 u=mI nc2 u2/\(∀j,0<=nc2 j/\nc2 j<=255)/\∀g:aC,Ok9 nc2 g->K (.az [g.v,.int .i64 0]) [] [g]:=by kernel_rfl
theorem ajO (nc:Nat->Int) (h:∀j,0<=nc j/\nc j<=255) (w:World):aj prog 190 (ao [] [.agg (Iv nc)]).toArray w λv w1=>∃b c1,v=.tuple #[.slice (some ⟨b,0,none⟩) 9 c1,.int .i64 0]/\9<=c1/\w.heap.size<=b/\eS w1 b 0 9 (f9 nc)/\Ch [] w w1:=by
 have hv:Mm (vcX 60 190 [.agg (Iv nc)] (cP 0 λv b ch=>∃g,v=.az [g.v,.int .i64 0]/\b=[]/\ch=[g]/\Ok9 nc g)):=⟨by rw[afC];exact⟨nc,rfl,λk u _=>⟨nc,u,rfl,h,λg hg=>⟨g,rfl,rfl,rfl,hg⟩⟩⟩⟩;have hr:=aai hv (w:=w);clear hv;refine hr.mono ?_;rintro v w' ⟨x,b,ch',e,S2,g,rfl,rfl,rfl,h1,h2,h3,h4⟩;have e:=e rfl;have S2:=S2 rfl;have hg:=g.h;rw[h1,h2,h3,h4]at hg;obtain⟨_,hc,hx⟩:=hg;rcases hx with⟨_,h0,_⟩|⟨b,t,hx,hb,_⟩
 ·cases h0
 ·have S3:St [] w ([⟨b,true,.cells (((List.range 9).map λj=>Value.int .u8 (f9 nc j))++t).toArray 5 (0,0)⟩]++[]) w':=by
   have:St [] w (g.bl++[]) w':=S2;rw[hb]at this;exact this
  refine⟨b,g.c,?_,hc,(S3.own 0 _ rfl rfl).resolve_left (by simp),λj hj=>?_,S3.ch⟩
  ·rw[e];simp only[den,ao,aC.v,hx,h3]
  ·rw[Nat.zero_add,cell_of (S3.at_ 0 _ rfl)];simp only[List.getElem?_toArray];rw[List.getElem?_append_left (by simpa using hj)];simp[List.getElem?_range hj]
end Go.Proofs.YtggfpcggakghnaaGreatDoor
namespace Go.Proofs.YtggfpcggakghnaaGreatDoor
open Go Go.RowKit Go.BigFrame Sx
def afD (r:Sd.Reply):Array Value:=#[.int .i64 r.kind,.int .i64 r.seq,.int .i64 r.role,.int .i64 r.fT,.int .i64 r.epoch,.int .i64 r.code,.int .u8 (r.ae 0),.int .u8 (r.ae 1),.int .u8 (r.ae 2),.int .u8 (r.ae 3),.int .u8 (r.ae 4),.int .u8 (r.ae 5),.int .u8 (r.ae 6),.int .u8 (r.ae 7)]
def fL (r:Sd.Reply):Nat:=if r.kind=129 then 9 else if r.kind=130\/r.kind=131 then 5 else if r.kind=132 then 6 else if r.kind=133\/r.kind=136 then 3 else 4
def yU (r:Sd.Reply):Nat->Int:=if r.kind=129 then f9 r.ae else if r.kind=130 then gT [130,aq 1 (u64.wrap r.role) 0,aq 1 (u64.wrap r.fT) 0,aq 2 (u64.wrap r.epoch) 0,aq 2 (u64.wrap r.epoch) 1]
 else if r.kind=131 then gT [131,aq 4 (u64.wrap r.seq) 0,aq 4 (u64.wrap r.seq) 1,aq 4 (u64.wrap r.seq) 2,aq 4 (u64.wrap r.seq) 3]else if r.kind=132 then gT [132,aq 4 (u64.wrap r.seq) 0,aq 4 (u64.wrap r.seq) 1,aq 4 (u64.wrap r.seq) 2,aq 4 (u64.wrap r.seq) 3,aq 1 (u64.wrap r.code) 0]
 else if r.kind=133 then gT [133,aq 2 (u64.wrap r.epoch) 0,aq 2 (u64.wrap r.epoch) 1]else if r.kind=134 then gT [134,aq 1 (u64.wrap r.fT) 0,aq 2 (u64.wrap r.epoch) 0,aq 2 (u64.wrap r.epoch) 1]
 else if r.kind=135 then gT [135,aq 1 (u64.wrap r.fT) 0,aq 2 (u64.wrap r.epoch) 0,aq 2 (u64.wrap r.epoch) 1]else gT [136,aq 1 (u64.wrap r.fT) 0,aq 1 (u64.wrap r.code) 0]
theorem UN (r:Sd.Reply):fL r=3\/fL r=4\/fL r=5\/fL r=6\/fL r=9:=by
 unfold fL;repeat' split
 all_goals simp
theorem aaj (r:Sd.Reply) (h:RB r) (w:World):aj prog 190 #[.agg (afD r)] w λv w1=>∃b c1,v=.tuple #[.slice (some ⟨b,0,none⟩) (fL r) c1,.int .i64 0]/\fL r<=c1/\w.heap.size<=b/\eS w1 b 0 (fL r) (yU r)/\Ch [] w w1:=by
 have hk:r.kind=129\/r.kind=130\/r.kind=131\/r.kind=132\/r.kind=133\/r.kind=134\/r.kind=135\/r.kind=136:=by have:=h.kind;omega
 obtain⟨k,sq,ro,wh,ep,co,nc⟩:=r;obtain⟨_,⟨s1,s2⟩,⟨r1,r2⟩,⟨w1,w2⟩,⟨e1,e2⟩,⟨c1,c2⟩,⟨n1,n2⟩⟩:=h;simp only at*;rcases hk with rfl|rfl|rfl|rfl|rfl|rfl|rfl|rfl<;>simp at s2 r2 w2 e2 c2 n2<;>subst_vars
 ·exact ajO nc n1 w
 ·exact ajH ro wh ep r1 w1 e1 w
 ·exact ajG sq s1 w
 ·exact ajI sq co s1 c1 w
 ·exact ajJ ep e1 w
 ·exact ajK wh ep w1 e1 w
 ·exact ajL wh ep w1 e1 w
 ·exact ajF wh co w1 c1 w
theorem ajP (n:Nat) (hn:n=3\/n=4\/n=5\/n=6\/n=9) (b o c:Nat) (f:Nat->Int) (w:World) (hB:eS w b o n f):
 aj prog 191 #[.slice (some ⟨b,o,none⟩) n c] w λv w1=>∃b c1,v=.tuple #[.slice (some ⟨b,0,none⟩) (n+5) c1,.int .i64 0]/\n+5<=c1/\w.heap.size<=b/\w1.heap[b]?=some (.cells (dc (n+5) (pI n f) c1) 5 (0,0))/\Ch [] w w1:=by
 exact adI b o n c f (by omega) w hB
theorem ajQ (xs:Option Addr) (ns cs:Nat) (jc bc:Nat) (x:Option Addr) (n c:Nat) (bl:List av) (so:List Value) (l:Int) (r:Sd.Reply) (hrb:RB r) (w:World) {ms:List Nat} {w0:World} {bs:List av} (S0:St ms w0 ([⟨jc,true,.cells #[.pointer (some ⟨bc,0,none⟩),.slice xs ns cs,.slice x n c] 128 (0,0)⟩]++(bl++bs)) w) (hR:fa 2 85 so xs ns cs bl) (hn:ns<=1000):
 aj prog 147 #[.pointer (some ⟨jc,0,none⟩),.int .i64 l,.agg #[.int .i64 r.kind,.int .i64 r.seq,.int .i64 r.role,.int .i64 r.fT,.int .i64 r.epoch,.int .i64 r.code,.int .u8 (r.ae 0),.int .u8 (r.ae 1),.int .u8 (r.ae 2),.int .u8 (r.ae 3),.int .u8 (r.ae 4),.int .u8 (r.ae 5),.int .u8 (r.ae 6),.int .u8 (r.ae 7)]] w λv w1=>∃x1 c1 yA bf cf,v=.tuple #[]/\fa 2 85 (so++[.int .i64 l,.slice (some ⟨bf,0,none⟩) (fL r+5) cf]) x1 (ns+1) c1 yA/\fL r+5<=cf/\St ms w0 ([⟨jc,true,.cells #[.pointer (some ⟨bc,0,none⟩),.slice x1 (ns+1) c1,.slice x n c] 128 (0,0)⟩]++(yA++(⟨bf,true,.cells (dc (fL r+5) (pI (fL r) (yU r)) cf) 5 (0,0)⟩::bs))) w1:=by
 refine dz Tryz.func147 rfl ?_;refine au (ax ?_);refine eD S0 (λb=>.pointer (some ⟨b,0,none⟩)) (.cells #[.int .i64 r.kind,.int .i64 r.seq,.int .i64 r.role,.int .i64 r.fT,.int .i64 r.epoch,.int .i64 r.code,.int .u8 (r.ae 0),.int .u8 (r.ae 1),.int .u8 (r.ae 2),.int .u8 (r.ae 3),.int .u8 (r.ae 4),.int .u8 (r.ae 5),.int .u8 (r.ae 6),.int .u8 (r.ae 7)] 40) ?_;intro de sH i_;refine aw (ag (au (ax ?_)));refine eC i_ 0 14 #[.int .i64 r.kind,.int .i64 r.seq,.int .i64 r.role,.int .i64 r.fT,.int .i64 r.epoch,.int .i64 r.code,.int .u8 (r.ae 0),.int .u8 (r.ae 1),.int .u8 (r.ae 2),.int .u8 (r.ae 3),.int .u8 (r.ae 4),.int .u8 (r.ae 5),.int .u8 (r.ae 6),.int .u8 (r.ae 7)] de 0 ?_;refine dh 190 #[.agg #[.int .i64 r.kind,.int .i64 r.seq,.int .i64 r.role,.int .i64 r.fT,.int .i64 r.epoch,.int .i64 r.code,.int .u8 (r.ae 0),.int .u8 (r.ae 1),.int .u8 (r.ae 2),.int .u8 (r.ae 3),.int .u8 (r.ae 4),.int .u8 (r.ae 5),.int .u8 (r.ae 6),.int .u8 (r.ae 7)]] ?_;refine(aaj r hrb _).mono ?_;rintro _ zw4 ⟨Qm,zc8,rfl,Xr,lR,kG,zh5⟩;have gw:=i_.quiet zh5;refine bY ?_;refine aa (.slice (some ⟨Qm,0,none⟩) (fL r) zc8) ?_;refine aa (.int .i64 0) ?_;refine bJ ?_;refine aa (.int .i64 0) ?_;refine aw (ag (au (ax ?_)));refine bY ?_;refine dh 191 #[.slice (some ⟨Qm,0,none⟩) (fL r) zc8] ?_;refine(ajP (fL r) (UN r) Qm 0 zc8 (yU r) _ kG).mono ?_;rintro _ acR ⟨nn,kY,rfl,Mu,Qd,Dq,oD⟩;have qR:=gw.new oD Qd Dq;refine bY ?_;refine aa (.slice (some ⟨nn,0,none⟩) (fL r+5) kY) ?_;refine aa (.int .i64 0) ?_;refine bJ ?_;refine aa (.int .i64 0) ?_;refine aw (ag (ax ?_));refine bY ?_;refine bY ?_;refine aa (.pointer (some ⟨jc,0,none⟩)) ?_;refine aa (.pointer (some ⟨jc,1,none⟩)) ?_;refine ir qR 2 (.slice xs ns cs) jc 1 ?_;refine aa (.int .i64 l) ?_;refine bY ?_;refine aa (.agg #[.int .i64 l,.slice (some ⟨nn,0,none⟩) (fL r+5) kY]) ?_;refine eD qR (λb=>.slice (some ⟨b,0,none⟩) 1 1) (.cells #[.int .i64 l,.slice (some ⟨nn,0,none⟩) (fL r+5) kY] 85) ?_;intro UO adB yM;have amE:St ms w0 ([⟨UO,true,.cells #[.int .i64 l,.slice (some ⟨nn,0,none⟩) (fL r+5) kY] 85 (0,0)⟩,⟨nn,true,.cells (dc (fL r+5) (pI (fL r) (yU r)) kY) 5 (0,0)⟩,⟨de,true,.cells #[.int .i64 r.kind,.int .i64 r.seq,.int .i64 r.role,.int .i64 r.fT,.int .i64 r.epoch,.int .i64 r.code,.int .u8 (r.ae 0),.int .u8 (r.ae 1),.int .u8 (r.ae 2),.int .u8 (r.ae 3),.int .u8 (r.ae 4),.int .u8 (r.ae 5),.int .u8 (r.ae 6),.int .u8 (r.ae 7)] 40 (0,0)⟩,⟨jc,true,.cells #[.pointer (some ⟨bc,0,none⟩),.slice xs ns cs,.slice x n c] 128 (0,0)⟩]++(bl++bs)) adB:=yM.re (R:=bs) [[⟨UO,true,.cells #[.int .i64 l,.slice (some ⟨nn,0,none⟩) (fL r+5) kY] 85 (0,0)⟩],[⟨nn,true,.cells (dc (fL r+5) (pI (fL r) (yU r)) kY) 5 (0,0)⟩],[⟨de,true,.cells #[.int .i64 r.kind,.int .i64 r.seq,.int .i64 r.role,.int .i64 r.fT,.int .i64 r.epoch,.int .i64 r.code,.int .u8 (r.ae 0),.int .u8 (r.ae 1),.int .u8 (r.ae 2),.int .u8 (r.ae 3),.int .u8 (r.ae 4),.int .u8 (r.ae 5),.int .u8 (r.ae 6),.int .u8 (r.ae 7)] 40 (0,0)⟩],[⟨jc,true,.cells #[.pointer (some ⟨bc,0,none⟩),.slice xs ns cs,.slice x n c] 128 (0,0)⟩],bl] [0,1,2,3,4];refine O8 (z:=2) (T:=85) (olds:=so) (xs:=xs) (n:=ns) (c:=cs) (m:=1) (news:=[.int .i64 l,.slice (some ⟨nn,0,none⟩) (fL r+5) kY]) (xv:=.slice (some ⟨UO,0,none⟩) 1 1) (A:=[⟨UO,true,.cells #[.int .i64 l,.slice (some ⟨nn,0,none⟩) (fL r+5) kY] 85 (0,0)⟩,⟨nn,true,.cells (dc (fL r+5) (pI (fL r) (yU r)) kY) 5 (0,0)⟩,⟨de,true,.cells #[.int .i64 r.kind,.int .i64 r.seq,.int .i64 r.role,.int .i64 r.fT,.int .i64 r.epoch,.int .i64 r.code,.int .u8 (r.ae 0),.int .u8 (r.ae 1),.int .u8 (r.ae 2),.int .u8 (r.ae 3),.int .u8 (r.ae 4),.int .u8 (r.ae 5),.int .u8 (r.ae 6),.int .u8 (r.ae 7)] 40 (0,0)⟩,⟨jc,true,.cells #[.pointer (some ⟨bc,0,none⟩),.slice xs ns cs,.slice x n c] 128 (0,0)⟩]) (bl:=bl) (R:=bs) amE hR (akx yM 0 1 2 [.int .i64 l,.slice (some ⟨nn,0,none⟩) (fL r+5) kY] (tx:=59) (e':=85) (by kernel_rfl) (by kernel_rfl) (by kernel_rfl) (by rfl)) 32 (hbd:=(by omega)) (h63:=(by unfold maxLen;omega)) (k:=?_);intro afE afF ajR anN Du amF;refine aa (.pointer (some ⟨jc,0,none⟩)) ?_;refine aa (.pointer (some ⟨jc,1,none⟩)) ?_;refine store_ amF 3 (.slice afE (ns+1) afF) jc 1 ?_;intro Xm acG;refine aw ?_;refine end_ rfl (fY [] [] (.tuple #[]) trivial) ?_;refine⟨afE,afF,ajR,nn,kY,rfl,?_,Mu,?_⟩
 ·exact Du
 ·exact acG.re (R:=bs) [[⟨UO,true,.cells #[.int .i64 l,.slice (some ⟨nn,0,none⟩) (fL r+5) kY] 85 (0,0)⟩],[⟨nn,true,.cells (dc (fL r+5) (pI (fL r) (yU r)) kY) 5 (0,0)⟩],[⟨de,true,.cells #[.int .i64 r.kind,.int .i64 r.seq,.int .i64 r.role,.int .i64 r.fT,.int .i64 r.epoch,.int .i64 r.code,.int .u8 (r.ae 0),.int .u8 (r.ae 1),.int .u8 (r.ae 2),.int .u8 (r.ae 3),.int .u8 (r.ae 4),.int .u8 (r.ae 5),.int .u8 (r.ae 6),.int .u8 (r.ae 7)] 40 (0,0)⟩],[⟨jc,true,.cells #[.pointer (some ⟨bc,0,none⟩),.slice afE (ns+1) afF,.slice x n c] 128 (0,0)⟩],ajR] [3,4,1]
end Go.Proofs.YtggfpcggakghnaaGreatDoor
namespace Go.Proofs.YtggfpcggakghnaaGreatDoor
open Go Go.RowKit Go.BigFrame Sx Vx
def eB (r:Sd.Reply):Nat×Sd.Byt:=(fL r+5,pI (fL r) (yU r))
theorem aak {l:List V} {r:Sd.Reply} (h:aex l=some r) (ids:List Nat):(ab ids l).toArray=afD r:=by
 unfold aex at h;split at h
 ·split at h
  ·obtain rfl:=Option.some.inj h;kernel_rfl
  ·obtain rfl:=Option.some.inj h;kernel_rfl
  ·cases h
 ·cases h
theorem zV (r c s k t:av) (A B E R:List av):([r,c,s,k,t]++((A++(B++E))++R)).Perm ([s]++(B++(r::c::k::t::(A++(E++R))))):=by
 have h1:([r,c,s,k,t]++((A++(B++E))++R)).Perm (s::r::c::k::t::((A++(B++E))++R)):=by
  refine((List.Perm.swap s c _).cons r).trans ?_;exact List.Perm.swap s r _
 refine h1.trans (List.Perm.cons s ?_);have h2:([r,c,k,t]++(A++(B++(E++R)))).Perm (B++([r,c,k,t]++(A++(E++R)))):=by
  have e1:[r,c,k,t]++(A++(B++(E++R)))=([r,c,k,t]++A)++(B++(E++R)):=by simp
  have e2:B++([r,c,k,t]++(A++(E++R)))=B++(([r,c,k,t]++A)++(E++R)):=by simp
  rw[e1,e2];exact List.perm_append_comm_assoc _ _ _
 simpa[List.append_assoc]using h2
def bN.tell {fr:Sd.Reply->Nat×Sd.Byt} {k:LK} {s:Sd.Scene} (F:bN fr (bA k s)) (l:Int) (r:Sd.Reply) {x1:Option Addr} {c1:Nat} {yA Bf:List av} {so:List Value} (hs:fa 2 85 so x1 (s.tell l r).sent.length c1 yA) (hf:w5 fr (s.tell l r).sent so Bf):bN fr (bA k (s.tell l r)):=
 ⟨x1,c1,F.xr,F.cr,F.Bq,F.Br,yA,Bf,F.Bk,so,F.hq,F.hr,hs,hf,F.hk⟩
theorem iC:Body (fr:=eB) 147 bV:=by
 intro ar k s F Kb a b c R ms w0 w h0 hq hM S;unfold bV at hM;split at hM
 ·rename_i l rl;split at hM
  ·rename_i r hr;have hrm:=hM.1.1;have hrb:=hM.1.2;have hK:=hM.2;have e1:lits (a_ a b c) (a_ a b c) (cS k s F)=[aE (a_ a b c) 1 (aG k),aE (a_ a b c) 0 (iA k),⟨a,true,.cells #[.pointer (some ⟨b,0,none⟩),F.vs,F.vr] 128 (0,0)⟩,aE (a_ a b c) b (ew k 4 s),aE (a_ a b c) c (gP s)]:=by kernel_rfl
   rw[e1,aen]at S;have S1:=S.perm (zV _ _ _ _ _ _ _ _ _);have e2:(ao (a_ a b c) (.ptr 2 0::[.int .i64 l,.agg rl])).toArray=#[.pointer (some ⟨a,0,none⟩),.int .i64 l,.agg (afD r)]:=by
    have:=aak hr (a_ a b c);simp only[ao,den,this];rfl
   rw[e2];have hn:s.sent.length<=1000:=by have:=hrm.1;omega
   refine(ajQ _ _ _ _ _ _ _ _ _ _ l r hrb w S1 F.hs hn).mono ?_;rintro v w1 ⟨x1,c1,yA,bf,cf,rfl,sE,hcf,S2⟩;have hl:(s.tell l r).sent.length=s.sent.length+1:=by simp[Sd.Scene.tell]
   have uZ:fa 2 85 (F.so++[.int .i64 l,.slice (some ⟨bf,0,none⟩) (eB r).1 cf]) x1 (s.tell l r).sent.length c1 yA:=by rw[hl];exact sE
   have hf':w5 eB (s.tell l r).sent (F.so++[.int .i64 l,.slice (some ⟨bf,0,none⟩) (eB r).1 cf]) (F.Bf++[⟨bf,true,.cells (dc (eB r).1 (eB r).2 cf) 5 (0,0)⟩]):=F.hf.snoc l r (some ⟨bf,0,none⟩) cf _ ⟨hcf,.inr ⟨bf,rfl,rfl⟩⟩
   let F':bN eB (bA k (s.tell l r)):=F.tell l r uZ hf'
   refine⟨.az [],_,F',rfl,rfl,rfl,hK F',?_⟩;have e3:lits (a_ a b c) (a_ a b c) (cS k (s.tell l r) F')=[aE (a_ a b c) 1 (aG k),aE (a_ a b c) 0 (iA k),⟨a,true,.cells #[.pointer (some ⟨b,0,none⟩),.slice x1 (s.tell l r).sent.length c1,F.vr] 128 (0,0)⟩,aE (a_ a b c) b (ew k 4 s),aE (a_ a b c) c (gP s)]:=by kernel_rfl
   have e4:F'.B=F.Br++(yA++((F.Bf++[⟨bf,true,.cells (dc (eB r).1 (eB r).2 cf) 5 (0,0)⟩])++(F.Bq++F.Bk))):=rfl;rw[e3,e4,hl];refine(S2.perm ?_).perm (zV _ _ _ _ _ _ _ _ _).symm;refine List.Perm.append_left _ (List.Perm.append_left _ ?_);have p:∀(f x1 x2 x3 x4:av) (A E D R:List av),(f::x1::x2::x3::x4::(A++((E++D)++R))).Perm (x1::x2::x3::x4::(A++(((E++[f])++D)++R))):=by
    intro f x1 x2 x3 x4 A E D R;have q1:f::x1::x2::x3::x4::(A++((E++D)++R))=[f]++(([x1,x2,x3,x4]++(A++E))++(D++R)):=by simp
    have q2:x1::x2::x3::x4::(A++(((E++[f])++D)++R))=([x1,x2,x3,x4]++(A++E))++([f]++(D++R)):=by simp
    rw[q1,q2];exact List.perm_append_comm_assoc _ _ _
   exact p _ _ _ _ _ _ _ _ _
  ·exact hM.elim
 ·exact hM.elim
end Go.Proofs.YtggfpcggakghnaaGreatDoor
namespace Sx
open Go Go.RowKit Go.BigFrame
theorem St.K2 {w:World} {bs:List av} (h:∀y∈bs,y.wr=false/\w.heap[y.id]?=some y.obj):St [] w bs w:=by
 refine St.mk' (Ch.refl _ _) (λy hy=>(h y hy).2) (λy hy e=>by rw[(h y hy).1]at e;cases e) ?_;refine List.pairwise_of_forall_mem_list (λx hx y hy hc=>?_);rcases hc with hc|hc
 ·rw[(h x hx).1]at hc;cases hc
 ·rw[(h y hy).1]at hc;cases hc
end Sx
namespace Go.Proofs.YtggfpcggakghnaaGreatDoor
open Go Go.RowKit Go.BigFrame Go.WideShapes Sx Vx
theorem afG (u:World):∀y∈du u,y.wr=false/\u.heap[y.id]?=some y.obj:=by
 intro y hy;unfold du at hy;rw[List.mem_map]at hy;obtain⟨⟨o,i⟩,hp,rfl⟩:=hy;refine⟨rfl,?_⟩;rw[List.mk_mem_zipIdx_iff_getElem?]at hp;simpa using hp
theorem yd {cs:List Value} {off z:Nat} (g:Nat->List Value) (hz:∀j,(g j).length=z):∀n,(∀k,k<n->∀j,j<z->cs[off+k*z+j]?=(g k)[j]?)->cs.drop off=(List.range n).flatMap g++cs.drop (off+n*z)
 |0,_=>by simp
 |n+1,h=>by
  rw[yd g hz n (λk hk=>h k (by omega)),List.range_succ,List.flatMap_append,List.append_assoc];congr 1;have e:(cs.drop (off+n*z)).take z=g n:=by
   apply List.ext_getElem?;intro j;by_cases hj:j<z
   ·rw[List.getElem?_take_of_lt hj,List.getElem?_drop];exact h n (by omega) j hj
   ·rw[List.getElem?_eq_none (by simp;omega),List.getElem?_eq_none (by rw[hz];omega)]
  have e2:=List.take_append_drop z (cs.drop (off+n*z));rw[e,List.drop_drop]at e2;rw[List.flatMap_cons,List.flatMap_nil,List.append_nil,<-e2];congr 2;rw[Nat.add_mul];omega
structure K3 (W:World) (v:Value) (z:Nat) (g:Nat->List Value) (i o n c:Nat) (a:Option Addr) (ty:BT) (pre post:List Value):Prop where
 v:v=.slice (bif Nat.beq n 0 then a else some ⟨i,o,none⟩) n c
 le:n<=c
 po:∀j,j<n->o=pre.length
 at_:W.heap[i]?=some (.cells (pre++((List.range n).flatMap g++post)).toArray ty.t ty.fz)
theorem K3.nil {W:World} {z:Nat} {g:Nat->List Value} {cs:Array Value} {t:TypeId} {f:Nat×Nat} {i:Nat} (h:W.heap[i]?=some (.cells cs t f)):K3 W (.slice none 0 0) z g i 0 0 0 none ⟨t,f⟩ [] cs.toList:=
 ⟨rfl,Nat.le_refl _,(λj hj=>absurd hj (by omega)),by simpa using h⟩
theorem K3.some {W:World} {z b o n c:Nat} {g:Nat->List Value} {cs:Array Value} {t:TypeId} {f:Nat×Nat} (hle:n<=c) (hz:∀j,(g j).length=z) (ba:W.heap[b]?=some (.cells cs t f)) (h:∀k,k<n->∀j,j<z->W.cell? ⟨b,o+k*z+j,none⟩=(g k)[j]?) (hp:0<z):
 ∃pre post,K3 W (.slice (some ⟨b,o,none⟩) n c) z g b o n c (some ⟨b,o,none⟩) ⟨t,f⟩ pre post:=by
 have hc:∀k,k<n->∀j,j<z->cs.toList[o+k*z+j]?=(g k)[j]?:=λk hk j hj=>by
  have:=h k hk j hj;rw[cell_of ba]at this;simpa using this
 have hs:=yd g hz n hc;by_cases hn:n=0
 ·subst hn;exact⟨[],cs.toList,by cases Nat.beq 0 0<;>rfl,hle,(λj hj=>absurd hj (by omega)),by simpa using ba⟩
 ·refine⟨cs.toList.take o,cs.toList.drop (o+n*z),by cases Nat.beq n 0<;>rfl,hle,λj hj=>?_,?_⟩
  ·have h0:=hc 0 (by omega) 0 hp;have:o<cs.toList.length:=by
    rcases Nat.lt_or_ge o cs.toList.length with h1|h1
    ·exact h1
    ·exfalso;rw[List.getElem?_eq_none (by omega)]at h0;have h2:=hz 0;rw[List.getElem?_eq_getElem (by omega)]at h0;cases h0
   rw[List.length_take];omega
  ·rw[<-hs,List.take_append_drop];exact ba
end Go.Proofs.YtggfpcggakghnaaGreatDoor
