/- Part 10 of the proof. -/
import Derived.Test.YtlkpikfddnjilaaGreatDoorQ9
set_option linter.all false
set_option maxRecDepth 100000
set_option maxHeartbeats 4000000
open Go.Proofs.Tryz
open Go.IntKind (u8 u16 u32 u64 i64)
namespace Go.Proofs.YtlkpikfddnjilaaGreatDoor
open Go Go.RowKit Go.BigFrame Sx Vx
def ay (k:Nat) (x:Int):Nat->Int:=λj=>u8.wrap (Int.fdiv x (2^(8*(k-1-j))))
theorem fdiv_zero (x:Int) (k:Nat) (h0:0<=x) (h1:x<2^k):Int.fdiv x (2^k)=0:=by
 rw[Int.fdiv_eq_ediv_of_nonneg _ (Int.le_of_lt (Int.lt_of_le_of_lt h0 h1))];exact Int.ediv_eq_zero_of_lt h0 h1
def ints (n:Nat) (f:Nat->Int):List V:=(List.range n).map λj=>.int .u8 (f j)
theorem E3 {G:Type} [Bl G] {L:List (dF G)} {h:(Operand->V)->Op->List VB->List G->VK G->Prop} {hok:rR prog gz h} (hL:ah prog gz L) {f:FuncId} {args:List V} {K:VK G} {w:World} (hv:JY (cI (nz prog gz L h hok) 60 f args [] [] (du 0 K))):
 ak prog f (aq [] args).toArray w λv w'=>∃x ids bl ch,v=den ids x/\ids.length=bl.length/\St [] w (lits ids ids bl++ag ch []) w'/\K x bl ch:=by
 refine(bw hL.T hL.Q 60 (C:=nz prog gz L h hok) (ids:=[]) (bl:=[]) (ch:=[]) (R:=[]) (λg i h=>by cases h) rfl (St.nil [] w) hv.h).mono ?_;rintro v w' ⟨x,more,bl',ch',rfl,h1,S',hK⟩;obtain⟨v2,aS,bl2,hv,gH,S2,J_⟩:=dr (n0:=0) h1 (Nat.zero_le _) S' hK;exact⟨v2,_,bl2,ch',hv,gH,S2,J_⟩
def Ka (k:Nat) (x:Int):VB:=⟨true,⟨5,(0,0)⟩,ints k (ay k x)⟩
def pkX (k:Nat) (x d:Int) (K:VK Empty):Prop:=cI (nz prog gz ([]:List (dF Empty)) (JS prog) ql) 60 113 [.int .u64 x,.int .i64 k] [] [] (du 0 K)=cond (Int.fdiv x d !=0) (K (.aC [.raw (.slice none 0 0),.int .i64 1]) [] []) (K (.aC [.sl 0 0 k k,.int .i64 0]) [Ka k x] [])
theorem UQ (x:Int) (K:VK Empty):pkX 1 x (2^8) K:=by
 unfold pkX;kernel_rfl
theorem UR (x:Int) (K:VK Empty):pkX 2 x (2^16) K:=by
 unfold pkX;kernel_rfl
theorem US (x:Int) (K:VK Empty):pkX 4 x (2^32) K:=by
 unfold pkX;kernel_rfl
theorem vn (ids:List Nat) (n:Nat) (f:Nat->Int):(af ids (ints n f)).toArray=ai .u8 n f:=by
 have h:∀l:List Nat,af ids (l.map λj=>V.int .u8 (f j))=l.map λj=>Value.int .u8 (f j):=by
  intro l;induction l with
  |nil=>rfl
  |cons j l ih=>simp only[List.map_cons,af,cl,den,ih,List.singleton_append]
 unfold ints;rw[h];rfl
theorem zN {k e:Nat} {x:Int} (hx:0<=x/\x<2^e) (hv:∀K,pkX k x (2^e) K) (w:World):ak prog 113 #[.int .u64 x,.int .i64 k] w λv w1=>∃b,v=.tuple #[.slice (some ⟨b,0,none⟩) k k,.int .i64 0]/\w.heap.size<=b/\w1.heap[b]?=some (.cells (ai .u8 k (ay k x)) 5 (0,0))/\Ch [] w w1:=by
 have h:cI (nz prog gz ([]:List (dF Empty)) (JS prog) ql) 60 113 [.int .u64 x,.int .i64 k] [] [] (du 0 λv bl _=>v=.aC [.sl 0 0 k k,.int .i64 0]/\bl=[Ka k x]):=by
  rw[show _=_ from hv _,fdiv_zero x e hx.1 hx.2];exact⟨rfl,rfl⟩
 refine(E3 ah.nil ⟨h⟩).mono ?_;rintro v w' ⟨y,ids,bl,ch,rfl,hl,S,rfl,rfl⟩
 match ids,hl with
 |[b],_=>
  refine⟨b,rfl,(S.own 0 (aL [b] b (Ka k x)) rfl rfl).resolve_left (by simp),?_,S.ch⟩;have:=S.at_ 0 (aL [b] b (Ka k x)) rfl;simp only[aL,Ka,vn]at this;exact this
def Od {G:Type}:gZ G:=λargs bl ch K=>match args with
 |[.int .u64 x,.int .i64 (.ofNat k)]=>cond ((Nat.beq k 1||(Nat.beq k 2||Nat.beq k 4))&&dE bl.length bl) ((0<=x/\x<2^(8*k))/\K (.aC [.sl bl.length 0 k k,.int .i64 0]) (bl++[Ka k x]) ch) False
 |_=>False
theorem Kc {G:Type} [Bl G] {gl:Nat->Option Nat}:Sound (G:=G) prog gl 113 Od:=by
 intro args ids bl ch R ms w0 w K hg hl S hc;unfold Od at hc;split at hc
 ·rename_i x k;cases hq:(Nat.beq k 1||(Nat.beq k 2||Nat.beq k 4))&&dE bl.length bl with
  |false=>rw[hq]at hc;exact hc.elim
  |true=>
   rw[hq]at hc;simp only[Bool.and_eq_true,Bool.or_eq_true]at hq;obtain⟨hx,hK⟩:=hc;have hp:ak prog 113 #[.int .u64 x,.int .i64 k] w λv w1=>∃b,v=.tuple #[.slice (some ⟨b,0,none⟩) k k,.int .i64 0]/\w.heap.size<=b/\w1.heap[b]?=some (.cells (ai .u8 k (ay k x)) 5 (0,0))/\Ch [] w w1:=by
    rcases hq.1 with h|h|h
    ·obtain rfl:=Nat.eq_of_beq_eq_true h;exact zN hx (UQ x) w
    ·obtain rfl:=Nat.eq_of_beq_eq_true h;exact zN hx (UR x) w
    ·obtain rfl:=Nat.eq_of_beq_eq_true h;exact zN hx (US x) w
   refine hp.mono ?_;rintro v w' ⟨b,rfl,mj,bD,fP⟩;refine⟨_,[b],_,_,?_,by simp[hl],?_,hK⟩
   ·have:(ids++[b]).getD bl.length 0=b:=by rw[<-hl];simp[List.getD]
    simp only[den,aq,this]
   ·have e:aL (ids++[b]) b (Ka k x)=⟨b,true,.cells (ai .u8 k (ay k x)) 5 (0,0)⟩:=by
     unfold aL Ka;rw[vn]
    rw[aQ _ _ _ _ hl,aR _ _ (by rw[hl];exact hq.2)];simp only[lits,e];refine(S.new fP mj bD).perm ?_;rw[List.append_assoc];exact List.perm_middle.symm
 ·exact hc.elim
theorem Kd {G:Type}:dU (Od (G:=G)):=by
 intro args bl ch K hc;unfold Od at hc⊢;split at hc
 ·revert hc;cases(Nat.beq _ 1||(Nat.beq _ 2||Nat.beq _ 4))&&dE bl.length bl with
  |false=>exact λh=>h.elim
  |true=>exact λh=>⟨h.1,h.2,_,rfl⟩
 ·exact hc.elim
def Ke (G:Type):List (dF G):=[⟨113,true,Od⟩]
theorem HZ {G:Type} [Bl G] {gl:Nat->Option Nat}:ah (G:=G) prog gl (Ke G):=ah.cons ⟨Kc,λ_=>Kd⟩ ah.nil
def asX (k:Nat) (n m:Int) (K:VK Empty):Prop:=cI (dw prog gz (Ke Empty)) 60 202 [.int .i64 n,.int .i64 k] [] [] (du 0 K)=((0<=bits .and .u64 (u64.wrap n) m/\bits .and .u64 (u64.wrap n) m<2^(8*k))/\K (.sl 0 0 k k) [Ka k (bits .and .u64 (u64.wrap n) m)] [])
theorem aaJ (n:Int) (K:VK Empty):asX 1 n 255 K:=by
 unfold asX;kernel_rfl
theorem aaK (n:Int) (K:VK Empty):asX 4 n 4294967295 K:=by
 unfold asX;kernel_rfl
theorem Oe {k:Nat} {n m d:Int} (hn:0<=n/\n<4294967296) (hv:∀K,asX k n m K) (he:bits .and .u64 n m=n%d) (hd:0<d) (h2:d=2^(8*k)) (w:World):
 ak prog 202 #[.int .i64 n,.int .i64 k] w λv w1=>∃b,v=.slice (some ⟨b,0,none⟩) k k/\w.heap.size<=b/\w1.heap[b]?=some (.cells (ai .u8 k (ay k (n%d))) 5 (0,0))/\Ch [] w w1:=by
 have h:cI (dw prog gz (Ke Empty)) 60 202 [.int .i64 n,.int .i64 k] [] [] (du 0 λv bl _=>v=.sl 0 0 k k/\bl=[Ka k (n%d)]):=by
  rw[show _=_ from hv _,IntWalk.u64_in _ (by omega),he];exact⟨⟨Int.emod_nonneg _ (by omega),h2▸Int.emod_lt_of_pos _ hd⟩,rfl,rfl⟩
 refine(E3 (h:=noH) (hok:=EH) HZ ⟨h⟩).mono ?_;rintro v w' ⟨y,ids,bl,ch,rfl,hl,S,rfl,rfl⟩
 match ids,hl with
 |[b],_=>
  refine⟨b,rfl,(S.own 0 (aL [b] b (Ka k (n%d))) rfl rfl).resolve_left (by simp),?_,S.ch⟩;have:=S.at_ 0 (aL [b] b (Ka k (n%d))) rfl;simp only[aL,Ka,vn]at this;exact this
theorem UT (n:Int) (hn:0<=n/\n<4294967296) (w:World):
 ak prog 202 #[.int .i64 n,.int .i64 1] w λv w1=>∃b,v=.slice (some ⟨b,0,none⟩) 1 1/\w.heap.size<=b/\w1.heap[b]?=some (.cells #[.int .u8 ((ay 1 (n%256)) 0)] 5 (0,0))/\Ch [] w w1:=
 Oe hn (aaJ n) (eT .u64 n 255 256 8 (by decide) (by decide) (by decide)) (by decide) rfl w
theorem aio (n:Int) (hn:0<=n/\n<4294967296) (w:World):
 ak prog 202 #[.int .i64 n,.int .i64 4] w λv w1=>∃b,v=.slice (some ⟨b,0,none⟩) 4 4/\w.heap.size<=b/\w1.heap[b]?=some (.cells #[.int .u8 ((ay 4 (n%4294967296)) 0),.int .u8 ((ay 4 (n%4294967296)) 1),.int .u8 ((ay 4 (n%4294967296)) 2),.int .u8 ((ay 4 (n%4294967296)) 3)] 5 (0,0))/\Ch [] w w1:=
 Oe hn (aaK n) (eT .u64 n 4294967295 4294967296 32 (by decide) (by decide) (by decide)) (by decide) rfl w
abbrev JP:=(Nat×Nat×Nat×Nat)×(Nat->Int)
def jP (p:Nat×Nat×Nat×Nat):V:=.raw (.slice (some ⟨p.1,p.2.1,none⟩) p.2.2.1 p.2.2.2)
def jB (ps:List (Nat×Nat×Nat×Nat)):VB:=⟨false,⟨23,(0,0)⟩,ps.map jP⟩
def Of (L:List (dF CG)) (f:FuncId) (args:List V) (bl:List VB) (ch:List CG) (K:VK CG):Prop:=cI (nz prog gz L ap8 E1) 60 f args bl ch K
section
variable(u:World) (B:VB) (K:VK CG)
def jnS:List (Nat×Nat×Nat×Nat)->Nat->Nat->Nat->(Nat->Int)->Prop
 |[],b,n,c,f=>K (.raw (.slice (some ⟨b,0,none⟩) n c)) [B] [.dC u,.row ⟨n,f,b,c⟩]
 |p::ps,b,n,c,f=>∃g,fl u p.1 p.2.1 p.2.2.1 g/\(b=b/\n=n/\c=c/\n<=c/\n+p.2.2.1<=1000000/\0<n+p.2.2.1)/\∀b' c',n+p.2.2.1<=c'->jnS ps b' (n+p.2.2.1) c' (cy n f g)
def jnN:List (Nat×Nat×Nat×Nat)->Prop
 |[]=>K (.raw (.slice none 0 0)) [B] [.dC u]
 |p::ps=>∃g,fl u p.1 p.2.1 p.2.2.1 g/\p.2.2.1<=1000000/\(p.2.2.1=0->jnN ps)/\(0<p.2.2.1->∀b c,p.2.2.1<=c->jnS u B K ps b p.2.2.1 c g)
def UU (k:Nat) (ps:List (Nat×Nat×Nat×Nat)):Prop:=Of [] 172 [.sl 0 0 k k] [jB ps] [.dC u] (du 1 K)=jnN u (jB ps) K ps
theorem aaL (p:Nat×Nat×Nat×Nat):UU u K 1 [p]:=by
 unfold UU;kernel_rfl
theorem aaM (p q:Nat×Nat×Nat×Nat):UU u K 2 [p,q]:=by
 unfold UU;kernel_rfl
theorem aaN (p q r:Nat×Nat×Nat×Nat):UU u K 3 [p,q,r]:=by
 unfold UU;kernel_rfl
theorem aaO (p q r s:Nat×Nat×Nat×Nat):UU u K 4 [p,q,r,s]:=by
 unfold UU;kernel_rfl
end
def nC:List JP->Nat->Nat
 |[],n=>n
 |p::ps,n=>nC ps (n+p.1.2.2.1)
def l7:List JP->Nat->(Nat->Int)->Nat->Int
 |[],n,f=>f
 |p::ps,n,f=>l7 ps (n+p.1.2.2.1) (cy n f p.2)
theorem E4:∀(ps:List JP) (n:Nat),n<=nC ps n
 |[],n=>Nat.le_refl n
 |p::ps,n=>Nat.le_trans (Nat.le_add_right _ _) (E4 ps _)
theorem Og {u:World} {B:VB} {K:VK CG}:∀(ps:List JP) (b n c:Nat) (f:Nat->Int),n<=c->0<n->nC ps n<=1000000->(∀q∈ps,fl u q.1.1 q.1.2.1 q.1.2.2.1 q.2)->
 (∀b c,nC ps n<=c->K (.raw (.slice (some ⟨b,0,none⟩) (nC ps n) c)) [B] [.dC u,.row ⟨nC ps n,l7 ps n f,b,c⟩])->jnS u B K (ps.map (·.1)) b n c f
 |[],b,n,c,f,h1,_,_,_,hK=>hK b c h1
 |p::ps,b,n,c,f,h1,h2,h3,h4,hK=>by
  have:=E4 ps (n+p.1.2.2.1);have h3':nC ps (n+p.1.2.2.1)<=1000000:=h3;exact⟨p.2,h4 p List.mem_cons_self,⟨rfl,rfl,rfl,h1,Nat.le_trans this h3',Nat.lt_of_lt_of_le h2 (Nat.le_add_right _ _)⟩,λb' c' h=>Og ps b' _ c' _ h (Nat.lt_of_lt_of_le h2 (Nat.le_add_right _ _)) h3' (λq hq=>h4 q (List.mem_cons_of_mem _ hq)) hK⟩
theorem vo:∀(ps:List JP) (n:Nat) (f g:Nat->Int),(∀j,j<n->f j=g j)->∀j,j<nC ps n->l7 ps n f j=l7 ps n g j
 |[],n,f,g,h,j,hj=>h j hj
 |p::ps,n,f,g,h,j,hj=>vo ps _ _ _ (λi hi=>by
  unfold cy;cases hb:Nat.blt i n with
  |false=>rfl
  |true=>exact h i (by unfold Nat.blt at hb;exact Nat.le_of_ble_eq_true hb)) j hj
theorem Oh {u:World} {B:VB} {K:VK CG} {z:Nat->Int}:∀(ps:List JP),nC ps 0<=1000000->(∀q∈ps,fl u q.1.1 q.1.2.1 q.1.2.2.1 q.2)->(nC ps 0=0->K (.raw (.slice none 0 0)) [B] [.dC u])->
 (∀F,(∀j,j<nC ps 0->F j=l7 ps 0 z j)->∀b c,0<nC ps 0->nC ps 0<=c->K (.raw (.slice (some ⟨b,0,none⟩) (nC ps 0) c)) [B] [.dC u,.row ⟨nC ps 0,F,b,c⟩])->jnN u B K (ps.map (·.1))
 |[],_,_,h,_=>h rfl
 |p::ps,h1,h2,h3,h4=>by
  have e:nC (p::ps) 0=nC ps p.1.2.2.1:=by show nC ps (0+p.1.2.2.1)=_;rw[Nat.zero_add]
  have hc:l7 (p::ps) 0 z=l7 ps p.1.2.2.1 p.2:=by show l7 ps (0+p.1.2.2.1) (cy 0 z p.2)=_;rw[Nat.zero_add,lz 0]
  rw[e]at h1 h3 h4;rw[hc]at h4;have mj:=E4 ps p.1.2.2.1;refine⟨p.2,h2 p List.mem_cons_self,Nat.le_trans mj h1,λh0=>?_,λh0 b c hle=>Og ps b _ c _ hle h0 h1 (λq hq=>h2 q (List.mem_cons_of_mem _ hq)) λb c h=>h4 _ (λ_ _=>rfl) b c (Nat.lt_of_lt_of_le h0 mj) h⟩;rw[show p.1.2.2.1=0 from h0]at h1 h3 h4;exact Oh (z:=z) ps h1 (λq hq=>h2 q (List.mem_cons_of_mem _ hq)) h3 λF hF=>h4 F λj hj=>(hF j hj).trans (vo ps 0 _ _ (λi hi=>absurd hi (Nat.not_lt_zero i)) j hj)
theorem H0 {ids:List Nat} {bl:List VB} {l:List CG} {r:R8} {w w':World} (S:St [] w (lits ids ids bl++ag (l++[.row r]) []) w'):w.heap.size<=r.b:=by
 rw[nB]at S;have:=S.pP (x:=⟨r.b,true,.cells (cN r.n r.f r.c) 5 (0,0)⟩) (by simp[R8.bl]) rfl;simpa using this
theorem zO {ids:List Nat} {bl:List VB} {l:List CG} {r:R8} {R:List ax} {ms:List Nat} {w0 w:World} (S:St ms w0 (lits ids ids bl++ag (l++[.row r]) R) w):w.heap[r.b]?=some (.cells (cN r.n r.f r.c) 5 (0,0)):=by
 rw[nB]at S;exact S.at' (x:=⟨r.b,true,.cells (cN r.n r.f r.c) 5 (0,0)⟩) (by simp[R8.bl])
theorem H2 {k pb:Nat} {ps:List JP} {w:World} {z:Nat->Int} (hv:∀K,UU w K k (ps.map (·.1))) (hp:w.heap[pb]?=some (.cells (af [] ((ps.map (·.1)).map jP)).toArray 23 (0,0))) (h1:nC ps 0<=1000000) (hA:∀q∈ps,fl w q.1.1 q.1.2.1 q.1.2.2.1 q.2):
 ak prog 172 #[.slice (some ⟨pb,0,none⟩) k k] w λv w1=>Ch [] w w1/\((nC ps 0=0/\v=.slice none 0 0)\/(0<nC ps 0/\∃b c,v=.slice (some ⟨b,0,none⟩) (nC ps 0) c/\nC ps 0<=c/\w.heap.size<=b/\w1.heap[b]?=some (.cells (cN (nC ps 0) (l7 ps 0 z) c) 5 (0,0)))):=by
 have h:Of [] 172 [.sl 0 0 k k] [jB (ps.map (·.1))] [.dC w] (du 1 λv bl ch=>bl=[jB (ps.map (·.1))]/\((nC ps 0=0/\v=.raw (.slice none 0 0))\/(0<nC ps 0/\∃F b c,(∀j,j<nC ps 0->F j=l7 ps 0 z j)/\v=.raw (.slice (some ⟨b,0,none⟩) (nC ps 0) c)/\nC ps 0<=c/\ch=[.dC w,.row ⟨nC ps 0,F,b,c⟩]))):=by
  rw[show _=_ from hv _];exact Oh ps h1 hA (λh=>⟨rfl,.inl ⟨h,rfl⟩⟩) λF hF b c h0 hc=>⟨rfl,.inr ⟨h0,F,b,c,hF,rfl,hc,rfl⟩⟩
 have S:St [] w (lits [pb] [pb] [jB (ps.map (·.1))]++ag [CG.dC w] []) w:=by
  have:=St.given (w:=w) ((pb,.cells (af [] ((ps.map (·.1)).map jP)).toArray 23 (0,0))::w.heap.toList.zipIdx.map λp=>(p.2,p.1)) (by
   intro p h;rcases List.mem_cons.1 h with rfl|h
   ·exact hp
   obtain⟨q,hq,rfl⟩:=List.mem_map.1 h;have:=(List.mem_zipIdx_iff_getElem?.1 (show(q.1,q.2)∈w.heap.toList.zipIdx from hq));simpa using this)
  have e:af [pb] ((ps.map (·.1)).map jP)=af [] ((ps.map (·.1)).map jP):=by
   have:∀l:List (Nat×Nat×Nat×Nat),af [pb] (l.map jP)=af [] (l.map jP):=λl=>by
    induction l with
    |nil=>rfl
    |cons a l ih=>simp only[List.map_cons,af,ih,jP,cl,den]
   exact this _
  simp only[lits,aL,jB,e];show St [] w (_::(dV w++[])) w;rw[List.append_nil];unfold dV;rw[List.map_cons,List.map_map (l:=w.heap.toList.zipIdx)]at this;exact this
 refine(bw (ah.nil (G:=CG) (P:=prog) (gl:=gz)).T (ah.nil (G:=CG) (P:=prog) (gl:=gz)).Q 60 (C:=nz prog gz [] ap8 E1) (λg i h=>by cases h) rfl S h).mono ?_;rintro v w' ⟨x,more,bl',ch',rfl,h1,S',hK⟩;obtain⟨v2,aS,bl2,hv,gH,S2,rfl,J_⟩:=dr (n0:=1) h1 (by simp) S' hK;refine⟨S2.ch,?_⟩;rcases J_ with⟨h0,rfl⟩|⟨h0,F,b,c,hF,rfl,hc,rfl⟩
 ·exact .inl ⟨h0,hv⟩
 ·refine .inr ⟨h0,b,c,hv,hc,H0 (l:=[.dC w]) S2,?_⟩;have:=zO (l:=[.dC w]) S2;rw[this];congr 2;exact x_ rfl hF
theorem H3 (pb:Nat) (b0 o0 n0 c0:Nat) (f0:Nat->Int) (b1 o1 n1 c1:Nat) (f1:Nat->Int) (b2 o2 n2 c2:Nat) (f2:Nat->Int) (h0:0<n0) (hn:n0+n1+n2<=1000000) (w:World) (hp:w.heap[pb]?=some (.cells #[.slice (some ⟨b0,o0,none⟩) n0 c0,.slice (some ⟨b1,o1,none⟩) n1 c1,.slice (some ⟨b2,o2,none⟩) n2 c2] 23 (0,0))) (UE:fl w b0 o0 n0 f0) (UF:fl w b1 o1 n1 f1) (hB2:fl w b2 o2 n2 f2):
 ak prog 172 #[.slice (some ⟨pb,0,none⟩) 3 3] w λv w1=>∃b c1,v=.slice (some ⟨b,0,none⟩) (n0+n1+n2) c1/\n0+n1+n2<=c1/\w.heap.size<=b/\w1.heap[b]?=some (.cells (cN (n0+n1+n2) (kj n0 n1 f0 f1 f2) c1) 5 (0,0))/\Ch [] w w1:=by
 let ps:List JP:=[((b0,o0,n0,c0),f0),((b1,o1,n1,c1),f1),((b2,o2,n2,c2),f2)]
 have et:nC ps 0=n0+n1+n2:=by show 0+n0+n1+n2=_;rw[Nat.zero_add]
 refine(H2 (k:=3) (ps:=ps) (z:=λ_=>0) (λK=>aaN w K (b0,o0,n0,c0) (b1,o1,n1,c1) (b2,o2,n2,c2)) hp (by rw[et];exact hn) (λq hq=>by
  rcases List.mem_cons.1 hq with rfl|hq
  ·exact UE
  rcases List.mem_cons.1 hq with rfl|hq
  ·exact UF
  rcases List.mem_cons.1 hq with rfl|hq
  ·exact hB2
  cases hq)).mono ?_
 rintro v w1 ⟨fP,⟨h,_⟩|⟨_,b,c,rfl,h1,h2,h3⟩⟩
 ·omega
 ·have ec:l7 ps 0 (λ_=>0)=kj n0 n1 f0 f1 f2:=by
   simp only[ps,l7,Nat.zero_add,lz 0];rfl
  rw[et]at h1 h3⊢;rw[ec]at h3;exact⟨b,c,rfl,h1,h2,h3,fP⟩
theorem UW (pb:Nat) (b0 o0 n0 c0:Nat) (f0:Nat->Int) (b1 o1 n1 c1:Nat) (f1:Nat->Int) (b2 o2 n2 c2:Nat) (f2:Nat->Int) (b3 o3 n3 c3:Nat) (f3:Nat->Int) (h0:0<n0) (hn:n0+n1+n2+n3<=1000000) (w:World) (hp:w.heap[pb]?=some (.cells #[.slice (some ⟨b0,o0,none⟩) n0 c0,.slice (some ⟨b1,o1,none⟩) n1 c1,.slice (some ⟨b2,o2,none⟩) n2 c2,.slice (some ⟨b3,o3,none⟩) n3 c3] 23 (0,0))) (UE:fl w b0 o0 n0 f0) (UF:fl w b1 o1 n1 f1) (hB2:fl w b2 o2 n2 f2) (hB3:fl w b3 o3 n3 f3):
 ak prog 172 #[.slice (some ⟨pb,0,none⟩) 4 4] w λv w1=>∃b c1,v=.slice (some ⟨b,0,none⟩) (n0+n1+n2+n3) c1/\n0+n1+n2+n3<=c1/\w.heap.size<=b/\w1.heap[b]?=some (.cells (cN (n0+n1+n2+n3) (N1 n0 n1 n2 f0 f1 f2 f3) c1) 5 (0,0))/\Ch [] w w1:=by
 let ps:List JP:=[((b0,o0,n0,c0),f0),((b1,o1,n1,c1),f1),((b2,o2,n2,c2),f2),((b3,o3,n3,c3),f3)]
 have et:nC ps 0=n0+n1+n2+n3:=by show 0+n0+n1+n2+n3=_;rw[Nat.zero_add]
 refine(H2 (k:=4) (ps:=ps) (z:=λ_=>0) (λK=>aaO w K (b0,o0,n0,c0) (b1,o1,n1,c1) (b2,o2,n2,c2) (b3,o3,n3,c3)) hp (by rw[et];exact hn) (λq hq=>by
  rcases List.mem_cons.1 hq with rfl|hq
  ·exact UE
  rcases List.mem_cons.1 hq with rfl|hq
  ·exact UF
  rcases List.mem_cons.1 hq with rfl|hq
  ·exact hB2
  rcases List.mem_cons.1 hq with rfl|hq
  ·exact hB3
  cases hq)).mono ?_
 rintro v w1 ⟨fP,⟨h,_⟩|⟨_,b,c,rfl,h1,h2,h3⟩⟩
 ·omega
 ·have ec:l7 ps 0 (λ_=>0)=N1 n0 n1 n2 f0 f1 f2 f3:=by
   simp only[ps,l7,Nat.zero_add,lz 0];rfl
  rw[et]at h1 h3⊢;rw[ec]at h3;exact⟨b,c,rfl,h1,h2,h3,fP⟩
theorem Oi (pb:Nat) (b0 o0 n0 c0:Nat) (f0:Nat->Int) (b1 o1 n1 c1:Nat) (f1:Nat->Int) (h0:0<n1) (hn:n0+n1<=1000000) (w:World) (hp:w.heap[pb]?=some (.cells #[.slice (some ⟨b0,o0,none⟩) n0 c0,.slice (some ⟨b1,o1,none⟩) n1 c1] 23 (0,0))) (UE:fl w b0 o0 n0 f0) (UF:fl w b1 o1 n1 f1):
 ak prog 172 #[.slice (some ⟨pb,0,none⟩) 2 2] w λv w1=>∃b c1,v=.slice (some ⟨b,0,none⟩) (n0+n1) c1/\n0+n1<=c1/\w.heap.size<=b/\w1.heap[b]?=some (.cells (cN (n0+n1) (cy n0 f0 f1) c1) 5 (0,0))/\Ch [] w w1:=by
 let ps:List JP:=[((b0,o0,n0,c0),f0),((b1,o1,n1,c1),f1)]
 have et:nC ps 0=n0+n1:=by show 0+n0+n1=_;rw[Nat.zero_add]
 refine(H2 (k:=2) (ps:=ps) (z:=λ_=>0) (λK=>aaM w K (b0,o0,n0,c0) (b1,o1,n1,c1)) hp (by rw[et];exact hn) (λq hq=>by
  rcases List.mem_cons.1 hq with rfl|hq
  ·exact UE
  rcases List.mem_cons.1 hq with rfl|hq
  ·exact UF
  cases hq)).mono ?_
 rintro v w1 ⟨fP,⟨h,_⟩|⟨_,b,c,rfl,h1,h2,h3⟩⟩
 ·omega
 ·have ec:l7 ps 0 (λ_=>0)=cy n0 f0 f1:=by
   simp only[ps,l7,Nat.zero_add,lz 0]
  rw[et]at h1 h3⊢;rw[ec]at h3;exact⟨b,c,rfl,h1,h2,h3,fP⟩
theorem UX (pb b0 o0 n0 c0:Nat) (f0:Nat->Int) (hn:n0<=1000000) (w:World) (hp:w.heap[pb]?=some (.cells #[.slice (some ⟨b0,o0,none⟩) n0 c0] 23 (0,0))) (UE:fl w b0 o0 n0 f0):
 ak prog 172 #[.slice (some ⟨pb,0,none⟩) 1 1] w λv w1=>∃x1 c1 xf,v=.slice x1 n0 c1/\dG 5 n0 f0 x1 c1 xf/\St [] w xf w1:=by
 let ps:List JP:=[((b0,o0,n0,c0),f0)]
 have et:nC ps 0=n0:=by show 0+n0=_;rw[Nat.zero_add]
 refine(H2 (k:=1) (ps:=ps) (z:=λ_=>0) (λK=>aaL w K (b0,o0,n0,c0)) hp (by rw[et];exact hn) (λq hq=>by
  rcases List.mem_cons.1 hq with rfl|hq
  ·exact UE
  cases hq)).mono ?_
 rintro v w1 ⟨fP,⟨h,rfl⟩|⟨_,b,c,rfl,h1,h2,h3⟩⟩
 ·rw[et]at h;subst h;exact⟨none,0,[],rfl,⟨Nat.le_refl _,.inl ⟨rfl,rfl,rfl,rfl⟩⟩,by simpa using(St.nil [] w).quiet fP⟩
 ·have ec:l7 ps 0 (λ_=>0)=f0:=by
   simp only[ps,l7,Nat.zero_add,lz 0]
  rw[et]at h1 h3⊢;rw[ec]at h3;exact⟨some ⟨b,0,none⟩,c,_,rfl,⟨h1,.inr ⟨b,rfl,rfl⟩⟩,(St.nil [] w).new fP h2 h3⟩
def aV (kn:Nat) (kf:Nat->Int) (s n:Int):Nat->Int:=gm kn kf (1+1+4) (kj 1 1 (λ_=>78) (ay 1 (s%256)) (ay 4 (n%4294967296)))
def iK (y s r:Int) (nc:Nat->Int):Nat->Int:=N1 1 1 1 (λ_=>y) (ay 1 (s%256)) (ay 1 (r%256)) nc
def gV (kn:Nat) (kf:Nat->Int) (s r:Int) (nc:Nat->Int):Nat->Int:=gm kn kf (1+1+1+8) (iK 80 s r nc)
def jS (kn:Nat) (kf:Nat->Int) (s r:Int) (nc:Nat->Int):Nat->Int:=gm kn kf (1+1+1+8) (iK 75 s r nc)
def dW (k:Nat->Int) (s:Int) (m:Nat) (f:Nat->Int):Nat->Int:=cy m f (gm 32 k (1+1+m) (kj 1 1 (λ_=>77) (ay 1 (s%256)) f))
def kl (k:Nat->Int) (s:Int) (m:Nat) (f:Nat->Int):Bool:=j4 (m+8) f (dW k s m f)
theorem aaP (ka:Option Addr) (kn kc:Nat) (kf:Nat->Int) (s n:Int) (hkn:1<=kn/\kn<=64) (hs:0<=s/\s<4294967296) (hn:0<=n/\n<4294967296) {tG:TypeId} (w:World) (hG:w.heap[(0)]?=some (.cells (ai .u32 64 aT) tG (0,0))) (hk:cn w ka kn kc kf):
 ak prog 164 #[.slice ka kn kc,.int .i64 s,.int .i64 n] w λv w1=>v=.agg (ai .u8 8 (aV kn kf s n))/\Ch [] w w1:=by
 have S0:=St.given (w:=w) [((0),.cells (ai .u32 64 aT) tG (0,0))] (all_cons hG (all_nil));refine ct Tryz.func164 rfl ?_;refine ao (aw ?_);refine cq S0 (λb=>.pointer (some ⟨b,0,none⟩)) (.cells (ai .u8 8 (λ_=>0)) 73) ?_;intro bQ lU fm;refine au (ae (ao (aw ?_)));refine aa (.slice ka kn kc) ?_;refine cq fm (λb=>.slice (some ⟨b,0,none⟩) 1 1) (.cells #[.int .u8 78] 5) ?_;intro fF uc eI;refine aa (.int .i64 s) ?_;refine cd 202 #[.int .i64 s,.int .i64 1] ?_;refine(UT s (by omega) _).mono ?_;rintro _ YL ⟨km,rfl,iI,rZ,Ej⟩;have nW:=eI.new Ej iI rZ;refine aa (.int .i64 n) ?_;refine cd 202 #[.int .i64 n,.int .i64 4] ?_;refine(aio n (by omega) _).mono ?_;rintro _ UY ⟨aeS,rfl,J5,N3,xy⟩;have E5:=nW.new xy J5 N3;refine cq E5 (λb=>.slice (some ⟨b,0,none⟩) 3 3) (.cells #[.slice (some ⟨fF,0,none⟩) 1 1,.slice (some ⟨km,0,none⟩) 1 1,.slice (some ⟨aeS,0,none⟩) 4 4] 23) ?_;intro aeT akO zP;refine cd 172 #[.slice (some ⟨aeT,0,none⟩) 3 3] ?_;refine(H3 aeT fF 0 1 1 (λ_=>78) km 0 1 1 (ay 1 (s%256)) aeS 0 4 4 (ay 4 (n%4294967296)) (by omega) (by omega) _ (zP.at_ 0 _ rfl) (St.dG (N:=1) (f:=(λ_=>78)) (wr:=true) (t:=5) (fr:=(0,0)) zP 3) (St.dG (N:=1) (f:=(ay 1 (s%256))) (wr:=true) (t:=5) (fr:=(0,0)) zP 2) (St.dG (N:=4) (f:=(ay 4 (n%4294967296))) (wr:=true) (t:=5) (fr:=(0,0)) zP 1)).mono ?_;rintro _ aaQ ⟨UZ,aaR,rfl,iJ,nX,E6,tN⟩;have zQ:=zP.new tN nX E6;refine cd 201 #[.slice ka kn kc,.slice (some ⟨UZ,0,none⟩) (1+1+4) aaR] ?_;refine(aaH ka kn kc kf UZ 0 (1+1+4) aaR (kj 1 1 (λ_=>78) (ay 1 (s%256)) (ay 4 (n%4294967296))) (by omega) (by omega) _ (zQ.at_ 6 _ rfl) (cn.quiet hk zQ.ch) (St.yZ (c:=aaR) (wr:=true) (t:=5) (fr:=(0,0)) zQ 0)).mono ?_;rintro _ UK ⟨rfl,qn⟩;have aip:=zQ.quiet qn;refine store_ aip 5 (.agg (ai .u8 8 (gm kn kf (1+1+4) (kj 1 1 (λ_=>78) (ay 1 (s%256)) (ay 4 (n%4294967296)))))) bQ 0 ?_;intro aiq U0;refine au (ae (wp_ret ?_));refine eD rfl (ei [.cell 6 73] [.agg (ai .u8 8 (gm kn kf (1+1+4) (kj 1 1 (λ_=>78) (ay 1 (s%256)) (ay 4 (n%4294967296)))))] (.agg (ai .u8 8 (gm kn kf (1+1+4) (kj 1 1 (λ_=>78) (ay 1 (s%256)) (ay 4 (n%4294967296)))))) ⟨bh U0 5 8 bQ 0,trivial⟩) ?_;exact⟨by(unfold aV)<;>kernel_rfl,U0.ch⟩
theorem Oj (y s r:Int) (nc:Nat->Int) (hs:0<=s/\s<4294967296) (hr:0<=r/\r<4294967296) (w:World):
 ak prog 204 #[.int .u8 y,.int .i64 s,.int .i64 r,.agg (ai .u8 8 nc)] w λv w1=>∃b c1,v=.slice (some ⟨b,0,none⟩) (1+1+1+8) c1/\1+1+1+8<=c1/\w.heap.size<=b/\w1.heap[b]?=some (.cells (cN (1+1+1+8) (iK y s r nc) c1) 5 (0,0))/\Ch [] w w1:=by
 have S0:=St.nil [] w;refine ct Tryz.func204 rfl ?_;refine ao (aw ?_);refine cq S0 (λb=>.pointer (some ⟨b,0,none⟩)) (.cells (ai .u8 8 nc) 73) ?_;intro bQ lU fm;refine aa (.slice none 0 0) ?_;refine au (ae (ao ?_));refine gY 7 [⟨0,λ_=>.int .u8 y,λ_=>[]⟩,⟨1,λids=>.slice (some ⟨(ids.getD 0 0),0,none⟩) 1 1,λids=>[((ids.getD 0 0),.cells #[.int .u8 y] 5 (0,0))]⟩,⟨0,λ_=>.int .i64 s,λ_=>[]⟩,⟨1,λids=>.slice (some ⟨(ids.getD 0 0),0,none⟩) 1 1,λids=>[((ids.getD 0 0),.cells #[.int .u8 ((ay 1 (s%256)) 0)] 5 (0,0))]⟩,⟨0,λ_=>.int .i64 r,λ_=>[]⟩,⟨1,λids=>.slice (some ⟨(ids.getD 0 0),0,none⟩) 1 1,λids=>[((ids.getD 0 0),.cells #[.int .u8 ((ay 1 (r%256)) 0)] 5 (0,0))]⟩,⟨0,λ_=>.slice (some ⟨bQ,0,none⟩) 8 8,λ_=>[]⟩] [[7,1,0],[7,1],[7,3,2],[7,3],[7,5,4],[7,5],[7,6],[8,7,1,0],[8,7,1],[8,7,3,2],[8,7,3],[8,5,4],[8,5],[8,7,6],[8,7],[9,0],[9,1],[9,2],[9,3],[9,4],[9,5],[9,6],[9,7],[9,8]] ?_ ?_
 ·refine step_cons iA ?_;refine step_cons ?_ ?_
  ·intro Ek uc se U1 nY;have J9:Ek 9=.int .u8 y:=(Sp.bg (nY 0 9 (by kernel_rfl) (by kernel_rfl))).1;have Kf:=fm.quiet se;refine jV ?_;refine kE [(9,.int .u8 y)] (cu J9 (fL)) ?_;have vh:=Kf.loc;refine Y.cq vh (λb=>.slice (some ⟨b,0,none⟩) 1 1) (.cells #[.int .u8 y] 5) ?_;intro UH UY ja;exact⟨ja.ch,Sp.da [UH] (all_cons (ja.mn se.size 0 (by kernel_rfl)) (all_nil))⟩
  refine step_cons iA ?_;refine step_cons ?_ ?_
  ·intro air UI YP ako aeU;have Ol:air 11=.int .i64 s:=(Sp.bg (aeU 2 11 (by kernel_rfl) (by kernel_rfl))).1;have zP:=fm.quiet YP;refine jV ?_;refine kE [(11,.int .i64 s)] (cu Ol (fL)) ?_;have xz:=zP.loc;refine Y.cd 202 #[.int .i64 s,.int .i64 1] ?_;refine(UT s (by omega) _).mono ?_;rintro _ aeV ⟨ais,rfl,iJ,nX,vg⟩;have lA:=xz.new vg iJ nX;exact⟨lA.ch,Sp.da [ais] (all_cons (lA.mn YP.size 0 (by kernel_rfl)) (all_nil))⟩
  refine step_cons iA ?_;refine step_cons ?_ ?_
  ·intro ait UK H4 akp aeW;have jz:ait 13=.int .i64 r:=(Sp.bg (aeW 4 13 (by kernel_rfl) (by kernel_rfl))).1;have Cr:=fm.quiet H4;refine jV ?_;refine kE [(13,.int .i64 r)] (cu jz (fL)) ?_;have aiu:=Cr.loc;refine Y.cd 202 #[.int .i64 r,.int .i64 1] ?_;refine(UT r (by omega) _).mono ?_;rintro _ akQ ⟨aiv,rfl,sf,Om,qo⟩;have aeX:=aiu.new qo sf Om;exact⟨aeX.ch,Sp.da [aiv] (all_cons (aeX.mn H4.size 0 (by kernel_rfl)) (all_nil))⟩
  refine step_cons iA ?_;exact ez
 intro E7 aaS aeY vt;have aaz:E7 0=.int .u8 y:=(Sp.bg (vt 0 (by kernel_rfl))).1;have aiw:=Sp.yR (vt 1 (by kernel_rfl));obtain⟨Kg,aeZ,ae0⟩:=aiw;have aix:E7 1=.slice (some ⟨Kg,0,none⟩) 1 1:=aeZ;have aiy:∀zp∈([(Kg,.cells #[.int .u8 y] 5 (0,0))]:List (Nat×Obj)),lU.heap.size<=zp.1/\aaS.heap[zp.1]?=some zp.2:=ae0;have Ck:E7 2=.int .i64 s:=(Sp.bg (vt 2 (by kernel_rfl))).1;have aaB:=Sp.yR (vt 3 (by kernel_rfl));obtain⟨ly,N9,N_⟩:=aaB;have Oa:E7 3=.slice (some ⟨ly,0,none⟩) 1 1:=N9;have aaC:∀zp∈([(ly,.cells #[.int .u8 ((ay 1 (s%256)) 0)] 5 (0,0))]:List (Nat×Obj)),lU.heap.size<=zp.1/\aaS.heap[zp.1]?=some zp.2:=N_;have aaD:E7 4=.int .i64 r:=(Sp.bg (vt 4 (by kernel_rfl))).1;have aiz:=Sp.yR (vt 5 (by kernel_rfl));obtain⟨zM,ae1,ae2⟩:=aiz;have aiA:E7 5=.slice (some ⟨zM,0,none⟩) 1 1:=ae1;have aiC:∀zp∈([(zM,.cells #[.int .u8 ((ay 1 (r%256)) 0)] 5 (0,0))]:List (Nat×Obj)),lU.heap.size<=zp.1/\aaS.heap[zp.1]?=some zp.2:=ae2;have aiD:E7 6=.slice (some ⟨bQ,0,none⟩) 8 8:=(Sp.bg (vt 6 (by kernel_rfl))).1;have aiE:=fm.ro aeY (([(Kg,.cells #[.int .u8 y] 5 (0,0))]++([(ly,.cells #[.int .u8 ((ay 1 (s%256)) 0)] 5 (0,0))]++[(zM,.cells #[.int .u8 ((ay 1 (r%256)) 0)] 5 (0,0))]))) (List.forall_mem_append.2 ⟨aiy,List.forall_mem_append.2 ⟨aaC,aiC⟩⟩);refine⟨[.int .u8 y,.slice (some ⟨Kg,0,none⟩) 1 1,.int .i64 s,.slice (some ⟨ly,0,none⟩) 1 1,.int .i64 r,.slice (some ⟨zM,0,none⟩) 1 1,.slice (some ⟨bQ,0,none⟩) 8 8],by kernel_rfl,av aaz (av aix (av Ck (av Oa (av aaD (av aiA (av aiD (k9))))))),?_⟩;refine cq aiE (λb=>.slice (some ⟨b,0,none⟩) 4 4) (.cells #[.slice (some ⟨Kg,0,none⟩) 1 1,.slice (some ⟨ly,0,none⟩) 1 1,.slice (some ⟨zM,0,none⟩) 1 1,.slice (some ⟨bQ,0,none⟩) 8 8] 23) ?_;intro ae3 akS Kh;refine cd 172 #[.slice (some ⟨ae3,0,none⟩) 4 4] ?_;refine(UW ae3 Kg 0 1 1 (λ_=>y) ly 0 1 1 (ay 1 (s%256)) zM 0 1 1 (ay 1 (r%256)) bQ 0 8 8 nc (by omega) (by omega) _ (Kh.at_ 0 _ rfl) (St.dG (N:=1) (f:=(λ_=>y)) (wr:=false) (t:=5) (fr:=(0,0)) Kh 1) (St.dG (N:=1) (f:=(ay 1 (s%256))) (wr:=false) (t:=5) (fr:=(0,0)) Kh 2) (St.dG (N:=1) (f:=(ay 1 (r%256))) (wr:=false) (t:=5) (fr:=(0,0)) Kh 3) (St.dG (N:=8) (f:=nc) (wr:=true) (t:=73) (fr:=(0,0)) Kh 4)).mono ?_;rintro _ akT ⟨aaT,On,rfl,aiF,aaU,aaV,aaF⟩;have aaW:=Kh.new aaF aaU aaV;refine bm ?_;refine au (ae (wp_ret ?_));refine eD rfl (ei [.tmp 8] [.slice (some ⟨aaT,0,none⟩) (1+1+1+8) On] (.slice (some ⟨aaT,0,none⟩) (1+1+1+8) On) ⟨bo,trivial⟩) ?_;have ze:cN (1+1+1+8) (N1 1 1 1 (λ_=>y) (ay 1 (s%256)) (ay 1 (r%256)) nc) On=cN (1+1+1+8) (iK y s r nc) On:=by kernel_rfl
 exact⟨aaT,On,by rw[show(1+1+1+8)=1+1+1+8 by omega],by have:=aiF;omega,(aaW.own 0 _ rfl rfl).resolve_left (by simp),by rw[<-ze];exact aaW.at_ 0 _ rfl,aaW.ch⟩
theorem H5 (ka:Option Addr) (kn kc:Nat) (kf:Nat->Int) (s r:Int) (nc:Nat->Int) (hkn:1<=kn/\kn<=64) (hs:0<=s/\s<4294967296) (hr:0<=r/\r<4294967296) {tG:TypeId} (w:World) (hG:w.heap[(0)]?=some (.cells (ai .u32 64 aT) tG (0,0))) (hk:cn w ka kn kc kf):
 ak prog 167 #[.slice ka kn kc,.int .i64 s,.int .i64 r,.agg (ai .u8 8 nc)] w λv w1=>v=.agg (ai .u8 8 (gV kn kf s r nc))/\Ch [] w w1:=by
 have S0:=St.given (w:=w) [((0),.cells (ai .u32 64 aT) tG (0,0))] (all_cons hG (all_nil));refine ct Tryz.func167 rfl ?_;refine ao (aw ?_);refine cq S0 (λb=>.pointer (some ⟨b,0,none⟩)) (.cells (ai .u8 8 nc) 73) ?_;intro bQ lU fm;refine cq fm (λb=>.pointer (some ⟨b,0,none⟩)) (.cells (ai .u8 8 (λ_=>0)) 73) ?_;intro fF uc eI;refine au (ae (ao (aw ?_)));refine aa (.slice ka kn kc) ?_;refine aa (.int .i64 s) ?_;refine aa (.int .i64 r) ?_;refine c_ eI 1 8 (ai .u8 8 nc) bQ 0 ?_;refine cd 204 #[.int .u8 80,.int .i64 s,.int .i64 r,.agg (ai .u8 8 nc)] ?_;refine(Oj 80 s r nc (by omega) (by omega) _).mono ?_;rintro _ YL ⟨km,E8,rfl,rZ,nU,xy,Ej⟩;have nW:=eI.new Ej nU xy;refine cd 201 #[.slice ka kn kc,.slice (some ⟨km,0,none⟩) (1+1+1+8) E8] ?_;refine(aaH ka kn kc kf km 0 (1+1+1+8) E8 (iK 80 s r nc) (by omega) (by omega) _ (nW.at_ 3 _ rfl) (cn.quiet hk nW.ch) (St.yZ (c:=E8) (wr:=true) (t:=5) (fr:=(0,0)) nW 0)).mono ?_;rintro _ zH ⟨rfl,jb⟩;have gK:=nW.quiet jb;refine store_ gK 1 (.agg (ai .u8 8 (gm kn kf (1+1+1+8) (iK 80 s r nc)))) fF 0 ?_;intro zI r9;refine au (ae (wp_ret ?_));refine eD rfl (ei [.cell 8 73] [.agg (ai .u8 8 (gm kn kf (1+1+1+8) (iK 80 s r nc)))] (.agg (ai .u8 8 (gm kn kf (1+1+1+8) (iK 80 s r nc)))) ⟨bh r9 1 8 fF 0,trivial⟩) ?_;exact⟨by(unfold gV)<;>kernel_rfl,r9.ch⟩
theorem ae4 (ka:Option Addr) (kn kc:Nat) (kf:Nat->Int) (s r:Int) (nc:Nat->Int) (hkn:1<=kn/\kn<=64) (hs:0<=s/\s<4294967296) (hr:0<=r/\r<4294967296) {tG:TypeId} (w:World) (hG:w.heap[(0)]?=some (.cells (ai .u32 64 aT) tG (0,0))) (hk:cn w ka kn kc kf):
 ak prog 169 #[.slice ka kn kc,.int .i64 s,.int .i64 r,.agg (ai .u8 8 nc)] w λv w1=>v=.agg (ai .u8 32 (jS kn kf s r nc))/\Ch [] w w1:=by
 have S0:=St.given (w:=w) [((0),.cells (ai .u32 64 aT) tG (0,0))] (all_cons hG (all_nil));refine ct Tryz.func169 rfl ?_;refine ao (aw ?_);refine cq S0 (λb=>.pointer (some ⟨b,0,none⟩)) (.cells (ai .u8 8 nc) 73) ?_;intro bQ lU fm;refine cq fm (λb=>.pointer (some ⟨b,0,none⟩)) (.cells (ai .u8 32 (λ_=>0)) 50) ?_;intro fF uc eI;refine au (ae (ao (aw ?_)));refine aa (.slice ka kn kc) ?_;refine aa (.int .i64 s) ?_;refine aa (.int .i64 r) ?_;refine c_ eI 1 8 (ai .u8 8 nc) bQ 0 ?_;refine cd 204 #[.int .u8 75,.int .i64 s,.int .i64 r,.agg (ai .u8 8 nc)] ?_;refine(Oj 75 s r nc (by omega) (by omega) _).mono ?_;rintro _ YL ⟨km,E8,rfl,rZ,nU,xy,Ej⟩;have nW:=eI.new Ej nU xy;refine cd 205 #[.slice ka kn kc,.slice (some ⟨km,0,none⟩) (1+1+1+8) E8] ?_;refine(Tq ka kn kc kf km 0 (1+1+1+8) E8 (iK 75 s r nc) (by omega) (by omega) _ (nW.at_ 3 _ rfl) (cn.quiet hk nW.ch) (St.yZ (c:=E8) (wr:=true) (t:=5) (fr:=(0,0)) nW 0)).mono ?_;rintro _ zH ⟨rfl,jb⟩;have gK:=nW.quiet jb;refine store_ gK 1 (.agg (ai .u8 32 (gm kn kf (1+1+1+8) (iK 75 s r nc)))) fF 0 ?_;intro zI r9;refine au (ae (wp_ret ?_));refine eD rfl (ei [.cell 8 50] [.agg (ai .u8 32 (gm kn kf (1+1+1+8) (iK 75 s r nc)))] (.agg (ai .u8 32 (gm kn kf (1+1+1+8) (iK 75 s r nc)))) ⟨bh r9 1 32 fF 0,trivial⟩) ?_;exact⟨by(unfold jS)<;>kernel_rfl,r9.ch⟩
theorem close_ (k:Nat->Int) (s:Int) (b o m c:Nat) (f:Nat->Int) (hm:m<=50) (hs:0<=s/\s<4294967296) {tG:TypeId} (w:World) (hG:w.heap[(0)]?=some (.cells (ai .u32 64 aT) tG (0,0))) (hB:fl w b o m f):
 ak prog 171 #[.agg (ai .u8 32 k),.int .i64 s,.slice (some ⟨b,o,none⟩) m c] w λv w1=>∃b c1,v=.slice (some ⟨b,0,none⟩) (m+8) c1/\m+8<=c1/\w.heap.size<=b/\w1.heap[b]?=some (.cells (cN (m+8) (dW k s m f) c1) 5 (0,0))/\Ch [] w w1:=by
 have S0:=St.given (w:=w) [((0),.cells (ai .u32 64 aT) tG (0,0))] (all_cons hG (all_nil));refine ct Tryz.func171 rfl ?_;refine ao (aw ?_);refine cq S0 (λb=>.pointer (some ⟨b,0,none⟩)) (.cells (ai .u8 32 k) 50) ?_;intro bQ lU fm;refine aa (.slice none 0 0) ?_;refine au (ae (ao ?_));refine gY 9 [⟨0,λ_=>.slice (some ⟨bQ,0,none⟩) 32 32,λ_=>[]⟩,⟨1,λids=>.slice (some ⟨(ids.getD 0 0),0,none⟩) 1 1,λids=>[((ids.getD 0 0),.cells #[.int .u8 77] 5 (0,0))]⟩,⟨0,λ_=>.int .i64 s,λ_=>[]⟩,⟨1,λids=>.slice (some ⟨(ids.getD 0 0),0,none⟩) 1 1,λids=>[((ids.getD 0 0),.cells #[.int .u8 ((ay 1 (s%256)) 0)] 5 (0,0))]⟩,⟨0,λ_=>.slice (some ⟨b,o,none⟩) m c,λ_=>[]⟩,⟨3,λids=>.slice (some ⟨(ids.getD 0 0),0,none⟩) 3 3,λids=>[((ids.getD 0 0),.cells #[.slice (some ⟨(ids.getD 1 0),0,none⟩) 1 1,.slice (some ⟨(ids.getD 2 0),0,none⟩) 1 1,.slice (some ⟨b,o,none⟩) m c] 23 (0,0)),((ids.getD 1 0),.cells #[.int .u8 77] 5 (0,0)),((ids.getD 2 0),.cells #[.int .u8 ((ay 1 (s%256)) 0)] 5 (0,0))]⟩,⟨2,λids=>.slice (some ⟨(ids.getD 0 0),0,none⟩) (1+1+m) (ids.getD 1 0),λids=>[((ids.getD 0 0),.cells (cN (1+1+m) (kj 1 1 (λ_=>77) (ay 1 (s%256)) f) (ids.getD 1 0)) 5 (0,0))]⟩,⟨0,λ_=>.agg (ai .u8 8 (gm 32 k (1+1+m) (kj 1 1 (λ_=>77) (ay 1 (s%256)) f))),λ_=>[]⟩,⟨1,λids=>.pointer (some ⟨(ids.getD 0 0),0,none⟩),λids=>[((ids.getD 0 0),.cells (ai .u8 8 (λ_=>0)) 73 (0,0))]⟩] [[9,0],[9,1],[9,2],[9,3],[9,4],[9,5],[9,6],[9,7],[9,8]] ?_ ?_
 ·refine step_cons iA ?_;refine step_cons ?_ ?_
  ·intro Ek uc se U1 nY;have nW:=fm.quiet se;refine jV ?_;refine kE [] (fL) ?_;have Kf:=nW.loc;refine Y.cq Kf (λb=>.slice (some ⟨b,0,none⟩) 1 1) (.cells #[.int .u8 77] 5) ?_;intro aiG aaI sd;exact⟨sd.ch,Sp.da [aiG] (all_cons (sd.mn se.size 0 (by kernel_rfl)) (all_nil))⟩
  refine step_cons iA ?_;refine step_cons ?_ ?_
  ·intro aiH zH YQ akq ae5;have tM:aiH 10=.int .i64 s:=(Sp.bg (ae5 2 10 (by kernel_rfl) (by kernel_rfl))).1;have nV:=fm.quiet YQ;refine jV ?_;refine kE [(10,.int .i64 s)] (cu tM (fL)) ?_;have zP:=nV.loc;refine Y.cd 202 #[.int .i64 s,.int .i64 1] ?_;refine(UT s (by omega) _).mono ?_;rintro _ aaQ ⟨UZ,rfl,sh,iJ,tN⟩;have zQ:=zP.new tN sh iJ;exact⟨zQ.ch,Sp.da [UZ] (all_cons (zQ.mn YQ.size 0 (by kernel_rfl)) (all_nil))⟩
  refine step_cons iA ?_;refine step_cons ?_ ?_
  ·intro aaX Ki YR akr Oo;have aiI:=Sp.yR (Oo 1 9 (by kernel_rfl) (by kernel_rfl));obtain⟨Kj,ae6,ae7⟩:=aiI;have Cs:aaX 9=.slice (some ⟨Kj,0,none⟩) 1 1:=ae6;have ae8:∀zp∈([(Kj,.cells #[.int .u8 77] 5 (0,0))]:List (Nat×Obj)),lU.heap.size<=zp.1/\Ki.heap[zp.1]?=some zp.2:=ae7;have Oq:=Sp.yR (Oo 3 11 (by kernel_rfl) (by kernel_rfl));obtain⟨iL,ae9,Ct⟩:=Oq;have vu:aaX 11=.slice (some ⟨iL,0,none⟩) 1 1:=ae9;have Kk:∀zp∈([(iL,.cells #[.int .u8 ((ay 1 (s%256)) 0)] 5 (0,0))]:List (Nat×Obj)),lU.heap.size<=zp.1/\Ki.heap[zp.1]?=some zp.2:=Ct;have sf:aaX 12=.slice (some ⟨b,o,none⟩) m c:=(Sp.bg (Oo 4 12 (by kernel_rfl) (by kernel_rfl))).1;have Ot:=fm.ro YR (([(Kj,.cells #[.int .u8 77] 5 (0,0))]++[(iL,.cells #[.int .u8 ((ay 1 (s%256)) 0)] 5 (0,0))])) (List.forall_mem_append.2 ⟨ae8,Kk⟩);refine jV ?_;refine kE [(9,.slice (some ⟨Kj,0,none⟩) 1 1),(11,.slice (some ⟨iL,0,none⟩) 1 1),(12,.slice (some ⟨b,o,none⟩) m c)] (cu Cs (cu vu (cu sf (fL)))) ?_;have aiJ:=Ot.loc;refine Y.cq aiJ (λb=>.slice (some ⟨b,0,none⟩) 3 3) (.cells #[.slice (some ⟨Kj,0,none⟩) 1 1,.slice (some ⟨iL,0,none⟩) 1 1,.slice (some ⟨b,o,none⟩) m c] 23) ?_;intro aiK akU Cu;exact⟨Cu.ch,Sp.da [aiK,Kj,iL] (all_cons (Cu.mn YR.size 0 (by kernel_rfl)) (all_cons (Cu.Yt 1 (ae8 _ (List.Mem.head _)).1 false (by kernel_rfl)) (all_cons (Cu.Yt 2 (Kk _ (List.Mem.head _)).1 false (by kernel_rfl)) (all_nil))))⟩
  refine step_cons ?_ ?_
  ·intro aiL aiM YS aks ae_;have aiN:=Sp.aee (ae_ 5 13 (by kernel_rfl) (by kernel_rfl));obtain⟨Kl,ly,Ou,afa,afb⟩:=aiN;have Ck:aiL 13=.slice (some ⟨Kl,0,none⟩) 3 3:=afa;have aiO:∀zp∈([(Kl,.cells #[.slice (some ⟨ly,0,none⟩) 1 1,.slice (some ⟨Ou,0,none⟩) 1 1,.slice (some ⟨b,o,none⟩) m c] 23 (0,0)),(ly,.cells #[.int .u8 77] 5 (0,0)),(Ou,.cells #[.int .u8 ((ay 1 (s%256)) 0)] 5 (0,0))]:List (Nat×Obj)),lU.heap.size<=zp.1/\aiM.heap[zp.1]?=some zp.2:=afb;have J8:=fm.ro YS ([(Kl,.cells #[.slice (some ⟨ly,0,none⟩) 1 1,.slice (some ⟨Ou,0,none⟩) 1 1,.slice (some ⟨b,o,none⟩) m c] 23 (0,0)),(ly,.cells #[.int .u8 77] 5 (0,0)),(Ou,.cells #[.int .u8 ((ay 1 (s%256)) 0)] 5 (0,0))]) (aiO);refine jV ?_;refine kE [(13,.slice (some ⟨Kl,0,none⟩) 3 3)] (cu Ck (fL)) ?_;have zR:=J8.loc;refine Y.cd 172 #[.slice (some ⟨Kl,0,none⟩) 3 3] ?_;refine(H3 Kl ly 0 1 1 (λ_=>77) Ou 0 1 1 (ay 1 (s%256)) b o m c f (by omega) (by omega) _ (zR.at_ 0 _ rfl) (St.dG (N:=1) (f:=(λ_=>77)) (wr:=false) (t:=5) (fr:=(0,0)) zR 1) (St.dG (N:=1) (f:=(ay 1 (s%256))) (wr:=false) (t:=5) (fr:=(0,0)) zR 2) (St.iE zR (St.iE J8 hB (by simp)) (by simp))).mono ?_;rintro _ aeM ⟨aiP,aiQ,rfl,akV,aiR,aeO,aiS⟩;have afc:=zR.new aiS aiR aeO;exact⟨afc.ch,Sp.da [aiP,aiQ] (all_cons (afc.mn YS.size 0 (by kernel_rfl)) (all_nil))⟩
  refine step_cons ?_ ?_
  ·intro afd aiT afe akt YT;have aaU:afd 8=.slice (some ⟨bQ,0,none⟩) 32 32:=(Sp.bg (YT 0 8 (by kernel_rfl) (by kernel_rfl))).1;have aiU:=Sp.TI (YT 6 14 (by kernel_rfl) (by kernel_rfl));obtain⟨Km,E9,aff,afg⟩:=aiU;have aaV:afd 14=.slice (some ⟨Km,0,none⟩) (1+1+m) E9:=aff;have aiW:∀zp∈([(Km,.cells (cN (1+1+m) (kj 1 1 (λ_=>77) (ay 1 (s%256)) f) E9) 5 (0,0))]:List (Nat×Obj)),lU.heap.size<=zp.1/\aiT.heap[zp.1]?=some zp.2:=afg;have aiX:=fm.ro afe ([(Km,.cells (cN (1+1+m) (kj 1 1 (λ_=>77) (ay 1 (s%256)) f) E9) 5 (0,0))]) (aiW);refine jV ?_;refine kE [(8,.slice (some ⟨bQ,0,none⟩) 32 32),(14,.slice (some ⟨Km,0,none⟩) (1+1+m) E9)] (cu aaU (cu aaV (fL))) ?_;have U2:=aiX.loc;refine Y.cd 201 #[.slice (some ⟨bQ,0,none⟩) 32 32,.slice (some ⟨Km,0,none⟩) (1+1+m) E9] ?_;refine(aaH (some ⟨bQ,0,none⟩) 32 32 k Km 0 (1+1+m) E9 (kj 1 1 (λ_=>77) (ay 1 (s%256)) f) (by omega) (by omega) _ (U2.at_ 2 _ rfl) (cn.of8 (St.dG (N:=32) (f:=k) (wr:=false) (t:=50) (fr:=(0,0)) U2 1) (by omega) (by omega)) (St.yZ (c:=E9) (wr:=false) (t:=5) (fr:=(0,0)) U2 0)).mono ?_;rintro _ akW ⟨rfl,aiY⟩;have aiZ:=U2.quiet aiY;exact⟨aiZ.ch,Sp.da [] (all_nil)⟩
  refine step_cons ?_ ?_
  ·intro akX akY YU aku akv;have ai0:=fm.quiet YU;refine jV ?_;refine kE [] (fL) ?_;have ai1:=ai0.loc;refine Y.cq ai1 (λb=>.pointer (some ⟨b,0,none⟩)) (.cells (ai .u8 8 (λ_=>0)) 73) ?_;intro ai2 akZ afh;exact⟨afh.ch,Sp.da [ai2] (all_cons (afh.mn YU.size 0 (by kernel_rfl)) (all_nil))⟩
  exact ez
 intro zT Ov afi qp;have ai3:zT 0=.slice (some ⟨bQ,0,none⟩) 32 32:=(Sp.bg (qp 0 (by kernel_rfl))).1;have afj:=Sp.yR (qp 1 (by kernel_rfl));obtain⟨Ow,afk,aaY⟩:=afj;have ai4:zT 1=.slice (some ⟨Ow,0,none⟩) 1 1:=afk;have akw:∀zp∈([(Ow,.cells #[.int .u8 77] 5 (0,0))]:List (Nat×Obj)),lU.heap.size<=zp.1/\Ov.heap[zp.1]?=some zp.2:=aaY;have afl:zT 2=.int .i64 s:=(Sp.bg (qp 2 (by kernel_rfl))).1;have afm:=Sp.yR (qp 3 (by kernel_rfl));obtain⟨Ox,aaZ,aa0⟩:=afm;have afn:zT 3=.slice (some ⟨Ox,0,none⟩) 1 1:=aaZ;have akx:∀zp∈([(Ox,.cells #[.int .u8 ((ay 1 (s%256)) 0)] 5 (0,0))]:List (Nat×Obj)),lU.heap.size<=zp.1/\Ov.heap[zp.1]?=some zp.2:=aa0;have afo:zT 4=.slice (some ⟨b,o,none⟩) m c:=(Sp.bg (qp 4 (by kernel_rfl))).1;have afp:=Sp.aee (qp 5 (by kernel_rfl));obtain⟨Oy,YV,YW,aa1,aa2⟩:=afp;have afq:zT 5=.slice (some ⟨Oy,0,none⟩) 3 3:=aa1;have aky:∀zp∈([(Oy,.cells #[.slice (some ⟨YV,0,none⟩) 1 1,.slice (some ⟨YW,0,none⟩) 1 1,.slice (some ⟨b,o,none⟩) m c] 23 (0,0)),(YV,.cells #[.int .u8 77] 5 (0,0)),(YW,.cells #[.int .u8 ((ay 1 (s%256)) 0)] 5 (0,0))]:List (Nat×Obj)),lU.heap.size<=zp.1/\Ov.heap[zp.1]?=some zp.2:=aa2;have afr:=Sp.TI (qp 6 (by kernel_rfl));obtain⟨Oz,OA,aa3,aa4⟩:=afr;have afs:zT 6=.slice (some ⟨Oz,0,none⟩) (1+1+m) OA:=aa3;have akz:∀zp∈([(Oz,.cells (cN (1+1+m) (kj 1 1 (λ_=>77) (ay 1 (s%256)) f) OA) 5 (0,0))]:List (Nat×Obj)),lU.heap.size<=zp.1/\Ov.heap[zp.1]?=some zp.2:=aa4;have aft:zT 7=.agg (ai .u8 8 (gm 32 k (1+1+m) (kj 1 1 (λ_=>77) (ay 1 (s%256)) f))):=(Sp.bg (qp 7 (by kernel_rfl))).1;have afu:=Sp.yR (qp 8 (by kernel_rfl));obtain⟨vw,aa5,aa6⟩:=afu;have afv:zT 8=.pointer (some ⟨vw,0,none⟩):=aa5;have YX:∀zp∈([(vw,.cells (ai .u8 8 (λ_=>0)) 73 (0,0))]:List (Nat×Obj)),lU.heap.size<=zp.1/\Ov.heap[zp.1]?=some zp.2:=aa6;have afw:=fm.new afi (YX _ (List.Mem.head _)).1 (YX _ (List.Mem.head _)).2;refine⟨[.slice (some ⟨bQ,0,none⟩) 32 32,.slice (some ⟨Ow,0,none⟩) 1 1,.int .i64 s,.slice (some ⟨Ox,0,none⟩) 1 1,.slice (some ⟨b,o,none⟩) m c,.slice (some ⟨Oy,0,none⟩) 3 3,.slice (some ⟨Oz,0,none⟩) (1+1+m) OA,.agg (ai .u8 8 (gm 32 k (1+1+m) (kj 1 1 (λ_=>77) (ay 1 (s%256)) f))),.pointer (some ⟨vw,0,none⟩)],by kernel_rfl,av ai3 (av ai4 (av afl (av afn (av afo (av afq (av afs (av aft (av afv (k9))))))))),?_⟩;refine store_ afw 0 (.agg (ai .u8 8 (gm 32 k (1+1+m) (kj 1 1 (λ_=>77) (ay 1 (s%256)) f)))) vw 0 ?_;intro akA afx;refine au (ae (ao (aw ?_)));refine bJ ?_;refine aa (.slice (some ⟨vw,0,none⟩) 8 8) ?_;refine cq afx (λb=>.slice (some ⟨b,0,none⟩) 2 2) (.cells #[.slice (some ⟨b,o,none⟩) m c,.slice (some ⟨vw,0,none⟩) 8 8] 23) ?_;intro YY akB H6;refine cd 172 #[.slice (some ⟨YY,0,none⟩) 2 2] ?_;refine(Oi YY b o m c f vw 0 8 8 (gm 32 k (1+1+m) (kj 1 1 (λ_=>77) (ay 1 (s%256)) f)) (by omega) (by omega) _ (H6.at_ 0 _ rfl) (St.iE H6 hB (by simp)) (St.dG (N:=8) (f:=(gm 32 k (1+1+m) (kj 1 1 (λ_=>77) (ay 1 (s%256)) f))) (wr:=true) (t:=73) (fr:=(0,0)) H6 1)).mono ?_;rintro _ akC ⟨OB,Cv,rfl,afy,afz,afA,afB⟩;have OC:=H6.new afB afz afA;refine bm ?_;refine au (ae (wp_ret ?_));refine eD rfl (ei [.tmp 6] [.slice (some ⟨OB,0,none⟩) (m+8) Cv] (.slice (some ⟨OB,0,none⟩) (m+8) Cv) ⟨bo,trivial⟩) ?_;have ze:cN (m+8) (cy m f (gm 32 k (1+1+m) (kj 1 1 (λ_=>77) (ay 1 (s%256)) f))) Cv=cN (m+8) (dW k s m f) Cv:=by kernel_rfl
 exact⟨OB,Cv,by rw[show(m+8)=m+8 by omega],by have:=afy;omega,(OC.own 0 _ rfl rfl).resolve_left (by simp),by rw[<-ze];exact OC.at_ 0 _ rfl,OC.ch⟩
theorem vx (k:Nat->Int) (s:Int) (a:Option Addr) (n c:Nat) (hn:n<8) (w:World):
 ak prog 133 #[.agg (ai .u8 32 k),.int .i64 s,.slice a n c] w λv w1=>v=.tuple #[.slice none 0 0,.int .i64 14]/\Ch [] w w1:=by
 have S0:=St.nil [] w;refine ct Tryz.func133 rfl ?_;refine ao (aw ?_);refine cq S0 (λb=>.pointer (some ⟨b,0,none⟩)) (.cells (ai .u8 32 k) 50) ?_;intro bQ lU fm;refine aa (.slice none 0 0) ?_;refine aa (.int .i64 0) ?_;refine au (ae (ao (aw ?_)));refine aa (.slice a n c) ?_;refine aa (.int .i64 ((n:Nat):Int)) ?_;refine j9 .i64 (((n:Nat):Int)-8) (IntWalk.i64_in _ (by omega)) ?_;refine bm ?_;refine au (ae (ao (ao ?_)));refine tV 10 [.int .i64 (((n:Nat):Int)-8),.bool true,.bool true,undef,undef,undef,undef,undef,undef,undef] [[10,2,1,0],[10,2,1],[10,2],[10,3],[10,9,4],[10,9,5],[10,9,8,6],[10,9,8,7],[10,9,8],[10,9],[11,2,1,0],[11,2,1],[11,2],[11,10,3],[11,10,9,4],[11,10,9,5],[11,10,9,8,6],[11,10,9,8,7],[11,10,9,8],[11,10,9],[11,10],[12,2,1,0],[12,2,1],[12,2],[12,11,10,3],[12,11,10,9,4],[12,11,10,9,5],[12,11,10,9,8,6],[12,11,10,9,8,7],[12,11,10,9,8],[12,11,10,9],[12,11,10],[12,11]] (step_cons iA (step_cons (qE_ (.bool (decide ((((n:Nat):Int)-8)<0))) (congrArg Value.bool (ltT (by omega)))) (step_cons iA (step_cons (ZX 2 14 false true) (step_cons (ZX 2 14 false true) (step_cons (ZX 2 14 false true) (step_cons (ZX 2 14 false true) (step_cons (ZX 2 14 false true) (step_cons (ZX 2 14 false true) (step_cons (ZX 2 14 false true) (ez))))))))))) ?_;intro zw4 zh6;have zS5:=fm.quiet zh6;refine mf ?_;refine mf ?_;refine aa (.bool true) ?_;refine au (ae (jk ?_));refine ao (aw ?_);refine aa (.slice none 0 0) ?_;refine aa (.int .i64 14) ?_;refine au (ae (wp_ret (oE ?_)));refine eD rfl (ei [.tmp 6,.tmp 7] [.slice none 0 0,.int .i64 14] (.tuple #[.slice none 0 0,.int .i64 14]) ⟨bo,bo,trivial⟩) ?_;exact⟨rfl,zS5.ch⟩
theorem U3 (k:Nat->Int) (s:Int) (b o m c:Nat) (f:Nat->Int) (hm:m<=50) (hc:m+8<=c) (hs:0<=s/\s<4294967296) (ho:kl k s m f=false) {tG:TypeId} (w:World) (hG:w.heap[(0)]?=some (.cells (ai .u32 64 aT) tG (0,0))) (hB:fl w b o (m+8) f):
 ak prog 133 #[.agg (ai .u8 32 k),.int .i64 s,.slice (some ⟨b,o,none⟩) (m+8) c] w λv w1=>v=.tuple #[.slice none 0 0,.int .i64 14]/\Ch [] w w1:=by
 have S0:=St.given (w:=w) [((0),.cells (ai .u32 64 aT) tG (0,0))] (all_cons hG (all_nil));refine ct Tryz.func133 rfl ?_;refine ao (aw ?_);refine cq S0 (λb=>.pointer (some ⟨b,0,none⟩)) (.cells (ai .u8 32 k) 50) ?_;intro bQ lU fm;refine aa (.slice none 0 0) ?_;refine aa (.int .i64 0) ?_;refine au (ae (ao (aw ?_)));refine bJ ?_;refine aa (.int .i64 (((m+8):Nat):Int)) ?_;refine e_ (.int .i64 (i64.wrap ((((m+8):Nat):Int)-8))) (.int .i64 ((m:Nat):Int)) (congrArg _ ((IntWalk.i64_in _ (by omega)).trans (by omega))) ?_;refine bm ?_;refine au (ae (ao (ao ?_)));refine gY 10 [⟨0,λ_=>.int .i64 ((m:Nat):Int),λ_=>[]⟩,⟨0,λ_=>.bool false,λ_=>[]⟩,⟨0,λ_=>.bool false,λ_=>[]⟩,⟨0,λ_=>.slice (some ⟨b,o,none⟩) (m+8) c,λ_=>[]⟩,⟨0,λ_=>.agg (ai .u8 32 k),λ_=>[]⟩,⟨0,λ_=>.int .i64 s,λ_=>[]⟩,⟨0,λ_=>.slice (some ⟨b,o,none⟩) (m+8) c,λ_=>[]⟩,⟨0,λ_=>.int .i64 ((m:Nat):Int),λ_=>[]⟩,⟨0,λ_=>.slice (some ⟨b,o,none⟩) m c,λ_=>[]⟩,⟨2,λids=>.slice (some ⟨(ids.getD 0 0),0,none⟩) (m+8) (ids.getD 1 0),λids=>[((ids.getD 0 0),.cells (cN (m+8) (dW k s m f) (ids.getD 1 0)) 5 (0,0))]⟩] [[10,2,1,0],[10,2,1],[10,2],[10,3],[10,9,4],[10,9,5],[10,9,8,6],[10,9,8,7],[10,9,8],[10,9],[11,2,1,0],[11,2,1],[11,2],[11,10,3],[11,10,9,4],[11,10,9,5],[11,10,9,8,6],[11,10,9,8,7],[11,10,9,8],[11,10,9],[11,10],[12,2,1,0],[12,2,1],[12,2],[12,11,10,3],[12,11,10,9,4],[12,11,10,9,5],[12,11,10,9,8,6],[12,11,10,9,8,7],[12,11,10,9,8],[12,11,10,9],[12,11,10],[12,11]] ?_ ?_
 ·refine step_cons iA ?_;refine step_cons (qE_ (.bool (decide (((m:Nat):Int)<0))) (congrArg Value.bool (ltF (by omega)))) ?_;refine step_cons iA ?_;refine step_cons (Mq 2 14 false iA) ?_;refine step_cons (Mq 2 14 false (TM fm 0 bQ 0 32 (ai .u8 32 k))) ?_;refine step_cons (Mq 2 14 false iA) ?_;refine step_cons (Mq 2 14 false iA) ?_;refine step_cons (Mq 2 14 false iA) ?_;refine step_cons (Mq 2 14 false (iA (h:=funext λ_=>tU (n:=(m+8)) (e:=5) (kd:=.i64) m (Nat.le_trans (by omega) hc)))) ?_;refine step_cons ?_ ?_
  ·intro Ek uc se U1 nY;have J9:Ek 16=.agg (ai .u8 32 k):=(Sp.bg (nY 4 16 (by kernel_rfl) (by kernel_rfl))).1;have jy:Ek 17=.int .i64 s:=(Sp.bg (nY 5 17 (by kernel_rfl) (by kernel_rfl))).1;have iI:Ek 20=.slice (some ⟨b,o,none⟩) m c:=(Sp.bg (nY 8 20 (by kernel_rfl) (by kernel_rfl))).1;have rZ:Ek 14=.bool false:=(Sp.bg (nY 2 14 (by kernel_rfl) (by kernel_rfl))).1;have sd:=fm.quiet se;refine uI (ZP rZ) ?_;refine kE [(16,.agg (ai .u8 32 k)),(17,.int .i64 s),(20,.slice (some ⟨b,o,none⟩) m c)] (cu J9 (cu jy (cu iI (fL)))) ?_;have ja:=sd.loc;refine Y.cd 171 #[.agg (ai .u8 32 k),.int .i64 s,.slice (some ⟨b,o,none⟩) m c] ?_;refine(close_ k s b o m c f (by omega) (by omega) _ (ja.at_ 1 _ rfl) (St.iE ja (St.iE sd (fl.cut (n:=(m+8)) (m:=m) hB (by omega)) (by simp)) (by simp))).mono ?_;rintro _ zH ⟨aa7,aa8,rfl,Ol,OD,zJ,jb⟩;have gK:=ja.new jb OD zJ;exact⟨gK.ch,Sp.da [aa7,aa8] (all_cons (gK.mn se.size 0 (by kernel_rfl)) (all_nil))⟩
  exact ez
 intro kp OE OF fQ;have iJ:kp 0=.int .i64 ((m:Nat):Int):=(Sp.bg (fQ 0 (by kernel_rfl))).1;have nX:kp 1=.bool false:=(Sp.bg (fQ 1 (by kernel_rfl))).1;have E6:kp 2=.bool false:=(Sp.bg (fQ 2 (by kernel_rfl))).1;have E_:kp 3=.slice (some ⟨b,o,none⟩) (m+8) c:=(Sp.bg (fQ 3 (by kernel_rfl))).1;have qn:kp 4=.agg (ai .u8 32 k):=(Sp.bg (fQ 4 (by kernel_rfl))).1;have nZ:kp 5=.int .i64 s:=(Sp.bg (fQ 5 (by kernel_rfl))).1;have Cs:kp 6=.slice (some ⟨b,o,none⟩) (m+8) c:=(Sp.bg (fQ 6 (by kernel_rfl))).1;have jz:kp 7=.int .i64 ((m:Nat):Int):=(Sp.bg (fQ 7 (by kernel_rfl))).1;have n7:kp 8=.slice (some ⟨b,o,none⟩) m c:=(Sp.bg (fQ 8 (by kernel_rfl))).1;have Oq:=Sp.TI (fQ 9 (by kernel_rfl));obtain⟨iL,kL,OG,Ct⟩:=Oq;have qq:kp 9=.slice (some ⟨iL,0,none⟩) (m+8) kL:=OG;have Kk:∀zp∈([(iL,.cells (cN (m+8) (dW k s m f) kL) 5 (0,0))]:List (Nat×Obj)),lU.heap.size<=zp.1/\OE.heap[zp.1]?=some zp.2:=Ct;have tO:=fm.ro OF ([(iL,.cells (cN (m+8) (dW k s m f) kL) 5 (0,0))]) (Kk);refine⟨[.int .i64 ((m:Nat):Int),.bool false,.bool false,.slice (some ⟨b,o,none⟩) (m+8) c,.agg (ai .u8 32 k),.int .i64 s,.slice (some ⟨b,o,none⟩) (m+8) c,.int .i64 ((m:Nat):Int),.slice (some ⟨b,o,none⟩) m c,.slice (some ⟨iL,0,none⟩) (m+8) kL],by kernel_rfl,av iJ (av nX (av E6 (av E_ (av qn (av nZ (av Cs (av jz (av n7 (av qq (k9)))))))))),?_⟩;refine cd 168 #[.slice (some ⟨b,o,none⟩) (m+8) c,.slice (some ⟨iL,0,none⟩) (m+8) kL] ?_;refine(HV b o (m+8) c iL 0 kL f (dW k s m f) (by omega) _ (St.iE tO hB (by simp)) (St.yZ (c:=kL) (wr:=false) (t:=5) (fr:=(0,0)) tO 0)).mono ?_;rintro _ aeJ ⟨rfl,zL⟩;have J7:=tO.quiet zL;refine aa (.bool (!(j4 (m+8) f (dW k s m f)))) ?_;refine aa (.bool (!(j4 (m+8) f (dW k s m f)))) ?_;refine au (ae ?_);refine Ep (!(j4 (m+8) f (dW k s m f))) (ZK (ho)) ?_;refine ao (aw ?_);refine aa (.slice none 0 0) ?_;refine aa (.int .i64 14) ?_;refine au (ae (wp_ret (oE ?_)));refine eD rfl (ei [.tmp 6,.tmp 7] [.slice none 0 0,.int .i64 14] (.tuple #[.slice none 0 0,.int .i64 14]) ⟨bo,bo,trivial⟩) ?_;exact⟨rfl,J7.ch⟩
theorem OH (k:Nat->Int) (s:Int) (b o m c:Nat) (f:Nat->Int) (hm:m<=50) (hc:m+8<=c) (hs:0<=s/\s<4294967296) (ho:kl k s m f=true) {tG:TypeId} (w:World) (hG:w.heap[(0)]?=some (.cells (ai .u32 64 aT) tG (0,0))) (hB:fl w b o (m+8) f):
 ak prog 133 #[.agg (ai .u8 32 k),.int .i64 s,.slice (some ⟨b,o,none⟩) (m+8) c] w λv w1=>∃x1 c1 xf,v=.tuple #[.slice x1 m c1,.int .i64 0]/\dG 5 m f x1 c1 xf/\St [] w xf w1:=by
 have S0:=St.given (w:=w) [((0),.cells (ai .u32 64 aT) tG (0,0))] (all_cons hG (all_nil));refine ct Tryz.func133 rfl ?_;refine ao (aw ?_);refine cq S0 (λb=>.pointer (some ⟨b,0,none⟩)) (.cells (ai .u8 32 k) 50) ?_;intro bQ lU fm;refine aa (.slice none 0 0) ?_;refine aa (.int .i64 0) ?_;refine au (ae (ao (aw ?_)));refine bJ ?_;refine aa (.int .i64 (((m+8):Nat):Int)) ?_;refine e_ (.int .i64 (i64.wrap ((((m+8):Nat):Int)-8))) (.int .i64 ((m:Nat):Int)) (congrArg _ ((IntWalk.i64_in _ (by omega)).trans (by omega))) ?_;refine bm ?_;refine au (ae (ao (ao ?_)));refine gY 10 [⟨0,λ_=>.int .i64 ((m:Nat):Int),λ_=>[]⟩,⟨0,λ_=>.bool false,λ_=>[]⟩,⟨0,λ_=>.bool false,λ_=>[]⟩,⟨0,λ_=>.slice (some ⟨b,o,none⟩) (m+8) c,λ_=>[]⟩,⟨0,λ_=>.agg (ai .u8 32 k),λ_=>[]⟩,⟨0,λ_=>.int .i64 s,λ_=>[]⟩,⟨0,λ_=>.slice (some ⟨b,o,none⟩) (m+8) c,λ_=>[]⟩,⟨0,λ_=>.int .i64 ((m:Nat):Int),λ_=>[]⟩,⟨0,λ_=>.slice (some ⟨b,o,none⟩) m c,λ_=>[]⟩,⟨2,λids=>.slice (some ⟨(ids.getD 0 0),0,none⟩) (m+8) (ids.getD 1 0),λids=>[((ids.getD 0 0),.cells (cN (m+8) (dW k s m f) (ids.getD 1 0)) 5 (0,0))]⟩] [[10,2,1,0],[10,2,1],[10,2],[10,3],[10,9,4],[10,9,5],[10,9,8,6],[10,9,8,7],[10,9,8],[10,9],[11,2,1,0],[11,2,1],[11,2],[11,10,3],[11,10,9,4],[11,10,9,5],[11,10,9,8,6],[11,10,9,8,7],[11,10,9,8],[11,10,9],[11,10],[12,2,1,0],[12,2,1],[12,2],[12,11,10,3],[12,11,10,9,4],[12,11,10,9,5],[12,11,10,9,8,6],[12,11,10,9,8,7],[12,11,10,9,8],[12,11,10,9],[12,11,10],[12,11]] ?_ ?_
 ·refine step_cons iA ?_;refine step_cons (qE_ (.bool (decide (((m:Nat):Int)<0))) (congrArg Value.bool (ltF (by omega)))) ?_;refine step_cons iA ?_;refine step_cons (Mq 2 14 false iA) ?_;refine step_cons (Mq 2 14 false (TM fm 0 bQ 0 32 (ai .u8 32 k))) ?_;refine step_cons (Mq 2 14 false iA) ?_;refine step_cons (Mq 2 14 false iA) ?_;refine step_cons (Mq 2 14 false iA) ?_;refine step_cons (Mq 2 14 false (iA (h:=funext λ_=>tU (n:=(m+8)) (e:=5) (kd:=.i64) m (Nat.le_trans (by omega) hc)))) ?_;refine step_cons ?_ ?_
  ·intro Ek uc se U1 nY;have J9:Ek 16=.agg (ai .u8 32 k):=(Sp.bg (nY 4 16 (by kernel_rfl) (by kernel_rfl))).1;have jy:Ek 17=.int .i64 s:=(Sp.bg (nY 5 17 (by kernel_rfl) (by kernel_rfl))).1;have iI:Ek 20=.slice (some ⟨b,o,none⟩) m c:=(Sp.bg (nY 8 20 (by kernel_rfl) (by kernel_rfl))).1;have rZ:Ek 14=.bool false:=(Sp.bg (nY 2 14 (by kernel_rfl) (by kernel_rfl))).1;have sd:=fm.quiet se;refine uI (ZP rZ) ?_;refine kE [(16,.agg (ai .u8 32 k)),(17,.int .i64 s),(20,.slice (some ⟨b,o,none⟩) m c)] (cu J9 (cu jy (cu iI (fL)))) ?_;have ja:=sd.loc;refine Y.cd 171 #[.agg (ai .u8 32 k),.int .i64 s,.slice (some ⟨b,o,none⟩) m c] ?_;refine(close_ k s b o m c f (by omega) (by omega) _ (ja.at_ 1 _ rfl) (St.iE ja (St.iE sd (fl.cut (n:=(m+8)) (m:=m) hB (by omega)) (by simp)) (by simp))).mono ?_;rintro _ zH ⟨aa7,aa8,rfl,Ol,OD,zJ,jb⟩;have gK:=ja.new jb OD zJ;exact⟨gK.ch,Sp.da [aa7,aa8] (all_cons (gK.mn se.size 0 (by kernel_rfl)) (all_nil))⟩
  exact ez
 intro kp OE OF fQ;have iJ:kp 0=.int .i64 ((m:Nat):Int):=(Sp.bg (fQ 0 (by kernel_rfl))).1;have nX:kp 1=.bool false:=(Sp.bg (fQ 1 (by kernel_rfl))).1;have E6:kp 2=.bool false:=(Sp.bg (fQ 2 (by kernel_rfl))).1;have E_:kp 3=.slice (some ⟨b,o,none⟩) (m+8) c:=(Sp.bg (fQ 3 (by kernel_rfl))).1;have qn:kp 4=.agg (ai .u8 32 k):=(Sp.bg (fQ 4 (by kernel_rfl))).1;have nZ:kp 5=.int .i64 s:=(Sp.bg (fQ 5 (by kernel_rfl))).1;have Cs:kp 6=.slice (some ⟨b,o,none⟩) (m+8) c:=(Sp.bg (fQ 6 (by kernel_rfl))).1;have jz:kp 7=.int .i64 ((m:Nat):Int):=(Sp.bg (fQ 7 (by kernel_rfl))).1;have n7:kp 8=.slice (some ⟨b,o,none⟩) m c:=(Sp.bg (fQ 8 (by kernel_rfl))).1;have Oq:=Sp.TI (fQ 9 (by kernel_rfl));obtain⟨iL,kL,OG,Ct⟩:=Oq;have qq:kp 9=.slice (some ⟨iL,0,none⟩) (m+8) kL:=OG;have Kk:∀zp∈([(iL,.cells (cN (m+8) (dW k s m f) kL) 5 (0,0))]:List (Nat×Obj)),lU.heap.size<=zp.1/\OE.heap[zp.1]?=some zp.2:=Ct;have tO:=fm.ro OF ([(iL,.cells (cN (m+8) (dW k s m f) kL) 5 (0,0))]) (Kk);refine⟨[.int .i64 ((m:Nat):Int),.bool false,.bool false,.slice (some ⟨b,o,none⟩) (m+8) c,.agg (ai .u8 32 k),.int .i64 s,.slice (some ⟨b,o,none⟩) (m+8) c,.int .i64 ((m:Nat):Int),.slice (some ⟨b,o,none⟩) m c,.slice (some ⟨iL,0,none⟩) (m+8) kL],by kernel_rfl,av iJ (av nX (av E6 (av E_ (av qn (av nZ (av Cs (av jz (av n7 (av qq (k9)))))))))),?_⟩;refine cd 168 #[.slice (some ⟨b,o,none⟩) (m+8) c,.slice (some ⟨iL,0,none⟩) (m+8) kL] ?_;refine(HV b o (m+8) c iL 0 kL f (dW k s m f) (by omega) _ (St.iE tO hB (by simp)) (St.yZ (c:=kL) (wr:=false) (t:=5) (fr:=(0,0)) tO 0)).mono ?_;rintro _ aeJ ⟨rfl,zL⟩;have J7:=tO.quiet zL;refine aa (.bool (!(j4 (m+8) f (dW k s m f)))) ?_;refine aa (.bool (!(j4 (m+8) f (dW k s m f)))) ?_;refine au (ae ?_);refine yO (!(j4 (m+8) f (dW k s m f))) (TG (ho)) ?_;refine wp_skip (ae (ao (aw ?_)));refine bJ ?_;refine bJ ?_;refine aa (.slice (some ⟨b,o,none⟩) m c) ?_ (h:=tU (n:=(m+8)) (e:=5) (kd:=.i64) m (Nat.le_trans (by omega) hc));refine cq J7 (λb=>.slice (some ⟨b,0,none⟩) 1 1) (.cells #[.slice (some ⟨b,o,none⟩) m c] 23) ?_;intro zK ai5 aa9;refine cd 172 #[.slice (some ⟨zK,0,none⟩) 1 1] ?_;refine(UX zK b o m c f (by omega) _ (aa9.at_ 0 _ rfl) (St.iE aa9 (fl.cut (n:=(m+8)) (m:=m) hB (by omega)) (by simp))).mono ?_;rintro _ afC ⟨U4,U5,OI,rfl,U6,ai6⟩;have J8:St [] w (OI++([⟨zK,true,.cells #[.slice (some ⟨b,o,none⟩) m c] 23 (0,0)⟩,⟨iL,false,.cells (cN (m+8) (dW k s m f) kL) 5 (0,0)⟩,⟨bQ,true,.cells (ai .u8 32 k) 50 (0,0)⟩,⟨(0),false,.cells (ai .u32 64 aT) tG (0,0)⟩]++([]:List ax))) afC:=(aa9.conv (by kernel_rfl):St [] w ([⟨zK,true,.cells #[.slice (some ⟨b,o,none⟩) m c] 23 (0,0)⟩,⟨iL,false,.cells (cN (m+8) (dW k s m f) kL) 5 (0,0)⟩,⟨bQ,true,.cells (ai .u8 32 k) 50 (0,0)⟩,⟨(0),false,.cells (ai .u32 64 aT) tG (0,0)⟩]++([]:List ax)) ai5).beside ai6 (dG.wr U6);have zR:St [] w ([⟨zK,true,.cells #[.slice (some ⟨b,o,none⟩) m c] 23 (0,0)⟩,⟨iL,false,.cells (cN (m+8) (dW k s m f) kL) 5 (0,0)⟩,⟨bQ,true,.cells (ai .u8 32 k) 50 (0,0)⟩,⟨(0),false,.cells (ai .u32 64 aT) tG (0,0)⟩]++(OI++([]:List ax))) afC:=J8.re (R:=([]:List ax)) [OI,[⟨zK,true,.cells #[.slice (some ⟨b,o,none⟩) m c] 23 (0,0)⟩,⟨iL,false,.cells (cN (m+8) (dW k s m f) kL) 5 (0,0)⟩,⟨bQ,true,.cells (ai .u8 32 k) 50 (0,0)⟩,⟨(0),false,.cells (ai .u32 64 aT) tG (0,0)⟩]] [1,0];refine aa (.slice U4 m U5) ?_;refine aa (.int .i64 0) ?_;refine au (ae (wp_ret ?_));refine eD rfl (ei [.tmp 6,.tmp 7] [.slice U4 m U5,.int .i64 0] (.tuple #[.slice U4 m U5,.int .i64 0]) ⟨bo,bo,trivial⟩) ?_;exact⟨U4,U5,OI,rfl,U6,(zR.re (R:=([]:List ax)) [[⟨zK,true,.cells #[.slice (some ⟨b,o,none⟩) m c] 23 (0,0)⟩],[⟨iL,false,.cells (cN (m+8) (dW k s m f) kL) 5 (0,0)⟩],[⟨bQ,true,.cells (ai .u8 32 k) 50 (0,0)⟩],[⟨(0),false,.cells (ai .u32 64 aT) tG (0,0)⟩],OI] [4]).sub (List.sublist_append_left _ ([]:List ax))⟩
end Go.Proofs.YtlkpikfddnjilaaGreatDoor
