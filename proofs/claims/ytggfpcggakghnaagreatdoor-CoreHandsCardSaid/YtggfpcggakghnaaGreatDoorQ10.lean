/- Part 10 of the proof. -/
import Derived.Test.YtggfpcggakghnaaGreatDoorQ9
set_option linter.all false
set_option maxRecDepth 100000
set_option maxHeartbeats 4000000
open Go.Proofs.Tryz
open Go.IntKind (u8 u16 u32 u64 i64)
namespace Go.Proofs.YtggfpcggakghnaaGreatDoor
open Go Go.RowKit Go.BigFrame Sx Vx
def aq (k:Nat) (x:Int):Nat->Int:=λj=>u8.wrap (Int.fdiv x (2^(8*(k-1-j))))
theorem fdiv_zero (x:Int) (k:Nat) (h0:0<=x) (h1:x<2^k):Int.fdiv x (2^k)=0:=by
 rw[Int.fdiv_eq_ediv_of_nonneg _ (Int.le_of_lt (Int.lt_of_le_of_lt h0 h1))];exact Int.ediv_eq_zero_of_lt h0 h1
def ints (n:Nat) (f:Nat->Int):List V:=(List.range n).map λj=>.int .u8 (f j)
theorem Gt {G:Type} [Bl G] {L:List (dI G)} {h:(Operand->V)->Op->List VB->List G->VK G->Prop} {hok:oA prog gv h} (hL:ai prog gv L) {f:FuncId} {args:List V} {K:VK G} {w:World} (hv:Mm (cJ (mL prog gv L h hok) 60 f args [] [] (cP 0 K))):
 aj prog f (ao [] args).toArray w λv w'=>∃x ids bl ch,v=den ids x/\ids.length=bl.length/\St [] w (lits ids ids bl++af ch []) w'/\K x bl ch:=by
 refine(bw hL.T hL.Q 60 (C:=mL prog gv L h hok) (ids:=[]) (bl:=[]) (ch:=[]) (R:=[]) (λg i h=>by cases h) rfl (St.nil [] w) hv.h).mono ?_;rintro v w' ⟨x,more,bl',ch',rfl,h1,S',hK⟩;obtain⟨v2,aP,bl2,hv,gx,S2,Mx⟩:=c9 (n0:=0) h1 (Nat.zero_le _) S' hK;exact⟨v2,_,bl2,ch',hv,gx,S2,Mx⟩
def My (k:Nat) (x:Int):VB:=⟨true,⟨5,(0,0)⟩,ints k (aq k x)⟩
def J9 (k:Nat) (x d:Int) (K:VK Empty):Prop:=cJ (mL prog gv ([]:List (dI Empty)) (Dh prog) lQ) 60 70 [.int .u64 x,.int .i64 k] [] [] (cP 0 K)=cond (Int.fdiv x d !=0) (K (.az [.raw (.slice none 0 0),.int .i64 1]) [] []) (K (.az [.sl 0 0 k k,.int .i64 0]) [My k x] [])
theorem Xv (x:Int) (K:VK Empty):J9 1 x (2^8) K:=by
 unfold J9;kernel_rfl
theorem Xw (x:Int) (K:VK Empty):J9 2 x (2^16) K:=by
 unfold J9;kernel_rfl
theorem Xx (x:Int) (K:VK Empty):J9 4 x (2^32) K:=by
 unfold J9;kernel_rfl
theorem iS (ids:List Nat) (n:Nat) (f:Nat->Int):(ab ids (ints n f)).toArray=ak .u8 n f:=by
 have h:∀l:List Nat,ab ids (l.map λj=>V.int .u8 (f j))=l.map λj=>Value.int .u8 (f j):=by
  intro l;induction l with
  |nil=>rfl
  |cons j l ih=>simp only[List.map_cons,ab,cl,den,ih,List.singleton_append]
 unfold ints;rw[h];rfl
theorem AN {k e:Nat} {x:Int} (hx:0<=x/\x<2^e) (hv:∀K,J9 k x (2^e) K) (w:World):aj prog 70 #[.int .u64 x,.int .i64 k] w λv w1=>∃b,v=.tuple #[.slice (some ⟨b,0,none⟩) k k,.int .i64 0]/\w.heap.size<=b/\w1.heap[b]?=some (.cells (ak .u8 k (aq k x)) 5 (0,0))/\Ch [] w w1:=by
 have h:cJ (mL prog gv ([]:List (dI Empty)) (Dh prog) lQ) 60 70 [.int .u64 x,.int .i64 k] [] [] (cP 0 λv bl _=>v=.az [.sl 0 0 k k,.int .i64 0]/\bl=[My k x]):=by
  rw[show _=_ from hv _,fdiv_zero x e hx.1 hx.2];exact⟨rfl,rfl⟩
 refine(Gt ai.nil ⟨h⟩).mono ?_;rintro v w' ⟨y,ids,bl,ch,rfl,hl,S,rfl,rfl⟩
 match ids,hl with
 |[b],_=>
  refine⟨b,rfl,(S.own 0 (aE [b] b (My k x)) rfl rfl).resolve_left (by simp),?_,S.ch⟩;have:=S.at_ 0 (aE [b] b (My k x)) rfl;simp only[aE,My,iS]at this;exact this
def Qp {G:Type}:gm G:=λargs bl ch K=>match args with
 |[.int .u64 x,.int .i64 (.ofNat k)]=>cond ((Nat.beq k 1||(Nat.beq k 2||Nat.beq k 4))&&dk bl.length bl) ((0<=x/\x<2^(8*k))/\K (.az [.sl bl.length 0 k k,.int .i64 0]) (bl++[My k x]) ch) False
 |_=>False
theorem Mz {G:Type} [Bl G] {gl:Nat->Option Nat}:Sound (G:=G) prog gl 70 Qp:=by
 intro args ids bl ch R ms w0 w K hg hl S hc;unfold Qp at hc;split at hc
 ·rename_i x k;cases hq:(Nat.beq k 1||(Nat.beq k 2||Nat.beq k 4))&&dk bl.length bl with
  |false=>rw[hq]at hc;exact hc.elim
  |true=>
   rw[hq]at hc;simp only[Bool.and_eq_true,Bool.or_eq_true]at hq;obtain⟨hx,hK⟩:=hc;have hp:aj prog 70 #[.int .u64 x,.int .i64 k] w λv w1=>∃b,v=.tuple #[.slice (some ⟨b,0,none⟩) k k,.int .i64 0]/\w.heap.size<=b/\w1.heap[b]?=some (.cells (ak .u8 k (aq k x)) 5 (0,0))/\Ch [] w w1:=by
    rcases hq.1 with h|h|h
    ·obtain rfl:=Nat.eq_of_beq_eq_true h;exact AN hx (Xv x) w
    ·obtain rfl:=Nat.eq_of_beq_eq_true h;exact AN hx (Xw x) w
    ·obtain rfl:=Nat.eq_of_beq_eq_true h;exact AN hx (Xx x) w
   refine hp.mono ?_;rintro v w' ⟨b,rfl,jI,ba,eZ⟩;refine⟨_,[b],_,_,?_,by simp[hl],?_,hK⟩
   ·have:(ids++[b]).getD bl.length 0=b:=by rw[<-hl];simp[List.getD]
    simp only[den,ao,this]
   ·have e:aE (ids++[b]) b (My k x)=⟨b,true,.cells (ak .u8 k (aq k x)) 5 (0,0)⟩:=by
     unfold aE My;rw[iS]
    rw[aI _ _ _ _ hl,aJ _ _ (by rw[hl];exact hq.2)];simp only[lits,e];refine(S.new eZ jI ba).perm ?_;rw[List.append_assoc];exact List.perm_middle.symm
 ·exact hc.elim
theorem MA {G:Type}:cT (Qp (G:=G)):=by
 intro args bl ch K hc;unfold Qp at hc⊢;split at hc
 ·revert hc;cases(Nat.beq _ 1||(Nat.beq _ 2||Nat.beq _ 4))&&dk bl.length bl with
  |false=>exact λh=>h.elim
  |true=>exact λh=>⟨h.1,h.2,_,rfl⟩
 ·exact hc.elim
def MB (G:Type):List (dI G):=[⟨70,true,Qp⟩]
theorem Jy {G:Type} [Bl G] {gl:Nat->Option Nat}:ai (G:=G) prog gl (MB G):=ai.cons ⟨Mz,λ_=>MA⟩ ai.nil
def asX (k:Nat) (n m:Int) (K:VK Empty):Prop:=cJ (dR prog gv (MB Empty)) 60 44 [.int .i64 n,.int .i64 k] [] [] (cP 0 K)=((0<=bits .and .u64 (u64.wrap n) m/\bits .and .u64 (u64.wrap n) m<2^(8*k))/\K (.sl 0 0 k k) [My k (bits .and .u64 (u64.wrap n) m)] [])
theorem acS (n:Int) (K:VK Empty):asX 1 n 255 K:=by
 unfold asX;kernel_rfl
theorem acT (n:Int) (K:VK Empty):asX 4 n 4294967295 K:=by
 unfold asX;kernel_rfl
theorem Qq {k:Nat} {n m d:Int} (hn:0<=n/\n<4294967296) (hv:∀K,asX k n m K) (he:bits .and .u64 n m=n%d) (hd:0<d) (h2:d=2^(8*k)) (w:World):
 aj prog 44 #[.int .i64 n,.int .i64 k] w λv w1=>∃b,v=.slice (some ⟨b,0,none⟩) k k/\w.heap.size<=b/\w1.heap[b]?=some (.cells (ak .u8 k (aq k (n%d))) 5 (0,0))/\Ch [] w w1:=by
 have h:cJ (dR prog gv (MB Empty)) 60 44 [.int .i64 n,.int .i64 k] [] [] (cP 0 λv bl _=>v=.sl 0 0 k k/\bl=[My k (n%d)]):=by
  rw[show _=_ from hv _,IntWalk.u64_in _ (by omega),he];exact⟨⟨Int.emod_nonneg _ (by omega),h2▸Int.emod_lt_of_pos _ hd⟩,rfl,rfl⟩
 refine(Gt (h:=noH) (hok:=FU) Jy ⟨h⟩).mono ?_;rintro v w' ⟨y,ids,bl,ch,rfl,hl,S,rfl,rfl⟩
 match ids,hl with
 |[b],_=>
  refine⟨b,rfl,(S.own 0 (aE [b] b (My k (n%d))) rfl rfl).resolve_left (by simp),?_,S.ch⟩;have:=S.at_ 0 (aE [b] b (My k (n%d))) rfl;simp only[aE,My,iS]at this;exact this
theorem Xy (n:Int) (hn:0<=n/\n<4294967296) (w:World):
 aj prog 44 #[.int .i64 n,.int .i64 1] w λv w1=>∃b,v=.slice (some ⟨b,0,none⟩) 1 1/\w.heap.size<=b/\w1.heap[b]?=some (.cells #[.int .u8 ((aq 1 (n%256)) 0)] 5 (0,0))/\Ch [] w w1:=
 Qq hn (acS n) (fl .u64 n 255 256 8 (by decide) (by decide) (by decide)) (by decide) rfl w
theorem akX (n:Int) (hn:0<=n/\n<4294967296) (w:World):
 aj prog 44 #[.int .i64 n,.int .i64 4] w λv w1=>∃b,v=.slice (some ⟨b,0,none⟩) 4 4/\w.heap.size<=b/\w1.heap[b]?=some (.cells #[.int .u8 ((aq 4 (n%4294967296)) 0),.int .u8 ((aq 4 (n%4294967296)) 1),.int .u8 ((aq 4 (n%4294967296)) 2),.int .u8 ((aq 4 (n%4294967296)) 3)] 5 (0,0))/\Ch [] w w1:=
 Qq hn (acT n) (fl .u64 n 4294967295 4294967296 32 (by decide) (by decide) (by decide)) (by decide) rfl w
abbrev JP:=(Nat×Nat×Nat×Nat)×(Nat->Int)
def jP (p:Nat×Nat×Nat×Nat):V:=.raw (.slice (some ⟨p.1,p.2.1,none⟩) p.2.2.1 p.2.2.2)
def jB (ps:List (Nat×Nat×Nat×Nat)):VB:=⟨false,⟨23,(0,0)⟩,ps.map jP⟩
def oE (L:List (dI CG)) (f:FuncId) (args:List V) (bl:List VB) (ch:List CG) (K:VK CG):Prop:=cJ (mL prog gv L ap8 Gq) 60 f args bl ch K
section
variable(u:World) (B:VB) (K:VK CG)
def jnS:List (Nat×Nat×Nat×Nat)->Nat->Nat->Nat->(Nat->Int)->Prop
 |[],b,n,c,f=>K (.raw (.slice (some ⟨b,0,none⟩) n c)) [B] [.cn u,.row ⟨n,f,b,c⟩]
 |p::ps,b,n,c,f=>∃g,eS u p.1 p.2.1 p.2.2.1 g/\(b=b/\n=n/\c=c/\n<=c/\n+p.2.2.1<=1000000/\0<n+p.2.2.1)/\∀b' c',n+p.2.2.1<=c'->jnS ps b' (n+p.2.2.1) c' (bI n f g)
def jnN:List (Nat×Nat×Nat×Nat)->Prop
 |[]=>K (.raw (.slice none 0 0)) [B] [.cn u]
 |p::ps=>∃g,eS u p.1 p.2.1 p.2.2.1 g/\p.2.2.1<=1000000/\(p.2.2.1=0->jnN ps)/\(0<p.2.2.1->∀b c,p.2.2.1<=c->jnS u B K ps b p.2.2.1 c g)
def Xz (k:Nat) (ps:List (Nat×Nat×Nat×Nat)):Prop:=oE [] 43 [.sl 0 0 k k] [jB ps] [.cn u] (cP 1 K)=jnN u (jB ps) K ps
theorem acU (p:Nat×Nat×Nat×Nat):Xz u K 1 [p]:=by
 unfold Xz;kernel_rfl
theorem acV (p q:Nat×Nat×Nat×Nat):Xz u K 2 [p,q]:=by
 unfold Xz;kernel_rfl
theorem acW (p q r:Nat×Nat×Nat×Nat):Xz u K 3 [p,q,r]:=by
 unfold Xz;kernel_rfl
theorem acX (p q r s:Nat×Nat×Nat×Nat):Xz u K 4 [p,q,r,s]:=by
 unfold Xz;kernel_rfl
end
def n7:List JP->Nat->Nat
 |[],n=>n
 |p::ps,n=>n7 ps (n+p.1.2.2.1)
def mF:List JP->Nat->(Nat->Int)->Nat->Int
 |[],n,f=>f
 |p::ps,n,f=>mF ps (n+p.1.2.2.1) (bI n f p.2)
theorem Gu:∀(ps:List JP) (n:Nat),n<=n7 ps n
 |[],n=>Nat.le_refl n
 |p::ps,n=>Nat.le_trans (Nat.le_add_right _ _) (Gu ps _)
theorem Qr {u:World} {B:VB} {K:VK CG}:∀(ps:List JP) (b n c:Nat) (f:Nat->Int),n<=c->0<n->n7 ps n<=1000000->(∀q∈ps,eS u q.1.1 q.1.2.1 q.1.2.2.1 q.2)->
 (∀b c,n7 ps n<=c->K (.raw (.slice (some ⟨b,0,none⟩) (n7 ps n) c)) [B] [.cn u,.row ⟨n7 ps n,mF ps n f,b,c⟩])->jnS u B K (ps.map (·.1)) b n c f
 |[],b,n,c,f,h1,_,_,_,hK=>hK b c h1
 |p::ps,b,n,c,f,h1,h2,h3,h4,hK=>by
  have:=Gu ps (n+p.1.2.2.1);have h3':n7 ps (n+p.1.2.2.1)<=1000000:=h3;exact⟨p.2,h4 p List.mem_cons_self,⟨rfl,rfl,rfl,h1,Nat.le_trans this h3',Nat.lt_of_lt_of_le h2 (Nat.le_add_right _ _)⟩,λb' c' h=>Qr ps b' _ c' _ h (Nat.lt_of_lt_of_le h2 (Nat.le_add_right _ _)) h3' (λq hq=>h4 q (List.mem_cons_of_mem _ hq)) hK⟩
theorem wC:∀(ps:List JP) (n:Nat) (f g:Nat->Int),(∀j,j<n->f j=g j)->∀j,j<n7 ps n->mF ps n f j=mF ps n g j
 |[],n,f,g,h,j,hj=>h j hj
 |p::ps,n,f,g,h,j,hj=>wC ps _ _ _ (λi hi=>by
  unfold bI;cases hb:Nat.blt i n with
  |false=>rfl
  |true=>exact h i (by unfold Nat.blt at hb;exact Nat.le_of_ble_eq_true hb)) j hj
theorem Qs {u:World} {B:VB} {K:VK CG} {z:Nat->Int}:∀(ps:List JP),n7 ps 0<=1000000->(∀q∈ps,eS u q.1.1 q.1.2.1 q.1.2.2.1 q.2)->(n7 ps 0=0->K (.raw (.slice none 0 0)) [B] [.cn u])->
 (∀F,(∀j,j<n7 ps 0->F j=mF ps 0 z j)->∀b c,0<n7 ps 0->n7 ps 0<=c->K (.raw (.slice (some ⟨b,0,none⟩) (n7 ps 0) c)) [B] [.cn u,.row ⟨n7 ps 0,F,b,c⟩])->jnN u B K (ps.map (·.1))
 |[],_,_,h,_=>h rfl
 |p::ps,h1,h2,h3,h4=>by
  have e:n7 (p::ps) 0=n7 ps p.1.2.2.1:=by show n7 ps (0+p.1.2.2.1)=_;rw[Nat.zero_add]
  have hc:mF (p::ps) 0 z=mF ps p.1.2.2.1 p.2:=by show mF ps (0+p.1.2.2.1) (bI 0 z p.2)=_;rw[Nat.zero_add,lT 0]
  rw[e]at h1 h3 h4;rw[hc]at h4;have jI:=Gu ps p.1.2.2.1;refine⟨p.2,h2 p List.mem_cons_self,Nat.le_trans jI h1,λh0=>?_,λh0 b c hle=>Qr ps b _ c _ hle h0 h1 (λq hq=>h2 q (List.mem_cons_of_mem _ hq)) λb c h=>h4 _ (λ_ _=>rfl) b c (Nat.lt_of_lt_of_le h0 jI) h⟩;rw[show p.1.2.2.1=0 from h0]at h1 h3 h4;exact Qs (z:=z) ps h1 (λq hq=>h2 q (List.mem_cons_of_mem _ hq)) h3 λF hF=>h4 F λj hj=>(hF j hj).trans (wC ps 0 _ _ (λi hi=>absurd hi (Nat.not_lt_zero i)) j hj)
theorem AO {ids:List Nat} {bl:List VB} {l:List CG} {r:R8} {w w':World} (S:St [] w (lits ids ids bl++af (l++[.row r]) []) w'):w.heap.size<=r.b:=by
 rw[kZ]at S;have:=S.ql (x:=⟨r.b,true,.cells (dc r.n r.f r.c) 5 (0,0)⟩) (by simp[R8.bl]) rfl;simpa using this
theorem qQ {ids:List Nat} {bl:List VB} {l:List CG} {r:R8} {R:List av} {ms:List Nat} {w0 w:World} (S:St ms w0 (lits ids ids bl++af (l++[.row r]) R) w):w.heap[r.b]?=some (.cells (dc r.n r.f r.c) 5 (0,0)):=by
 rw[kZ]at S;exact S.at' (x:=⟨r.b,true,.cells (dc r.n r.f r.c) 5 (0,0)⟩) (by simp[R8.bl])
theorem Jz {k pb:Nat} {ps:List JP} {w:World} {z:Nat->Int} (hv:∀K,Xz w K k (ps.map (·.1))) (hp:w.heap[pb]?=some (.cells (ab [] ((ps.map (·.1)).map jP)).toArray 23 (0,0))) (h1:n7 ps 0<=1000000) (hA:∀q∈ps,eS w q.1.1 q.1.2.1 q.1.2.2.1 q.2):
 aj prog 43 #[.slice (some ⟨pb,0,none⟩) k k] w λv w1=>Ch [] w w1/\((n7 ps 0=0/\v=.slice none 0 0)\/(0<n7 ps 0/\∃b c,v=.slice (some ⟨b,0,none⟩) (n7 ps 0) c/\n7 ps 0<=c/\w.heap.size<=b/\w1.heap[b]?=some (.cells (dc (n7 ps 0) (mF ps 0 z) c) 5 (0,0)))):=by
 have h:oE [] 43 [.sl 0 0 k k] [jB (ps.map (·.1))] [.cn w] (cP 1 λv bl ch=>bl=[jB (ps.map (·.1))]/\((n7 ps 0=0/\v=.raw (.slice none 0 0))\/(0<n7 ps 0/\∃F b c,(∀j,j<n7 ps 0->F j=mF ps 0 z j)/\v=.raw (.slice (some ⟨b,0,none⟩) (n7 ps 0) c)/\n7 ps 0<=c/\ch=[.cn w,.row ⟨n7 ps 0,F,b,c⟩]))):=by
  rw[show _=_ from hv _];exact Qs ps h1 hA (λh=>⟨rfl,.inl ⟨h,rfl⟩⟩) λF hF b c h0 hc=>⟨rfl,.inr ⟨h0,F,b,c,hF,rfl,hc,rfl⟩⟩
 have S:St [] w (lits [pb] [pb] [jB (ps.map (·.1))]++af [CG.cn w] []) w:=by
  have:=St.given (w:=w) ((pb,.cells (ab [] ((ps.map (·.1)).map jP)).toArray 23 (0,0))::w.heap.toList.zipIdx.map λp=>(p.2,p.1)) (by
   intro p h;rcases List.mem_cons.1 h with rfl|h
   ·exact hp
   obtain⟨q,hq,rfl⟩:=List.mem_map.1 h;have:=(List.mem_zipIdx_iff_getElem?.1 (show(q.1,q.2)∈w.heap.toList.zipIdx from hq));simpa using this)
  have e:ab [pb] ((ps.map (·.1)).map jP)=ab [] ((ps.map (·.1)).map jP):=by
   have:∀l:List (Nat×Nat×Nat×Nat),ab [pb] (l.map jP)=ab [] (l.map jP):=λl=>by
    induction l with
    |nil=>rfl
    |cons a l ih=>simp only[List.map_cons,ab,ih,jP,cl,den]
   exact this _
  simp only[lits,aE,jB,e];show St [] w (_::(du w++[])) w;rw[List.append_nil];unfold du;rw[List.map_cons,List.map_map (l:=w.heap.toList.zipIdx)]at this;exact this
 refine(bw (ai.nil (G:=CG) (P:=prog) (gl:=gv)).T (ai.nil (G:=CG) (P:=prog) (gl:=gv)).Q 60 (C:=mL prog gv [] ap8 Gq) (λg i h=>by cases h) rfl S h).mono ?_;rintro v w' ⟨x,more,bl',ch',rfl,h1,S',hK⟩;obtain⟨v2,aP,bl2,hv,gx,S2,rfl,Mx⟩:=c9 (n0:=1) h1 (by simp) S' hK;refine⟨S2.ch,?_⟩;rcases Mx with⟨h0,rfl⟩|⟨h0,F,b,c,hF,rfl,hc,rfl⟩
 ·exact .inl ⟨h0,hv⟩
 ·refine .inr ⟨h0,b,c,hv,hc,AO (l:=[.cn w]) S2,?_⟩;have:=qQ (l:=[.cn w]) S2;rw[this];congr 2;exact tn rfl hF
theorem JA (pb:Nat) (b0 o0 n0 c0:Nat) (f0:Nat->Int) (b1 o1 n1 c1:Nat) (f1:Nat->Int) (b2 o2 n2 c2:Nat) (f2:Nat->Int) (h0:0<n0) (hn:n0+n1+n2<=1000000) (w:World) (hp:w.heap[pb]?=some (.cells #[.slice (some ⟨b0,o0,none⟩) n0 c0,.slice (some ⟨b1,o1,none⟩) n1 c1,.slice (some ⟨b2,o2,none⟩) n2 c2] 23 (0,0))) (HF:eS w b0 o0 n0 f0) (Xj:eS w b1 o1 n1 f1) (hB2:eS w b2 o2 n2 f2):
 aj prog 43 #[.slice (some ⟨pb,0,none⟩) 3 3] w λv w1=>∃b c1,v=.slice (some ⟨b,0,none⟩) (n0+n1+n2) c1/\n0+n1+n2<=c1/\w.heap.size<=b/\w1.heap[b]?=some (.cells (dc (n0+n1+n2) (jS n0 n1 f0 f1 f2) c1) 5 (0,0))/\Ch [] w w1:=by
 let ps:List JP:=[((b0,o0,n0,c0),f0),((b1,o1,n1,c1),f1),((b2,o2,n2,c2),f2)]
 have et:n7 ps 0=n0+n1+n2:=by show 0+n0+n1+n2=_;rw[Nat.zero_add]
 refine(Jz (k:=3) (ps:=ps) (z:=λ_=>0) (λK=>acW w K (b0,o0,n0,c0) (b1,o1,n1,c1) (b2,o2,n2,c2)) hp (by rw[et];exact hn) (λq hq=>by
  rcases List.mem_cons.1 hq with rfl|hq
  ·exact HF
  rcases List.mem_cons.1 hq with rfl|hq
  ·exact Xj
  rcases List.mem_cons.1 hq with rfl|hq
  ·exact hB2
  cases hq)).mono ?_
 rintro v w1 ⟨eZ,⟨h,_⟩|⟨_,b,c,rfl,h1,h2,h3⟩⟩
 ·omega
 ·have ec:mF ps 0 (λ_=>0)=jS n0 n1 f0 f1 f2:=by
   simp only[ps,mF,Nat.zero_add,lT 0];rfl
  rw[et]at h1 h3⊢;rw[ec]at h3;exact⟨b,c,rfl,h1,h2,h3,eZ⟩
theorem XA (pb:Nat) (b0 o0 n0 c0:Nat) (f0:Nat->Int) (b1 o1 n1 c1:Nat) (f1:Nat->Int) (b2 o2 n2 c2:Nat) (f2:Nat->Int) (b3 o3 n3 c3:Nat) (f3:Nat->Int) (h0:0<n0) (hn:n0+n1+n2+n3<=1000000) (w:World) (hp:w.heap[pb]?=some (.cells #[.slice (some ⟨b0,o0,none⟩) n0 c0,.slice (some ⟨b1,o1,none⟩) n1 c1,.slice (some ⟨b2,o2,none⟩) n2 c2,.slice (some ⟨b3,o3,none⟩) n3 c3] 23 (0,0))) (HF:eS w b0 o0 n0 f0) (Xj:eS w b1 o1 n1 f1) (hB2:eS w b2 o2 n2 f2) (hB3:eS w b3 o3 n3 f3):
 aj prog 43 #[.slice (some ⟨pb,0,none⟩) 4 4] w λv w1=>∃b c1,v=.slice (some ⟨b,0,none⟩) (n0+n1+n2+n3) c1/\n0+n1+n2+n3<=c1/\w.heap.size<=b/\w1.heap[b]?=some (.cells (dc (n0+n1+n2+n3) (Qc n0 n1 n2 f0 f1 f2 f3) c1) 5 (0,0))/\Ch [] w w1:=by
 let ps:List JP:=[((b0,o0,n0,c0),f0),((b1,o1,n1,c1),f1),((b2,o2,n2,c2),f2),((b3,o3,n3,c3),f3)]
 have et:n7 ps 0=n0+n1+n2+n3:=by show 0+n0+n1+n2+n3=_;rw[Nat.zero_add]
 refine(Jz (k:=4) (ps:=ps) (z:=λ_=>0) (λK=>acX w K (b0,o0,n0,c0) (b1,o1,n1,c1) (b2,o2,n2,c2) (b3,o3,n3,c3)) hp (by rw[et];exact hn) (λq hq=>by
  rcases List.mem_cons.1 hq with rfl|hq
  ·exact HF
  rcases List.mem_cons.1 hq with rfl|hq
  ·exact Xj
  rcases List.mem_cons.1 hq with rfl|hq
  ·exact hB2
  rcases List.mem_cons.1 hq with rfl|hq
  ·exact hB3
  cases hq)).mono ?_
 rintro v w1 ⟨eZ,⟨h,_⟩|⟨_,b,c,rfl,h1,h2,h3⟩⟩
 ·omega
 ·have ec:mF ps 0 (λ_=>0)=Qc n0 n1 n2 f0 f1 f2 f3:=by
   simp only[ps,mF,Nat.zero_add,lT 0];rfl
  rw[et]at h1 h3⊢;rw[ec]at h3;exact⟨b,c,rfl,h1,h2,h3,eZ⟩
theorem Qt (pb:Nat) (b0 o0 n0 c0:Nat) (f0:Nat->Int) (b1 o1 n1 c1:Nat) (f1:Nat->Int) (h0:0<n1) (hn:n0+n1<=1000000) (w:World) (hp:w.heap[pb]?=some (.cells #[.slice (some ⟨b0,o0,none⟩) n0 c0,.slice (some ⟨b1,o1,none⟩) n1 c1] 23 (0,0))) (HF:eS w b0 o0 n0 f0) (Xj:eS w b1 o1 n1 f1):
 aj prog 43 #[.slice (some ⟨pb,0,none⟩) 2 2] w λv w1=>∃b c1,v=.slice (some ⟨b,0,none⟩) (n0+n1) c1/\n0+n1<=c1/\w.heap.size<=b/\w1.heap[b]?=some (.cells (dc (n0+n1) (bI n0 f0 f1) c1) 5 (0,0))/\Ch [] w w1:=by
 let ps:List JP:=[((b0,o0,n0,c0),f0),((b1,o1,n1,c1),f1)]
 have et:n7 ps 0=n0+n1:=by show 0+n0+n1=_;rw[Nat.zero_add]
 refine(Jz (k:=2) (ps:=ps) (z:=λ_=>0) (λK=>acV w K (b0,o0,n0,c0) (b1,o1,n1,c1)) hp (by rw[et];exact hn) (λq hq=>by
  rcases List.mem_cons.1 hq with rfl|hq
  ·exact HF
  rcases List.mem_cons.1 hq with rfl|hq
  ·exact Xj
  cases hq)).mono ?_
 rintro v w1 ⟨eZ,⟨h,_⟩|⟨_,b,c,rfl,h1,h2,h3⟩⟩
 ·omega
 ·have ec:mF ps 0 (λ_=>0)=bI n0 f0 f1:=by
   simp only[ps,mF,Nat.zero_add,lT 0]
  rw[et]at h1 h3⊢;rw[ec]at h3;exact⟨b,c,rfl,h1,h2,h3,eZ⟩
def dq (kn:Nat) (kf:Nat->Int) (s n:Int):Nat->Int:=fA kn kf (1+1+4) (jS 1 1 (λ_=>78) (aq 1 (s%256)) (aq 4 (n%4294967296)))
def jk (y s r:Int) (nc:Nat->Int):Nat->Int:=Qc 1 1 1 (λ_=>y) (aq 1 (s%256)) (aq 1 (r%256)) nc
def eF (kn:Nat) (kf:Nat->Int) (s r:Int) (nc:Nat->Int):Nat->Int:=fA kn kf (1+1+1+8) (jk 80 s r nc)
def jl (kn:Nat) (kf:Nat->Int) (s r:Int) (nc:Nat->Int):Nat->Int:=fA kn kf (1+1+1+8) (jk 75 s r nc)
def cO (k:Nat->Int) (s:Int) (m:Nat) (f:Nat->Int):Nat->Int:=bI m f (fA 32 k (1+1+m) (jS 1 1 (λ_=>77) (aq 1 (s%256)) f))
def eV (k:Nat->Int) (s:Int) (m:Nat) (f:Nat->Int):Bool:=kq (m+8) f (cO k s m f)
theorem Qu (ka:Option Addr) (kn kc:Nat) (kf:Nat->Int) (s n:Int) (VT:1<=kn/\kn<=64) (hs:0<=s/\s<4294967296) (hn:0<=n/\n<4294967296) {tG:TypeId} (w:World) (hG:w.heap[1]?=some (.cells (ak .u32 64 aX) tG (0,0))) (hk:cz w ka kn kc kf):
 aj prog 15 #[.slice ka kn kc,.int .i64 s,.int .i64 n] w λv w1=>v=.agg (ak .u8 8 (dq kn kf s n))/\Ch [] w w1:=by
 have S0:=St.given (w:=w) [(1,.cells (ak .u32 64 aX) tG (0,0))] (all_cons hG (all_nil));refine dz Tryz.func15 rfl ?_;refine au (ax ?_);refine eD S0 (λb=>.pointer (some ⟨b,0,none⟩)) (.cells (ak .u8 8 (λ_=>0)) 38) ?_;intro de sH i_;refine aw (ag (au (ax ?_)));refine aa (.slice ka kn kc) ?_;refine eD i_ (λb=>.slice (some ⟨b,0,none⟩) 1 1) (.cells #[.int .u8 78] 5) ?_;intro iG Dn gw;refine aa (.int .i64 s) ?_;refine dh 44 #[.int .i64 s,.int .i64 1] ?_;refine(Xy s (by omega) _).mono ?_;rintro _ Tp ⟨uM,rfl,kG,AJ,Jv⟩;have uL:=gw.new Jv kG AJ;refine aa (.int .i64 n) ?_;refine dh 44 #[.int .i64 n,.int .i64 4] ?_;refine(akX n (by omega) _).mono ?_;rintro _ acY ⟨ag3,rfl,Mu,Qd,yK⟩;have acZ:=uL.new yK Mu Qd;refine eD acZ (λb=>.slice (some ⟨b,0,none⟩) 3 3) (.cells #[.slice (some ⟨iG,0,none⟩) 1 1,.slice (some ⟨uM,0,none⟩) 1 1,.slice (some ⟨ag3,0,none⟩) 4 4] 23) ?_;intro ag4 anq AP;refine dh 43 #[.slice (some ⟨ag4,0,none⟩) 3 3] ?_;refine(JA ag4 iG 0 1 1 (λ_=>78) uM 0 1 1 (aq 1 (s%256)) ag3 0 4 4 (aq 4 (n%4294967296)) (by omega) (by omega) _ (AP.at_ 0 _ rfl) (St.eK (N:=1) (f:=(λ_=>78)) (wr:=true) (t:=5) (fr:=(0,0)) AP 3) (St.eK (N:=1) (f:=(aq 1 (s%256))) (wr:=true) (t:=5) (fr:=(0,0)) AP 2) (St.eK (N:=4) (f:=(aq 4 (n%4294967296))) (wr:=true) (t:=5) (fr:=(0,0)) AP 1)).mono ?_;rintro _ akY ⟨XB,ac0,rfl,kH,Du,ac1,uK⟩;have AR:=AP.new uK Du ac1;refine dh 42 #[.slice ka kn kc,.slice (some ⟨XB,0,none⟩) (1+1+4) ac0] ?_;refine(acQ ka kn kc kf XB 0 (1+1+4) ac0 (jS 1 1 (λ_=>78) (aq 1 (s%256)) (aq 4 (n%4294967296))) (by omega) (by omega) _ (AR.at_ 6 _ rfl) (cz.quiet hk AR.ch) (St.FN (c:=ac0) (wr:=true) (t:=5) (fr:=(0,0)) AR 0)).mono ?_;rintro _ Xm ⟨rfl,yL⟩;have akZ:=AR.quiet yL;refine store_ akZ 5 (.agg (ak .u8 8 (fA kn kf (1+1+4) (jS 1 1 (λ_=>78) (aq 1 (s%256)) (aq 4 (n%4294967296)))))) de 0 ?_;intro anr XC;refine aw (ag (wp_ret ?_));refine gn rfl (fY [.cell 6 38] [.agg (ak .u8 8 (fA kn kf (1+1+4) (jS 1 1 (λ_=>78) (aq 1 (s%256)) (aq 4 (n%4294967296)))))] (.agg (ak .u8 8 (fA kn kf (1+1+4) (jS 1 1 (λ_=>78) (aq 1 (s%256)) (aq 4 (n%4294967296)))))) ⟨cU XC 5 8 de 0,trivial⟩) ?_;exact⟨by(unfold dq)<;>kernel_rfl,XC.ch⟩
theorem Qv (y s r:Int) (nc:Nat->Int) (hs:0<=s/\s<4294967296) (hr:0<=r/\r<4294967296) (w:World):
 aj prog 45 #[.int .u8 y,.int .i64 s,.int .i64 r,.agg (ak .u8 8 nc)] w λv w1=>∃b c1,v=.slice (some ⟨b,0,none⟩) (1+1+1+8) c1/\1+1+1+8<=c1/\w.heap.size<=b/\w1.heap[b]?=some (.cells (dc (1+1+1+8) (jk y s r nc) c1) 5 (0,0))/\Ch [] w w1:=by
 have S0:=St.nil [] w;refine dz Tryz.func45 rfl ?_;refine au (ax ?_);refine eD S0 (λb=>.pointer (some ⟨b,0,none⟩)) (.cells (ak .u8 8 nc) 38) ?_;intro de sH i_;refine aa (.slice none 0 0) ?_;refine aw (ag (au ?_));refine lE 7 [⟨0,λ_=>.int .u8 y,λ_=>[]⟩,⟨1,λids=>.slice (some ⟨(ids.getD 0 0),0,none⟩) 1 1,λids=>[((ids.getD 0 0),.cells #[.int .u8 y] 5 (0,0))]⟩,⟨0,λ_=>.int .i64 s,λ_=>[]⟩,⟨1,λids=>.slice (some ⟨(ids.getD 0 0),0,none⟩) 1 1,λids=>[((ids.getD 0 0),.cells #[.int .u8 ((aq 1 (s%256)) 0)] 5 (0,0))]⟩,⟨0,λ_=>.int .i64 r,λ_=>[]⟩,⟨1,λids=>.slice (some ⟨(ids.getD 0 0),0,none⟩) 1 1,λids=>[((ids.getD 0 0),.cells #[.int .u8 ((aq 1 (r%256)) 0)] 5 (0,0))]⟩,⟨0,λ_=>.slice (some ⟨de,0,none⟩) 8 8,λ_=>[]⟩] [[7,1,0],[7,1],[7,3,2],[7,3],[7,5,4],[7,5],[7,6],[8,7,1,0],[8,7,1],[8,7,3,2],[8,7,3],[8,5,4],[8,5],[8,7,6],[8,7],[9,0],[9,1],[9,2],[9,3],[9,4],[9,5],[9,6],[9,7],[9,8]] ?_ ?_
 ·refine step_cons sD ?_;refine step_cons ?_ ?_
  ·intro Tq Dn Gv ag5 MC;have Xr:Tq 9=.int .u8 y:=(Sp.dt (MC 0 9 (by kernel_rfl) (by kernel_rfl))).1;have MD:=i_.quiet Gv;refine kP ?_;refine mR [(9,.int .u8 y)] (eu Xr (iy)) ?_;have Dr:=MD.loc;refine Y.eD Dr (λb=>.slice (some ⟨b,0,none⟩) 1 1) (.cells #[.int .u8 y] 5) ?_;intro Xl acY qR;exact⟨qR.ch,Sp.eO [Xl] (all_cons (qR.qk Gv.size 0 (by kernel_rfl)) (all_nil))⟩
  refine step_cons sD ?_;refine step_cons ?_ ?_
  ·intro ak0 agT abg am0 ag6;have ac2:ak0 11=.int .i64 s:=(Sp.dt (ag6 2 11 (by kernel_rfl) (by kernel_rfl))).1;have AP:=i_.quiet abg;refine kP ?_;refine mR [(11,.int .i64 s)] (eu ac2 (iy)) ?_;have yM:=AP.loc;refine Y.dh 44 #[.int .i64 s,.int .i64 1] ?_;refine(Xy s (by omega) _).mono ?_;rintro _ ag7 ⟨ak1,rfl,kH,Du,wz⟩;have py:=yM.new wz kH Du;exact⟨py.ch,Sp.eO [ak1] (all_cons (py.qk abg.size 0 (by kernel_rfl)) (all_nil))⟩
  refine step_cons sD ?_;refine step_cons ?_ ?_
  ·intro ak2 Xm JB am1 ag8;have lU:ak2 13=.int .i64 r:=(Sp.dt (ag8 4 13 (by kernel_rfl) (by kernel_rfl))).1;have XD:=i_.quiet JB;refine kP ?_;refine mR [(13,.int .i64 r)] (eu lU (iy)) ?_;have ak3:=XD.loc;refine Y.dh 44 #[.int .i64 r,.int .i64 1] ?_;refine(Xy r (by omega) _).mono ?_;rintro _ ans ⟨ak4,rfl,tv,Qw,uN⟩;have ag9:=ak3.new uN tv Qw;exact⟨ag9.ch,Sp.eO [ak4] (all_cons (ag9.qk JB.size 0 (by kernel_rfl)) (all_nil))⟩
  refine step_cons sD ?_;exact jK
 intro Gw ac3 ag_ wD;have acH:Gw 0=.int .u8 y:=(Sp.dt (wD 0 (by kernel_rfl))).1;have ak5:=Sp.Ag (wD 1 (by kernel_rfl));obtain⟨ME,aha,ahb⟩:=ak5;have ak6:Gw 1=.slice (some ⟨ME,0,none⟩) 1 1:=aha;have ak7:∀zp∈([(ME,.cells #[.int .u8 y] 5 (0,0))]:List (Nat×Obj)),sH.heap.size<=zp.1/\ac3.heap[zp.1]?=some zp.2:=ahb;have Mw:Gw 2=.int .i64 s:=(Sp.dt (wD 2 (by kernel_rfl))).1;have acJ:=Sp.Ag (wD 3 (by kernel_rfl));obtain⟨lS,Qj,Qk⟩:=acJ;have acK:Gw 3=.slice (some ⟨lS,0,none⟩) 1 1:=Qj;have acL:∀zp∈([(lS,.cells #[.int .u8 ((aq 1 (s%256)) 0)] 5 (0,0))]:List (Nat×Obj)),sH.heap.size<=zp.1/\ac3.heap[zp.1]?=some zp.2:=Qk;have acM:Gw 4=.int .i64 r:=(Sp.dt (wD 4 (by kernel_rfl))).1;have ak8:=Sp.Ag (wD 5 (by kernel_rfl));obtain⟨AM,ahc,ahd⟩:=ak8;have ak9:Gw 5=.slice (some ⟨AM,0,none⟩) 1 1:=ahc;have ak_:∀zp∈([(AM,.cells #[.int .u8 ((aq 1 (r%256)) 0)] 5 (0,0))]:List (Nat×Obj)),sH.heap.size<=zp.1/\ac3.heap[zp.1]?=some zp.2:=ahd;have ala:Gw 6=.slice (some ⟨de,0,none⟩) 8 8:=(Sp.dt (wD 6 (by kernel_rfl))).1;have alb:=i_.ro ag_ (([(ME,.cells #[.int .u8 y] 5 (0,0))]++([(lS,.cells #[.int .u8 ((aq 1 (s%256)) 0)] 5 (0,0))]++[(AM,.cells #[.int .u8 ((aq 1 (r%256)) 0)] 5 (0,0))]))) (List.forall_mem_append.2 ⟨ak7,List.forall_mem_append.2 ⟨acL,ak_⟩⟩);refine⟨[.int .u8 y,.slice (some ⟨ME,0,none⟩) 1 1,.int .i64 s,.slice (some ⟨lS,0,none⟩) 1 1,.int .i64 r,.slice (some ⟨AM,0,none⟩) 1 1,.slice (some ⟨de,0,none⟩) 8 8],by kernel_rfl,aL acH (aL ak6 (aL Mw (aL acK (aL acM (aL ak9 (aL ala (sO))))))),?_⟩;refine eD alb (λb=>.slice (some ⟨b,0,none⟩) 4 4) (.cells #[.slice (some ⟨ME,0,none⟩) 1 1,.slice (some ⟨lS,0,none⟩) 1 1,.slice (some ⟨AM,0,none⟩) 1 1,.slice (some ⟨de,0,none⟩) 8 8] 23) ?_;intro ahe ant MF;refine dh 43 #[.slice (some ⟨ahe,0,none⟩) 4 4] ?_;refine(XA ahe ME 0 1 1 (λ_=>y) lS 0 1 1 (aq 1 (s%256)) AM 0 1 1 (aq 1 (r%256)) de 0 8 8 nc (by omega) (by omega) _ (MF.at_ 0 _ rfl) (St.eK (N:=1) (f:=(λ_=>y)) (wr:=false) (t:=5) (fr:=(0,0)) MF 1) (St.eK (N:=1) (f:=(aq 1 (s%256))) (wr:=false) (t:=5) (fr:=(0,0)) MF 2) (St.eK (N:=1) (f:=(aq 1 (r%256))) (wr:=false) (t:=5) (fr:=(0,0)) MF 3) (St.eK (N:=8) (f:=nc) (wr:=true) (t:=38) (fr:=(0,0)) MF 4)).mono ?_;rintro _ anu ⟨ac4,Qx,rfl,alc,ac5,ac6,acO⟩;have ac7:=MF.new acO ac5 ac6;refine bJ ?_;refine aw (ag (wp_ret ?_));refine gn rfl (fY [.tmp 8] [.slice (some ⟨ac4,0,none⟩) (1+1+1+8) Qx] (.slice (some ⟨ac4,0,none⟩) (1+1+1+8) Qx) ⟨cM,trivial⟩) ?_;have ze:dc (1+1+1+8) (Qc 1 1 1 (λ_=>y) (aq 1 (s%256)) (aq 1 (r%256)) nc) Qx=dc (1+1+1+8) (jk y s r nc) Qx:=by kernel_rfl
 exact⟨ac4,Qx,by rw[show(1+1+1+8)=1+1+1+8 by omega],by have:=alc;omega,(ac7.own 0 _ rfl rfl).resolve_left (by simp),by rw[<-ze];exact ac7.at_ 0 _ rfl,ac7.ch⟩
theorem JC (ka:Option Addr) (kn kc:Nat) (kf:Nat->Int) (s r:Int) (nc:Nat->Int) (VT:1<=kn/\kn<=64) (hs:0<=s/\s<4294967296) (hr:0<=r/\r<4294967296) {tG:TypeId} (w:World) (hG:w.heap[1]?=some (.cells (ak .u32 64 aX) tG (0,0))) (hk:cz w ka kn kc kf):
 aj prog 16 #[.slice ka kn kc,.int .i64 s,.int .i64 r,.agg (ak .u8 8 nc)] w λv w1=>v=.agg (ak .u8 8 (eF kn kf s r nc))/\Ch [] w w1:=by
 have S0:=St.given (w:=w) [(1,.cells (ak .u32 64 aX) tG (0,0))] (all_cons hG (all_nil));refine dz Tryz.func16 rfl ?_;refine au (ax ?_);refine eD S0 (λb=>.pointer (some ⟨b,0,none⟩)) (.cells (ak .u8 8 nc) 38) ?_;intro de sH i_;refine eD i_ (λb=>.pointer (some ⟨b,0,none⟩)) (.cells (ak .u8 8 (λ_=>0)) 38) ?_;intro iG Dn gw;refine aw (ag (au (ax ?_)));refine aa (.slice ka kn kc) ?_;refine aa (.int .i64 s) ?_;refine aa (.int .i64 r) ?_;refine eC gw 1 8 (ak .u8 8 nc) de 0 ?_;refine dh 45 #[.int .u8 80,.int .i64 s,.int .i64 r,.agg (ak .u8 8 nc)] ?_;refine(Qv 80 s r nc (by omega) (by omega) _).mono ?_;rintro _ Tp ⟨uM,Gx,rfl,AJ,oD,yK,Jv⟩;have uL:=gw.new Jv oD yK;refine dh 42 #[.slice ka kn kc,.slice (some ⟨uM,0,none⟩) (1+1+1+8) Gx] ?_;refine(acQ ka kn kc kf uM 0 (1+1+1+8) Gx (jk 80 s r nc) (by omega) (by omega) _ (uL.at_ 3 _ rfl) (cz.quiet hk uL.ch) (St.FN (c:=Gx) (wr:=true) (t:=5) (fr:=(0,0)) uL 0)).mono ?_;rintro _ Mt ⟨rfl,k7⟩;have uI:=uL.quiet k7;refine store_ uI 1 (.agg (ak .u8 8 (fA kn kf (1+1+1+8) (jk 80 s r nc)))) iG 0 ?_;intro Gm tu;refine aw (ag (wp_ret ?_));refine gn rfl (fY [.cell 8 38] [.agg (ak .u8 8 (fA kn kf (1+1+1+8) (jk 80 s r nc)))] (.agg (ak .u8 8 (fA kn kf (1+1+1+8) (jk 80 s r nc)))) ⟨cU tu 1 8 iG 0,trivial⟩) ?_;exact⟨by(unfold eF)<;>kernel_rfl,tu.ch⟩
theorem abh (ka:Option Addr) (kn kc:Nat) (kf:Nat->Int) (s r:Int) (nc:Nat->Int) (VT:1<=kn/\kn<=64) (hs:0<=s/\s<4294967296) (hr:0<=r/\r<4294967296) {tG:TypeId} (w:World) (hG:w.heap[1]?=some (.cells (ak .u32 64 aX) tG (0,0))) (hk:cz w ka kn kc kf):
 aj prog 37 #[.slice ka kn kc,.int .i64 s,.int .i64 r,.agg (ak .u8 8 nc)] w λv w1=>v=.agg (ak .u8 32 (jl kn kf s r nc))/\Ch [] w w1:=by
 have S0:=St.given (w:=w) [(1,.cells (ak .u32 64 aX) tG (0,0))] (all_cons hG (all_nil));refine dz Tryz.func37 rfl ?_;refine au (ax ?_);refine eD S0 (λb=>.pointer (some ⟨b,0,none⟩)) (.cells (ak .u8 8 nc) 38) ?_;intro de sH i_;refine eD i_ (λb=>.pointer (some ⟨b,0,none⟩)) (.cells (ak .u8 32 (λ_=>0)) 37) ?_;intro iG Dn gw;refine aw (ag (au (ax ?_)));refine aa (.slice ka kn kc) ?_;refine aa (.int .i64 s) ?_;refine aa (.int .i64 r) ?_;refine eC gw 1 8 (ak .u8 8 nc) de 0 ?_;refine dh 45 #[.int .u8 75,.int .i64 s,.int .i64 r,.agg (ak .u8 8 nc)] ?_;refine(Qv 75 s r nc (by omega) (by omega) _).mono ?_;rintro _ Tp ⟨uM,Gx,rfl,AJ,oD,yK,Jv⟩;have uL:=gw.new Jv oD yK;refine dh 67 #[.slice ka kn kc,.slice (some ⟨uM,0,none⟩) (1+1+1+8) Gx] ?_;refine(VS ka kn kc kf uM 0 (1+1+1+8) Gx (jk 75 s r nc) (by omega) (by omega) _ (uL.at_ 3 _ rfl) (cz.quiet hk uL.ch) (St.FN (c:=Gx) (wr:=true) (t:=5) (fr:=(0,0)) uL 0)).mono ?_;rintro _ Mt ⟨rfl,k7⟩;have uI:=uL.quiet k7;refine store_ uI 1 (.agg (ak .u8 32 (fA kn kf (1+1+1+8) (jk 75 s r nc)))) iG 0 ?_;intro Gm tu;refine aw (ag (wp_ret ?_));refine gn rfl (fY [.cell 8 37] [.agg (ak .u8 32 (fA kn kf (1+1+1+8) (jk 75 s r nc)))] (.agg (ak .u8 32 (fA kn kf (1+1+1+8) (jk 75 s r nc)))) ⟨cU tu 1 32 iG 0,trivial⟩) ?_;exact⟨by(unfold jl)<;>kernel_rfl,tu.ch⟩
theorem close_ (k:Nat->Int) (s:Int) (b o m c:Nat) (f:Nat->Int) (hm:m<=50) (hs:0<=s/\s<4294967296) {tG:TypeId} (w:World) (hG:w.heap[1]?=some (.cells (ak .u32 64 aX) tG (0,0))) (hB:eS w b o m f):
 aj prog 47 #[.agg (ak .u8 32 k),.int .i64 s,.slice (some ⟨b,o,none⟩) m c] w λv w1=>∃b c1,v=.slice (some ⟨b,0,none⟩) (m+8) c1/\m+8<=c1/\w.heap.size<=b/\w1.heap[b]?=some (.cells (dc (m+8) (cO k s m f) c1) 5 (0,0))/\Ch [] w w1:=by
 have S0:=St.given (w:=w) [(1,.cells (ak .u32 64 aX) tG (0,0))] (all_cons hG (all_nil));refine dz Tryz.func47 rfl ?_;refine au (ax ?_);refine eD S0 (λb=>.pointer (some ⟨b,0,none⟩)) (.cells (ak .u8 32 k) 37) ?_;intro de sH i_;refine aa (.slice none 0 0) ?_;refine aw (ag (au ?_));refine lE 9 [⟨0,λ_=>.slice (some ⟨de,0,none⟩) 32 32,λ_=>[]⟩,⟨1,λids=>.slice (some ⟨(ids.getD 0 0),0,none⟩) 1 1,λids=>[((ids.getD 0 0),.cells #[.int .u8 77] 5 (0,0))]⟩,⟨0,λ_=>.int .i64 s,λ_=>[]⟩,⟨1,λids=>.slice (some ⟨(ids.getD 0 0),0,none⟩) 1 1,λids=>[((ids.getD 0 0),.cells #[.int .u8 ((aq 1 (s%256)) 0)] 5 (0,0))]⟩,⟨0,λ_=>.slice (some ⟨b,o,none⟩) m c,λ_=>[]⟩,⟨3,λids=>.slice (some ⟨(ids.getD 0 0),0,none⟩) 3 3,λids=>[((ids.getD 0 0),.cells #[.slice (some ⟨(ids.getD 1 0),0,none⟩) 1 1,.slice (some ⟨(ids.getD 2 0),0,none⟩) 1 1,.slice (some ⟨b,o,none⟩) m c] 23 (0,0)),((ids.getD 1 0),.cells #[.int .u8 77] 5 (0,0)),((ids.getD 2 0),.cells #[.int .u8 ((aq 1 (s%256)) 0)] 5 (0,0))]⟩,⟨2,λids=>.slice (some ⟨(ids.getD 0 0),0,none⟩) (1+1+m) (ids.getD 1 0),λids=>[((ids.getD 0 0),.cells (dc (1+1+m) (jS 1 1 (λ_=>77) (aq 1 (s%256)) f) (ids.getD 1 0)) 5 (0,0))]⟩,⟨0,λ_=>.agg (ak .u8 8 (fA 32 k (1+1+m) (jS 1 1 (λ_=>77) (aq 1 (s%256)) f))),λ_=>[]⟩,⟨1,λids=>.pointer (some ⟨(ids.getD 0 0),0,none⟩),λids=>[((ids.getD 0 0),.cells (ak .u8 8 (λ_=>0)) 38 (0,0))]⟩] [[9,0],[9,1],[9,2],[9,3],[9,4],[9,5],[9,6],[9,7],[9,8]] ?_ ?_
 ·refine step_cons sD ?_;refine step_cons ?_ ?_
  ·intro Tq Dn Gv ag5 MC;have uL:=i_.quiet Gv;refine kP ?_;refine mR [] (iy) ?_;have MD:=uL.loc;refine Y.eD MD (λb=>.slice (some ⟨b,0,none⟩) 1 1) (.cells #[.int .u8 77] 5) ?_;intro ald acR Gp;exact⟨Gp.ch,Sp.eO [ald] (all_cons (Gp.qk Gv.size 0 (by kernel_rfl)) (all_nil))⟩
  refine step_cons sD ?_;refine step_cons ?_ ?_
  ·intro ale Mt abi am2 ahf;have Dq:ale 10=.int .i64 s:=(Sp.dt (ahf 2 10 (by kernel_rfl) (by kernel_rfl))).1;have uJ:=i_.quiet abi;refine kP ?_;refine mR [(10,.int .i64 s)] (eu Dq (iy)) ?_;have AP:=uJ.loc;refine Y.dh 44 #[.int .i64 s,.int .i64 1] ?_;refine(Xy s (by omega) _).mono ?_;rintro _ akY ⟨XB,rfl,tz,kH,uK⟩;have AR:=AP.new uK tz kH;exact⟨AR.ch,Sp.eO [XB] (all_cons (AR.qk abi.size 0 (by kernel_rfl)) (all_nil))⟩
  refine step_cons sD ?_;refine step_cons ?_ ?_
  ·intro ac8 XE abj am3 Qy;have alf:=Sp.Ag (Qy 1 9 (by kernel_rfl) (by kernel_rfl));obtain⟨MG,ahg,ahh⟩:=alf;have XF:ac8 9=.slice (some ⟨MG,0,none⟩) 1 1:=ahg;have ahi:∀zp∈([(MG,.cells #[.int .u8 77] 5 (0,0))]:List (Nat×Obj)),sH.heap.size<=zp.1/\XE.heap[zp.1]?=some zp.2:=ahh;have alg:=Sp.Ag (Qy 3 11 (by kernel_rfl) (by kernel_rfl));obtain⟨MH,ahj,ahk⟩:=alg;have AS:ac8 11=.slice (some ⟨MH,0,none⟩) 1 1:=ahj;have ahl:∀zp∈([(MH,.cells #[.int .u8 ((aq 1 (s%256)) 0)] 5 (0,0))]:List (Nat×Obj)),sH.heap.size<=zp.1/\XE.heap[zp.1]?=some zp.2:=ahk;have tv:ac8 12=.slice (some ⟨b,o,none⟩) m c:=(Sp.dt (Qy 4 12 (by kernel_rfl) (by kernel_rfl))).1;have alh:=i_.ro abj (([(MG,.cells #[.int .u8 77] 5 (0,0))]++[(MH,.cells #[.int .u8 ((aq 1 (s%256)) 0)] 5 (0,0))])) (List.forall_mem_append.2 ⟨ahi,ahl⟩);refine kP ?_;refine mR [(9,.slice (some ⟨MG,0,none⟩) 1 1),(11,.slice (some ⟨MH,0,none⟩) 1 1),(12,.slice (some ⟨b,o,none⟩) m c)] (eu XF (eu AS (eu tv (iy)))) ?_;have ali:=alh.loc;refine Y.eD ali (λb=>.slice (some ⟨b,0,none⟩) 3 3) (.cells #[.slice (some ⟨MG,0,none⟩) 1 1,.slice (some ⟨MH,0,none⟩) 1 1,.slice (some ⟨b,o,none⟩) m c] 23) ?_;intro alj anv Dv;exact⟨Dv.ch,Sp.eO [alj,MG,MH] (all_cons (Dv.qk abj.size 0 (by kernel_rfl)) (all_cons (Dv.aa5 1 (ahi _ (List.Mem.head _)).1 false (by kernel_rfl)) (all_cons (Dv.aa5 2 (ahl _ (List.Mem.head _)).1 false (by kernel_rfl)) (all_nil))))⟩
  refine step_cons ?_ ?_
  ·intro alk alm abk am4 ahm;have aln:=Sp.agq (ahm 5 13 (by kernel_rfl) (by kernel_rfl));obtain⟨MI,lS,Qz,ahn,aho⟩:=aln;have Mw:alk 13=.slice (some ⟨MI,0,none⟩) 3 3:=ahn;have alo:∀zp∈([(MI,.cells #[.slice (some ⟨lS,0,none⟩) 1 1,.slice (some ⟨Qz,0,none⟩) 1 1,.slice (some ⟨b,o,none⟩) m c] 23 (0,0)),(lS,.cells #[.int .u8 77] 5 (0,0)),(Qz,.cells #[.int .u8 ((aq 1 (s%256)) 0)] 5 (0,0))]:List (Nat×Obj)),sH.heap.size<=zp.1/\alm.heap[zp.1]?=some zp.2:=aho;have Xn:=i_.ro abk ([(MI,.cells #[.slice (some ⟨lS,0,none⟩) 1 1,.slice (some ⟨Qz,0,none⟩) 1 1,.slice (some ⟨b,o,none⟩) m c] 23 (0,0)),(lS,.cells #[.int .u8 77] 5 (0,0)),(Qz,.cells #[.int .u8 ((aq 1 (s%256)) 0)] 5 (0,0))]) (alo);refine kP ?_;refine mR [(13,.slice (some ⟨MI,0,none⟩) 3 3)] (eu Mw (iy)) ?_;have QA:=Xn.loc;refine Y.dh 43 #[.slice (some ⟨MI,0,none⟩) 3 3] ?_;refine(JA MI lS 0 1 1 (λ_=>77) Qz 0 1 1 (aq 1 (s%256)) b o m c f (by omega) (by omega) _ (QA.at_ 0 _ rfl) (St.eK (N:=1) (f:=(λ_=>77)) (wr:=false) (t:=5) (fr:=(0,0)) QA 1) (St.eK (N:=1) (f:=(aq 1 (s%256))) (wr:=false) (t:=5) (fr:=(0,0)) QA 2) (St.mC QA (St.mC Xn hB (by simp)) (by simp))).mono ?_;rintro _ akQ ⟨alp,alq,rfl,anw,alr,ag0,als⟩;have ahp:=QA.new als alr ag0;exact⟨ahp.ch,Sp.eO [alp,alq] (all_cons (ahp.qk abk.size 0 (by kernel_rfl)) (all_nil))⟩
  refine step_cons ?_ ?_
  ·intro ahq alu ahr am5 abl;have ac5:ahq 8=.slice (some ⟨de,0,none⟩) 32 32:=(Sp.dt (abl 0 8 (by kernel_rfl) (by kernel_rfl))).1;have alv:=Sp.agp (abl 6 14 (by kernel_rfl) (by kernel_rfl));obtain⟨MJ,Gy,ahs,aht⟩:=alv;have ac6:ahq 14=.slice (some ⟨MJ,0,none⟩) (1+1+m) Gy:=ahs;have alw:∀zp∈([(MJ,.cells (dc (1+1+m) (jS 1 1 (λ_=>77) (aq 1 (s%256)) f) Gy) 5 (0,0))]:List (Nat×Obj)),sH.heap.size<=zp.1/\alu.heap[zp.1]?=some zp.2:=aht;have alx:=i_.ro ahr ([(MJ,.cells (dc (1+1+m) (jS 1 1 (λ_=>77) (aq 1 (s%256)) f) Gy) 5 (0,0))]) (alw);refine kP ?_;refine mR [(8,.slice (some ⟨de,0,none⟩) 32 32),(14,.slice (some ⟨MJ,0,none⟩) (1+1+m) Gy)] (eu ac5 (eu ac6 (iy))) ?_;have XG:=alx.loc;refine Y.dh 42 #[.slice (some ⟨de,0,none⟩) 32 32,.slice (some ⟨MJ,0,none⟩) (1+1+m) Gy] ?_;refine(acQ (some ⟨de,0,none⟩) 32 32 k MJ 0 (1+1+m) Gy (jS 1 1 (λ_=>77) (aq 1 (s%256)) f) (by omega) (by omega) _ (XG.at_ 2 _ rfl) (cz.of8 (St.eK (N:=32) (f:=k) (wr:=false) (t:=37) (fr:=(0,0)) XG 1) (by omega) (by omega)) (St.FN (c:=Gy) (wr:=false) (t:=5) (fr:=(0,0)) XG 0)).mono ?_;rintro _ anx ⟨rfl,aly⟩;have alz:=XG.quiet aly;exact⟨alz.ch,Sp.eO [] (all_nil)⟩
  refine step_cons ?_ ?_
  ·intro anz anA abm am6 am7;have alA:=i_.quiet abm;refine kP ?_;refine mR [] (iy) ?_;have alB:=alA.loc;refine Y.eD alB (λb=>.pointer (some ⟨b,0,none⟩)) (.cells (ak .u8 8 (λ_=>0)) 38) ?_;intro alC anB ahu;exact⟨ahu.ch,Sp.eO [alC] (all_cons (ahu.qk abm.size 0 (by kernel_rfl)) (all_nil))⟩
  exact jK
 intro AT QB ahv qS;have alD:AT 0=.slice (some ⟨de,0,none⟩) 32 32:=(Sp.dt (qS 0 (by kernel_rfl))).1;have ahw:=Sp.Ag (qS 1 (by kernel_rfl));obtain⟨QC,ahx,ac9⟩:=ahw;have alE:AT 1=.slice (some ⟨QC,0,none⟩) 1 1:=ahx;have am8:∀zp∈([(QC,.cells #[.int .u8 77] 5 (0,0))]:List (Nat×Obj)),sH.heap.size<=zp.1/\QB.heap[zp.1]?=some zp.2:=ac9;have ahy:AT 2=.int .i64 s:=(Sp.dt (qS 2 (by kernel_rfl))).1;have ahz:=Sp.Ag (qS 3 (by kernel_rfl));obtain⟨QD,ac_,ada⟩:=ahz;have ahA:AT 3=.slice (some ⟨QD,0,none⟩) 1 1:=ac_;have am9:∀zp∈([(QD,.cells #[.int .u8 ((aq 1 (s%256)) 0)] 5 (0,0))]:List (Nat×Obj)),sH.heap.size<=zp.1/\QB.heap[zp.1]?=some zp.2:=ada;have ahB:AT 4=.slice (some ⟨b,o,none⟩) m c:=(Sp.dt (qS 4 (by kernel_rfl))).1;have ahC:=Sp.agq (qS 5 (by kernel_rfl));obtain⟨QE,abn,abo,adb,ade⟩:=ahC;have ahD:AT 5=.slice (some ⟨QE,0,none⟩) 3 3:=adb;have am_:∀zp∈([(QE,.cells #[.slice (some ⟨abn,0,none⟩) 1 1,.slice (some ⟨abo,0,none⟩) 1 1,.slice (some ⟨b,o,none⟩) m c] 23 (0,0)),(abn,.cells #[.int .u8 77] 5 (0,0)),(abo,.cells #[.int .u8 ((aq 1 (s%256)) 0)] 5 (0,0))]:List (Nat×Obj)),sH.heap.size<=zp.1/\QB.heap[zp.1]?=some zp.2:=ade;have ahE:=Sp.agp (qS 6 (by kernel_rfl));obtain⟨QI,QJ,adf,adg⟩:=ahE;have ahF:AT 6=.slice (some ⟨QI,0,none⟩) (1+1+m) QJ:=adf;have ana:∀zp∈([(QI,.cells (dc (1+1+m) (jS 1 1 (λ_=>77) (aq 1 (s%256)) f) QJ) 5 (0,0))]:List (Nat×Obj)),sH.heap.size<=zp.1/\QB.heap[zp.1]?=some zp.2:=adg;have ahG:AT 7=.agg (ak .u8 8 (fA 32 k (1+1+m) (jS 1 1 (λ_=>77) (aq 1 (s%256)) f))):=(Sp.dt (qS 7 (by kernel_rfl))).1;have ahH:=Sp.Ag (qS 8 (by kernel_rfl));obtain⟨wF,adh,adi⟩:=ahH;have ahI:AT 8=.pointer (some ⟨wF,0,none⟩):=adh;have abp:∀zp∈([(wF,.cells (ak .u8 8 (λ_=>0)) 38 (0,0))]:List (Nat×Obj)),sH.heap.size<=zp.1/\QB.heap[zp.1]?=some zp.2:=adi;have ahJ:=i_.new ahv (abp _ (List.Mem.head _)).1 (abp _ (List.Mem.head _)).2;refine⟨[.slice (some ⟨de,0,none⟩) 32 32,.slice (some ⟨QC,0,none⟩) 1 1,.int .i64 s,.slice (some ⟨QD,0,none⟩) 1 1,.slice (some ⟨b,o,none⟩) m c,.slice (some ⟨QE,0,none⟩) 3 3,.slice (some ⟨QI,0,none⟩) (1+1+m) QJ,.agg (ak .u8 8 (fA 32 k (1+1+m) (jS 1 1 (λ_=>77) (aq 1 (s%256)) f))),.pointer (some ⟨wF,0,none⟩)],by kernel_rfl,aL alD (aL alE (aL ahy (aL ahA (aL ahB (aL ahD (aL ahF (aL ahG (aL ahI (sO))))))))),?_⟩;refine store_ ahJ 0 (.agg (ak .u8 8 (fA 32 k (1+1+m) (jS 1 1 (λ_=>77) (aq 1 (s%256)) f)))) wF 0 ?_;intro anb ahK;refine aw (ag (au (ax ?_)));refine bY ?_;refine aa (.slice (some ⟨wF,0,none⟩) 8 8) ?_;refine eD ahK (λb=>.slice (some ⟨b,0,none⟩) 2 2) (.cells #[.slice (some ⟨b,o,none⟩) m c,.slice (some ⟨wF,0,none⟩) 8 8] 23) ?_;intro abq anc JD;refine dh 43 #[.slice (some ⟨abq,0,none⟩) 2 2] ?_;refine(Qt abq b o m c f wF 0 8 8 (fA 32 k (1+1+m) (jS 1 1 (λ_=>77) (aq 1 (s%256)) f)) (by omega) (by omega) _ (JD.at_ 0 _ rfl) (St.mC JD hB (by simp)) (St.eK (N:=8) (f:=(fA 32 k (1+1+m) (jS 1 1 (λ_=>77) (aq 1 (s%256)) f))) (wr:=true) (t:=38) (fr:=(0,0)) JD 1)).mono ?_;rintro _ ane ⟨QK,Dw,rfl,ahL,ahM,ahN,ahO⟩;have QM:=JD.new ahO ahM ahN;refine bJ ?_;refine aw (ag (wp_ret ?_));refine gn rfl (fY [.tmp 6] [.slice (some ⟨QK,0,none⟩) (m+8) Dw] (.slice (some ⟨QK,0,none⟩) (m+8) Dw) ⟨cM,trivial⟩) ?_;have ze:dc (m+8) (bI m f (fA 32 k (1+1+m) (jS 1 1 (λ_=>77) (aq 1 (s%256)) f))) Dw=dc (m+8) (cO k s m f) Dw:=by kernel_rfl
 exact⟨QK,Dw,by rw[show(m+8)=m+8 by omega],by have:=ahL;omega,(QM.own 0 _ rfl rfl).resolve_left (by simp),by rw[<-ze];exact QM.at_ 0 _ rfl,QM.ch⟩
def QN:gm CG:=λargs bl ch K=>match args,ch with
 |[.raw (.slice (some ⟨b,o,none⟩) n c),.raw (.slice (some ⟨b2,o2,none⟩) n2 c2)],.cn u::_=>(match zq ch with
  |some (l,r)=>∃f g:Nat->Int,(eS u b o n f/\b2=r.b/\n=n2/\o2+n2<=r.n/\n<=1000000/\∀j,j<n->Xs o2 r.f j=g j)/\K (.bool (kq n f g)) bl ch
  |none=>False)
 |_,_=>False
def wG:gm CG:=λargs bl ch K=>match args,ch with
 |[.agg l,.int .i64 s,.raw (.slice (some ⟨b,o,none⟩) n c)],.cn u::_=>(match kI l with
  |some r=>∃f k:Nat->Int,(eS u b o n f/\n<=50/\(0<=s/\s<4294967296)/\(∃tG,u.heap[1]?=some (.cells (ak .u32 64 aX) tG (0,0)))/\r.length=32/\∀j,j<32->gT r j=k j)/\∀b' c',n+8<=c'->K (.raw (.slice (some ⟨b',0,none⟩) (n+8) c')) bl (ch++[.row ⟨n+8,cO k s n f,b',c'⟩])
  |none=>False)
 |_,_=>False
def Dx:gm CG:=λargs bl ch K=>match args,ch with
 |[.sl i 0 1 1],.cn u::_=>(match bl[i]?with
  |some ⟨_,⟨23,(0,0)⟩,[.raw (.slice (some ⟨b,o,none⟩) n c)]⟩=>∃f,(eS u b o n f/\n<=1000000)/\(n=0->K (.raw (.slice none 0 0)) bl ch)/\(0<n->∀b' c',n<=c'->K (.raw (.slice (some ⟨b',0,none⟩) n c')) bl (ch++[.row ⟨n,f,b',c'⟩]))
  |_=>False)
 |_,_=>False
theorem JE {w:World} {r:R8} {o m:Nat} (h:w.heap[r.b]?=some (.cells (dc r.n r.f r.c) 5 (0,0))) (hm:o+m<=r.n):eS w r.b o m (Xs o r.f):=λj hj=>by
 rw[cell_of h,Qn];unfold dc;simp only[List.getElem?_toArray];rw[List.getElem?_append_left (by rw[bQ];omega)];exact je _ (by omega)
theorem eS.cg {w:World} {b o n:Nat} {f g:Nat->Int} (h:eS w b o n f) (e:∀j,j<n->f j=g j):eS w b o n g:=λj hj=>by rw[h j hj,e j hj]
theorem qT {ids:List Nat} {bl:List VB} {u:World} {rest:List CG} {R:List av} {y:av} (h:y∈du u):y∈lits ids ids bl++af (CG.cn u::rest) R:=List.mem_append_right _ (List.mem_append_left _ h)
theorem wH {ids:List Nat} {bl:List VB} {u w w0:World} {rest:List CG} {R:List av} {ms:List Nat} (S:St ms w0 (lits ids ids bl++af (CG.cn u::rest) R) w) {i:Nat} {o:Obj} (h:u.heap[i]?=some o):w.heap[i]?=some o:=S.at' (x:=⟨i,false,o⟩) (qT (qO h))
theorem MK {gl:Nat->Option Nat}:Sound prog gl 192 QN:=by
 intro args ids bl ch R ms w0 w K hg hl S hc;unfold QN at hc;split at hc
 ·rename_i b o n c b2 o2 n2 c2 u rest;split at hc
  ·rename_i l r hlr;obtain⟨f,g,⟨h8,rfl,rfl,hle,hn,hgj⟩,hK⟩:=hc;have S1:=S;rw[qP hlr]at S1;refine(abe b o n c r.b o2 c2 f g hn w (vh S (λy hy=>qT hy) h8) (eS.cg (JE (qQ S1) hle) hgj)).mono ?_;rintro v w' ⟨rfl,eZ⟩;exact⟨.bool (kq n f g),[],bl,_,rfl,by simpa using hl,by simpa using S.quiet eZ,hK⟩
  ·exact hc.elim
 ·exact hc.elim
theorem ML:cT QN:=by
 intro args bl ch K hc;unfold QN at hc⊢;split at hc
 ·split at hc
  ·obtain⟨f,g,h,hK⟩:=hc;rename_i e;try simp only[e]
   exact⟨f,g,h,hK,[],by simp⟩
  ·exact hc.elim
 ·exact hc.elim
theorem JF {ids:List Nat} {bl:List VB} {ch:List CG} {R:List av} {ms:List Nat} {w0 w w':World} {n b c:Nat} {f:Nat->Int} (S:St ms w0 (lits ids ids bl++af ch R) w) (eZ:Ch [] w w') (jI:w.heap.size<=b) (ba:w'.heap[b]?=some (.cells (dc n f c) 5 (0,0))):St ms w0 (lits ids ids bl++af (ch++[.row ⟨n,f,b,c⟩]) R) w':=by
 rw[kZ];rw[pr]at S;exact S.yE (bl':=[⟨b,true,.cells (dc n f c) 5 (0,0)⟩]) (λy hy=>nomatch hy) eZ (λy hy=>by
  obtain rfl:=List.mem_singleton.1 hy;exact ba) (λy hy=>by
  obtain rfl:=List.mem_singleton.1 hy;exact .inr jI) (by simp)
theorem Dy {gl:Nat->Option Nat}:Sound prog gl 47 wG:=by
 intro args ids bl ch R ms w0 w K hg hl S hc;unfold wG at hc;split at hc
 ·rename_i l s b o n c u rest;split at hc
  ·rename_i r hr;obtain⟨f,k,⟨h8,hn,hs,⟨tG,hG⟩,hq,hk⟩,hK⟩:=hc;have ea:(ao ids [.agg l,.int .i64 s,.raw (.slice (some ⟨b,o,none⟩) n c)]).toArray=#[.agg (ak .u8 32 k),.int .i64 s,.slice (some ⟨b,o,none⟩) n c]:=by
    simp only[ao,den,jw ids hr,hq];rw[kR hk];rfl
   rw[ea];refine(close_ k s b o n c f hn hs w (wH S hG) (vh S (λy hy=>qT hy) h8)).mono ?_;rintro v w' ⟨b2,c2,rfl,hle,jI,ba,eZ⟩;exact⟨_,[],bl,_,rfl,by simpa using hl,by simpa using JF S eZ jI ba,hK b2 c2 hle⟩
  ·exact hc.elim
 ·exact hc.elim
theorem Dz:cT wG:=by
 intro args bl ch K hc;unfold wG at hc⊢;split at hc
 ·split at hc
  ·obtain⟨f,k,h,hK⟩:=hc;exact⟨f,k,h,λb c h=>⟨hK b c h,[],by simp⟩⟩
  ·exact hc.elim
 ·exact hc.elim
theorem Gz {gl:Nat->Option Nat}:Sound prog gl 43 Dx:=by
 intro args ids bl ch R ms w0 w K hg hl S hc;unfold Dx at hc;split at hc
 ·rename_i i u rest;split at hc
  ·rename_i wr b o n c hb;obtain⟨f,⟨h8,hn⟩,Qo,hK1⟩:=hc;have ba:=(cA hl S hb).2
   let ps:List JP:=[((b,o,n,c),f)]
   have et:n7 ps 0=n:=by show 0+n=_;rw[Nat.zero_add]
   refine(Jz (k:=1) (ps:=ps) (z:=λ_=>0) (λK=>acU w K (b,o,n,c)) ba (by rw[et];exact hn) (λq hq=>by
    rcases List.mem_cons.1 hq with rfl|hq
    ·exact vh S (λy hy=>qT hy) h8
    cases hq)).mono ?_
   rintro v w' ⟨eZ,⟨h,rfl⟩|⟨h0,b',c',rfl,h1,h2,h3⟩⟩
   ·exact⟨_,[],bl,_,rfl,by simpa using hl,by simpa using S.quiet eZ,Qo (by rw[<-et];exact h)⟩
   ·have ec:mF ps 0 (λ_=>0)=f:=by
     simp only[ps,mF,Nat.zero_add,lT 0]
    rw[et]at h1 h3⊢;rw[ec]at h3;rw[et]at h0;exact⟨_,[],bl,_,rfl,by simpa using hl,by simpa using JF S eZ h2 h3,hK1 h0 b' c' h1⟩
  ·exact hc.elim
 ·exact hc.elim
theorem GA:cT Dx:=by
 intro args bl ch K hc;unfold Dx at hc⊢;split at hc
 ·split at hc
  ·obtain⟨f,h,h0,h1⟩:=hc;exact⟨f,h,λe=>⟨h0 e,[],by simp⟩,λe b c h=>⟨h1 e b c h,[],by simp⟩⟩
  ·exact hc.elim
 ·exact hc.elim
def LOp:List (dI CG):=[⟨47,true,wG⟩,⟨192,true,QN⟩,⟨43,true,Dx⟩]
theorem adj:ai prog gv LOp:=ai.cons ⟨Dy,λ_=>Dz⟩ (ai.cons ⟨MK,λ_=>ML⟩ (ai.cons ⟨Gz,λ_=>GA⟩ ai.nil))
def opX (u:World) (k:Nat->Int) (s:Int) (b o n c:Nat) (K:VK CG):Prop:=
 let q:=i64.wrap ((n:Int)-8)
 let no (ch:List CG):Prop:=K (.az [.raw (.slice none 0 0),.int .i64 14]) [] (.cn u::ch)
 cond (decide (q<0)) (no []) ((0<=q/\q<=(c:Int))/\∃f kk:Nat->Int,(eS u b o q.toNat f/\q.toNat<=50/\(0<=s/\s<4294967296)/\(∃tG,u.heap[1]?=some (.cells (ak .u32 64 aX) tG (0,0)))/\((List.range 32).map k).length=32/\∀j,j<32->gT ((List.range 32).map k) j=kk j)/\
  ∀b1 c1:Nat,q.toNat+8<=c1->∃f2 g2:Nat->Int,(eS u b o n f2/\b1=b1/\n=q.toNat+8/\0+(q.toNat+8)<=q.toNat+8/\n<=1000000/\∀j,j<n->cO kk s q.toNat f j=g2 j)/\
   cond (!(kq n f2 g2)) (no [.row ⟨q.toNat+8,cO kk s q.toNat f,b1,c1⟩]) ((0<=q/\q<=(c:Int))/\∃f3:Nat->Int,(eS u b o q.toNat f3/\q.toNat<=1000000)/\
    (q.toNat=0->K (.az [.raw (.slice none 0 0),.int .i64 0]) [] [.cn u,.row ⟨q.toNat+8,cO kk s q.toNat f,b1,c1⟩])/\
    (0<q.toNat->∀b2 c2:Nat,q.toNat<=c2->K (.az [.raw (.slice (some ⟨b2,0,none⟩) q.toNat c2),.int .i64 0]) [] [.cn u,.row ⟨q.toNat+8,cO kk s q.toNat f,b1,c1⟩,.row ⟨q.toNat,f3,b2,c2⟩])))
theorem ahP (u:World) (k:Nat->Int) (s:Int) (b o n c:Nat) (K:VK CG):oE LOp 150 [.agg (ints 32 k),.int .i64 s,.raw (.slice (some ⟨b,o,none⟩) n c)] [] [.cn u] (cP 0 K)=opX u k s b o n c K:=by kernel_rfl
theorem iT {L:List (dI CG)} (hL:ai prog gv L) {f:FuncId} {args:List V} {K:VK CG} {w:World} (h:oE L f args [] [.cn w] (cP 0 K)):aj prog f (ao [] args).toArray w λv w'=>∃x ids bl ch,v=den ids x/\ids.length=bl.length/\St [] w (lits ids ids bl++af ch []) w'/\K x bl ch:=by
 refine(bw hL.T hL.Q 60 (C:=mL prog gv L ap8 Gq) (ids:=[]) (bl:=[]) (ch:=[.cn w]) (R:=[]) (λg i h=>by cases h) rfl (Jw w) h).mono ?_;rintro v w' ⟨x,more,bl',ch',rfl,h1,S',hK⟩;obtain⟨v2,aP,bl2,hv,gx,S2,Mx⟩:=c9 (n0:=0) h1 (Nat.zero_le _) S' hK;exact⟨v2,_,bl2,ch',hv,gx,S2,Mx⟩
theorem iU {k:Nat->Int} {n j:Nat} (h:j<n):gT ((List.range n).map k) j=k j:=by
 unfold gT;simp[List.getD,List.getElem?_range h]
theorem JG (k:Nat->Int) (s:Int) (a:Option Addr) (n c:Nat):(ao [] [.agg (ints 32 k),.int .i64 s,.raw (.slice a n c)]).toArray=#[.agg (ak .u8 32 k),.int .i64 s,.slice a n c]:=by
 simp only[ao,den,iS]
theorem wI (k:Nat->Int) (s:Int) (a:Option Addr) (n c:Nat) (hn:n<8) (w:World):
 aj prog 150 #[.agg (ak .u8 32 k),.int .i64 s,.slice a n c] w λv w1=>v=.tuple #[.slice none 0 0,.int .i64 14]/\Ch [] w w1:=by
 have h:oE [] 150 [.agg (ints 32 k),.int .i64 s,.raw (.slice a n c)] [] [.cn w] (cP 0 λv _ _=>v=.az [.raw (.slice none 0 0),.int .i64 14]):=by
  have e:∀K:VK CG,oE [] 150 [.agg (ints 32 k),.int .i64 s,.raw (.slice a n c)] [] [.cn w] (cP 0 K)=K (.az [.raw (.slice none 0 0),.int .i64 14]) [] [.cn w]:=by
   intro K;rcases(by omega:n=0\/n=1\/n=2\/n=3\/n=4\/n=5\/n=6\/n=7)with rfl|rfl|rfl|rfl|rfl|rfl|rfl|rfl<;>kernel_rfl
  rw[e]
 rw[<-JG];refine(iT ai.nil h).mono ?_;rintro v w' ⟨x,ids,bl,ch,rfl,hl,S,rfl⟩;exact⟨rfl,S.ch⟩
theorem QO (k:Nat->Int) (s:Int) (b o m c:Nat) (f:Nat->Int) (hm:m<=50) (hc:m+8<=c) (hs:0<=s/\s<4294967296) {tG:TypeId} (w:World) (hG:w.heap[1]?=some (.cells (ak .u32 64 aX) tG (0,0))) (hB:eS w b o (m+8) f):
 aj prog 150 #[.agg (ak .u8 32 k),.int .i64 s,.slice (some ⟨b,o,none⟩) (m+8) c] w λv w1=>(eV k s m f=false/\v=.tuple #[.slice none 0 0,.int .i64 14]/\Ch [] w w1)\/(eV k s m f=true/\∃x1 c1 yA,v=.tuple #[.slice x1 m c1,.int .i64 0]/\eK 5 m f x1 c1 yA/\St [] w yA w1):=by
 have h:oE LOp 150 [.agg (ints 32 k),.int .i64 s,.raw (.slice (some ⟨b,o,none⟩) (m+8) c)] [] [.cn w] (cP 0 λv bl ch=>bl=[]/\((eV k s m f=false/\v=.az [.raw (.slice none 0 0),.int .i64 14])\/(eV k s m f=true/\((m=0/\v=.az [.raw (.slice none 0 0),.int .i64 0])\/∃l b2 c2,0<m/\m<=c2/\v=.az [.raw (.slice (some ⟨b2,0,none⟩) m c2),.int .i64 0]/\ch=l++[.row ⟨m,f,b2,c2⟩])))):=by
  rw[ahP];unfold opX;have e:i64.wrap (((m+8:Nat):Int)-8)=(m:Int):=by simp[IntKind.wrap,IntKind.bits,IntKind.signed];omega
  dsimp only;rw[e,Int.toNat_natCast];refine aU (λh=>absurd (of_decide_eq_true h) (by omega)) λ_=>⟨⟨by omega,by omega⟩,f,k,⟨hB.cut (by omega),hm,hs,⟨tG,hG⟩,by simp,λj hj=>iU hj⟩,λb1 c1 h1=>⟨f,cO k s m f,⟨hB,rfl,rfl,by omega,by omega,λ_ _=>rfl⟩,aU (λh=>⟨rfl,.inl ⟨(by unfold eV;simpa using h),rfl⟩⟩) λh=>⟨⟨by omega,by omega⟩,f,⟨hB.cut (by omega),by omega⟩,λh0=>⟨rfl,.inr ⟨(by unfold eV;simpa using h),.inl ⟨h0,rfl⟩⟩⟩,λh0 b2 c2 h2=>⟨rfl,.inr ⟨(by unfold eV;simpa using h),.inr ⟨[.cn w,.row ⟨m+8,cO k s m f,b1,c1⟩],b2,c2,h0,h2,rfl,rfl⟩⟩⟩⟩⟩⟩
 rw[<-JG];refine(iT adj h).mono ?_;rintro v w' ⟨x,ids,bl,ch,rfl,hl,S,rfl,⟨h0,rfl⟩|⟨h0,⟨rfl,rfl⟩|⟨l,b2,c2,h1,h2,rfl,rfl⟩⟩⟩
 ·exact .inl ⟨h0,rfl,S.ch⟩
 ·exact .inr ⟨h0,none,0,[],rfl,⟨Nat.le_refl _,.inl ⟨rfl,rfl,rfl,rfl⟩⟩,by simpa using(St.nil [] w).quiet S.ch⟩
 ·exact .inr ⟨h0,some ⟨b2,0,none⟩,c2,_,rfl,⟨h2,.inr ⟨b2,rfl,rfl⟩⟩,(St.nil [] w).new S.ch (AO S) (qQ S)⟩
theorem XH (k:Nat->Int) (s:Int) (b o m c:Nat) (f:Nat->Int) (hm:m<=50) (hc:m+8<=c) (hs:0<=s/\s<4294967296) (ho:eV k s m f=false) {tG:TypeId} (w:World) (hG:w.heap[1]?=some (.cells (ak .u32 64 aX) tG (0,0))) (hB:eS w b o (m+8) f):
 aj prog 150 #[.agg (ak .u8 32 k),.int .i64 s,.slice (some ⟨b,o,none⟩) (m+8) c] w λv w1=>v=.tuple #[.slice none 0 0,.int .i64 14]/\Ch [] w w1:=
 (QO k s b o m c f hm hc hs w hG hB).mono λv w1 h=>h.elim (λh=>h.2) λh=>by rw[ho]at h;cases h.1
theorem QP (k:Nat->Int) (s:Int) (b o m c:Nat) (f:Nat->Int) (hm:m<=50) (hc:m+8<=c) (hs:0<=s/\s<4294967296) (ho:eV k s m f=true) {tG:TypeId} (w:World) (hG:w.heap[1]?=some (.cells (ak .u32 64 aX) tG (0,0))) (hB:eS w b o (m+8) f):
 aj prog 150 #[.agg (ak .u8 32 k),.int .i64 s,.slice (some ⟨b,o,none⟩) (m+8) c] w λv w1=>∃x1 c1 yA,v=.tuple #[.slice x1 m c1,.int .i64 0]/\eK 5 m f x1 c1 yA/\St [] w yA w1:=
 (QO k s b o m c f hm hc hs w hG hB).mono λv w1 h=>h.elim (λh=>by rw[ho]at h;cases h.1) λh=>h.2
end Go.Proofs.YtggfpcggakghnaaGreatDoor
