/- Part 5 of the proof. -/
import Derived.Test.YtggfpcggakghnaaGreatDoorProg
import Derived.Test.YtggfpcggakghnaaGreatDoorS4
set_option linter.all false
set_option maxRecDepth 100000
set_option maxHeartbeats 4000000
open Go.Proofs.Tryz
open Go.IntKind (u8 u16 u32 u64 i64)
namespace Go.Proofs.YtggfpcggakghnaaGreatDoor
open Go Go.RowKit Go.BigFrame Sx Vx
def aq (k:Nat) (x:Int):Nat->Int:=λj=>u8.wrap (Int.fdiv x (2^(8*(k-1-j))))
theorem fdiv_zero (x:Int) (k:Nat) (h0:0<=x) (h1:x<2^k):Int.fdiv x (2^k)=0:=by
 rw[Int.fdiv_eq_ediv_of_nonneg _ (Int.le_of_lt (Int.lt_of_le_of_lt h0 h1))];exact Int.ediv_eq_zero_of_lt h0 h1
def ints (n:Nat) (f:Nat->Int):List V:=(List.range n).map λj=>.int .u8 (f j)
theorem Gt {G:Type} [Bl G] {L:List (dI G)} {h:(Operand->V)->Op->List VB->List G->VK G->Prop} {hok:oA prog gv h} (hL:ai prog gv L) {f:FuncId} {args:List V} {K:VK G} {w:World} (hv:Mm (cJ (mL prog gv L h hok) 60 f args [] [] (cP 0 K))):
 aj prog f (ao [] args).toArray w λv w'=>∃x ids bl ch,v=den ids x/\ids.length=bl.length/\St [] w (lits ids ids bl++af ch []) w'/\K x bl ch:=by
 refine(bw hL.T hL.Q 60 (C:=mL prog gv L h hok) (ids:=[]) (bl:=[]) (ch:=[]) (R:=[]) (λg i h=>by cases h) rfl (St.nil [] w) hv.h).mono ?_;rintro v w' ⟨x,more,bl',ch',rfl,h1,S',hK⟩;obtain⟨v2,aP,bl2,hv,gx,S2,Mx⟩:=c9 (n0:=0) h1 (Nat.zero_le _) S' hK;exact⟨v2,_,bl2,ch',hv,gx,S2,Mx⟩
def My (k:Nat) (x:Int):VB:=⟨true,⟨5,(0,0)⟩,ints k (aq k x)⟩
def J9 (k:Nat) (x d:Int) (K:VK Empty):Prop:=cJ (mL prog gv ([]:List (dI Empty)) (Dh prog) lQ) 60 70 [.int .u64 x,.int .i64 k] [] [] (cP 0 K)=cond (Int.fdiv x d !=0) (K (.az [.raw (.slice none 0 0),.int .i64 1]) [] []) (K (.az [.sl 0 0 k k,.int .i64 0]) [My k x] [])
theorem Xv (x:Int) (K:VK Empty):J9 1 x (2^8) K:=by
 unfold J9;kernel_rfl
theorem Xw (x:Int) (K:VK Empty):J9 2 x (2^16) K:=by
 unfold J9;kernel_rfl
theorem Xx (x:Int) (K:VK Empty):J9 4 x (2^32) K:=by
 unfold J9;kernel_rfl
theorem iS (ids:List Nat) (n:Nat) (f:Nat->Int):(ab ids (ints n f)).toArray=ak .u8 n f:=by
 have h:∀l:List Nat,ab ids (l.map λj=>V.int .u8 (f j))=l.map λj=>Value.int .u8 (f j):=by
  intro l;induction l with
  |nil=>rfl
  |cons j l ih=>simp only[List.map_cons,ab,cl,den,ih,List.singleton_append]
 unfold ints;rw[h];rfl
theorem AN {k e:Nat} {x:Int} (hx:0<=x/\x<2^e) (hv:∀K,J9 k x (2^e) K) (w:World):aj prog 70 #[.int .u64 x,.int .i64 k] w λv w1=>∃b,v=.tuple #[.slice (some ⟨b,0,none⟩) k k,.int .i64 0]/\w.heap.size<=b/\w1.heap[b]?=some (.cells (ak .u8 k (aq k x)) 5 (0,0))/\Ch [] w w1:=by
 have h:cJ (mL prog gv ([]:List (dI Empty)) (Dh prog) lQ) 60 70 [.int .u64 x,.int .i64 k] [] [] (cP 0 λv bl _=>v=.az [.sl 0 0 k k,.int .i64 0]/\bl=[My k x]):=by
  rw[show _=_ from hv _,fdiv_zero x e hx.1 hx.2];exact⟨rfl,rfl⟩
 refine(Gt ai.nil ⟨h⟩).mono ?_;rintro v w' ⟨y,ids,bl,ch,rfl,hl,S,rfl,rfl⟩
 match ids,hl with
 |[b],_=>
  refine⟨b,rfl,(S.own 0 (aE [b] b (My k x)) rfl rfl).resolve_left (by simp),?_,S.ch⟩;have:=S.at_ 0 (aE [b] b (My k x)) rfl;simp only[aE,My,iS]at this;exact this
def Qp {G:Type}:gm G:=λargs bl ch K=>match args with
 |[.int .u64 x,.int .i64 (.ofNat k)]=>cond ((Nat.beq k 1||(Nat.beq k 2||Nat.beq k 4))&&dk bl.length bl) ((0<=x/\x<2^(8*k))/\K (.az [.sl bl.length 0 k k,.int .i64 0]) (bl++[My k x]) ch) False
 |_=>False
theorem Mz {G:Type} [Bl G] {gl:Nat->Option Nat}:Sound (G:=G) prog gl 70 Qp:=by
 intro args ids bl ch R ms w0 w K hg hl S hc;unfold Qp at hc;split at hc
 ·rename_i x k;cases hq:(Nat.beq k 1||(Nat.beq k 2||Nat.beq k 4))&&dk bl.length bl with
  |false=>rw[hq]at hc;exact hc.elim
  |true=>
   rw[hq]at hc;simp only[Bool.and_eq_true,Bool.or_eq_true]at hq;obtain⟨hx,hK⟩:=hc;have hp:aj prog 70 #[.int .u64 x,.int .i64 k] w λv w1=>∃b,v=.tuple #[.slice (some ⟨b,0,none⟩) k k,.int .i64 0]/\w.heap.size<=b/\w1.heap[b]?=some (.cells (ak .u8 k (aq k x)) 5 (0,0))/\Ch [] w w1:=by
    rcases hq.1 with h|h|h
    ·obtain rfl:=Nat.eq_of_beq_eq_true h;exact AN hx (Xv x) w
    ·obtain rfl:=Nat.eq_of_beq_eq_true h;exact AN hx (Xw x) w
    ·obtain rfl:=Nat.eq_of_beq_eq_true h;exact AN hx (Xx x) w
   refine hp.mono ?_;rintro v w' ⟨b,rfl,jI,ba,eZ⟩;refine⟨_,[b],_,_,?_,by simp[hl],?_,hK⟩
   ·have:(ids++[b]).getD bl.length 0=b:=by rw[<-hl];simp[List.getD]
    simp only[den,ao,this]
   ·have e:aE (ids++[b]) b (My k x)=⟨b,true,.cells (ak .u8 k (aq k x)) 5 (0,0)⟩:=by
     unfold aE My;rw[iS]
    rw[aI _ _ _ _ hl,aJ _ _ (by rw[hl];exact hq.2)];simp only[lits,e];refine(S.new eZ jI ba).perm ?_;rw[List.append_assoc];exact List.perm_middle.symm
 ·exact hc.elim
theorem MA {G:Type}:cT (Qp (G:=G)):=by
 intro args bl ch K hc;unfold Qp at hc⊢;split at hc
 ·revert hc;cases(Nat.beq _ 1||(Nat.beq _ 2||Nat.beq _ 4))&&dk bl.length bl with
  |false=>exact λh=>h.elim
  |true=>exact λh=>⟨h.1,h.2,_,rfl⟩
 ·exact hc.elim
def MB (G:Type):List (dI G):=[⟨70,true,Qp⟩]
theorem Jy {G:Type} [Bl G] {gl:Nat->Option Nat}:ai (G:=G) prog gl (MB G):=ai.cons ⟨Mz,λ_=>MA⟩ ai.nil
def asX (k:Nat) (n m:Int) (K:VK Empty):Prop:=cJ (dR prog gv (MB Empty)) 60 44 [.int .i64 n,.int .i64 k] [] [] (cP 0 K)=((0<=bits .and .u64 (u64.wrap n) m/\bits .and .u64 (u64.wrap n) m<2^(8*k))/\K (.sl 0 0 k k) [My k (bits .and .u64 (u64.wrap n) m)] [])
theorem acS (n:Int) (K:VK Empty):asX 1 n 255 K:=by
 unfold asX;kernel_rfl
theorem acT (n:Int) (K:VK Empty):asX 4 n 4294967295 K:=by
 unfold asX;kernel_rfl
theorem Qq {k:Nat} {n m d:Int} (hn:0<=n/\n<4294967296) (hv:∀K,asX k n m K) (he:bits .and .u64 n m=n%d) (hd:0<d) (h2:d=2^(8*k)) (w:World):
 aj prog 44 #[.int .i64 n,.int .i64 k] w λv w1=>∃b,v=.slice (some ⟨b,0,none⟩) k k/\w.heap.size<=b/\w1.heap[b]?=some (.cells (ak .u8 k (aq k (n%d))) 5 (0,0))/\Ch [] w w1:=by
 have h:cJ (dR prog gv (MB Empty)) 60 44 [.int .i64 n,.int .i64 k] [] [] (cP 0 λv bl _=>v=.sl 0 0 k k/\bl=[My k (n%d)]):=by
  rw[show _=_ from hv _,IntWalk.u64_in _ (by omega),he];exact⟨⟨Int.emod_nonneg _ (by omega),h2▸Int.emod_lt_of_pos _ hd⟩,rfl,rfl⟩
 refine(Gt (h:=noH) (hok:=FU) Jy ⟨h⟩).mono ?_;rintro v w' ⟨y,ids,bl,ch,rfl,hl,S,rfl,rfl⟩
 match ids,hl with
 |[b],_=>
  refine⟨b,rfl,(S.own 0 (aE [b] b (My k (n%d))) rfl rfl).resolve_left (by simp),?_,S.ch⟩;have:=S.at_ 0 (aE [b] b (My k (n%d))) rfl;simp only[aE,My,iS]at this;exact this
theorem Xy (n:Int) (hn:0<=n/\n<4294967296) (w:World):
 aj prog 44 #[.int .i64 n,.int .i64 1] w λv w1=>∃b,v=.slice (some ⟨b,0,none⟩) 1 1/\w.heap.size<=b/\w1.heap[b]?=some (.cells #[.int .u8 ((aq 1 (n%256)) 0)] 5 (0,0))/\Ch [] w w1:=
 Qq hn (acS n) (fl .u64 n 255 256 8 (by decide) (by decide) (by decide)) (by decide) rfl w
theorem akX (n:Int) (hn:0<=n/\n<4294967296) (w:World):
 aj prog 44 #[.int .i64 n,.int .i64 4] w λv w1=>∃b,v=.slice (some ⟨b,0,none⟩) 4 4/\w.heap.size<=b/\w1.heap[b]?=some (.cells #[.int .u8 ((aq 4 (n%4294967296)) 0),.int .u8 ((aq 4 (n%4294967296)) 1),.int .u8 ((aq 4 (n%4294967296)) 2),.int .u8 ((aq 4 (n%4294967296)) 3)] 5 (0,0))/\Ch [] w w1:=
 Qq hn (acT n) (fl .u64 n 4294967295 4294967296 32 (by decide) (by decide) (by decide)) (by decide) rfl w
abbrev JP:=(Nat×Nat×Nat×Nat)×(Nat->Int)
def jP (p:Nat×Nat×Nat×Nat):V:=.raw (.slice (some ⟨p.1,p.2.1,none⟩) p.2.2.1 p.2.2.2)
def jB (ps:List (Nat×Nat×Nat×Nat)):VB:=⟨false,⟨23,(0,0)⟩,ps.map jP⟩
def oE (L:List (dI CG)) (f:FuncId) (args:List V) (bl:List VB) (ch:List CG) (K:VK CG):Prop:=cJ (mL prog gv L ap8 Gq) 60 f args bl ch K
section
variable(u:World) (B:VB) (K:VK CG)
def jnS:List (Nat×Nat×Nat×Nat)->Nat->Nat->Nat->(Nat->Int)->Prop
 |[],b,n,c,f=>K (.raw (.slice (some ⟨b,0,none⟩) n c)) [B] [.cn u,.row ⟨n,f,b,c⟩]
 |p::ps,b,n,c,f=>∃g,eS u p.1 p.2.1 p.2.2.1 g/\(b=b/\n=n/\c=c/\n<=c/\n+p.2.2.1<=1000000/\0<n+p.2.2.1)/\∀b' c',n+p.2.2.1<=c'->jnS ps b' (n+p.2.2.1) c' (bI n f g)
def jnN:List (Nat×Nat×Nat×Nat)->Prop
 |[]=>K (.raw (.slice none 0 0)) [B] [.cn u]
 |p::ps=>∃g,eS u p.1 p.2.1 p.2.2.1 g/\p.2.2.1<=1000000/\(p.2.2.1=0->jnN ps)/\(0<p.2.2.1->∀b c,p.2.2.1<=c->jnS u B K ps b p.2.2.1 c g)
def Xz (k:Nat) (ps:List (Nat×Nat×Nat×Nat)):Prop:=oE [] 43 [.sl 0 0 k k] [jB ps] [.cn u] (cP 1 K)=jnN u (jB ps) K ps
theorem acU (p:Nat×Nat×Nat×Nat):Xz u K 1 [p]:=by
 unfold Xz;kernel_rfl
theorem acV (p q:Nat×Nat×Nat×Nat):Xz u K 2 [p,q]:=by
 unfold Xz;kernel_rfl
theorem acW (p q r:Nat×Nat×Nat×Nat):Xz u K 3 [p,q,r]:=by
 unfold Xz;kernel_rfl
theorem acX (p q r s:Nat×Nat×Nat×Nat):Xz u K 4 [p,q,r,s]:=by
 unfold Xz;kernel_rfl
end
def eg:List JP->Nat->Nat
 |[],n=>n
 |p::ps,n=>eg ps (n+p.1.2.2.1)
def mF:List JP->Nat->(Nat->Int)->Nat->Int
 |[],n,f=>f
 |p::ps,n,f=>mF ps (n+p.1.2.2.1) (bI n f p.2)
theorem Gu:∀(ps:List JP) (n:Nat),n<=eg ps n
 |[],n=>Nat.le_refl n
 |p::ps,n=>Nat.le_trans (Nat.le_add_right _ _) (Gu ps _)
theorem Qr {u:World} {B:VB} {K:VK CG}:∀(ps:List JP) (b n c:Nat) (f:Nat->Int),n<=c->0<n->eg ps n<=1000000->(∀q∈ps,eS u q.1.1 q.1.2.1 q.1.2.2.1 q.2)->
 (∀b c,eg ps n<=c->K (.raw (.slice (some ⟨b,0,none⟩) (eg ps n) c)) [B] [.cn u,.row ⟨eg ps n,mF ps n f,b,c⟩])->jnS u B K (ps.map (·.1)) b n c f
 |[],b,n,c,f,h1,_,_,_,hK=>hK b c h1
 |p::ps,b,n,c,f,h1,h2,h3,h4,hK=>by
  have:=Gu ps (n+p.1.2.2.1);have h3':eg ps (n+p.1.2.2.1)<=1000000:=h3;exact⟨p.2,h4 p List.mem_cons_self,⟨rfl,rfl,rfl,h1,Nat.le_trans this h3',Nat.lt_of_lt_of_le h2 (Nat.le_add_right _ _)⟩,λb' c' h=>Qr ps b' _ c' _ h (Nat.lt_of_lt_of_le h2 (Nat.le_add_right _ _)) h3' (λq hq=>h4 q (List.mem_cons_of_mem _ hq)) hK⟩
theorem wC:∀(ps:List JP) (n:Nat) (f g:Nat->Int),(∀j,j<n->f j=g j)->∀j,j<eg ps n->mF ps n f j=mF ps n g j
 |[],n,f,g,h,j,hj=>h j hj
 |p::ps,n,f,g,h,j,hj=>wC ps _ _ _ (λi hi=>by
  unfold bI;cases hb:Nat.blt i n with
  |false=>rfl
  |true=>exact h i (by unfold Nat.blt at hb;exact Nat.le_of_ble_eq_true hb)) j hj
theorem Qs {u:World} {B:VB} {K:VK CG} {z:Nat->Int}:∀(ps:List JP),eg ps 0<=1000000->(∀q∈ps,eS u q.1.1 q.1.2.1 q.1.2.2.1 q.2)->(eg ps 0=0->K (.raw (.slice none 0 0)) [B] [.cn u])->
 (∀F,(∀j,j<eg ps 0->F j=mF ps 0 z j)->∀b c,0<eg ps 0->eg ps 0<=c->K (.raw (.slice (some ⟨b,0,none⟩) (eg ps 0) c)) [B] [.cn u,.row ⟨eg ps 0,F,b,c⟩])->jnN u B K (ps.map (·.1))
 |[],_,_,h,_=>h rfl
 |p::ps,h1,h2,h3,h4=>by
  have e:eg (p::ps) 0=eg ps p.1.2.2.1:=by show eg ps (0+p.1.2.2.1)=_;rw[Nat.zero_add]
  have hc:mF (p::ps) 0 z=mF ps p.1.2.2.1 p.2:=by show mF ps (0+p.1.2.2.1) (bI 0 z p.2)=_;rw[Nat.zero_add,lT 0]
  rw[e]at h1 h3 h4;rw[hc]at h4;have jI:=Gu ps p.1.2.2.1;refine⟨p.2,h2 p List.mem_cons_self,Nat.le_trans jI h1,λh0=>?_,λh0 b c hle=>Qr ps b _ c _ hle h0 h1 (λq hq=>h2 q (List.mem_cons_of_mem _ hq)) λb c h=>h4 _ (λ_ _=>rfl) b c (Nat.lt_of_lt_of_le h0 jI) h⟩;rw[show p.1.2.2.1=0 from h0]at h1 h3 h4;exact Qs (z:=z) ps h1 (λq hq=>h2 q (List.mem_cons_of_mem _ hq)) h3 λF hF=>h4 F λj hj=>(hF j hj).trans (wC ps 0 _ _ (λi hi=>absurd hi (Nat.not_lt_zero i)) j hj)
theorem AO {ids:List Nat} {bl:List VB} {l:List CG} {r:R8} {w w':World} (S:St [] w (lits ids ids bl++af (l++[.row r]) []) w'):w.heap.size<=r.b:=by
 rw[kZ]at S;have:=S.ql (x:=⟨r.b,true,.cells (dc r.n r.f r.c) 5 (0,0)⟩) (by simp[R8.bl]) rfl;simpa using this
theorem qQ {ids:List Nat} {bl:List VB} {l:List CG} {r:R8} {R:List av} {ms:List Nat} {w0 w:World} (S:St ms w0 (lits ids ids bl++af (l++[.row r]) R) w):w.heap[r.b]?=some (.cells (dc r.n r.f r.c) 5 (0,0)):=by
 rw[kZ]at S;exact S.at' (x:=⟨r.b,true,.cells (dc r.n r.f r.c) 5 (0,0)⟩) (by simp[R8.bl])
theorem Jz {k pb:Nat} {ps:List JP} {w:World} {z:Nat->Int} (hv:∀K,Xz w K k (ps.map (·.1))) (hp:w.heap[pb]?=some (.cells (ab [] ((ps.map (·.1)).map jP)).toArray 23 (0,0))) (h1:eg ps 0<=1000000) (hA:∀q∈ps,eS w q.1.1 q.1.2.1 q.1.2.2.1 q.2):
 aj prog 43 #[.slice (some ⟨pb,0,none⟩) k k] w λv w1=>Ch [] w w1/\((eg ps 0=0/\v=.slice none 0 0)\/(0<eg ps 0/\∃b c,v=.slice (some ⟨b,0,none⟩) (eg ps 0) c/\eg ps 0<=c/\w.heap.size<=b/\w1.heap[b]?=some (.cells (dc (eg ps 0) (mF ps 0 z) c) 5 (0,0)))):=by
 have h:oE [] 43 [.sl 0 0 k k] [jB (ps.map (·.1))] [.cn w] (cP 1 λv bl ch=>bl=[jB (ps.map (·.1))]/\((eg ps 0=0/\v=.raw (.slice none 0 0))\/(0<eg ps 0/\∃F b c,(∀j,j<eg ps 0->F j=mF ps 0 z j)/\v=.raw (.slice (some ⟨b,0,none⟩) (eg ps 0) c)/\eg ps 0<=c/\ch=[.cn w,.row ⟨eg ps 0,F,b,c⟩]))):=by
  rw[show _=_ from hv _];exact Qs ps h1 hA (λh=>⟨rfl,.inl ⟨h,rfl⟩⟩) λF hF b c h0 hc=>⟨rfl,.inr ⟨h0,F,b,c,hF,rfl,hc,rfl⟩⟩
 have S:St [] w (lits [pb] [pb] [jB (ps.map (·.1))]++af [CG.cn w] []) w:=by
  have:=St.given (w:=w) ((pb,.cells (ab [] ((ps.map (·.1)).map jP)).toArray 23 (0,0))::w.heap.toList.zipIdx.map λp=>(p.2,p.1)) (by
   intro p h;rcases List.mem_cons.1 h with rfl|h
   ·exact hp
   obtain⟨q,hq,rfl⟩:=List.mem_map.1 h;have:=(List.mem_zipIdx_iff_getElem?.1 (show(q.1,q.2)∈w.heap.toList.zipIdx from hq));simpa using this)
  have e:ab [pb] ((ps.map (·.1)).map jP)=ab [] ((ps.map (·.1)).map jP):=by
   have:∀l:List (Nat×Nat×Nat×Nat),ab [pb] (l.map jP)=ab [] (l.map jP):=λl=>by
    induction l with
    |nil=>rfl
    |cons a l ih=>simp only[List.map_cons,ab,ih,jP,cl,den]
   exact this _
  simp only[lits,aE,jB,e];show St [] w (_::(du w++[])) w;rw[List.append_nil];unfold du;rw[List.map_cons,List.map_map (l:=w.heap.toList.zipIdx)]at this;exact this
 refine(bw (ai.nil (G:=CG) (P:=prog) (gl:=gv)).T (ai.nil (G:=CG) (P:=prog) (gl:=gv)).Q 60 (C:=mL prog gv [] ap8 Gq) (λg i h=>by cases h) rfl S h).mono ?_;rintro v w' ⟨x,more,bl',ch',rfl,h1,S',hK⟩;obtain⟨v2,aP,bl2,hv,gx,S2,rfl,Mx⟩:=c9 (n0:=1) h1 (by simp) S' hK;refine⟨S2.ch,?_⟩;rcases Mx with⟨h0,rfl⟩|⟨h0,F,b,c,hF,rfl,hc,rfl⟩
 ·exact .inl ⟨h0,hv⟩
 ·refine .inr ⟨h0,b,c,hv,hc,AO (l:=[.cn w]) S2,?_⟩;have:=qQ (l:=[.cn w]) S2;rw[this];congr 2;exact tn rfl hF
theorem JA (pb:Nat) (b0 o0 n0 c0:Nat) (f0:Nat->Int) (b1 o1 n1 c1:Nat) (f1:Nat->Int) (b2 o2 n2 c2:Nat) (f2:Nat->Int) (h0:0<n0) (hn:n0+n1+n2<=1000000) (w:World) (hp:w.heap[pb]?=some (.cells #[.slice (some ⟨b0,o0,none⟩) n0 c0,.slice (some ⟨b1,o1,none⟩) n1 c1,.slice (some ⟨b2,o2,none⟩) n2 c2] 23 (0,0))) (HF:eS w b0 o0 n0 f0) (Xj:eS w b1 o1 n1 f1) (hB2:eS w b2 o2 n2 f2):
 aj prog 43 #[.slice (some ⟨pb,0,none⟩) 3 3] w λv w1=>∃b c1,v=.slice (some ⟨b,0,none⟩) (n0+n1+n2) c1/\n0+n1+n2<=c1/\w.heap.size<=b/\w1.heap[b]?=some (.cells (dc (n0+n1+n2) (jS n0 n1 f0 f1 f2) c1) 5 (0,0))/\Ch [] w w1:=by
 let ps:List JP:=[((b0,o0,n0,c0),f0),((b1,o1,n1,c1),f1),((b2,o2,n2,c2),f2)]
 have et:eg ps 0=n0+n1+n2:=by show 0+n0+n1+n2=_;rw[Nat.zero_add]
 refine(Jz (k:=3) (ps:=ps) (z:=λ_=>0) (λK=>acW w K (b0,o0,n0,c0) (b1,o1,n1,c1) (b2,o2,n2,c2)) hp (by rw[et];exact hn) (λq hq=>by
  rcases List.mem_cons.1 hq with rfl|hq
  ·exact HF
  rcases List.mem_cons.1 hq with rfl|hq
  ·exact Xj
  rcases List.mem_cons.1 hq with rfl|hq
  ·exact hB2
  cases hq)).mono ?_
 rintro v w1 ⟨eZ,⟨h,_⟩|⟨_,b,c,rfl,h1,h2,h3⟩⟩
 ·omega
 ·have ec:mF ps 0 (λ_=>0)=jS n0 n1 f0 f1 f2:=by
   simp only[ps,mF,Nat.zero_add,lT 0];rfl
  rw[et]at h1 h3⊢;rw[ec]at h3;exact⟨b,c,rfl,h1,h2,h3,eZ⟩
theorem XA (pb:Nat) (b0 o0 n0 c0:Nat) (f0:Nat->Int) (b1 o1 n1 c1:Nat) (f1:Nat->Int) (b2 o2 n2 c2:Nat) (f2:Nat->Int) (b3 o3 n3 c3:Nat) (f3:Nat->Int) (h0:0<n0) (hn:n0+n1+n2+n3<=1000000) (w:World) (hp:w.heap[pb]?=some (.cells #[.slice (some ⟨b0,o0,none⟩) n0 c0,.slice (some ⟨b1,o1,none⟩) n1 c1,.slice (some ⟨b2,o2,none⟩) n2 c2,.slice (some ⟨b3,o3,none⟩) n3 c3] 23 (0,0))) (HF:eS w b0 o0 n0 f0) (Xj:eS w b1 o1 n1 f1) (hB2:eS w b2 o2 n2 f2) (hB3:eS w b3 o3 n3 f3):
 aj prog 43 #[.slice (some ⟨pb,0,none⟩) 4 4] w λv w1=>∃b c1,v=.slice (some ⟨b,0,none⟩) (n0+n1+n2+n3) c1/\n0+n1+n2+n3<=c1/\w.heap.size<=b/\w1.heap[b]?=some (.cells (dc (n0+n1+n2+n3) (Qc n0 n1 n2 f0 f1 f2 f3) c1) 5 (0,0))/\Ch [] w w1:=by
 let ps:List JP:=[((b0,o0,n0,c0),f0),((b1,o1,n1,c1),f1),((b2,o2,n2,c2),f2),((b3,o3,n3,c3),f3)]
 have et:eg ps 0=n0+n1+n2+n3:=by show 0+n0+n1+n2+n3=_;rw[Nat.zero_add]
 refine(Jz (k:=4) (ps:=ps) (z:=λ_=>0) (λK=>acX w K (b0,o0,n0,c0) (b1,o1,n1,c1) (b2,o2,n2,c2) (b3,o3,n3,c3)) hp (by rw[et];exact hn) (λq hq=>by
  rcases List.mem_cons.1 hq with rfl|hq
  ·exact HF
  rcases List.mem_cons.1 hq with rfl|hq
  ·exact Xj
  rcases List.mem_cons.1 hq with rfl|hq
  ·exact hB2
  rcases List.mem_cons.1 hq with rfl|hq
  ·exact hB3
  cases hq)).mono ?_
 rintro v w1 ⟨eZ,⟨h,_⟩|⟨_,b,c,rfl,h1,h2,h3⟩⟩
 ·omega
 ·have ec:mF ps 0 (λ_=>0)=Qc n0 n1 n2 f0 f1 f2 f3:=by
   simp only[ps,mF,Nat.zero_add,lT 0];rfl
  rw[et]at h1 h3⊢;rw[ec]at h3;exact⟨b,c,rfl,h1,h2,h3,eZ⟩
theorem Qt (pb:Nat) (b0 o0 n0 c0:Nat) (f0:Nat->Int) (b1 o1 n1 c1:Nat) (f1:Nat->Int) (h0:0<n1) (hn:n0+n1<=1000000) (w:World) (hp:w.heap[pb]?=some (.cells #[.slice (some ⟨b0,o0,none⟩) n0 c0,.slice (some ⟨b1,o1,none⟩) n1 c1] 23 (0,0))) (HF:eS w b0 o0 n0 f0) (Xj:eS w b1 o1 n1 f1):
 aj prog 43 #[.slice (some ⟨pb,0,none⟩) 2 2] w λv w1=>∃b c1,v=.slice (some ⟨b,0,none⟩) (n0+n1) c1/\n0+n1<=c1/\w.heap.size<=b/\w1.heap[b]?=some (.cells (dc (n0+n1) (bI n0 f0 f1) c1) 5 (0,0))/\Ch [] w w1:=by
 let ps:List JP:=[((b0,o0,n0,c0),f0),((b1,o1,n1,c1),f1)]
 have et:eg ps 0=n0+n1:=by show 0+n0+n1=_;rw[Nat.zero_add]
 refine(Jz (k:=2) (ps:=ps) (z:=λ_=>0) (λK=>acV w K (b0,o0,n0,c0) (b1,o1,n1,c1)) hp (by rw[et];exact hn) (λq hq=>by
  rcases List.mem_cons.1 hq with rfl|hq
  ·exact HF
  rcases List.mem_cons.1 hq with rfl|hq
  ·exact Xj
  cases hq)).mono ?_
 rintro v w1 ⟨eZ,⟨h,_⟩|⟨_,b,c,rfl,h1,h2,h3⟩⟩
 ·omega
 ·have ec:mF ps 0 (λ_=>0)=bI n0 f0 f1:=by
   simp only[ps,mF,Nat.zero_add,lT 0]
  rw[et]at h1 h3⊢;rw[ec]at h3;exact⟨b,c,rfl,h1,h2,h3,eZ⟩
def dq (kn:Nat) (kf:Nat->Int) (s n:Int):Nat->Int:=fA kn kf (1+1+4) (jS 1 1 (λ_=>78) (aq 1 (s%256)) (aq 4 (n%4294967296)))
def jk (y s r:Int) (nc:Nat->Int):Nat->Int:=Qc 1 1 1 (λ_=>y) (aq 1 (s%256)) (aq 1 (r%256)) nc
def eF (kn:Nat) (kf:Nat->Int) (s r:Int) (nc:Nat->Int):Nat->Int:=fA kn kf (1+1+1+8) (jk 80 s r nc)
def jl (kn:Nat) (kf:Nat->Int) (s r:Int) (nc:Nat->Int):Nat->Int:=fA kn kf (1+1+1+8) (jk 75 s r nc)
def cO (k:Nat->Int) (s:Int) (m:Nat) (f:Nat->Int):Nat->Int:=bI m f (fA 32 k (1+1+m) (jS 1 1 (λ_=>77) (aq 1 (s%256)) f))
def eV (k:Nat->Int) (s:Int) (m:Nat) (f:Nat->Int):Bool:=kq (m+8) f (cO k s m f)
theorem Qu (ka:Option Addr) (kn kc:Nat) (kf:Nat->Int) (s n:Int) (VT:1<=kn/\kn<=64) (hs:0<=s/\s<4294967296) (hn:0<=n/\n<4294967296) {tG:TypeId} (w:World) (hG:w.heap[1]?=some (.cells (ak .u32 64 aX) tG (0,0))) (hk:cz w ka kn kc kf):
 aj prog 15 #[.slice ka kn kc,.int .i64 s,.int .i64 n] w λv w1=>v=.agg (ak .u8 8 (dq kn kf s n))/\Ch [] w w1:=by
 have S0:=St.given (w:=w) [(1,.cells (ak .u32 64 aX) tG (0,0))] (all_cons hG (all_nil));refine dz Tryz.func15 rfl ?_;refine au (ax ?_);refine eD S0 (λb=>.pointer (some ⟨b,0,none⟩)) (.cells (ak .u8 8 (λ_=>0)) 38) ?_;intro de sH i_;refine aw (ag (au (ax ?_)));refine aa (.slice ka kn kc) ?_;refine eD i_ (λb=>.slice (some ⟨b,0,none⟩) 1 1) (.cells #[.int .u8 78] 5) ?_;intro iG Dn gw;refine aa (.int .i64 s) ?_;refine dh 44 #[.int .i64 s,.int .i64 1] ?_;refine(Xy s (by omega) _).mono ?_;rintro _ Tp ⟨uM,rfl,kG,AJ,Jv⟩;have uL:=gw.new Jv kG AJ;refine aa (.int .i64 n) ?_;refine dh 44 #[.int .i64 n,.int .i64 4] ?_;refine(akX n (by omega) _).mono ?_;rintro _ acY ⟨ag3,rfl,Mu,Qd,yK⟩;have acZ:=uL.new yK Mu Qd;refine eD acZ (λb=>.slice (some ⟨b,0,none⟩) 3 3) (.cells #[.slice (some ⟨iG,0,none⟩) 1 1,.slice (some ⟨uM,0,none⟩) 1 1,.slice (some ⟨ag3,0,none⟩) 4 4] 23) ?_;intro ag4 anq AP;refine dh 43 #[.slice (some ⟨ag4,0,none⟩) 3 3] ?_;refine(JA ag4 iG 0 1 1 (λ_=>78) uM 0 1 1 (aq 1 (s%256)) ag3 0 4 4 (aq 4 (n%4294967296)) (by omega) (by omega) _ (AP.at_ 0 _ rfl) (St.eK (N:=1) (f:=(λ_=>78)) (wr:=true) (t:=5) (fr:=(0,0)) AP 3) (St.eK (N:=1) (f:=(aq 1 (s%256))) (wr:=true) (t:=5) (fr:=(0,0)) AP 2) (St.eK (N:=4) (f:=(aq 4 (n%4294967296))) (wr:=true) (t:=5) (fr:=(0,0)) AP 1)).mono ?_;rintro _ akY ⟨XB,ac0,rfl,kH,Du,ac1,uK⟩;have AR:=AP.new uK Du ac1;refine dh 42 #[.slice ka kn kc,.slice (some ⟨XB,0,none⟩) (1+1+4) ac0] ?_;refine(acQ ka kn kc kf XB 0 (1+1+4) ac0 (jS 1 1 (λ_=>78) (aq 1 (s%256)) (aq 4 (n%4294967296))) (by omega) (by omega) _ (AR.at_ 6 _ rfl) (cz.quiet hk AR.ch) (St.FN (c:=ac0) (wr:=true) (t:=5) (fr:=(0,0)) AR 0)).mono ?_;rintro _ Xm ⟨rfl,yL⟩;have akZ:=AR.quiet yL;refine store_ akZ 5 (.agg (ak .u8 8 (fA kn kf (1+1+4) (jS 1 1 (λ_=>78) (aq 1 (s%256)) (aq 4 (n%4294967296)))))) de 0 ?_;intro anr XC;refine aw (ag (wp_ret ?_));refine gn rfl (fY [.cell 6 38] [.agg (ak .u8 8 (fA kn kf (1+1+4) (jS 1 1 (λ_=>78) (aq 1 (s%256)) (aq 4 (n%4294967296)))))] (.agg (ak .u8 8 (fA kn kf (1+1+4) (jS 1 1 (λ_=>78) (aq 1 (s%256)) (aq 4 (n%4294967296)))))) ⟨cU XC 5 8 de 0,trivial⟩) ?_;exact⟨by(unfold dq)<;>kernel_rfl,XC.ch⟩
theorem Qv (y s r:Int) (nc:Nat->Int) (hs:0<=s/\s<4294967296) (hr:0<=r/\r<4294967296) (w:World):
 aj prog 45 #[.int .u8 y,.int .i64 s,.int .i64 r,.agg (ak .u8 8 nc)] w λv w1=>∃b c1,v=.slice (some ⟨b,0,none⟩) (1+1+1+8) c1/\1+1+1+8<=c1/\w.heap.size<=b/\w1.heap[b]?=some (.cells (dc (1+1+1+8) (jk y s r nc) c1) 5 (0,0))/\Ch [] w w1:=by
 have S0:=St.nil [] w;refine dz Tryz.func45 rfl ?_;refine au (ax ?_);refine eD S0 (λb=>.pointer (some ⟨b,0,none⟩)) (.cells (ak .u8 8 nc) 38) ?_;intro de sH i_;refine aa (.slice none 0 0) ?_;refine aw (ag (au ?_));refine lE 7 [⟨0,λ_=>.int .u8 y,λ_=>[]⟩,⟨1,λids=>.slice (some ⟨(ids.getD 0 0),0,none⟩) 1 1,λids=>[((ids.getD 0 0),.cells #[.int .u8 y] 5 (0,0))]⟩,⟨0,λ_=>.int .i64 s,λ_=>[]⟩,⟨1,λids=>.slice (some ⟨(ids.getD 0 0),0,none⟩) 1 1,λids=>[((ids.getD 0 0),.cells #[.int .u8 ((aq 1 (s%256)) 0)] 5 (0,0))]⟩,⟨0,λ_=>.int .i64 r,λ_=>[]⟩,⟨1,λids=>.slice (some ⟨(ids.getD 0 0),0,none⟩) 1 1,λids=>[((ids.getD 0 0),.cells #[.int .u8 ((aq 1 (r%256)) 0)] 5 (0,0))]⟩,⟨0,λ_=>.slice (some ⟨de,0,none⟩) 8 8,λ_=>[]⟩] [[7,1,0],[7,1],[7,3,2],[7,3],[7,5,4],[7,5],[7,6],[8,7,1,0],[8,7,1],[8,7,3,2],[8,7,3],[8,5,4],[8,5],[8,7,6],[8,7],[9,0],[9,1],[9,2],[9,3],[9,4],[9,5],[9,6],[9,7],[9,8]] ?_ ?_
 ·refine step_cons sD ?_;refine step_cons ?_ ?_
  ·intro Tq Dn Gv ag5 MC;have Xr:Tq 9=.int .u8 y:=(Sp.dt (MC 0 9 (by kernel_rfl) (by kernel_rfl))).1;have MD:=i_.quiet Gv;refine kP ?_;refine mR [(9,.int .u8 y)] (eu Xr (iy)) ?_;have Dr:=MD.loc;refine Y.eD Dr (λb=>.slice (some ⟨b,0,none⟩) 1 1) (.cells #[.int .u8 y] 5) ?_;intro Xl acY qR;exact⟨qR.ch,Sp.eO [Xl] (all_cons (qR.qk Gv.size 0 (by kernel_rfl)) (all_nil))⟩
  refine step_cons sD ?_;refine step_cons ?_ ?_
  ·intro ak0 agT abg am0 ag6;have ac2:ak0 11=.int .i64 s:=(Sp.dt (ag6 2 11 (by kernel_rfl) (by kernel_rfl))).1;have AP:=i_.quiet abg;refine kP ?_;refine mR [(11,.int .i64 s)] (eu ac2 (iy)) ?_;have yM:=AP.loc;refine Y.dh 44 #[.int .i64 s,.int .i64 1] ?_;refine(Xy s (by omega) _).mono ?_;rintro _ ag7 ⟨ak1,rfl,kH,Du,wz⟩;have py:=yM.new wz kH Du;exact⟨py.ch,Sp.eO [ak1] (all_cons (py.qk abg.size 0 (by kernel_rfl)) (all_nil))⟩
  refine step_cons sD ?_;refine step_cons ?_ ?_
  ·intro ak2 Xm JB am1 ag8;have lU:ak2 13=.int .i64 r:=(Sp.dt (ag8 4 13 (by kernel_rfl) (by kernel_rfl))).1;have XD:=i_.quiet JB;refine kP ?_;refine mR [(13,.int .i64 r)] (eu lU (iy)) ?_;have ak3:=XD.loc;refine Y.dh 44 #[.int .i64 r,.int .i64 1] ?_;refine(Xy r (by omega) _).mono ?_;rintro _ ans ⟨ak4,rfl,tv,Qw,uN⟩;have ag9:=ak3.new uN tv Qw;exact⟨ag9.ch,Sp.eO [ak4] (all_cons (ag9.qk JB.size 0 (by kernel_rfl)) (all_nil))⟩
  refine step_cons sD ?_;exact jK
 intro Gw ac3 ag_ wD;have acH:Gw 0=.int .u8 y:=(Sp.dt (wD 0 (by kernel_rfl))).1;have ak5:=Sp.Ag (wD 1 (by kernel_rfl));obtain⟨ME,aha,ahb⟩:=ak5;have ak6:Gw 1=.slice (some ⟨ME,0,none⟩) 1 1:=aha;have ak7:∀zp∈([(ME,.cells #[.int .u8 y] 5 (0,0))]:List (Nat×Obj)),sH.heap.size<=zp.1/\ac3.heap[zp.1]?=some zp.2:=ahb;have Mw:Gw 2=.int .i64 s:=(Sp.dt (wD 2 (by kernel_rfl))).1;have acJ:=Sp.Ag (wD 3 (by kernel_rfl));obtain⟨lS,Qj,Qk⟩:=acJ;have acK:Gw 3=.slice (some ⟨lS,0,none⟩) 1 1:=Qj;have acL:∀zp∈([(lS,.cells #[.int .u8 ((aq 1 (s%256)) 0)] 5 (0,0))]:List (Nat×Obj)),sH.heap.size<=zp.1/\ac3.heap[zp.1]?=some zp.2:=Qk;have acM:Gw 4=.int .i64 r:=(Sp.dt (wD 4 (by kernel_rfl))).1;have ak8:=Sp.Ag (wD 5 (by kernel_rfl));obtain⟨AM,ahc,ahd⟩:=ak8;have ak9:Gw 5=.slice (some ⟨AM,0,none⟩) 1 1:=ahc;have ak_:∀zp∈([(AM,.cells #[.int .u8 ((aq 1 (r%256)) 0)] 5 (0,0))]:List (Nat×Obj)),sH.heap.size<=zp.1/\ac3.heap[zp.1]?=some zp.2:=ahd;have ala:Gw 6=.slice (some ⟨de,0,none⟩) 8 8:=(Sp.dt (wD 6 (by kernel_rfl))).1;have alb:=i_.ro ag_ (([(ME,.cells #[.int .u8 y] 5 (0,0))]++([(lS,.cells #[.int .u8 ((aq 1 (s%256)) 0)] 5 (0,0))]++[(AM,.cells #[.int .u8 ((aq 1 (r%256)) 0)] 5 (0,0))]))) (List.forall_mem_append.2 ⟨ak7,List.forall_mem_append.2 ⟨acL,ak_⟩⟩);refine⟨[.int .u8 y,.slice (some ⟨ME,0,none⟩) 1 1,.int .i64 s,.slice (some ⟨lS,0,none⟩) 1 1,.int .i64 r,.slice (some ⟨AM,0,none⟩) 1 1,.slice (some ⟨de,0,none⟩) 8 8],by kernel_rfl,aL acH (aL ak6 (aL Mw (aL acK (aL acM (aL ak9 (aL ala (sO))))))),?_⟩;refine eD alb (λb=>.slice (some ⟨b,0,none⟩) 4 4) (.cells #[.slice (some ⟨ME,0,none⟩) 1 1,.slice (some ⟨lS,0,none⟩) 1 1,.slice (some ⟨AM,0,none⟩) 1 1,.slice (some ⟨de,0,none⟩) 8 8] 23) ?_;intro ahe ant MF;refine dh 43 #[.slice (some ⟨ahe,0,none⟩) 4 4] ?_;refine(XA ahe ME 0 1 1 (λ_=>y) lS 0 1 1 (aq 1 (s%256)) AM 0 1 1 (aq 1 (r%256)) de 0 8 8 nc (by omega) (by omega) _ (MF.at_ 0 _ rfl) (St.eK (N:=1) (f:=(λ_=>y)) (wr:=false) (t:=5) (fr:=(0,0)) MF 1) (St.eK (N:=1) (f:=(aq 1 (s%256))) (wr:=false) (t:=5) (fr:=(0,0)) MF 2) (St.eK (N:=1) (f:=(aq 1 (r%256))) (wr:=false) (t:=5) (fr:=(0,0)) MF 3) (St.eK (N:=8) (f:=nc) (wr:=true) (t:=38) (fr:=(0,0)) MF 4)).mono ?_;rintro _ anu ⟨ac4,Qx,rfl,alc,ac5,ac6,acO⟩;have ac7:=MF.new acO ac5 ac6;refine bJ ?_;refine aw (ag (wp_ret ?_));refine gn rfl (fY [.tmp 8] [.slice (some ⟨ac4,0,none⟩) (1+1+1+8) Qx] (.slice (some ⟨ac4,0,none⟩) (1+1+1+8) Qx) ⟨cM,trivial⟩) ?_;have ze:dc (1+1+1+8) (Qc 1 1 1 (λ_=>y) (aq 1 (s%256)) (aq 1 (r%256)) nc) Qx=dc (1+1+1+8) (jk y s r nc) Qx:=by kernel_rfl
 exact⟨ac4,Qx,by rw[show(1+1+1+8)=1+1+1+8 by omega],by have:=alc;omega,(ac7.own 0 _ rfl rfl).resolve_left (by simp),by rw[<-ze];exact ac7.at_ 0 _ rfl,ac7.ch⟩
theorem JC (ka:Option Addr) (kn kc:Nat) (kf:Nat->Int) (s r:Int) (nc:Nat->Int) (VT:1<=kn/\kn<=64) (hs:0<=s/\s<4294967296) (hr:0<=r/\r<4294967296) {tG:TypeId} (w:World) (hG:w.heap[1]?=some (.cells (ak .u32 64 aX) tG (0,0))) (hk:cz w ka kn kc kf):
 aj prog 16 #[.slice ka kn kc,.int .i64 s,.int .i64 r,.agg (ak .u8 8 nc)] w λv w1=>v=.agg (ak .u8 8 (eF kn kf s r nc))/\Ch [] w w1:=by
 have S0:=St.given (w:=w) [(1,.cells (ak .u32 64 aX) tG (0,0))] (all_cons hG (all_nil));refine dz Tryz.func16 rfl ?_;refine au (ax ?_);refine eD S0 (λb=>.pointer (some ⟨b,0,none⟩)) (.cells (ak .u8 8 nc) 38) ?_;intro de sH i_;refine eD i_ (λb=>.pointer (some ⟨b,0,none⟩)) (.cells (ak .u8 8 (λ_=>0)) 38) ?_;intro iG Dn gw;refine aw (ag (au (ax ?_)));refine aa (.slice ka kn kc) ?_;refine aa (.int .i64 s) ?_;refine aa (.int .i64 r) ?_;refine eC gw 1 8 (ak .u8 8 nc) de 0 ?_;refine dh 45 #[.int .u8 80,.int .i64 s,.int .i64 r,.agg (ak .u8 8 nc)] ?_;refine(Qv 80 s r nc (by omega) (by omega) _).mono ?_;rintro _ Tp ⟨uM,Gx,rfl,AJ,oD,yK,Jv⟩;have uL:=gw.new Jv oD yK;refine dh 42 #[.slice ka kn kc,.slice (some ⟨uM,0,none⟩) (1+1+1+8) Gx] ?_;refine(acQ ka kn kc kf uM 0 (1+1+1+8) Gx (jk 80 s r nc) (by omega) (by omega) _ (uL.at_ 3 _ rfl) (cz.quiet hk uL.ch) (St.FN (c:=Gx) (wr:=true) (t:=5) (fr:=(0,0)) uL 0)).mono ?_;rintro _ Mt ⟨rfl,k7⟩;have uI:=uL.quiet k7;refine store_ uI 1 (.agg (ak .u8 8 (fA kn kf (1+1+1+8) (jk 80 s r nc)))) iG 0 ?_;intro Gm tu;refine aw (ag (wp_ret ?_));refine gn rfl (fY [.cell 8 38] [.agg (ak .u8 8 (fA kn kf (1+1+1+8) (jk 80 s r nc)))] (.agg (ak .u8 8 (fA kn kf (1+1+1+8) (jk 80 s r nc)))) ⟨cU tu 1 8 iG 0,trivial⟩) ?_;exact⟨by(unfold eF)<;>kernel_rfl,tu.ch⟩
theorem abh (ka:Option Addr) (kn kc:Nat) (kf:Nat->Int) (s r:Int) (nc:Nat->Int) (VT:1<=kn/\kn<=64) (hs:0<=s/\s<4294967296) (hr:0<=r/\r<4294967296) {tG:TypeId} (w:World) (hG:w.heap[1]?=some (.cells (ak .u32 64 aX) tG (0,0))) (hk:cz w ka kn kc kf):
 aj prog 37 #[.slice ka kn kc,.int .i64 s,.int .i64 r,.agg (ak .u8 8 nc)] w λv w1=>v=.agg (ak .u8 32 (jl kn kf s r nc))/\Ch [] w w1:=by
 have S0:=St.given (w:=w) [(1,.cells (ak .u32 64 aX) tG (0,0))] (all_cons hG (all_nil));refine dz Tryz.func37 rfl ?_;refine au (ax ?_);refine eD S0 (λb=>.pointer (some ⟨b,0,none⟩)) (.cells (ak .u8 8 nc) 38) ?_;intro de sH i_;refine eD i_ (λb=>.pointer (some ⟨b,0,none⟩)) (.cells (ak .u8 32 (λ_=>0)) 37) ?_;intro iG Dn gw;refine aw (ag (au (ax ?_)));refine aa (.slice ka kn kc) ?_;refine aa (.int .i64 s) ?_;refine aa (.int .i64 r) ?_;refine eC gw 1 8 (ak .u8 8 nc) de 0 ?_;refine dh 45 #[.int .u8 75,.int .i64 s,.int .i64 r,.agg (ak .u8 8 nc)] ?_;refine(Qv 75 s r nc (by omega) (by omega) _).mono ?_;rintro _ Tp ⟨uM,Gx,rfl,AJ,oD,yK,Jv⟩;have uL:=gw.new Jv oD yK;refine dh 67 #[.slice ka kn kc,.slice (some ⟨uM,0,none⟩) (1+1+1+8) Gx] ?_;refine(VS ka kn kc kf uM 0 (1+1+1+8) Gx (jk 75 s r nc) (by omega) (by omega) _ (uL.at_ 3 _ rfl) (cz.quiet hk uL.ch) (St.FN (c:=Gx) (wr:=true) (t:=5) (fr:=(0,0)) uL 0)).mono ?_;rintro _ Mt ⟨rfl,k7⟩;have uI:=uL.quiet k7;refine store_ uI 1 (.agg (ak .u8 32 (fA kn kf (1+1+1+8) (jk 75 s r nc)))) iG 0 ?_;intro Gm tu;refine aw (ag (wp_ret ?_));refine gn rfl (fY [.cell 8 37] [.agg (ak .u8 32 (fA kn kf (1+1+1+8) (jk 75 s r nc)))] (.agg (ak .u8 32 (fA kn kf (1+1+1+8) (jk 75 s r nc)))) ⟨cU tu 1 32 iG 0,trivial⟩) ?_;exact⟨by(unfold jl)<;>kernel_rfl,tu.ch⟩
theorem close_ (k:Nat->Int) (s:Int) (b o m c:Nat) (f:Nat->Int) (hm:m<=50) (hs:0<=s/\s<4294967296) {tG:TypeId} (w:World) (hG:w.heap[1]?=some (.cells (ak .u32 64 aX) tG (0,0))) (hB:eS w b o m f):
 aj prog 47 #[.agg (ak .u8 32 k),.int .i64 s,.slice (some ⟨b,o,none⟩) m c] w λv w1=>∃b c1,v=.slice (some ⟨b,0,none⟩) (m+8) c1/\m+8<=c1/\w.heap.size<=b/\w1.heap[b]?=some (.cells (dc (m+8) (cO k s m f) c1) 5 (0,0))/\Ch [] w w1:=by
 have S0:=St.given (w:=w) [(1,.cells (ak .u32 64 aX) tG (0,0))] (all_cons hG (all_nil));refine dz Tryz.func47 rfl ?_;refine au (ax ?_);refine eD S0 (λb=>.pointer (some ⟨b,0,none⟩)) (.cells (ak .u8 32 k) 37) ?_;intro de sH i_;refine aa (.slice none 0 0) ?_;refine aw (ag (au ?_));refine lE 9 [⟨0,λ_=>.slice (some ⟨de,0,none⟩) 32 32,λ_=>[]⟩,⟨1,λids=>.slice (some ⟨(ids.getD 0 0),0,none⟩) 1 1,λids=>[((ids.getD 0 0),.cells #[.int .u8 77] 5 (0,0))]⟩,⟨0,λ_=>.int .i64 s,λ_=>[]⟩,⟨1,λids=>.slice (some ⟨(ids.getD 0 0),0,none⟩) 1 1,λids=>[((ids.getD 0 0),.cells #[.int .u8 ((aq 1 (s%256)) 0)] 5 (0,0))]⟩,⟨0,λ_=>.slice (some ⟨b,o,none⟩) m c,λ_=>[]⟩,⟨3,λids=>.slice (some ⟨(ids.getD 0 0),0,none⟩) 3 3,λids=>[((ids.getD 0 0),.cells #[.slice (some ⟨(ids.getD 1 0),0,none⟩) 1 1,.slice (some ⟨(ids.getD 2 0),0,none⟩) 1 1,.slice (some ⟨b,o,none⟩) m c] 23 (0,0)),((ids.getD 1 0),.cells #[.int .u8 77] 5 (0,0)),((ids.getD 2 0),.cells #[.int .u8 ((aq 1 (s%256)) 0)] 5 (0,0))]⟩,⟨2,λids=>.slice (some ⟨(ids.getD 0 0),0,none⟩) (1+1+m) (ids.getD 1 0),λids=>[((ids.getD 0 0),.cells (dc (1+1+m) (jS 1 1 (λ_=>77) (aq 1 (s%256)) f) (ids.getD 1 0)) 5 (0,0))]⟩,⟨0,λ_=>.agg (ak .u8 8 (fA 32 k (1+1+m) (jS 1 1 (λ_=>77) (aq 1 (s%256)) f))),λ_=>[]⟩,⟨1,λids=>.pointer (some ⟨(ids.getD 0 0),0,none⟩),λids=>[((ids.getD 0 0),.cells (ak .u8 8 (λ_=>0)) 38 (0,0))]⟩] [[9,0],[9,1],[9,2],[9,3],[9,4],[9,5],[9,6],[9,7],[9,8]] ?_ ?_
 ·refine step_cons sD ?_;refine step_cons ?_ ?_
  ·intro Tq Dn Gv ag5 MC;have uL:=i_.quiet Gv;refine kP ?_;refine mR [] (iy) ?_;have MD:=uL.loc;refine Y.eD MD (λb=>.slice (some ⟨b,0,none⟩) 1 1) (.cells #[.int .u8 77] 5) ?_;intro ald acR Gp;exact⟨Gp.ch,Sp.eO [ald] (all_cons (Gp.qk Gv.size 0 (by kernel_rfl)) (all_nil))⟩
  refine step_cons sD ?_;refine step_cons ?_ ?_
  ·intro ale Mt abi am2 ahf;have Dq:ale 10=.int .i64 s:=(Sp.dt (ahf 2 10 (by kernel_rfl) (by kernel_rfl))).1;have uJ:=i_.quiet abi;refine kP ?_;refine mR [(10,.int .i64 s)] (eu Dq (iy)) ?_;have AP:=uJ.loc;refine Y.dh 44 #[.int .i64 s,.int .i64 1] ?_;refine(Xy s (by omega) _).mono ?_;rintro _ akY ⟨XB,rfl,tz,kH,uK⟩;have AR:=AP.new uK tz kH;exact⟨AR.ch,Sp.eO [XB] (all_cons (AR.qk abi.size 0 (by kernel_rfl)) (all_nil))⟩
  refine step_cons sD ?_;refine step_cons ?_ ?_
  ·intro ac8 XE abj am3 Qy;have alf:=Sp.Ag (Qy 1 9 (by kernel_rfl) (by kernel_rfl));obtain⟨MG,ahg,ahh⟩:=alf;have XF:ac8 9=.slice (some ⟨MG,0,none⟩) 1 1:=ahg;have ahi:∀zp∈([(MG,.cells #[.int .u8 77] 5 (0,0))]:List (Nat×Obj)),sH.heap.size<=zp.1/\XE.heap[zp.1]?=some zp.2:=ahh;have alg:=Sp.Ag (Qy 3 11 (by kernel_rfl) (by kernel_rfl));obtain⟨MH,ahj,ahk⟩:=alg;have AS:ac8 11=.slice (some ⟨MH,0,none⟩) 1 1:=ahj;have ahl:∀zp∈([(MH,.cells #[.int .u8 ((aq 1 (s%256)) 0)] 5 (0,0))]:List (Nat×Obj)),sH.heap.size<=zp.1/\XE.heap[zp.1]?=some zp.2:=ahk;have tv:ac8 12=.slice (some ⟨b,o,none⟩) m c:=(Sp.dt (Qy 4 12 (by kernel_rfl) (by kernel_rfl))).1;have alh:=i_.ro abj (([(MG,.cells #[.int .u8 77] 5 (0,0))]++[(MH,.cells #[.int .u8 ((aq 1 (s%256)) 0)] 5 (0,0))])) (List.forall_mem_append.2 ⟨ahi,ahl⟩);refine kP ?_;refine mR [(9,.slice (some ⟨MG,0,none⟩) 1 1),(11,.slice (some ⟨MH,0,none⟩) 1 1),(12,.slice (some ⟨b,o,none⟩) m c)] (eu XF (eu AS (eu tv (iy)))) ?_;have ali:=alh.loc;refine Y.eD ali (λb=>.slice (some ⟨b,0,none⟩) 3 3) (.cells #[.slice (some ⟨MG,0,none⟩) 1 1,.slice (some ⟨MH,0,none⟩) 1 1,.slice (some ⟨b,o,none⟩) m c] 23) ?_;intro alj anv Dv;exact⟨Dv.ch,Sp.eO [alj,MG,MH] (all_cons (Dv.qk abj.size 0 (by kernel_rfl)) (all_cons (Dv.aa5 1 (ahi _ (List.Mem.head _)).1 false (by kernel_rfl)) (all_cons (Dv.aa5 2 (ahl _ (List.Mem.head _)).1 false (by kernel_rfl)) (all_nil))))⟩
  refine step_cons ?_ ?_
  ·intro alk alm abk am4 ahm;have aln:=Sp.agq (ahm 5 13 (by kernel_rfl) (by kernel_rfl));obtain⟨MI,lS,Qz,ahn,aho⟩:=aln;have Mw:alk 13=.slice (some ⟨MI,0,none⟩) 3 3:=ahn;have alo:∀zp∈([(MI,.cells #[.slice (some ⟨lS,0,none⟩) 1 1,.slice (some ⟨Qz,0,none⟩) 1 1,.slice (some ⟨b,o,none⟩) m c] 23 (0,0)),(lS,.cells #[.int .u8 77] 5 (0,0)),(Qz,.cells #[.int .u8 ((aq 1 (s%256)) 0)] 5 (0,0))]:List (Nat×Obj)),sH.heap.size<=zp.1/\alm.heap[zp.1]?=some zp.2:=aho;have Xn:=i_.ro abk ([(MI,.cells #[.slice (some ⟨lS,0,none⟩) 1 1,.slice (some ⟨Qz,0,none⟩) 1 1,.slice (some ⟨b,o,none⟩) m c] 23 (0,0)),(lS,.cells #[.int .u8 77] 5 (0,0)),(Qz,.cells #[.int .u8 ((aq 1 (s%256)) 0)] 5 (0,0))]) (alo);refine kP ?_;refine mR [(13,.slice (some ⟨MI,0,none⟩) 3 3)] (eu Mw (iy)) ?_;have QA:=Xn.loc;refine Y.dh 43 #[.slice (some ⟨MI,0,none⟩) 3 3] ?_;refine(JA MI lS 0 1 1 (λ_=>77) Qz 0 1 1 (aq 1 (s%256)) b o m c f (by omega) (by omega) _ (QA.at_ 0 _ rfl) (St.eK (N:=1) (f:=(λ_=>77)) (wr:=false) (t:=5) (fr:=(0,0)) QA 1) (St.eK (N:=1) (f:=(aq 1 (s%256))) (wr:=false) (t:=5) (fr:=(0,0)) QA 2) (St.mC QA (St.mC Xn hB (by simp)) (by simp))).mono ?_;rintro _ akQ ⟨alp,alq,rfl,anw,alr,ag0,als⟩;have ahp:=QA.new als alr ag0;exact⟨ahp.ch,Sp.eO [alp,alq] (all_cons (ahp.qk abk.size 0 (by kernel_rfl)) (all_nil))⟩
  refine step_cons ?_ ?_
  ·intro ahq alu ahr am5 abl;have ac5:ahq 8=.slice (some ⟨de,0,none⟩) 32 32:=(Sp.dt (abl 0 8 (by kernel_rfl) (by kernel_rfl))).1;have alv:=Sp.agp (abl 6 14 (by kernel_rfl) (by kernel_rfl));obtain⟨MJ,Gy,ahs,aht⟩:=alv;have ac6:ahq 14=.slice (some ⟨MJ,0,none⟩) (1+1+m) Gy:=ahs;have alw:∀zp∈([(MJ,.cells (dc (1+1+m) (jS 1 1 (λ_=>77) (aq 1 (s%256)) f) Gy) 5 (0,0))]:List (Nat×Obj)),sH.heap.size<=zp.1/\alu.heap[zp.1]?=some zp.2:=aht;have alx:=i_.ro ahr ([(MJ,.cells (dc (1+1+m) (jS 1 1 (λ_=>77) (aq 1 (s%256)) f) Gy) 5 (0,0))]) (alw);refine kP ?_;refine mR [(8,.slice (some ⟨de,0,none⟩) 32 32),(14,.slice (some ⟨MJ,0,none⟩) (1+1+m) Gy)] (eu ac5 (eu ac6 (iy))) ?_;have XG:=alx.loc;refine Y.dh 42 #[.slice (some ⟨de,0,none⟩) 32 32,.slice (some ⟨MJ,0,none⟩) (1+1+m) Gy] ?_;refine(acQ (some ⟨de,0,none⟩) 32 32 k MJ 0 (1+1+m) Gy (jS 1 1 (λ_=>77) (aq 1 (s%256)) f) (by omega) (by omega) _ (XG.at_ 2 _ rfl) (cz.of8 (St.eK (N:=32) (f:=k) (wr:=false) (t:=37) (fr:=(0,0)) XG 1) (by omega) (by omega)) (St.FN (c:=Gy) (wr:=false) (t:=5) (fr:=(0,0)) XG 0)).mono ?_;rintro _ anx ⟨rfl,aly⟩;have alz:=XG.quiet aly;exact⟨alz.ch,Sp.eO [] (all_nil)⟩
  refine step_cons ?_ ?_
  ·intro anz anA abm am6 am7;have alA:=i_.quiet abm;refine kP ?_;refine mR [] (iy) ?_;have alB:=alA.loc;refine Y.eD alB (λb=>.pointer (some ⟨b,0,none⟩)) (.cells (ak .u8 8 (λ_=>0)) 38) ?_;intro alC anB ahu;exact⟨ahu.ch,Sp.eO [alC] (all_cons (ahu.qk abm.size 0 (by kernel_rfl)) (all_nil))⟩
  exact jK
 intro AT QB ahv qS;have alD:AT 0=.slice (some ⟨de,0,none⟩) 32 32:=(Sp.dt (qS 0 (by kernel_rfl))).1;have ahw:=Sp.Ag (qS 1 (by kernel_rfl));obtain⟨QC,ahx,ac9⟩:=ahw;have alE:AT 1=.slice (some ⟨QC,0,none⟩) 1 1:=ahx;have am8:∀zp∈([(QC,.cells #[.int .u8 77] 5 (0,0))]:List (Nat×Obj)),sH.heap.size<=zp.1/\QB.heap[zp.1]?=some zp.2:=ac9;have ahy:AT 2=.int .i64 s:=(Sp.dt (qS 2 (by kernel_rfl))).1;have ahz:=Sp.Ag (qS 3 (by kernel_rfl));obtain⟨QD,ac_,ada⟩:=ahz;have ahA:AT 3=.slice (some ⟨QD,0,none⟩) 1 1:=ac_;have am9:∀zp∈([(QD,.cells #[.int .u8 ((aq 1 (s%256)) 0)] 5 (0,0))]:List (Nat×Obj)),sH.heap.size<=zp.1/\QB.heap[zp.1]?=some zp.2:=ada;have ahB:AT 4=.slice (some ⟨b,o,none⟩) m c:=(Sp.dt (qS 4 (by kernel_rfl))).1;have ahC:=Sp.agq (qS 5 (by kernel_rfl));obtain⟨QE,abn,abo,adb,ade⟩:=ahC;have ahD:AT 5=.slice (some ⟨QE,0,none⟩) 3 3:=adb;have am_:∀zp∈([(QE,.cells #[.slice (some ⟨abn,0,none⟩) 1 1,.slice (some ⟨abo,0,none⟩) 1 1,.slice (some ⟨b,o,none⟩) m c] 23 (0,0)),(abn,.cells #[.int .u8 77] 5 (0,0)),(abo,.cells #[.int .u8 ((aq 1 (s%256)) 0)] 5 (0,0))]:List (Nat×Obj)),sH.heap.size<=zp.1/\QB.heap[zp.1]?=some zp.2:=ade;have ahE:=Sp.agp (qS 6 (by kernel_rfl));obtain⟨QI,QJ,adf,adg⟩:=ahE;have ahF:AT 6=.slice (some ⟨QI,0,none⟩) (1+1+m) QJ:=adf;have ana:∀zp∈([(QI,.cells (dc (1+1+m) (jS 1 1 (λ_=>77) (aq 1 (s%256)) f) QJ) 5 (0,0))]:List (Nat×Obj)),sH.heap.size<=zp.1/\QB.heap[zp.1]?=some zp.2:=adg;have ahG:AT 7=.agg (ak .u8 8 (fA 32 k (1+1+m) (jS 1 1 (λ_=>77) (aq 1 (s%256)) f))):=(Sp.dt (qS 7 (by kernel_rfl))).1;have ahH:=Sp.Ag (qS 8 (by kernel_rfl));obtain⟨wF,adh,adi⟩:=ahH;have ahI:AT 8=.pointer (some ⟨wF,0,none⟩):=adh;have abp:∀zp∈([(wF,.cells (ak .u8 8 (λ_=>0)) 38 (0,0))]:List (Nat×Obj)),sH.heap.size<=zp.1/\QB.heap[zp.1]?=some zp.2:=adi;have ahJ:=i_.new ahv (abp _ (List.Mem.head _)).1 (abp _ (List.Mem.head _)).2;refine⟨[.slice (some ⟨de,0,none⟩) 32 32,.slice (some ⟨QC,0,none⟩) 1 1,.int .i64 s,.slice (some ⟨QD,0,none⟩) 1 1,.slice (some ⟨b,o,none⟩) m c,.slice (some ⟨QE,0,none⟩) 3 3,.slice (some ⟨QI,0,none⟩) (1+1+m) QJ,.agg (ak .u8 8 (fA 32 k (1+1+m) (jS 1 1 (λ_=>77) (aq 1 (s%256)) f))),.pointer (some ⟨wF,0,none⟩)],by kernel_rfl,aL alD (aL alE (aL ahy (aL ahA (aL ahB (aL ahD (aL ahF (aL ahG (aL ahI (sO))))))))),?_⟩;refine store_ ahJ 0 (.agg (ak .u8 8 (fA 32 k (1+1+m) (jS 1 1 (λ_=>77) (aq 1 (s%256)) f)))) wF 0 ?_;intro anb ahK;refine aw (ag (au (ax ?_)));refine bY ?_;refine aa (.slice (some ⟨wF,0,none⟩) 8 8) ?_;refine eD ahK (λb=>.slice (some ⟨b,0,none⟩) 2 2) (.cells #[.slice (some ⟨b,o,none⟩) m c,.slice (some ⟨wF,0,none⟩) 8 8] 23) ?_;intro abq anc JD;refine dh 43 #[.slice (some ⟨abq,0,none⟩) 2 2] ?_;refine(Qt abq b o m c f wF 0 8 8 (fA 32 k (1+1+m) (jS 1 1 (λ_=>77) (aq 1 (s%256)) f)) (by omega) (by omega) _ (JD.at_ 0 _ rfl) (St.mC JD hB (by simp)) (St.eK (N:=8) (f:=(fA 32 k (1+1+m) (jS 1 1 (λ_=>77) (aq 1 (s%256)) f))) (wr:=true) (t:=38) (fr:=(0,0)) JD 1)).mono ?_;rintro _ ane ⟨QK,Dw,rfl,ahL,ahM,ahN,ahO⟩;have QM:=JD.new ahO ahM ahN;refine bJ ?_;refine aw (ag (wp_ret ?_));refine gn rfl (fY [.tmp 6] [.slice (some ⟨QK,0,none⟩) (m+8) Dw] (.slice (some ⟨QK,0,none⟩) (m+8) Dw) ⟨cM,trivial⟩) ?_;have ze:dc (m+8) (bI m f (fA 32 k (1+1+m) (jS 1 1 (λ_=>77) (aq 1 (s%256)) f))) Dw=dc (m+8) (cO k s m f) Dw:=by kernel_rfl
 exact⟨QK,Dw,by rw[show(m+8)=m+8 by omega],by have:=ahL;omega,(QM.own 0 _ rfl rfl).resolve_left (by simp),by rw[<-ze];exact QM.at_ 0 _ rfl,QM.ch⟩
def QN:gm CG:=λargs bl ch K=>match args,ch with
 |[.raw (.slice (some ⟨b,o,none⟩) n c),.raw (.slice (some ⟨b2,o2,none⟩) n2 c2)],.cn u::_=>(match zq ch with
  |some (l,r)=>∃f g:Nat->Int,(eS u b o n f/\b2=r.b/\n=n2/\o2+n2<=r.n/\n<=1000000/\∀j,j<n->Xs o2 r.f j=g j)/\K (.bool (kq n f g)) bl ch
  |none=>False)
 |_,_=>False
def wG:gm CG:=λargs bl ch K=>match args,ch with
 |[.agg l,.int .i64 s,.raw (.slice (some ⟨b,o,none⟩) n c)],.cn u::_=>(match kI l with
  |some r=>∃f k:Nat->Int,(eS u b o n f/\n<=50/\(0<=s/\s<4294967296)/\(∃tG,u.heap[1]?=some (.cells (ak .u32 64 aX) tG (0,0)))/\r.length=32/\∀j,j<32->gT r j=k j)/\∀b' c',n+8<=c'->K (.raw (.slice (some ⟨b',0,none⟩) (n+8) c')) bl (ch++[.row ⟨n+8,cO k s n f,b',c'⟩])
  |none=>False)
 |_,_=>False
def Dx:gm CG:=λargs bl ch K=>match args,ch with
 |[.sl i 0 1 1],.cn u::_=>(match bl[i]?with
  |some ⟨_,⟨23,(0,0)⟩,[.raw (.slice (some ⟨b,o,none⟩) n c)]⟩=>∃f,(eS u b o n f/\n<=1000000)/\(n=0->K (.raw (.slice none 0 0)) bl ch)/\(0<n->∀b' c',n<=c'->K (.raw (.slice (some ⟨b',0,none⟩) n c')) bl (ch++[.row ⟨n,f,b',c'⟩]))
  |_=>False)
 |_,_=>False
theorem JE {w:World} {r:R8} {o m:Nat} (h:w.heap[r.b]?=some (.cells (dc r.n r.f r.c) 5 (0,0))) (hm:o+m<=r.n):eS w r.b o m (Xs o r.f):=λj hj=>by
 rw[cell_of h,Qn];unfold dc;simp only[List.getElem?_toArray];rw[List.getElem?_append_left (by rw[bQ];omega)];exact je _ (by omega)
theorem eS.cg {w:World} {b o n:Nat} {f g:Nat->Int} (h:eS w b o n f) (e:∀j,j<n->f j=g j):eS w b o n g:=λj hj=>by rw[h j hj,e j hj]
theorem qT {ids:List Nat} {bl:List VB} {u:World} {rest:List CG} {R:List av} {y:av} (h:y∈du u):y∈lits ids ids bl++af (CG.cn u::rest) R:=List.mem_append_right _ (List.mem_append_left _ h)
theorem wH {ids:List Nat} {bl:List VB} {u w w0:World} {rest:List CG} {R:List av} {ms:List Nat} (S:St ms w0 (lits ids ids bl++af (CG.cn u::rest) R) w) {i:Nat} {o:Obj} (h:u.heap[i]?=some o):w.heap[i]?=some o:=S.at' (x:=⟨i,false,o⟩) (qT (qO h))
theorem MK {gl:Nat->Option Nat}:Sound prog gl 192 QN:=by
 intro args ids bl ch R ms w0 w K hg hl S hc;unfold QN at hc;split at hc
 ·rename_i b o n c b2 o2 n2 c2 u rest;split at hc
  ·rename_i l r hlr;obtain⟨f,g,⟨h8,rfl,rfl,hle,hn,hgj⟩,hK⟩:=hc;have S1:=S;rw[qP hlr]at S1;refine(abe b o n c r.b o2 c2 f g hn w (vh S (λy hy=>qT hy) h8) (eS.cg (JE (qQ S1) hle) hgj)).mono ?_;rintro v w' ⟨rfl,eZ⟩;exact⟨.bool (kq n f g),[],bl,_,rfl,by simpa using hl,by simpa using S.quiet eZ,hK⟩
  ·exact hc.elim
 ·exact hc.elim
theorem ML:cT QN:=by
 intro args bl ch K hc;unfold QN at hc⊢;split at hc
 ·split at hc
  ·obtain⟨f,g,h,hK⟩:=hc;rename_i e;try simp only[e]
   exact⟨f,g,h,hK,[],by simp⟩
  ·exact hc.elim
 ·exact hc.elim
theorem JF {ids:List Nat} {bl:List VB} {ch:List CG} {R:List av} {ms:List Nat} {w0 w w':World} {n b c:Nat} {f:Nat->Int} (S:St ms w0 (lits ids ids bl++af ch R) w) (eZ:Ch [] w w') (jI:w.heap.size<=b) (ba:w'.heap[b]?=some (.cells (dc n f c) 5 (0,0))):St ms w0 (lits ids ids bl++af (ch++[.row ⟨n,f,b,c⟩]) R) w':=by
 rw[kZ];rw[pr]at S;exact S.yE (bl':=[⟨b,true,.cells (dc n f c) 5 (0,0)⟩]) (λy hy=>nomatch hy) eZ (λy hy=>by
  obtain rfl:=List.mem_singleton.1 hy;exact ba) (λy hy=>by
  obtain rfl:=List.mem_singleton.1 hy;exact .inr jI) (by simp)
theorem Dy {gl:Nat->Option Nat}:Sound prog gl 47 wG:=by
 intro args ids bl ch R ms w0 w K hg hl S hc;unfold wG at hc;split at hc
 ·rename_i l s b o n c u rest;split at hc
  ·rename_i r hr;obtain⟨f,k,⟨h8,hn,hs,⟨tG,hG⟩,hq,hk⟩,hK⟩:=hc;have ea:(ao ids [.agg l,.int .i64 s,.raw (.slice (some ⟨b,o,none⟩) n c)]).toArray=#[.agg (ak .u8 32 k),.int .i64 s,.slice (some ⟨b,o,none⟩) n c]:=by
    simp only[ao,den,jw ids hr,hq];rw[kR hk];rfl
   rw[ea];refine(close_ k s b o n c f hn hs w (wH S hG) (vh S (λy hy=>qT hy) h8)).mono ?_;rintro v w' ⟨b2,c2,rfl,hle,jI,ba,eZ⟩;exact⟨_,[],bl,_,rfl,by simpa using hl,by simpa using JF S eZ jI ba,hK b2 c2 hle⟩
  ·exact hc.elim
 ·exact hc.elim
theorem Dz:cT wG:=by
 intro args bl ch K hc;unfold wG at hc⊢;split at hc
 ·split at hc
  ·obtain⟨f,k,h,hK⟩:=hc;exact⟨f,k,h,λb c h=>⟨hK b c h,[],by simp⟩⟩
  ·exact hc.elim
 ·exact hc.elim
theorem Gz {gl:Nat->Option Nat}:Sound prog gl 43 Dx:=by
 intro args ids bl ch R ms w0 w K hg hl S hc;unfold Dx at hc;split at hc
 ·rename_i i u rest;split at hc
  ·rename_i wr b o n c hb;obtain⟨f,⟨h8,hn⟩,Qo,hK1⟩:=hc;have ba:=(cA hl S hb).2
   let ps:List JP:=[((b,o,n,c),f)]
   have et:eg ps 0=n:=by show 0+n=_;rw[Nat.zero_add]
   refine(Jz (k:=1) (ps:=ps) (z:=λ_=>0) (λK=>acU w K (b,o,n,c)) ba (by rw[et];exact hn) (λq hq=>by
    rcases List.mem_cons.1 hq with rfl|hq
    ·exact vh S (λy hy=>qT hy) h8
    cases hq)).mono ?_
   rintro v w' ⟨eZ,⟨h,rfl⟩|⟨h0,b',c',rfl,h1,h2,h3⟩⟩
   ·exact⟨_,[],bl,_,rfl,by simpa using hl,by simpa using S.quiet eZ,Qo (by rw[<-et];exact h)⟩
   ·have ec:mF ps 0 (λ_=>0)=f:=by
     simp only[ps,mF,Nat.zero_add,lT 0]
    rw[et]at h1 h3⊢;rw[ec]at h3;rw[et]at h0;exact⟨_,[],bl,_,rfl,by simpa using hl,by simpa using JF S eZ h2 h3,hK1 h0 b' c' h1⟩
  ·exact hc.elim
 ·exact hc.elim
theorem GA:cT Dx:=by
 intro args bl ch K hc;unfold Dx at hc⊢;split at hc
 ·split at hc
  ·obtain⟨f,h,h0,h1⟩:=hc;exact⟨f,h,λe=>⟨h0 e,[],by simp⟩,λe b c h=>⟨h1 e b c h,[],by simp⟩⟩
  ·exact hc.elim
 ·exact hc.elim
def LOp:List (dI CG):=[⟨47,true,wG⟩,⟨192,true,QN⟩,⟨43,true,Dx⟩]
theorem adj:ai prog gv LOp:=ai.cons ⟨Dy,λ_=>Dz⟩ (ai.cons ⟨MK,λ_=>ML⟩ (ai.cons ⟨Gz,λ_=>GA⟩ ai.nil))
def opX (u:World) (k:Nat->Int) (s:Int) (b o n c:Nat) (K:VK CG):Prop:=
 let q:=i64.wrap ((n:Int)-8)
 let no (ch:List CG):Prop:=K (.az [.raw (.slice none 0 0),.int .i64 14]) [] (.cn u::ch)
 cond (decide (q<0)) (no []) ((0<=q/\q<=(c:Int))/\∃f kk:Nat->Int,(eS u b o q.toNat f/\q.toNat<=50/\(0<=s/\s<4294967296)/\(∃tG,u.heap[1]?=some (.cells (ak .u32 64 aX) tG (0,0)))/\((List.range 32).map k).length=32/\∀j,j<32->gT ((List.range 32).map k) j=kk j)/\
  ∀b1 c1:Nat,q.toNat+8<=c1->∃f2 g2:Nat->Int,(eS u b o n f2/\b1=b1/\n=q.toNat+8/\0+(q.toNat+8)<=q.toNat+8/\n<=1000000/\∀j,j<n->cO kk s q.toNat f j=g2 j)/\
   cond (!(kq n f2 g2)) (no [.row ⟨q.toNat+8,cO kk s q.toNat f,b1,c1⟩]) ((0<=q/\q<=(c:Int))/\∃f3:Nat->Int,(eS u b o q.toNat f3/\q.toNat<=1000000)/\
    (q.toNat=0->K (.az [.raw (.slice none 0 0),.int .i64 0]) [] [.cn u,.row ⟨q.toNat+8,cO kk s q.toNat f,b1,c1⟩])/\
    (0<q.toNat->∀b2 c2:Nat,q.toNat<=c2->K (.az [.raw (.slice (some ⟨b2,0,none⟩) q.toNat c2),.int .i64 0]) [] [.cn u,.row ⟨q.toNat+8,cO kk s q.toNat f,b1,c1⟩,.row ⟨q.toNat,f3,b2,c2⟩])))
theorem ahP (u:World) (k:Nat->Int) (s:Int) (b o n c:Nat) (K:VK CG):oE LOp 150 [.agg (ints 32 k),.int .i64 s,.raw (.slice (some ⟨b,o,none⟩) n c)] [] [.cn u] (cP 0 K)=opX u k s b o n c K:=by kernel_rfl
theorem iT {L:List (dI CG)} (hL:ai prog gv L) {f:FuncId} {args:List V} {K:VK CG} {w:World} (h:oE L f args [] [.cn w] (cP 0 K)):aj prog f (ao [] args).toArray w λv w'=>∃x ids bl ch,v=den ids x/\ids.length=bl.length/\St [] w (lits ids ids bl++af ch []) w'/\K x bl ch:=by
 refine(bw hL.T hL.Q 60 (C:=mL prog gv L ap8 Gq) (ids:=[]) (bl:=[]) (ch:=[.cn w]) (R:=[]) (λg i h=>by cases h) rfl (Jw w) h).mono ?_;rintro v w' ⟨x,more,bl',ch',rfl,h1,S',hK⟩;obtain⟨v2,aP,bl2,hv,gx,S2,Mx⟩:=c9 (n0:=0) h1 (Nat.zero_le _) S' hK;exact⟨v2,_,bl2,ch',hv,gx,S2,Mx⟩
theorem iU {k:Nat->Int} {n j:Nat} (h:j<n):gT ((List.range n).map k) j=k j:=by
 unfold gT;simp[List.getD,List.getElem?_range h]
theorem JG (k:Nat->Int) (s:Int) (a:Option Addr) (n c:Nat):(ao [] [.agg (ints 32 k),.int .i64 s,.raw (.slice a n c)]).toArray=#[.agg (ak .u8 32 k),.int .i64 s,.slice a n c]:=by
 simp only[ao,den,iS]
theorem wI (k:Nat->Int) (s:Int) (a:Option Addr) (n c:Nat) (hn:n<8) (w:World):
 aj prog 150 #[.agg (ak .u8 32 k),.int .i64 s,.slice a n c] w λv w1=>v=.tuple #[.slice none 0 0,.int .i64 14]/\Ch [] w w1:=by
 have h:oE [] 150 [.agg (ints 32 k),.int .i64 s,.raw (.slice a n c)] [] [.cn w] (cP 0 λv _ _=>v=.az [.raw (.slice none 0 0),.int .i64 14]):=by
  have e:∀K:VK CG,oE [] 150 [.agg (ints 32 k),.int .i64 s,.raw (.slice a n c)] [] [.cn w] (cP 0 K)=K (.az [.raw (.slice none 0 0),.int .i64 14]) [] [.cn w]:=by
   intro K;rcases(by omega:n=0\/n=1\/n=2\/n=3\/n=4\/n=5\/n=6\/n=7)with rfl|rfl|rfl|rfl|rfl|rfl|rfl|rfl<;>kernel_rfl
  rw[e]
 rw[<-JG];refine(iT ai.nil h).mono ?_;rintro v w' ⟨x,ids,bl,ch,rfl,hl,S,rfl⟩;exact⟨rfl,S.ch⟩
theorem QO (k:Nat->Int) (s:Int) (b o m c:Nat) (f:Nat->Int) (hm:m<=50) (hc:m+8<=c) (hs:0<=s/\s<4294967296) {tG:TypeId} (w:World) (hG:w.heap[1]?=some (.cells (ak .u32 64 aX) tG (0,0))) (hB:eS w b o (m+8) f):
 aj prog 150 #[.agg (ak .u8 32 k),.int .i64 s,.slice (some ⟨b,o,none⟩) (m+8) c] w λv w1=>(eV k s m f=false/\v=.tuple #[.slice none 0 0,.int .i64 14]/\Ch [] w w1)\/(eV k s m f=true/\∃x1 c1 yA,v=.tuple #[.slice x1 m c1,.int .i64 0]/\eK 5 m f x1 c1 yA/\St [] w yA w1):=by
 have h:oE LOp 150 [.agg (ints 32 k),.int .i64 s,.raw (.slice (some ⟨b,o,none⟩) (m+8) c)] [] [.cn w] (cP 0 λv bl ch=>bl=[]/\((eV k s m f=false/\v=.az [.raw (.slice none 0 0),.int .i64 14])\/(eV k s m f=true/\((m=0/\v=.az [.raw (.slice none 0 0),.int .i64 0])\/∃l b2 c2,0<m/\m<=c2/\v=.az [.raw (.slice (some ⟨b2,0,none⟩) m c2),.int .i64 0]/\ch=l++[.row ⟨m,f,b2,c2⟩])))):=by
  rw[ahP];unfold opX;have e:i64.wrap (((m+8:Nat):Int)-8)=(m:Int):=by simp[IntKind.wrap,IntKind.bits,IntKind.signed];omega
  dsimp only;rw[e,Int.toNat_natCast];refine aU (λh=>absurd (of_decide_eq_true h) (by omega)) λ_=>⟨⟨by omega,by omega⟩,f,k,⟨hB.cut (by omega),hm,hs,⟨tG,hG⟩,by simp,λj hj=>iU hj⟩,λb1 c1 h1=>⟨f,cO k s m f,⟨hB,rfl,rfl,by omega,by omega,λ_ _=>rfl⟩,aU (λh=>⟨rfl,.inl ⟨(by unfold eV;simpa using h),rfl⟩⟩) λh=>⟨⟨by omega,by omega⟩,f,⟨hB.cut (by omega),by omega⟩,λh0=>⟨rfl,.inr ⟨(by unfold eV;simpa using h),.inl ⟨h0,rfl⟩⟩⟩,λh0 b2 c2 h2=>⟨rfl,.inr ⟨(by unfold eV;simpa using h),.inr ⟨[.cn w,.row ⟨m+8,cO k s m f,b1,c1⟩],b2,c2,h0,h2,rfl,rfl⟩⟩⟩⟩⟩⟩
 rw[<-JG];refine(iT adj h).mono ?_;rintro v w' ⟨x,ids,bl,ch,rfl,hl,S,rfl,⟨h0,rfl⟩|⟨h0,⟨rfl,rfl⟩|⟨l,b2,c2,h1,h2,rfl,rfl⟩⟩⟩
 ·exact .inl ⟨h0,rfl,S.ch⟩
 ·exact .inr ⟨h0,none,0,[],rfl,⟨Nat.le_refl _,.inl ⟨rfl,rfl,rfl,rfl⟩⟩,by simpa using(St.nil [] w).quiet S.ch⟩
 ·exact .inr ⟨h0,some ⟨b2,0,none⟩,c2,_,rfl,⟨h2,.inr ⟨b2,rfl,rfl⟩⟩,(St.nil [] w).new S.ch (AO S) (qQ S)⟩
theorem XH (k:Nat->Int) (s:Int) (b o m c:Nat) (f:Nat->Int) (hm:m<=50) (hc:m+8<=c) (hs:0<=s/\s<4294967296) (ho:eV k s m f=false) {tG:TypeId} (w:World) (hG:w.heap[1]?=some (.cells (ak .u32 64 aX) tG (0,0))) (hB:eS w b o (m+8) f):
 aj prog 150 #[.agg (ak .u8 32 k),.int .i64 s,.slice (some ⟨b,o,none⟩) (m+8) c] w λv w1=>v=.tuple #[.slice none 0 0,.int .i64 14]/\Ch [] w w1:=
 (QO k s b o m c f hm hc hs w hG hB).mono λv w1 h=>h.elim (λh=>h.2) λh=>by rw[ho]at h;cases h.1
theorem QP (k:Nat->Int) (s:Int) (b o m c:Nat) (f:Nat->Int) (hm:m<=50) (hc:m+8<=c) (hs:0<=s/\s<4294967296) (ho:eV k s m f=true) {tG:TypeId} (w:World) (hG:w.heap[1]?=some (.cells (ak .u32 64 aX) tG (0,0))) (hB:eS w b o (m+8) f):
 aj prog 150 #[.agg (ak .u8 32 k),.int .i64 s,.slice (some ⟨b,o,none⟩) (m+8) c] w λv w1=>∃x1 c1 yA,v=.tuple #[.slice x1 m c1,.int .i64 0]/\eK 5 m f x1 c1 yA/\St [] w yA w1:=
 (QO k s b o m c f hm hc hs w hG hB).mono λv w1 h=>h.elim (λh=>by rw[ho]at h;cases h.1) λh=>h.2
def kJ (p:Sd.Pol) (ka:Nat->Option Addr) (kn kc:Nat->Nat):Array Value:=#[.int .i64 (p.i 0),.int .i64 (p.i 1),.int .i64 (p.i 2),.int .i64 (p.i 3),.int .i64 (p.i 4),.slice (ka 0) (kn 0) (kc 0),.slice (ka 1) (kn 1) (kc 1),.slice (ka 2) (kn 2) (kc 2),.slice (ka 3) (kn 3) (kc 3),.int .i64 (p.i 9),.int .i64 (p.i 10),.int .i64 (p.i 11),.int .i64 (p.i 12),.int .i64 (p.i 13),.int .i64 (p.i 14),.int .i64 (p.i 15),.int .i64 (p.i 16),.int .i64 (p.i 17),.int .i64 (p.i 18),.int .i64 (p.i 19),.int .i64 (p.i 20),.int .i64 (p.i 21),.int .i64 (p.i 22),.int .i64 (p.i 23),.int .i64 (p.i 24),.int .i64 (p.i 25),.int .i64 (p.i 26),.int .i64 (p.i 27),.int .i64 (p.i 28),.int .i64 (p.i 29),.int .i64 (p.i 30),.int .i64 (p.i 31),.int .i64 (p.i 32),.int .i64 (p.i 33),.int .i64 (p.i 34),.int .i64 (p.i 35),.int .i64 (p.i 36),.int .i64 (p.i 37),.int .i64 (p.i 38),.int .i64 (p.i 39),.int .i64 (p.i 40),.int .i64 (p.i 41),.int .i64 (p.i 42),.int .i64 (p.i 43),.int .i64 (p.i 44),.int .i64 (p.i 45),.int .i64 (p.i 46),.int .i64 (p.i 47),.int .i64 (p.i 48),.int .i64 (p.i 49),.int .i64 (p.i 50),.int .i64 (p.i 51),.int .i64 (p.i 52),.int .i64 (p.i 53),.int .i64 (p.i 54),.int .i64 (p.i 55)]
def AU (t:Sd.Timer):Array Value:=#[.int .i64 t.n,.int .i64 t.most]
def x4C (t:Sd.X4):Array Value:=#[.int .i64 t.a,.int .i64 t.b,.int .i64 t.c,.int .i64 t.d]
def ahQ (t:Sd.Label):Array Value:=#[.int .i64 t.mD,.int .i64 t.source,.int .i64 t.seq]
def gO (t:Sd.Tok):Array Value:=#[.int .i64 t.holder,.int .i64 t.epoch,.int .i64 t.offer,.int .i64 t.oa.n,.int .i64 t.oa.most,.int .i64 t.la.n,.int .i64 t.la.most,.bool t.bad]
def Tr (t:Sd.Point):Array Value:=#[.int .i64 t.cls,.int .i64 t.bx.a,.int .i64 t.bx.b,.int .i64 t.bx.c,.int .i64 t.bx.d,.int .i64 t.now.a,.int .i64 t.now.b,.int .i64 t.now.c,.int .i64 t.now.d,.int .i64 t.cX.mD,.int .i64 t.cX.source,.int .i64 t.cX.seq]
def XI (t:Sd.bW):Array Value:=#[.int .i64 t.kind,.int .i64 t.seq,.int .i64 t.role,.int .i64 t.bx,.int .i64 t.epoch,.int .i64 t.mode,.int .i64 t.cls,.bool t.now,.int .i64 t.x.a,.int .i64 t.x.b,.int .i64 t.x.c,.int .i64 t.x.d]
def alF (t:Sd.dS):Array Value:=#[.bool t.valid,.int .i64 t.x.a,.int .i64 t.x.b,.int .i64 t.x.c,.int .i64 t.x.d,.bool t.FQ]
def jm (t:Sd.cN):Array Value:=#[.bool t.any,.int .i64 t.high,.int .u64 t.seen]
def wJ (t:Sd.Ask):Array Value:=#[.int .i64 t.source,.int .i64 t.aV,.int .i64 t.gU.n,.int .i64 t.gU.most]
def recC (t:Sd.Rec):Array Value:=#[.int .i64 t.kind,.int .i64 t.source,.int .i64 t.seq,.int .i64 t.epoch,.int .i64 t.code,.int .i64 t.how]
theorem adk (s i:Int) (h0:0<=s) (h1:0<=i) (h2:i<=62):((Int.fdiv s (2^(min (i).toNat 64)))%2==1)=Sd.has s i:=by
 have e:min i.toNat 64=i.toNat:=by omega
 have h3:(0:Int)<=2^i.toNat:=Int.le_of_lt (Int.pow_pos (by omega));rw[e,Int.fdiv_eq_ediv_of_nonneg _ h3];simp[Sd.has,h0,h1,h2];exact Bool.eq_iff_iff.2 (by simp)
def ff (p:Sd.Pol) (ka:Nat->Option Addr) (kn kc:Nat->Nat):List V:=(List.range 56).map λo=>bif Nat.ble 5 o&&Nat.ble o 8 then .raw (.slice (ka (o-5)) (kn (o-5)) (kc (o-5)))else .int .i64 (p.i o)
def VU (n m:Int):List V:=[.int .i64 n,.int .i64 m]
def jx (t:Sd.Tok):List V:=[.int .i64 t.holder,.int .i64 t.epoch,.int .i64 t.offer,.int .i64 t.oa.n,.int .i64 t.oa.most,.int .i64 t.la.n,.int .i64 t.la.most,.bool t.bad]
def QQ (x:Sd.X4):List V:=[.int .i64 x.a,.int .i64 x.b,.int .i64 x.c,.int .i64 x.d]
def XJ (t:Sd.Label):List V:=[.int .i64 t.mD,.int .i64 t.source,.int .i64 t.seq]
def yB (t:Sd.Point):List V:=.int .i64 t.cls::(QQ t.bx++(QQ t.now++XJ t.cX))
theorem iw {x:Int} (h:-9223372036854775808<=x/\x<=9223372036854775807):i64.wrap x=x:=by simp[IntKind.wrap,IntKind.bits,IntKind.signed];omega
theorem qU {L:List QF} {n f:Nat} {xs:List V} {v:V} {args:Array Value} {x:Value} {w:World} (hL:aZ prog (λ_=>none) L) (h:jQ prog L n f xs (·=v)) (ha:args=(ao [] xs).toArray:=by kernel_rfl) (hx:x=den [] v:=by kernel_rfl) (h1:cH 0 xs=true:=by kernel_rfl) (h2:fK 0 v=true:=by kernel_rfl):
 aj prog f args w λy w1=>y=x/\Ch [] w w1:=by subst ha hx;exact ta hL n h h1 h2 [] w
theorem adl (n m:Int) (X:V->Prop):jQ prog [] 30 78 [.int .i64 n,.int .i64 m] X=cond (decide (n<m)) (X (.int .i64 (i64.wrap (n+1)))) (X (.int .i64 m)):=by kernel_rfl
theorem alG (n:Int) (m:Int) (h_n:-9223372036854775808<=n/\n<=9223372036854775807) (h_m:-9223372036854775808<=m/\m<=9223372036854775807) (w:World):
 aj prog 78 #[.int .i64 n,.int .i64 m] w λv w1=>v=.int .i64 (Sd.sat n m)/\Ch [] w w1:=by
 refine qU aZ.nil (n:=30) (xs:=[.int .i64 n,.int .i64 m]) (v:=.int .i64 (Sd.sat n m)) ?_;rw[adl];unfold Sd.sat;refine aU (λh=>?_) (λh=>?_)
 ·have h:n<m:=by simpa using h
  rw[if_pos h,iw (by omega)]
 ·rw[if_neg (by simpa using h)]
theorem QU (n m k:Int) (X:V->Prop):jQ prog [] 30 183 [.int .i64 n,.int .i64 m,.int .i64 k] X=cond (decide (n<m)) (X (.int .i64 m)) (cond (decide (n>k)) (X (.int .i64 k)) (X (.int .i64 n))):=by kernel_rfl
theorem QW (n:Int) (lo:Int) (hi:Int) (w:World):
 aj prog 183 #[.int .i64 n,.int .i64 lo,.int .i64 hi] w λv w1=>v=.int .i64 (Sd.oM n lo hi)/\Ch [] w w1:=by
 refine qU aZ.nil (n:=30) (xs:=[.int .i64 n,.int .i64 lo,.int .i64 hi]) (v:=.int .i64 (Sd.oM n lo hi)) ?_;rw[QU];unfold Sd.oM;exact aU (λh=>by rw[if_pos (by simpa using h)]) (λh=>by
  rw[if_neg (by simpa using h)];exact aU (λh=>by rw[if_pos (by simpa using h)]) (λh=>by rw[if_neg (by simpa using h)]))
def tw (a b:Int):Int:=u64.wrap (u64.wrap a-u64.wrap b)
theorem abr {a b:Int} (h0:0<=a-b) (h1:a-b<18446744073709551616):tw a b=a-b:=by unfold tw;rw[IntKind.wrap_u64,IntKind.wrap_u64,IntKind.wrap_u64];omega
theorem adm {a:Int} (h0:0<=a) (h1:a<18446744073709551616):u64.wrap a=a:=by rw[IntKind.wrap_u64];omega
theorem MM (nw t b:Int) (X:V->Prop):jQ prog [] 30 142 [.int .i64 nw,.int .i64 t,.int .i64 b] X=cond (decide (b<1)) (X (.int .i64 nw)) (cond (decide (t>=nw)) (cond (decide (tw t nw<=u64.wrap b)) (X (.int .i64 t)) (X (.int .i64 (i64.wrap (nw+b)))))
 (cond (decide (tw nw t<=u64.wrap b)) (X (.int .i64 t)) (X (.int .i64 (i64.wrap (nw-b)))))):=by kernel_rfl
theorem JH (nw:Int) (t:Int) (b:Int) (ahR:-9223372036854775808<=nw/\nw<=9223372036854775807) (h_t:-9223372036854775808<=t/\t<=9223372036854775807) (h_b:-9223372036854775808<=b/\b<=9223372036854775807) (w:World):
 aj prog 142 #[.int .i64 nw,.int .i64 t,.int .i64 b] w λv w1=>v=.int .i64 (Sd.jf nw t b)/\Ch [] w w1:=by
 refine qU aZ.nil (n:=30) (xs:=[.int .i64 nw,.int .i64 t,.int .i64 b]) (v:=.int .i64 (Sd.jf nw t b)) ?_;rw[MM];unfold Sd.jf;refine aU (λh=>by rw[if_pos (by simpa using h)]) (λh=>?_);have h1:¬b<1:=by simpa using h
 rw[if_neg h1,adm (by omega) (by omega)];refine aU (λh=>?_) (λh=>?_)
 ·have h2:nw<=t:=by simpa using h
  rw[if_pos h2,abr (by omega) (by omega)];refine aU (λh=>by rw[if_pos (by simpa using h)]) (λh=>?_);have h3:¬t-nw<=b:=by simpa using h
  rw[if_neg h3,iw (by omega)]
 ·have h2:¬nw<=t:=by simpa using h
  rw[if_neg h2,abr (by omega) (by omega)];refine aU (λh=>by rw[if_pos (by simpa using h)]) (λh=>?_);have h3:¬nw-t<=b:=by simpa using h
  rw[if_neg h3,iw (by omega)]
def hv (n:Int) (m:Nat):Int:=let a:=BitVec.ofInt i64.bits (n.fdiv (2^min m i64.bits));let b:=BitVec.ofInt i64.bits 1;i64.wrap ↑(a&&&b).toNat
theorem adn (n:Int) (m:Nat) (X:V->Prop):jQ prog [] 30 189 [.int .i64 n,.int .i64 (.ofNat m)] X=cond (decide (n<0)) (X (.bool false)) (cond (decide (Int.ofNat m>62)) (X (.bool false)) (X (.bool (hv n m==1)))):=by kernel_rfl
theorem XK (n:Int) (m:Nat) (X:V->Prop):jQ prog [] 30 189 [.int .i64 n,.int .i64 (.negSucc m)] X=cond (decide (n<0)) (X (.bool false)) (cond (decide (Int.negSucc m<0)) (X (.bool false)) False):=by kernel_rfl
theorem ahS (s:Int) (i:Int) (w:World):
 aj prog 189 #[.int .i64 s,.int .i64 i] w λv w1=>v=.bool (Sd.has s i)/\Ch [] w w1:=by
 refine qU aZ.nil (n:=30) (xs:=[.int .i64 s,.int .i64 i]) (v:=.bool (Sd.has s i)) ?_;cases i with
 |ofNat m=>
  rw[adn];refine aU (λh=>?_) (λh=>aU (λh'=>?_) λh'=>?_)
  ·have h:s<0:=by simpa using h
   congr 1;simp[Sd.has];omega
  ·have h':(m:Int)>62:=by simpa using h'
   congr 1;simp[Sd.has];omega
  ·have h:¬s<0:=by simpa using h
   have h':¬(m:Int)>62:=by simpa using h'
   have em:Int.ofNat m=(m:Int):=rfl;rw[<-adk s (.ofNat m) (by omega) (by omega) (by omega)];exact congrArg (λz:Int=>V.bool (z==1)) (fl .i64 (Int.fdiv s (2^(min m 64))) 1 2 1 (by decide) (by decide) (by decide))
 |negSucc m=>
  rw[XK];have e:Sd.has s (.negSucc m)=false:=by simp[Sd.has]
  rw[e];exact aU (λ_=>rfl) λ_=>aU (λ_=>rfl) λh=>absurd (of_decide_eq_false h) (by omega)
theorem DA (m:Int) (X:V->Prop):jQ prog [] 30 179 [.int .i64 m] X=X (.agg (VU 0 (if 0>m then 0 else m))):=by kernel_rfl
theorem nq (b:Int):Sd.Timer.start b=⟨0,if 0>b then 0 else b⟩:=by
 unfold Sd.Timer.start;congr 1;by_cases h:0>b
 ·rw[if_pos h];omega
 ·rw[if_neg h];omega
theorem ado (m:Int) (h_m:-9223372036854775808<=m/\m<=9223372036854775807) (w:World):
 aj prog 179 #[.int .i64 m] w λv w1=>v=.agg (AU (Sd.Timer.start m))/\Ch [] w w1:=by
 rw[nq];refine qU aZ.nil (n:=30) (xs:=[.int .i64 m]) (v:=.agg (VU 0 (if 0>m then 0 else m))) ?_;rw[DA]
theorem XL (t:Sd.Timer) (X:V->Prop):jQ prog [] 30 138 [.agg (VU t.n t.most)] X=cond (decide (t.n<t.most)) (X (.agg (VU (i64.wrap (t.n+1)) t.most))) (X (.agg (VU t.most t.most))):=by kernel_rfl
theorem abt (t:Sd.Timer) (abu:-9223372036854775808<=t.n/\t.n<=9223372036854775807) (DB:-9223372036854775808<=t.most/\t.most<=9223372036854775807) (w:World):
 aj prog 138 #[.agg (AU t)] w λv w1=>v=.agg (AU (Sd.Timer.step t))/\Ch [] w w1:=by
 refine qU aZ.nil (n:=30) (xs:=[.agg (VU t.n t.most)]) (v:=.agg (VU (Sd.sat t.n t.most) t.most)) ?_;rw[XL];unfold Sd.sat;refine aU (λh=>?_) (λh=>?_)
 ·have h:t.n<t.most:=by simpa using h
  rw[if_pos h,iw (by omega)]
 ·rw[if_neg (by simpa using h)]
theorem adp (t:Sd.Timer) (X:V->Prop):jQ prog [] 30 139 [.agg (VU t.n t.most)] X=X (.bool (decide (t.n>=t.most))):=by kernel_rfl
theorem ahT (t:Sd.Timer) (w:World):
 aj prog 139 #[.agg (AU t)] w λv w1=>v=.bool (Sd.Timer.due t)/\Ch [] w w1:=by
 refine qU aZ.nil (n:=30) (xs:=[.agg (VU t.n t.most)]) (v:=.bool t.due) ?_;rw[adp];rfl
theorem QX (t:Sd.Tok) (o:Int) (X:V->Prop):jQ prog [] 30 130 [.agg (jx t),.int .i64 o] X=cond (decide (o<0)) (X (.az [.agg (jx t),.int .i64 1])) (cond (decide (o>=5)) (X (.az [.agg (jx t),.int .i64 1])) (cond (o==t.holder) (X (.az [.agg (jx t),.int .i64 25]))
 (cond (decide (t.epoch>=65535)) (X (.az [.agg (jx t),.int .i64 24])) (X (.az [.agg (jx (t.pass o (i64.wrap (t.epoch+1)))),.int .i64 0]))))):=by kernel_rfl
theorem adq (t:Sd.Tok) (o:Int) (fw:-9223372036854775808<=t.epoch/\t.epoch<=9223372036854775807) (w:World):
 aj prog 130 #[.agg (gO t),.int .i64 o] w λv w1=>v=.tuple #[.agg (gO ((Sd.Tok.bz t o).1)),.int .i64 ((Sd.Tok.bz t o).2)]/\Ch [] w w1:=by
 refine qU aZ.nil (n:=30) (xs:=[.agg (jx t),.int .i64 o]) (v:=.az [.agg (jx (t.bz o).1),.int .i64 (t.bz o).2]) ?_;rw[QX];unfold Sd.Tok.bz;refine aU (λh=>by rw[if_pos (.inl (by simpa using h))]) (λh=>aU (λh'=>by rw[if_pos (.inr (by simpa using h'))]) λh'=>?_);have h1:¬(o<0\/5<=o):=by simp at h h';omega
 rw[if_neg h1];refine aU (λh=>by rw[if_pos (by simpa using h)]) (λh=>?_);rw[if_neg (by simpa using h)];refine aU (λh=>by rw[if_pos (by simpa using h)]) (λh=>?_);have h2:¬65535<=t.epoch:=by simpa using h
 rw[if_neg h2,iw (by omega)]
theorem QY (t:Sd.Tok) (X:V->Prop):jQ prog [] 30 84 [.agg (jx t)] X=cond (t.holder !=4) (cond (decide (t.epoch<65535)) (X (.agg (jx (t.pass 4 (i64.wrap (t.epoch+1)))))) (X (.agg (jx (t.pass 4 65535))))) (X (.agg (jx (t.pass 4 t.epoch)))):=by kernel_rfl
theorem adr (t:Sd.Tok) (fw:-9223372036854775808<=t.epoch/\t.epoch<=9223372036854775807) (w:World):
 aj prog 84 #[.agg (gO t)] w λv w1=>v=.agg (gO (Sd.Tok.dO t))/\Ch [] w w1:=by
 refine qU aZ.nil (n:=30) (xs:=[.agg (jx t)]) (v:=.agg (jx t.dO)) ?_;rw[QY];unfold Sd.Tok.dO Sd.sat;refine aU (λh=>?_) (λh=>by rw[if_neg (by simpa using h)]);rw[if_pos (by simpa using h)];refine aU (λh=>?_) (λh=>by rw[if_neg (by simpa using h)]);have h2:t.epoch<65535:=by simpa using h
 rw[if_pos h2,iw (by omega)]
theorem XM (t:Sd.Tok) (X:V->Prop):jQ prog [] 30 137 [.agg (jx t)] X=X (.bool (decide (t.offer>=0))):=by kernel_rfl
theorem open_ (t:Sd.Tok) (w:World):
 aj prog 137 #[.agg (gO t)] w λv w1=>v=.bool (decide (0<=t.offer))/\Ch [] w w1:=by
 refine qU aZ.nil (n:=30) (xs:=[.agg (jx t)]) (v:=.bool (decide (0<=t.offer))) ?_;rw[XM]
theorem XN (t:Sd.Tok) (X:V->Prop):jQ prog [] 30 140 [.agg (jx t)] X=X (.agg (jx t.bG)):=by kernel_rfl
theorem QZ (t:Sd.Tok) (w:World):
 aj prog 140 #[.agg (gO t)] w λv w1=>v=.agg (gO (Sd.Tok.bG t))/\Ch [] w w1:=by
 refine qU aZ.nil (n:=30) (xs:=[.agg (jx t)]) (v:=.agg (jx t.bG)) ?_;rw[XN]
def p5 (p:Sd.Pol):List V:=[.int .i64 (p.i 0),.int .i64 (p.i 1),.int .i64 (p.i 2),.int .i64 (p.i 3),.int .i64 (p.i 4)]
theorem Q0 (p:Sd.Pol) (s:Int) (X:V->Prop):jQ prog [] 30 232 [.agg (p5 p),.int .i64 s] X=cond (p.i 0==s) (X (.int .i64 0)) (cond (p.i 1==s) (X (.int .i64 1)) (cond (p.i 2==s) (X (.int .i64 2)) (cond (p.i 3==s) (X (.int .i64 3)) (cond (p.i 4==s) (X (.int .i64 4)) (X (.int .i64 (-1))))))):=by kernel_rfl
theorem GB (p:Sd.Pol) (ka:Nat->Option Addr) (kn kc:Nat->Nat) (s:Int) (w:World):
 aj prog 232 #[.agg #[.int .i64 (p.i 0),.int .i64 (p.i 1),.int .i64 (p.i 2),.int .i64 (p.i 3),.int .i64 (p.i 4)],.int .i64 s] w λv w1=>v=.int .i64 (Sd.placeOf p s)/\Ch [] w w1:=by
 refine qU aZ.nil (n:=30) (xs:=[.agg (p5 p),.int .i64 s]) (v:=.int .i64 (Sd.placeOf p s)) ?_;rw[Q0];unfold Sd.placeOf;refine aU (λh=>by rw[if_pos (by simpa using h)]) (λh=>?_);rw[if_neg (by simpa using h)];refine aU (λh=>by rw[if_pos (by simpa using h)]) (λh=>?_);rw[if_neg (by simpa using h)];refine aU (λh=>by rw[if_pos (by simpa using h)]) (λh=>?_);rw[if_neg (by simpa using h)];refine aU (λh=>by rw[if_pos (by simpa using h)]) (λh=>?_);rw[if_neg (by simpa using h)];exact aU (λh=>by rw[if_pos (by simpa using h)]) (λh=>by rw[if_neg (by simpa using h)])
theorem told {P:Program} {f:Nat} {args:Array Value} {ids:List Nat} {xs:List V} {x:Value} {v:V} {w:World} (h:aj P f args w λy w1=>y=x/\Ch [] w w1) (ha:args=(ao ids xs).toArray:=by kernel_rfl) (hv:x=den ids v:=by kernel_rfl):
 aj P f (ao ids xs).toArray w λy w1=>y=den ids v/\Ch [] w w1:=by subst ha hv;exact h
structure Hd (p:Prop):Prop where
 h:p
def aB (a:Int):Prop:=-9223372036854775808<=a/\a<=9223372036854775807
def zpl:QF:=⟨232,λargs _=>match args with
 |[.agg [.int .i64 a,.int .i64 b,.int .i64 c,.int .i64 d,.int .i64 e],.int .i64 s]=>some (True,.int .i64 (if a=s then 0 else if b=s then 1 else if c=s then 2 else if d=s then 3 else if e=s then 4 else-1))
 |_=>none⟩
def ztw:QF:=⟨142,λargs _=>match args with
 |[.int .i64 nw,.int .i64 t,.int .i64 b]=>some (aB nw/\aB t/\aB b,.int .i64 (Sd.jf nw t b))
 |_=>none⟩
def zcl:QF:=⟨183,λargs _=>match args with
 |[.int .i64 n,.int .i64 lo,.int .i64 hi]=>some (True,.int .i64 (Sd.oM n lo hi))
 |_=>none⟩
def tA:QF:=⟨189,λargs _=>match args with
 |[.int .i64 s,.int .i64 i]=>some (True,.bool (Sd.has s i))
 |_=>none⟩
def zen:QF:=⟨140,λargs _=>match args with
 |[.agg [.int .i64 a,.int .i64 b,.int .i64 c,.int .i64 d,.int .i64 e,.int .i64 f,.int .i64 g,.bool h]]=>some (True,.agg (jx (⟨a,b,c,⟨d,e⟩,⟨f,g⟩,h⟩:Sd.Tok).bG))
 |_=>none⟩
def zst:QF:=⟨179,λargs _=>match args with
 |[.int .i64 m]=>some (True,.agg (VU 0 (if 0>m then 0 else m)))
 |_=>none⟩
def zby:QF:=⟨126,λargs _=>match args with
 |[.int .i64 m,.agg [.int .i64 a,.int .i64 b,.int .i64 c,.int .i64 d]]=>some (0<=m/\m<=1000,.bool (Sd.O6 m ⟨a,b,c,d⟩))
 |_=>none⟩
theorem ads (gl:Nat->Option Nat):zpl.Ok prog gl:=by
 intro args bl p_ v_ h hp ids w _ _;unfold zpl at h;dsimp only at h;split at h
 ·rename_i a b c d e s;simp only[Option.some.injEq,Prod.mk.injEq]at h;obtain⟨rfl,rfl⟩:=h;exact told (GB ⟨λi=>match i with|0=>a|1=>b|2=>c|3=>d|_=>e,λ_=>(0,λ_=>0)⟩ (λ_=>none) (λ_=>0) (λ_=>0) s w)
 ·cases h
theorem adt (gl:Nat->Option Nat):ztw.Ok prog gl:=by
 intro args bl p_ v_ h hp ids w _ _;unfold ztw at h;dsimp only at h;split at h
 ·rename_i nw t b;simp only[Option.some.injEq,Prod.mk.injEq]at h;obtain⟨rfl,rfl⟩:=h;exact told (JH nw t b hp.1 hp.2.1 hp.2.2 w)
 ·cases h
theorem GC (gl:Nat->Option Nat):zcl.Ok prog gl:=by
 intro args bl p_ v_ h hp ids w _ _;unfold zcl at h;dsimp only at h;split at h
 ·rename_i n lo hi;simp only[Option.some.injEq,Prod.mk.injEq]at h;obtain⟨rfl,rfl⟩:=h;exact told (QW n lo hi w)
 ·cases h
theorem AV (gl:Nat->Option Nat):tA.Ok prog gl:=by
 intro args bl p_ v_ h hp ids w _ _;unfold tA at h;dsimp only at h;split at h
 ·rename_i s i;simp only[Option.some.injEq,Prod.mk.injEq]at h;obtain⟨rfl,rfl⟩:=h;exact told (ahS s i w)
 ·cases h
theorem ajU (gl:Nat->Option Nat):zen.Ok prog gl:=by
 intro args bl p_ v_ h hp ids w _ _;unfold zen at h;dsimp only at h;split at h
 ·rename_i a b c d e f g h;simp only[Option.some.injEq,Prod.mk.injEq]at h;obtain⟨rfl,rfl⟩:=h;exact told (QZ ⟨a,b,c,⟨d,e⟩,⟨f,g⟩,h⟩ w)
 ·cases h
theorem adu (gl:Nat->Option Nat):zst.Ok prog gl:=by
 intro args bl p_ v_ h hp ids w _ _;unfold zst at h;dsimp only at h;split at h
 ·rename_i m;simp only[Option.some.injEq,Prod.mk.injEq]at h;obtain⟨rfl,rfl⟩:=h;exact ta aZ.nil 30 (by show jQ prog [] 30 179 _ _;rw[DA]) rfl rfl ids w
 ·cases h
theorem ON {q:QF} (h:q.Ok prog λ_=>none):aZ prog (λ_=>none) [q]:=aZ.cons h aZ.nil
theorem XO (p:Sd.Pol) (ka:Nat->Option Addr) (kn kc:Nat->Nat) (s:Int) (X:V->Prop):jQ prog [zpl] 30 217 [.agg (ff p ka kn kc),.int .i64 s] X=(True/\X (.int .i64 (Sd.placeOf p s))):=by kernel_rfl
theorem ahU (p:Sd.Pol) (ka:Nat->Option Addr) (kn kc:Nat->Nat) (s:Int) (w:World):
 aj prog 217 #[.agg (kJ p ka kn kc),.int .i64 s] w λv w1=>v=.int .i64 (Sd.placeOf p s)/\Ch [] w w1:=by
 refine qU (ON (ads _)) (n:=30) (xs:=[.agg (ff p ka kn kc),.int .i64 s]) (v:=.int .i64 (Sd.placeOf p s)) ?_;rw[XO];exact⟨trivial,rfl⟩
theorem XP (p:Sd.Pol) (ka:Nat->Option Addr) (kn kc:Nat->Nat) (a:Int) (b:Int) (w:World):
 aj prog 215 #[.agg (kJ p ka kn kc),.int .i64 a,.int .i64 b] w λv w1=>v=.bool (Sd.cu p a b)/\Ch [] w w1:=by
 have S0:=St.nil [] w;refine dz Tryz.func215 rfl ?_;refine au (ax ?_);refine eD S0 (λb=>.pointer (some ⟨b,0,none⟩)) (.cells (kJ p ka kn kc) 28) ?_;intro de sH i_;refine aa (.bool false) ?_;refine aw (ag (au (ax ?_)));refine bJ ?_;refine aw (ag (au ?_));refine lE 9 [⟨0,λ_=>.func (.func 232) #[] #[],λ_=>[]⟩,⟨0,λ_=>.pointer (some ⟨de,0,none⟩),λ_=>[]⟩,⟨0,λ_=>.agg #[.int .i64 (p.i 0),.int .i64 (p.i 1),.int .i64 (p.i 2),.int .i64 (p.i 3),.int .i64 (p.i 4)],λ_=>[]⟩,⟨0,λ_=>.int .i64 a,λ_=>[]⟩,⟨0,λ_=>.int .i64 (Sd.placeOf p a),λ_=>[]⟩,⟨0,λ_=>.func (.func 232) #[] #[],λ_=>[]⟩,⟨0,λ_=>.pointer (some ⟨de,0,none⟩),λ_=>[]⟩,⟨0,λ_=>.agg #[.int .i64 (p.i 0),.int .i64 (p.i 1),.int .i64 (p.i 2),.int .i64 (p.i 3),.int .i64 (p.i 4)],λ_=>[]⟩,⟨0,λ_=>.int .i64 b,λ_=>[]⟩] [[9,4,0],[9,4,2,1],[9,4,2],[9,4,3],[9,4],[9,5],[9,7,6],[9,7],[9,8],[10,0],[10,1],[10,2],[10,3],[10,4],[10,9,5],[10,9,7,6],[10,9,7],[10,9,8],[10,9],[11,0],[11,1],[11,2],[11,3],[11,4],[11,5],[11,6],[11,7],[11,8],[11,9],[11,10]] ?_ ?_
 ·refine step_cons sD ?_;refine step_cons sD ?_;refine step_cons (Zz i_ 0 de 0 5 #[.int .i64 (p.i 0),.int .i64 (p.i 1),.int .i64 (p.i 2),.int .i64 (p.i 3),.int .i64 (p.i 4)]) ?_;refine step_cons sD ?_;refine step_cons ?_ ?_
  ·intro Tq Dn Gv ag5 MC;have Xr:Tq 10=.func (.func 232) #[] #[]:=(Sp.dt (MC 0 10 (by kernel_rfl) (by kernel_rfl))).1;have lR:Tq 12=.agg #[.int .i64 (p.i 0),.int .i64 (p.i 1),.int .i64 (p.i 2),.int .i64 (p.i 3),.int .i64 (p.i 4)]:=(Sp.dt (MC 2 12 (by kernel_rfl) (by kernel_rfl))).1;have kG:Tq 13=.int .i64 a:=(Sp.dt (MC 3 13 (by kernel_rfl) (by kernel_rfl))).1;have tp:=i_.quiet Gv;refine kP ?_;refine mR [(10,.func (.func 232) #[] #[]),(12,.agg #[.int .i64 (p.i 0),.int .i64 (p.i 1),.int .i64 (p.i 2),.int .i64 (p.i 3),.int .i64 (p.i 4)]),(13,.int .i64 a)] (eu Xr (eu lR (eu kG (iy)))) ?_;have Gp:=tp.loc;refine Y.dh 232 #[.agg #[.int .i64 (p.i 0),.int .i64 (p.i 1),.int .i64 (p.i 2),.int .i64 (p.i 3),.int .i64 (p.i 4)],.int .i64 a] ?_;refine(GB p ka kn kc a _).mono ?_;rintro _ alH ⟨rfl,lV⟩;have tq:=Gp.quiet lV;exact⟨tq.ch,Sp.eO [] (all_nil)⟩
  refine step_cons sD ?_;refine step_cons sD ?_;refine step_cons (Zz i_ 0 de 0 5 #[.int .i64 (p.i 0),.int .i64 (p.i 1),.int .i64 (p.i 2),.int .i64 (p.i 3),.int .i64 (p.i 4)]) ?_;refine step_cons sD ?_;exact jK
 intro AW Gm Q2 qV;have alI:AW 0=.func (.func 232) #[] #[]:=(Sp.dt (qV 0 (by kernel_rfl))).1;have Qe:AW 1=.pointer (some ⟨de,0,none⟩):=(Sp.dt (qV 1 (by kernel_rfl))).1;have uK:AW 2=.agg #[.int .i64 (p.i 0),.int .i64 (p.i 1),.int .i64 (p.i 2),.int .i64 (p.i 3),.int .i64 (p.i 4)]:=(Sp.dt (qV 2 (by kernel_rfl))).1;have wz:AW 3=.int .i64 a:=(Sp.dt (qV 3 (by kernel_rfl))).1;have Qf:AW 4=.int .i64 (Sd.placeOf p a):=(Sp.dt (qV 4 (by kernel_rfl))).1;have tz:AW 5=.func (.func 232) #[] #[]:=(Sp.dt (qV 5 (by kernel_rfl))).1;have kH:AW 6=.pointer (some ⟨de,0,none⟩):=(Sp.dt (qV 6 (by kernel_rfl))).1;have Du:AW 7=.agg #[.int .i64 (p.i 0),.int .i64 (p.i 1),.int .i64 (p.i 2),.int .i64 (p.i 3),.int .i64 (p.i 4)]:=(Sp.dt (qV 7 (by kernel_rfl))).1;have ac1:AW 8=.int .i64 b:=(Sp.dt (qV 8 (by kernel_rfl))).1;have GD:=i_.quiet Q2;refine⟨[.func (.func 232) #[] #[],.pointer (some ⟨de,0,none⟩),.agg #[.int .i64 (p.i 0),.int .i64 (p.i 1),.int .i64 (p.i 2),.int .i64 (p.i 3),.int .i64 (p.i 4)],.int .i64 a,.int .i64 (Sd.placeOf p a),.func (.func 232) #[] #[],.pointer (some ⟨de,0,none⟩),.agg #[.int .i64 (p.i 0),.int .i64 (p.i 1),.int .i64 (p.i 2),.int .i64 (p.i 3),.int .i64 (p.i 4)],.int .i64 b],by kernel_rfl,aL alI (aL Qe (aL uK (aL wz (aL Qf (aL tz (aL kH (aL Du (aL ac1 (sO))))))))),?_⟩;refine dh 232 #[.agg #[.int .i64 (p.i 0),.int .i64 (p.i 1),.int .i64 (p.i 2),.int .i64 (p.i 3),.int .i64 (p.i 4)],.int .i64 b] ?_;refine(GB p ka kn kc b _).mono ?_;rintro _ anC ⟨rfl,uO⟩;have AL:=GD.quiet uO;refine bJ ?_;refine bJ ?_;refine aw (ag (au (ax ?_)));refine bY ?_;refine aa (.bool ((Sd.placeOf p a)!=(-1))) ?_;refine bY ?_;refine aa4 22 ((Sd.placeOf p a)!=(-1)) ?_ ?_
 ·intro lU;have uP:=abX lU;refine bY ?_;refine aa (.bool ((Sd.placeOf p b)!=(-1))) ?_;refine aa (.bool ((Sd.placeOf p b)!=(-1))) ?_;refine bY ?_;refine aa4 26 ((Sd.placeOf p b)!=(-1)) ?_ ?_
  ·intro yN;have AS:=abX yN;refine bY ?_;refine bY ?_;refine aa (.bool (decide ((Sd.placeOf p a)<(Sd.placeOf p b)))) ?_;refine aa (.bool (decide ((Sd.placeOf p a)<(Sd.placeOf p b)))) ?_;refine bJ ?_;refine aw (ag (wp_ret ?_));refine gn rfl (fY [.tmp 6] [.bool (decide ((Sd.placeOf p a)<(Sd.placeOf p b)))] (.bool (decide ((Sd.placeOf p a)<(Sd.placeOf p b)))) ⟨cM,trivial⟩) ?_;have ze:Sd.cu p a b=(decide ((Sd.placeOf p a)<(Sd.placeOf p b))):=by first|rfl|(simp[Sd.cu,lU,yN,uP,AS];done)|(simp[Sd.cu,lU,yN,uP,AS];rfl)|(simp[Sd.cu,lU,yN];simp[Sd.cu,lU,yN,uP,AS];done)|(simp[Sd.cu,lU,yN];simp[Sd.cu,lU,yN,uP,AS];rfl)|(simp[Sd.cu,lU,yN,uP,AS];omega)|(unfold Sd.cu;(repeat' split)<;>first|rfl|assumption|omega|(simp_all;done)|(simp_all;omega))
   exact⟨by(rw[ze])<;>rfl,AL.ch⟩
  intro uN;have wA:=abY uN;refine qg ?_;refine qg ?_;refine qg ?_;refine aa (.bool false) ?_;refine aa (.bool false) ?_;refine aw (ag (wp_ret ?_));refine gn rfl (fY [.tmp 6] [.bool false] (.bool false) ⟨cM,trivial⟩) ?_;have ze:Sd.cu p a b=false:=by first|rfl|(simp[Sd.cu,lU,uN,uP,wA];done)|(simp[Sd.cu,lU,uN,uP,wA];rfl)|(simp[Sd.cu,lU,uN];simp[Sd.cu,lU,uN,uP,wA];done)|(simp[Sd.cu,lU,uN];simp[Sd.cu,lU,uN,uP,wA];rfl)|(simp[Sd.cu,lU,uN,uP,wA];omega)|(unfold Sd.cu;(repeat' split)<;>first|rfl|assumption|omega|(simp_all;done)|(simp_all;omega))
  exact⟨by(rw[ze])<;>rfl,AL.ch⟩
 intro uQ;have tv:=abY uQ;refine qg ?_;refine qg ?_;refine aa (.bool false) ?_;refine aa (.bool false) ?_;refine qg ?_;refine qg ?_;refine qg ?_;refine aa (.bool false) ?_;refine aa (.bool false) ?_;refine aw (ag (wp_ret ?_));refine gn rfl (fY [.tmp 6] [.bool false] (.bool false) ⟨cM,trivial⟩) ?_;have ze:Sd.cu p a b=false:=by first|rfl|(simp[Sd.cu,uQ,tv];done)|(simp[Sd.cu,uQ,tv];rfl)|(simp[Sd.cu,uQ];simp[Sd.cu,uQ,tv];done)|(simp[Sd.cu,uQ];simp[Sd.cu,uQ,tv];rfl)|(simp[Sd.cu,uQ,tv];omega)|(unfold Sd.cu;(repeat' split)<;>first|rfl|assumption|omega|(simp_all;done)|(simp_all;omega))
 exact⟨by(rw[ze])<;>rfl,AL.ch⟩
theorem Q3 (p:Sd.Pol) (ka:Nat->Option Addr) (kn kc:Nat->Nat) (r:Int) (X:V->Prop):∀s:Nat,s<5->jQ prog [tA] 30 144 [.agg (ff p ka kn kc),.int .i64 (.ofNat s),.int .i64 r] X=cond (decide (0<=r)) (cond (decide (r<4)) (True/\X (.bool (Sd.has (p.i (9+s)) r))) (X (.bool false))) (X (.bool false))
 |0,_=>by kernel_rfl
 |1,_=>by kernel_rfl
 |2,_=>by kernel_rfl
 |3,_=>by kernel_rfl
 |4,_=>by kernel_rfl
 |n+5,h=>absurd h (by omega)
theorem zr (p:Sd.Pol) (ka:Nat->Option Addr) (kn kc:Nat->Nat) (n:Nat) (r:Int) (X:V->Prop):jQ prog [tA] 30 144 [.agg (ff p ka kn kc),.int .i64 (.ofNat (n+5)),.int .i64 r] X=X (.bool false)/\jQ prog [tA] 30 144 [.agg (ff p ka kn kc),.int .i64 (.negSucc n),.int .i64 r] X=X (.bool false):=⟨by kernel_rfl,by kernel_rfl⟩
theorem lW {n b:Int} (h:0<=n) (h2:n<b):Sd.below n b=true:=by simp[Sd.below,h,h2]
theorem fF {n b:Int} (h:n<0\/b<=n):Sd.below n b=false:=by simp[Sd.below];omega
theorem adv (p:Sd.Pol) (ka:Nat->Option Addr) (kn kc:Nat->Nat) (s:Int) (r:Int) (w:World):
 aj prog 144 #[.agg (kJ p ka kn kc),.int .i64 s,.int .i64 r] w λv w1=>v=.bool (Sd.fm p s r)/\Ch [] w w1:=by
 refine qU (ON (AV _)) (n:=30) (xs:=[.agg (ff p ka kn kc),.int .i64 s,.int .i64 r]) (v:=.bool (Sd.fm p s r)) (Hd.h ?_);unfold Sd.fm;cases s with
 |ofNat n=>
  by_cases h:n<5
  ·have e:Sd.below (Int.ofNat n) 5=true:=lW (Int.natCast_nonneg n) (by show(n:Int)<5;omega);refine⟨?_⟩;rw[Q3 p ka kn kc r _ n h,e];refine aU (λh=>aU (λh'=>?_) λh'=>?_) (λh=>?_)
   ·rw[lW (by simpa using h) (by simpa using h')];exact⟨trivial,rfl⟩
   ·rw[fF (b:=4) (.inr (by simpa using h'))];rfl
   ·rw[fF (b:=4) (.inl (by simpa using h))];rfl
  ·have q:=(zr p ka kn kc (n-5) r (·=.bool (Sd.below (Int.ofNat n) 5&&Sd.below r 4&&Sd.has (p.vX (Int.ofNat n).toNat) r))).1;rw[show n-5+5=n by omega]at q;refine⟨?_⟩;rw[q,fF (.inr (by show(5:Int)<=(n:Int);omega))];rfl
 |negSucc n=>
  refine⟨?_⟩;rw[(zr p ka kn kc n r _).2,fF (.inl (Int.negSucc_lt_zero n))];rfl
theorem XQ (p:Sd.Pol) (ka:Nat->Option Addr) (kn kc:Nat->Nat) (r:Int) (X:V->Prop):∀s:Nat,s<5->jQ prog [tA] 30 182 [.agg (ff p ka kn kc),.int .i64 (.ofNat s),.int .i64 r] X=cond (decide (0<=r)) (cond (decide (r<5)) (True/\X (.bool (Sd.has (p.i (34+s)) r))) (X (.bool false))) (X (.bool false))
 |0,_=>by kernel_rfl
 |1,_=>by kernel_rfl
 |2,_=>by kernel_rfl
 |3,_=>by kernel_rfl
 |4,_=>by kernel_rfl
 |n+5,h=>absurd h (by omega)
theorem DC (p:Sd.Pol) (ka:Nat->Option Addr) (kn kc:Nat->Nat) (n:Nat) (r:Int) (X:V->Prop):jQ prog [tA] 30 182 [.agg (ff p ka kn kc),.int .i64 (.ofNat (n+5)),.int .i64 r] X=X (.bool false)/\jQ prog [tA] 30 182 [.agg (ff p ka kn kc),.int .i64 (.negSucc n),.int .i64 r] X=X (.bool false):=⟨by kernel_rfl,by kernel_rfl⟩
theorem ahV (p:Sd.Pol) (ka:Nat->Option Addr) (kn kc:Nat->Nat) (a:Int) (b:Int) (w:World):
 aj prog 182 #[.agg (kJ p ka kn kc),.int .i64 a,.int .i64 b] w λv w1=>v=.bool (Sd.goes p a b)/\Ch [] w w1:=by
 refine qU (ON (AV _)) (n:=30) (xs:=[.agg (ff p ka kn kc),.int .i64 a,.int .i64 b]) (v:=.bool (Sd.goes p a b)) (Hd.h ?_);unfold Sd.goes;cases a with
 |ofNat n=>
  by_cases h:n<5
  ·have e:Sd.below (Int.ofNat n) 5=true:=lW (Int.natCast_nonneg n) (by show(n:Int)<5;omega);refine⟨?_⟩;rw[XQ p ka kn kc b _ n h,e];refine aU (λh=>aU (λh'=>?_) λh'=>?_) (λh=>?_)
   ·rw[lW (by simpa using h) (by simpa using h')];exact⟨trivial,rfl⟩
   ·rw[fF (b:=5) (.inr (by simpa using h'))];rfl
   ·rw[fF (b:=5) (.inl (by simpa using h))];rfl
  ·have q:=(DC p ka kn kc (n-5) b (·=.bool (Sd.below (Int.ofNat n) 5&&Sd.below b 5&&Sd.has (p.graph (Int.ofNat n).toNat) b))).1;rw[show n-5+5=n by omega]at q;refine⟨?_⟩;rw[q,fF (.inr (by show(5:Int)<=(n:Int);omega))];rfl
 |negSucc n=>
  refine⟨?_⟩;rw[(DC p ka kn kc n b _).2,fF (.inl (Int.negSucc_lt_zero n))];rfl
theorem adw (p:Sd.Pol) (ka:Nat->Option Addr) (kn kc:Nat->Nat) (c:Int) (X:V->Prop):∀m r:Nat,m<5->r<4->jQ prog [tA] 30 181 [.agg (ff p ka kn kc),.int .i64 (.ofNat m),.int .i64 (.ofNat r),.int .i64 c] X=cond (decide (0<=c)) (cond (decide (c<4)) (True/\X (.bool (Sd.has (p.i (14+4*m+r)) c))) (X (.bool false))) (X (.bool false))
 |0,0,_,_=>by kernel_rfl
 |0,1,_,_=>by kernel_rfl
 |0,2,_,_=>by kernel_rfl
 |0,3,_,_=>by kernel_rfl
 |1,0,_,_=>by kernel_rfl
 |1,1,_,_=>by kernel_rfl
 |1,2,_,_=>by kernel_rfl
 |1,3,_,_=>by kernel_rfl
 |2,0,_,_=>by kernel_rfl
 |2,1,_,_=>by kernel_rfl
 |2,2,_,_=>by kernel_rfl
 |2,3,_,_=>by kernel_rfl
 |3,0,_,_=>by kernel_rfl
 |3,1,_,_=>by kernel_rfl
 |3,2,_,_=>by kernel_rfl
 |3,3,_,_=>by kernel_rfl
 |4,0,_,_=>by kernel_rfl
 |4,1,_,_=>by kernel_rfl
 |4,2,_,_=>by kernel_rfl
 |4,3,_,_=>by kernel_rfl
 |n+5,_,h,_=>absurd h (by omega)
 |_,n+4,_,h=>absurd h (by omega)
theorem JI (p:Sd.Pol) (ka:Nat->Option Addr) (kn kc:Nat->Nat) (n:Nat) (r c:Int) (X:V->Prop):jQ prog [tA] 30 181 [.agg (ff p ka kn kc),.int .i64 (.ofNat (n+5)),.int .i64 r,.int .i64 c] X=X (.bool false)/\jQ prog [tA] 30 181 [.agg (ff p ka kn kc),.int .i64 (.negSucc n),.int .i64 r,.int .i64 c] X=X (.bool false):=⟨by kernel_rfl,by kernel_rfl⟩
theorem JJ (p:Sd.Pol) (ka:Nat->Option Addr) (kn kc:Nat->Nat) (n:Nat) (c:Int) (X:V->Prop):∀m:Nat,m<5->jQ prog [tA] 30 181 [.agg (ff p ka kn kc),.int .i64 (.ofNat m),.int .i64 (.ofNat (n+4)),.int .i64 c] X=X (.bool false)/\jQ prog [tA] 30 181 [.agg (ff p ka kn kc),.int .i64 (.ofNat m),.int .i64 (.negSucc n),.int .i64 c] X=X (.bool false)
 |0,_=>⟨by kernel_rfl,by kernel_rfl⟩
 |1,_=>⟨by kernel_rfl,by kernel_rfl⟩
 |2,_=>⟨by kernel_rfl,by kernel_rfl⟩
 |3,_=>⟨by kernel_rfl,by kernel_rfl⟩
 |4,_=>⟨by kernel_rfl,by kernel_rfl⟩
 |n+5,h=>absurd h (by omega)
theorem alJ (p:Sd.Pol) (ka:Nat->Option Addr) (kn kc:Nat->Nat) (m:Int) (r:Int) (c:Int) (w:World):
 aj prog 181 #[.agg (kJ p ka kn kc),.int .i64 m,.int .i64 r,.int .i64 c] w λv w1=>v=.bool (Sd.may p m r c)/\Ch [] w w1:=by
 refine qU (ON (AV _)) (n:=30) (xs:=[.agg (ff p ka kn kc),.int .i64 m,.int .i64 r,.int .i64 c]) (v:=.bool (Sd.may p m r c)) (Hd.h ?_);unfold Sd.may;cases m with
 |ofNat n=>
  by_cases h:n<5
  ·have e:Sd.below (Int.ofNat n) 5=true:=lW (Int.natCast_nonneg n) (by show(n:Int)<5;omega);rw[e];cases r with
   |ofNat k=>
    by_cases hk:k<4
    ·have e:Sd.below (Int.ofNat k) 4=true:=lW (Int.natCast_nonneg k) (by show(k:Int)<4;omega);refine⟨?_⟩;rw[adw p ka kn kc c _ n k h hk,e];refine aU (λh=>aU (λh'=>?_) λh'=>?_) (λh=>?_)
     ·rw[lW (by simpa using h) (by simpa using h')];exact⟨trivial,rfl⟩
     ·rw[fF (b:=4) (.inr (by simpa using h'))];rfl
     ·rw[fF (b:=4) (.inl (by simpa using h))];rfl
    ·have q:=(JJ p ka kn kc (k-4) c (·=.bool (true&&Sd.below (Int.ofNat k) 4&&Sd.below c 4&&Sd.has (p.table (Int.ofNat n).toNat (Int.ofNat k).toNat) c)) n h).1;rw[show k-4+4=k by omega]at q;refine⟨?_⟩;rw[q,fF (b:=4) (.inr (by show(4:Int)<=(k:Int);omega))];rfl
   |negSucc k=>
    refine⟨?_⟩;rw[(JJ p ka kn kc k c _ n h).2,fF (b:=4) (.inl (Int.negSucc_lt_zero k))];rfl
  ·have q:=(JI p ka kn kc (n-5) r c (·=.bool (Sd.below (Int.ofNat n) 5&&Sd.below r 4&&Sd.below c 4&&Sd.has (p.table (Int.ofNat n).toNat r.toNat) c))).1;rw[show n-5+5=n by omega]at q;refine⟨?_⟩;rw[q,fF (b:=5) (.inr (by show(5:Int)<=(n:Int);omega))];rfl
 |negSucc n=>
  refine⟨?_⟩;rw[(JI p ka kn kc n r c _).2,fF (b:=5) (.inl (Int.negSucc_lt_zero n))];rfl
theorem XR (p:Sd.Pol) (ka:Nat->Option Addr) (kn kc:Nat->Nat) (X:V->Prop):jQ prog [] 30 30 [.agg (ff p ka kn kc)] X=X (.agg (jx (Sd.Tok.new p))):=by kernel_rfl
theorem abv (p:Sd.Pol) (ka:Nat->Option Addr) (kn kc:Nat->Nat) (w:World):
 aj prog 30 #[.agg (kJ p ka kn kc)] w λv w1=>v=.agg (gO (Sd.Tok.new p))/\Ch [] w w1:=by
 refine qU aZ.nil (n:=30) (xs:=[.agg (ff p ka kn kc)]) (v:=.agg (jx (Sd.Tok.new p))) ?_;rw[XR]
def XS (t:Sd.Tok) (f:Int) (X Y:Prop):Prop:=cond (!decide (t.offer>=0)) X (cond (t.offer !=f) X Y)
theorem AX {t:Sd.Tok} {f:Int} {X Y:Prop} (h:t.offer<0\/t.offer≠f->X) (k:¬(t.offer<0\/t.offer≠f)->Y):XS t f X Y:=by
 refine aU (λa=>h (.inl (by simpa using a))) (λa=>aU (λb=>h (.inr (by simpa using b))) λb=>k ?_);simp at a b;omega
def grX (t:Sd.Tok) (o:Int) (X:V->Prop):Prop:=cond (decide (o<0)) (X (.az [.agg (jx t),.int .i64 1])) (cond (decide (o>=5)) (X (.az [.agg (jx t),.int .i64 1])) (cond (o==t.holder) (X (.az [.agg (jx t),.int .i64 25]))
 (cond (decide (t.epoch>=65535)) (X (.az [.agg (jx t),.int .i64 24])) (X (.az [.agg (jx (t.pass o (i64.wrap (t.epoch+1)))),.int .i64 0])))))
theorem adx (t:Sd.Tok) (f e:Int) (X:V->Prop):jQ prog [] 30 199 [.agg (jx t),.int .i64 f,.int .i64 e] X=XS t f (X (.az [.agg (jx t),.int .i64 28])) (cond (e !=t.epoch) (X (.az [.agg (jx t),.int .i64 21])) (grX t f X)):=by kernel_rfl
theorem ady {t:Sd.Tok} (fw:-9223372036854775808<=t.epoch/\t.epoch<=9223372036854775807) (o:Int):grX t o (·=.az [.agg (jx (t.bz o).1),.int .i64 (t.bz o).2]):=by
 unfold grX Sd.Tok.bz;refine aU (λh=>by rw[if_pos (.inl (by simpa using h))]) (λh=>aU (λh'=>by rw[if_pos (.inr (by simpa using h'))]) λh'=>?_);have h1:¬(o<0\/5<=o):=by simp at h h';omega
 rw[if_neg h1];refine aU (λh=>by rw[if_pos (by simpa using h)]) (λh=>?_);rw[if_neg (by simpa using h)];refine aU (λh=>by rw[if_pos (by simpa using h)]) (λh=>?_);have h2:¬65535<=t.epoch:=by simpa using h
 rw[if_neg h2,iw (by omega)]
theorem alK (t:Sd.Tok) (f:Int) (e:Int) (fw:-9223372036854775808<=t.epoch/\t.epoch<=9223372036854775807) (w:World):
 aj prog 199 #[.agg (gO t),.int .i64 f,.int .i64 e] w λv w1=>v=.tuple #[.agg (gO ((Sd.Tok.accept t f e).1)),.int .i64 ((Sd.Tok.accept t f e).2)]/\Ch [] w w1:=by
 refine qU aZ.nil (n:=30) (xs:=[.agg (jx t),.int .i64 f,.int .i64 e]) (v:=.az [.agg (jx (t.accept f e).1),.int .i64 (t.accept f e).2]) ?_;rw[adx];unfold Sd.Tok.accept;refine AX (λh=>by rw[if_pos h]) (λh=>?_);rw[if_neg h];refine aU (λh=>by rw[if_pos (by simpa using h)]) (λh=>?_);rw[if_neg (by simpa using h)];exact ady fw f
theorem XT (t:Sd.Tok) (f:Int) (X:V->Prop):jQ prog [zen] 30 200 [.agg (jx t),.int .i64 f] X=XS t f (X (.az [.agg (jx t),.int .i64 28])) (True/\X (.az [.agg (jx t.bG),.int .i64 0])):=by kernel_rfl
theorem ahW (t:Sd.Tok) (f:Int) (w:World):
 aj prog 200 #[.agg (gO t),.int .i64 f] w λv w1=>v=.tuple #[.agg (gO ((Sd.Tok.fJ t f).1)),.int .i64 ((Sd.Tok.fJ t f).2)]/\Ch [] w w1:=by
 refine qU (ON (ajU _)) (n:=30) (xs:=[.agg (jx t),.int .i64 f]) (v:=.az [.agg (jx (t.fJ f).1),.int .i64 (t.fJ f).2]) ?_;rw[XT];unfold Sd.Tok.fJ;exact AX (λh=>by rw[if_pos h]) (λh=>⟨trivial,by rw[if_neg h]⟩)
theorem Q4 (t:Sd.Tok) (f:Int) (X:V->Prop):jQ prog [zen] 30 136 [.agg (jx t),.int .i64 f] X=XS t f (X (.az [.agg (jx t),.bool false])) (True/\X (.az [.agg (jx t.bG),.bool true])):=by kernel_rfl
theorem adz (t:Sd.Tok) (s:Int) (w:World):
 aj prog 136 #[.agg (gO t),.int .i64 s] w λv w1=>v=.tuple #[.agg (gO ((Sd.Tok.drop t s).1)),.bool ((Sd.Tok.drop t s).2)]/\Ch [] w w1:=by
 refine qU (ON (ajU _)) (n:=30) (xs:=[.agg (jx t),.int .i64 s]) (v:=.az [.agg (jx (t.drop s).1),.bool (t.drop s).2]) ?_;rw[Q4];unfold Sd.Tok.drop;exact AX (λh=>by rw[if_pos h]) (λh=>⟨trivial,by rw[if_neg h]⟩)
theorem adA (t:Sd.Tok) (DD:-9223372036854775808<=t.oa.n/\t.oa.n<=9223372036854775807) (um:-9223372036854775808<=t.oa.most/\t.oa.most<=9223372036854775807) (w:World):
 aj prog 92 #[.agg (gO t)] w λv w1=>v=.tuple #[.agg (gO ((Sd.Tok.tick t).1)),.int .i64 ((Sd.Tok.tick t).2)]/\Ch [] w w1:=by
 have S0:=St.nil [] w;refine dz Tryz.func92 rfl ?_;refine au (ax ?_);refine eD S0 (λb=>.pointer (some ⟨b,0,none⟩)) (.cells (gO t) 95) ?_;intro de sH i_;refine eD i_ (λb=>.pointer (some ⟨b,0,none⟩)) (.cells #[.int .i64 0,.int .i64 0,.int .i64 0,.int .i64 0,.int .i64 0,.int .i64 0,.int .i64 0,.bool false] 95) ?_;intro iG Dn gw;refine aa (.int .i64 0) ?_;refine aw (ag (au (au (ax ?_))));refine eC gw 1 8 (gO t) de 0 ?_;refine dh 137 #[.agg (gO t)] ?_;refine(open_ t _).mono ?_;rintro _ Tp ⟨rfl,Jv⟩;have uL:=gw.quiet Jv;refine aa (.bool (!(decide (0<=t.offer)))) ?_;refine aw (ag ?_);refine jH (!(decide (0<=t.offer))) ?_ ?_
 ·intro lR;have kG:=OW lR;have AJ:=ago kG;refine au (ax ?_);refine eC uL 1 8 (gO t) de 0 ?_;refine store_ uL 0 (.agg (gO t)) iG 0 ?_;intro acY qR;refine aa (.int .i64 (-1)) ?_;refine aw (ag (wp_ret (OV ?_)));refine gn rfl (fY [.cell 2 95,.tmp 3] [.agg (gO t),.int .i64 (-1)] (.tuple #[.agg (gO t),.int .i64 (-1)]) ⟨cU qR 0 8 iG 0,cM,trivial⟩) ?_;have ze:Sd.Tok.tick t=(t,(-1)):=by first|rfl|(simp[Sd.Tok.tick,lR,kG];done)|(simp[Sd.Tok.tick,lR,kG];rfl)|(simp[Sd.Tok.tick,lR,kG];simp[Sd.Tok.tick,lR,kG];done)|(simp[Sd.Tok.tick,lR,kG];simp[Sd.Tok.tick,lR,kG];rfl)|(simp[Sd.Tok.tick,lR,kG];omega)|(unfold Sd.Tok.tick;(repeat' split)<;>first|rfl|assumption|omega|(simp_all;done)|(simp_all;omega))
  exact⟨by(rw[ze])<;>rfl,qR.ch⟩
 intro lV;have k7:=OX lV;have Mu:=agn k7;refine wp_skip (ag (au (ax ?_)));refine aa (.pointer (some ⟨de,3,none⟩)) ?_;refine eC uL 1 2 (AU t.oa) de 3 ?_;refine dh 138 #[.agg (AU t.oa)] ?_;refine(abt t.oa (by omega) (by omega) _).mono ?_;rintro _ Gm ⟨rfl,Dq⟩;have uJ:=uL.quiet Dq;refine aa (.pointer (some ⟨de,3,none⟩)) ?_;refine store_ uJ 1 (.agg (AU (Sd.Timer.step t.oa))) de 3 ?_;intro adB yM;refine aw (ag (au (au (ax ?_))));refine aa (.pointer (some ⟨de,3,none⟩)) ?_;refine eC yM 1 2 (AU (Sd.Timer.step t.oa)) de 3 ?_;refine dh 139 #[.agg (AU (Sd.Timer.step t.oa))] ?_;refine(ahT (Sd.Timer.step t.oa) _).mono ?_;rintro _ ag7 ⟨rfl,wz⟩;have py:=yM.quiet wz;refine aa (.bool (!(Sd.Timer.due (Sd.Timer.step t.oa)))) ?_;refine aw (ag ?_);refine jH (!(Sd.Timer.due (Sd.Timer.step t.oa))) ?_ ?_
 ·intro tz;have kH:=OW tz;have Du:=ago kH;refine au (ax ?_);refine eC py 1 8 #[.int .i64 t.holder,.int .i64 t.epoch,.int .i64 t.offer,.int .i64 (Sd.Timer.step t.oa).n,.int .i64 (Sd.Timer.step t.oa).most,.int .i64 t.la.n,.int .i64 t.la.most,.bool t.bad] de 0 ?_;refine store_ py 0 (.agg #[.int .i64 t.holder,.int .i64 t.epoch,.int .i64 t.offer,.int .i64 (Sd.Timer.step t.oa).n,.int .i64 (Sd.Timer.step t.oa).most,.int .i64 t.la.n,.int .i64 t.la.most,.bool t.bad]) iG 0 ?_;intro XE GD;refine aa (.int .i64 (-1)) ?_;refine aw (ag (wp_ret (OV ?_)));refine gn rfl (fY [.cell 2 95,.tmp 3] [.agg #[.int .i64 t.holder,.int .i64 t.epoch,.int .i64 t.offer,.int .i64 (Sd.Timer.step t.oa).n,.int .i64 (Sd.Timer.step t.oa).most,.int .i64 t.la.n,.int .i64 t.la.most,.bool t.bad],.int .i64 (-1)] (.tuple #[.agg #[.int .i64 t.holder,.int .i64 t.epoch,.int .i64 t.offer,.int .i64 (Sd.Timer.step t.oa).n,.int .i64 (Sd.Timer.step t.oa).most,.int .i64 t.la.n,.int .i64 t.la.most,.bool t.bad],.int .i64 (-1)]) ⟨cU GD 0 8 iG 0,cM,trivial⟩) ?_;have ze:Sd.Tok.tick t=((⟨t.holder,t.epoch,t.offer,(Sd.Timer.step t.oa),t.la,t.bad⟩:Sd.Tok),(-1)):=by first|rfl|(simp[Sd.Tok.tick,lV,k7,tz,kH];done)|(simp[Sd.Tok.tick,lV,k7,tz,kH];rfl)|(simp[Sd.Tok.tick,lV,k7,tz,kH];simp[Sd.Tok.tick,lV,k7,tz,kH];done)|(simp[Sd.Tok.tick,lV,k7,tz,kH];simp[Sd.Tok.tick,lV,k7,tz,kH];rfl)|(simp[Sd.Tok.tick,lV,k7,tz,kH];omega)|(unfold Sd.Tok.tick;(repeat' split)<;>first|rfl|assumption|omega|(simp_all;done)|(simp_all;omega))
  exact⟨by(rw[ze])<;>rfl,GD.ch⟩
 intro yL;have uO:=OX yL;have XF:=agn uO;refine wp_skip (ag (au ?_));have zD:=py.aa6 0 0 8 (b:=iG) (by kernel_rfl);refine I1 py 5 4 0 iG 0 [] (.agg (gO (Sd.Tok.bG (⟨t.holder,t.epoch,t.offer,(Sd.Timer.step t.oa),t.la,t.bad⟩:Sd.Tok)))) [.agg #[.int .i64 t.holder,.int .i64 t.epoch,.int .i64 t.offer,.int .i64 (Sd.Timer.step t.oa).n,.int .i64 (Sd.Timer.step t.oa).most,.int .i64 t.la.n,.int .i64 t.la.most,.bool t.bad],.agg (gO (Sd.Tok.bG (⟨t.holder,t.epoch,t.offer,(Sd.Timer.step t.oa),t.la,t.bad⟩:Sd.Tok))),.pointer (some ⟨de,2,none⟩),.int .i64 t.offer,undef] [[5,0],[5,1],[5,2],[5,3],[5,4]] (bZ (ZB zD 0 de 0 8 #[.int .i64 t.holder,.int .i64 t.epoch,.int .i64 t.offer,.int .i64 (Sd.Timer.step t.oa).n,.int .i64 (Sd.Timer.step t.oa).most,.int .i64 t.la.n,.int .i64 t.la.most,.bool t.bad]) (bZ (eC_ 140 #[.agg #[.int .i64 t.holder,.int .i64 t.epoch,.int .i64 t.offer,.int .i64 (Sd.Timer.step t.oa).n,.int .i64 (Sd.Timer.step t.oa).most,.int .i64 t.la.n,.int .i64 t.la.most,.bool t.bad]] (QZ (⟨t.holder,t.epoch,t.offer,(Sd.Timer.step t.oa),t.la,t.bad⟩:Sd.Tok))) (bZ NN (bZ (eL_ zD 0 de 2) (bZ (eW_ py 0 (.agg (gO (Sd.Tok.bG (⟨t.holder,t.epoch,t.offer,(Sd.Timer.step t.oa),t.la,t.bad⟩:Sd.Tok)))) iG 0) (sQ)))))) ?_;intro anD XD;refine aa (.int .i64 t.offer) ?_;refine aw (ag (wp_ret ?_));refine gn rfl (fY [.cell 2 95,.tmp 3] [.agg (gO (Sd.Tok.bG (⟨t.holder,t.epoch,t.offer,(Sd.Timer.step t.oa),t.la,t.bad⟩:Sd.Tok))),.int .i64 t.offer] (.tuple #[.agg (gO (Sd.Tok.bG (⟨t.holder,t.epoch,t.offer,(Sd.Timer.step t.oa),t.la,t.bad⟩:Sd.Tok))),.int .i64 t.offer]) ⟨cU XD 0 8 iG 0,cM,trivial⟩) ?_;have ze:Sd.Tok.tick t=((Sd.Tok.bG (⟨t.holder,t.epoch,t.offer,(Sd.Timer.step t.oa),t.la,t.bad⟩:Sd.Tok)),t.offer):=by first|rfl|(simp[Sd.Tok.tick,lV,k7,yL,uO];done)|(simp[Sd.Tok.tick,lV,k7,yL,uO];rfl)|(simp[Sd.Tok.tick,lV,k7,yL,uO];simp[Sd.Tok.tick,lV,k7,yL,uO];done)|(simp[Sd.Tok.tick,lV,k7,yL,uO];simp[Sd.Tok.tick,lV,k7,yL,uO];rfl)|(simp[Sd.Tok.tick,lV,k7,yL,uO];omega)|(unfold Sd.Tok.tick;(repeat' split)<;>first|rfl|assumption|omega|(simp_all;done)|(simp_all;omega))
 exact⟨by(rw[ze])<;>rfl,XD.ch⟩
theorem XU (p:Sd.Pol) (ka:Nat->Option Addr) (kn kc:Nat->Nat) (t:Sd.Tok) (f o:Int) (th:Bool) (X:V->Prop):jQ prog [zst] 30 198 [.agg (ff p ka kn kc),.agg (jx t),.int .i64 f,.int .i64 o,.bool th] X=
 let r:Int->Prop:=λn=>X (.az [.agg (jx t),.int .i64 n])
 cond (f !=t.holder) (r 20) (cond (decide (t.epoch>=65535)) (r 24) (cond (o==f) (r 25) (cond (decide (o<1)) (r 2) (cond (decide (o>3)) (r 2) (cond (!th) (r 2) (cond (decide (t.offer>=0)) (r 28) (True/\X (.az [.agg (jx {t with offer:=o,oa:=⟨0,if 0>p.i 44 then 0 else p.i 44⟩}),.int .i64 0])))))))):=by kernel_rfl
theorem ahX (p:Sd.Pol) (ka:Nat->Option Addr) (kn kc:Nat->Nat) (t:Sd.Tok) (f:Int) (o:Int) (th:Bool) (hp:Sd.cK p) (w:World):
 aj prog 198 #[.agg (kJ p ka kn kc),.agg (gO t),.int .i64 f,.int .i64 o,.bool th] w λv w1=>v=.tuple #[.agg (gO ((Sd.Tok.make p t f o th).1)),.int .i64 ((Sd.Tok.make p t f o th).2)]/\Ch [] w w1:=by
 refine qU (ON (adu _)) (n:=30) (xs:=[.agg (ff p ka kn kc),.agg (jx t),.int .i64 f,.int .i64 o,.bool th]) (v:=.az [.agg (jx (t.make p f o th).1),.int .i64 (t.make p f o th).2]) ?_;rw[XU];unfold Sd.Tok.make;refine aU (λh=>by rw[if_pos (by simpa using h)]) (λh=>?_);rw[if_neg (by simpa using h)];refine aU (λh=>by rw[if_pos (by simpa using h)]) (λh=>?_);rw[if_neg (by simpa using h)];refine aU (λh=>by rw[if_pos (by simpa using h)]) (λh=>?_);rw[if_neg (by simpa using h)];refine aU (λh=>by rw[if_pos (.inl (by simpa using h))]) (λh1=>?_);refine aU (λh=>by rw[if_pos (.inr (.inl (by simpa using h)))]) (λh2=>?_);refine aU (λh=>by rw[if_pos (.inr (.inr (by simpa using h)))]) (λh3=>?_);rw[if_neg (by simp at h1 h2 h3;rw[h3];simp;omega)];refine aU (λh=>by rw[if_pos (by simpa using h)]) (λh=>?_);rw[if_neg (show¬0<=t.offer by simpa using h),nq];exact⟨trivial,rfl⟩
def clX (p:Sd.Pol) (c:Nat) (n:Int):Int:=Sd.oM n (i64.wrap (0-p.i (50+c))) (p.i (50+c))
theorem XV (p:Sd.Pol) (ka:Nat->Option Addr) (kn kc:Nat->Nat) (pt:Sd.Point) (y:Sd.X4) (b:Sd.Label) (X:V->Prop):∀c:Nat,c<4->jQ prog [zcl] 30 129 [.agg (ff p ka kn kc),.agg (yB pt),.int .i64 (.ofNat c),.agg (QQ y),.agg (XJ b)] X=(True/\True/\True/\True/\X (.agg (yB ⟨.ofNat c,y.map (clX p c),pt.now,b⟩)))
 |0,_=>by kernel_rfl
 |1,_=>by kernel_rfl
 |2,_=>by kernel_rfl
 |3,_=>by kernel_rfl
 |n+4,h=>absurd h (by omega)
theorem DE (p:Sd.Pol) (ka:Nat->Option Addr) (kn kc:Nat->Nat) (pt:Sd.Point) (y:Sd.X4) (b:Sd.Label) (n:Nat) (X:V->Prop):jQ prog [zcl] 30 129 [.agg (ff p ka kn kc),.agg (yB pt),.int .i64 (.ofNat (n+4)),.agg (QQ y),.agg (XJ b)] X=cond (decide (Int.ofNat (n+4)>=4)) (X (.agg (yB ⟨.ofNat (n+4),.zero,pt.now,b⟩))) False/\
 jQ prog [zcl] 30 129 [.agg (ff p ka kn kc),.agg (yB pt),.int .i64 (.negSucc n),.agg (QQ y),.agg (XJ b)] X=cond (decide (Int.negSucc n<0)) (X (.agg (yB ⟨.negSucc n,.zero,pt.now,b⟩))) False:=⟨by kernel_rfl,by kernel_rfl⟩
theorem ahY (p:Sd.Pol) (ka:Nat->Option Addr) (kn kc:Nat->Nat) (pt:Sd.Point) (c:Int) (y:Sd.X4) (b:Sd.Label) (hp:Sd.cK p) (w:World):
 aj prog 129 #[.agg (kJ p ka kn kc),.agg (Tr pt),.int .i64 c,.agg (x4C y),.agg (ahQ b)] w λv w1=>v=.agg (Tr (Sd.Point.set p pt c y b))/\Ch [] w w1:=by
 cases c with
 |ofNat n=>
  by_cases h:n<4
  ·refine qU (ON (GC _)) (n:=30) (xs:=[.agg (ff p ka kn kc),.agg (yB pt),.int .i64 (.ofNat n),.agg (QQ y),.agg (XJ b)]) (v:=.agg (yB ⟨.ofNat n,y.map (clX p n),pt.now,b⟩)) ?_ (by kernel_rfl) ?_
   ·rw[XV p ka kn kc pt y b _ n h];exact⟨trivial,trivial,trivial,trivial,rfl⟩
   ·unfold Sd.Point.set;rw[if_neg (by show¬((n:Int)<0\/4<=(n:Int));omega)];have hm:=hp.most n h;unfold Sd.Pol.most at hm;have e:clX p n=λx=>Sd.oM x (-(p.most (Int.ofNat n).toNat)) (p.most (Int.ofNat n).toNat):=by
     funext x;unfold clX;rw[iw (by omega),Int.zero_sub];rfl
    rw[e];rfl
  ·refine qU (ON (GC _)) (n:=30) (xs:=[.agg (ff p ka kn kc),.agg (yB pt),.int .i64 (.ofNat n),.agg (QQ y),.agg (XJ b)]) (v:=.agg (yB ⟨.ofNat n,.zero,pt.now,b⟩)) ?_ (by kernel_rfl) ?_
   ·have q:=(DE p ka kn kc pt y b (n-4) (·=.agg (yB ⟨.ofNat n,.zero,pt.now,b⟩))).1;rw[show n-4+4=n by omega]at q;rw[q];exact aU (λ_=>rfl) λh=>absurd (of_decide_eq_false h) (by show¬¬(n:Int)>=4;omega)
   ·unfold Sd.Point.set;rw[if_pos (.inr (by show(4:Int)<=(n:Int);omega))];rfl
 |negSucc n=>
  refine qU (ON (GC _)) (n:=30) (xs:=[.agg (ff p ka kn kc),.agg (yB pt),.int .i64 (.negSucc n),.agg (QQ y),.agg (XJ b)]) (v:=.agg (yB ⟨.negSucc n,.zero,pt.now,b⟩)) ?_ (by kernel_rfl) ?_
  ·rw[(DE p ka kn kc pt y b n _).2];exact aU (λ_=>rfl) λh=>absurd (of_decide_eq_false h) (by have:=Int.negSucc_lt_zero n;omega)
  ·unfold Sd.Point.set;rw[if_pos (.inl (Int.negSucc_lt_zero n))];rfl
theorem XW (pt:Sd.Point) (b:Sd.Label) (X:V->Prop):jQ prog [] 30 134 [.agg (yB pt),.agg (XJ b)] X=X (.agg (yB (pt.hold b))):=by kernel_rfl
theorem ahZ (pt:Sd.Point) (b:Sd.Label) (w:World):
 aj prog 134 #[.agg (Tr pt),.agg (ahQ b)] w λv w1=>v=.agg (Tr (Sd.Point.hold pt b))/\Ch [] w w1:=by
 refine qU aZ.nil (n:=30) (xs:=[.agg (yB pt),.agg (XJ b)]) (v:=.agg (yB (pt.hold b))) ?_;rw[XW]
def V4 (a m:Int) (X:V->Prop) (Y:Prop):Prop:=cond (decide (a<i64.wrap (0-m))) (X (.bool true)) (cond (decide (a>m)) (X (.bool true)) Y)
theorem ah0 (m:Int) (y:Sd.X4) (X:V->Prop):jQ prog [] 30 126 [.int .i64 m,.agg (QQ y)] X=V4 y.a m X (V4 y.b m X (V4 y.c m X (V4 y.d m X (X (.bool false))))):=by kernel_rfl
theorem AY {a m:Int} (hm:0<=m/\m<=1000) {b:Bool} {Y:Prop} (h:a< -m\/m<a->b=true) (k:¬(a< -m\/m<a)->Y):V4 a m (·=.bool b) Y:=by
 unfold V4;rw[iw (by omega),Int.zero_sub];refine aU (λx=>by rw[h (.inl (by simpa using x))]) (λx=>aU (λz=>by rw[h (.inr (by simpa using z))]) λz=>k ?_);simp at x z;omega
theorem JK (m:Int) (y:Sd.X4) (hm:0<=m/\m<=1000) (w:World):
 aj prog 126 #[.int .i64 m,.agg (x4C y)] w λv w1=>v=.bool (Sd.O6 m y)/\Ch [] w w1:=by
 refine qU aZ.nil (n:=30) (xs:=[.int .i64 m,.agg (QQ y)]) (v:=.bool (Sd.O6 m y)) ?_;rw[ah0];unfold Sd.O6;refine AY hm (λh=>by simp[h]) λh1=>AY hm (λh=>by simp[h]) λh2=>AY hm (λh=>by simp[h]) λh3=>AY hm (λh=>by simp[h]) λh4=>?_;congr 1;simp;omega
theorem adC (gl:Nat->Option Nat):zby.Ok prog gl:=by
 intro args bl p_ v_ h hp ids w _ _;unfold zby at h;dsimp only at h;split at h
 ·rename_i m a b c d;simp only[Option.some.injEq,Prod.mk.injEq]at h;obtain⟨rfl,rfl⟩:=h;exact told (JK m ⟨a,b,c,d⟩ hp w)
 ·cases h
def smV (s:Sd.dS):List V:=.bool s.valid::(QQ s.x++[.bool s.FQ])
theorem adD (p:Sd.Pol) (ka:Nat->Option Addr) (kn kc:Nat->Nat) (r:Int) (s:Sd.dS) (X:V->Prop):jQ prog [zby] 30 80 [.agg (ff p ka kn kc),.int .i64 r,.agg (smV s)] X=
 let m:Int:=if 0>r then 0 else r
 cond (!s.valid) (X (.az [.int .i64 0,.bool false])) ((0<=p.i 47/\p.i 47<=1000)/\cond (!Sd.O6 (p.i 47) s.x) (X (.az [.int .i64 0,.bool false])) (cond (decide (m<p.i 46)) (X (.az [.int .i64 (i64.wrap (m+1)),.bool (decide (i64.wrap (m+1)>=p.i 46))])) (X (.az [.int .i64 (p.i 46),.bool (decide (p.i 46>=p.i 46))])))):=by kernel_rfl
theorem alL (p:Sd.Pol) (ka:Nat->Option Addr) (kn kc:Nat->Nat) (r:Int) (s:Sd.dS) (hp:Sd.cK p) (h_r:-9223372036854775808<=r/\r<=9223372036854775807) (w:World):
 aj prog 80 #[.agg (kJ p ka kn kc),.int .i64 r,.agg (alF s)] w λv w1=>v=.tuple #[.int .i64 ((Sd.kS p r s).1),.bool ((Sd.kS p r s).2)]/\Ch [] w w1:=by
 refine qU (ON (adC _)) (n:=30) (xs:=[.agg (ff p ka kn kc),.int .i64 r,.agg (smV s)]) (v:=.az [.int .i64 (Sd.kS p r s).1,.bool (Sd.kS p r s).2]) ?_;rw[adD];have hb:=hp.beyond;have hs:=hp.oL;unfold Sd.Pol.beyond at hb;unfold Sd.Pol.oL at hs;have em:(if 0>r then 0 else r)=max r 0:=by by_cases h:0>r<;>simp[h]<;>omega
 rw[em];unfold Sd.kS Sd.Pol.beyond Sd.Pol.oL;refine aU (λh=>by rw[if_pos (.inl (by simpa using h))]) (λh=>⟨hb,aU (λh'=>by rw[if_pos (.inr (by simpa using h'))]) λh'=>?_⟩);rw[if_neg (by simp at h h';simp[h,h'])];unfold Sd.sat;refine aU (λh=>?_) (λh=>?_)
 ·have h:max r 0<p.i 46:=by simpa using h
  rw[if_pos h,iw (by omega)]
 ·rw[if_neg (by simpa using h)]
theorem Q5 (p:Sd.Pol) (ka:Nat->Option Addr) (kn kc:Nat->Nat) (pt:Sd.Point) (X:V->Prop):jQ prog [ztw] 30 95 [.agg (ff p ka kn kc),.agg (yB pt)] X=
 let n:Sd.X4:=Sd.X4.zip (λa b=>Sd.jf a b (p.i 54)) pt.now pt.bx
 ((aB pt.now.a/\aB pt.bx.a/\aB (p.i 54))/\(aB pt.now.b/\aB pt.bx.b/\aB (p.i 54))/\(aB pt.now.c/\aB pt.bx.c/\aB (p.i 54))/\(aB pt.now.d/\aB pt.bx.d/\aB (p.i 54))/\
   cond (!(n.a==pt.now.a&&(n.b==pt.now.b&&(n.c==pt.now.c&&(n.d==pt.now.d&&true))))) (X (.agg (yB ⟨pt.cls,pt.bx,n,{pt.cX with mD:=4}⟩))) (X (.agg (yB ⟨pt.cls,pt.bx,n,pt.cX⟩)))):=by kernel_rfl
theorem adE (p:Sd.Pol) (ka:Nat->Option Addr) (kn kc:Nat->Nat) (pt:Sd.Point) (hp:Sd.cK p) (pz:-9223372036854775808<=pt.bx.a/\pt.bx.a<=9223372036854775807) (pB:-9223372036854775808<=pt.bx.b/\pt.bx.b<=9223372036854775807) (pC:-9223372036854775808<=pt.bx.c/\pt.bx.c<=9223372036854775807) (pD:-9223372036854775808<=pt.bx.d/\pt.bx.d<=9223372036854775807) (pE:-9223372036854775808<=pt.now.a/\pt.now.a<=9223372036854775807) (pF:-9223372036854775808<=pt.now.b/\pt.now.b<=9223372036854775807) (pG:-9223372036854775808<=pt.now.c/\pt.now.c<=9223372036854775807) (pH:-9223372036854775808<=pt.now.d/\pt.now.d<=9223372036854775807) (w:World):
 aj prog 95 #[.agg (kJ p ka kn kc),.agg (Tr pt)] w λv w1=>v=.agg (Tr (Sd.Point.step p pt))/\Ch [] w w1:=by
 refine qU (ON (adt _)) (n:=30) (xs:=[.agg (ff p ka kn kc),.agg (yB pt)]) (v:=.agg (yB (pt.step p))) ?_;rw[Q5];have hr:=hp.LF;unfold Sd.Pol.LF at hr;have hr:aB (p.i 54):=by unfold aB;omega
 refine⟨⟨pE,pz,hr⟩,⟨pF,pB,hr⟩,⟨pG,pC,hr⟩,⟨pH,pD,hr⟩,?_⟩;have e:Sd.Point.step p pt=⟨pt.cls,pt.bx,Sd.X4.zip (λa b=>Sd.jf a b (p.i 54)) pt.now pt.bx,if Sd.X4.zip (λa b=>Sd.jf a b (p.i 54)) pt.now pt.bx=pt.now then pt.cX else{pt.cX with mD:=4}⟩:=rfl;rw[e];generalize Sd.X4.zip (λa b=>Sd.jf a b (p.i 54)) pt.now pt.bx=n;refine aU (λh=>?_) (λh=>?_)
 ·rw[if_neg];intro h2;rw[h2]at h;simp at h
 ·rw[if_pos];rcases n with⟨n1,n2,n3,n4⟩;rcases pt with⟨q,u,⟨m1,m2,m3,m4⟩,l⟩;simp at h;simp[h]
end Go.Proofs.YtggfpcggakghnaaGreatDoor
