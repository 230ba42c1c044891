/- Part 20 of the proof. -/
import Derived.Test.YtlkpikfddnjilaaGreatDoorQ19
set_option linter.all false
set_option maxRecDepth 100000
set_option maxHeartbeats 4000000
open Go.Proofs.Tryz
open Go.IntKind (u8 u16 u32 u64 i64)
namespace Go.Proofs.YtlkpikfddnjilaaGreatDoor
open Go Go.RowKit Go.BigFrame Sx Vx
variable{fr:Sd.Reply->Nat×Sd.Byt}
def kU (k:LK):LK:={k with px:=none,pn:=0,pc:=0}
def wu (C:Sd.Crypt):SM fr:=λar k s F K=>match ar with
 |[.int .i64 l,.raw vp]=>(vp=dX k/\WA k s l/\By k.pf)/\∀F',K (.aC []) (s.prove C l k.pn k.pf) F'
 |_=>False
theorem ag2 (a b c:Nat) (more:List Nat):Gl gS (aX a b c++more):=by
 intro g i iu;unfold gS at iu;split at iu
 ·obtain rfl:=Option.some.inj iu;exact⟨by simp,rfl⟩
 ·obtain rfl:=Option.some.inj iu;exact⟨by simp,rfl⟩
 ·cases iu
theorem WG {k:LK} {s:Sd.Scene} (F:cw fr (bV k s)) (h0:0<k.pn):∃(bp:Nat) (t:List Value) (F0:cw fr (bV (kU k) s)),k.px=some ⟨bp,0,none⟩/\k.pn<=k.pc/\F0.vs=F.vs/\F0.vr=F.vr/\F.B=F0.B++[⟨bp,true,.cells (af [] (ew k.pn k.pf t).c).toArray 5 (0,0)⟩]/\
 (af [] (ew k.pn k.pf t).c).toArray=cN k.pn k.pf k.pc:=by
 obtain⟨b0,b1,b2,b3,b4,hB,k0,k1,k2,k3,k4⟩:=F.hk;obtain⟨hle,h|⟨bp,hx,hb⟩⟩:=k4
 ·have:=h.2.1;simp only[bV]at this;omega
 ·have e:(af [] (ew k.pn k.pf (List.replicate (k.pc-k.pn) (.int .u8 0))).c).toArray=cN k.pn k.pf k.pc:=by
   simp[ew,af,cl,cN,fi]
  refine⟨bp,List.replicate (k.pc-k.pn) (.int .u8 0),{F with Bk:=b0++(b1++(b2++(b3++[]))),hk:=⟨b0,b1,b2,b3,[],rfl,k0,k1,k2,k3,⟨Nat.le_refl _,.inl ⟨rfl,rfl,rfl,rfl⟩⟩⟩},hx,hle,rfl,rfl,?_,e⟩;rw[e,tQ,tQ];show _=(F.Br++(F.Bs++(F.Bf++(F.Bq++(b0++(b1++(b2++(b3++[]))))))))++_;rw[hB,hb];simp[List.append_assoc,bV]
theorem acZ {k:LK} {s:Sd.Scene} (F0:cw fr (bV (kU k) s)) {bp:Nat} (hx:k.px=some ⟨bp,0,none⟩) (hle:k.pn<=k.pc):∃F:cw fr (bV k s),F.vs=F0.vs/\F.vr=F0.vr/\F.B=F0.B++[⟨bp,true,.cells (cN k.pn k.pf k.pc) 5 (0,0)⟩]:=by
 obtain⟨b0,b1,b2,b3,b4,hB,k0,k1,k2,k3,k4⟩:=F0.hk;have h4:b4=[]:=by
  obtain⟨_,h|⟨b,hx,_⟩⟩:=k4
  ·exact h.2.2.2
  ·cases hx
 subst h4;refine⟨{F0 with Bk:=b0++(b1++(b2++(b3++[⟨bp,true,.cells (cN k.pn k.pf k.pc) 5 (0,0)⟩]))),hk:=⟨b0,b1,b2,b3,_,rfl,k0,k1,k2,k3,⟨hle,.inr ⟨bp,hx,rfl⟩⟩⟩},rfl,rfl,?_⟩;rw[tQ,tQ];show(F0.Br++(F0.Bs++(F0.Bf++(F0.Bq++(b0++(b1++(b2++(b3++[(⟨bp,true,.cells (cN k.pn k.pf k.pc) 5 (0,0)⟩:ax)]))))))))=_;rw[hB];simp[List.append_assoc]
theorem IH {k:LK} {s:Sd.Scene} (F:cw fr (bV k s)) (F0:cw fr (bV (kU k) s)) (h1:F0.vs=F.vs) (h2:F0.vr=F.vr):cO (kU k) s F0=cO k s F:=by
 have e:vQ 3 F0=vQ 3 F:=by unfold vQ;rw[h1,h2]
 show[aF (kU k),iq (kU k),vQ 3 F0,ee (kU k) 4 s,gp s]=_;rw[e];rfl
theorem Gs (ht:Body (fr:=fr) 130 bM):Body (fr:=fr) 86 (wu (aj b_)):=by
 intro ar k s F Kb a b c R ms w0 w h0 hq hM S;unfold wu at hM;split at hM
 ·rename_i l vp;obtain⟨⟨rfl,hP,hf⟩,hK⟩:=hM;have hLP:=agZ (fr:=fr) b_ ht;by_cases hn:k.pn=10
  ·obtain⟨bp,t,F0,hx,hle,v1,v2,hB,fR⟩:=WG F (by omega);obtain⟨e,he⟩:∃e,k.pc=e+10:=⟨k.pc-10,by omega⟩;rw[hn]at hB fR hK;have eP:lits (aX a b c++[bp]) (aX a b c++[bp]) (cO (kU k) s F0++[ew 10 k.pf t])=lits (aX a b c) (aX a b c) (cO k s F)++[⟨bp,true,.cells (af [] (ew 10 k.pf t).c).toArray 5 (0,0)⟩]:=by
    rw[IH F F0 v1 v2,aQ _ _ _ _ rfl,aR (ids:=aX a b c) (more:=[bp]) (aX a b c) (cO k s F) rfl];rfl
   have S1:St ms w0 (lits (aX a b c++[bp]) (aX a b c++[bp]) (cO (kU k) s F0++[ew 10 k.pf t])++ag [cx (kU k) s F0] R) w:=by
    rw[eP];have en:ag [cx (kU k) s F0] R=F0.B++R:=rfl;rw[en];rw[hB]at S;refine S.perm ?_;rw[List.append_assoc,List.append_assoc];refine List.Perm.append_left _ ?_;exact List.perm_append_comm_assoc _ _ _
   have fI:cI (dw prog gS (LP fr (aj b_))) 90 86 [.ptr 2 0,.int .i64 l,.sl 5 0 10 (e+10)] (cO (kU k) s F0++[ew 10 k.pf t]) [cx (kU k) s F0] (QB (kU k) s 10 k.pf t λv s' _=>∀F',Kb v s' F'):=by
    have hP0:WA (kU k) s l:=⟨hP.r,hP.lo,hP.key,hP.ke,hP.bR,hP.iY,hP.ep⟩;have hl:l=1\/l=2\/l=3:=by have:=hP.lo;omega
    have hK0:∀F0':cw fr (bV (kU k) (s.prove (aj b_) l 10 k.pf)),∀F',Kb (.aC []) (s.prove (aj b_) l 10 k.pf) F':=λ_=>hK;rcases hl with rfl|rfl|rfl
    ·rw[Wx];refine AS (λe=>je (i:=0) (by decide) rfl rfl rfl) (λe r key=>?_) rfl (by decide) hq hP0 hf hK0;obtain⟨_,b1,b3⟩:=mW s 1 r key;exact wq (i:=0) (by decide) rfl rfl rfl b1 (b3 (by decide)).1 (b3 (by decide)).2
    ·rw[Wy];refine AS (λe=>je (i:=1) (by decide) rfl rfl rfl) (λe r key=>?_) rfl (by decide) hq hP0 hf hK0;obtain⟨_,b1,b3⟩:=mW s 2 r key;exact wq (i:=1) (by decide) rfl rfl rfl b1 (b3 (by decide)).1 (b3 (by decide)).2
    ·rw[Wz];refine AS (λe=>je (i:=2) (by decide) rfl rfl rfl) (λe r key=>?_) rfl (by decide) hq hP0 hf hK0;obtain⟨_,b1,b3⟩:=mW s 3 r key;exact wq (i:=2) (by decide) rfl rfl rfl b1 (b3 (by decide)).1 (b3 (by decide)).2
   have ea:(aq (aX a b c) (.ptr 2 0::[.int .i64 l,.raw (dX k)])).toArray=(aq (aX a b c++[bp]) [.ptr 2 0,.int .i64 l,.sl 5 0 10 (e+10)]).toArray:=by
    have:dX k=.slice (some ⟨bp,0,none⟩) 10 (e+10):=by unfold dX;rw[hx,hn,he]
    rw[this];rfl
   rw[ea];refine(bw hLP.T hLP.Q 90 (C:=dw prog gS (LP fr (aj b_))) (ag2 a b c [bp]) rfl S1 fI).mono ?_;rintro v w' ⟨x,more,bl',ch',rfl,h1,S',s',F',hv,hp,hK',hb,rfl⟩;have ev:den (aX a b c++[bp]++more) x=den [] x:=by have:=bx (ids:=[]) (more:=aX a b c++[bp]++more) x hv;simpa using this
   rw[<-hn]at fR;obtain⟨F2,u1,u2,hB2⟩:=acZ F' hx hle;refine⟨x,s',F2,ev,hv,hp,hK' F2,?_⟩;have fW:bl'=(cO (kU k) s' F'++[ew 10 k.pf t])++bl'.drop 6:=by rw[<-hb,List.take_append_drop]
   rw[fW]at S';have e2:lits (aX a b c++[bp]++more) (aX a b c++[bp]++more) ((cO (kU k) s' F'++[ew 10 k.pf t])++bl'.drop 6)=(lits (aX a b c) (aX a b c) (cO k s' F2)++[⟨bp,true,.cells (af [] (ew 10 k.pf t).c).toArray 5 (0,0)⟩])++lits (aX a b c++[bp]++more) more (bl'.drop 6):=by
    rw[aQ _ _ _ _ rfl,aR (ids:=aX a b c++[bp]) (more:=more) (aX a b c++[bp]) _ rfl];rw[<-IH F2 F' u1.symm u2.symm,aQ _ _ _ _ rfl,aR (ids:=aX a b c) (more:=[bp]) (aX a b c) (cO (kU k) s' F') rfl];rfl
   rw[e2]at S';have e3:ag [cx (kU k) s' F'] R=F'.B++R:=rfl;rw[e3]at S';have S2:=S'.sub (bs':=(lits (aX a b c) (aX a b c) (cO k s' F2)++[⟨bp,true,.cells (af [] (ew 10 k.pf t).c).toArray 5 (0,0)⟩])++(F'.B++R)) (by
    rw[List.append_assoc (lits _ _ _++_)];exact List.Sublist.append_left (List.sublist_append_right _ _) _)
   rw[hB2];rw[hn]at fR⊢;rw[fR]at S2;refine S2.perm ?_;rw[List.append_assoc,List.append_assoc];refine List.Perm.append_left _ ?_;exact List.perm_append_comm_assoc _ _ _
  ·refine dy (M:=λar k s F K=>(ar=[.int .i64 l,.raw (dX k)]/\k.pn≠10/\s.recs.length<=1000)/\∀F',K (.aC []) (s.cW (aj b_) l 13) F') (n:=90) hLP ?_ _ k s F Kb a b c R ms w0 w h0 hq ⟨⟨rfl,hn,by have:=hP.r.2;omega⟩,?_⟩ S
   ·rintro ar k s F Kb _ hq ⟨⟨rfl,hn,hr⟩,hK⟩;rw[Lr];refine aO (λe=>⟨eO hq,vU hr λF1=>aH rfl hK F1⟩) (λe=>?_);have:(k.pn:Int)=10:=by simpa using e
    omega
   ·have:s.prove (aj b_) l k.pn k.pf=s.cW (aj b_) l 13:=by unfold Sd.Scene.prove;rw[if_pos hn]
    rw[this]at hK;exact hK
 ·exact hM.elim
end Go.Proofs.YtlkpikfddnjilaaGreatDoor
namespace Go.Proofs.YtlkpikfddnjilaaGreatDoor
open Go Go.RowKit Go.BigFrame Sx Vx
def gR:Nat->Option Nat
 |0=>some 0
 |_=>none
def ac0:QF:=⟨134,λargs _=>match args with
 |[.agg wl,.int .i64 n]=>(match abK wl with
  |some z=>some ((0<=z.high/\z.high<=4294967295)/\(0<=n/\n<=4294967295),.aC [.agg (af5 (dL z n)),.bool (CE (dL z n) z)])
  |none=>none)
 |_=>none⟩
theorem WH (gl:Nat->Option Nat):ac0.Ok prog gl:=by
 intro args bl p v h hp ids w _ _;unfold ac0 at h;dsimp only at h;split at h
 ·rename_i wl n;split at h
  ·rename_i z hz;simp only[Option.some.injEq,Prod.mk.injEq]at h;obtain⟨rfl,rfl⟩:=h;obtain rfl:=Vz hz;exact told (af1 z n hp.1 hp.2 w)
  ·cases h
 ·cases h
def QE {G:Type} (k:LK):gZ G:=λargs bl ch K=>match args with
 |[.agg [.dS .u8 32 key],.int .i64 l,.sl i 0 n c]=>(match bl[i]?with
  |some b=>(match b.c with
   |[.dS .u8 n' f,.rest t]=>cond (BK b.ty 5&&dE bl.length bl) ((bl[0]?=some (aF k)/\n=n'/\n<=58/\n<=c/\(0<=l/\l<4294967296))/\
    ((n<8\/kl key l (n-8) f=false)->K (.aC [.raw (.slice none 0 0),.int .i64 14]) bl ch)/\
    (8<=n->kl key l (n-8) f=true->(n=8->∀(x:Option Addr) (c':Nat),K (.aC [.raw (.slice x 0 c'),.int .i64 0]) bl ch)/\
     (8<n->∀(c':Nat) (t':List Value),n-8<=c'->K (.aC [.sl bl.length 0 (n-8) c',.int .i64 0]) (bl++[ew (n-8) f t']) ch))) False
   |_=>False)
  |none=>False)
 |[.agg [.dS .u8 32 key],.int .i64 l,.raw (.slice x 0 c)]=>K (.aC [.raw (.slice none 0 0),.int .i64 14]) bl ch
 |_=>False
theorem Gt {G:Type} [Bl G] (k:LK):Sound (G:=G) prog gR 133 (QE k):=by
 intro args ids bl ch R ms w0 w K hg hl S hc;unfold QE at hc;split at hc
 ·rename_i key l i n c;split at hc
  ·rename_i b hb;split at hc
   ·rename_i n' f t hbc;cases hq:BK b.ty 5&&dE bl.length bl with
    |false=>rw[hq]at hc;exact hc.elim
    |true=>
     rw[hq]at hc;simp only[cond_true]at hc;simp only[Bool.and_eq_true]at hq;obtain⟨⟨hr,rfl,hn,Bo,T7⟩,Mv,ag3⟩:=hc;have bD:=(cQ hl S hb).2;rw[hbc,zj hq.1]at bD;have lY:w.heap[0]?=some (.cells (ai .u32 64 aT) k.tg (0,0)):=by
      have h1:=(cQ hl S hr).2;rw[(hg 0 0 rfl).2]at h1;have e:(af ids (aF k).c).toArray=ai .u32 64 aT:=by kernel_rfl
      rw[e]at h1;exact h1
     have h8:fl w (ids.getD i 0) 0 n f:=by
      intro j hj;rw[cell_of bD];have e:(af ids [V.dS .u8 n f,.rest t]).toArray=((List.range n).map (λj=>Value.int .u8 (f j))++t).toArray:=by simp[af,cl]
      rw[e];simp only[Nat.zero_add,List.getElem?_toArray];rw[List.getElem?_append_left (by simpa using hj),List.getElem?_map,List.getElem?_range hj];rfl
     have ea:(aq ids [.agg [.dS .u8 32 key],.int .i64 l,.sl i 0 n c]).toArray=#[.agg (ai .u8 32 key),.int .i64 l,.slice (some ⟨ids.getD i 0,0,none⟩) n c]:=by kernel_rfl
     rw[ea];have fin:∀{v:Value} {w1:World},v=.tuple #[.slice none 0 0,.int .i64 14]->Ch [] w w1->K (.aC [.raw (.slice none 0 0),.int .i64 14]) bl ch->∃x more bl' ch',v=den (ids++more) x/\(ids++more).length=bl'.length/\St ms w0 (lits (ids++more) (ids++more) bl'++ag ch' R) w1/\K x bl' ch':=by
      rintro v w1 rfl fP hk;exact⟨_,[],bl,ch,by simp[den,aq],by simpa using hl,by simpa using S.quiet fP,hk⟩
     rcases Nat.lt_or_ge n 8 with h|h
     ·exact(vx key l _ n c h w).mono λv w1 ⟨hv,fP⟩=>fin hv fP (Mv (.inl h))
     ·obtain⟨m,rfl⟩:∃m,n=m+8:=⟨n-8,by omega⟩;rw[Nat.add_sub_cancel]at Mv ag3;cases ho:kl key l m f with
      |false=>exact(U3 key l _ 0 m c f (by omega) Bo T7 ho w lY h8).mono λv w1 ⟨hv,fP⟩=>fin hv fP (Mv (.inr ho))
      |true=>
       refine(OH key l _ 0 m c f (by omega) Bo T7 ho w lY h8).mono ?_;rintro v w1 ⟨x1,c1,xf,rfl,h8',S1⟩;obtain⟨y0,y1⟩:=ag3 h ho;have hS:=S.quiet S1.ch;rcases Nat.eq_zero_or_pos m with rfl|h0
       ·exact⟨_,[],bl,ch,by simp[den,aq],by simpa using hl,by simpa using hS,y0 rfl x1 c1⟩
       ·obtain⟨bn,hle,rfl,rfl⟩:=pW h8' h0;refine⟨_,[bn],_,ch,?_,by simp[hl],?_,y1 (by omega) c1 (List.replicate (c1-m) (.int .u8 0)) hle⟩
        ·simp only[den,aq];rw[<-hl,cv]
        ·rw[aQ _ _ _ _ hl,aR _ _ (by rw[hl];exact hq.2)];have e2:lits (ids++[bn]) [bn] [ew m f (List.replicate (c1-m) (.int .u8 0))]=[⟨bn,true,.cells (cN m f c1) 5 (0,0)⟩]:=by
          simp[lits,aL,ew,af,cl,cN,fi]
         rw[e2];have ajG:=S1.pP (x:=⟨bn,true,.cells (cN m f c1) 5 (0,0)⟩) (by simp) rfl;have mj:w.heap.size<=bn:=by rcases ajG with h|h;cases h;exact h
         have:=S.new S1.ch mj (S1.at' (x:=⟨bn,true,.cells (cN m f c1) 5 (0,0)⟩) (by simp));refine this.perm ?_;rw[List.append_assoc];exact List.perm_middle.symm
   ·exact hc.elim
  ·exact hc.elim
 ·rename_i key l x c;have ea:(aq ids [.agg [.dS .u8 32 key],.int .i64 l,.raw (.slice x 0 c)]).toArray=#[.agg (ai .u8 32 key),.int .i64 l,.slice x 0 c]:=by kernel_rfl
  rw[ea];refine(vx key l x 0 c (by decide) w).mono ?_;rintro v w1 ⟨rfl,fP⟩;exact⟨_,[],bl,ch,by simp[den,aq],by simpa using hl,by simpa using S.quiet fP,hc⟩
 ·exact hc.elim
def LO (k:LK):List (dF Empty):=⟨133,false,QE k⟩::qL Empty (qtk::ac0::QV)
theorem II (k:LK):ah prog gR (LO k):=ah.cons ⟨Gt k,λe=>by cases e⟩ (fJ (aW.cons (Qz gR) (aW.cons (WH gR) (tm gR))))
def fY (e:Int):V:=.aC [.agg (cB (Sd.iZ 0)),.int .i64 e]
def wv (w:Sd.cU) (b:Int) (m:Sd.db) (e:Int) (X:V->Option (Sd.cU×Sd.Timer)->Prop):Prop:=
 cond (e !=0) (X (fY 13) none) (cond (m.kind==1) (X (fY 13) none) (cond (m.kind==2) (X (fY 13) none)
  (((0<=w.high/\w.high<=4294967295)/\(0<=m.seq/\m.seq<=4294967295))/\cond (!(CE (dL w m.seq) w)) (X (fY 15) none)
    ((-9223372036854775808<=b/\b<=9223372036854775807)/\X (.aC [.agg (cB m),.int .i64 0]) (some (dL w m.seq,Sd.Timer.start b))))))
def wx (k:LK) (s:Sd.br) (b l:Int) (n c:Nat) (f:Nat->Int) (X:V->Option (Sd.cU×Sd.Timer)->Prop):Prop:=
 cond (!s.on) (X (fY 16) none) ((some (aF k)=some (aF k)/\n=n/\n<=58/\n<=c/\(0<=l/\l<4294967296))/\
  ((n<8\/kl s.key l (n-8) f=false)->X (fY 14) none)/\
  (8<=n->kl s.key l (n-8) f=true->(n=8->∀(x:Option Addr) (c':Nat),True/\wv s.seen b (tR 0 λ_=>0) (wk 0 λ_=>0) X)/\
   (8<n->∀(c':Nat) (t':List Value),n-8<=c'->(n-8<=n-8/\n-8<=c'/\By f)/\wv s.seen b (tR (n-8) f) (wk (n-8) f) X)))
def MB (s:Sd.br):Option (Sd.cU×Sd.Timer)->Sd.br
 |none=>s
 |some (w,t)=>{s with seen:=w,on:=true,aN:=t}
def kT (X:V->List VB->Prop):VK Empty:=λv bl _=>X v (bl.take 3)
section
variable(k:LK) (y:TC) (n c:Nat) (f:Nat->Int) (t:List Value) (X:V->List VB->Prop)
theorem ajH:cI (dw prog gR (LO k)) 60 87 [.ptr 1 0,.int .i64 1,.sl 2 0 n c] [aF k,⟨true,⟨143,(0,0)⟩,bU y⟩,ew n f t] [] (kT X)=wx k y.s0 y.b 1 n c f λv o=>X v [aF k,⟨true,⟨143,(0,0)⟩,bU {y with s0:=MB y.s0 o}⟩,ew n f t]:=by kernel_rfl
theorem ajI:cI (dw prog gR (LO k)) 60 87 [.ptr 1 0,.int .i64 2,.sl 2 0 n c] [aF k,⟨true,⟨143,(0,0)⟩,bU y⟩,ew n f t] [] (kT X)=wx k y.sa y.b 2 n c f λv o=>X v [aF k,⟨true,⟨143,(0,0)⟩,bU {y with sa:=MB y.sa o}⟩,ew n f t]:=by kernel_rfl
theorem ajJ:cI (dw prog gR (LO k)) 60 87 [.ptr 1 0,.int .i64 3,.sl 2 0 n c] [aF k,⟨true,⟨143,(0,0)⟩,bU y⟩,ew n f t] [] (kT X)=wx k y.sb y.b 3 n c f λv o=>X v [aF k,⟨true,⟨143,(0,0)⟩,bU {y with sb:=MB y.sb o}⟩,ew n f t]:=by kernel_rfl
def lK (y:TC) (l:Int):Sd.br:=if l=1 then y.s0 else if l=2 then y.sa else y.sb
theorem ajK (x:Option Addr):cI (dw prog gR (LO k)) 60 87 [.ptr 1 0,.int .i64 1,.raw (.slice x 0 c)] [aF k,⟨true,⟨143,(0,0)⟩,bU y⟩] [] (λv bl _=>X v (bl.take 2))=cond (!y.s0.on) (X (fY 16) [aF k,⟨true,⟨143,(0,0)⟩,bU y⟩]) (X (fY 14) [aF k,⟨true,⟨143,(0,0)⟩,bU y⟩]):=by kernel_rfl
theorem ajL (x:Option Addr):cI (dw prog gR (LO k)) 60 87 [.ptr 1 0,.int .i64 2,.raw (.slice x 0 c)] [aF k,⟨true,⟨143,(0,0)⟩,bU y⟩] [] (λv bl _=>X v (bl.take 2))=cond (!y.sa.on) (X (fY 16) [aF k,⟨true,⟨143,(0,0)⟩,bU y⟩]) (X (fY 14) [aF k,⟨true,⟨143,(0,0)⟩,bU y⟩]):=by kernel_rfl
theorem ajM (x:Option Addr):cI (dw prog gR (LO k)) 60 87 [.ptr 1 0,.int .i64 3,.raw (.slice x 0 c)] [aF k,⟨true,⟨143,(0,0)⟩,bU y⟩] [] (λv bl _=>X v (bl.take 2))=cond (!y.sb.on) (X (fY 16) [aF k,⟨true,⟨143,(0,0)⟩,bU y⟩]) (X (fY 14) [aF k,⟨true,⟨143,(0,0)⟩,bU y⟩]):=by kernel_rfl
end
variable{fr:Sd.Reply->Nat×Sd.Byt}
def dz (s:Sd.br) (b l:Int) (n:Nat) (f:Nat->Int):V×Option (Sd.cU×Sd.Timer):=
 if s.on=false then(fY 16,none)else if n<8\/kl s.key l (n-8) f=false then(fY 14,none)else match b_ (n-8) f with
 |none=>(fY 13,none)
 |some m=>if m.kind=1\/m.kind=2 then(fY 13,none)else if dL s.seen m.seq=s.seen then(fY 15,none)else(.aC [.agg (cB m),.int .i64 0],some (dL s.seen m.seq,Sd.Timer.start b))
theorem Ls {w:Sd.cU} {b:Int} {n:Nat} {f:Nat->Int} {X:V->Option (Sd.cU×Sd.Timer)->Prop} (hw:0<=w.high/\w.high<=4294967295) (hb:0<=b/\b<=1000)
 (h0:b_ n f=none->X (fY 13) none) (h1:∀m,b_ n f=some m->if m.kind=1\/m.kind=2 then X (fY 13) none else if dL w m.seq=w then X (fY 15) none else X (.aC [.agg (cB m),.int .i64 0]) (some (dL w m.seq,Sd.Timer.start b))):
 wv w b (tR n f) (wk n f) X:=by
 unfold wv;refine aO (λe=>h0 (IG e)) (λe=>?_);have hm:=IF e;have h2:=h1 _ hm;have zo:=Gq hm;refine aO (λe1=>?_) (λe1=>aO (λe2=>?_) (λe2=>⟨⟨hw,zo.seq⟩,aO (λe3=>?_) (λe3=>⟨by omega,?_⟩)⟩))
 ·rw[if_pos (.inl (by simpa using e1))]at h2;exact h2
 ·rw[if_pos (.inr (by simpa using e2))]at h2;exact h2
 ·rw[if_neg (by simp at e1 e2;simp[e1,e2]),if_pos ((yd _ _).1 (by simpa using e3))]at h2;exact h2
 ·rw[if_neg (by simp at e1 e2;simp[e1,e2]),if_neg (λh=>by rw[(yd _ _).2 h]at e3;simp at e3)]at h2;exact h2
theorem sS {k:LK} {s:Sd.br} {b l:Int} {n c:Nat} {f:Nat->Int} {X:V->Option (Sd.cU×Sd.Timer)->Prop} (hw:s.on=true->0<=s.seen.high/\s.seen.high<=4294967295) (hb:0<=b/\b<=1000) (hn:n<=58) (hc:n<=c) (hl:1<=l/\l<=3) (hf:By f)
 (h:X (dz s b l n f).1 (dz s b l n f).2):wx k s b l n c f X:=by
 unfold dz at h;unfold wx;refine aO (λe=>?_) (λe=>⟨⟨rfl,rfl,hn,hc,by omega,by omega⟩,λh14=>?_,λh8 ho=>?_⟩)
 ·rw[if_pos (by simpa using e)]at h;exact h
 ·rw[if_neg (by simpa using e),if_pos h14]at h;exact h
 ·rw[if_neg (by simpa using e),if_neg (by rw[ho];simp;omega)]at h;have main:∀g:Nat->Int,b_ (n-8) g=b_ (n-8) f->wv s.seen b (tR (n-8) g) (wk (n-8) g) X:=by
   intro g hg;refine Ls (hw (by simpa using e)) hb (λh0=>?_) (λm hm=>?_)
   ·rw[hg]at h0;rw[h0]at h;exact h
   ·rw[hg]at hm;rw[hm]at h;simp only at h;split
    ·rename_i h1;rw[if_pos h1]at h;exact h
    ·rename_i h1;rw[if_neg h1]at h;split
     ·rename_i h2;rw[if_pos h2]at h;exact h
     ·rename_i h2;rw[if_neg h2]at h;exact h
  refine⟨λh8' x c'=>⟨trivial,?_⟩,λh8' c' t' Tc=>⟨⟨Nat.le_refl _,Tc,hf⟩,main f rfl⟩⟩;have h0:n-8=0:=by omega
  have:=main (λ_=>0) (by rw[h0];rfl);rw[h0]at this;exact this
theorem QI (t:Sd.Tab) (p:Sd.Pol) (l:Int) (n:Nat) (f:Nat->Int) (hl:1<=l/\l<=3):
 (∃e,Sd.Tab.take (aj b_) p t l n f=(t,.error e)/\dz (t.az (l.toNat-1)) p.bR l n f=(fY e,none))\/
 (∃m w,Sd.Tab.take (aj b_) p t l n f=(t.eU (l.toNat-1) {(t.az (l.toNat-1))with seen:=w,on:=true,aN:=.start p.bR},.ok m)/\dz (t.az (l.toNat-1)) p.bR l n f=(.aC [.agg (cB m),.int .i64 0],some (w,Sd.Timer.start p.bR))):=by
 have tP:t.fq l=(t.az (l.toNat-1)).on:=by
  unfold Sd.Tab.fq;simp[hl.1,hl.2]
 unfold Sd.Tab.take dz;rw[tP];by_cases h1:(t.az (l.toNat-1)).on=false
 ·rw[if_pos h1,if_pos h1];exact .inl ⟨16,rfl,rfl⟩
 ·rw[if_neg h1,if_neg h1];by_cases h2:n<8\/kl (t.az (l.toNat-1)).key l (n-8) f=false
  ·rw[if_pos h2];have:n<8\/(aj b_).opens (t.az (l.toNat-1)).key l n f=false:=h2;rw[if_pos this];exact .inl ⟨14,rfl,rfl⟩
  ·rw[if_neg h2];have:¬(n<8\/(aj b_).opens (t.az (l.toNat-1)).key l n f=false):=h2;rw[if_neg this];rw[show(aj b_).take (n-8) f=b_ (n-8) f from rfl];cases htk:b_ (n-8) f with
   |none=>exact .inl ⟨13,rfl,rfl⟩
   |some m=>
    simp only;by_cases h3:m.kind=1\/m.kind=2
    ·rw[if_pos h3,if_pos h3];exact .inl ⟨13,rfl,rfl⟩
    ·rw[if_neg h3,if_neg h3];by_cases h4:dL (t.az (l.toNat-1)).seen m.seq=(t.az (l.toNat-1)).seen
     ·rw[if_pos h4];have:(aj b_).oh (t.az (l.toNat-1)).seen m.seq=(t.az (l.toNat-1)).seen:=h4;rw[if_pos this];exact .inl ⟨15,rfl,rfl⟩
     ·rw[if_neg h4];have:¬(aj b_).oh (t.az (l.toNat-1)).seen m.seq=(t.az (l.toNat-1)).seen:=h4;rw[if_neg this];exact .inr ⟨m,dL (t.az (l.toNat-1)).seen m.seq,rfl,rfl⟩
theorem IJ {d:FD} (F:cw fr d) (h0:0<d.k.pn):∃(bp:Nat) (t:List Value) (X:List ax),d.k.px=some ⟨bp,0,none⟩/\d.k.pn<=d.k.pc/\F.B=X++[⟨bp,true,.cells (af [] (ew d.k.pn d.k.pf t).c).toArray 5 (0,0)⟩]:=by
 obtain⟨b0,b1,b2,b3,b4,hB,k0,k1,k2,k3,k4⟩:=F.hk;obtain⟨hle,h|⟨bp,hx,hb⟩⟩:=k4
 ·have:=h.2.1;omega
 ·have e:(af [] (ew d.k.pn d.k.pf (List.replicate (d.k.pc-d.k.pn) (.int .u8 0))).c).toArray=cN d.k.pn d.k.pf d.k.pc:=by
   simp[ew,af,cl,cN,fi]
  refine⟨bp,List.replicate (d.k.pc-d.k.pn) (.int .u8 0),F.Br++(F.Bs++(F.Bf++(F.Bq++(b0++(b1++(b2++b3)))))),hx,hle,?_⟩;rw[e,tQ,hB,hb];simp[List.append_assoc]
def Gu (C:Sd.Crypt):gZ (Gh fr):=λargs bl ch K=>match args,ch with
 |[.ptr it 0,.int .i64 l,.raw vp],g::rest=>(match bl[it]?with
  |some ⟨true,⟨143,(0,0)⟩,tc⟩=>(match vP tc with
   |some y=>cond (!(Nat.beq it 0)) ((vp=dX g.d.k/\bl[0]?=some (aF g.d.k)/\g.d.k.pn<=58/\By g.d.k.pf/\(1<=l/\l<=3)/\(0<=y.b/\y.b<=1000)/\(∀i,i<3->((aK y).az i).on=true->0<=((aK y).az i).seen.high/\((aK y).az i).seen.high<=4294967295))/\
    (∀e,Sd.Tab.take C (pY y.b y.m) (aK y) l g.d.k.pn g.d.k.pf=(aK y,.error e)->K (fY e) bl ch)/\
    (∀t' m,Sd.Tab.take C (pY y.b y.m) (aK y) l g.d.k.pn g.d.k.pf=(t',.ok m)->K (.aC [.agg (cB m),.int .i64 0]) (bl.set it ⟨true,⟨143,(0,0)⟩,bU (En t' y.b y.m)⟩) ch)) False
   |none=>False)
  |_=>False)
 |_,_=>False
theorem QJ {bl:List VB} {i:Nat} {b:VB} (h:bl[i]?=some b):bl.set i b=bl:=by
 apply List.ext_getElem?;intro j;rw[List.getElem?_set];split
 ·rename_i e;subst e;have:=ck h;rw[if_pos this];exact h.symm
 ·rfl
theorem Dq:Sound prog gS 87 (Gu (fr:=fr) (aj b_)):=by
 intro args ids bl ch R ms w0 w K hg hl S hc;unfold Gu at hc;split at hc
 ·rename_i it l vp g rest;split at hc
  ·rename_i tc hb;split at hc
   ·rename_i y hy;cases hq:!(Nat.beq it 0)with
    |false=>rw[hq]at hc;exact hc.elim
    |true=>
     rw[hq]at hc;simp only[cond_true]at hc;obtain⟨⟨rfl,hr,hn,hf,hlo,hbt,hwn⟩,hE,hO⟩:=hc;obtain rfl:=j7 hy;have Pw:it≠0:=by rintro rfl;simp at hq
     have hi:=ck hb;have hi0:=ck hr;have ag4:ids.getD 0 0=0:=(hg 0 0 rfl).2;obtain⟨r,hrr,ef⟩:=vR hl (is:=[0,it]) (by simp[Ne.symm Pw]) (by simp[hi,hi0]);have Zn:(pY y.b y.m).bR=y.b:=rfl;have p1:=ef bl rfl;simp only[List.map_cons,List.map_nil,List.cons_append,List.nil_append]at p1;rw[cL hb,cL hr,ag4]at p1;have WI:(aK y).az (l.toNat-1)=lK y l:=by
      have:l=1\/l=2\/l=3:=by omega
      rcases this with rfl|rfl|rfl<;>rfl
     have QK:=QI (aK y) (pY y.b y.m) l g.d.k.pn g.d.k.pf hlo;rw[WI,Zn]at QK;have hw:(lK y l).on=true->0<=(lK y l).seen.high/\(lK y l).seen.high<=4294967295:=by rw[<-WI];exact hwn _ (by omega)
     have e0:ag (g::rest) R=g.F.B++ag rest R:=rfl;rw[e0]at S;have er:∀is:List Nat,aL is 0 (aF g.d.k)=aL [] 0 (aF g.d.k):=λis=>by
      have:=bY (ids:=[]) (more:=is) (aF g.d.k).c rfl;simp only[List.nil_append]at this;simp only[aL,this]
     have et:∀(is:List Nat) (i:Nat) (y:TC),aL is i ⟨true,⟨143,(0,0)⟩,bU y⟩=aL [] i ⟨true,⟨143,(0,0)⟩,bU y⟩:=λis i y=>by
      have:=bY (ids:=[]) (more:=is) (bU y) rfl;simp only[List.nil_append]at this;simp only[aL,this]
     have ep:∀(is:List Nat) (i n:Nat) (f:Nat->Int) (t:List Value),aL is i (ew n f t)=aL [] i (ew n f t):=λis i n f t=>by
      have:=bY (ids:=[]) (more:=is) (ew n f t).c rfl;simp only[List.nil_append]at this;simp only[aL,this]
     have back:∀(y':TC) (w':World) (Z:List ax),St ms w0 (aL [] 0 (aF g.d.k)::aL [] (ids.getD it 0) ⟨true,⟨143,(0,0)⟩,bU y'⟩::((r.map λj=>aL ids (ids.getD j 0) (bl.getD j g_))++Z)) w'->St ms w0 (lits ids ids (bl.set it ⟨true,⟨143,(0,0)⟩,bU y'⟩)++Z) w':=by
      intro y' w' Z hS;have p2:=ef (bl.set it ⟨true,⟨143,(0,0)⟩,bU y'⟩) (by simp);simp only[List.map_cons,List.map_nil,List.cons_append,List.nil_append]at p2;have e3:(r.map λj=>aL ids (ids.getD j 0) ((bl.set it ⟨true,⟨143,(0,0)⟩,bU y'⟩).getD j g_))=r.map λj=>aL ids (ids.getD j 0) (bl.getD j g_):=by
       apply List.map_congr_left;intro j hj;have:=hrr j hj;simp only[List.getD];rw[eN (λh=>this (by simp[h]))]
      rw[e3,cL (mR hi),cL (i:=0) (b:=aF g.d.k) (by rw[List.getElem?_set_ne Pw];exact hr),ag4,er,et]at p2;exact hS.perm (p2.symm.append_right Z)
     have done:∀{w':World} (y':TC) (v:V) (o:Option (Sd.cU×Sd.Timer)),fu 0 v=true->dz (lK y l) y.b l g.d.k.pn g.d.k.pf=(v,o)->y'=(if l=1 then{y with s0:=MB y.s0 o}else if l=2 then{y with sa:=MB y.sa o}else{y with sb:=MB y.sb o})->
      St ms w0 (lits ids ids (bl.set it ⟨true,⟨143,(0,0)⟩,bU y'⟩)++(g.F.B++ag rest R)) w'->∃x more bl' ch',den [] v=den (ids++more) x/\(ids++more).length=bl'.length/\St ms w0 (lits (ids++more) (ids++more) bl'++ag ch' R) w'/\K x bl' ch':=by
      intro w' y' v o hv ht hy' hS;have ev:∀is,den is v=den [] v:=λis=>by have:=bx (ids:=[]) (more:=is) v hv;simpa using this
      rcases QK with⟨e,h1,h2⟩|⟨m,w2,h1,h2⟩
      ·rw[h2]at ht;obtain⟨rfl,rfl⟩:=Prod.mk.inj ht;have hyy:y'=y:=by
        rw[hy'];split
        ·rfl
        ·split<;>rfl
       rw[hyy]at hS;have BM:bl.set it ⟨true,⟨143,(0,0)⟩,bU y⟩=bl:=QJ hb;rw[BM]at hS;exact⟨fY e,[],bl,g::rest,(ev _).symm,by simpa using hl,by rw[List.append_nil,e0];exact hS,hE e h1⟩
      ·rw[h2]at ht;obtain⟨rfl,rfl⟩:=Prod.mk.inj ht;refine⟨.aC [.agg (cB m),.int .i64 0],[],_,g::rest,(ev _).symm,by simpa using hl,?_,hO _ m h1⟩;rw[List.append_nil,e0];have hyy:En ((aK y).eU (l.toNat-1) {lK y l with seen:=w2,on:=true,aN:=.start y.b}) y.b y.m=y':=by
        rw[hy'];have:l=1\/l=2\/l=3:=by omega
        rcases this with rfl|rfl|rfl<;>rfl
       rw[hyy];exact hS
     have hX:∀(y':TC) (o:Option (Sd.cU×Sd.Timer)) (v:V),dz (lK y l) y.b l g.d.k.pn g.d.k.pf=(v,o)->fu 0 v=true:=by
      intro y' o v hv;rcases QK with⟨e,h1,h2⟩|⟨m,w2,h1,h2⟩<;>(rw[h2]at hv;obtain⟨rfl,rfl⟩:=Prod.mk.inj hv;rfl)
     rcases Nat.eq_zero_or_pos g.d.k.pn with hz|E2
     ·
      have hg2:Gl gR [0,ids.getD it 0]:=by
       intro gg i iu;unfold gR at iu;split at iu
       ·obtain rfl:=Option.some.inj iu;exact⟨by simp,rfl⟩
       ·cases iu
      have S1:=S.perm (p1.append_right _);simp only[List.cons_append]at S1;rw[er,et]at S1;have S2:St ms w0 (lits [0,ids.getD it 0] [0,ids.getD it 0] [aF g.d.k,⟨true,⟨143,(0,0)⟩,bU y⟩]++ag ([]:List Empty) ((r.map λj=>aL ids (ids.getD j 0) (bl.getD j g_))++(g.F.B++ag rest R))) w:=by
       simp only[lits,ag,er,et,List.cons_append,List.nil_append];exact S1
      let X:V->List VB->Prop:=λv b=>v=(dz (lK y l) y.b l g.d.k.pn g.d.k.pf).1/\b=[aF g.d.k,⟨true,⟨143,(0,0)⟩,bU y⟩]
      have hT:dz (lK y l) y.b l g.d.k.pn g.d.k.pf=if(lK y l).on=false then(fY 16,none)else(fY 14,none):=by
       unfold dz;rw[hz];split
       ·rfl
       ·rw[if_pos (.inl (by decide))]
      have fI:cI (dw prog gR (LO g.d.k)) 60 87 [.ptr 1 0,.int .i64 l,.raw (.slice g.d.k.px 0 g.d.k.pc)] [aF g.d.k,⟨true,⟨143,(0,0)⟩,bU y⟩] [] (λv bl _=>X v (bl.take 2)):=by
       have QM:cond (!(lK y l).on) (X (fY 16) [aF g.d.k,⟨true,⟨143,(0,0)⟩,bU y⟩]) (X (fY 14) [aF g.d.k,⟨true,⟨143,(0,0)⟩,bU y⟩]):=by
        refine aO (λe=>⟨?_,rfl⟩) (λe=>⟨?_,rfl⟩)
        ·rw[hT,if_pos (by simpa using e)]
        ·rw[hT,if_neg (by simpa using e)]
       have:l=1\/l=2\/l=3:=by omega
       rcases this with rfl|rfl|rfl
       ·rw[ajK];exact QM
       ·rw[ajL];exact QM
       ·rw[ajM];exact QM
      have ea:(aq ids [.ptr it 0,.int .i64 l,.raw (dX g.d.k)]).toArray=(aq [0,ids.getD it 0] [.ptr 1 0,.int .i64 l,.raw (.slice g.d.k.px 0 g.d.k.pc)]).toArray:=by
       have:dX g.d.k=.slice g.d.k.px 0 g.d.k.pc:=by unfold dX;rw[hz]
       rw[this];rfl
      rw[ea];refine(bw (II g.d.k).T (II g.d.k).Q 60 (C:=dw prog gR (LO g.d.k)) hg2 rfl S2 fI).mono ?_;rintro v w' ⟨x,more,bl',ch',rfl,h1,S3,hv,zo⟩;have WJ:fu 0 x=true:=by
       rw[hv];exact hX y _ _ rfl
      have fW:bl'=[aF g.d.k,⟨true,⟨143,(0,0)⟩,bU y⟩]++bl'.drop 2:=by rw[<-zo,List.take_append_drop]
      rw[fW]at S3;have e2:lits ([0,ids.getD it 0]++more) ([0,ids.getD it 0]++more) ([aF g.d.k,⟨true,⟨143,(0,0)⟩,bU y⟩]++bl'.drop 2)=aL [] 0 (aF g.d.k)::aL [] (ids.getD it 0) ⟨true,⟨143,(0,0)⟩,bU y⟩::lits ([0,ids.getD it 0]++more) more (bl'.drop 2):=by
       simp only[List.cons_append,List.nil_append,lits,er,et]
      rw[e2]at S3;have e3:ag ch' ((r.map λj=>aL ids (ids.getD j 0) (bl.getD j g_))++(g.F.B++ag rest R))=(r.map λj=>aL ids (ids.getD j 0) (bl.getD j g_))++(g.F.B++ag rest R):=by cases ch' with
       |nil=>rfl
       |cons c _=>cases c
      rw[e3]at S3;have S4:=S3.sub (bs':=aL [] 0 (aF g.d.k)::aL [] (ids.getD it 0) ⟨true,⟨143,(0,0)⟩,bU y⟩::((r.map λj=>aL ids (ids.getD j 0) (bl.getD j g_))++(g.F.B++ag rest R))) (by
       simp only[List.cons_append];exact List.Sublist.cons_cons _ (List.Sublist.cons_cons _ (List.sublist_append_right _ _)))
      have ex:den ([0,ids.getD it 0]++more) x=den [] x:=by have:=bx (ids:=[]) (more:=[0,ids.getD it 0]++more) x WJ;simpa using this
      rw[ex];have ho:(dz (lK y l) y.b l g.d.k.pn g.d.k.pf).2=none:=by rw[hT];split<;>rfl
      refine done y x none WJ ?_ ?_ (back y w' _ S4)
      ·rw[hv,<-ho]
      ·split
       ·rfl
       ·split<;>rfl
     ·
      obtain⟨bp,t,XX,hx,hle,hBB⟩:=IJ g.F E2;have hg2:Gl gR [0,ids.getD it 0,bp]:=by
       intro gg i iu;unfold gR at iu;split at iu
       ·obtain rfl:=Option.some.inj iu;exact⟨by simp,rfl⟩
       ·cases iu
      have ajN:(⟨bp,true,.cells (af [] (ew g.d.k.pn g.d.k.pf t).c).toArray 5 (0,0)⟩:ax)=aL [] bp (ew g.d.k.pn g.d.k.pf t):=rfl;rw[ajN]at hBB;have S1:=S.perm (p1.append_right _);rw[hBB]at S1;simp only[List.cons_append]at S1;rw[er,et]at S1;have pm:∀(a b c:ax) (A B Z:List ax),(a::b::(A++((B++[c])++Z))).Perm (a::b::c::(A++(B++Z))):=by
       intro a b c A B Z;refine List.Perm.cons a (List.Perm.cons b ?_);have:=List.perm_middle (a:=c) (l₁:=A++B) (l₂:=Z);simpa[List.append_assoc]using this
      have S2:St ms w0 (lits [0,ids.getD it 0,bp] [0,ids.getD it 0,bp] [aF g.d.k,⟨true,⟨143,(0,0)⟩,bU y⟩,ew g.d.k.pn g.d.k.pf t]++ag ([]:List Empty) ((r.map λj=>aL ids (ids.getD j 0) (bl.getD j g_))++(XX++ag rest R))) w:=by
       simp only[lits,ag,er,et,ep,List.cons_append,List.nil_append];exact S1.perm (pm _ _ _ _ _ _)
      let X:V->List VB->Prop:=λv b=>v=(dz (lK y l) y.b l g.d.k.pn g.d.k.pf).1/\b=[aF g.d.k,⟨true,⟨143,(0,0)⟩,bU (if l=1 then{y with s0:=MB y.s0 (dz (lK y l) y.b l g.d.k.pn g.d.k.pf).2}else if l=2 then{y with sa:=MB y.sa (dz (lK y l) y.b l g.d.k.pn g.d.k.pf).2}else{y with sb:=MB y.sb (dz (lK y l) y.b l g.d.k.pn g.d.k.pf).2})⟩,ew g.d.k.pn g.d.k.pf t]
      have fI:cI (dw prog gR (LO g.d.k)) 60 87 [.ptr 1 0,.int .i64 l,.sl 2 0 g.d.k.pn g.d.k.pc] [aF g.d.k,⟨true,⟨143,(0,0)⟩,bU y⟩,ew g.d.k.pn g.d.k.pf t] [] (kT X):=by
       have:l=1\/l=2\/l=3:=by omega
       rcases this with rfl|rfl|rfl
       ·rw[ajH];exact sS hw hbt hn hle (by decide) hf ⟨rfl,rfl⟩
       ·rw[ajI];exact sS hw hbt hn hle (by decide) hf ⟨rfl,rfl⟩
       ·rw[ajJ];exact sS hw hbt hn hle (by decide) hf ⟨rfl,rfl⟩
      have ea:(aq ids [.ptr it 0,.int .i64 l,.raw (dX g.d.k)]).toArray=(aq [0,ids.getD it 0,bp] [.ptr 1 0,.int .i64 l,.sl 2 0 g.d.k.pn g.d.k.pc]).toArray:=by
       have:dX g.d.k=.slice (some ⟨bp,0,none⟩) g.d.k.pn g.d.k.pc:=by unfold dX;rw[hx]
       rw[this];rfl
      rw[ea];refine(bw (II g.d.k).T (II g.d.k).Q 60 (C:=dw prog gR (LO g.d.k)) hg2 rfl S2 fI).mono ?_;rintro v w' ⟨x,more,bl',ch',rfl,h1,S3,hv,zo⟩;generalize hy':(if l=1 then{y with s0:=MB y.s0 (dz (lK y l) y.b l g.d.k.pn g.d.k.pf).2}else if l=2 then{y with sa:=MB y.sa (dz (lK y l) y.b l g.d.k.pn g.d.k.pf).2}else{y with sb:=MB y.sb (dz (lK y l) y.b l g.d.k.pn g.d.k.pf).2}:TC)=y' at zo;have WJ:fu 0 x=true:=by
       rw[hv];exact hX y _ _ rfl
      have fW:bl'=[aF g.d.k,⟨true,⟨143,(0,0)⟩,bU y'⟩,ew g.d.k.pn g.d.k.pf t]++bl'.drop 3:=by rw[<-zo,List.take_append_drop]
      rw[fW]at S3;have e2:lits ([0,ids.getD it 0,bp]++more) ([0,ids.getD it 0,bp]++more) ([aF g.d.k,⟨true,⟨143,(0,0)⟩,bU y'⟩,ew g.d.k.pn g.d.k.pf t]++bl'.drop 3)=aL [] 0 (aF g.d.k)::aL [] (ids.getD it 0) ⟨true,⟨143,(0,0)⟩,bU y'⟩::aL [] bp (ew g.d.k.pn g.d.k.pf t)::lits ([0,ids.getD it 0,bp]++more) more (bl'.drop 3):=by
       simp only[List.cons_append,List.nil_append,lits,er,et,ep]
      rw[e2]at S3;have e3:∀Z,ag ch' Z=Z:=by
       intro Z;cases ch' with
       |nil=>rfl
       |cons c _=>cases c
      rw[e3]at S3;have S4:=S3.sub (bs':=aL [] 0 (aF g.d.k)::aL [] (ids.getD it 0) ⟨true,⟨143,(0,0)⟩,bU y'⟩::aL [] bp (ew g.d.k.pn g.d.k.pf t)::((r.map λj=>aL ids (ids.getD j 0) (bl.getD j g_))++(XX++ag rest R))) (by
       simp only[List.cons_append];exact List.Sublist.cons_cons _ (List.Sublist.cons_cons _ (List.Sublist.cons_cons _ (List.sublist_append_right _ _))))
      have S5:=S4.perm (pm _ _ _ _ _ _).symm;rw[<-hBB]at S5;have ex:den ([0,ids.getD it 0,bp]++more) x=den [] x:=by have:=bx (ids:=[]) (more:=[0,ids.getD it 0,bp]++more) x WJ;simpa using this
      rw[ex];exact done y' x _ WJ (by rw[hv]) hy'.symm (back y' w' _ S5)
   ·exact hc.elim
  ·exact hc.elim
 ·exact hc.elim
def MC (a:Nat) (f:FuncId):Value:=.func (.func f) #[.pointer (some ⟨a,0,none⟩)] #[]
def rh (a:Nat):List (Int×Value):=[(3,MC a 136),(4,MC a 137),(5,MC a 138),(6,MC a 139),(7,MC a 140),(8,MC a 141),(9,MC a 142),(10,MC a 143),(11,MC a 143)]
def ag5:Nat->Prop->Prop->Prop
 |0,_,q=>q
 |n+1,p,q=>p/\ag5 n p q
theorem WK (a:Nat) (K:VK Ca):cI (aaq prog gN []) 60 88 [.raw (.pointer (some ⟨a,0,none⟩))] [] [] K=∀id:Nat,ag5 9 (Value.map (some id)=.map (some id)) (K (.raw (.map (some id))) [] [⟨id,rh a⟩]):=by kernel_rfl
theorem WM (a:Nat) {ms:List Nat} {w0 w:World} {B:List ax} (S:St ms w0 B w):ak prog 88 #[.pointer (some ⟨a,0,none⟩)] w λv w1=>∃id,v=.map (some id)/\St ms w0 (⟨id,true,nQ .i64 (rh a)⟩::B) w1:=by
 have fI:cI (aaq prog gN []) 60 88 [.raw (.pointer (some ⟨a,0,none⟩))] [] [] (λv bl ch=>∃id,v=.raw (.map (some id))/\bl=[]/\ch=[⟨id,rh a⟩]):=by
  rw[WK];exact λid=>⟨rfl,rfl,rfl,rfl,rfl,rfl,rfl,rfl,rfl,id,rfl,rfl,rfl⟩
 refine(bw (G:=Ca) (ah.nil (P:=prog) (gl:=gN)).T (ah.nil (P:=prog) (gl:=gN)).Q 60 (C:=aaq prog gN []) (ids:=[]) (bl:=[]) (ch:=[]) (R:=B) (args:=[.raw (.pointer (some ⟨a,0,none⟩))]) (λg i h=>by cases h) rfl S fI).mono ?_;rintro v w' ⟨x,more,bl',ch',rfl,Em,S2,id,rfl,rfl,rfl⟩;have hm:more=[]:=by cases more with
  |nil=>rfl
  |cons=>simp at Em
 subst hm;exact⟨id,by simp[den],S2⟩
def QN (a:Nat):Nat->Option Nat:=λg=>match gS g with
 |some i=>some i
 |none=>bif Nat.beq g a then some 2 else none
theorem ag6 {a:Nat} {ids:List Nat} (h:Gl (QN a) ids):Gl gS ids:=λg i hi=>h g i (by unfold QN;rw[hi])
theorem Zo {a:Nat} {ids:List Nat} (h:Gl (QN a) ids) (ha:gS a=none):2<ids.length/\ids.getD 2 0=a:=h a 2 (by unfold QN;rw[ha];simp)
def Dr (a:Nat):gZ (Sm (Gh fr)):=λargs bl ch K=>match args with
 |[.ptr 2 0]=>gS a=none/\∀id:Nat,K (.raw (.map (some id))) bl (ch++[.m ⟨id,rh a⟩])
 |_=>False
theorem Gv (a:Nat):Sound prog (QN a) 88 (Dr (fr:=fr) a):=by
 intro args ids bl ch R ms w0 w K hg hl S hc;unfold Dr at hc;split at hc
 ·obtain⟨ha,hK⟩:=hc;have h2:=(Zo hg ha).2;have ea:(aq ids [.ptr 2 0]).toArray=#[.pointer (some ⟨a,0,none⟩)]:=by simp only[aq,den,h2]
  rw[ea];refine(WM a S).mono ?_;rintro v w1 ⟨id,rfl,S1⟩;refine⟨_,[],bl,_,?_,by simpa using hl,?_,hK id⟩
  ·simp[den]
  ·rw[List.append_nil,dY,bH _ ch];have e:ag [(.m ⟨id,rh a⟩:Sm (Gh fr))] R=⟨id,true,nQ .i64 (rh a)⟩::R:=rfl;rw[e];rw[bH R ch]at S1;refine S1.perm ?_;rw[<-List.append_assoc,<-List.append_assoc];exact List.perm_middle.symm
 ·exact hc.elim
theorem Gw (a:Nat):dU (Dr (fr:=fr) a):=by
 intro args bl ch K h;unfold Dr at h⊢;split at h
 ·exact⟨h.1,λid=>⟨h.2 id,[],by simp⟩⟩
 ·exact h.elim
def MD (f:FuncId):V:=.aC [.fn f [.ptr 2 0] [],.bool true]
def IK (a:Nat):(Operand->V)->Op->List VB->List (Sm (Gh fr))->VK (Sm (Gh fr))->Prop:=λe op bl ch K=>match op with
 |.lookup mt m k true=>(match ch,e m,e k with
  |[.g x,.m g],.raw mv,.int .i64 kd=>(match prog.underlying mt with
   |some (.map kt _)=>(match prog.underlying kt with
    |some (.int .i64)=>(mv=.map (some g.id)/\g.tb=rh a/\gS a=none/\3<=kd/\kd<=11)/\
     cond (kd==3) (K (MD 136) bl ch) (cond (kd==4) (K (MD 137) bl ch) (cond (kd==5) (K (MD 138) bl ch) (cond (kd==6) (K (MD 139) bl ch) (cond (kd==7) (K (MD 140) bl ch) (cond (kd==8) (K (MD 141) bl ch) (cond (kd==9) (K (MD 142) bl ch) (K (MD 143) bl ch)))))))
    |_=>False)
   |_=>False)
  |_,_,_=>False)
 |_=>False
theorem Ds (a:Nat):rR prog (QN a) (IK (fr:=fr) a):=by
 intro e op ids bl ch R ms w0 w K ρ o hg hl S cz ho h;unfold IK at h;split at h
 ·rename_i mt m k;split at h
  ·rename_i x g mv kd hm hk;split at h
   ·rename_i kt et hu;split at h
    ·rename_i hkt;obtain⟨⟨rfl,htb,ha,h3,h11⟩,hK⟩:=h;have h2:=(Zo hg ha).2;have e0:ag [(.g x:Sm (Gh fr)),.m g] R=Bl.B x++(⟨g.id,true,nQ .i64 g.tb⟩::R):=rfl;have S':=S;rw[e0,htb]at S';have bD:=S'.at' (x:=⟨g.id,true,nQ .i64 (rh a)⟩) (by simp);have run:∀f,(∃j,Instr.findNow (.int .i64) (.int .i64 kd) (((rh a).zipIdx.map λx=>(⟨.int .i64 x.1.1,x.1.2,x.2⟩:MapEntry)).toArray).toList 0=some (some (j,MC a f)))->K (MD f) bl [(.g x:Sm (Gh fr)),.m g]->
      ∃x_1 more bl' ch' w',((execOp ρ o).run prog w=.ok (.value (den (ids++more) x_1)) w'\/((execOp ρ o).run prog w=.ok .skip w'/\x_1=cD))/\(ids++more).length=bl'.length/\St ms w0 (lits (ids++more) (ids++more) bl'++ag ch' R) w'/\K x_1 bl' ch':=by
      intro f hf hkf;refine⟨MD f,[],bl,_,w,.inl ?_,by simpa using hl,by simpa using S,hkf⟩;have a_:=ER (P:=prog) hu hkt bD hf;unfold execOp;simp only[ho,cz,hm,hk,den]at a_⊢;have ajO:den ids (MD f)=.tuple #[MC a f,.bool true]:=by simp only[MD,den,aq,h2,MC]
      rw[List.append_nil,ajO];simp only[Sem.run_bind,a_,Result.andThen_ok,Sem.run_pure]
     have hkd:kd=3\/kd=4\/kd=5\/kd=6\/kd=7\/kd=8\/kd=9\/kd=10\/kd=11:=by omega
     rcases hkd with rfl|rfl|rfl|rfl|rfl|rfl|rfl|rfl|rfl
     ·exact run 136 ⟨0,by kernel_rfl⟩ hK
     ·exact run 137 ⟨1,by kernel_rfl⟩ hK
     ·exact run 138 ⟨2,by kernel_rfl⟩ hK
     ·exact run 139 ⟨3,by kernel_rfl⟩ hK
     ·exact run 140 ⟨4,by kernel_rfl⟩ hK
     ·exact run 141 ⟨5,by kernel_rfl⟩ hK
     ·exact run 142 ⟨6,by kernel_rfl⟩ hK
     ·exact run 143 ⟨7,by kernel_rfl⟩ hK
     ·exact run 143 ⟨8,by kernel_rfl⟩ hK
    ·exact h.elim
   ·exact h.elim
  ·exact h.elim
 ·exact h.elim
def ri:gZ (Gh fr):=λargs bl ch K=>match args,ch with
 |[.raw vp,.int .u8 kd],g::rest=>vp=dX g.d.k/\K (.bool (decide (0<g.d.k.pn)&&(g.d.k.pf 0==kd))) bl (g::rest)
 |_,_=>False
theorem AT:dU (ri (fr:=fr)):=by
 intro args bl ch K h;unfold ri at h⊢;split at h
 ·exact⟨h.1,h.2,[],by simp⟩
 ·exact h.elim
def QO:List (dF Empty):=[]
theorem ac1 (x:Option Addr) (c:Nat) (kd:Int) (X:V->Prop):cI (dw (G:=Empty) prog Bv QO) 40 84 [.raw (.slice x 0 c),.int .u8 kd] [] [] (λv _ _=>X v)=X (.bool false):=by kernel_rfl
theorem ac2 (n c:Nat) (kd:Int) (f:Nat->Int) (t:List Value) (X:V->Prop):cI (dw (G:=Empty) prog Bv QO) 40 84 [.sl 0 0 (n+1) c,.int .u8 kd] [⟨false,⟨5,(0,0)⟩,[.dS .u8 (n+1) f,.rest t]⟩] [] (λv _ _=>X v)=cond (decide (((n+1:Nat):Int)>0)) (X (.bool (f 0==kd))) (X (.bool false)):=by kernel_rfl
theorem AU:ah (G:=Empty) prog Bv QO:=ah.nil
theorem AV:Sound prog gS 84 (ri (fr:=fr)):=by
 intro args ids bl ch R ms w0 w K hg hl S hc;unfold ri at hc;split at hc
 ·rename_i vp kd g rest;obtain⟨rfl,hK⟩:=hc;have e0:ag (g::rest) R=g.F.B++ag rest R:=rfl;have S':=S;rw[e0]at S';have main:ak prog 84 #[dX g.d.k,.int .u8 kd] w λv w1=>v=.bool (decide (0<g.d.k.pn)&&(g.d.k.pf 0==kd))/\Ch [] w w1:=by
   rcases Nat.eq_zero_or_pos g.d.k.pn with hz|E2
   ·have ep:dX g.d.k=.slice g.d.k.px 0 g.d.k.pc:=by unfold dX;rw[hz]
    rw[ep];refine(bw (G:=Empty) AU.T AU.Q 40 (C:=dw prog Bv QO) (ids:=[]) (bl:=[]) (ch:=[]) (R:=[]) (ms:=[]) (w0:=w) (args:=[.raw (.slice g.d.k.px 0 g.d.k.pc),.int .u8 kd]) (λg i h=>by cases h) rfl (St.nil [] w) (K:=λv _ _=>v=.bool false) (f:=84) (by rw[ac1])).mono ?_;rintro v w' ⟨x,more,bl',ch',rfl,Em,S2,rfl⟩;exact⟨by simp[den,hz],S2.ch⟩
   ·obtain⟨bp,t,X,hx,hle,hB⟩:=IJ g.F E2;rw[hB]at S';have bD:=S'.at' (x:=⟨bp,true,.cells (af [] (ew g.d.k.pn g.d.k.pf t).c).toArray 5 (0,0)⟩) (by simp);obtain⟨n,hn⟩:∃n,g.d.k.pn=n+1:=⟨g.d.k.pn-1,by omega⟩;have ep:dX g.d.k=.slice (some ⟨bp,0,none⟩) (n+1) g.d.k.pc:=by unfold dX;rw[hx,hn]
    rw[ep];rw[hn]at bD;have S0:=St.given (w:=w) [(bp,.cells (af [] (ew (n+1) g.d.k.pf t).c).toArray 5 (0,0))] (all_cons bD all_nil);have S1:St [] w (lits [bp] [bp] [⟨false,⟨5,(0,0)⟩,[.dS .u8 (n+1) g.d.k.pf,.rest t]⟩]++ag ([]:List Empty) []) w:=by
     simpa[lits,aL,af,cl,ag,ew]using S0
    refine(bw (G:=Empty) AU.T AU.Q 40 (C:=dw prog Bv QO) (args:=[.sl 0 0 (n+1) g.d.k.pc,.int .u8 kd]) (λg i h=>by cases h) rfl S1 (K:=λv _ _=>v=.bool (g.d.k.pf 0==kd)) (f:=84) (by rw[ac2];exact aO (λ_=>rfl) (λe=>by have:=of_decide_eq_false e;omega))).mono ?_;rintro v w' ⟨x,more,bl',ch',rfl,Em,S2,rfl⟩;refine⟨?_,S2.ch⟩;have:decide (0<g.d.k.pn)=true:=by simp[E2]
    simp[den,this]
  have ea:(aq ids [.raw (dX g.d.k),.int .u8 kd]).toArray=#[dX g.d.k,.int .u8 kd]:=rfl;rw[ea];refine main.mono ?_;rintro v w1 ⟨rfl,fP⟩;exact⟨_,[],bl,g::rest,by simp only[den],by simpa using hl,by simpa using S.quiet fP,hK⟩
 ·exact hc.elim
def Gx (C:Sd.Crypt):gZ (Gh fr):=λargs bl ch K=>match args,ch with
 |[.ptr it 0,.int .i64 l,.raw vp],g::rest=>(match bl[it]?with
  |some ⟨true,⟨143,(0,0)⟩,tc⟩=>(match vP tc with
   |some y=>cond (!(Nat.beq it 0)) ((vp=dX g.d.k/\bl[0]?=some (aF g.d.k)/\g.d.k.pn<=58/\By g.d.k.pf/\(1<=l/\l<=3)/\(0<=y.b/\y.b<=1000)/\(∀i,i<3->((aK y).az i).on=true->0<=((aK y).az i).seen.high/\((aK y).az i).seen.high<=4294967295))/\
    (Sd.Tab.take C (pY y.b y.m) (aK y) l g.d.k.pn g.d.k.pf=(aK y,.error 16)->K (fY 16) bl ch)/\
    (Sd.Tab.take C (pY y.b y.m) (aK y) l g.d.k.pn g.d.k.pf=(aK y,.error 14)->K (fY 14) bl ch)/\
    (Sd.Tab.take C (pY y.b y.m) (aK y) l g.d.k.pn g.d.k.pf=(aK y,.error 13)->K (fY 13) bl ch)/\
    (Sd.Tab.take C (pY y.b y.m) (aK y) l g.d.k.pn g.d.k.pf=(aK y,.error 15)->K (fY 15) bl ch)/\
    (∀t' m,Sd.Tab.take C (pY y.b y.m) (aK y) l g.d.k.pn g.d.k.pf=(t',.ok m)->K (.aC [.agg (cB m),.int .i64 0]) (bl.set it ⟨true,⟨143,(0,0)⟩,bU (En t' y.b y.m)⟩) ch)) False
   |none=>False)
  |_=>False)
 |_,_=>False
theorem qF {C:Sd.Crypt} {p:Sd.Pol} {t t':Sd.Tab} {l:Int} {n:Nat} {f:Nat->Int} {e:Int} (h:Sd.Tab.take C p t l n f=(t',.error e)):e=16\/e=14\/e=13\/e=15:=by
 unfold Sd.Tab.take at h
 repeat' split at h
 all_goals first|(cases h;done)|(obtain⟨_,h2⟩:=Prod.mk.inj h;cases h2;simp)
theorem AW:Sound prog gS 87 (Gx (fr:=fr) (aj b_)):=by
 intro args ids bl ch R ms w0 w K hg hl S hc;refine Dq args ids bl ch R ms w0 w K hg hl S ?_;unfold Gx at hc;unfold Gu;split at hc
 ·rename_i it l vp g rest;split at hc
  ·rename_i tc hb;try simp only[hb]
   split at hc
   ·rename_i y hy;try simp only[hy]
    cases hq:!(Nat.beq it 0)with
    |false=>rw[hq]at hc;exact hc.elim
    |true=>
     rw[hq]at hc;obtain⟨hp,h16,h14,h13,h15,hok⟩:=hc;refine⟨hp,λe he=>?_,hok⟩;rcases qF he with rfl|rfl|rfl|rfl
     ·exact h16 he
     ·exact h14 he
     ·exact h13 he
     ·exact h15 he
   ·exact hc.elim
  ·exact hc.elim
 ·exact hc.elim
def LIg (fr:Sd.Reply->Nat×Sd.Byt) (C:Sd.Crypt):List (dF (Gh fr)):=⟨85,false,pj (sR C)⟩::⟨86,false,pj (wu C)⟩::⟨87,false,Gx C⟩::⟨84,true,ri⟩::⟨136,false,pj (iP λs l m=>s.done l m.seq)⟩::⟨137,false,pj (iP λs l m=>s.Yz C l m)⟩::⟨138,false,pj (iP λs l m=>s.ask C l m)⟩::
 ⟨139,false,pj (iP λs l m=>s.offer C l m)⟩::⟨140,false,pj (iP λs l m=>s.accept C l m)⟩::⟨141,false,pj (iP λs l m=>s.fb C l m)⟩::⟨142,false,pj (iP λs l m=>s.release C l m)⟩::⟨143,false,pj (Qf C)⟩::L8 fr C
theorem ac3 (ht:Body (fr:=fr) 130 bM):ah prog gS (LIg fr (aj b_)):=
 ah.cons (cX (Lo ht)) (ah.cons (cX (Gs ht)) (ah.cons ⟨AW,λe=>by cases e⟩ (ah.cons ⟨AV,λ_=>AT⟩ (ah.cons (cX (Ld b_ ht)) (ah.cons (cX (Qg b_ ht)) (ah.cons (cX (P9 b_ ht)) (ah.cons (cX (F6 b_ ht)) (ah.cons (cX (C5 b_ ht)) (ah.cons (cX (Le b_ ht)) (ah.cons (cX (AH b_ ht)) (ah.cons (cX (AM b_ ht)) (v8 b_ ht))))))))))))
def LI (fr:Sd.Reply->Nat×Sd.Byt) (a:Nat) (C:Sd.Crypt):List (dF (Sm (Gh fr))):=⟨88,true,Dr a⟩::NO (LIg fr C)
theorem ag7 (a:Nat) (ht:Body (fr:=fr) 130 bM):ah prog (QN a) (LI fr a (aj b_)):=ah.cons ⟨Gv a,λ_=>Gw a⟩ (Cc (λids h=>ag6 h) (ac3 ht))
def QP (k:LK) (s:Sd.Scene) (Kb:SK fr k):V->List VB->List (Sm (Gh fr))->Prop:=λv bl ch=>∃s' F' r,fu 0 v=true/\s'.c.p=s.c.p/\Kb v s' F'/\bl.take 5=cO k s' F'/\ch=.g (cx k s' F')::r
section
variable(a:Nat) (C:Sd.Crypt) (k:LK) (s:Sd.Scene) (F:cw fr (bV k s)) (Kb:SK fr k) (l code:Int)
def Zp (r:List (Sm (Gh fr))) (s':Sd.Scene) (F':cw fr (bV k s')):Prop:=QP k s Kb (.aC []) (cO k s' F') (.g (cx k s' F')::r)
def itE (e:Int):Prop:=Sd.Tab.take C (pY s.c.p.bR s.c.p.bz) (dh s.c.tab) l k.pn k.pf=(dh s.c.tab,.error e)->eg k s F/\sL C [.int .i64 l,.int .i64 e] k (dg s) F λv s' F'=>Zp k s Kb [] s' F'
def WN (M:SM fr) (t':Sd.Tab) (m:Sd.db) (id:Nat):Prop:=eg k s F/\M [.int .i64 l,.agg (cB m)] k (qT s t') F λv s' F'=>Zp k s Kb [.m ⟨id,rh a⟩] s' F'
def itO (t':Sd.Tab) (m:Sd.db):Prop:=gS a=none/\∀id:Nat,(Value.map (some id)=.map (some id)/\rh a=rh a/\gS a=none/\3<=m.kind/\m.kind<=11)/\
 cond (m.kind==3) (WN a k s F Kb l (iP λs l m=>s.done l m.seq) t' m id) (cond (m.kind==4) (WN a k s F Kb l (iP λs l m=>s.Yz C l m) t' m id) (cond (m.kind==5) (WN a k s F Kb l (iP λs l m=>s.ask C l m) t' m id) (cond (m.kind==6) (WN a k s F Kb l (iP λs l m=>s.offer C l m) t' m id)
 (cond (m.kind==7) (WN a k s F Kb l (iP λs l m=>s.accept C l m) t' m id) (cond (m.kind==8) (WN a k s F Kb l (iP λs l m=>s.fb C l m) t' m id) (cond (m.kind==9) (WN a k s F Kb l (iP λs l m=>s.release C l m) t' m id) (WN a k s F Kb l (Qf C) t' m id)))))))
def QQ:Prop:=
 cond (code !=0) (eg k s F/\sL C [.int .i64 l,.int .i64 code] k (dg s) F λv s' F'=>Zp k s Kb [] s' F')
 (dX k=dX k/\cond (decide (0<k.pn)&&(k.pf 0==1)) (eg k s F/\sR C [.int .i64 l,.raw (dX k)] k (dg s) F λv s' F'=>Zp k s Kb [] s' F')
 (dX k=dX k/\cond (decide (0<k.pn)&&(k.pf 0==2)) (eg k s F/\wu C [.int .i64 l,.raw (dX k)] k (dg s) F λv s' F'=>Zp k s Kb [] s' F')
 ((dX k=dX k/\some (aF k)=some (aF k)/\k.pn<=58/\By k.pf/\(1<=l/\l<=3)/\(0<=s.c.p.bR/\s.c.p.bR<=1000)/\(∀i,i<3->((aK (VP s)).az i).on=true->0<=((aK (VP s)).az i).seen.high/\((aK (VP s)).az i).seen.high<=4294967295))/\
   itE C k s F Kb l 16/\itE C k s F Kb l 14/\itE C k s F Kb l 13/\itE C k s F Kb l 15/\∀t' m,Sd.Tab.take C (pY s.c.p.bR s.c.p.bz) (dh s.c.tab) l k.pn k.pf=(t',.ok m)->itO a C k s F Kb l t' m)))
theorem WO:cI (nz prog (QN a) (LI fr a C) (IK a) (Ds a)) 90 49 [.ptr 2 0,.int .i64 l,.agg [.int .i64 code,.raw (dX k)]] (cO k s F) [.g (cx k s F)] (QP k s Kb)=QQ a C k s F Kb l code:=by kernel_rfl
end
theorem WQ {w:Sd.cU} {n:Int} (h:0<=w.high/\w.high<=4294967295) (hn:0<=n/\n<=4294967295):0<=(dL w n).high/\(dL w n).high<=4294967295:=by
 unfold dL
 repeat' split
 all_goals first|exact hn|exact h
theorem QU (H:Nat->Int):By (Ci H):=by
 intro j;have hw:∀n:Int,0<=u8.wrap n/\u8.wrap n<=255:=by intro n;simp[IntKind.wrap,IntKind.bits,IntKind.signed];omega
 unfold Ci;split<;>exact hw _
theorem ac4 (n:Nat) (f:Nat->Int):By (jR n f):=by
 unfold jR;cases Nat.ble n 55
 ·exact QU _
 ·exact QU _
theorem iy:Sd.nD (aj b_):=⟨λk s n j=>by
 show 0<=aV k.1 k.2 s n j/\aV k.1 k.2 s n j<=255;unfold aV gm;exact ac4 _ _ j,λn f m h=>Gq h,λw n h1 h2=>WQ h1 h2⟩
structure ItP (k:LK) (s:Sd.Scene) (l:Int):Prop where
 r:Rm s 8
 i:Sd.Inv s.c
 lo:1<=l/\l<=3
 d:∀i,i<3->(s.c.doors i).many<=9223372036854775807
 key:∀i,i<4->1<=k.kn i/\k.kn i<=64
 ke:∀i,i<4->s.c.p.k i=(k.kn i,k.kf i)
 Gd:k.pn<=58/\By k.pf
def Dt (C:Sd.Crypt):SM fr:=λar k s F K=>match ar with
 |[.int .i64 l,.agg [.int .i64 code,.raw vp]]=>(vp=dX k/\ItP k s l)/\∀F',K (.aC []) (s.item C l code k.pn k.pf) F'
 |_=>False
theorem ItP.Ei {k:LK} {s:Sd.Scene} {l:Int} (h:ItP k s l):acK k s l:=⟨h.r,λi hi=>⟨h.i.doors i hi,h.d i hi⟩,h.key 3 (by decide),h.ke 3 (by decide),⟨by have:=h.Gd.1;omega,h.Gd.2⟩,h.lo⟩
theorem ItP.prv {k:LK} {s:Sd.Scene} {l:Int} (h:ItP k s l):WA k s l:=⟨h.r,h.lo,h.key _ (by have:=h.lo;omega),h.ke _ (by have:=h.lo;omega),by have:=h.i.p.bR;omega,h.i.tok.holder,h.i.eC⟩
theorem QW (C:Sd.Crypt) (s:Sd.Scene) (l:Int) (n:Nat) (f:Nat->Int) (hl:1<=l/\l<=3):
 (∃e,Sd.Tab.take C (pY s.c.p.bR s.c.p.bz) (dh s.c.tab) l n f=(dh s.c.tab,.error e)/\Sd.Tab.take C s.c.p s.c.tab l n f=(s.c.tab,.error e))\/
 (∃m E t,Sd.Tab.take C (pY s.c.p.bR s.c.p.bz) (dh s.c.tab) l n f=(E,.ok m)/\Sd.Tab.take C s.c.p s.c.tab l n f=(t,.ok m)/\qT s E=dN s t):=by
 have WI:(dh s.c.tab).az (l.toNat-1)=s.c.tab.az (l.toNat-1):=by
  have:l=1\/l=2\/l=3:=by omega
  rcases this with rfl|rfl|rfl<;>rfl
 have hb:(pY s.c.p.bR s.c.p.bz).bR=s.c.p.bR:=rfl;unfold Sd.Tab.take;rw[vT,WI,hb];by_cases h1:s.c.tab.fq l=false
 ·rw[if_pos h1,if_pos h1];exact .inl ⟨16,rfl,rfl⟩
 rw[if_neg h1,if_neg h1];by_cases h2:n<8\/C.opens (s.c.tab.az (l.toNat-1)).key l n f=false
 ·rw[if_pos h2,if_pos h2];exact .inl ⟨14,rfl,rfl⟩
 rw[if_neg h2,if_neg h2];cases C.take (n-8) f with
 |none=>exact .inl ⟨13,rfl,rfl⟩
 |some m=>
  simp only;by_cases h3:m.kind=1\/m.kind=2
  ·rw[if_pos h3,if_pos h3];exact .inl ⟨13,rfl,rfl⟩
  rw[if_neg h3,if_neg h3];by_cases h4:C.oh (s.c.tab.az (l.toNat-1)).seen m.seq=(s.c.tab.az (l.toNat-1)).seen
  ·rw[if_pos h4,if_pos h4];exact .inl ⟨15,rfl,rfl⟩
  rw[if_neg h4,if_neg h4];refine .inr ⟨m,_,_,rfl,rfl,qU rfl (λj hj=>?_) (λj=>?_)⟩
  ·simp only[Sd.Tab.eU];split
   ·rfl
   ·have:j=0\/j=1\/j=2:=by omega
    rcases this with rfl|rfl|rfl<;>rfl
  ·simp only[Sd.Tab.eU];rw[if_neg (by omega)]
theorem QX {C:Sd.Crypt} {b:Prop} {s s':Sd.Scene} {kd l:Int} (h:Sd.lF C b s s' kd l):s'.c.p=s.c.p:=by
 rcases h.Fm with q|⟨how,g,_⟩
 ·exact q.p
 ·exact g.p
theorem QY {a:Nat} {k:LK} {s:Sd.Scene} {F:cw fr (bV k s)} {Kb:SK fr k} {l code:Int} (ha:gS a=none) (hq:s.c.p.queue=k.most) (hP:ItP k s l) (hK:∀F',Kb (.aC []) (s.item (aj b_) l code k.pn k.pf) F'):QQ a (aj b_) k s F Kb l code:=by
 have leaf:∀(r:List (Sm (Gh fr))) (s':Sd.Scene) (F':cw fr (bV k s')),s'=s.item (aj b_) l code k.pn k.pf->s'.c.p=s.c.p->Zp k s Kb r s' F':=by
  intro r s' F' e hp;subst e;exact⟨_,F',r,rfl,hp,hK F',rfl,rfl⟩
 have AX:∀e,code=0->¬(0<k.pn/\k.pf 0=1)->¬(0<k.pn/\k.pf 0=2)->itE (aj b_) k s F Kb l e:=by
  intro e hc h1 h2 he;refine⟨eO hq,vU (hP.r.r1) λF1=>leaf _ _ F1 ?_ rfl⟩;unfold Sd.Scene.item;rw[if_neg (by simp[hc]),if_neg h1,if_neg h2];rcases QW (aj b_) s l k.pn k.pf hP.lo with⟨e',h3,h4⟩|⟨m,E,t,h3,_,_⟩
  ·rw[h4];rw[h3]at he;have:=(Prod.mk.inj he).2;cases this;rfl
  ·rw[h3]at he;have:=(Prod.mk.inj he).2;cases this
 unfold QQ;refine aO (λe=>⟨eO hq,vU hP.r.r1 λF1=>leaf _ _ F1 ?_ rfl⟩) (λe=>⟨rfl,aO (λe1=>⟨eO hq,fc (M:=sR (aj b_)) ⟨⟨rfl,hP.Ei⟩,λF1=>leaf _ _ F1 ?_ ?_⟩⟩) (λe1=>⟨rfl,aO (λe2=>⟨eO hq,fc (M:=wu (aj b_)) ⟨⟨rfl,hP.prv,hP.Gd.2⟩,λF1=>leaf _ _ F1 ?_ ?_⟩⟩) (λe2=>?_)⟩)⟩)
 ·unfold Sd.Scene.item;rw[if_pos (by simpa using e)]
 ·unfold Sd.Scene.item;rw[if_neg (by simpa using e),if_pos (by simpa using e1)]
 ·exact QX (b:=False) (Sd.yf iy hP.i hP.lo)
 ·unfold Sd.Scene.item;rw[if_neg (by simpa using e),if_neg (by simpa using e1),if_pos (by simpa using e2)]
 ·exact QX (b:=False) (Sd.yg iy hP.i hP.lo)
 ·have hc:code=0:=by simpa using e
  have n1:¬(0<k.pn/\k.pf 0=1):=by simpa using e1
  have n2:¬(0<k.pn/\k.pf 0=2):=by simpa using e2
  refine⟨⟨rfl,rfl,hP.Gd.1,hP.Gd.2,hP.lo,by have:=hP.i.p.bR;omega,λi hi tP=>?_⟩,AX 16 hc n1 n2,AX 14 hc n1 n2,AX 13 hc n1 n2,AX 15 hc n1 n2,λt' m ht=>⟨ha,λid=>?_⟩⟩
  ·have hs:(aK (VP s)).az i=s.c.tab.az i:=by
    have:i=0\/i=1\/i=2:=by omega
    rcases this with rfl|rfl|rfl<;>rfl
   rw[hs]at tP⊢;have:=hP.i.tab.az i hi tP;exact⟨this.2.2.2.2.2.1,this.2.2.2.2.2.2⟩
  ·rcases QW (aj b_) s l k.pn k.pf hP.lo with⟨e',h3,h4⟩|⟨m',E,t,h3,h4,h5⟩
   ·rw[h3]at ht;have:=(Prod.mk.inj ht).2;cases this
   ·rw[h3]at ht;obtain⟨rfl,hm⟩:=Prod.mk.inj ht;cases hm;obtain⟨g1,g2,g3,g4,g5⟩:=Sd.Ac iy h4;have hkd:=g2.kind;have Zn:=hP.i.p.bR;have g1':s.c.tab.on l=true:=by rw[Sd.Ad hP.lo];exact g1
    have tP:(s.c.tab.az (l.toNat-1)).on=true:=by unfold Sd.Tab.fq at g1;simp at g1;exact g1.2
    have i1:Sd.Inv (dN s t).c:=by
     have:=hP.i.eU (i:=l.toNat-1) (x:={(s.c.tab.az (l.toNat-1))with seen:=(aj b_).oh (s.c.tab.az (l.toNat-1)).seen m.seq,on:=true,aN:=.start s.c.p.bR}) rfl
      (by
       have:=hP.i.tab.az (l.toNat-1) (by have:=hP.lo;omega) tP;have h9:=iy.oh (s.c.tab.az (l.toNat-1)).seen m.seq ⟨by omega,by omega⟩ g2.seq;simp[Sd.Timer.start];omega)
     rw[<-g5]at this;exact this
    have hS:Sy (dN s t) l m:=⟨hP.r,i1,g2.seq,hP.lo.1,hP.lo.2⟩;have ajP:(dN s t).c.tab.on l=true:=by
     show t.on l=true;rw[g5];exact Sd.lH g1' rfl
    have Pw:s.item (aj b_) l code k.pn k.pf=(dN s t).uO (aj b_) l m:=by
     unfold Sd.Scene.item;rw[if_neg (by simp[hc]),if_neg n1,if_neg n2,h4];rfl
    have ag8:((dN s t).uO (aj b_) l m).c.p=s.c.p:=(QX (C:=aj b_) (b:=False) (Sd.Ic i1 hP.lo g2 ajP g3 g4)).trans rfl;have go:∀(act:Sd.Scene->Int->Sd.db->Sd.Scene),act (dN s t) l m=(dN s t).uO (aj b_) l m->WN a k s F Kb l (iP act) E m id:=by
     intro act QZ;refine⟨eO hq,qO (M:=λs' F'=>iP act [.int .i64 l,.agg (cB m)] k s' F' λv s' F'=>Zp k s Kb [.m ⟨id,rh a⟩] s' F') h5 F ?_⟩;exact⟨hS,λF1=>leaf _ _ F1 (by rw[Pw,QZ]) (by rw[QZ];exact ag8)⟩
    refine⟨⟨rfl,rfl,ha,by omega,by omega⟩,?_⟩;have sy:∀j:Int,m.kind=j->(dN s t).uO (aj b_) l m=(dN s t).uO (aj b_) l m:=λ_ _=>rfl;refine aO (λe=>go _ ?_) (λx3=>aO (λe=>go _ ?_) (λx4=>aO (λe=>go _ ?_) (λx5=>aO (λe=>go _ ?_) (λx6=>aO (λe=>go _ ?_) (λx7=>aO (λe=>go _ ?_) (λx8=>aO (λe=>go _ ?_) (λx9=>?_)))))))
    ·unfold Sd.Scene.uO;rw[if_pos (by simpa using e)]
    ·unfold Sd.Scene.uO;rw[if_neg (by simpa using x3),if_pos (by simpa using e)]
    ·unfold Sd.Scene.uO;rw[if_neg (by simpa using x3),if_neg (by simpa using x4),if_pos (by simpa using e)]
    ·unfold Sd.Scene.uO;rw[if_neg (by simpa using x3),if_neg (by simpa using x4),if_neg (by simpa using x5),if_pos (by simpa using e)]
    ·unfold Sd.Scene.uO;rw[if_neg (by simpa using x3),if_neg (by simpa using x4),if_neg (by simpa using x5),if_neg (by simpa using x6),if_pos (by simpa using e)]
    ·unfold Sd.Scene.uO;rw[if_neg (by simpa using x3),if_neg (by simpa using x4),if_neg (by simpa using x5),if_neg (by simpa using x6),if_neg (by simpa using x7),if_pos (by simpa using e)]
    ·unfold Sd.Scene.uO;rw[if_neg (by simpa using x3),if_neg (by simpa using x4),if_neg (by simpa using x5),if_neg (by simpa using x6),if_neg (by simpa using x7),if_neg (by simpa using x8),if_pos (by simpa using e)]
    ·have h10:m.kind=10\/m.kind=11:=by simp at x3 x4 x5 x6 x7 x8 x9;omega
     have QZ:(dN s t).command (aj b_) l m=(dN s t).uO (aj b_) l m:=by
      unfold Sd.Scene.uO;rw[if_neg (by simpa using x3),if_neg (by simpa using x4),if_neg (by simpa using x5),if_neg (by simpa using x6),if_neg (by simpa using x7),if_neg (by simpa using x8),if_neg (by simpa using x9),if_pos h10]
     refine⟨eO hq,qO (M:=λs' F'=>Qf (aj b_) [.int .i64 l,.agg (cB m)] k s' F' λv s' F'=>Zp k s Kb [.m ⟨id,rh a⟩] s' F') h5 F ?_⟩;exact⟨⟨hS,h10⟩,λF1=>leaf _ _ F1 (by rw[Pw,QZ]) (by rw[QZ];exact ag8)⟩
theorem Lt (ht:Body (fr:=fr) 130 bM):Body (fr:=fr) 49 (Dt (aj b_)):=by
 intro ar k s F Kb a b c R ms w0 w h0 hq hM S;unfold Dt at hM;split at hM
 ·rename_i l code vp;obtain⟨⟨rfl,hP⟩,hK⟩:=hM;have ajQ:aX a b c=[0,2,a,b,c]:=rfl;have ha:gS a=none:=by
   have h1:(lits (aX a b c) (aX a b c) (cO k s F)++(F.B++R))[0]?=some (aL (aX a b c) 0 (aF k)):=rfl;have h2:(lits (aX a b c) (aX a b c) (cO k s F)++(F.B++R))[1]?=some (aL (aX a b c) 2 (iq k)):=rfl;have h3:(lits (aX a b c) (aX a b c) (cO k s F)++(F.B++R))[2]?=some (aL (aX a b c) a (vQ 3 F)):=rfl;have n0:a≠0:=S.apart 2 0 _ _ h3 h1 (by decide) rfl;have n2:a≠2:=S.apart 2 1 _ _ h3 h2 (by decide) rfl;unfold gS;split
   ·exact absurd rfl n0
   ·exact absurd rfl n2
   ·rfl
  have hg:Gl (QN a) (aX a b c):=by
   intro g i iu;unfold QN at iu;split at iu
   ·rename_i j hj;obtain rfl:=Option.some.inj iu;have:=ag2 a b c [] g j hj;simpa using this
   ·cases hb:Nat.beq g a with
    |false=>rw[hb]at iu;cases iu
    |true=>
     rw[hb]at iu;obtain rfl:=Option.some.inj iu;obtain rfl:=Nat.eq_of_beq_eq_true hb;exact⟨by simp[ajQ],rfl⟩
  have S1:St ms w0 (lits (aX a b c) (aX a b c) (cO k s F)++ag [(.g (cx k s F):Sm (Gh fr))] R) w:=S;have hL:=ag7 (fr:=fr) a ht;refine(bw (G:=Sm (Gh fr)) hL.T hL.Q 90 (C:=nz prog (QN a) (LI fr a (aj b_)) (IK a) (Ds a)) (f:=49) (args:=[.ptr 2 0,.int .i64 l,.agg [.int .i64 code,.raw (dX k)]]) (K:=QP k s Kb) hg rfl S1 (by
   rw[WO];exact QY ha hq hP hK)).mono ?_
  rintro v w' ⟨x,more,bl',ch',rfl,h1,S',s',F',r,hv,hp,hK',hb,rfl⟩;have ev:den (aX a b c++more) x=den [] x:=by have:=bx (ids:=[]) (more:=aX a b c++more) x hv;simpa using this
  refine⟨x,s',F',ev,hv,hp,hK',?_⟩;have fW:bl'=cO k s' F'++bl'.drop 5:=by rw[<-hb,List.take_append_drop]
  rw[fW]at S';have e2:lits (aX a b c++more) (aX a b c++more) (cO k s' F'++bl'.drop 5)=lits (aX a b c) (aX a b c) (cO k s' F')++lits (aX a b c++more) more (bl'.drop 5):=by
   rw[aQ _ _ _ _ rfl,aR (ids:=aX a b c) (more:=more) (aX a b c) (cO k s' F') rfl]
  rw[e2]at S';have e3:ag (.g (cx k s' F')::r:List (Sm (Gh fr))) R=F'.B++ag r R:=rfl;rw[e3,bH R r]at S';refine S'.sub ?_;rw[List.append_assoc];refine List.Sublist.append_left ?_ _;refine List.Sublist.trans ?_ (List.sublist_append_right _ _);exact List.Sublist.append_left (List.sublist_append_right _ _) _
 ·exact hM.elim
end Go.Proofs.YtlkpikfddnjilaaGreatDoor
namespace Go.Proofs.YtlkpikfddnjilaaGreatDoor
open Go Go.RowKit Go.BigFrame Sx Vx
theorem WR (fr:Sd.Reply->Nat×Sd.Byt) (C:Sd.Crypt):fC fr C [false,false,false,false]:=λk s F Kb=>by kernel_rfl
theorem WS (fr:Sd.Reply->Nat×Sd.Byt) (C:Sd.Crypt):fC fr C [false,false,false,true]:=λk s F Kb=>by kernel_rfl
theorem WT (fr:Sd.Reply->Nat×Sd.Byt) (C:Sd.Crypt):fC fr C [false,false,true,false]:=λk s F Kb=>by kernel_rfl
theorem WU (fr:Sd.Reply->Nat×Sd.Byt) (C:Sd.Crypt):fC fr C [false,false,true,true]:=λk s F Kb=>by kernel_rfl
theorem WV (fr:Sd.Reply->Nat×Sd.Byt) (C:Sd.Crypt):fC fr C [false,true,false,false]:=λk s F Kb=>by kernel_rfl
theorem WW (fr:Sd.Reply->Nat×Sd.Byt) (C:Sd.Crypt):fC fr C [false,true,false,true]:=λk s F Kb=>by kernel_rfl
theorem WX (fr:Sd.Reply->Nat×Sd.Byt) (C:Sd.Crypt):fC fr C [false,true,true,false]:=λk s F Kb=>by kernel_rfl
theorem WY (fr:Sd.Reply->Nat×Sd.Byt) (C:Sd.Crypt):fC fr C [false,true,true,true]:=λk s F Kb=>by kernel_rfl
theorem WZ (fr:Sd.Reply->Nat×Sd.Byt) (C:Sd.Crypt):fC fr C [true,false,false,false]:=λk s F Kb=>by kernel_rfl
theorem W0 (fr:Sd.Reply->Nat×Sd.Byt) (C:Sd.Crypt):fC fr C [true,false,false,true]:=λk s F Kb=>by kernel_rfl
theorem W3 (fr:Sd.Reply->Nat×Sd.Byt) (C:Sd.Crypt):fC fr C [true,false,true,false]:=λk s F Kb=>by kernel_rfl
theorem W4 (fr:Sd.Reply->Nat×Sd.Byt) (C:Sd.Crypt):fC fr C [true,false,true,true]:=λk s F Kb=>by kernel_rfl
theorem W5 (fr:Sd.Reply->Nat×Sd.Byt) (C:Sd.Crypt):fC fr C [true,true,false,false]:=λk s F Kb=>by kernel_rfl
theorem W6 (fr:Sd.Reply->Nat×Sd.Byt) (C:Sd.Crypt):fC fr C [true,true,false,true]:=λk s F Kb=>by kernel_rfl
theorem W7 (fr:Sd.Reply->Nat×Sd.Byt) (C:Sd.Crypt):fC fr C [true,true,true,false]:=λk s F Kb=>by kernel_rfl
theorem W8 (fr:Sd.Reply->Nat×Sd.Byt) (C:Sd.Crypt):fC fr C [true,true,true,true]:=λk s F Kb=>by kernel_rfl
end Go.Proofs.YtlkpikfddnjilaaGreatDoor
