/- Part 21 of the proof. -/
import Derived.Test.YtlkpikfddnjilaaGreatDoorE20
set_option linter.all false
set_option maxRecDepth 100000
set_option maxHeartbeats 4000000
open Go.Proofs.Tryz
open Go.IntKind (u8 u16 u32 u64 i64)
namespace Go.Proofs.YtlkpikfddnjilaaGreatDoor
open Go Go.RowKit Go.BigFrame Sx Vx
variable{fr:Sd.Reply->Nat×Sd.Byt}
def ly (k:LK):LK:={k with px:=none,pn:=0,pc:=0}
def vO (C:Sd.Crypt):SM fr:=λar k s F K=>match ar with
 |[.int .i64 l,.raw vp]=>(vp=eb k/\U3 k s l/\By k.pf)/\∀F',K (.aI []) (s.prove C l k.pn k.pf) F'
 |_=>False
theorem ae5 (a b c:Nat) (more:List Nat):Gl gS (cW a b c++more):=by
 intro g i iK;unfold gS at iK;split at iK
 ·obtain rfl:=Option.some.inj iK;exact⟨by simp,rfl⟩
 ·obtain rfl:=Option.some.inj iK;exact⟨by simp,rfl⟩
 ·cases iK
theorem U8 {k:LK} {s:Sd.Scene} (F:cz fr (b9 k s)) (h0:0<k.pn):∃(bp:Nat) (t:List Value) (F0:cz fr (b9 (ly k) s)),k.px=some ⟨bp,0,none⟩/\k.pn<=k.pc/\F0.vs=F.vs/\F0.vr=F.vr/\F.B=F0.B++[⟨bp,true,.cells (ai [] (eC k.pn k.pf t).c).toArray 5 (0,0)⟩]/\
 (ai [] (eC k.pn k.pf t).c).toArray=cd k.pn k.pf k.pc:=by
 obtain⟨b0,b1,b2,b3,b4,hB,k0,k1,k2,k3,k4⟩:=F.hk;obtain⟨hle,h|⟨bp,hx,hb⟩⟩:=k4
 ·have:=h.2.1;simp only[b9]at this;omega
 ·have e:(ai [] (eC k.pn k.pf (List.replicate (k.pc-k.pn) (.int .u8 0))).c).toArray=cd k.pn k.pf k.pc:=by
   simp[eC,ai,cl,cd,fQ]
  refine⟨bp,List.replicate (k.pc-k.pn) (.int .u8 0),{F with Bk:=b0++(b1++(b2++(b3++[]))),hk:=⟨b0,b1,b2,b3,[],rfl,k0,k1,k2,k3,⟨Nat.le_refl _,.inl ⟨rfl,rfl,rfl,rfl⟩⟩⟩},hx,hle,rfl,rfl,?_,e⟩;rw[e,tq,tq];show _=(F.Br++(F.Bs++(F.Bf++(F.Bq++(b0++(b1++(b2++(b3++[]))))))))++_;rw[hB,hb];simp[List.append_assoc,b9]
theorem abi {k:LK} {s:Sd.Scene} (F0:cz fr (b9 (ly k) s)) {bp:Nat} (hx:k.px=some ⟨bp,0,none⟩) (hle:k.pn<=k.pc):∃F:cz fr (b9 k s),F.vs=F0.vs/\F.vr=F0.vr/\F.B=F0.B++[⟨bp,true,.cells (cd k.pn k.pf k.pc) 5 (0,0)⟩]:=by
 obtain⟨b0,b1,b2,b3,b4,hB,k0,k1,k2,k3,k4⟩:=F0.hk;have h4:b4=[]:=by
  obtain⟨_,h|⟨b,hx,_⟩⟩:=k4
  ·exact h.2.2.2
  ·cases hx
 subst h4;refine⟨{F0 with Bk:=b0++(b1++(b2++(b3++[⟨bp,true,.cells (cd k.pn k.pf k.pc) 5 (0,0)⟩]))),hk:=⟨b0,b1,b2,b3,_,rfl,k0,k1,k2,k3,⟨hle,.inr ⟨bp,hx,rfl⟩⟩⟩},rfl,rfl,?_⟩;rw[tq,tq];show(F0.Br++(F0.Bs++(F0.Bf++(F0.Bq++(b0++(b1++(b2++(b3++[(⟨bp,true,.cells (cd k.pn k.pf k.pc) 5 (0,0)⟩:aC)]))))))))=_;rw[hB];simp[List.append_assoc]
theorem HN {k:LK} {s:Sd.Scene} (F:cz fr (b9 k s)) (F0:cz fr (b9 (ly k) s)) (h1:F0.vs=F.vs) (h2:F0.vr=F.vr):cT (ly k) s F0=cT k s F:=by
 have e:vl 3 F0=vl 3 F:=by unfold vl;rw[h1,h2]
 show[aG (ly k),iI (ly k),vl 3 F0,ei (ly k) 4 s,gD s]=_;rw[e];rfl
theorem FI (ht:Body (fr:=fr) 130 bN):Body (fr:=fr) 86 (vO (aq cu)):=by
 intro ar k s F Kb a b c R ms w0 w h0 hq hM S;unfold vO at hM;split at hM
 ·rename_i l vp;obtain⟨⟨rfl,hP,hf⟩,hK⟩:=hM;have hLP:=ae2 (fr:=fr) cu ht;by_cases hn:k.pn=10
  ·obtain⟨bp,t,F0,hx,hle,v1,v2,hB,gb⟩:=U8 F (by omega);obtain⟨e,he⟩:∃e,k.pc=e+10:=⟨k.pc-10,by omega⟩;rw[hn]at hB gb hK;have eP:lits (cW a b c++[bp]) (cW a b c++[bp]) (cT (ly k) s F0++[eC 10 k.pf t])=lits (cW a b c) (cW a b c) (cT k s F)++[⟨bp,true,.cells (ai [] (eC 10 k.pf t).c).toArray 5 (0,0)⟩]:=by
    rw[HN F F0 v1 v2,aY _ _ _ _ rfl,a_ (ids:=cW a b c) (more:=[bp]) (cW a b c) (cT k s F) rfl];rfl
   have S1:St ms w0 (lits (cW a b c++[bp]) (cW a b c++[bp]) (cT (ly k) s F0++[eC 10 k.pf t])++ak [cB (ly k) s F0] R) w:=by
    rw[eP];have en:ak [cB (ly k) s F0] R=F0.B++R:=rfl;rw[en];rw[hB]at S;refine S.perm ?_;rw[List.append_assoc,List.append_assoc];refine List.Perm.append_left _ ?_;exact List.perm_append_comm_assoc _ _ _
   have fW:c_ (dQ prog gS (LP fr (aq cu))) 90 86 [.ptr 2 0,.int .i64 l,.sl 5 0 10 (e+10)] (cT (ly k) s F0++[eC 10 k.pf t]) [cB (ly k) s F0] (Pm (ly k) s 10 k.pf t λv s' _=>∀F',Kb v s' F'):=by
    have hP0:U3 (ly k) s l:=⟨hP.r,hP.lo,hP.key,hP.ke,hP.bU,hP.jB,hP.ep⟩;have hl:l=1\/l=2\/l=3:=by have:=hP.lo;omega
    have hK0:∀F0':cz fr (b9 (ly k) (s.prove (aq cu) l 10 k.pf)),∀F',Kb (.aI []) (s.prove (aq cu) l 10 k.pf) F':=λ_=>hK;rcases hl with rfl|rfl|rfl
    ·rw[U0];refine Aq (λe=>EN (i:=0) (by decide) rfl rfl rfl) (λe r key=>?_) rfl (by decide) hq hP0 hf hK0;obtain⟨_,b1,b3⟩:=m8 s 1 r key;exact vN (i:=0) (by decide) rfl rfl rfl b1 (b3 (by decide)).1 (b3 (by decide)).2
    ·rw[U1];refine Aq (λe=>EN (i:=1) (by decide) rfl rfl rfl) (λe r key=>?_) rfl (by decide) hq hP0 hf hK0;obtain⟨_,b1,b3⟩:=m8 s 2 r key;exact vN (i:=1) (by decide) rfl rfl rfl b1 (b3 (by decide)).1 (b3 (by decide)).2
    ·rw[U2];refine Aq (λe=>EN (i:=2) (by decide) rfl rfl rfl) (λe r key=>?_) rfl (by decide) hq hP0 hf hK0;obtain⟨_,b1,b3⟩:=m8 s 3 r key;exact vN (i:=2) (by decide) rfl rfl rfl b1 (b3 (by decide)).1 (b3 (by decide)).2
   have ea:(az (cW a b c) (.ptr 2 0::[.int .i64 l,.raw (eb k)])).toArray=(az (cW a b c++[bp]) [.ptr 2 0,.int .i64 l,.sl 5 0 10 (e+10)]).toArray:=by
    have:eb k=.slice (some ⟨bp,0,none⟩) 10 (e+10):=by unfold eb;rw[hx,hn,he]
    rw[this];rfl
   rw[ea];refine(bW hLP.T hLP.Q 90 (C:=dQ prog gS (LP fr (aq cu))) (ae5 a b c [bp]) rfl S1 fW).mono ?_;rintro v w' ⟨x,more,bl',ch',rfl,h1,S',s',F',hv,hp,hK',hb,rfl⟩;have ev:den (cW a b c++[bp]++more) x=den [] x:=by have:=bR (ids:=[]) (more:=cW a b c++[bp]++more) x hv;simpa using this
   rw[<-hn]at gb;obtain⟨F2,u1,u2,hB2⟩:=abi F' hx hle;refine⟨x,s',F2,ev,hv,hp,hK' F2,?_⟩;have gp:bl'=(cT (ly k) s' F'++[eC 10 k.pf t])++bl'.drop 6:=by rw[<-hb,List.take_append_drop]
   rw[gp]at S';have e2:lits (cW a b c++[bp]++more) (cW a b c++[bp]++more) ((cT (ly k) s' F'++[eC 10 k.pf t])++bl'.drop 6)=(lits (cW a b c) (cW a b c) (cT k s' F2)++[⟨bp,true,.cells (ai [] (eC 10 k.pf t).c).toArray 5 (0,0)⟩])++lits (cW a b c++[bp]++more) more (bl'.drop 6):=by
    rw[aY _ _ _ _ rfl,a_ (ids:=cW a b c++[bp]) (more:=more) (cW a b c++[bp]) _ rfl];rw[<-HN F2 F' u1.symm u2.symm,aY _ _ _ _ rfl,a_ (ids:=cW a b c) (more:=[bp]) (cW a b c) (cT (ly k) s' F') rfl];rfl
   rw[e2]at S';have e3:ak [cB (ly k) s' F'] R=F'.B++R:=rfl;rw[e3]at S';have S2:=S'.sub (bs':=(lits (cW a b c) (cW a b c) (cT k s' F2)++[⟨bp,true,.cells (ai [] (eC 10 k.pf t).c).toArray 5 (0,0)⟩])++(F'.B++R)) (by
    rw[List.append_assoc (lits _ _ _++_)];exact List.Sublist.append_left (List.sublist_append_right _ _) _)
   rw[hB2];rw[hn]at gb⊢;rw[gb]at S2;refine S2.perm ?_;rw[List.append_assoc,List.append_assoc];refine List.Perm.append_left _ ?_;exact List.perm_append_comm_assoc _ _ _
  ·refine dG (M:=λar k s F K=>(ar=[.int .i64 l,.raw (eb k)]/\k.pn≠10/\s.recs.length<=1000)/\∀F',K (.aI []) (s.dp (aq cu) l 13) F') (n:=90) hLP ?_ _ k s F Kb a b c R ms w0 w h0 hq ⟨⟨rfl,hn,by have:=hP.r.2;omega⟩,?_⟩ S
   ·rintro ar k s F Kb _ hq ⟨⟨rfl,hn,hr⟩,hK⟩;rw[Ke];refine aS (λe=>⟨eZ hq,vt hr λF1=>aK rfl hK F1⟩) (λe=>?_);have:(k.pn:Int)=10:=by simpa using e
    omega
   ·have:s.prove (aq cu) l k.pn k.pf=s.dp (aq cu) l 13:=by unfold Sd.Scene.prove;rw[if_pos hn]
    rw[this]at hK;exact hK
 ·exact hM.elim
end Go.Proofs.YtlkpikfddnjilaaGreatDoor
namespace Go.Proofs.YtlkpikfddnjilaaGreatDoor
open Go Go.RowKit Go.BigFrame Sx Vx
def gR:Nat->Option Nat
 |0=>some 0
 |_=>none
def abj:QF:=⟨134,λargs _=>match args with
 |[.agg wl,.int .i64 n]=>(match Z8 wl with
  |some z=>some ((0<=z.high/\z.high<=4294967295)/\(0<=n/\n<=4294967295),.aI [.agg (ad_ (dR z n)),.bool (B6 (dR z n) z)])
  |none=>none)
 |_=>none⟩
theorem U9 (gl:Nat->Option Nat):abj.Ok prog gl:=by
 intro args bl p v h hp ids w _ _;unfold abj at h;dsimp only at h;split at h
 ·rename_i wl n;split at h
  ·rename_i z hz;simp only[Option.some.injEq,Prod.mk.injEq]at h;obtain⟨rfl,rfl⟩:=h;obtain rfl:=T6 hz;exact told (ad8 z n hp.1 hp.2 w)
  ·cases h
 ·cases h
def Pp {G:Type} (k:LK):jq G:=λargs bl ch K=>match args with
 |[.agg [.ew .u8 32 key],.int .i64 l,.sl i 0 n c]=>(match bl[i]?with
  |some b=>(match b.c with
   |[.ew .u8 n' f,.rest t]=>cond (A5 b.ty 5&&ez bl.length bl) ((bl[0]?=some (aG k)/\n=n'/\n<=58/\n<=c/\(0<=l/\l<4294967296))/\
    ((n<8\/kC key l (n-8) f=false)->K (.aI [.raw (.slice none 0 0),.int .i64 14]) bl ch)/\
    (8<=n->kC key l (n-8) f=true->(n=8->∀(x:Option Addr) (c':Nat),K (.aI [.raw (.slice x 0 c'),.int .i64 0]) bl ch)/\
     (8<n->∀(c':Nat) (t':List Value),n-8<=c'->K (.aI [.sl bl.length 0 (n-8) c',.int .i64 0]) (bl++[eC (n-8) f t']) ch))) False
   |_=>False)
  |none=>False)
 |[.agg [.ew .u8 32 key],.int .i64 l,.raw (.slice x 0 c)]=>K (.aI [.raw (.slice none 0 0),.int .i64 14]) bl ch
 |_=>False
theorem FJ {G:Type} [Bl G] (k:LK):Sound (G:=G) prog gR 133 (Pp k):=by
 intro args ids bl ch R ms w0 w K hg hl S hc;unfold Pp at hc;split at hc
 ·rename_i key l i n c;split at hc
  ·rename_i b hb;split at hc
   ·rename_i n' f t hbc;cases hq:A5 b.ty 5&&ez bl.length bl with
    |false=>rw[hq]at hc;exact hc.elim
    |true=>
     rw[hq]at hc;simp only[cond_true]at hc;simp only[Bool.and_eq_true]at hq;obtain⟨⟨hr,rfl,hn,DB,Sa⟩,KV,ae6⟩:=hc;have cD:=(dY hl S hb).2;rw[hbc,yJ hq.1]at cD;have mh:w.heap[0]?=some (.cells (aj .u32 64 aT) k.tg (0,0)):=by
      have h1:=(dY hl S hr).2;rw[(hg 0 0 rfl).2]at h1;have e:(ai ids (aG k).c).toArray=aj .u32 64 aT:=by kernel_rfl
      rw[e]at h1;exact h1
     have h8:fK w (ids.getD i 0) 0 n f:=by
      intro j hj;rw[cell_of cD];have e:(ai ids [V.ew .u8 n f,.rest t]).toArray=((List.range n).map (λj=>Value.int .u8 (f j))++t).toArray:=by simp[ai,cl]
      rw[e];simp only[Nat.zero_add,List.getElem?_toArray];rw[List.getElem?_append_left (by simpa using hj),List.getElem?_map,List.getElem?_range hj];rfl
     have ea:(az ids [.agg [.ew .u8 32 key],.int .i64 l,.sl i 0 n c]).toArray=#[.agg (aj .u8 32 key),.int .i64 l,.slice (some ⟨ids.getD i 0,0,none⟩) n c]:=by kernel_rfl
     rw[ea];have fin:∀{v:Value} {w1:World},v=.tuple #[.slice none 0 0,.int .i64 14]->Ch [] w w1->K (.aI [.raw (.slice none 0 0),.int .i64 14]) bl ch->∃x more bl' ch',v=den (ids++more) x/\(ids++more).length=bl'.length/\St ms w0 (lits (ids++more) (ids++more) bl'++ak ch' R) w1/\K x bl' ch':=by
      rintro v w1 rfl kq hk;exact⟨_,[],bl,ch,by simp[den,az],by simpa using hl,by simpa using S.quiet kq,hk⟩
     rcases Nat.lt_or_ge n 8 with h|h
     ·exact(uU key l _ n c h w).mono λv w1 ⟨hv,kq⟩=>fin hv kq (KV (.inl h))
     ·obtain⟨m,rfl⟩:∃m,n=m+8:=⟨n-8,by omega⟩;rw[Nat.add_sub_cancel]at KV ae6;cases ho:kC key l m f with
      |false=>exact(Tn key l _ 0 m c f (by omega) DB Sa ho w mh h8).mono λv w1 ⟨hv,kq⟩=>fin hv kq (KV (.inr ho))
      |true=>
       refine(Nk key l _ 0 m c f (by omega) DB Sa ho w mh h8).mono ?_;rintro v w1 ⟨x1,c1,wG,rfl,h8',S1⟩;obtain⟨y0,y1⟩:=ae6 h ho;have hS:=S.quiet S1.ch;rcases Nat.eq_zero_or_pos m with rfl|h0
       ·exact⟨_,[],bl,ch,by simp[den,az],by simpa using hl,by simpa using hS,y0 rfl x1 c1⟩
       ·obtain⟨bn,hle,rfl,rfl⟩:=cy h8' h0;refine⟨_,[bn],_,ch,?_,by simp[hl],?_,y1 (by omega) c1 (List.replicate (c1-m) (.int .u8 0)) hle⟩
        ·simp only[den,az];rw[<-hl,cQ]
        ·rw[aY _ _ _ _ hl,a_ _ _ (by rw[hl];exact hq.2)];have e2:lits (ids++[bn]) [bn] [eC m f (List.replicate (c1-m) (.int .u8 0))]=[⟨bn,true,.cells (cd m f c1) 5 (0,0)⟩]:=by
          simp[lits,aW,eC,ai,cl,cd,fQ]
         rw[e2];have ahy:=S1.rD (x:=⟨bn,true,.cells (cd m f c1) 5 (0,0)⟩) (by simp) rfl;have rC:w.heap.size<=bn:=by rcases ahy with h|h;cases h;exact h
         have:=S.new S1.ch rC (S1.at' (x:=⟨bn,true,.cells (cd m f c1) 5 (0,0)⟩) (by simp));refine this.perm ?_;rw[List.append_assoc];exact List.perm_middle.symm
   ·exact hc.elim
  ·exact hc.elim
 ·rename_i key l x c;have ea:(az ids [.agg [.ew .u8 32 key],.int .i64 l,.raw (.slice x 0 c)]).toArray=#[.agg (aj .u8 32 key),.int .i64 l,.slice x 0 c]:=by kernel_rfl
  rw[ea];refine(uU key l x 0 c (by decide) w).mono ?_;rintro v w1 ⟨rfl,kq⟩;exact⟨_,[],bl,ch,by simp[den,az],by simpa using hl,by simpa using S.quiet kq,hc⟩
 ·exact hc.elim
def LO (k:LK):List (eG Empty):=⟨133,false,Pp k⟩::qL Empty (qtk::abj::QV)
theorem HO (k:LK):ao prog gR (LO k):=ao.cons ⟨FJ k,λe=>by cases e⟩ (fZ (aX.cons (Pj gR) (aX.cons (U9 gR) (sW gR))))
def gr (e:Int):V:=.aI [.agg (cC (Sd.jd 0)),.int .i64 e]
def vP (w:Sd.de) (b:Int) (m:Sd.dw) (e:Int) (X:V->Option (Sd.de×Sd.Timer)->Prop):Prop:=
 cond (e !=0) (X (gr 13) none) (cond (m.kind==1) (X (gr 13) none) (cond (m.kind==2) (X (gr 13) none)
  (((0<=w.high/\w.high<=4294967295)/\(0<=m.seq/\m.seq<=4294967295))/\cond (!(B6 (dR w m.seq) w)) (X (gr 15) none)
    ((-9223372036854775808<=b/\b<=9223372036854775807)/\X (.aI [.agg (cC m),.int .i64 0]) (some (dR w m.seq,Sd.Timer.start b))))))
def vQ (k:LK) (s:Sd.bu) (b l:Int) (n c:Nat) (f:Nat->Int) (X:V->Option (Sd.de×Sd.Timer)->Prop):Prop:=
 cond (!s.on) (X (gr 16) none) ((some (aG k)=some (aG k)/\n=n/\n<=58/\n<=c/\(0<=l/\l<4294967296))/\
  ((n<8\/kC s.key l (n-8) f=false)->X (gr 14) none)/\
  (8<=n->kC s.key l (n-8) f=true->(n=8->∀(x:Option Addr) (c':Nat),True/\vP s.seen b (tu 0 λ_=>0) (vK 0 λ_=>0) X)/\
   (8<n->∀(c':Nat) (t':List Value),n-8<=c'->(n-8<=n-8/\n-8<=c'/\By f)/\vP s.seen b (tu (n-8) f) (vK (n-8) f) X)))
def K1 (s:Sd.bu):Option (Sd.de×Sd.Timer)->Sd.bu
 |none=>s
 |some (w,t)=>{s with seen:=w,on:=true,aP:=t}
def kT (X:V->List VB->Prop):VK Empty:=λv bl _=>X v (bl.take 3)
section
variable(k:LK) (y:TC) (n c:Nat) (f:Nat->Int) (t:List Value) (X:V->List VB->Prop)
theorem ahz:c_ (dQ prog gR (LO k)) 60 87 [.ptr 1 0,.int .i64 1,.sl 2 0 n c] [aG k,⟨true,⟨143,(0,0)⟩,bZ y⟩,eC n f t] [] (kT X)=vQ k y.s0 y.b 1 n c f λv o=>X v [aG k,⟨true,⟨143,(0,0)⟩,bZ {y with s0:=K1 y.s0 o}⟩,eC n f t]:=by kernel_rfl
theorem ahA:c_ (dQ prog gR (LO k)) 60 87 [.ptr 1 0,.int .i64 2,.sl 2 0 n c] [aG k,⟨true,⟨143,(0,0)⟩,bZ y⟩,eC n f t] [] (kT X)=vQ k y.sa y.b 2 n c f λv o=>X v [aG k,⟨true,⟨143,(0,0)⟩,bZ {y with sa:=K1 y.sa o}⟩,eC n f t]:=by kernel_rfl
theorem ahB:c_ (dQ prog gR (LO k)) 60 87 [.ptr 1 0,.int .i64 3,.sl 2 0 n c] [aG k,⟨true,⟨143,(0,0)⟩,bZ y⟩,eC n f t] [] (kT X)=vQ k y.sb y.b 3 n c f λv o=>X v [aG k,⟨true,⟨143,(0,0)⟩,bZ {y with sb:=K1 y.sb o}⟩,eC n f t]:=by kernel_rfl
def l0 (y:TC) (l:Int):Sd.bu:=if l=1 then y.s0 else if l=2 then y.sa else y.sb
theorem ahC (x:Option Addr):c_ (dQ prog gR (LO k)) 60 87 [.ptr 1 0,.int .i64 1,.raw (.slice x 0 c)] [aG k,⟨true,⟨143,(0,0)⟩,bZ y⟩] [] (λv bl _=>X v (bl.take 2))=cond (!y.s0.on) (X (gr 16) [aG k,⟨true,⟨143,(0,0)⟩,bZ y⟩]) (X (gr 14) [aG k,⟨true,⟨143,(0,0)⟩,bZ y⟩]):=by kernel_rfl
theorem ahD (x:Option Addr):c_ (dQ prog gR (LO k)) 60 87 [.ptr 1 0,.int .i64 2,.raw (.slice x 0 c)] [aG k,⟨true,⟨143,(0,0)⟩,bZ y⟩] [] (λv bl _=>X v (bl.take 2))=cond (!y.sa.on) (X (gr 16) [aG k,⟨true,⟨143,(0,0)⟩,bZ y⟩]) (X (gr 14) [aG k,⟨true,⟨143,(0,0)⟩,bZ y⟩]):=by kernel_rfl
theorem ahE (x:Option Addr):c_ (dQ prog gR (LO k)) 60 87 [.ptr 1 0,.int .i64 3,.raw (.slice x 0 c)] [aG k,⟨true,⟨143,(0,0)⟩,bZ y⟩] [] (λv bl _=>X v (bl.take 2))=cond (!y.sb.on) (X (gr 16) [aG k,⟨true,⟨143,(0,0)⟩,bZ y⟩]) (X (gr 14) [aG k,⟨true,⟨143,(0,0)⟩,bZ y⟩]):=by kernel_rfl
end
variable{fr:Sd.Reply->Nat×Sd.Byt}
def dH (s:Sd.bu) (b l:Int) (n:Nat) (f:Nat->Int):V×Option (Sd.de×Sd.Timer):=
 if s.on=false then(gr 16,none)else if n<8\/kC s.key l (n-8) f=false then(gr 14,none)else match cu (n-8) f with
 |none=>(gr 13,none)
 |some m=>if m.kind=1\/m.kind=2 then(gr 13,none)else if dR s.seen m.seq=s.seen then(gr 15,none)else(.aI [.agg (cC m),.int .i64 0],some (dR s.seen m.seq,Sd.Timer.start b))
theorem Kf {w:Sd.de} {b:Int} {n:Nat} {f:Nat->Int} {X:V->Option (Sd.de×Sd.Timer)->Prop} (hw:0<=w.high/\w.high<=4294967295) (hb:0<=b/\b<=1000)
 (h0:cu n f=none->X (gr 13) none) (h1:∀m,cu n f=some m->if m.kind=1\/m.kind=2 then X (gr 13) none else if dR w m.seq=w then X (gr 15) none else X (.aI [.agg (cC m),.int .i64 0]) (some (dR w m.seq,Sd.Timer.start b))):
 vP w b (tu n f) (vK n f) X:=by
 unfold vP;refine aS (λe=>h0 (HM e)) (λe=>?_);have hm:=HL e;have h2:=h1 _ hm;have GH:=FH hm;refine aS (λe1=>?_) (λe1=>aS (λe2=>?_) (λe2=>⟨⟨hw,GH.seq⟩,aS (λe3=>?_) (λe3=>⟨by omega,?_⟩)⟩))
 ·rw[if_pos (.inl (by simpa using e1))]at h2;exact h2
 ·rw[if_pos (.inr (by simpa using e2))]at h2;exact h2
 ·rw[if_neg (by simp at e1 e2;simp[e1,e2]),if_pos ((xE _ _).1 (by simpa using e3))]at h2;exact h2
 ·rw[if_neg (by simp at e1 e2;simp[e1,e2]),if_neg (λh=>by rw[(xE _ _).2 h]at e3;simp at e3)]at h2;exact h2
theorem sj {k:LK} {s:Sd.bu} {b l:Int} {n c:Nat} {f:Nat->Int} {X:V->Option (Sd.de×Sd.Timer)->Prop} (hw:s.on=true->0<=s.seen.high/\s.seen.high<=4294967295) (hb:0<=b/\b<=1000) (hn:n<=58) (hc:n<=c) (hl:1<=l/\l<=3) (hf:By f)
 (h:X (dH s b l n f).1 (dH s b l n f).2):vQ k s b l n c f X:=by
 unfold dH at h;unfold vQ;refine aS (λe=>?_) (λe=>⟨⟨rfl,rfl,hn,hc,by omega,by omega⟩,λh14=>?_,λh8 ho=>?_⟩)
 ·rw[if_pos (by simpa using e)]at h;exact h
 ·rw[if_neg (by simpa using e),if_pos h14]at h;exact h
 ·rw[if_neg (by simpa using e),if_neg (by rw[ho];simp;omega)]at h;have main:∀g:Nat->Int,cu (n-8) g=cu (n-8) f->vP s.seen b (tu (n-8) g) (vK (n-8) g) X:=by
   intro g hg;refine Kf (hw (by simpa using e)) hb (λh0=>?_) (λm hm=>?_)
   ·rw[hg]at h0;rw[h0]at h;exact h
   ·rw[hg]at hm;rw[hm]at h;simp only at h;split
    ·rename_i h1;rw[if_pos h1]at h;exact h
    ·rename_i h1;rw[if_neg h1]at h;split
     ·rename_i h2;rw[if_pos h2]at h;exact h
     ·rename_i h2;rw[if_neg h2]at h;exact h
  refine⟨λh8' x c'=>⟨trivial,?_⟩,λh8' c' t' Rn=>⟨⟨Nat.le_refl _,Rn,hf⟩,main f rfl⟩⟩;have h0:n-8=0:=by omega
  have:=main (λ_=>0) (by rw[h0];rfl);rw[h0]at this;exact this
theorem Pq (t:Sd.Tab) (p:Sd.Pol) (l:Int) (n:Nat) (f:Nat->Int) (hl:1<=l/\l<=3):
 (∃e,Sd.Tab.take (aq cu) p t l n f=(t,.error e)/\dH (t.aE (l.toNat-1)) p.bU l n f=(gr e,none))\/
 (∃m w,Sd.Tab.take (aq cu) p t l n f=(t.fe (l.toNat-1) {(t.aE (l.toNat-1))with seen:=w,on:=true,aP:=.start p.bU},.ok m)/\dH (t.aE (l.toNat-1)) p.bU l n f=(.aI [.agg (cC m),.int .i64 0],some (w,Sd.Timer.start p.bU))):=by
 have tp:t.fw l=(t.aE (l.toNat-1)).on:=by
  unfold Sd.Tab.fw;simp[hl.1,hl.2]
 unfold Sd.Tab.take dH;rw[tp];by_cases h1:(t.aE (l.toNat-1)).on=false
 ·rw[if_pos h1,if_pos h1];exact .inl ⟨16,rfl,rfl⟩
 ·rw[if_neg h1,if_neg h1];by_cases h2:n<8\/kC (t.aE (l.toNat-1)).key l (n-8) f=false
  ·rw[if_pos h2];have:n<8\/(aq cu).opens (t.aE (l.toNat-1)).key l n f=false:=h2;rw[if_pos this];exact .inl ⟨14,rfl,rfl⟩
  ·rw[if_neg h2];have:¬(n<8\/(aq cu).opens (t.aE (l.toNat-1)).key l n f=false):=h2;rw[if_neg this];rw[show(aq cu).take (n-8) f=cu (n-8) f from rfl];cases htk:cu (n-8) f with
   |none=>exact .inl ⟨13,rfl,rfl⟩
   |some m=>
    simp only;by_cases h3:m.kind=1\/m.kind=2
    ·rw[if_pos h3,if_pos h3];exact .inl ⟨13,rfl,rfl⟩
    ·rw[if_neg h3,if_neg h3];by_cases h4:dR (t.aE (l.toNat-1)).seen m.seq=(t.aE (l.toNat-1)).seen
     ·rw[if_pos h4];have:(aq cu).n9 (t.aE (l.toNat-1)).seen m.seq=(t.aE (l.toNat-1)).seen:=h4;rw[if_pos this];exact .inl ⟨15,rfl,rfl⟩
     ·rw[if_neg h4];have:¬(aq cu).n9 (t.aE (l.toNat-1)).seen m.seq=(t.aE (l.toNat-1)).seen:=h4;rw[if_neg this];exact .inr ⟨m,dR (t.aE (l.toNat-1)).seen m.seq,rfl,rfl⟩
theorem HP {d:FD} (F:cz fr d) (h0:0<d.k.pn):∃(bp:Nat) (t:List Value) (X:List aC),d.k.px=some ⟨bp,0,none⟩/\d.k.pn<=d.k.pc/\F.B=X++[⟨bp,true,.cells (ai [] (eC d.k.pn d.k.pf t).c).toArray 5 (0,0)⟩]:=by
 obtain⟨b0,b1,b2,b3,b4,hB,k0,k1,k2,k3,k4⟩:=F.hk;obtain⟨hle,h|⟨bp,hx,hb⟩⟩:=k4
 ·have:=h.2.1;omega
 ·have e:(ai [] (eC d.k.pn d.k.pf (List.replicate (d.k.pc-d.k.pn) (.int .u8 0))).c).toArray=cd d.k.pn d.k.pf d.k.pc:=by
   simp[eC,ai,cl,cd,fQ]
  refine⟨bp,List.replicate (d.k.pc-d.k.pn) (.int .u8 0),F.Br++(F.Bs++(F.Bf++(F.Bq++(b0++(b1++(b2++b3)))))),hx,hle,?_⟩;rw[e,tq,hB,hb];simp[List.append_assoc]
def FK (C:Sd.Crypt):jq (Gh fr):=λargs bl ch K=>match args,ch with
 |[.ptr it 0,.int .i64 l,.raw vp],g::rest=>(match bl[it]?with
  |some ⟨true,⟨143,(0,0)⟩,tc⟩=>(match vj tc with
   |some y=>cond (!(Nat.beq it 0)) ((vp=eb g.d.k/\bl[0]?=some (aG g.d.k)/\g.d.k.pn<=58/\By g.d.k.pf/\(1<=l/\l<=3)/\(0<=y.b/\y.b<=1000)/\(∀i,i<3->((aM y).aE i).on=true->0<=((aM y).aE i).seen.high/\((aM y).aE i).seen.high<=4294967295))/\
    (∀e,Sd.Tab.take C (pY y.b y.m) (aM y) l g.d.k.pn g.d.k.pf=(aM y,.error e)->K (gr e) bl ch)/\
    (∀t' m,Sd.Tab.take C (pY y.b y.m) (aM y) l g.d.k.pn g.d.k.pf=(t',.ok m)->K (.aI [.agg (cC m),.int .i64 0]) (bl.set it ⟨true,⟨143,(0,0)⟩,bZ (DK t' y.b y.m)⟩) ch)) False
   |none=>False)
  |_=>False)
 |_,_=>False
theorem Pr {bl:List VB} {i:Nat} {b:VB} (h:bl[i]?=some b):bl.set i b=bl:=by
 apply List.ext_getElem?;intro j;rw[List.getElem?_set];split
 ·rename_i e;subst e;have:=ct h;rw[if_pos this];exact h.symm
 ·rfl
theorem CU:Sound prog gS 87 (FK (fr:=fr) (aq cu)):=by
 intro args ids bl ch R ms w0 w K hg hl S hc;unfold FK at hc;split at hc
 ·rename_i it l vp g rest;split at hc
  ·rename_i tc hb;split at hc
   ·rename_i y hy;cases hq:!(Nat.beq it 0)with
    |false=>rw[hq]at hc;exact hc.elim
    |true=>
     rw[hq]at hc;simp only[cond_true]at hc;obtain⟨⟨rfl,hr,hn,hf,hlo,hbt,hwn⟩,hE,hO⟩:=hc;obtain rfl:=kl hy;have Oe:it≠0:=by rintro rfl;simp at hq
     have hi:=ct hb;have hi0:=ct hr;have ae7:ids.getD 0 0=0:=(hg 0 0 rfl).2;obtain⟨r,hrr,eo⟩:=vm hl (is:=[0,it]) (by simp[Ne.symm Oe]) (by simp[hi,hi0]);have XD:(pY y.b y.m).bU=y.b:=rfl;have p1:=eo bl rfl;simp only[List.map_cons,List.map_nil,List.cons_append,List.nil_append]at p1;rw[cR hb,cR hr,ae7]at p1;have U_:(aM y).aE (l.toNat-1)=l0 y l:=by
      have:l=1\/l=2\/l=3:=by omega
      rcases this with rfl|rfl|rfl<;>rfl
     have Ps:=Pq (aM y) (pY y.b y.m) l g.d.k.pn g.d.k.pf hlo;rw[U_,XD]at Ps;have hw:(l0 y l).on=true->0<=(l0 y l).seen.high/\(l0 y l).seen.high<=4294967295:=by rw[<-U_];exact hwn _ (by omega)
     have e0:ak (g::rest) R=g.F.B++ak rest R:=rfl;rw[e0]at S;have er:∀is:List Nat,aW is 0 (aG g.d.k)=aW [] 0 (aG g.d.k):=λis=>by
      have:=b_ (ids:=[]) (more:=is) (aG g.d.k).c rfl;simp only[List.nil_append]at this;simp only[aW,this]
     have et:∀(is:List Nat) (i:Nat) (y:TC),aW is i ⟨true,⟨143,(0,0)⟩,bZ y⟩=aW [] i ⟨true,⟨143,(0,0)⟩,bZ y⟩:=λis i y=>by
      have:=b_ (ids:=[]) (more:=is) (bZ y) rfl;simp only[List.nil_append]at this;simp only[aW,this]
     have ep:∀(is:List Nat) (i n:Nat) (f:Nat->Int) (t:List Value),aW is i (eC n f t)=aW [] i (eC n f t):=λis i n f t=>by
      have:=b_ (ids:=[]) (more:=is) (eC n f t).c rfl;simp only[List.nil_append]at this;simp only[aW,this]
     have back:∀(y':TC) (w':World) (Z:List aC),St ms w0 (aW [] 0 (aG g.d.k)::aW [] (ids.getD it 0) ⟨true,⟨143,(0,0)⟩,bZ y'⟩::((r.map λj=>aW ids (ids.getD j 0) (bl.getD j ir))++Z)) w'->St ms w0 (lits ids ids (bl.set it ⟨true,⟨143,(0,0)⟩,bZ y'⟩)++Z) w':=by
      intro y' w' Z hS;have p2:=eo (bl.set it ⟨true,⟨143,(0,0)⟩,bZ y'⟩) (by simp);simp only[List.map_cons,List.map_nil,List.cons_append,List.nil_append]at p2;have e3:(r.map λj=>aW ids (ids.getD j 0) ((bl.set it ⟨true,⟨143,(0,0)⟩,bZ y'⟩).getD j ir))=r.map λj=>aW ids (ids.getD j 0) (bl.getD j ir):=by
       apply List.map_congr_left;intro j hj;have:=hrr j hj;simp only[List.getD];rw[eY (λh=>this (by simp[h]))]
      rw[e3,cR (mY hi),cR (i:=0) (b:=aG g.d.k) (by rw[List.getElem?_set_ne Oe];exact hr),ae7,er,et]at p2;exact hS.perm (p2.symm.append_right Z)
     have done:∀{w':World} (y':TC) (v:V) (o:Option (Sd.de×Sd.Timer)),fR 0 v=true->dH (l0 y l) y.b l g.d.k.pn g.d.k.pf=(v,o)->y'=(if l=1 then{y with s0:=K1 y.s0 o}else if l=2 then{y with sa:=K1 y.sa o}else{y with sb:=K1 y.sb o})->
      St ms w0 (lits ids ids (bl.set it ⟨true,⟨143,(0,0)⟩,bZ y'⟩)++(g.F.B++ak rest R)) w'->∃x more bl' ch',den [] v=den (ids++more) x/\(ids++more).length=bl'.length/\St ms w0 (lits (ids++more) (ids++more) bl'++ak ch' R) w'/\K x bl' ch':=by
      intro w' y' v o hv ht hy' hS;have ev:∀is,den is v=den [] v:=λis=>by have:=bR (ids:=[]) (more:=is) v hv;simpa using this
      rcases Ps with⟨e,h1,h2⟩|⟨m,w2,h1,h2⟩
      ·rw[h2]at ht;obtain⟨rfl,rfl⟩:=Prod.mk.inj ht;have hyy:y'=y:=by
        rw[hy'];split
        ·rfl
        ·split<;>rfl
       rw[hyy]at hS;have A7:bl.set it ⟨true,⟨143,(0,0)⟩,bZ y⟩=bl:=Pr hb;rw[A7]at hS;exact⟨gr e,[],bl,g::rest,(ev _).symm,by simpa using hl,by rw[List.append_nil,e0];exact hS,hE e h1⟩
      ·rw[h2]at ht;obtain⟨rfl,rfl⟩:=Prod.mk.inj ht;refine⟨.aI [.agg (cC m),.int .i64 0],[],_,g::rest,(ev _).symm,by simpa using hl,?_,hO _ m h1⟩;rw[List.append_nil,e0];have hyy:DK ((aM y).fe (l.toNat-1) {l0 y l with seen:=w2,on:=true,aP:=.start y.b}) y.b y.m=y':=by
        rw[hy'];have:l=1\/l=2\/l=3:=by omega
        rcases this with rfl|rfl|rfl<;>rfl
       rw[hyy];exact hS
     have hX:∀(y':TC) (o:Option (Sd.de×Sd.Timer)) (v:V),dH (l0 y l) y.b l g.d.k.pn g.d.k.pf=(v,o)->fR 0 v=true:=by
      intro y' o v hv;rcases Ps with⟨e,h1,h2⟩|⟨m,w2,h1,h2⟩<;>(rw[h2]at hv;obtain⟨rfl,rfl⟩:=Prod.mk.inj hv;rfl)
     rcases Nat.eq_zero_or_pos g.d.k.pn with hz|Pt
     ·
      have hg2:Gl gR [0,ids.getD it 0]:=by
       intro gg i iK;unfold gR at iK;split at iK
       ·obtain rfl:=Option.some.inj iK;exact⟨by simp,rfl⟩
       ·cases iK
      have S1:=S.perm (p1.append_right _);simp only[List.cons_append]at S1;rw[er,et]at S1;have S2:St ms w0 (lits [0,ids.getD it 0] [0,ids.getD it 0] [aG g.d.k,⟨true,⟨143,(0,0)⟩,bZ y⟩]++ak ([]:List Empty) ((r.map λj=>aW ids (ids.getD j 0) (bl.getD j ir))++(g.F.B++ak rest R))) w:=by
       simp only[lits,ak,er,et,List.cons_append,List.nil_append];exact S1
      let X:V->List VB->Prop:=λv b=>v=(dH (l0 y l) y.b l g.d.k.pn g.d.k.pf).1/\b=[aG g.d.k,⟨true,⟨143,(0,0)⟩,bZ y⟩]
      have hT:dH (l0 y l) y.b l g.d.k.pn g.d.k.pf=if(l0 y l).on=false then(gr 16,none)else(gr 14,none):=by
       unfold dH;rw[hz];split
       ·rfl
       ·rw[if_pos (.inl (by decide))]
      have fW:c_ (dQ prog gR (LO g.d.k)) 60 87 [.ptr 1 0,.int .i64 l,.raw (.slice g.d.k.px 0 g.d.k.pc)] [aG g.d.k,⟨true,⟨143,(0,0)⟩,bZ y⟩] [] (λv bl _=>X v (bl.take 2)):=by
       have Pu:cond (!(l0 y l).on) (X (gr 16) [aG g.d.k,⟨true,⟨143,(0,0)⟩,bZ y⟩]) (X (gr 14) [aG g.d.k,⟨true,⟨143,(0,0)⟩,bZ y⟩]):=by
        refine aS (λe=>⟨?_,rfl⟩) (λe=>⟨?_,rfl⟩)
        ·rw[hT,if_pos (by simpa using e)]
        ·rw[hT,if_neg (by simpa using e)]
       have:l=1\/l=2\/l=3:=by omega
       rcases this with rfl|rfl|rfl
       ·rw[ahC];exact Pu
       ·rw[ahD];exact Pu
       ·rw[ahE];exact Pu
      have ea:(az ids [.ptr it 0,.int .i64 l,.raw (eb g.d.k)]).toArray=(az [0,ids.getD it 0] [.ptr 1 0,.int .i64 l,.raw (.slice g.d.k.px 0 g.d.k.pc)]).toArray:=by
       have:eb g.d.k=.slice g.d.k.px 0 g.d.k.pc:=by unfold eb;rw[hz]
       rw[this];rfl
      rw[ea];refine(bW (HO g.d.k).T (HO g.d.k).Q 60 (C:=dQ prog gR (LO g.d.k)) hg2 rfl S2 fW).mono ?_;rintro v w' ⟨x,more,bl',ch',rfl,h1,S3,hv,GH⟩;have Va:fR 0 x=true:=by
       rw[hv];exact hX y _ _ rfl
      have gp:bl'=[aG g.d.k,⟨true,⟨143,(0,0)⟩,bZ y⟩]++bl'.drop 2:=by rw[<-GH,List.take_append_drop]
      rw[gp]at S3;have e2:lits ([0,ids.getD it 0]++more) ([0,ids.getD it 0]++more) ([aG g.d.k,⟨true,⟨143,(0,0)⟩,bZ y⟩]++bl'.drop 2)=aW [] 0 (aG g.d.k)::aW [] (ids.getD it 0) ⟨true,⟨143,(0,0)⟩,bZ y⟩::lits ([0,ids.getD it 0]++more) more (bl'.drop 2):=by
       simp only[List.cons_append,List.nil_append,lits,er,et]
      rw[e2]at S3;have e3:ak ch' ((r.map λj=>aW ids (ids.getD j 0) (bl.getD j ir))++(g.F.B++ak rest R))=(r.map λj=>aW ids (ids.getD j 0) (bl.getD j ir))++(g.F.B++ak rest R):=by cases ch' with
       |nil=>rfl
       |cons c _=>cases c
      rw[e3]at S3;have S4:=S3.sub (bs':=aW [] 0 (aG g.d.k)::aW [] (ids.getD it 0) ⟨true,⟨143,(0,0)⟩,bZ y⟩::((r.map λj=>aW ids (ids.getD j 0) (bl.getD j ir))++(g.F.B++ak rest R))) (by
       simp only[List.cons_append];exact List.Sublist.cons_cons _ (List.Sublist.cons_cons _ (List.sublist_append_right _ _)))
      have ex:den ([0,ids.getD it 0]++more) x=den [] x:=by have:=bR (ids:=[]) (more:=[0,ids.getD it 0]++more) x Va;simpa using this
      rw[ex];have ho:(dH (l0 y l) y.b l g.d.k.pn g.d.k.pf).2=none:=by rw[hT];split<;>rfl
      refine done y x none Va ?_ ?_ (back y w' _ S4)
      ·rw[hv,<-ho]
      ·split
       ·rfl
       ·split<;>rfl
     ·
      obtain⟨bp,t,XX,hx,hle,hBB⟩:=HP g.F Pt;have hg2:Gl gR [0,ids.getD it 0,bp]:=by
       intro gg i iK;unfold gR at iK;split at iK
       ·obtain rfl:=Option.some.inj iK;exact⟨by simp,rfl⟩
       ·cases iK
      have ahF:(⟨bp,true,.cells (ai [] (eC g.d.k.pn g.d.k.pf t).c).toArray 5 (0,0)⟩:aC)=aW [] bp (eC g.d.k.pn g.d.k.pf t):=rfl;rw[ahF]at hBB;have S1:=S.perm (p1.append_right _);rw[hBB]at S1;simp only[List.cons_append]at S1;rw[er,et]at S1;have pm:∀(a b c:aC) (A B Z:List aC),(a::b::(A++((B++[c])++Z))).Perm (a::b::c::(A++(B++Z))):=by
       intro a b c A B Z;refine List.Perm.cons a (List.Perm.cons b ?_);have:=List.perm_middle (a:=c) (l₁:=A++B) (l₂:=Z);simpa[List.append_assoc]using this
      have S2:St ms w0 (lits [0,ids.getD it 0,bp] [0,ids.getD it 0,bp] [aG g.d.k,⟨true,⟨143,(0,0)⟩,bZ y⟩,eC g.d.k.pn g.d.k.pf t]++ak ([]:List Empty) ((r.map λj=>aW ids (ids.getD j 0) (bl.getD j ir))++(XX++ak rest R))) w:=by
       simp only[lits,ak,er,et,ep,List.cons_append,List.nil_append];exact S1.perm (pm _ _ _ _ _ _)
      let X:V->List VB->Prop:=λv b=>v=(dH (l0 y l) y.b l g.d.k.pn g.d.k.pf).1/\b=[aG g.d.k,⟨true,⟨143,(0,0)⟩,bZ (if l=1 then{y with s0:=K1 y.s0 (dH (l0 y l) y.b l g.d.k.pn g.d.k.pf).2}else if l=2 then{y with sa:=K1 y.sa (dH (l0 y l) y.b l g.d.k.pn g.d.k.pf).2}else{y with sb:=K1 y.sb (dH (l0 y l) y.b l g.d.k.pn g.d.k.pf).2})⟩,eC g.d.k.pn g.d.k.pf t]
      have fW:c_ (dQ prog gR (LO g.d.k)) 60 87 [.ptr 1 0,.int .i64 l,.sl 2 0 g.d.k.pn g.d.k.pc] [aG g.d.k,⟨true,⟨143,(0,0)⟩,bZ y⟩,eC g.d.k.pn g.d.k.pf t] [] (kT X):=by
       have:l=1\/l=2\/l=3:=by omega
       rcases this with rfl|rfl|rfl
       ·rw[ahz];exact sj hw hbt hn hle (by decide) hf ⟨rfl,rfl⟩
       ·rw[ahA];exact sj hw hbt hn hle (by decide) hf ⟨rfl,rfl⟩
       ·rw[ahB];exact sj hw hbt hn hle (by decide) hf ⟨rfl,rfl⟩
      have ea:(az ids [.ptr it 0,.int .i64 l,.raw (eb g.d.k)]).toArray=(az [0,ids.getD it 0,bp] [.ptr 1 0,.int .i64 l,.sl 2 0 g.d.k.pn g.d.k.pc]).toArray:=by
       have:eb g.d.k=.slice (some ⟨bp,0,none⟩) g.d.k.pn g.d.k.pc:=by unfold eb;rw[hx]
       rw[this];rfl
      rw[ea];refine(bW (HO g.d.k).T (HO g.d.k).Q 60 (C:=dQ prog gR (LO g.d.k)) hg2 rfl S2 fW).mono ?_;rintro v w' ⟨x,more,bl',ch',rfl,h1,S3,hv,GH⟩;generalize hy':(if l=1 then{y with s0:=K1 y.s0 (dH (l0 y l) y.b l g.d.k.pn g.d.k.pf).2}else if l=2 then{y with sa:=K1 y.sa (dH (l0 y l) y.b l g.d.k.pn g.d.k.pf).2}else{y with sb:=K1 y.sb (dH (l0 y l) y.b l g.d.k.pn g.d.k.pf).2}:TC)=y' at GH;have Va:fR 0 x=true:=by
       rw[hv];exact hX y _ _ rfl
      have gp:bl'=[aG g.d.k,⟨true,⟨143,(0,0)⟩,bZ y'⟩,eC g.d.k.pn g.d.k.pf t]++bl'.drop 3:=by rw[<-GH,List.take_append_drop]
      rw[gp]at S3;have e2:lits ([0,ids.getD it 0,bp]++more) ([0,ids.getD it 0,bp]++more) ([aG g.d.k,⟨true,⟨143,(0,0)⟩,bZ y'⟩,eC g.d.k.pn g.d.k.pf t]++bl'.drop 3)=aW [] 0 (aG g.d.k)::aW [] (ids.getD it 0) ⟨true,⟨143,(0,0)⟩,bZ y'⟩::aW [] bp (eC g.d.k.pn g.d.k.pf t)::lits ([0,ids.getD it 0,bp]++more) more (bl'.drop 3):=by
       simp only[List.cons_append,List.nil_append,lits,er,et,ep]
      rw[e2]at S3;have e3:∀Z,ak ch' Z=Z:=by
       intro Z;cases ch' with
       |nil=>rfl
       |cons c _=>cases c
      rw[e3]at S3;have S4:=S3.sub (bs':=aW [] 0 (aG g.d.k)::aW [] (ids.getD it 0) ⟨true,⟨143,(0,0)⟩,bZ y'⟩::aW [] bp (eC g.d.k.pn g.d.k.pf t)::((r.map λj=>aW ids (ids.getD j 0) (bl.getD j ir))++(XX++ak rest R))) (by
       simp only[List.cons_append];exact List.Sublist.cons_cons _ (List.Sublist.cons_cons _ (List.Sublist.cons_cons _ (List.sublist_append_right _ _))))
      have S5:=S4.perm (pm _ _ _ _ _ _).symm;rw[<-hBB]at S5;have ex:den ([0,ids.getD it 0,bp]++more) x=den [] x:=by have:=bR (ids:=[]) (more:=[0,ids.getD it 0,bp]++more) x Va;simpa using this
      rw[ex];exact done y' x _ Va (by rw[hv]) hy'.symm (back y' w' _ S5)
   ·exact hc.elim
  ·exact hc.elim
 ·exact hc.elim
def K2 (a f:Nat):Value:=.func (.func f) #[.pointer (some ⟨a,0,none⟩)] #[]
def qZ (a:Nat):List (Int×Value):=[(3,K2 a 136),(4,K2 a 137),(5,K2 a 138),(6,K2 a 139),(7,K2 a 140),(8,K2 a 141),(9,K2 a 142),(10,K2 a 143),(11,K2 a 143)]
def ae8:Nat->Prop->Prop->Prop
 |0,_,q=>q
 |n+1,p,q=>p/\ae8 n p q
theorem Vb (a:Nat) (K:VK BC):c_ (YK prog gN []) 60 88 [.raw (.pointer (some ⟨a,0,none⟩))] [] [] K=∀id:Nat,ae8 9 (Value.map (some id)=.map (some id)) (K (.raw (.map (some id))) [] [⟨id,qZ a⟩]):=by kernel_rfl
theorem Vc (a:Nat) {ms:List Nat} {w0 w:World} {B:List aC} (S:St ms w0 B w):au prog 88 #[.pointer (some ⟨a,0,none⟩)] w λv w1=>∃id,v=.map (some id)/\St ms w0 (⟨id,true,nM .i64 (qZ a)⟩::B) w1:=by
 have fW:c_ (YK prog gN []) 60 88 [.raw (.pointer (some ⟨a,0,none⟩))] [] [] (λv bl ch=>∃id,v=.raw (.map (some id))/\bl=[]/\ch=[⟨id,qZ a⟩]):=by
  rw[Vb];exact λid=>⟨rfl,rfl,rfl,rfl,rfl,rfl,rfl,rfl,rfl,id,rfl,rfl,rfl⟩
 refine(bW (G:=BC) (ao.nil (P:=prog) (gl:=gN)).T (ao.nil (P:=prog) (gl:=gN)).Q 60 (C:=YK prog gN []) (ids:=[]) (bl:=[]) (ch:=[]) (R:=B) (args:=[.raw (.pointer (some ⟨a,0,none⟩))]) (λg i h=>by cases h) rfl S fW).mono ?_;rintro v w' ⟨x,more,bl',ch',rfl,DJ,S2,id,rfl,rfl,rfl⟩;have hm:more=[]:=by cases more with
  |nil=>rfl
  |cons=>simp at DJ
 subst hm;exact⟨id,by simp[den],S2⟩
def Pv (a:Nat):Nat->Option Nat:=λg=>match gS g with
 |some i=>some i
 |none=>bif Nat.beq g a then some 2 else none
theorem ae9 {a:Nat} {ids:List Nat} (h:Gl (Pv a) ids):Gl gS ids:=λg i hi=>h g i (by unfold Pv;rw[hi])
theorem XE {a:Nat} {ids:List Nat} (h:Gl (Pv a) ids) (ha:gS a=none):2<ids.length/\ids.getD 2 0=a:=h a 2 (by unfold Pv;rw[ha];simp)
def CV (a:Nat):jq (Sm (Gh fr)):=λargs bl ch K=>match args with
 |[.ptr 2 0]=>gS a=none/\∀id:Nat,K (.raw (.map (some id))) bl (ch++[.m ⟨id,qZ a⟩])
 |_=>False
theorem FL (a:Nat):Sound prog (Pv a) 88 (CV (fr:=fr) a):=by
 intro args ids bl ch R ms w0 w K hg hl S hc;unfold CV at hc;split at hc
 ·obtain⟨ha,hK⟩:=hc;have h2:=(XE hg ha).2;have ea:(az ids [.ptr 2 0]).toArray=#[.pointer (some ⟨a,0,none⟩)]:=by simp only[az,den,h2]
  rw[ea];refine(Vc a S).mono ?_;rintro v w1 ⟨id,rfl,S1⟩;refine⟨_,[],bl,_,?_,by simpa using hl,?_,hK id⟩
  ·simp[den]
  ·rw[List.append_nil,fL,cM _ ch];have e:ak [(.m ⟨id,qZ a⟩:Sm (Gh fr))] R=⟨id,true,nM .i64 (qZ a)⟩::R:=rfl;rw[e];rw[cM R ch]at S1;refine S1.perm ?_;rw[<-List.append_assoc,<-List.append_assoc];exact List.perm_middle.symm
 ·exact hc.elim
theorem FM (a:Nat):fC (CV (fr:=fr) a):=by
 intro args bl ch K h;unfold CV at h⊢;split at h
 ·exact⟨h.1,λid=>⟨h.2 id,[],by simp⟩⟩
 ·exact h.elim
def K3 (f:Nat):V:=.aI [.fn f [.ptr 2 0] [],.bool true]
def HR (a:Nat):(Operand->V)->Op->List VB->List (Sm (Gh fr))->VK (Sm (Gh fr))->Prop:=λe op bl ch K=>match op with
 |.lookup mt m k true=>(match ch,e m,e k with
  |[.g x,.m g],.raw mv,.int .i64 kd=>(match prog.underlying mt with
   |some (.map kt _)=>(match prog.underlying kt with
    |some (.int .i64)=>(mv=.map (some g.id)/\g.tb=qZ a/\gS a=none/\3<=kd/\kd<=11)/\
     cond (kd==3) (K (K3 136) bl ch) (cond (kd==4) (K (K3 137) bl ch) (cond (kd==5) (K (K3 138) bl ch) (cond (kd==6) (K (K3 139) bl ch) (cond (kd==7) (K (K3 140) bl ch) (cond (kd==8) (K (K3 141) bl ch) (cond (kd==9) (K (K3 142) bl ch) (K (K3 143) bl ch)))))))
    |_=>False)
   |_=>False)
  |_,_,_=>False)
 |_=>False
theorem CW (a:Nat):wD prog (Pv a) (HR (fr:=fr) a):=by
 intro e op ids bl ch R ms w0 w K ρ o hg hl S cX ho h;unfold HR at h;split at h
 ·rename_i mt m k;split at h
  ·rename_i x g mv kd hm hk;split at h
   ·rename_i kt et hu;split at h
    ·rename_i hkt;obtain⟨⟨rfl,htb,ha,h3,h11⟩,hK⟩:=h;have h2:=(XE hg ha).2;have e0:ak [(.g x:Sm (Gh fr)),.m g] R=Bl.B x++(⟨g.id,true,nM .i64 g.tb⟩::R):=rfl;have S':=S;rw[e0,htb]at S';have cD:=S'.at' (x:=⟨g.id,true,nM .i64 (qZ a)⟩) (by simp);have run:∀f,(∃j,Instr.findNow (.int .i64) (.int .i64 kd) (((qZ a).zipIdx.map λx=>(⟨.int .i64 x.1.1,x.1.2,x.2⟩:MapEntry)).toArray).toList 0=some (some (j,K2 a f)))->K (K3 f) bl [(.g x:Sm (Gh fr)),.m g]->
      ∃x_1 more bl' ch' w',((execOp ρ o).run prog w=.ok (.value (den (ids++more) x_1)) w'\/((execOp ρ o).run prog w=.ok .skip w'/\x_1=cG))/\(ids++more).length=bl'.length/\St ms w0 (lits (ids++more) (ids++more) bl'++ak ch' R) w'/\K x_1 bl' ch':=by
      intro f hf hkf;refine⟨K3 f,[],bl,_,w,.inl ?_,by simpa using hl,by simpa using S,hkf⟩;have bO:=Eh (P:=prog) hu hkt cD hf;unfold execOp;simp only[ho,cX,hm,hk,den]at bO⊢;have ahG:den ids (K3 f)=.tuple #[K2 a f,.bool true]:=by simp only[K3,den,az,h2,K2]
      rw[List.append_nil,ahG];simp only[Sem.run_bind,bO,Result.andThen_ok,Sem.run_pure]
     have hkd:kd=3\/kd=4\/kd=5\/kd=6\/kd=7\/kd=8\/kd=9\/kd=10\/kd=11:=by omega
     rcases hkd with rfl|rfl|rfl|rfl|rfl|rfl|rfl|rfl|rfl
     ·exact run 136 ⟨0,by kernel_rfl⟩ hK
     ·exact run 137 ⟨1,by kernel_rfl⟩ hK
     ·exact run 138 ⟨2,by kernel_rfl⟩ hK
     ·exact run 139 ⟨3,by kernel_rfl⟩ hK
     ·exact run 140 ⟨4,by kernel_rfl⟩ hK
     ·exact run 141 ⟨5,by kernel_rfl⟩ hK
     ·exact run 142 ⟨6,by kernel_rfl⟩ hK
     ·exact run 143 ⟨7,by kernel_rfl⟩ hK
     ·exact run 143 ⟨8,by kernel_rfl⟩ hK
    ·exact h.elim
   ·exact h.elim
  ·exact h.elim
 ·exact h.elim
def q_:jq (Gh fr):=λargs bl ch K=>match args,ch with
 |[.raw vp,.int .u8 kd],g::rest=>vp=eb g.d.k/\K (.bool (decide (0<g.d.k.pn)&&(g.d.k.pf 0==kd))) bl (g::rest)
 |_,_=>False
theorem Ar:fC (q_ (fr:=fr)):=by
 intro args bl ch K h;unfold q_ at h⊢;split at h
 ·exact⟨h.1,h.2,[],by simp⟩
 ·exact h.elim
def Pw:List (eG Empty):=[]
theorem abk (x:Option Addr) (c:Nat) (kd:Int) (X:V->Prop):c_ (dQ (G:=Empty) prog AU Pw) 40 84 [.raw (.slice x 0 c),.int .u8 kd] [] [] (λv _ _=>X v)=X (.bool false):=by kernel_rfl
theorem abl (n c:Nat) (kd:Int) (f:Nat->Int) (t:List Value) (X:V->Prop):c_ (dQ (G:=Empty) prog AU Pw) 40 84 [.sl 0 0 (n+1) c,.int .u8 kd] [⟨false,⟨5,(0,0)⟩,[.ew .u8 (n+1) f,.rest t]⟩] [] (λv _ _=>X v)=cond (decide (((n+1:Nat):Int)>0)) (X (.bool (f 0==kd))) (X (.bool false)):=by kernel_rfl
theorem As:ao (G:=Empty) prog AU Pw:=ao.nil
theorem At:Sound prog gS 84 (q_ (fr:=fr)):=by
 intro args ids bl ch R ms w0 w K hg hl S hc;unfold q_ at hc;split at hc
 ·rename_i vp kd g rest;obtain⟨rfl,hK⟩:=hc;have e0:ak (g::rest) R=g.F.B++ak rest R:=rfl;have S':=S;rw[e0]at S';have main:au prog 84 #[eb g.d.k,.int .u8 kd] w λv w1=>v=.bool (decide (0<g.d.k.pn)&&(g.d.k.pf 0==kd))/\Ch [] w w1:=by
   rcases Nat.eq_zero_or_pos g.d.k.pn with hz|Pt
   ·have ep:eb g.d.k=.slice g.d.k.px 0 g.d.k.pc:=by unfold eb;rw[hz]
    rw[ep];refine(bW (G:=Empty) As.T As.Q 40 (C:=dQ prog AU Pw) (ids:=[]) (bl:=[]) (ch:=[]) (R:=[]) (ms:=[]) (w0:=w) (args:=[.raw (.slice g.d.k.px 0 g.d.k.pc),.int .u8 kd]) (λg i h=>by cases h) rfl (St.nil [] w) (K:=λv _ _=>v=.bool false) (f:=84) (by rw[abk])).mono ?_;rintro v w' ⟨x,more,bl',ch',rfl,DJ,S2,rfl⟩;exact⟨by simp[den,hz],S2.ch⟩
   ·obtain⟨bp,t,X,hx,hle,hB⟩:=HP g.F Pt;rw[hB]at S';have cD:=S'.at' (x:=⟨bp,true,.cells (ai [] (eC g.d.k.pn g.d.k.pf t).c).toArray 5 (0,0)⟩) (by simp);obtain⟨n,hn⟩:∃n,g.d.k.pn=n+1:=⟨g.d.k.pn-1,by omega⟩;have ep:eb g.d.k=.slice (some ⟨bp,0,none⟩) (n+1) g.d.k.pc:=by unfold eb;rw[hx,hn]
    rw[ep];rw[hn]at cD;have S0:=St.given (w:=w) [(bp,.cells (ai [] (eC (n+1) g.d.k.pf t).c).toArray 5 (0,0))] (all_cons cD all_nil);have S1:St [] w (lits [bp] [bp] [⟨false,⟨5,(0,0)⟩,[.ew .u8 (n+1) g.d.k.pf,.rest t]⟩]++ak ([]:List Empty) []) w:=by
     simpa[lits,aW,ai,cl,ak,eC]using S0
    refine(bW (G:=Empty) As.T As.Q 40 (C:=dQ prog AU Pw) (args:=[.sl 0 0 (n+1) g.d.k.pc,.int .u8 kd]) (λg i h=>by cases h) rfl S1 (K:=λv _ _=>v=.bool (g.d.k.pf 0==kd)) (f:=84) (by rw[abl];exact aS (λ_=>rfl) (λe=>by have:=of_decide_eq_false e;omega))).mono ?_;rintro v w' ⟨x,more,bl',ch',rfl,DJ,S2,rfl⟩;refine⟨?_,S2.ch⟩;have:decide (0<g.d.k.pn)=true:=by simp[Pt]
    simp[den,this]
  have ea:(az ids [.raw (eb g.d.k),.int .u8 kd]).toArray=#[eb g.d.k,.int .u8 kd]:=rfl;rw[ea];refine main.mono ?_;rintro v w1 ⟨rfl,kq⟩;exact⟨_,[],bl,g::rest,by simp only[den],by simpa using hl,by simpa using S.quiet kq,hK⟩
 ·exact hc.elim
def FN (C:Sd.Crypt):jq (Gh fr):=λargs bl ch K=>match args,ch with
 |[.ptr it 0,.int .i64 l,.raw vp],g::rest=>(match bl[it]?with
  |some ⟨true,⟨143,(0,0)⟩,tc⟩=>(match vj tc with
   |some y=>cond (!(Nat.beq it 0)) ((vp=eb g.d.k/\bl[0]?=some (aG g.d.k)/\g.d.k.pn<=58/\By g.d.k.pf/\(1<=l/\l<=3)/\(0<=y.b/\y.b<=1000)/\(∀i,i<3->((aM y).aE i).on=true->0<=((aM y).aE i).seen.high/\((aM y).aE i).seen.high<=4294967295))/\
    (Sd.Tab.take C (pY y.b y.m) (aM y) l g.d.k.pn g.d.k.pf=(aM y,.error 16)->K (gr 16) bl ch)/\
    (Sd.Tab.take C (pY y.b y.m) (aM y) l g.d.k.pn g.d.k.pf=(aM y,.error 14)->K (gr 14) bl ch)/\
    (Sd.Tab.take C (pY y.b y.m) (aM y) l g.d.k.pn g.d.k.pf=(aM y,.error 13)->K (gr 13) bl ch)/\
    (Sd.Tab.take C (pY y.b y.m) (aM y) l g.d.k.pn g.d.k.pf=(aM y,.error 15)->K (gr 15) bl ch)/\
    (∀t' m,Sd.Tab.take C (pY y.b y.m) (aM y) l g.d.k.pn g.d.k.pf=(t',.ok m)->K (.aI [.agg (cC m),.int .i64 0]) (bl.set it ⟨true,⟨143,(0,0)⟩,bZ (DK t' y.b y.m)⟩) ch)) False
   |none=>False)
  |_=>False)
 |_,_=>False
theorem qz {C:Sd.Crypt} {p:Sd.Pol} {t t':Sd.Tab} {l:Int} {n:Nat} {f:Nat->Int} {e:Int} (h:Sd.Tab.take C p t l n f=(t',.error e)):e=16\/e=14\/e=13\/e=15:=by
 unfold Sd.Tab.take at h
 repeat' split at h
 all_goals first|(cases h;done)|(obtain⟨_,h2⟩:=Prod.mk.inj h;cases h2;simp)
theorem Au:Sound prog gS 87 (FN (fr:=fr) (aq cu)):=by
 intro args ids bl ch R ms w0 w K hg hl S hc;refine CU args ids bl ch R ms w0 w K hg hl S ?_;unfold FN at hc;unfold FK;split at hc
 ·rename_i it l vp g rest;split at hc
  ·rename_i tc hb;try simp only[hb]
   split at hc
   ·rename_i y hy;try simp only[hy]
    cases hq:!(Nat.beq it 0)with
    |false=>rw[hq]at hc;exact hc.elim
    |true=>
     rw[hq]at hc;obtain⟨hp,h16,h14,h13,h15,yq⟩:=hc;refine⟨hp,λe he=>?_,yq⟩;rcases qz he with rfl|rfl|rfl|rfl
     ·exact h16 he
     ·exact h14 he
     ·exact h13 he
     ·exact h15 he
   ·exact hc.elim
  ·exact hc.elim
 ·exact hc.elim
def LIg (fr:Sd.Reply->Nat×Sd.Byt) (C:Sd.Crypt):List (eG (Gh fr)):=⟨85,false,pk (si C)⟩::⟨86,false,pk (vO C)⟩::⟨87,false,FN C⟩::⟨84,true,q_⟩::⟨136,false,pk (iY λs l m=>s.done l m.seq)⟩::⟨137,false,pk (iY λs l m=>s.WJ C l m)⟩::⟨138,false,pk (iY λs l m=>s.ask C l m)⟩::
 ⟨139,false,pk (iY λs l m=>s.offer C l m)⟩::⟨140,false,pk (iY λs l m=>s.accept C l m)⟩::⟨141,false,pk (iY λs l m=>s.ft C l m)⟩::⟨142,false,pk (iY λs l m=>s.release C l m)⟩::⟨143,false,pk (O0 C)⟩::L8 fr C
theorem abm (ht:Body (fr:=fr) 130 bN):ao prog gS (LIg fr (aq cu)):=
 ao.cons (dh (Kc ht)) (ao.cons (dh (FI ht)) (ao.cons ⟨Au,λe=>by cases e⟩ (ao.cons ⟨At,λ_=>Ar⟩ (ao.cons (dh (J1 cu ht)) (ao.cons (dh (O1 cu ht)) (ao.cons (dh (OT cu ht)) (ao.cons (dh (Fm cu ht)) (ao.cons (dh (Cy cu ht)) (ao.cons (dh (J2 cu ht)) (ao.cons (dh (Af cu ht)) (ao.cons (dh (Ak cu ht)) (vD cu ht))))))))))))
def LI (fr:Sd.Reply->Nat×Sd.Byt) (a:Nat) (C:Sd.Crypt):List (eG (Sm (Gh fr))):=⟨88,true,CV a⟩::Mz (LIg fr C)
theorem ae_ (a:Nat) (ht:Body (fr:=fr) 130 bN):ao prog (Pv a) (LI fr a (aq cu)):=ao.cons ⟨FL a,λ_=>FM a⟩ (BE (λids h=>ae9 h) (abm ht))
def Px (k:LK) (s:Sd.Scene) (Kb:SK fr k):V->List VB->List (Sm (Gh fr))->Prop:=λv bl ch=>∃s' F' r,fR 0 v=true/\s'.c.p=s.c.p/\Kb v s' F'/\bl.take 5=cT k s' F'/\ch=.g (cB k s' F')::r
section
variable(a:Nat) (C:Sd.Crypt) (k:LK) (s:Sd.Scene) (F:cz fr (b9 k s)) (Kb:SK fr k) (l code:Int)
def XF (r:List (Sm (Gh fr))) (s':Sd.Scene) (F':cz fr (b9 k s')):Prop:=Px k s Kb (.aI []) (cT k s' F') (.g (cB k s' F')::r)
def itE (e:Int):Prop:=Sd.Tab.take C (pY s.c.p.bU s.c.p.bx) (cj s.c.tab) l k.pn k.pf=(cj s.c.tab,.error e)->eu k s F/\sd C [.int .i64 l,.int .i64 e] k (du s) F λv s' F'=>XF k s Kb [] s' F'
def Vd (M:SM fr) (t':Sd.Tab) (m:Sd.dw) (id:Nat):Prop:=eu k s F/\M [.int .i64 l,.agg (cC m)] k (qP s t') F λv s' F'=>XF k s Kb [.m ⟨id,qZ a⟩] s' F'
def itO (t':Sd.Tab) (m:Sd.dw):Prop:=gS a=none/\∀id:Nat,(Value.map (some id)=.map (some id)/\qZ a=qZ a/\gS a=none/\3<=m.kind/\m.kind<=11)/\
 cond (m.kind==3) (Vd a k s F Kb l (iY λs l m=>s.done l m.seq) t' m id) (cond (m.kind==4) (Vd a k s F Kb l (iY λs l m=>s.WJ C l m) t' m id) (cond (m.kind==5) (Vd a k s F Kb l (iY λs l m=>s.ask C l m) t' m id) (cond (m.kind==6) (Vd a k s F Kb l (iY λs l m=>s.offer C l m) t' m id)
 (cond (m.kind==7) (Vd a k s F Kb l (iY λs l m=>s.accept C l m) t' m id) (cond (m.kind==8) (Vd a k s F Kb l (iY λs l m=>s.ft C l m) t' m id) (cond (m.kind==9) (Vd a k s F Kb l (iY λs l m=>s.release C l m) t' m id) (Vd a k s F Kb l (O0 C) t' m id)))))))
def Py:Prop:=
 cond (code !=0) (eu k s F/\sd C [.int .i64 l,.int .i64 code] k (du s) F λv s' F'=>XF k s Kb [] s' F')
 (eb k=eb k/\cond (decide (0<k.pn)&&(k.pf 0==1)) (eu k s F/\si C [.int .i64 l,.raw (eb k)] k (du s) F λv s' F'=>XF k s Kb [] s' F')
 (eb k=eb k/\cond (decide (0<k.pn)&&(k.pf 0==2)) (eu k s F/\vO C [.int .i64 l,.raw (eb k)] k (du s) F λv s' F'=>XF k s Kb [] s' F')
 ((eb k=eb k/\some (aG k)=some (aG k)/\k.pn<=58/\By k.pf/\(1<=l/\l<=3)/\(0<=s.c.p.bU/\s.c.p.bU<=1000)/\(∀i,i<3->((aM (Uj s)).aE i).on=true->0<=((aM (Uj s)).aE i).seen.high/\((aM (Uj s)).aE i).seen.high<=4294967295))/\
   itE C k s F Kb l 16/\itE C k s F Kb l 14/\itE C k s F Kb l 13/\itE C k s F Kb l 15/\∀t' m,Sd.Tab.take C (pY s.c.p.bU s.c.p.bx) (cj s.c.tab) l k.pn k.pf=(t',.ok m)->itO a C k s F Kb l t' m)))
theorem Ve:c_ (wU prog (Pv a) (LI fr a C) (HR a) (CW a)) 90 49 [.ptr 2 0,.int .i64 l,.agg [.int .i64 code,.raw (eb k)]] (cT k s F) [.g (cB k s F)] (Px k s Kb)=Py a C k s F Kb l code:=by kernel_rfl
end
theorem Vf {w:Sd.de} {n:Int} (h:0<=w.high/\w.high<=4294967295) (hn:0<=n/\n<=4294967295):0<=(dR w n).high/\(dR w n).high<=4294967295:=by
 unfold dR
 repeat' split
 all_goals first|exact hn|exact h
theorem Pz (H:Nat->Int):By (BJ H):=by
 intro j;have hw:∀n:Int,0<=u8.wrap n/\u8.wrap n<=255:=by intro n;simp[IntKind.wrap,IntKind.bits,IntKind.signed];omega
 unfold BJ;split<;>exact hw _
theorem abn (n:Nat) (f:Nat->Int):By (jU n f):=by
 unfold jU;cases Nat.ble n 55
 ·exact Pz _
 ·exact Pz _
theorem jN:Sd.nE (aq cu):=⟨λk s n j=>by
 show 0<=aV k.1 k.2 s n j/\aV k.1 k.2 s n j<=255;unfold aV gB;exact abn _ _ j,λn f m h=>FH h,λw n h1 h2=>Vf h1 h2⟩
structure ItP (k:LK) (s:Sd.Scene) (l:Int):Prop where
 r:Rm s 8
 i:Sd.Inv s.c
 lo:1<=l/\l<=3
 d:∀i,i<3->(s.c.doors i).many<=9223372036854775807
 key:∀i,i<4->1<=k.kn i/\k.kn i<=64
 ke:∀i,i<4->s.c.p.k i=(k.kn i,k.kf i)
 Fw:k.pn<=58/\By k.pf
def CX (C:Sd.Crypt):SM fr:=λar k s F K=>match ar with
 |[.int .i64 l,.agg [.int .i64 code,.raw vp]]=>(vp=eb k/\ItP k s l)/\∀F',K (.aI []) (s.item C l code k.pn k.pf) F'
 |_=>False
theorem ItP.GW {k:LK} {s:Sd.Scene} {l:Int} (h:ItP k s l):aa4 k s l:=⟨h.r,λi hi=>⟨h.i.doors i hi,h.d i hi⟩,h.key 3 (by decide),h.ke 3 (by decide),⟨by have:=h.Fw.1;omega,h.Fw.2⟩,h.lo⟩
theorem ItP.prv {k:LK} {s:Sd.Scene} {l:Int} (h:ItP k s l):U3 k s l:=⟨h.r,h.lo,h.key _ (by have:=h.lo;omega),h.ke _ (by have:=h.lo;omega),by have:=h.i.p.bU;omega,h.i.tok.holder,h.i.eH⟩
theorem PA (C:Sd.Crypt) (s:Sd.Scene) (l:Int) (n:Nat) (f:Nat->Int) (hl:1<=l/\l<=3):
 (∃e,Sd.Tab.take C (pY s.c.p.bU s.c.p.bx) (cj s.c.tab) l n f=(cj s.c.tab,.error e)/\Sd.Tab.take C s.c.p s.c.tab l n f=(s.c.tab,.error e))\/
 (∃m E t,Sd.Tab.take C (pY s.c.p.bU s.c.p.bx) (cj s.c.tab) l n f=(E,.ok m)/\Sd.Tab.take C s.c.p s.c.tab l n f=(t,.ok m)/\qP s E=dT s t):=by
 have U_:(cj s.c.tab).aE (l.toNat-1)=s.c.tab.aE (l.toNat-1):=by
  have:l=1\/l=2\/l=3:=by omega
  rcases this with rfl|rfl|rfl<;>rfl
 have hb:(pY s.c.p.bU s.c.p.bx).bU=s.c.p.bU:=rfl;unfold Sd.Tab.take;rw[vo,U_,hb];by_cases h1:s.c.tab.fw l=false
 ·rw[if_pos h1,if_pos h1];exact .inl ⟨16,rfl,rfl⟩
 rw[if_neg h1,if_neg h1];by_cases h2:n<8\/C.opens (s.c.tab.aE (l.toNat-1)).key l n f=false
 ·rw[if_pos h2,if_pos h2];exact .inl ⟨14,rfl,rfl⟩
 rw[if_neg h2,if_neg h2];cases C.take (n-8) f with
 |none=>exact .inl ⟨13,rfl,rfl⟩
 |some m=>
  simp only;by_cases h3:m.kind=1\/m.kind=2
  ·rw[if_pos h3,if_pos h3];exact .inl ⟨13,rfl,rfl⟩
  rw[if_neg h3,if_neg h3];by_cases h4:C.n9 (s.c.tab.aE (l.toNat-1)).seen m.seq=(s.c.tab.aE (l.toNat-1)).seen
  ·rw[if_pos h4,if_pos h4];exact .inl ⟨15,rfl,rfl⟩
  rw[if_neg h4,if_neg h4];refine .inr ⟨m,_,_,rfl,rfl,qQ rfl (λj hj=>?_) (λj=>?_)⟩
  ·simp only[Sd.Tab.fe];split
   ·rfl
   ·have:j=0\/j=1\/j=2:=by omega
    rcases this with rfl|rfl|rfl<;>rfl
  ·simp only[Sd.Tab.fe];rw[if_neg (by omega)]
theorem PB {C:Sd.Crypt} {b:Prop} {s s':Sd.Scene} {kd l:Int} (h:Sd.nV C b s s' kd l):s'.c.p=s.c.p:=by
 rcases h.NK with q|⟨how,g,_⟩
 ·exact q.p
 ·exact g.p
theorem PC {a:Nat} {k:LK} {s:Sd.Scene} {F:cz fr (b9 k s)} {Kb:SK fr k} {l code:Int} (ha:gS a=none) (hq:s.c.p.queue=k.most) (hP:ItP k s l) (hK:∀F',Kb (.aI []) (s.item (aq cu) l code k.pn k.pf) F'):Py a (aq cu) k s F Kb l code:=by
 have leaf:∀(r:List (Sm (Gh fr))) (s':Sd.Scene) (F':cz fr (b9 k s')),s'=s.item (aq cu) l code k.pn k.pf->s'.c.p=s.c.p->XF k s Kb r s' F':=by
  intro r s' F' e hp;subst e;exact⟨_,F',r,rfl,hp,hK F',rfl,rfl⟩
 have Av:∀e,code=0->¬(0<k.pn/\k.pf 0=1)->¬(0<k.pn/\k.pf 0=2)->itE (aq cu) k s F Kb l e:=by
  intro e hc h1 h2 he;refine⟨eZ hq,vt (hP.r.r1) λF1=>leaf _ _ F1 ?_ rfl⟩;unfold Sd.Scene.item;rw[if_neg (by simp[hc]),if_neg h1,if_neg h2];rcases PA (aq cu) s l k.pn k.pf hP.lo with⟨e',h3,h4⟩|⟨m,E,t,h3,_,_⟩
  ·rw[h4];rw[h3]at he;have:=(Prod.mk.inj he).2;cases this;rfl
  ·rw[h3]at he;have:=(Prod.mk.inj he).2;cases this
 unfold Py;refine aS (λe=>⟨eZ hq,vt hP.r.r1 λF1=>leaf _ _ F1 ?_ rfl⟩) (λe=>⟨rfl,aS (λe1=>⟨eZ hq,fj (M:=si (aq cu)) ⟨⟨rfl,hP.GW⟩,λF1=>leaf _ _ F1 ?_ ?_⟩⟩) (λe1=>⟨rfl,aS (λe2=>⟨eZ hq,fj (M:=vO (aq cu)) ⟨⟨rfl,hP.prv,hP.Fw.2⟩,λF1=>leaf _ _ F1 ?_ ?_⟩⟩) (λe2=>?_)⟩)⟩)
 ·unfold Sd.Scene.item;rw[if_pos (by simpa using e)]
 ·unfold Sd.Scene.item;rw[if_neg (by simpa using e),if_pos (by simpa using e1)]
 ·exact PB (b:=False) (Sd.xG jN hP.i hP.lo)
 ·unfold Sd.Scene.item;rw[if_neg (by simpa using e),if_neg (by simpa using e1),if_pos (by simpa using e2)]
 ·exact PB (b:=False) (Sd.xH jN hP.i hP.lo)
 ·have hc:code=0:=by simpa using e
  have n1:¬(0<k.pn/\k.pf 0=1):=by simpa using e1
  have n2:¬(0<k.pn/\k.pf 0=2):=by simpa using e2
  refine⟨⟨rfl,rfl,hP.Fw.1,hP.Fw.2,hP.lo,by have:=hP.i.p.bU;omega,λi hi tp=>?_⟩,Av 16 hc n1 n2,Av 14 hc n1 n2,Av 13 hc n1 n2,Av 15 hc n1 n2,λt' m ht=>⟨ha,λid=>?_⟩⟩
  ·have hs:(aM (Uj s)).aE i=s.c.tab.aE i:=by
    have:i=0\/i=1\/i=2:=by omega
    rcases this with rfl|rfl|rfl<;>rfl
   rw[hs]at tp⊢;have:=hP.i.tab.aE i hi tp;exact⟨this.2.2.2.2.2.1,this.2.2.2.2.2.2⟩
  ·rcases PA (aq cu) s l k.pn k.pf hP.lo with⟨e',h3,h4⟩|⟨m',E,t,h3,h4,h5⟩
   ·rw[h3]at ht;have:=(Prod.mk.inj ht).2;cases this
   ·rw[h3]at ht;obtain⟨rfl,hm⟩:=Prod.mk.inj ht;cases hm;obtain⟨g1,g2,g3,g4,g5⟩:=Sd.zE jN h4;have hkd:=g2.kind;have XD:=hP.i.p.bU;have g1':s.c.tab.on l=true:=by rw[Sd.zF hP.lo];exact g1
    have tp:(s.c.tab.aE (l.toNat-1)).on=true:=by unfold Sd.Tab.fw at g1;simp at g1;exact g1.2
    have i1:Sd.Inv (dT s t).c:=by
     have:=hP.i.fe (i:=l.toNat-1) (x:={(s.c.tab.aE (l.toNat-1))with seen:=(aq cu).n9 (s.c.tab.aE (l.toNat-1)).seen m.seq,on:=true,aP:=.start s.c.p.bU}) rfl
      (by
       have:=hP.i.tab.aE (l.toNat-1) (by have:=hP.lo;omega) tp;have h9:=jN.n9 (s.c.tab.aE (l.toNat-1)).seen m.seq ⟨by omega,by omega⟩ g2.seq;simp[Sd.Timer.start];omega)
     rw[<-g5]at this;exact this
    have hS:Sy (dT s t) l m:=⟨hP.r,i1,g2.seq,hP.lo.1,hP.lo.2⟩;have ahH:(dT s t).c.tab.on l=true:=by
     show t.on l=true;rw[g5];exact Sd.lW g1' rfl
    have Oe:s.item (aq cu) l code k.pn k.pf=(dT s t).wO (aq cu) l m:=by
     unfold Sd.Scene.item;rw[if_neg (by simp[hc]),if_neg n1,if_neg n2,h4];rfl
    have afa:((dT s t).wO (aq cu) l m).c.p=s.c.p:=(PB (C:=aq cu) (b:=False) (Sd.Hl i1 hP.lo g2 ahH g3 g4)).trans rfl;have go:∀(act:Sd.Scene->Int->Sd.dw->Sd.Scene),act (dT s t) l m=(dT s t).wO (aq cu) l m->Vd a k s F Kb l (iY act) E m id:=by
     intro act PD;refine⟨eZ hq,qJ (M:=λs' F'=>iY act [.int .i64 l,.agg (cC m)] k s' F' λv s' F'=>XF k s Kb [.m ⟨id,qZ a⟩] s' F') h5 F ?_⟩;exact⟨hS,λF1=>leaf _ _ F1 (by rw[Oe,PD]) (by rw[PD];exact afa)⟩
    refine⟨⟨rfl,rfl,ha,by omega,by omega⟩,?_⟩;have sy:∀j:Int,m.kind=j->(dT s t).wO (aq cu) l m=(dT s t).wO (aq cu) l m:=λ_ _=>rfl;refine aS (λe=>go _ ?_) (λx3=>aS (λe=>go _ ?_) (λx4=>aS (λe=>go _ ?_) (λx5=>aS (λe=>go _ ?_) (λx6=>aS (λe=>go _ ?_) (λx7=>aS (λe=>go _ ?_) (λx8=>aS (λe=>go _ ?_) (λx9=>?_)))))))
    ·unfold Sd.Scene.wO;rw[if_pos (by simpa using e)]
    ·unfold Sd.Scene.wO;rw[if_neg (by simpa using x3),if_pos (by simpa using e)]
    ·unfold Sd.Scene.wO;rw[if_neg (by simpa using x3),if_neg (by simpa using x4),if_pos (by simpa using e)]
    ·unfold Sd.Scene.wO;rw[if_neg (by simpa using x3),if_neg (by simpa using x4),if_neg (by simpa using x5),if_pos (by simpa using e)]
    ·unfold Sd.Scene.wO;rw[if_neg (by simpa using x3),if_neg (by simpa using x4),if_neg (by simpa using x5),if_neg (by simpa using x6),if_pos (by simpa using e)]
    ·unfold Sd.Scene.wO;rw[if_neg (by simpa using x3),if_neg (by simpa using x4),if_neg (by simpa using x5),if_neg (by simpa using x6),if_neg (by simpa using x7),if_pos (by simpa using e)]
    ·unfold Sd.Scene.wO;rw[if_neg (by simpa using x3),if_neg (by simpa using x4),if_neg (by simpa using x5),if_neg (by simpa using x6),if_neg (by simpa using x7),if_neg (by simpa using x8),if_pos (by simpa using e)]
    ·have h10:m.kind=10\/m.kind=11:=by simp at x3 x4 x5 x6 x7 x8 x9;omega
     have PD:(dT s t).command (aq cu) l m=(dT s t).wO (aq cu) l m:=by
      unfold Sd.Scene.wO;rw[if_neg (by simpa using x3),if_neg (by simpa using x4),if_neg (by simpa using x5),if_neg (by simpa using x6),if_neg (by simpa using x7),if_neg (by simpa using x8),if_neg (by simpa using x9),if_pos h10]
     refine⟨eZ hq,qJ (M:=λs' F'=>O0 (aq cu) [.int .i64 l,.agg (cC m)] k s' F' λv s' F'=>XF k s Kb [.m ⟨id,qZ a⟩] s' F') h5 F ?_⟩;exact⟨⟨hS,h10⟩,λF1=>leaf _ _ F1 (by rw[Oe,PD]) (by rw[PD];exact afa)⟩
theorem Kg (ht:Body (fr:=fr) 130 bN):Body (fr:=fr) 49 (CX (aq cu)):=by
 intro ar k s F Kb a b c R ms w0 w h0 hq hM S;unfold CX at hM;split at hM
 ·rename_i l code vp;obtain⟨⟨rfl,hP⟩,hK⟩:=hM;have ahI:cW a b c=[0,2,a,b,c]:=rfl;have ha:gS a=none:=by
   have h1:(lits (cW a b c) (cW a b c) (cT k s F)++(F.B++R))[0]?=some (aW (cW a b c) 0 (aG k)):=rfl;have h2:(lits (cW a b c) (cW a b c) (cT k s F)++(F.B++R))[1]?=some (aW (cW a b c) 2 (iI k)):=rfl;have h3:(lits (cW a b c) (cW a b c) (cT k s F)++(F.B++R))[2]?=some (aW (cW a b c) a (vl 3 F)):=rfl;have n0:a≠0:=S.apart 2 0 _ _ h3 h1 (by decide) rfl;have n2:a≠2:=S.apart 2 1 _ _ h3 h2 (by decide) rfl;unfold gS;split
   ·exact absurd rfl n0
   ·exact absurd rfl n2
   ·rfl
  have hg:Gl (Pv a) (cW a b c):=by
   intro g i iK;unfold Pv at iK;split at iK
   ·rename_i j hj;obtain rfl:=Option.some.inj iK;have:=ae5 a b c [] g j hj;simpa using this
   ·cases hb:Nat.beq g a with
    |false=>rw[hb]at iK;cases iK
    |true=>
     rw[hb]at iK;obtain rfl:=Option.some.inj iK;obtain rfl:=Nat.eq_of_beq_eq_true hb;exact⟨by simp[ahI],rfl⟩
  have S1:St ms w0 (lits (cW a b c) (cW a b c) (cT k s F)++ak [(.g (cB k s F):Sm (Gh fr))] R) w:=S;have hL:=ae_ (fr:=fr) a ht;refine(bW (G:=Sm (Gh fr)) hL.T hL.Q 90 (C:=wU prog (Pv a) (LI fr a (aq cu)) (HR a) (CW a)) (f:=49) (args:=[.ptr 2 0,.int .i64 l,.agg [.int .i64 code,.raw (eb k)]]) (K:=Px k s Kb) hg rfl S1 (by
   rw[Ve];exact PC ha hq hP hK)).mono ?_
  rintro v w' ⟨x,more,bl',ch',rfl,h1,S',s',F',r,hv,hp,hK',hb,rfl⟩;have ev:den (cW a b c++more) x=den [] x:=by have:=bR (ids:=[]) (more:=cW a b c++more) x hv;simpa using this
  refine⟨x,s',F',ev,hv,hp,hK',?_⟩;have gp:bl'=cT k s' F'++bl'.drop 5:=by rw[<-hb,List.take_append_drop]
  rw[gp]at S';have e2:lits (cW a b c++more) (cW a b c++more) (cT k s' F'++bl'.drop 5)=lits (cW a b c) (cW a b c) (cT k s' F')++lits (cW a b c++more) more (bl'.drop 5):=by
   rw[aY _ _ _ _ rfl,a_ (ids:=cW a b c) (more:=more) (cW a b c) (cT k s' F') rfl]
  rw[e2]at S';have e3:ak (.g (cB k s' F')::r:List (Sm (Gh fr))) R=F'.B++ak r R:=rfl;rw[e3,cM R r]at S';refine S'.sub ?_;rw[List.append_assoc];refine List.Sublist.append_left ?_ _;refine List.Sublist.trans ?_ (List.sublist_append_right _ _);exact List.Sublist.append_left (List.sublist_append_right _ _) _
 ·exact hM.elim
end Go.Proofs.YtlkpikfddnjilaaGreatDoor
namespace Go.Proofs.YtlkpikfddnjilaaGreatDoor
open Go Go.RowKit Go.BigFrame Sx Vx
theorem Vg (fr:Sd.Reply->Nat×Sd.Byt) (C:Sd.Crypt):fG fr C [false,false,false,false]:=λk s F Kb=>by kernel_rfl
theorem Vh (fr:Sd.Reply->Nat×Sd.Byt) (C:Sd.Crypt):fG fr C [false,false,false,true]:=λk s F Kb=>by kernel_rfl
theorem Vi (fr:Sd.Reply->Nat×Sd.Byt) (C:Sd.Crypt):fG fr C [false,false,true,false]:=λk s F Kb=>by kernel_rfl
theorem Vj (fr:Sd.Reply->Nat×Sd.Byt) (C:Sd.Crypt):fG fr C [false,false,true,true]:=λk s F Kb=>by kernel_rfl
theorem Vk (fr:Sd.Reply->Nat×Sd.Byt) (C:Sd.Crypt):fG fr C [false,true,false,false]:=λk s F Kb=>by kernel_rfl
theorem Vl (fr:Sd.Reply->Nat×Sd.Byt) (C:Sd.Crypt):fG fr C [false,true,false,true]:=λk s F Kb=>by kernel_rfl
theorem Vm (fr:Sd.Reply->Nat×Sd.Byt) (C:Sd.Crypt):fG fr C [false,true,true,false]:=λk s F Kb=>by kernel_rfl
theorem Vn (fr:Sd.Reply->Nat×Sd.Byt) (C:Sd.Crypt):fG fr C [false,true,true,true]:=λk s F Kb=>by kernel_rfl
theorem Vo (fr:Sd.Reply->Nat×Sd.Byt) (C:Sd.Crypt):fG fr C [true,false,false,false]:=λk s F Kb=>by kernel_rfl
theorem Vp (fr:Sd.Reply->Nat×Sd.Byt) (C:Sd.Crypt):fG fr C [true,false,false,true]:=λk s F Kb=>by kernel_rfl
theorem Vq (fr:Sd.Reply->Nat×Sd.Byt) (C:Sd.Crypt):fG fr C [true,false,true,false]:=λk s F Kb=>by kernel_rfl
theorem Vr (fr:Sd.Reply->Nat×Sd.Byt) (C:Sd.Crypt):fG fr C [true,false,true,true]:=λk s F Kb=>by kernel_rfl
theorem Vs (fr:Sd.Reply->Nat×Sd.Byt) (C:Sd.Crypt):fG fr C [true,true,false,false]:=λk s F Kb=>by kernel_rfl
theorem Vt (fr:Sd.Reply->Nat×Sd.Byt) (C:Sd.Crypt):fG fr C [true,true,false,true]:=λk s F Kb=>by kernel_rfl
theorem Vu (fr:Sd.Reply->Nat×Sd.Byt) (C:Sd.Crypt):fG fr C [true,true,true,false]:=λk s F Kb=>by kernel_rfl
theorem Vv (fr:Sd.Reply->Nat×Sd.Byt) (C:Sd.Crypt):fG fr C [true,true,true,true]:=λk s F Kb=>by kernel_rfl
end Go.Proofs.YtlkpikfddnjilaaGreatDoor
