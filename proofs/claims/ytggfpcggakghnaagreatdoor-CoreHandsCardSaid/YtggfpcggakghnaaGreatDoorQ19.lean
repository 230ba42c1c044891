/- Part 19 of the proof. -/
import Derived.Test.YtggfpcggakghnaaGreatDoorQ18
set_option linter.all false
set_option maxRecDepth 100000
set_option maxHeartbeats 4000000
open Go.Proofs.Tryz
namespace Go.Proofs.YtggfpcggakghnaaGreatDoor
open Go Go.RowKit Go.BigFrame Sx Vx
variable{fr:Sd.Reply->Nat×Sd.Byt}
def pY (b m:Int):Sd.Pol:=⟨λi=>if i=42 then b else if i=49 then m else 0,λ_=>(0,λ_=>0)⟩
def SX:QT:=⟨149,λar y=>match ar with
 |[.int .i64 s,.int .i64 r,.agg [.dC .u8 32 key]]=>some ((0<=y.b/\y.b<=1000)/\1<=s/\s<=3,.int .i64 (Sd.Tab.br (pY y.b y.m) (aN y) s r key).2,(Sd.Tab.br (pY y.b y.m) (aN y) s r key).1)
 |_=>none⟩
theorem NI:SX.Ok:=by
 intro ar y p v t hm hp bt bs ms w0 w S;replace hm:(match(generalizing:=false) ar with
  |[.int .i64 s,.int .i64 r,.agg [.dC .u8 32 key]]=>some ((0<=y.b/\y.b<=1000)/\1<=s/\s<=3,V.int .i64 (Sd.Tab.br (pY y.b y.m) (aN y) s r key).2,(Sd.Tab.br (pY y.b y.m) (aN y) s r key).1)
  |_=>none)=some (p,v,t):=hm
 split at hm
 ·rename_i s r key;simp only[Option.some.injEq,Prod.mk.injEq]at hm;obtain⟨rfl,rfl,rfl⟩:=hm;obtain⟨hb,h1,h3⟩:=hp;rcases(by omega:s=1\/s=2\/s=3)with rfl|rfl|rfl
  ·exact Bw y 0 (by omega) r key (pY y.b y.m) rfl rfl S
  ·exact Bw y 1 (by omega) r key (pY y.b y.m) rfl rfl S
  ·exact Bw y 2 (by omega) r key (pY y.b y.m) rfl rfl S
 ·cases hm
def xC:gm (Gh fr):=λargs bl ch K=>match args,ch with
 |[.agg [.int .i64 m,.bool o,.dC .u8 8 nc],.raw vk,.int .i64 s,.int .i64 r,.agg [.dC .u8 8 pf]],g::rest=>
  (vk=.slice (g.d.k.ka (s.toNat-1)) (g.d.k.kn (s.toNat-1)) (g.d.k.kc (s.toNat-1))/\bl[0]?=some (aG g.d.k)/\(1<=s/\s<=3)/\(0<=r/\r<4294967296)/\(1<=g.d.k.kn (s.toNat-1)/\g.d.k.kn (s.toNat-1)<=64))/\
  cond (!o) (K (.az [.agg [.int .i64 m,.bool o,.dC .u8 8 nc],.agg [.dC .u8 32 λ_=>0],.int .i64 17]) bl (g::rest))
   (cond (lY (g.d.k.kn (s.toNat-1)) (g.d.k.kf (s.toNat-1)) s r nc pf)
    (K (.az [.agg [.int .i64 m,.bool false,.dC .u8 8 λ_=>0],.agg [.dC .u8 32 (jl (g.d.k.kn (s.toNat-1)) (g.d.k.kf (s.toNat-1)) s r nc)],.int .i64 0]) bl (g::rest))
    (K (.az [.agg [.int .i64 m,.bool false,.dC .u8 8 λ_=>0],.agg [.dC .u8 32 λ_=>0],.int .i64 14]) bl (g::rest)))
 |_,_=>False
theorem Ey:cT (xC (fr:=fr)):=by
 intro args bl ch K h;unfold xC at h⊢;split at h
 ·rename_i m o nc vk s r pf g rest;refine⟨h.1,?_⟩;have h2:=h.2;cases o with
  |false=>exact⟨h2,[],by simp⟩
  |true=>
   cases hr:lY (g.d.k.kn (s.toNat-1)) (g.d.k.kf (s.toNat-1)) s r nc pf with
   |true=>rw[hr]at h2;exact⟨h2,[],by simp⟩
   |false=>rw[hr]at h2;exact⟨h2,[],by simp⟩
 ·exact h.elim
theorem Ez:Sound prog gS 148 (xC (fr:=fr)):=by
 intro args ids bl ch R ms w0 w K hg hl S hc;unfold xC at hc;split at hc
 ·rename_i m o nc vk s r pf g rest;obtain⟨⟨rfl,hr,hs,hrr,hk⟩,hK⟩:=hc;have e0:af (g::rest) R=g.F.B++af rest R:=rfl;have S':=S;rw[e0]at S';have hi:s.toNat-1<4:=by omega
  have Er:=J5 g.F S' (s.toNat-1) hi (by omega) (by omega);have gd:=J6 hg hl S hr;generalize hI:s.toNat-1=i at*;have e:(ao ids [.agg [.int .i64 m,.bool o,.dC .u8 8 nc],.raw (.slice (g.d.k.ka i) (g.d.k.kn i) (g.d.k.kc i)),.int .i64 s,.int .i64 r,.agg [.dC .u8 8 pf]]).toArray=#[.agg #[.int .i64 m,.bool o,.int .u8 (nc 0),.int .u8 (nc 1),.int .u8 (nc 2),.int .u8 (nc 3),.int .u8 (nc 4),.int .u8 (nc 5),.int .u8 (nc 6),.int .u8 (nc 7)],.slice (g.d.k.ka i) (g.d.k.kn i) (g.d.k.kc i),.int .i64 s,.int .i64 r,.agg (ak .u8 8 pf)]:=by kernel_rfl
  rw[e];have Wk:0<=s/\s<4294967296:=by omega
  cases o with
  |false=>
   refine(GI (g.d.k.ka i) (g.d.k.kn i) (g.d.k.kc i) (g.d.k.kf i) s r ⟨m,false,nc⟩ pf rfl w).mono ?_;rintro v w1 ⟨rfl,eZ⟩;exact⟨_,[],bl,g::rest,by kernel_rfl,by simpa using hl,by simpa using S.quiet eZ,hK⟩
  |true=>
   cases hq:lY (g.d.k.kn i) (g.d.k.kf i) s r nc pf with
   |true=>
    rw[hq]at hK;refine(Rb (g.d.k.ka i) (g.d.k.kn i) (g.d.k.kc i) (g.d.k.kf i) s r ⟨m,true,nc⟩ pf hk Wk hrr rfl hq w gd Er).mono ?_;rintro v w1 ⟨rfl,eZ⟩;exact⟨.az [.agg [.int .i64 m,.bool false,.dC .u8 8 λ_=>0],.agg [.dC .u8 32 (jl (g.d.k.kn i) (g.d.k.kf i) s r nc)],.int .i64 0],[],bl,g::rest,by kernel_rfl,by simpa using hl,by simpa using S.quiet eZ,hK⟩
   |false=>
    rw[hq]at hK;refine(MU (g.d.k.ka i) (g.d.k.kn i) (g.d.k.kc i) (g.d.k.kf i) s r ⟨m,true,nc⟩ pf hk Wk hrr rfl hq w gd Er).mono ?_;rintro v w1 ⟨rfl,eZ⟩;exact⟨.az [.agg [.int .i64 m,.bool false,.dC .u8 8 λ_=>0],.agg [.dC .u8 32 λ_=>0],.int .i64 14],[],bl,g::rest,by kernel_rfl,by simpa using hl,by simpa using S.quiet eZ,hK⟩
 ·exact hc.elim
def LP (fr:Sd.Reply->Nat×Sd.Byt) (C:Sd.Crypt):List (dI (Gh fr)):=qE (Gh fr) qtk::⟨148,true,xC⟩::⟨149,false,YU SX⟩::L8 fr C
theorem ai8 (tk:Nat->Sd.Byt->Option Sd.bW) (ht:Body (fr:=fr) 147 bV):ai prog gS (LP fr (ah tk)):=
 ai.cons ⟨qI (SW gS),λ_=>qH _⟩ (ai.cons ⟨Ez,λ_=>Ey⟩ (ai.cons (Hs NI) (xp tk ht)))
def eM (n:Nat) (f:Nat->Int) (t:List Value):VB:=⟨true,⟨5,(0,0)⟩,[.dC .u8 n f,.rest t]⟩
def SY (k:LK) (s:Sd.Scene) (n:Nat) (f:Nat->Int) (t:List Value) (Kb:SK fr k):V->List VB->List (Gh fr)->Prop:=λv bl ch=>∃s' F',fK 0 v=true/\s'.c.p=s.c.p/\Kb v s' F'/\bl.take 6=cS k s' F'++[eM n f t]/\ch=[cB k s' F']
def EA (s:Sd.Scene) (a b c:Sd.dQ) (E:Sd.Tab):Sd.Scene:={s with c:={s.c with doors:=r3 a b c s.c.doors,tab:=⟨E.aA,r3 (E.ay 0) (E.ay 1) (E.ay 2) s.c.tab.ay⟩}}
def Zk (s:Sd.Scene) (l r:Int) (key:Nat->Int):Sd.Tab×Int:=Sd.Tab.br (pY s.c.p.bh s.c.p.aR) (dw s.c.tab) l r key
section
variable(C:Sd.Crypt) (k:LK) (s:Sd.Scene) (F:bN fr (bA k s)) (Kb:SK fr k) (l:Int) (i:Nat) (e:Nat) (f:Nat->Int) (t:List Value) (D:Sd.dQ->Sd.Scene) (DT:Sd.dQ->Sd.Tab->Sd.Scene)
def lf (s0:Sd.Scene) (s':Sd.Scene) (F':bN fr (bA k s')):Prop:=SY k s0 10 f t Kb (.az []) (cS k s' F'++[eM 10 f t]) [cB k s' F']
def yS (d:Sd.dQ):Sd.dQ:=⟨d.many,false,λ_=>0⟩
def aeX (hD:∀e,bA k (D e)=bA k s) (V3:∀e E,bA k (DT e E)=bA k s):Prop:=
 let d:=s.c.doors i
 let m:=uT 2 f
 let key:=jl (k.kn i) (k.kf i) l m.role d.ae
 let E:=Zk s l m.role key
 (2<=10/\2<=e+10/\By f)/\cond (xB 2 f !=0) (ez k s F/\tM C [.int .i64 l,.int .i64 13] k (dv s) F λv s' F'=>lf k Kb f t s s' F')
 ((Value.slice (k.ka i) (k.kn i) (k.kc i)=.slice (k.ka i) (k.kn i) (k.kc i)/\some (aG k)=some (aG k)/\(1<=l/\l<=3)/\(0<=m.role/\m.role<4294967296)/\(1<=k.kn i/\k.kn i<=64))/\
   cond (!d.sG) (ez k (D d) (hD d▸F)/\ef C [.int .i64 l,.int .i64 0,.int .i64 17] k (D d) (hD d▸F) λv s' F'=>lf k Kb f t s s' F')
   (cond (lY (k.kn i) (k.kf i) l m.role d.ae λj=>f (2+j))
    (True/\cond (!(Sd.fm s.c.p l m.role)) (ez k (D (yS d)) (hD (yS d)▸F)/\ef C [.int .i64 l,.int .i64 0,.int .i64 18] k (D (yS d)) (hD (yS d)▸F) λv s' F'=>lf k Kb f t s s' F')
     (((0<=s.c.p.bh/\s.c.p.bh<=1000)/\1<=l/\l<=3)/\cond (E.2!=0) (ez k (DT (yS d) E.1) (V3 (yS d) E.1▸F)/\ef C [.int .i64 l,.int .i64 0,.int .i64 E.2] k (DT (yS d) E.1) (V3 (yS d) E.1▸F) λv s' F'=>lf k Kb f t s s' F')
       (ez k (DT (yS d) E.1) (V3 (yS d) E.1▸F)/\bV [.int .i64 l,.agg (il 130 0 m.role s.c.t.holder s.c.t.epoch 0)] k (DT (yS d) E.1) (V3 (yS d) E.1▸F) λv s2 F2=>
        ez k s2 F2/\hU C [.int .i64 3,.int .i64 l,.int .i64 0,.int .i64 0,.int .i64 0] k (dv s2) F2 λv s' F'=>lf k Kb f t s s' F')))
    (ez k (D (yS d)) (hD (yS d)▸F)/\tM C [.int .i64 l,.int .i64 14] k (D (yS d)) (hD (yS d)▸F) λv s' F'=>lf k Kb f t s s' F')))
end
def BP (fr:Sd.Reply->Nat×Sd.Byt) (C:Sd.Crypt) (l:Int) (i:Nat) (D:Sd.Scene->Sd.dQ->Sd.Scene) (DT:Sd.Scene->Sd.dQ->Sd.Tab->Sd.Scene) (hD:∀k s e,bA k (D s e)=bA k s) (V3:∀k s e E,bA k (DT s e E)=bA k s):Prop:=∀(k:LK) (s:Sd.Scene) (F:bN fr (bA k s)) (Kb:SK fr k) (e:Nat) (f:Nat->Int) (t:List Value),
 cJ (dR prog gS (LP fr C)) 90 99 [.ptr 2 0,.int .i64 l,.sl 5 0 10 (e+10)] (cS k s F++[eM 10 f t]) [cB k s F] (SY k s 10 f t Kb)=aeX C k s F Kb l i e f t (D s) (DT s) (hD k s) (V3 k s)
theorem Y3 (fr:Sd.Reply->Nat×Sd.Byt) (C:Sd.Crypt):BP fr C 1 0 (λs e=>Es s e (s.c.doors 1) (s.c.doors 2)) (λs e E=>EA s e (s.c.doors 1) (s.c.doors 2) E) (λ_ _ _=>rfl) (λ_ _ _ _=>rfl):=λk s F Kb e f t=>by kernel_rfl
theorem Y4 (fr:Sd.Reply->Nat×Sd.Byt) (C:Sd.Crypt):BP fr C 2 1 (λs e=>Es s (s.c.doors 0) e (s.c.doors 2)) (λs e E=>EA s (s.c.doors 0) e (s.c.doors 2) E) (λ_ _ _=>rfl) (λ_ _ _ _=>rfl):=λk s F Kb e f t=>by kernel_rfl
theorem Y5 (fr:Sd.Reply->Nat×Sd.Byt) (C:Sd.Crypt):BP fr C 3 2 (λs e=>Es s (s.c.doors 0) (s.c.doors 1) e) (λs e E=>EA s (s.c.doors 0) (s.c.doors 1) e E) (λ_ _ _=>rfl) (λ_ _ _ _=>rfl):=λk s F Kb e f t=>by kernel_rfl
theorem NJ (fr:Sd.Reply->Nat×Sd.Byt) (C:Sd.Crypt) (k:LK) (s:Sd.Scene) (F:bN fr (bA k s)) (Kb:SK fr k) (l:Int):cJ (dR prog gS (LP fr C)) 90 99 [.ptr 2 0,.int .i64 l,.raw (ei k)] (cS k s F) [cB k s F] (aO k s Kb)
 =cond ((k.pn:Int)!=10) (ez k s F/\tM C [.int .i64 l,.int .i64 13] k (dv s) F λv s' F'=>aO k s Kb (.az []) (cS k s' F') [cB k s' F']) (((0:Int)<=2/\(2:Int)<=(k.pc:Int))/\False):=by kernel_rfl
structure Y6 (k:LK) (s:Sd.Scene) (l:Int):Prop where
 r:Rm s 8
 lo:1<=l/\l<=3
 key:1<=k.kn (l.toNat-1)/\k.kn (l.toNat-1)<=64
 ke:s.c.p.k (l.toNat-1)=(k.kn (l.toNat-1),k.kf (l.toNat-1))
 bh:0<=s.c.p.bh/\s.c.p.bh<=1000
 fT:N4 s.c.t.holder
 ep:VZ s.c.t.epoch
def xD (s:Sd.Scene) (i:Nat) (e:Sd.dQ) (t:Sd.Tab):Sd.Scene:={s with c:={s.c with doors:=λj=>if j=i then e else s.c.doors j,tab:=t}}
theorem nB (s:Sd.Scene) (l r:Int) (key:Nat->Int):(Zk s l r key).2=(Sd.Tab.br s.c.p s.c.tab l r key).2/\(Zk s l r key).1.aA=(Sd.Tab.br s.c.p s.c.tab l r key).1.aA/\(1<=l/\l<=3->(∀j,j<3->(Zk s l r key).1.ay j=(Sd.Tab.br s.c.p s.c.tab l r key).1.ay j)/\∀j,(Sd.Tab.br s.c.p s.c.tab l r key).1.ay (j+3)=s.c.tab.ay (j+3)):=by
 have hm:(dw s.c.tab).many=s.c.tab.many:=rfl;have hp:(pY s.c.p.bh s.c.p.aR).aR=s.c.p.aR:=rfl;have hb:(pY s.c.p.bh s.c.p.aR).bh=s.c.p.bh:=rfl;have q3:∀j,j<3->(dw s.c.tab).ay j=s.c.tab.ay j:=by
  intro j hj;have:j=0\/j=1\/j=2:=by omega
  rcases this with rfl|rfl|rfl<;>rfl
 unfold Zk Sd.Tab.br;rw[w9,hm,hp,hb];split
 ·exact⟨rfl,rfl,λ_=>⟨q3,λ_=>rfl⟩⟩
 ·split
  ·exact⟨rfl,rfl,λ_=>⟨q3,λ_=>rfl⟩⟩
  ·refine⟨rfl,rfl,λhl=>⟨λj hj=>?_,λj=>?_⟩⟩
   ·simp only[Sd.Tab.dT];split
    ·rfl
    ·exact q3 j hj
   ·simp only[Sd.Tab.dT];rw[if_neg (by omega)]
theorem xE {s:Sd.Scene} {a b c:Sd.dQ} {i:Nat} {e:Sd.dQ} {E t:Sd.Tab} (hi:i<3) (ha:a=if 0=i then e else s.c.doors 0) (hb:b=if 1=i then e else s.c.doors 1) (hc:c=if 2=i then e else s.c.doors 2) (h1:E.aA=t.aA) (h2:∀j,j<3->E.ay j=t.ay j) (h3:∀j,t.ay (j+3)=s.c.tab.ay (j+3)):EA s a b c E=xD s i e t:=by
 unfold EA xD;have h:r3 a b c s.c.doors=λj=>if j=i then e else s.c.doors j:=by
  funext j
  match j with
  |0=>exact ha
  |1=>exact hb
  |2=>exact hc
  |j+3=>exact(if_neg (by omega)).symm
 have e:r3 (E.ay 0) (E.ay 1) (E.ay 2) s.c.tab.ay=t.ay:=by
  funext j
  match j with
  |0=>exact h2 0 (by decide)
  |1=>exact h2 1 (by decide)
  |2=>exact h2 2 (by decide)
  |j+3=>exact(h3 j).symm
 rw[h,e,h1]
theorem Kf {k:LK} {s0:Sd.Scene} {Kb:SK fr k} {f:Nat->Int} {t:List Value} {s' sF:Sd.Scene} (e:s'=sF) (hK:∀F,Kb (.az []) sF F) (F':bN fr (bA k s')) (hp:s'.c.p=s0.c.p:=by rfl):lf k Kb f t s0 s' F':=by
 subst e;exact⟨s',F',rfl,hp,hK F',rfl,rfl⟩
theorem rQ {n:Nat} {f:Nat->Int} (P:Sd.bW->Prop):∀(l:List Fd) (off:Nat) (m r:Sd.bW),(∀d∈l,∀v,d.low<=v->v<=d.high->∀m,P m->P (d.set v m))->P m->runM n f l off m=some r->P r
 |[],off,m,r,_,hm,h=>by
  unfold runM at h;split at h
  ·cases h;exact hm
  ·cases h
 |d::l,off,m,r,hd,hm,h=>by
  unfold runM at h;split at h
  ·cases h
  ·split at h
   ·cases h
   ·rename_i hv;exact rQ P l _ _ r (λx hx=>hd x (by simp[hx])) (hd d (by simp) _ (by omega) (by omega) m hm) h
structure Kg (k:Int) (m:Sd.bW):Prop where
 kind:m.kind=k
 seq:0<=m.seq/\m.seq<=4294967295
 role:0<=m.role/\m.role<=3
 bx:0<=m.bx/\m.bx<=4
 epoch:0<=m.epoch/\m.epoch<=65535
 mode:0<=m.mode/\m.mode<=4
 cls:0<=m.cls/\m.cls<=3
def okB (d:Fd):Prop:=∀v,d.low<=v->v<=d.high->∀k m,Kg k m->Kg k (d.set v m)
theorem Y7:okB oS:=λv h1 h2 k m h=>⟨h.kind,h.seq,⟨h1,h2⟩,h.bx,h.epoch,h.mode,h.cls⟩
theorem aeY:okB ig:=λv h1 h2 k m h=>⟨h.kind,⟨h1,h2⟩,h.role,h.bx,h.epoch,h.mode,h.cls⟩
theorem ai9:okB rN:=λv h1 h2 k m h=>⟨h.kind,h.seq,h.role,⟨h1,h2⟩,h.epoch,h.mode,h.cls⟩
theorem SZ:okB gf:=λv h1 h2 k m h=>⟨h.kind,h.seq,h.role,h.bx,⟨h1,h2⟩,h.mode,h.cls⟩
theorem Y8:okB rj:=λv h1 h2 k m h=>⟨h.kind,h.seq,h.role,h.bx,h.epoch,⟨h1,h2⟩,h.cls⟩
theorem aeZ:okB yQ:=λv h1 h2 k m h=>⟨h.kind,h.seq,h.role,h.bx,h.epoch,h.mode,⟨Int.le_trans (by decide) h1,h2⟩⟩
theorem ae0:okB D0:=λv h1 h2 k m h=>⟨h.kind,h.seq,h.role,h.bx,h.epoch,h.mode,h.cls⟩
theorem abK (i:Nat) (hi:i<4) (v:Int) (m:Sd.bW):((fX i).set v m).kind=m.kind/\((fX i).set v m).seq=m.seq/\((fX i).set v m).role=m.role/\((fX i).set v m).bx=m.bx/\((fX i).set v m).epoch=m.epoch/\((fX i).set v m).mode=m.mode/\((fX i).set v m).cls=m.cls:=by
 have:i=0\/i=1\/i=2\/i=3:=by omega
 rcases this with rfl|rfl|rfl|rfl<;>exact⟨rfl,rfl,rfl,rfl,rfl,rfl,rfl⟩
theorem Y9 (i:Nat) (hi:i<4):okB (fX i):=λv h1 h2 k m h=>by
 obtain⟨a,b,c,d,e,g,j⟩:=abK i hi v m;exact⟨a.trans h.kind,by rw[b];exact h.seq,by rw[c];exact h.role,by rw[d];exact h.bx,by rw[e];exact h.epoch,by rw[g];exact h.mode,by rw[j];exact h.cls⟩
theorem z0 (n:Int) (h:0<=n):(0:Int)<=0/\(0:Int)<=n:=⟨Int.le_refl 0,h⟩
theorem Y_ (k:Int):Kg k (Sd.aD k):=⟨rfl,z0 _ (by decide),z0 _ (by decide),z0 _ (by decide),z0 _ (by decide),z0 _ (by decide),z0 _ (by decide)⟩
theorem ae1 {k:Int} {l:List Fd} (h:kz k=some l):∀d∈l,okB d:=by
 have a1:=Y7;have a2:=aeY;have a3:=ai9;have a4:=SZ;have a5:=Y8;have a6:=aeZ;have a7:=ae0
 have b0:=Y9 0 (by decide);have b1:=Y9 1 (by decide);have b2:=Y9 2 (by decide);have b3:=Y9 3 (by decide)
 unfold kz at h
 repeat' split at h
 all_goals first|(cases h;done)|(obtain rfl:=Option.some.inj h;intro d hd;simp at hd;rcases hd with rfl|rfl|rfl|rfl|rfl|rfl|rfl<;>assumption)|(obtain rfl:=Option.some.inj h;intro d hd;simp at hd;rcases hd with rfl|rfl|rfl<;>assumption)|(obtain rfl:=Option.some.inj h;intro d hd;simp at hd;rcases hd with rfl|rfl<;>assumption)|(obtain rfl:=Option.some.inj h;intro d hd;simp at hd;subst hd;assumption)
theorem S7 {k:Int} {l:List Fd} (h:kz k=some l):1<=k/\k<=11:=by
 unfold kz at h
 repeat' split at h
 all_goals first|(cases h;done)|omega
theorem HI {n:Nat} {f:Nat->Int} {m:Sd.bW} (h:aT n f=some m):Sd.wN m:=by
 unfold aT at h;split at h
 ·cases h
 ·split at h
  ·rename_i l hl;have hb:=rQ (Kg (f 0)) l 1 _ m (λd hd v h1 h2 m hm=>ae1 hl d hd v h1 h2 _ m hm) (Y_ _) h;have hk:=S7 hl;refine⟨by rw[hb.kind];exact hk,hb.seq,hb.role,hb.bx,hb.epoch,hb.mode,hb.cls,?_⟩;intro h11;rw[hb.kind]at h11;have ama:l=[ig,gf,yQ,fX 0,fX 1,fX 2,fX 3]:=by
    rw[h11]at hl;exact(Option.some.inj hl).symm
   subst ama;unfold runM at h;split at h
   ·cases h
   split at h
   ·cases h
   unfold runM at h;split at h
   ·cases h
   split at h
   ·cases h
   unfold runM at h;split at h
   ·cases h
   split at h
   ·cases h
   rename_i hv;refine rQ (λm=>1<=m.cls) _ _ _ m ?_ ?_ h
   ·intro d hd v _ _ m hm;have:∃i,i<4/\d=fX i:=by
     simp at hd;rcases hd with rfl|rfl|rfl|rfl
     ·exact⟨0,by decide,rfl⟩
     ·exact⟨1,by decide,rfl⟩
     ·exact⟨2,by decide,rfl⟩
     ·exact⟨3,by decide,rfl⟩
    obtain⟨i,hi,rfl⟩:=this;show 1<=((fX i).set v m).cls;rw[(abK i hi v m).2.2.2.2.2.2];exact hm
   ·have h1:yQ.low=1:=rfl;have:∀v m,(yQ.set v m).cls=v:=λv m=>rfl;show 1<=(yQ.set _ _).cls;rw[this];omega
  ·cases h
theorem ai_ {n:Nat} {f:Nat->Int} (h:aT n f≠none):0<=(uT n f).role/\(uT n f).role<=3:=by
 unfold uT;cases hh:aT n f with
 |some m=>exact(HI hh).role
 |none=>exact absurd hh h
theorem Kh {n:Nat} {f:Nat->Int} (h:(xB n f !=0)=false):aT n f=some (uT n f):=by
 unfold xB at h;unfold uT;cases hh:aT n f with
 |some m=>rfl
 |none=>rw[hh]at h;simp at h
theorem Ki {n:Nat} {f:Nat->Int} (h:(xB n f !=0)=true):aT n f=none:=by
 unfold xB at h;cases hh:aT n f with
 |some m=>rw[hh]at h;simp at h
 |none=>rfl
theorem BQ {k:LK} {s:Sd.Scene} {F:bN fr (bA k s)} {Kb:SK fr k} {l:Int} {i e:Nat} {f:Nat->Int} {t:List Value} {D:Sd.dQ->Sd.Scene} {DT:Sd.dQ->Sd.Tab->Sd.Scene} {hD:∀e,bA k (D e)=bA k s} {V3:∀e E,bA k (DT e E)=bA k s}
 (rU:∀e,D e=tP s i e) (ae2:∀e r key,DT e (Zk s l r key).1=xD s i e (Sd.Tab.br s.c.p s.c.tab l r key).1) (hi:l.toNat-1=i) (h3:i<3) (hq:s.c.p.queue=k.most) (hP:Y6 k s l) (hf:By f) (hK:∀F',Kb (.az []) (s.prove (ah aT) l 10 f) F'):
 aeX (ah aT) k s F Kb l i e f t D DT hD V3:=by
 subst hi;have hP1:=hP.r;have hKk:s.c.p.k (l.toNat-1)=(k.kn (l.toNat-1),k.kf (l.toNat-1)):=hP.ke;have ae3:∀(x:Sd.Scene) (hx:bA k x=bA k s) (c:Int) (sF:Sd.Scene),x.c.p=s.c.p->N8 c->x.refuse (ah aT) l 0 c=sF->(∀F,Kb (.az []) sF F)->ez k x (hx▸F)/\ef (ah aT) [.int .i64 l,.int .i64 0,.int .i64 c] k x (hx▸F) λv s' F'=>lf k Kb f t s s' F':=by
  intro x hx c sF hp hc hE hKF;have hs:x.sent=s.sent:=congrArg FD.sent hx;have hr:x.recs=s.recs:=congrArg FD.recs hx;refine⟨eY (by rw[hp];exact hq),⟨⟨by rw[hs];have:=hP1.1;omega,by rw[hr];have:=hP1.2;omega⟩,Yz,hc⟩,λF1=>Kf hE hKF F1 hp⟩
 have amb:∀(x:Sd.Scene) (hx:bA k x=bA k s) (c:Int) (sF:Sd.Scene),x.c.p=s.c.p->x.dp (ah aT) l c=sF->(∀F,Kb (.az []) sF F)->ez k x (hx▸F)/\tM (ah aT) [.int .i64 l,.int .i64 c] k x (hx▸F) λv s' F'=>lf k Kb f t s s' F':=by
  intro x hx c sF hp hE hKF;have hr:x.recs=s.recs:=congrArg FD.recs hx;exact⟨eY (by rw[hp];exact hq),by show x.recs.length<=1000;rw[hr];have:=hP1.2;omega,λF1=>Kf hE hKF F1 hp⟩
 have hpr:s.prove (ah aT) l 10 f=match aT 2 f with
  |none=>s.dp (ah aT) l 13
  |some m=>if(s.c.doors (l.toNat-1)).sG=false then s.refuse (ah aT) l 0 17
   else if lY (k.kn (l.toNat-1)) (k.kf (l.toNat-1)) l m.role (s.c.doors (l.toNat-1)).ae (λj=>f (2+j))=false then(tP s (l.toNat-1) (yS (s.c.doors (l.toNat-1)))).dp (ah aT) l 14
   else if Sd.fm s.c.p l m.role=false then(tP s (l.toNat-1) (yS (s.c.doors (l.toNat-1)))).refuse (ah aT) l 0 18
   else if(Sd.Tab.br s.c.p s.c.tab l m.role (jl (k.kn (l.toNat-1)) (k.kf (l.toNat-1)) l m.role (s.c.doors (l.toNat-1)).ae)).2≠0 then(tP s (l.toNat-1) (yS (s.c.doors (l.toNat-1)))).refuse (ah aT) l 0 (Sd.Tab.br s.c.p s.c.tab l m.role (jl (k.kn (l.toNat-1)) (k.kf (l.toNat-1)) l m.role (s.c.doors (l.toNat-1)).ae)).2
   else((xD s (l.toNat-1) (yS (s.c.doors (l.toNat-1))) (Sd.Tab.br s.c.p s.c.tab l m.role (jl (k.kn (l.toNat-1)) (k.kf (l.toNat-1)) l m.role (s.c.doors (l.toNat-1)).ae)).1).tell l ⟨130,0,m.role,s.c.t.holder,s.c.t.epoch,0,λ_=>0⟩).record (ah aT) 3 l 0 0 0:=by
  unfold Sd.Scene.prove;rw[if_neg (by decide)];show(match aT 2 f with|none=>_|some m=>_)=_;cases aT 2 f with
  |none=>rfl
  |some m=>
   simp only[ah,hKk];rfl
 unfold aeX;refine⟨⟨by decide,by omega,hf⟩,aU (λe=>?_) (λe=>?_)⟩
 ·rw[hpr,Ki e]at hK;exact⟨eY hq,w_ hP.r.r1 λF1=>Kf rfl hK F1⟩
 ·have hm:=Kh e;have abL:=ai_ (n:=2) (f:=f) (by rw[hm];simp);rw[hpr,hm]at hK;simp only at hK;refine⟨⟨rfl,rfl,hP.lo,⟨abL.1,by omega⟩,hP.key⟩,aU (λe1=>?_) (λe1=>aU (λe2=>⟨trivial,aU (λe3=>?_) (λe3=>⟨⟨hP.bh,hP.lo⟩,aU (λe4=>?_) (λe4=>?_)⟩)⟩) (λe2=>?_))⟩
  ·rw[if_pos (by simpa using e1)]at hK;refine ae3 _ (hD _) 17 _ (by rw[rU];rfl) ⟨by decide,by decide⟩ ?_ hK;rw[rU];have:tP s (l.toNat-1) (s.c.doors (l.toNat-1))=s:=by
    unfold tP;have:(λj=>if j=l.toNat-1 then s.c.doors (l.toNat-1)else s.c.doors j)=s.c.doors:=by funext j;split<;>simp_all
    rw[this]
   rw[this]
  ·rw[if_neg (by simpa using e1),if_neg (by rw[e2];decide),if_pos (by simpa using e3)]at hK;exact ae3 _ (hD _) 18 _ (by rw[rU];rfl) ⟨by decide,by decide⟩ (by rw[rU]) hK
  ·obtain⟨b2,b1,b3⟩:=nB s l (uT 2 f).role (jl (k.kn (l.toNat-1)) (k.kf (l.toNat-1)) l (uT 2 f).role (s.c.doors (l.toNat-1)).ae);rw[b2]at e4⊢;have e4':(Sd.Tab.br s.c.p s.c.tab l (uT 2 f).role (jl (k.kn (l.toNat-1)) (k.kf (l.toNat-1)) l (uT 2 f).role (s.c.doors (l.toNat-1)).ae)).2≠0:=by simpa using e4
   rw[if_neg (by simpa using e1),if_neg (by rw[e2];decide),if_neg (by simpa using e3),if_pos e4']at hK;have hbg:(Sd.Tab.br s.c.p s.c.tab l (uT 2 f).role (jl (k.kn (l.toNat-1)) (k.kf (l.toNat-1)) l (uT 2 f).role (s.c.doors (l.toNat-1)).ae)).1=s.c.tab/\N8 (Sd.Tab.br s.c.p s.c.tab l (uT 2 f).role (jl (k.kn (l.toNat-1)) (k.kf (l.toNat-1)) l (uT 2 f).role (s.c.doors (l.toNat-1)).ae)).2:=by
    revert e4';unfold Sd.Tab.br;split
    ·intro _;exact⟨rfl,(show N8 1 from⟨by decide,by decide⟩)⟩
    ·split
     ·intro _;exact⟨rfl,(show N8 19 from⟨by decide,by decide⟩)⟩
     ·intro h;exact absurd rfl h
   refine ae3 _ (V3 _ _) _ _ (by rw[ae2];rfl) hbg.2 ?_ hK;rw[ae2,hbg.1];rfl
  ·obtain⟨b2,b1,b3⟩:=nB s l (uT 2 f).role (jl (k.kn (l.toNat-1)) (k.kf (l.toNat-1)) l (uT 2 f).role (s.c.doors (l.toNat-1)).ae);rw[b2]at e4;rw[if_neg (by simpa using e1),if_neg (by rw[e2];decide),if_neg (by simpa using e3),if_neg (by simpa using e4)]at hK;have key:∀(x:Sd.Scene) (hx:bA k x=bA k s),x=xD s (l.toNat-1) (yS (s.c.doors (l.toNat-1))) (Sd.Tab.br s.c.p s.c.tab l (uT 2 f).role (jl (k.kn (l.toNat-1)) (k.kf (l.toNat-1)) l (uT 2 f).role (s.c.doors (l.toNat-1)).ae)).1->
    (ez k x (hx▸F)/\bV [.int .i64 l,.agg (il 130 0 (uT 2 f).role s.c.t.holder s.c.t.epoch 0)] k x (hx▸F) λv s2 F2=>ez k s2 F2/\hU (ah aT) [.int .i64 3,.int .i64 l,.int .i64 0,.int .i64 0,.int .i64 0] k (dv s2) F2 λv s' F'=>lf k Kb f t s s' F'):=by
    rintro x hx rfl;refine⟨eY hq,⟨⟨(show Rm (xD s _ _ _) 8 from hP.r).le (by decide),⟨(show(129:Int)<=130/\(130:Int)<=136 by decide),⟨Yz,.inr rfl⟩,⟨abL,.inl rfl⟩,⟨hP.fT,.inl (.inl rfl)⟩,⟨hP.ep,.inl (.inl rfl)⟩,⟨(show N8 0 from⟨by decide,by decide⟩),.inr rfl⟩,⟨λj=>(show(0:Int)<=0/\(0:Int)<=255 from⟨by decide,by decide⟩),.inr rfl⟩⟩⟩,λF2=>⟨eY hq,fD ?_ λF3=>Kf rfl hK F3⟩⟩⟩;have:=hP.r.2;simp only[Sd.Scene.tell,xD];omega
   exact key _ (V3 _ _) (ae2 _ _ _)
  ·rw[if_neg (by simpa using e1),if_pos e2]at hK;exact amb _ (hD _) 14 _ (by rw[rU];rfl) (by rw[rU]) hK
def ll (k:LK):LK:={k with px:=none,pn:=0,pc:=0}
def xF (C:Sd.Crypt):SM fr:=λar k s F K=>match ar with
 |[.int .i64 l,.raw vp]=>(vp=ei k/\Y6 k s l/\By k.pf)/\∀F',K (.az []) (s.prove C l k.pn k.pf) F'
 |_=>False
theorem aja (a b c:Nat) (more:List Nat):Gl gS (a_ a b c++more):=by
 intro g i iX;unfold gS at iX;split at iX
 ·obtain rfl:=Option.some.inj iX;exact⟨by simp,rfl⟩
 ·obtain rfl:=Option.some.inj iX;exact⟨by simp,rfl⟩
 ·cases iX
theorem Za {k:LK} {s:Sd.Scene} (F:bN fr (bA k s)) (h0:0<k.pn):∃(bp:Nat) (t:List Value) (F0:bN fr (bA (ll k) s)),k.px=some ⟨bp,0,none⟩/\k.pn<=k.pc/\F0.vs=F.vs/\F0.vr=F.vr/\F.B=F0.B++[⟨bp,true,.cells (ab [] (eM k.pn k.pf t).c).toArray 5 (0,0)⟩]/\
 (ab [] (eM k.pn k.pf t).c).toArray=dc k.pn k.pf k.pc:=by
 obtain⟨b0,b1,b2,b3,b4,hB,k0,k1,k2,k3,k4⟩:=F.hk;obtain⟨hle,h|⟨bp,hx,hb⟩⟩:=k4
 ·have:=h.2.1;simp only[bA]at this;omega
 ·have e:(ab [] (eM k.pn k.pf (List.replicate (k.pc-k.pn) (.int .u8 0))).c).toArray=dc k.pn k.pf k.pc:=by
   simp[eM,ab,cl,dc,eE]
  refine⟨bp,List.replicate (k.pc-k.pn) (.int .u8 0),{F with Bk:=b0++(b1++(b2++(b3++[]))),hk:=⟨b0,b1,b2,b3,[],rfl,k0,k1,k2,k3,⟨Nat.le_refl _,.inl ⟨rfl,rfl,rfl,rfl⟩⟩⟩},hx,hle,rfl,rfl,?_,e⟩;rw[e,uS,uS];show _=(F.Br++(F.Bs++(F.Bf++(F.Bq++(b0++(b1++(b2++(b3++[]))))))))++_;rw[hB,hb];simp[List.append_assoc,bA]
theorem ae4 {k:LK} {s:Sd.Scene} (F0:bN fr (bA (ll k) s)) {bp:Nat} (hx:k.px=some ⟨bp,0,none⟩) (hle:k.pn<=k.pc):∃F:bN fr (bA k s),F.vs=F0.vs/\F.vr=F0.vr/\F.B=F0.B++[⟨bp,true,.cells (dc k.pn k.pf k.pc) 5 (0,0)⟩]:=by
 obtain⟨b0,b1,b2,b3,b4,hB,k0,k1,k2,k3,k4⟩:=F0.hk;have h4:b4=[]:=by
  obtain⟨_,h|⟨b,hx,_⟩⟩:=k4
  ·exact h.2.2.2
  ·cases hx
 subst h4;refine⟨{F0 with Bk:=b0++(b1++(b2++(b3++[⟨bp,true,.cells (dc k.pn k.pf k.pc) 5 (0,0)⟩]))),hk:=⟨b0,b1,b2,b3,_,rfl,k0,k1,k2,k3,⟨hle,.inr ⟨bp,hx,rfl⟩⟩⟩},rfl,rfl,?_⟩;rw[uS,uS];show(F0.Br++(F0.Bs++(F0.Bf++(F0.Bq++(b0++(b1++(b2++(b3++[(⟨bp,true,.cells (dc k.pn k.pf k.pc) 5 (0,0)⟩:av)]))))))))=_;rw[hB];simp[List.append_assoc]
theorem Kj {k:LK} {s:Sd.Scene} (F:bN fr (bA k s)) (F0:bN fr (bA (ll k) s)) (h1:F0.vs=F.vs) (h2:F0.vr=F.vr):cS (ll k) s F0=cS k s F:=by
 have e:w7 3 F0=w7 3 F:=by unfold w7;rw[h1,h2]
 show[aG (ll k),iA (ll k),w7 3 F0,ew (ll k) 4 s,gP s]=_;rw[e];rfl
theorem HJ (ht:Body (fr:=fr) 147 bV):Body (fr:=fr) 99 (xF (ah aT)):=by
 intro ar k s F Kb a b c R ms w0 w h0 hq hM S;unfold xF at hM;split at hM
 ·rename_i l vp;obtain⟨⟨rfl,hP,hf⟩,hK⟩:=hM;have hLP:=ai8 (fr:=fr) aT ht;by_cases hn:k.pn=10
  ·obtain⟨bp,t,F0,hx,hle,v1,v2,hB,jr⟩:=Za F (by omega);obtain⟨e,he⟩:∃e,k.pc=e+10:=⟨k.pc-10,by omega⟩;rw[hn]at hB jr hK;have eP:lits (a_ a b c++[bp]) (a_ a b c++[bp]) (cS (ll k) s F0++[eM 10 k.pf t])=lits (a_ a b c) (a_ a b c) (cS k s F)++[⟨bp,true,.cells (ab [] (eM 10 k.pf t).c).toArray 5 (0,0)⟩]:=by
    rw[Kj F F0 v1 v2,aI _ _ _ _ rfl,aJ (ids:=a_ a b c) (more:=[bp]) (a_ a b c) (cS k s F) rfl];rfl
   have S1:St ms w0 (lits (a_ a b c++[bp]) (a_ a b c++[bp]) (cS (ll k) s F0++[eM 10 k.pf t])++af [cB (ll k) s F0] R) w:=by
    rw[eP];have en:af [cB (ll k) s F0] R=F0.B++R:=rfl;rw[en];rw[hB]at S;refine S.perm ?_;rw[List.append_assoc,List.append_assoc];refine List.Perm.append_left _ ?_;exact List.perm_append_comm_assoc _ _ _
   have fU:cJ (dR prog gS (LP fr (ah aT))) 90 99 [.ptr 2 0,.int .i64 l,.sl 5 0 10 (e+10)] (cS (ll k) s F0++[eM 10 k.pf t]) [cB (ll k) s F0] (SY (ll k) s 10 k.pf t λv s' _=>∀F',Kb v s' F'):=by
    have hP0:Y6 (ll k) s l:=⟨hP.r,hP.lo,hP.key,hP.ke,hP.bh,hP.fT,hP.ep⟩;have hl:l=1\/l=2\/l=3:=by have:=hP.lo;omega
    have Qo:∀F0':bN fr (bA (ll k) (s.prove (ah aT) l 10 k.pf)),∀F',Kb (.az []) (s.prove (ah aT) l 10 k.pf) F':=λ_=>hK;rcases hl with rfl|rfl|rfl
    ·rw[Y3];refine BQ (λe=>jA (i:=0) (by decide) rfl rfl rfl) (λe r key=>?_) rfl (by decide) hq hP0 hf Qo;obtain⟨_,b1,b3⟩:=nB s 1 r key;exact xE (i:=0) (by decide) rfl rfl rfl b1 (b3 (by decide)).1 (b3 (by decide)).2
    ·rw[Y4];refine BQ (λe=>jA (i:=1) (by decide) rfl rfl rfl) (λe r key=>?_) rfl (by decide) hq hP0 hf Qo;obtain⟨_,b1,b3⟩:=nB s 2 r key;exact xE (i:=1) (by decide) rfl rfl rfl b1 (b3 (by decide)).1 (b3 (by decide)).2
    ·rw[Y5];refine BQ (λe=>jA (i:=2) (by decide) rfl rfl rfl) (λe r key=>?_) rfl (by decide) hq hP0 hf Qo;obtain⟨_,b1,b3⟩:=nB s 3 r key;exact xE (i:=2) (by decide) rfl rfl rfl b1 (b3 (by decide)).1 (b3 (by decide)).2
   have ea:(ao (a_ a b c) (.ptr 2 0::[.int .i64 l,.raw (ei k)])).toArray=(ao (a_ a b c++[bp]) [.ptr 2 0,.int .i64 l,.sl 5 0 10 (e+10)]).toArray:=by
    have:ei k=.slice (some ⟨bp,0,none⟩) 10 (e+10):=by unfold ei;rw[hx,hn,he]
    rw[this];rfl
   rw[ea];refine(bw hLP.T hLP.Q 90 (C:=dR prog gS (LP fr (ah aT))) (aja a b c [bp]) rfl S1 fU).mono ?_;rintro v w' ⟨x,more,bl',ch',rfl,h1,S',s',F',hv,hp,hK',hb,rfl⟩;have ev:den (a_ a b c++[bp]++more) x=den [] x:=by have:=bC (ids:=[]) (more:=a_ a b c++[bp]++more) x hv;simpa using this
   rw[<-hn]at jr;obtain⟨F2,u1,u2,hB2⟩:=ae4 F' hx hle;refine⟨x,s',F2,ev,hv,hp,hK' F2,?_⟩;have gz:bl'=(cS (ll k) s' F'++[eM 10 k.pf t])++bl'.drop 6:=by rw[<-hb,List.take_append_drop]
   rw[gz]at S';have e2:lits (a_ a b c++[bp]++more) (a_ a b c++[bp]++more) ((cS (ll k) s' F'++[eM 10 k.pf t])++bl'.drop 6)=(lits (a_ a b c) (a_ a b c) (cS k s' F2)++[⟨bp,true,.cells (ab [] (eM 10 k.pf t).c).toArray 5 (0,0)⟩])++lits (a_ a b c++[bp]++more) more (bl'.drop 6):=by
    rw[aI _ _ _ _ rfl,aJ (ids:=a_ a b c++[bp]) (more:=more) (a_ a b c++[bp]) _ rfl];rw[<-Kj F2 F' u1.symm u2.symm,aI _ _ _ _ rfl,aJ (ids:=a_ a b c) (more:=[bp]) (a_ a b c) (cS (ll k) s' F') rfl];rfl
   rw[e2]at S';have e3:af [cB (ll k) s' F'] R=F'.B++R:=rfl;rw[e3]at S';have S2:=S'.sub (bs':=(lits (a_ a b c) (a_ a b c) (cS k s' F2)++[⟨bp,true,.cells (ab [] (eM 10 k.pf t).c).toArray 5 (0,0)⟩])++(F'.B++R)) (by
    rw[List.append_assoc (lits _ _ _++_)];exact List.Sublist.append_left (List.sublist_append_right _ _) _)
   rw[hB2];rw[hn]at jr⊢;rw[jr]at S2;refine S2.perm ?_;rw[List.append_assoc,List.append_assoc];refine List.Perm.append_left _ ?_;exact List.perm_append_comm_assoc _ _ _
  ·refine dJ (M:=λar k s F K=>(ar=[.int .i64 l,.raw (ei k)]/\k.pn≠10/\s.recs.length<=1000)/\∀F',K (.az []) (s.dp (ah aT) l 13) F') (n:=90) hLP ?_ _ k s F Kb a b c R ms w0 w h0 hq ⟨⟨rfl,hn,by have:=hP.r.2;omega⟩,?_⟩ S
   ·rintro ar k s F Kb _ hq ⟨⟨rfl,hn,hr⟩,hK⟩;rw[NJ];refine aU (λe=>⟨eY hq,w_ hr λF1=>aM rfl hK F1⟩) (λe=>?_);have:(k.pn:Int)=10:=by simpa using e
    omega
   ·have:s.prove (ah aT) l k.pn k.pf=s.dp (ah aT) l 13:=by unfold Sd.Scene.prove;rw[if_pos hn]
    rw[this]at hK;exact hK
 ·exact hM.elim
end Go.Proofs.YtggfpcggakghnaaGreatDoor
namespace Go.Proofs.YtggfpcggakghnaaGreatDoor
open Go Go.RowKit Go.BigFrame Sx Vx
def gR:Nat->Option Nat
 |1=>some 0
 |_=>none
def ae5:QF:=⟨151,λargs _=>match args with
 |[.agg wl,.int .i64 n]=>(match adU wl with
  |some z=>some ((0<=z.high/\z.high<=4294967295)/\(0<=n/\n<=4294967295),.az [.agg (aie (dD z n)),.bool (DJ (dD z n) z)])
  |none=>none)
 |_=>none⟩
theorem Zb (gl:Nat->Option Nat):ae5.Ok prog gl:=by
 intro args bl p v h hp ids w _ _;unfold ae5 at h;dsimp only at h;split at h
 ·rename_i wl n;split at h
  ·rename_i z hz;simp only[Option.some.injEq,Prod.mk.injEq]at h;obtain⟨rfl,rfl⟩:=h;obtain rfl:=Yb hz;exact told (aia z n hp.1 hp.2 w)
  ·cases h
 ·cases h
def S8 {G:Type} (k:LK):gm G:=λargs bl ch K=>match args with
 |[.agg [.dC .u8 32 key],.int .i64 l,.sl i 0 n c]=>(match bl[i]?with
  |some b=>(match b.c with
   |[.dC .u8 n' f,.rest t]=>cond (CR b.ty 5&&dk bl.length bl) ((bl[0]?=some (aG k)/\n=n'/\n<=58/\n<=c/\(0<=l/\l<4294967296))/\
    ((n<8\/eV key l (n-8) f=false)->K (.az [.raw (.slice none 0 0),.int .i64 14]) bl ch)/\
    (8<=n->eV key l (n-8) f=true->(n=8->∀(x:Option Addr) (c':Nat),K (.az [.raw (.slice x 0 c'),.int .i64 0]) bl ch)/\
     (8<n->∀(c':Nat) (t':List Value),n-8<=c'->K (.az [.sl bl.length 0 (n-8) c',.int .i64 0]) (bl++[eM (n-8) f t']) ch))) False
   |_=>False)
  |none=>False)
 |[.agg [.dC .u8 32 key],.int .i64 l,.raw (.slice x 0 c)]=>K (.az [.raw (.slice none 0 0),.int .i64 14]) bl ch
 |_=>False
theorem HK {G:Type} [Bl G] (k:LK):Sound (G:=G) prog gR 150 (S8 k):=by
 intro args ids bl ch R ms w0 w K hg hl S hc;unfold S8 at hc;split at hc
 ·rename_i key l i n c;split at hc
  ·rename_i b hb;split at hc
   ·rename_i n' f t hbc;cases hq:CR b.ty 5&&dk bl.length bl with
    |false=>rw[hq]at hc;exact hc.elim
    |true=>
     rw[hq]at hc;simp only[cond_true]at hc;simp only[Bool.and_eq_true]at hq;obtain⟨⟨hr,rfl,hn,vQ,Px⟩,OJ,ajb⟩:=hc;have ba:=(cA hl S hb).2;rw[hbc,Ar hq.1]at ba;have gd:w.heap[1]?=some (.cells (ak .u32 64 aX) k.tg (0,0)):=by
      have h1:=(cA hl S hr).2;rw[(hg 1 0 rfl).2]at h1;have e:(ab ids (aG k).c).toArray=ak .u32 64 aX:=by kernel_rfl
      rw[e]at h1;exact h1
     have h8:eS w (ids.getD i 0) 0 n f:=by
      intro j hj;rw[cell_of ba];have e:(ab ids [V.dC .u8 n f,.rest t]).toArray=((List.range n).map (λj=>Value.int .u8 (f j))++t).toArray:=by simp[ab,cl]
      rw[e];simp only[Nat.zero_add,List.getElem?_toArray];rw[List.getElem?_append_left (by simpa using hj),List.getElem?_map,List.getElem?_range hj];rfl
     have ea:(ao ids [.agg [.dC .u8 32 key],.int .i64 l,.sl i 0 n c]).toArray=#[.agg (ak .u8 32 key),.int .i64 l,.slice (some ⟨ids.getD i 0,0,none⟩) n c]:=by kernel_rfl
     rw[ea];have fin:∀{v:Value} {w1:World},v=.tuple #[.slice none 0 0,.int .i64 14]->Ch [] w w1->K (.az [.raw (.slice none 0 0),.int .i64 14]) bl ch->∃x more bl' ch',v=den (ids++more) x/\(ids++more).length=bl'.length/\St ms w0 (lits (ids++more) (ids++more) bl'++af ch' R) w1/\K x bl' ch':=by
      rintro v w1 rfl eZ hk;exact⟨_,[],bl,ch,by simp[den,ao],by simpa using hl,by simpa using S.quiet eZ,hk⟩
     rcases Nat.lt_or_ge n 8 with h|h
     ·exact(wI key l _ n c h w).mono λv w1 ⟨hv,eZ⟩=>fin hv eZ (OJ (.inl h))
     ·obtain⟨m,rfl⟩:∃m,n=m+8:=⟨n-8,by omega⟩;rw[Nat.add_sub_cancel]at OJ ajb;cases ho:eV key l m f with
      |false=>exact(XH key l _ 0 m c f (by omega) vQ Px ho w gd h8).mono λv w1 ⟨hv,eZ⟩=>fin hv eZ (OJ (.inr ho))
      |true=>
       refine(QP key l _ 0 m c f (by omega) vQ Px ho w gd h8).mono ?_;rintro v w1 ⟨x1,c1,yA,rfl,h8',S1⟩;obtain⟨y0,y1⟩:=ajb h ho;have hS:=S.quiet S1.ch;rcases Nat.eq_zero_or_pos m with rfl|h0
       ·exact⟨_,[],bl,ch,by simp[den,ao],by simpa using hl,by simpa using hS,y0 rfl x1 c1⟩
       ·obtain⟨bn,hle,rfl,rfl⟩:=qt h8' h0;refine⟨_,[bn],_,ch,?_,by simp[hl],?_,y1 (by omega) c1 (List.replicate (c1-m) (.int .u8 0)) hle⟩
        ·simp only[den,ao];rw[<-hl,cy]
        ·rw[aI _ _ _ _ hl,aJ _ _ (by rw[hl];exact hq.2)];have e2:lits (ids++[bn]) [bn] [eM m f (List.replicate (c1-m) (.int .u8 0))]=[⟨bn,true,.cells (dc m f c1) 5 (0,0)⟩]:=by
          simp[lits,aE,eM,ab,cl,dc,eE]
         rw[e2];have amc:=S1.ql (x:=⟨bn,true,.cells (dc m f c1) 5 (0,0)⟩) (by simp) rfl;have jI:w.heap.size<=bn:=by rcases amc with h|h;cases h;exact h
         have:=S.new S1.ch jI (S1.at' (x:=⟨bn,true,.cells (dc m f c1) 5 (0,0)⟩) (by simp));refine this.perm ?_;rw[List.append_assoc];exact List.perm_middle.symm
   ·exact hc.elim
  ·exact hc.elim
 ·rename_i key l x c;have ea:(ao ids [.agg [.dC .u8 32 key],.int .i64 l,.raw (.slice x 0 c)]).toArray=#[.agg (ak .u8 32 key),.int .i64 l,.slice x 0 c]:=by kernel_rfl
  rw[ea];refine(wI key l x 0 c (by decide) w).mono ?_;rintro v w1 ⟨rfl,eZ⟩;exact⟨_,[],bl,ch,by simp[den,ao],by simpa using hl,by simpa using S.quiet eZ,hc⟩
 ·exact hc.elim
def LO (k:LK):List (dI Empty):=⟨150,false,S8 k⟩::qL Empty (qtk::ae5::QV)
theorem Kk (k:LK):ai prog gR (LO k):=ai.cons ⟨HK k,λe=>by cases e⟩ (f_ (aZ.cons (SW gR) (aZ.cons (Zb gR) (uq gR))))
def gA (e:Int):V:=.az [.agg (cw (Sd.aD 0)),.int .i64 e]
def xG (w:Sd.cN) (b:Int) (m:Sd.bW) (e:Int) (X:V->Option (Sd.cN×Sd.Timer)->Prop):Prop:=
 cond (e !=0) (X (gA 13) none) (cond (m.kind==1) (X (gA 13) none) (cond (m.kind==2) (X (gA 13) none)
  (((0<=w.high/\w.high<=4294967295)/\(0<=m.seq/\m.seq<=4294967295))/\cond (!(DJ (dD w m.seq) w)) (X (gA 15) none)
    ((-9223372036854775808<=b/\b<=9223372036854775807)/\X (.az [.agg (cw m),.int .i64 0]) (some (dD w m.seq,Sd.Timer.start b))))))
def xH (k:LK) (s:Sd.bm) (b l:Int) (n c:Nat) (f:Nat->Int) (X:V->Option (Sd.cN×Sd.Timer)->Prop):Prop:=
 cond (!s.on) (X (gA 16) none) ((some (aG k)=some (aG k)/\n=n/\n<=58/\n<=c/\(0<=l/\l<4294967296))/\
  ((n<8\/eV s.key l (n-8) f=false)->X (gA 14) none)/\
  (8<=n->eV s.key l (n-8) f=true->(n=8->∀(x:Option Addr) (c':Nat),True/\xG s.seen b (uT 0 λ_=>0) (xB 0 λ_=>0) X)/\
   (8<n->∀(c':Nat) (t':List Value),n-8<=c'->(n-8<=n-8/\n-8<=c'/\By f)/\xG s.seen b (uT (n-8) f) (xB (n-8) f) X)))
def OP (s:Sd.bm):Option (Sd.cN×Sd.Timer)->Sd.bm
 |none=>s
 |some (w,t)=>{s with seen:=w,on:=true,aH:=t}
def kT (X:V->List VB->Prop):VK Empty:=λv bl _=>X v (bl.take 3)
section
variable(k:LK) (y:TC) (n c:Nat) (f:Nat->Int) (t:List Value) (X:V->List VB->Prop)
theorem amd:cJ (dR prog gR (LO k)) 60 100 [.ptr 1 0,.int .i64 1,.sl 2 0 n c] [aG k,⟨true,⟨157,(0,0)⟩,cd y⟩,eM n f t] [] (kT X)=xH k y.s0 y.b 1 n c f λv o=>X v [aG k,⟨true,⟨157,(0,0)⟩,cd {y with s0:=OP y.s0 o}⟩,eM n f t]:=by kernel_rfl
theorem ame:cJ (dR prog gR (LO k)) 60 100 [.ptr 1 0,.int .i64 2,.sl 2 0 n c] [aG k,⟨true,⟨157,(0,0)⟩,cd y⟩,eM n f t] [] (kT X)=xH k y.sa y.b 2 n c f λv o=>X v [aG k,⟨true,⟨157,(0,0)⟩,cd {y with sa:=OP y.sa o}⟩,eM n f t]:=by kernel_rfl
theorem amf:cJ (dR prog gR (LO k)) 60 100 [.ptr 1 0,.int .i64 3,.sl 2 0 n c] [aG k,⟨true,⟨157,(0,0)⟩,cd y⟩,eM n f t] [] (kT X)=xH k y.sb y.b 3 n c f λv o=>X v [aG k,⟨true,⟨157,(0,0)⟩,cd {y with sb:=OP y.sb o}⟩,eM n f t]:=by kernel_rfl
def ma (y:TC) (l:Int):Sd.bm:=if l=1 then y.s0 else if l=2 then y.sa else y.sb
theorem amg (x:Option Addr):cJ (dR prog gR (LO k)) 60 100 [.ptr 1 0,.int .i64 1,.raw (.slice x 0 c)] [aG k,⟨true,⟨157,(0,0)⟩,cd y⟩] [] (λv bl _=>X v (bl.take 2))=cond (!y.s0.on) (X (gA 16) [aG k,⟨true,⟨157,(0,0)⟩,cd y⟩]) (X (gA 14) [aG k,⟨true,⟨157,(0,0)⟩,cd y⟩]):=by kernel_rfl
theorem amh (x:Option Addr):cJ (dR prog gR (LO k)) 60 100 [.ptr 1 0,.int .i64 2,.raw (.slice x 0 c)] [aG k,⟨true,⟨157,(0,0)⟩,cd y⟩] [] (λv bl _=>X v (bl.take 2))=cond (!y.sa.on) (X (gA 16) [aG k,⟨true,⟨157,(0,0)⟩,cd y⟩]) (X (gA 14) [aG k,⟨true,⟨157,(0,0)⟩,cd y⟩]):=by kernel_rfl
theorem ami (x:Option Addr):cJ (dR prog gR (LO k)) 60 100 [.ptr 1 0,.int .i64 3,.raw (.slice x 0 c)] [aG k,⟨true,⟨157,(0,0)⟩,cd y⟩] [] (λv bl _=>X v (bl.take 2))=cond (!y.sb.on) (X (gA 16) [aG k,⟨true,⟨157,(0,0)⟩,cd y⟩]) (X (gA 14) [aG k,⟨true,⟨157,(0,0)⟩,cd y⟩]):=by kernel_rfl
end
variable{fr:Sd.Reply->Nat×Sd.Byt}
def dL (s:Sd.bm) (b l:Int) (n:Nat) (f:Nat->Int):V×Option (Sd.cN×Sd.Timer):=
 if s.on=false then(gA 16,none)else if n<8\/eV s.key l (n-8) f=false then(gA 14,none)else match aT (n-8) f with
 |none=>(gA 13,none)
 |some m=>if m.kind=1\/m.kind=2 then(gA 13,none)else if dD s.seen m.seq=s.seen then(gA 15,none)else(.az [.agg (cw m),.int .i64 0],some (dD s.seen m.seq,Sd.Timer.start b))
theorem NK {w:Sd.cN} {b:Int} {n:Nat} {f:Nat->Int} {X:V->Option (Sd.cN×Sd.Timer)->Prop} (hw:0<=w.high/\w.high<=4294967295) (hb:0<=b/\b<=1000)
 (h0:aT n f=none->X (gA 13) none) (h1:∀m,aT n f=some m->if m.kind=1\/m.kind=2 then X (gA 13) none else if dD w m.seq=w then X (gA 15) none else X (.az [.agg (cw m),.int .i64 0]) (some (dD w m.seq,Sd.Timer.start b))):
 xG w b (uT n f) (xB n f) X:=by
 unfold xG;refine aU (λe=>h0 (Ki e)) (λe=>?_);have hm:=Kh e;have h2:=h1 _ hm;have va:=HI hm;refine aU (λe1=>?_) (λe1=>aU (λe2=>?_) (λe2=>⟨⟨hw,va.seq⟩,aU (λe3=>?_) (λe3=>⟨by omega,?_⟩)⟩))
 ·rw[if_pos (.inl (by simpa using e1))]at h2;exact h2
 ·rw[if_pos (.inr (by simpa using e2))]at h2;exact h2
 ·rw[if_neg (by simp at e1 e2;simp[e1,e2]),if_pos ((zv _ _).1 (by simpa using e3))]at h2;exact h2
 ·rw[if_neg (by simp at e1 e2;simp[e1,e2]),if_neg (λh=>by rw[(zv _ _).2 h]at e3;simp at e3)]at h2;exact h2
theorem tR {k:LK} {s:Sd.bm} {b l:Int} {n c:Nat} {f:Nat->Int} {X:V->Option (Sd.cN×Sd.Timer)->Prop} (hw:s.on=true->0<=s.seen.high/\s.seen.high<=4294967295) (hb:0<=b/\b<=1000) (hn:n<=58) (hc:n<=c) (hl:1<=l/\l<=3) (hf:By f)
 (h:X (dL s b l n f).1 (dL s b l n f).2):xH k s b l n c f X:=by
 unfold dL at h;unfold xH;refine aU (λe=>?_) (λe=>⟨⟨rfl,rfl,hn,hc,by omega,by omega⟩,λh14=>?_,λh8 ho=>?_⟩)
 ·rw[if_pos (by simpa using e)]at h;exact h
 ·rw[if_neg (by simpa using e),if_pos h14]at h;exact h
 ·rw[if_neg (by simpa using e),if_neg (by rw[ho];simp;omega)]at h;have main:∀g:Nat->Int,aT (n-8) g=aT (n-8) f->xG s.seen b (uT (n-8) g) (xB (n-8) g) X:=by
   intro g hg;refine NK (hw (by simpa using e)) hb (λh0=>?_) (λm hm=>?_)
   ·rw[hg]at h0;rw[h0]at h;exact h
   ·rw[hg]at hm;rw[hm]at h;simp only at h;split
    ·rename_i h1;rw[if_pos h1]at h;exact h
    ·rename_i h1;rw[if_neg h1]at h;split
     ·rename_i h2;rw[if_pos h2]at h;exact h
     ·rename_i h2;rw[if_neg h2]at h;exact h
  refine⟨λh8' x c'=>⟨trivial,?_⟩,λh8' c' t' Tt=>⟨⟨Nat.le_refl _,Tt,hf⟩,main f rfl⟩⟩;have h0:n-8=0:=by omega
  have:=main (λ_=>0) (by rw[h0];rfl);rw[h0]at this;exact this
theorem S9 (t:Sd.Tab) (p:Sd.Pol) (l:Int) (n:Nat) (f:Nat->Int) (hl:1<=l/\l<=3):
 (∃e,Sd.Tab.take (ah aT) p t l n f=(t,.error e)/\dL (t.ay (l.toNat-1)) p.bh l n f=(gA e,none))\/
 (∃m w,Sd.Tab.take (ah aT) p t l n f=(t.dT (l.toNat-1) {(t.ay (l.toNat-1))with seen:=w,on:=true,aH:=.start p.bh},.ok m)/\dL (t.ay (l.toNat-1)) p.bh l n f=(.az [.agg (cw m),.int .i64 0],some (w,Sd.Timer.start p.bh))):=by
 have tD:t.cZ l=(t.ay (l.toNat-1)).on:=by
  unfold Sd.Tab.cZ;simp[hl.1,hl.2]
 unfold Sd.Tab.take dL;rw[tD];by_cases h1:(t.ay (l.toNat-1)).on=false
 ·rw[if_pos h1,if_pos h1];exact .inl ⟨16,rfl,rfl⟩
 ·rw[if_neg h1,if_neg h1];by_cases h2:n<8\/eV (t.ay (l.toNat-1)).key l (n-8) f=false
  ·rw[if_pos h2];have:n<8\/(ah aT).opens (t.ay (l.toNat-1)).key l n f=false:=h2;rw[if_pos this];exact .inl ⟨14,rfl,rfl⟩
  ·rw[if_neg h2];have:¬(n<8\/(ah aT).opens (t.ay (l.toNat-1)).key l n f=false):=h2;rw[if_neg this];rw[show(ah aT).take (n-8) f=aT (n-8) f from rfl];cases htk:aT (n-8) f with
   |none=>exact .inl ⟨13,rfl,rfl⟩
   |some m=>
    simp only;by_cases h3:m.kind=1\/m.kind=2
    ·rw[if_pos h3,if_pos h3];exact .inl ⟨13,rfl,rfl⟩
    ·rw[if_neg h3,if_neg h3];by_cases h4:dD (t.ay (l.toNat-1)).seen m.seq=(t.ay (l.toNat-1)).seen
     ·rw[if_pos h4];have:(ah aT).kS (t.ay (l.toNat-1)).seen m.seq=(t.ay (l.toNat-1)).seen:=h4;rw[if_pos this];exact .inl ⟨15,rfl,rfl⟩
     ·rw[if_neg h4];have:¬(ah aT).kS (t.ay (l.toNat-1)).seen m.seq=(t.ay (l.toNat-1)).seen:=h4;rw[if_neg this];exact .inr ⟨m,dD (t.ay (l.toNat-1)).seen m.seq,rfl,rfl⟩
theorem Kl {d:FD} (F:bN fr d) (h0:0<d.k.pn):∃(bp:Nat) (t:List Value) (X:List av),d.k.px=some ⟨bp,0,none⟩/\d.k.pn<=d.k.pc/\F.B=X++[⟨bp,true,.cells (ab [] (eM d.k.pn d.k.pf t).c).toArray 5 (0,0)⟩]:=by
 obtain⟨b0,b1,b2,b3,b4,hB,k0,k1,k2,k3,k4⟩:=F.hk;obtain⟨hle,h|⟨bp,hx,hb⟩⟩:=k4
 ·have:=h.2.1;omega
 ·have e:(ab [] (eM d.k.pn d.k.pf (List.replicate (d.k.pc-d.k.pn) (.int .u8 0))).c).toArray=dc d.k.pn d.k.pf d.k.pc:=by
   simp[eM,ab,cl,dc,eE]
  refine⟨bp,List.replicate (d.k.pc-d.k.pn) (.int .u8 0),F.Br++(F.Bs++(F.Bf++(F.Bq++(b0++(b1++(b2++b3)))))),hx,hle,?_⟩;rw[e,uS,hB,hb];simp[List.append_assoc]
def HL (C:Sd.Crypt):gm (Gh fr):=λargs bl ch K=>match args,ch with
 |[.ptr it 0,.int .i64 l,.raw vp],g::rest=>(match bl[it]?with
  |some ⟨true,⟨157,(0,0)⟩,tc⟩=>(match uR tc with
   |some y=>cond (!(Nat.beq it 0)) ((vp=ei g.d.k/\bl[0]?=some (aG g.d.k)/\g.d.k.pn<=58/\By g.d.k.pf/\(1<=l/\l<=3)/\(0<=y.b/\y.b<=1000)/\(∀i,i<3->((aN y).ay i).on=true->0<=((aN y).ay i).seen.high/\((aN y).ay i).seen.high<=4294967295))/\
    (∀e,Sd.Tab.take C (pY y.b y.m) (aN y) l g.d.k.pn g.d.k.pf=(aN y,.error e)->K (gA e) bl ch)/\
    (∀t' m,Sd.Tab.take C (pY y.b y.m) (aN y) l g.d.k.pn g.d.k.pf=(t',.ok m)->K (.az [.agg (cw m),.int .i64 0]) (bl.set it ⟨true,⟨157,(0,0)⟩,cd (Fz t' y.b y.m)⟩) ch)) False
   |none=>False)
  |_=>False)
 |_,_=>False
theorem S_ {bl:List VB} {i:Nat} {b:VB} (h:bl[i]?=some b):bl.set i b=bl:=by
 apply List.ext_getElem?;intro j;rw[List.getElem?_set];split
 ·rename_i e;subst e;have:=bO h;rw[if_pos this];exact h.symm
 ·rfl
theorem EB:Sound prog gS 100 (HL (fr:=fr) (ah aT)):=by
 intro args ids bl ch R ms w0 w K hg hl S hc;unfold HL at hc;split at hc
 ·rename_i it l vp g rest;split at hc
  ·rename_i tc hb;split at hc
   ·rename_i y hy;cases hq:!(Nat.beq it 0)with
    |false=>rw[hq]at hc;exact hc.elim
    |true=>
     rw[hq]at hc;simp only[cond_true]at hc;obtain⟨⟨rfl,hr,hn,hf,hlo,hbt,hwn⟩,hE,hO⟩:=hc;obtain rfl:=jz hy;have RI:it≠0:=by rintro rfl;simp at hq
     have hi:=bO hb;have hi0:=bO hr;have ajc:ids.getD 0 0=1:=(hg 1 0 rfl).2;obtain⟨r,hrr,dP⟩:=ux hl (is:=[0,it]) (by simp[Ne.symm RI]) (by simp[hi,hi0]);have abM:(pY y.b y.m).bh=y.b:=rfl;have p1:=dP bl rfl;simp only[List.map_cons,List.map_nil,List.cons_append,List.nil_append]at p1;rw[cG hb,cG hr,ajc]at p1;have Zc:(aN y).ay (l.toNat-1)=ma y l:=by
      have:l=1\/l=2\/l=3:=by omega
      rcases this with rfl|rfl|rfl<;>rfl
     have Tb:=S9 (aN y) (pY y.b y.m) l g.d.k.pn g.d.k.pf hlo;rw[Zc,abM]at Tb;have hw:(ma y l).on=true->0<=(ma y l).seen.high/\(ma y l).seen.high<=4294967295:=by rw[<-Zc];exact hwn _ (by omega)
     have e0:af (g::rest) R=g.F.B++af rest R:=rfl;rw[e0]at S;have er:∀is:List Nat,aE is 1 (aG g.d.k)=aE [] 1 (aG g.d.k):=λis=>by
      have:=bU (ids:=[]) (more:=is) (aG g.d.k).c rfl;simp only[List.nil_append]at this;simp only[aE,this]
     have et:∀(is:List Nat) (i:Nat) (y:TC),aE is i ⟨true,⟨157,(0,0)⟩,cd y⟩=aE [] i ⟨true,⟨157,(0,0)⟩,cd y⟩:=λis i y=>by
      have:=bU (ids:=[]) (more:=is) (cd y) rfl;simp only[List.nil_append]at this;simp only[aE,this]
     have ep:∀(is:List Nat) (i n:Nat) (f:Nat->Int) (t:List Value),aE is i (eM n f t)=aE [] i (eM n f t):=λis i n f t=>by
      have:=bU (ids:=[]) (more:=is) (eM n f t).c rfl;simp only[List.nil_append]at this;simp only[aE,this]
     have back:∀(y':TC) (w':World) (Z:List av),St ms w0 (aE [] 1 (aG g.d.k)::aE [] (ids.getD it 0) ⟨true,⟨157,(0,0)⟩,cd y'⟩::((r.map λj=>aE ids (ids.getD j 0) (bl.getD j gK))++Z)) w'->St ms w0 (lits ids ids (bl.set it ⟨true,⟨157,(0,0)⟩,cd y'⟩)++Z) w':=by
      intro y' w' Z hS;have p2:=dP (bl.set it ⟨true,⟨157,(0,0)⟩,cd y'⟩) (by simp);simp only[List.map_cons,List.map_nil,List.cons_append,List.nil_append]at p2;have e3:(r.map λj=>aE ids (ids.getD j 0) ((bl.set it ⟨true,⟨157,(0,0)⟩,cd y'⟩).getD j gK))=r.map λj=>aE ids (ids.getD j 0) (bl.getD j gK):=by
       apply List.map_congr_left;intro j hj;have:=hrr j hj;simp only[List.getD];rw[eG (λh=>this (by simp[h]))]
      rw[e3,cG (nx hi),cG (i:=0) (b:=aG g.d.k) (by rw[List.getElem?_set_ne RI];exact hr),ajc,er,et]at p2;exact hS.perm (p2.symm.append_right Z)
     have done:∀{w':World} (y':TC) (v:V) (o:Option (Sd.cN×Sd.Timer)),fK 0 v=true->dL (ma y l) y.b l g.d.k.pn g.d.k.pf=(v,o)->y'=(if l=1 then{y with s0:=OP y.s0 o}else if l=2 then{y with sa:=OP y.sa o}else{y with sb:=OP y.sb o})->
      St ms w0 (lits ids ids (bl.set it ⟨true,⟨157,(0,0)⟩,cd y'⟩)++(g.F.B++af rest R)) w'->∃x more bl' ch',den [] v=den (ids++more) x/\(ids++more).length=bl'.length/\St ms w0 (lits (ids++more) (ids++more) bl'++af ch' R) w'/\K x bl' ch':=by
      intro w' y' v o hv ht hy' hS;have ev:∀is,den is v=den [] v:=λis=>by have:=bC (ids:=[]) (more:=is) v hv;simpa using this
      rcases Tb with⟨e,h1,h2⟩|⟨m,w2,h1,h2⟩
      ·rw[h2]at ht;obtain⟨rfl,rfl⟩:=Prod.mk.inj ht;have hyy:y'=y:=by
        rw[hy'];split
        ·rfl
        ·split<;>rfl
       rw[hyy]at hS;have CT:bl.set it ⟨true,⟨157,(0,0)⟩,cd y⟩=bl:=S_ hb;rw[CT]at hS;exact⟨gA e,[],bl,g::rest,(ev _).symm,by simpa using hl,by rw[List.append_nil,e0];exact hS,hE e h1⟩
      ·rw[h2]at ht;obtain⟨rfl,rfl⟩:=Prod.mk.inj ht;refine⟨.az [.agg (cw m),.int .i64 0],[],_,g::rest,(ev _).symm,by simpa using hl,?_,hO _ m h1⟩;rw[List.append_nil,e0];have hyy:Fz ((aN y).dT (l.toNat-1) {ma y l with seen:=w2,on:=true,aH:=.start y.b}) y.b y.m=y':=by
        rw[hy'];have:l=1\/l=2\/l=3:=by omega
        rcases this with rfl|rfl|rfl<;>rfl
       rw[hyy];exact hS
     have hX:∀(y':TC) (o:Option (Sd.cN×Sd.Timer)) (v:V),dL (ma y l) y.b l g.d.k.pn g.d.k.pf=(v,o)->fK 0 v=true:=by
      intro y' o v hv;rcases Tb with⟨e,h1,h2⟩|⟨m,w2,h1,h2⟩<;>(rw[h2]at hv;obtain⟨rfl,rfl⟩:=Prod.mk.inj hv;rfl)
     rcases Nat.eq_zero_or_pos g.d.k.pn with hz|Gs
     ·
      have hg2:Gl gR [1,ids.getD it 0]:=by
       intro gg i iX;unfold gR at iX;split at iX
       ·obtain rfl:=Option.some.inj iX;exact⟨by simp,rfl⟩
       ·cases iX
      have S1:=S.perm (p1.append_right _);simp only[List.cons_append]at S1;rw[er,et]at S1;have S2:St ms w0 (lits [1,ids.getD it 0] [1,ids.getD it 0] [aG g.d.k,⟨true,⟨157,(0,0)⟩,cd y⟩]++af ([]:List Empty) ((r.map λj=>aE ids (ids.getD j 0) (bl.getD j gK))++(g.F.B++af rest R))) w:=by
       simp only[lits,af,er,et,List.cons_append,List.nil_append];exact S1
      let X:V->List VB->Prop:=λv b=>v=(dL (ma y l) y.b l g.d.k.pn g.d.k.pf).1/\b=[aG g.d.k,⟨true,⟨157,(0,0)⟩,cd y⟩]
      have hT:dL (ma y l) y.b l g.d.k.pn g.d.k.pf=if(ma y l).on=false then(gA 16,none)else(gA 14,none):=by
       unfold dL;rw[hz];split
       ·rfl
       ·rw[if_pos (.inl (by decide))]
      have fU:cJ (dR prog gR (LO g.d.k)) 60 100 [.ptr 1 0,.int .i64 l,.raw (.slice g.d.k.px 0 g.d.k.pc)] [aG g.d.k,⟨true,⟨157,(0,0)⟩,cd y⟩] [] (λv bl _=>X v (bl.take 2)):=by
       have Tc:cond (!(ma y l).on) (X (gA 16) [aG g.d.k,⟨true,⟨157,(0,0)⟩,cd y⟩]) (X (gA 14) [aG g.d.k,⟨true,⟨157,(0,0)⟩,cd y⟩]):=by
        refine aU (λe=>⟨?_,rfl⟩) (λe=>⟨?_,rfl⟩)
        ·rw[hT,if_pos (by simpa using e)]
        ·rw[hT,if_neg (by simpa using e)]
       have:l=1\/l=2\/l=3:=by omega
       rcases this with rfl|rfl|rfl
       ·rw[amg];exact Tc
       ·rw[amh];exact Tc
       ·rw[ami];exact Tc
      have ea:(ao ids [.ptr it 0,.int .i64 l,.raw (ei g.d.k)]).toArray=(ao [1,ids.getD it 0] [.ptr 1 0,.int .i64 l,.raw (.slice g.d.k.px 0 g.d.k.pc)]).toArray:=by
       have:ei g.d.k=.slice g.d.k.px 0 g.d.k.pc:=by unfold ei;rw[hz]
       rw[this];rfl
      rw[ea];refine(bw (Kk g.d.k).T (Kk g.d.k).Q 60 (C:=dR prog gR (LO g.d.k)) hg2 rfl S2 fU).mono ?_;rintro v w' ⟨x,more,bl',ch',rfl,h1,S3,hv,va⟩;have Zd:fK 0 x=true:=by
       rw[hv];exact hX y _ _ rfl
      have gz:bl'=[aG g.d.k,⟨true,⟨157,(0,0)⟩,cd y⟩]++bl'.drop 2:=by rw[<-va,List.take_append_drop]
      rw[gz]at S3;have e2:lits ([1,ids.getD it 0]++more) ([1,ids.getD it 0]++more) ([aG g.d.k,⟨true,⟨157,(0,0)⟩,cd y⟩]++bl'.drop 2)=aE [] 1 (aG g.d.k)::aE [] (ids.getD it 0) ⟨true,⟨157,(0,0)⟩,cd y⟩::lits ([1,ids.getD it 0]++more) more (bl'.drop 2):=by
       simp only[List.cons_append,List.nil_append,lits,er,et]
      rw[e2]at S3;have e3:af ch' ((r.map λj=>aE ids (ids.getD j 0) (bl.getD j gK))++(g.F.B++af rest R))=(r.map λj=>aE ids (ids.getD j 0) (bl.getD j gK))++(g.F.B++af rest R):=by cases ch' with
       |nil=>rfl
       |cons c _=>cases c
      rw[e3]at S3;have S4:=S3.sub (bs':=aE [] 1 (aG g.d.k)::aE [] (ids.getD it 0) ⟨true,⟨157,(0,0)⟩,cd y⟩::((r.map λj=>aE ids (ids.getD j 0) (bl.getD j gK))++(g.F.B++af rest R))) (by
       simp only[List.cons_append];exact List.Sublist.cons_cons _ (List.Sublist.cons_cons _ (List.sublist_append_right _ _)))
      have ex:den ([1,ids.getD it 0]++more) x=den [] x:=by have:=bC (ids:=[]) (more:=[1,ids.getD it 0]++more) x Zd;simpa using this
      rw[ex];have ho:(dL (ma y l) y.b l g.d.k.pn g.d.k.pf).2=none:=by rw[hT];split<;>rfl
      refine done y x none Zd ?_ ?_ (back y w' _ S4)
      ·rw[hv,<-ho]
      ·split
       ·rfl
       ·split<;>rfl
     ·
      obtain⟨bp,t,XX,hx,hle,hBB⟩:=Kl g.F Gs;have hg2:Gl gR [1,ids.getD it 0,bp]:=by
       intro gg i iX;unfold gR at iX;split at iX
       ·obtain rfl:=Option.some.inj iX;exact⟨by simp,rfl⟩
       ·cases iX
      have amj:(⟨bp,true,.cells (ab [] (eM g.d.k.pn g.d.k.pf t).c).toArray 5 (0,0)⟩:av)=aE [] bp (eM g.d.k.pn g.d.k.pf t):=rfl;rw[amj]at hBB;have S1:=S.perm (p1.append_right _);rw[hBB]at S1;simp only[List.cons_append]at S1;rw[er,et]at S1;have pm:∀(a b c:av) (A B Z:List av),(a::b::(A++((B++[c])++Z))).Perm (a::b::c::(A++(B++Z))):=by
       intro a b c A B Z;refine List.Perm.cons a (List.Perm.cons b ?_);have:=List.perm_middle (a:=c) (l₁:=A++B) (l₂:=Z);simpa[List.append_assoc]using this
      have S2:St ms w0 (lits [1,ids.getD it 0,bp] [1,ids.getD it 0,bp] [aG g.d.k,⟨true,⟨157,(0,0)⟩,cd y⟩,eM g.d.k.pn g.d.k.pf t]++af ([]:List Empty) ((r.map λj=>aE ids (ids.getD j 0) (bl.getD j gK))++(XX++af rest R))) w:=by
       simp only[lits,af,er,et,ep,List.cons_append,List.nil_append];exact S1.perm (pm _ _ _ _ _ _)
      let X:V->List VB->Prop:=λv b=>v=(dL (ma y l) y.b l g.d.k.pn g.d.k.pf).1/\b=[aG g.d.k,⟨true,⟨157,(0,0)⟩,cd (if l=1 then{y with s0:=OP y.s0 (dL (ma y l) y.b l g.d.k.pn g.d.k.pf).2}else if l=2 then{y with sa:=OP y.sa (dL (ma y l) y.b l g.d.k.pn g.d.k.pf).2}else{y with sb:=OP y.sb (dL (ma y l) y.b l g.d.k.pn g.d.k.pf).2})⟩,eM g.d.k.pn g.d.k.pf t]
      have fU:cJ (dR prog gR (LO g.d.k)) 60 100 [.ptr 1 0,.int .i64 l,.sl 2 0 g.d.k.pn g.d.k.pc] [aG g.d.k,⟨true,⟨157,(0,0)⟩,cd y⟩,eM g.d.k.pn g.d.k.pf t] [] (kT X):=by
       have:l=1\/l=2\/l=3:=by omega
       rcases this with rfl|rfl|rfl
       ·rw[amd];exact tR hw hbt hn hle (by decide) hf ⟨rfl,rfl⟩
       ·rw[ame];exact tR hw hbt hn hle (by decide) hf ⟨rfl,rfl⟩
       ·rw[amf];exact tR hw hbt hn hle (by decide) hf ⟨rfl,rfl⟩
      have ea:(ao ids [.ptr it 0,.int .i64 l,.raw (ei g.d.k)]).toArray=(ao [1,ids.getD it 0,bp] [.ptr 1 0,.int .i64 l,.sl 2 0 g.d.k.pn g.d.k.pc]).toArray:=by
       have:ei g.d.k=.slice (some ⟨bp,0,none⟩) g.d.k.pn g.d.k.pc:=by unfold ei;rw[hx]
       rw[this];rfl
      rw[ea];refine(bw (Kk g.d.k).T (Kk g.d.k).Q 60 (C:=dR prog gR (LO g.d.k)) hg2 rfl S2 fU).mono ?_;rintro v w' ⟨x,more,bl',ch',rfl,h1,S3,hv,va⟩;generalize hy':(if l=1 then{y with s0:=OP y.s0 (dL (ma y l) y.b l g.d.k.pn g.d.k.pf).2}else if l=2 then{y with sa:=OP y.sa (dL (ma y l) y.b l g.d.k.pn g.d.k.pf).2}else{y with sb:=OP y.sb (dL (ma y l) y.b l g.d.k.pn g.d.k.pf).2}:TC)=y' at va;have Zd:fK 0 x=true:=by
       rw[hv];exact hX y _ _ rfl
      have gz:bl'=[aG g.d.k,⟨true,⟨157,(0,0)⟩,cd y'⟩,eM g.d.k.pn g.d.k.pf t]++bl'.drop 3:=by rw[<-va,List.take_append_drop]
      rw[gz]at S3;have e2:lits ([1,ids.getD it 0,bp]++more) ([1,ids.getD it 0,bp]++more) ([aG g.d.k,⟨true,⟨157,(0,0)⟩,cd y'⟩,eM g.d.k.pn g.d.k.pf t]++bl'.drop 3)=aE [] 1 (aG g.d.k)::aE [] (ids.getD it 0) ⟨true,⟨157,(0,0)⟩,cd y'⟩::aE [] bp (eM g.d.k.pn g.d.k.pf t)::lits ([1,ids.getD it 0,bp]++more) more (bl'.drop 3):=by
       simp only[List.cons_append,List.nil_append,lits,er,et,ep]
      rw[e2]at S3;have e3:∀Z,af ch' Z=Z:=by
       intro Z;cases ch' with
       |nil=>rfl
       |cons c _=>cases c
      rw[e3]at S3;have S4:=S3.sub (bs':=aE [] 1 (aG g.d.k)::aE [] (ids.getD it 0) ⟨true,⟨157,(0,0)⟩,cd y'⟩::aE [] bp (eM g.d.k.pn g.d.k.pf t)::((r.map λj=>aE ids (ids.getD j 0) (bl.getD j gK))++(XX++af rest R))) (by
       simp only[List.cons_append];exact List.Sublist.cons_cons _ (List.Sublist.cons_cons _ (List.Sublist.cons_cons _ (List.sublist_append_right _ _))))
      have S5:=S4.perm (pm _ _ _ _ _ _).symm;rw[<-hBB]at S5;have ex:den ([1,ids.getD it 0,bp]++more) x=den [] x:=by have:=bC (ids:=[]) (more:=[1,ids.getD it 0,bp]++more) x Zd;simpa using this
      rw[ex];exact done y' x _ Zd (by rw[hv]) hy'.symm (back y' w' _ S5)
   ·exact hc.elim
  ·exact hc.elim
 ·exact hc.elim
end Go.Proofs.YtggfpcggakghnaaGreatDoor
