/- Part 22 of the proof. -/
import Derived.Test.YtggfpcggakghnaaGreatDoorQ21
set_option linter.all false
set_option maxRecDepth 100000
set_option maxHeartbeats 4000000
open Go.Proofs.Tryz
open Go.IntKind (u8 u16 u32 u64 i64)
namespace Go.Proofs.YtggfpcggakghnaaGreatDoor
open Go Go.RowKit Go.BigFrame Sx Vx
variable{fr:Sd.Reply->Nat×Sd.Byt}
def NV (k:LK) (x:Option Addr) (n c:Nat) (f:Sd.Byt):LK:={k with px:=x,pn:=n,pc:=c,pf:=f}
def j4 (k:LK):Prop:=k.px=none/\k.pn=0/\k.pc=0
theorem ajn {k:LK} {s:Sd.Scene} (F:bN fr (bA k s)) (h:j4 k) {b n c:Nat} {f:Sd.Byt} (hle:n<=c):∃F1:bN fr (bA (NV k (some ⟨b,0,none⟩) n c f) s),F1.vs=F.vs/\F1.vr=F.vr/\F1.B=F.B++[⟨b,true,.cells (dc n f c) 5 (0,0)⟩]:=by
 refine⟨⟨F.xs,F.cs,F.xr,F.cr,F.Bq,F.Br,F.Bs,F.Bf,F.Bk++[⟨b,true,.cells (dc n f c) 5 (0,0)⟩],F.so,F.hq,F.hr,F.hs,F.hf,?_⟩,rfl,rfl,?_⟩
 ·obtain⟨b0,b1,b2,b3,b4,hB,h0,h1,h2,h3,h4⟩:=F.hk;have e4:b4=[]:=by
   rcases h4.2 with⟨_,_,_,e⟩|⟨y,e,_⟩
   ·exact e
   ·have:k.px=some ⟨y,0,none⟩:=e;rw[h.1]at this;cases this
  subst e4;exact⟨b0,b1,b2,b3,[⟨b,true,.cells (dc n f c) 5 (0,0)⟩],by rw[hB];simp,h0,h1,h2,h3,hle,.inr ⟨b,rfl,rfl⟩⟩
 ·simp only[bN.B,List.append_assoc]
theorem afd {k:LK} {s:Sd.Scene} (h:j4 k) {b n c:Nat} {f:Sd.Byt} (F1:bN fr (bA (NV k (some ⟨b,0,none⟩) n c f) s)):∃F:bN fr (bA k s),F.vs=F1.vs/\F.vr=F1.vr/\F1.B=F.B++[⟨b,true,.cells (dc n f c) 5 (0,0)⟩]:=by
 obtain⟨b0,b1,b2,b3,b4,hB,h0,h1,h2,h3,h4⟩:=F1.hk;have e4:b4=[⟨b,true,.cells (dc n f c) 5 (0,0)⟩]:=by
  rcases h4.2 with⟨e,_,_,_⟩|⟨y,e,e2⟩
  ·cases e
  ·have:(some ⟨b,0,none⟩:Option Addr)=some ⟨y,0,none⟩:=e;obtain rfl:b=y:=by simpa using this
   exact e2
 subst e4;refine⟨⟨F1.xs,F1.cs,F1.xr,F1.cr,F1.Bq,F1.Br,F1.Bs,F1.Bf,b0++(b1++(b2++(b3++[]))),F1.so,F1.hq,F1.hr,F1.hs,F1.hf,⟨b0,b1,b2,b3,[],rfl,h0,h1,h2,h3,by show k.pn<=k.pc;rw[h.2.1,h.2.2];exact Nat.le_refl _,.inl ⟨h.1,h.2.1,h.2.2,rfl⟩⟩⟩,rfl,rfl,?_⟩;simp only[bN.B,hB,List.append_assoc,List.append_nil]
def coI (C:Sd.Crypt):gm (LG fr):=λargs bl ch K=>match args,ch with
 |[.ptr ic 0,.int .i64 l,.agg [.int .i64 code,.sl ip 0 n c]],.cn u::.core g fB::rest=>(match bl[ip]?with
  |some ⟨true,⟨5,(0,0)⟩,[.dC .u8 n' f,.dC .u8 d z]⟩=>(match bl[ic]?with
   |some ⟨true,⟨105,(0,0)⟩,cc⟩=>(match w6 cc with
    |some x=>(match bl[x.it]?with
     |some ⟨true,⟨157,(0,0)⟩,tc⟩=>(match uR tc with
      |some y=>cond (dk bl.length bl&&(Nat.blt 1 ip&&(Nat.blt 1 ic&&(Nat.blt 1 x.it&&(!(Nat.beq ic x.it)&&(!(Nat.beq ic ip)&&!(Nat.beq x.it ip)))))))
       ((bl[0]?=some (aG g.d.k)/\bl[1]?=some (iA g.d.k)/\x=Cz g.d.k x.it (lP x y g.d g.dx g.sx)/\y.b=x.p.bh/\y.m=x.p.aR/\x.p.queue=g.d.k.most)/\
         (n'=n/\n+d=c/\z=iY)/\j4 g.d.k/\(bd g.d.k (lP x y g.d g.dx g.sx)/\cC=g.F.vs/\cC=g.F.vr/\n<=58/\By f)/\
         xQ g.d.k (cQ C (lP x y g.d g.dx g.sx) l code n f) λvv s' F' fn ex=>K (qf bl.length vv) (eA bl ic x.it g.d.k s'++ex) (.cn u::.core (cB g.d.k s' F') (fn++fB)::rest)) False
      |none=>False)
     |_=>False)
    |none=>False)
   |_=>False)
  |_=>False)
 |_,_=>False
theorem zP (ht:Body (fr:=fr) 147 bV):Sound prog gS 24 (coI (fr:=fr) (ah aT)):=by
 intro args ids bl ch R ms w0 w K hg hl S hc;unfold coI at hc;split at hc
 ·rename_i ic l code ip n c u g fB rest;split at hc
  ·rename_i n' f d z ZT;split at hc
   ·rename_i cc OG;split at hc
    ·rename_i x hx;split at hc
     ·rename_i tc VW;split at hc
      ·rename_i y hy;cases hq:dk bl.length bl&&(Nat.blt 1 ip&&(Nat.blt 1 ic&&(Nat.blt 1 x.it&&(!(Nat.beq ic x.it)&&(!(Nat.beq ic ip)&&!(Nat.beq x.it ip))))))with
       |false=>rw[hq]at hc;exact hc.elim
       |true=>
        rw[hq]at hc;simp only[Bool.and_eq_true,Bool.not_eq_true',Nat.blt_eq]at hq;obtain⟨qw,q1,q2,q3,q4,q5,q6⟩:=hq;have nb:∀{a b:Nat},Nat.beq a b=false->a≠b:=λh e=>by rw[e,Nat.beq_refl]at h;cases h
        have n4:=nb q4;have n5:=nb q5;have n6:=nb q6;obtain⟨⟨e3,e4,e5,e6,e7,e8⟩,⟨rfl,rfl,rfl⟩,Zo,⟨hC,v1,v2,p1,p2⟩,hT⟩:=hc;obtain rfl:=nv hx;obtain rfl:=jz hy;have H:H9 bl ic x.it g.d.k (lP x y g.d g.dx g.sx):=by
         refine⟨e3,e4,?_,?_⟩
         ·rw[OG];congr 1;unfold ew;rw[<-e5]
         ·rw[VW];congr 1;unfold gP;have:y=VV (lP x y g.d g.dx g.sx):=by
           obtain⟨y1,y2,y3,y4,y5,y6,y7,y8⟩:=y;simp only at e6 e7;subst e6 e7;rfl
          rw[<-this]
        have l1:=bO ZT;have l2:=bO H.hc;have l3:=bO H.ht;obtain⟨r,hr,hp⟩:=ux (bl:=bl) (ids:=ids) hl (is:=[0,1,ic,x.it,ip]) (by simp;omega) (by
         intro i hi;simp only[List.mem_cons,List.not_mem_nil,or_false]at hi;rcases hi with rfl|rfl|rfl|rfl|rfl<;>omega)
        have emp:∀(bl':List VB),[0,1,ic,x.it,ip].map (λj=>aE ids (ids.getD j 0) (bl'.getD j gK))=([0,1,ic,x.it].map λj=>aE ids (ids.getD j 0) (bl'.getD j gK))++[aE ids (ids.getD ip 0) (bl'.getD ip gK)]:=λ_=>rfl;have TX:aE ids (ids.getD ip 0) (dF n' d f)=⟨ids.getD ip 0,true,.cells (dc n' f (n'+d)) 5 (0,0)⟩:=by
         unfold aE;rw[jC];rfl
        have dP:=hp bl rfl;rw[emp,lv H hg,cG (show bl[ip]?=some (dF n' d f)from ZT)]at dP;obtain⟨F1,f1,f2,f3⟩:=ajn (k:=g.d.k) (s:=lP x y g.d g.dx g.sx) g.F Zo (b:=ids.getD ip 0) (f:=f) (Nat.le_add_right n' d);have S1:=S.perm (bs':=lits (ck (ids.getD ic 0) (ids.getD x.it 0)) (ck (ids.getD ic 0) (ids.getD x.it 0)) (fV g.d.k (lP x y g.d g.dx g.sx))++(F1.B++(du u++((r.map λj=>aE ids (ids.getD j 0) (bl.getD j gK))++(fB++af rest R))))) (by
         refine(dP.append_right _).trans ?_;rw[show F1.B=bN.B (d:=g.d) g.F++[⟨ids.getD ip 0,true,.cells (dc n' f (n'+d)) 5 (0,0)⟩]from f3,<-TX];show(_++(du u++((g.F.B++fB)++af rest R))).Perm _;exact cj λf=>by simp only[List.countP_append];omega)
        have hC':bd (NV g.d.k (some ⟨ids.getD ip 0,0,none⟩) n' (n'+d) f) (lP x y g.d g.dx g.sx):=⟨hC.i,hC.x,hC.key,hC.ke,hC.e1,hC.e2⟩;have D_:=Ie ht u [.int .i64 l,.agg [.int .i64 code,.raw (ei (NV g.d.k (some ⟨ids.getD ip 0,0,none⟩) n' (n'+d) f))]] (NV g.d.k (some ⟨ids.getD ip 0,0,none⟩) n' (n'+d) f) (lP x y g.d g.dx g.sx) F1
         (λvv s' F1' fn ex=>cC=F1'.vs/\cC=F1'.vr/\∀F':bN fr (bA g.d.k s'),cC=F'.vs->cC=F'.vr->K (qf bl.length vv) (eA bl ic x.it g.d.k s'++ex) (.cn u::.core (cB g.d.k s' F') (fn++fB)::rest))
         _ _ _ ms w0 w rfl e8 ⟨⟨hC',by rw[f1];exact v1,by rw[f2];exact v2,rfl,p1,p2⟩,λs2 e2 tr fn F0 w1 w2 hf=>⟨w1,w2,λF' z1 z2=>hT s2 e2 tr fn F' z1 z2 hf⟩⟩ S1
        have a9:ao ids [.ptr ic 0,.int .i64 l,.agg [.int .i64 code,.sl ip 0 n' (n'+d)]]=ao (ck (ids.getD ic 0) (ids.getD x.it 0)) (.ptr 2 0::[.int .i64 l,.agg [.int .i64 code,.raw (ei (NV g.d.k (some ⟨ids.getD ip 0,0,none⟩) n' (n'+d) f))]]):=rfl;rw[a9];refine D_.mono ?_;rintro v w' ⟨vv,s',F1',fn,ex,xs,ow,hvv,Zd,⟨w1,w2,hK⟩,S2⟩;obtain⟨F',g1,g2,g3⟩:=afd Zo F1';refine⟨qf bl.length vv,xs,eA bl ic x.it g.d.k s'++ex,.cn u::.core (cB g.d.k s' F') (fn++fB)::rest,?_,?_,?_,hK F' (by rw[g1];exact w1) (by rw[g2];exact w2)⟩
        ·rw[<-hl,tS];exact hvv.symm
        ·simp[eA,hl,ow]
        ·have H':=xO H q2 q3 n4 s';have gy:=hp (eA bl ic x.it g.d.k s') (by simp[eA]);have SS:(eA bl ic x.it g.d.k s').getD ip gK=dF n' d f:=by
          have:(eA bl ic x.it g.d.k s')[ip]?=some (dF n' d f):=by
           unfold eA;rw[eG n6,eG n5];exact ZT
          exact cG this
         rw[emp,lv H' hg,SS]at gy;have w8:(r.map λj=>aE ids (ids.getD j 0) ((eA bl ic x.it g.d.k s').getD j gK))=r.map λj=>aE ids (ids.getD j 0) (bl.getD j gK):=by
          unfold eA;refine pU ?_;intro j hj;have:=hr j hj;simp only[List.mem_cons,List.not_mem_nil,or_false,not_or]at this;omega
         rw[w8]at gy;have gx:ids.length=(eA bl ic x.it g.d.k s').length:=by simp[eA,hl]
         have hw2:dk ids.length (eA bl ic x.it g.d.k s')=true:=by
          unfold eA;rw[<-hl]at qw l3;refine r_ ?_ _ _ (r_ ?_ _ _ qw)
          ·exact gY (Nat.zero_le _) _ (iW s')
          ·simp only[ew,zB,Cz,cH,fK,Bool.and_eq_true,Nat.blt_eq,Bool.true_and,Bool.and_true];exact l3
         rw[aI _ _ _ _ gx,aJ _ _ hw2,fc (ids':=xs) xs ex Zd];rw[g3,<-TX]at S2;have S3:St ms w0 (lits (ck (ids.getD ic 0) (ids.getD x.it 0)) (ck (ids.getD ic 0) (ids.getD x.it 0)) (fV g.d.k s')++(lits xs xs ex++((F'.B++[aE ids (ids.getD ip 0) (dF n' d f)])++(fn++(du u++((r.map λj=>aE ids (ids.getD j 0) (bl.getD j gK))++(fB++af rest R))))))) w':=S2;refine S3.perm ?_;show List.Perm _ ((lits ids ids (eA bl ic x.it g.d.k s')++lits xs xs ex)++(du u++((F'.B++(fn++fB))++af rest R)));refine List.Perm.trans ?_ ((gy.symm.append_right _).append_right _);exact cj λf=>by simp only[List.countP_append];omega
      ·exact hc.elim
     ·exact hc.elim
    ·exact hc.elim
   ·exact hc.elim
  ·exact hc.elim
 ·exact hc.elim
end Go.Proofs.YtggfpcggakghnaaGreatDoor
namespace Go.Proofs.YtggfpcggakghnaaGreatDoor
open Go Go.RowKit Go.BigFrame Sx Vx
variable{fr:Sd.Reply->Nat×Sd.Byt}
structure Zp where
 kind:Int
 link:Int
 code:Int
 x:Option Addr
 n:Nat
 c:Nat
 s:Sd.dS
 bad:Bool
def abQ (C:Sd.Crypt) (u:World) (s:Sd.Scene) (o:Zp):Sd.Scene:=
 if o.kind.tmod 4=1 then s.dU C o.s else if o.kind.tmod 4=2 then s.jg C o.bad else if o.kind.tmod 4=3 then s.tick C else cQ C s o.link o.code (sS 40 o.n) (ft u o.x)
def ZU (k:LK) (s:Sd.Scene):Prop:=some (aG k)=some (aG k)/\some (iA k)=some (iA k)/\Cz k 3 s=Cz k 3 (dv s)/\s.c.p.bh=s.c.p.bh/\s.c.p.aR=s.c.p.aR/\s.c.p.queue=k.most
section
variable(C:Sd.Crypt) (k:LK) (s:Sd.Scene) (F:bN fr (bA k s)) (u:World) (fB:List av) (o:Zp) (X:VK (LG fr))
end
theorem bd.step {k:LK} {s:Sd.Scene} (h:bd k s) (u:World) (o:Zp) (hx:Sd.Ku o.s.x):bd k (fS (abQ (ah aT) u s o)):=by
 unfold abQ;split
 ·exact h.dU hx
 split
 ·exact h.jg _
 split
 ·exact h.tick
 ·exact h.item _ _ _ _
end Go.Proofs.YtggfpcggakghnaaGreatDoor
namespace Go.Proofs.YtggfpcggakghnaaGreatDoor
open Go Go.RowKit Go.BigFrame Sx Vx
section
variable{G:Type} [Bl G]
end
section
variable(n c c':Nat) (y y':Option Addr) (q:Nat->Int) (a b:Bool) (ty ty':BT) (u u':List Value) (K:VK Empty)
end
variable{fr:Sd.Reply->Nat×Sd.Byt}
def TY (P:Program):(Operand->V)->Op->List VB->List (LG fr)->VK (LG fr)->Prop:=λe op bl ch K=>match op with
 |.call c=>(match c.callee,c.args.toList,c.argTypes.toList with
  |.builtin .append,[s,xs],[t,tx]=>(match P.underlying t,P.underlying tx with
   |some (.slice 5),some (.slice _)=>(match e s,e xs,ch with
    |.sl i 0 0 0,.raw (.slice a m c),.cn u::rest=>cond (dk bl.length bl) ((gF u a m c (ft u a)/\m<=1000000)/\(m=0->K (.sl i 0 0 0) bl (.cn u::rest))/\(0<m->∀d:Nat,K (.sl bl.length 0 m (m+d)) (bl++[dF m d (ft u a)]) (.cn u::rest))) False
    |_,_,_=>False)
   |_,_=>False)
  |_,_,_=>False)
 |_=>False
theorem Ce {gl:Nat->Option Nat}:oA (G:=LG fr) prog gl (TY prog):=by
 intro e op ids bl ch R ms w0 w K ρ o hg hl S cx ho h;unfold TY at h;split at h
 ·rename_i c;split at h
  ·rename_i s xs t tx eU a9 ju;split at h
   ·rename_i T ht o9;split at h
    ·rename_i i a m c' u rest qc ow;cases hq:dk bl.length bl with
     |false=>rw[hq]at h;exact h.elim
     |true=>
      rw[hq]at h;obtain⟨⟨hk,hm⟩,h0,h1⟩:=h;have Wz:∀y∈du u,y∈lits ids ids bl++af (.cn u::rest) R:=λy hy=>by
       refine List.mem_append_right _ ?_;show y∈du u++af rest R;exact List.mem_append_left _ hy
      have fZ:=FP (P:=prog) (⟨hm,TW S Wz hk⟩:cz w a m c' (ft u a)) o9;obtain⟨FZ,ar,td⟩:=c;simp only at eU a9 ju;have e2:ar=#[s,xs]:=by rw[<-a9]
      have e3:td=#[t,tx]:=by rw[<-ju]
      subst eU e2 e3;have sE:ρ s=.slice (some ⟨ids.getD i 0,0,none⟩) 0 0:=by rw[cx,qc];simp only[den]
      have OM:ρ xs=.slice a m c':=by rw[cx,ow];simp only[den]
      by_cases Ah:m=0
      ·subst Ah;refine⟨_,[],bl,_,w,.inl ?_,by simpa using hl,by simpa using S,h0 rfl⟩;rw[bP (P:=prog) (ρ:=ρ) (o:=o) ho sE OM (NU (g:=ft u a) fZ ht ⟨ids.getD i 0,0,none⟩)];simp only[den,List.append_nil]
      ·obtain⟨c2,w2,aY,eZ,hle,ER⟩:=xU (g:=ft u a) (x:=a) (ty:=o.type) (t:=t) fZ ht (by omega) (by omega) ⟨ids.getD i 0,0,none⟩;have h2:=h1 (by omega) (c2-m);rw[show m+(c2-m)=c2 by omega]at h2;refine⟨_,[w.heap.size],_,_,w2,.inl ?_,by simp[hl],?_,h2⟩
       ·rw[bP (P:=prog) (ρ:=ρ) (o:=o) ho sE OM aY];simp only[den];rw[<-hl,cy]
       ·have e:aE (ids++[w.heap.size]) w.heap.size (dF m (c2-m) (ft u a))=⟨w.heap.size,true,.cells (dc m (ft u a) c2) 5 (0,0)⟩:=by
         unfold aE;rw[jC,show m+(c2-m)=c2 by omega];rfl
        rw[aI _ _ _ _ hl,aJ _ _ (by rw[hl];exact hq)];simp only[lits,e];refine(S.new eZ (Nat.le_refl _) ER).perm ?_;rw[List.append_assoc];exact List.perm_middle.symm
    ·exact h.elim
   ·exact h.elim
  ·exact h.elim
 ·exact h.elim
theorem Md {G:Type} [Bl G] {C:Ctx G} {f n:Nat} {args:List V} {ch0:List G} {K:VK G} (hT:∀f c,C.T f=some c->Sound C.P C.gl f c) (hQ:iz C) (hgl:C.gl=gv) (fU:cJ C n f args [] ch0 K)
 {Y:List av} {ms:List Nat} {w0 w:World} (S:St ms w0 (af ch0 Y) w):
 aj C.P f (ao [] args).toArray w λv w'=>∃(x:V) (more:List Nat) (bl':List VB) (ch':List G),v=den more x/\more.length=bl'.length/\St ms w0 (lits more more bl'++af ch' Y) w'/\K x bl' ch':=
 bw hT hQ n (ids:=[]) (bl:=[]) (λg i h=>by rw[hgl]at h;cases h) rfl S fU
theorem KC {G:Type} [Bl G] {C:Ctx G} {f n:Nat} {ids:List Nat} {bl:List VB} {args args':List V} {ch0 rest:List G} {R:List av} {ms:List Nat} {w0 w:World} {K:VK G} (hT:∀f c,C.T f=some c->Sound C.P C.gl f c) (hQ:iz C) (hgl:C.gl=gv) (hl:ids.length=bl.length)
 (hw:dk bl.length bl=true) (ha:ao ids args=ao [] args') (S:St ms w0 (lits ids ids bl++af (ch0++rest) R) w) (fU:cJ C n f args' [] ch0 (cP 0 λv b c=>K (qf bl.length v) (bl++ZO bl.length b) (c++rest))):
 aj C.P f (ao ids args).toArray w λv w'=>∃x more bl' ch',v=den (ids++more) x/\(ids++more).length=bl'.length/\St ms w0 (lits (ids++more) (ids++more) bl'++af ch' R) w'/\K x bl' ch':=by
 have S1:St ms w0 (af ch0 (lits ids ids bl++af rest R)) w:=S.perm (by
  rw[cV,aW (af rest R) ch0,aW (lits ids ids bl++af rest R) ch0];exact cj λf=>by simp only[List.countP_append];omega)
 rw[ha];refine(Md hT hQ hgl fU S1).mono ?_;rintro v w' ⟨x,more,bl',ch',rfl,h1,S',hK⟩;obtain⟨v2,aP,bl2,hv,gx,S2,Mx⟩:=c9 (n0:=0) h1 (Nat.zero_le _) S' hK;simp only[List.take_zero,List.nil_append]at hv gx S2;refine⟨_,aP,_,_,?_,?_,?_,Mx⟩
 ·rw[hv,<-hl,tS]
 ·rw[List.length_append,List.length_append,Ky,hl,gx]
 ·rw[aI _ _ _ _ hl,aJ _ _ (by rw[hl];exact hw),<-hl,Kz];refine S2.perm ?_;rw[cV,aW (af rest R) ch',aW (lits ids ids bl++af rest R) ch'];exact cj λf=>by simp only[List.countP_append];omega
theorem ajo {ids:List Nat} {args:List V} (ha:cH 0 args=true):ao ids args=ao [] args:=by have:=dW (ids:=[]) (more:=ids) args ha;simpa using this
def KD (n:Nat):Nat:=if n=0 then 1 else sS 64 n
def zQ (n:Nat) (f:Sd.Byt):Sd.Byt:=if n=0 then λ_=>7 else f
theorem TZ (n:Nat):1<=KD n/\KD n<=64:=by unfold KD sS;split<;>omega
def T0:gm (LG fr):=λargs bl ch K=>match args,ch with
 |[.raw (.slice a n c)],.cn u::rest=>cond (dk bl.length bl) (gF u a n c (ft u a)/\∀d:Nat,K (.sl bl.length 0 (KD n) (KD n+d)) (bl++[dF (KD n) d (zQ n (ft u a))]) (.cn u::rest)) False
 |_,_=>False
def amn (u:World) (a:Option Addr) (n c:Nat) (K:VK (LG fr)):Prop:=
 let m:Int:=if(64:Int)<((n:Nat):Int)then 64 else((n:Nat):Int)
 cond ((n:Int)==0) (K (.sl 0 0 1 1) [⟨true,⟨5,(0,0)⟩,[.int .u8 7]⟩] [.cn u])
  ((0<=m/\m<=(c:Int))/\(gF u a m.toNat c (ft u a)/\m.toNat<=1000000)/\(m.toNat=0->K (.sl 0 0 0 0) [⟨true,⟨5,(0,0)⟩,[]⟩] [.cn u])/\(0<m.toNat->∀d:Nat,K (.sl 0 0 m.toNat (m.toNat+d)) [dF m.toNat d (ft u a)] [.cn u]))
theorem afe (u:World) (a:Option Addr) (n c:Nat) (K:VK (LG fr)):cJ (mL prog gv ([]:List (dI (LG fr))) (TY prog) Ce) 60 25 [.raw (.slice a n c)] [] [.cn u] (cP 0 K)=amn u a n c K:=by kernel_rfl
theorem Ih {gl:Nat->Option Nat}:Sound prog gl 25 (T0 (fr:=fr)):=by
 intro args ids bl ch R ms w0 w K hg hl S hc;unfold T0 at hc;split at hc
 ·rename_i a n c u rest;cases hq:dk bl.length bl with
  |false=>rw[hq]at hc;exact hc.elim
  |true=>
   rw[hq]at hc;obtain⟨hk,hK⟩:=hc
   let K0:VK (LG fr):=λv b ch=>ch=[.cn u]/\∃m d,KD n=m/\v=.sl 0 0 m (m+d)/\∃B,b=[B]/\aE [0] 0 B=aE [0] 0 (dF m d (zQ n (ft u a)))/\cH 0 B.c=true
   have fU:cJ (mL prog gv ([]:List (dI (LG fr))) (TY prog) Ce) 60 25 [.raw (.slice a n c)] [] [.cn u] (cP 0 K0):=by
    rw[afe];refine aU (λe=>?_) (λe=>?_)
    ·have e:n=0:=by simpa using e
     subst e;exact⟨rfl,1,0,rfl,rfl,_,rfl,rfl,rfl⟩
    ·have e:n≠0:=by simpa using e
     have hm:(if(64:Int)<((n:Nat):Int)then 64 else((n:Nat):Int))=((sS 64 n:Nat):Int):=Wp 64 n;rw[hm];have hn:KD n=sS 64 n:=by unfold KD;rw[if_neg e]
     have hf:zQ n (ft u a)=ft u a:=by unfold zQ;rw[if_neg e]
     have h1:=hk.1;have hle:sS 64 n<=n:=by unfold sS;omega
     have Gs:0<sS 64 n:=by unfold sS;omega
     have h64:sS 64 n<=64:=by unfold sS;omega
     refine⟨⟨by omega,by omega⟩,?_⟩;rw[Int.toNat_natCast];exact⟨⟨(hk.cut hle (by omega)).2,by omega⟩,λh0=>absurd h0 (by omega),λ_ d=>⟨rfl,_,d,hn,rfl,_,rfl,by rw[hf],rfl⟩⟩
   rw[ajo (ids:=ids) (args:=[.raw (.slice a n c)]) rfl];refine(Md (C:=mL prog gv ([]:List (dI (LG fr))) (TY prog) Ce) (ai.nil (P:=prog) (gl:=gv)).T (ai.nil (P:=prog) (gl:=gv)).Q rfl fU (Y:=lits ids ids bl++af rest R) (S.perm (cj λf=>by simp only[af,List.countP_append];show _+(List.countP f (du u)+_)=List.countP f (du u)+_;omega))).mono ?_;rintro v w' ⟨x,more,bl',ch',rfl,h1,S',Qo⟩;obtain⟨v2,aP,bl2,hv,gx,S2,rfl,m,d,hm,rfl,B,rfl,hB,hwB⟩:=c9 (n0:=0) h1 (Nat.zero_le _) S' Qo
   match aP,gx with
   |[b],_=>
    have hd:=hK d;rw[hm]at hd;refine⟨_,[b],_,_,?_,by simp[hl],?_,hd⟩
    ·rw[hv];have:(ids++[b]).getD bl.length 0=b:=by rw[<-hl];simp[List.getD]
     simp only[den,this,List.take_zero,List.nil_append];rfl
    ·have e1:aE [b] b B=aE (ids++[b]) b (dF m d (zQ n (ft u a))):=by
      have q1:aE [b] b B=aE [0] b B:=cF hwB;have q2:aE (ids++[b]) b (dF m d (zQ n (ft u a)))=aE [0] b (dF m d (zQ n (ft u a))):=cF rfl;rw[q1,q2];unfold aE at hB⊢;simp only[av.mk.injEq,Obj.cells.injEq]at hB⊢;exact⟨trivial,hB.2⟩
     rw[aI _ _ _ _ hl,aJ _ _ (by rw[hl];exact hq)];simp only[List.take_zero,List.nil_append,lits]at S2;rw[e1]at S2;refine S2.perm ?_;show List.Perm ([_]++(du u++(lits ids ids bl++af rest R))) ((lits ids ids bl++[_])++(du u++af rest R));exact cj λf=>by simp only[List.countP_append,List.countP_cons,List.countP_nil];omega
   |[],h=>simp at h
   |_::_::_,h=>simp at h
 ·exact hc.elim
theorem Ii:cT (T0 (fr:=fr)):=by
 intro args bl ch K hc;unfold T0 at hc⊢;split at hc
 ·cases hq:dk bl.length bl with
  |false=>rw[hq]at hc;exact hc.elim
  |true=>rw[hq]at hc;exact⟨hc.1,λd=>⟨hc.2 d,_,rfl⟩⟩
 ·exact hc.elim
def cW (a m:Int):Int:=(i64.wrap (a.tmod m+m)).tmod m
theorem oq (a:Int) {m:Int} (h:0<m) (h2:m<=1000000):0<=cW a m/\cW a m<m:=by
 unfold cW;have h1:=Int.tmod_lt_of_pos a h;have h3:-m<a.tmod m:=by
  have:=Int.lt_tmod_of_pos a h;omega
 have hw:i64.wrap (a.tmod m+m)=a.tmod m+m:=fG (by omega);rw[hw];exact⟨Int.tmod_nonneg _ (by omega),Int.tmod_lt_of_pos _ h⟩
def T4:gm (LG fr):=λargs bl ch K=>match args with
 |[.int .i64 a,.int .i64 (.ofNat 3)]=>cond (Nat.blt bl.length 5) ((cW a 3=0->K (.int .i64 0) bl ch)/\(cW a 3=1->K (.int .i64 1) bl ch)/\(cW a 3=2->K (.int .i64 2) bl ch)) (K (.int .i64 (cW a 3)) bl ch)
 |[.int .i64 a,.int .i64 (.ofNat 2)]=>(cW a 2=0->K (.int .i64 0) bl ch)/\(cW a 2=1->K (.int .i64 1) bl ch)
 |[.int .i64 a,.int .i64 (.ofNat (m+1))]=>K (.int .i64 (cW a (.ofNat (m+1)))) bl ch
 |_=>False
theorem aff (a:Int) (m:Nat) (X:V->Prop):jQ prog [] 60 26 [.int .i64 a,.int .i64 (.ofNat (m+1))] X=X (.int .i64 (cW a (.ofNat (m+1)))):=by kernel_rfl
theorem NW (a:Int) (m:Nat) (ids:List Nat) (w:World):aj prog 26 (ao ids [.int .i64 a,.int .i64 (.ofNat (m+1))]).toArray w λx w'=>x=den ids (.int .i64 (cW a (.ofNat (m+1))))/\Ch [] w w':=
 ta aZ.nil 60 (by rw[aff]) rfl rfl ids w
theorem Ij {gl:Nat->Option Nat}:Sound prog gl 26 (T4 (fr:=fr)):=by
 intro args ids bl ch R ms w0 w K hg hl S hc;have go:∀(a:Int) (m:Nat),K (.int .i64 (cW a (.ofNat (m+1)))) bl ch->aj prog 26 (ao ids [.int .i64 a,.int .i64 (.ofNat (m+1))]).toArray w λv w'=>∃x more bl' ch',v=den (ids++more) x/\(ids++more).length=bl'.length/\St ms w0 (lits (ids++more) (ids++more) bl'++af ch' R) w'/\K x bl' ch':=by
  intro a m hK;refine(NW a m ids w).mono ?_;rintro v w' ⟨rfl,eZ⟩;exact⟨_,[],bl,ch,by simp,by simpa using hl,by simpa using S.quiet eZ,hK⟩
 have cast:∀(a:Int) (m:Nat) (r:Int),cW a (.ofNat (m+1))=r->K (.int .i64 r) bl ch->K (.int .i64 (cW a (.ofNat (m+1)))) bl ch:=λa m r e h=>by rw[e];exact h
 unfold T4 at hc;split at hc
 ·rename_i a;refine go a 2 ?_;have hb:=oq a (m:=3) (by decide) (by decide);cases hq:Nat.blt bl.length 5 with
  |false=>rw[hq]at hc;exact hc
  |true=>
   rw[hq]at hc;have h3:cW a (.ofNat (2+1))=cW a 3:=rfl;have:cW a 3=0\/cW a 3=1\/cW a 3=2:=by omega
   rcases this with e|e|e
   ·exact cast a 2 _ e (hc.1 e)
   ·exact cast a 2 _ e (hc.2.1 e)
   ·exact cast a 2 _ e (hc.2.2 e)
 ·rename_i a;refine go a 1 ?_;have hb:=oq a (m:=2) (by decide) (by decide);have:cW a 2=0\/cW a 2=1:=by omega
  rcases this with e|e
  ·exact cast a 1 _ e (hc.1 e)
  ·exact cast a 1 _ e (hc.2 e)
 ·rename_i a m _ _;exact go a m hc
 ·exact hc.elim
theorem Ik:cT (T4 (fr:=fr)):=by
 intro args bl ch K hc;unfold T4 at hc⊢;split at hc
 ·cases hq:Nat.blt bl.length 5 with
  |false=>rw[hq]at hc;exact⟨hc,[],by simp⟩
  |true=>rw[hq]at hc;exact⟨λe=>⟨hc.1 e,[],by simp⟩,λe=>⟨hc.2.1 e,[],by simp⟩,λe=>⟨hc.2.2 e,[],by simp⟩⟩
 ·exact⟨λe=>⟨hc.1 e,[],by simp⟩,λe=>⟨hc.2 e,[],by simp⟩⟩
 ·exact⟨hc,[],by simp⟩
 ·exact hc.elim
def iN:V->Int|.int .i64 n=>n|_=>0
def sA:V->Option Addr|.raw (.slice a _ _)=>a|_=>none
def sN:V->Nat|.raw (.slice _ n _)=>n|_=>0
def sC:V->Nat|.raw (.slice _ _ c)=>c|_=>0
def iZ (i:Nat):Bool:=Nat.ble 5 i&&Nat.ble i 8
def T5 (i:Nat) (v:V):Bool:=match v with
 |.int .i64 _=>!iZ i
 |.raw (.slice _ _ _)=>iZ i
 |_=>false
def ES:List V->Nat->Bool
 |[],i=>Nat.beq i 56
 |v::l,i=>T5 i v&&ES l (i+1)
structure ij where
 q:Nat->Int
 ka:Nat->Option Addr
 kn:Nat->Nat
 kc:Nat->Nat
def KE (l:List V):Option ij:=match l with
 |[.j8 p ka kn kc]=>some ⟨p.i,ka,kn,kc⟩
 |l=>bif ES l 0 then some ⟨λi=>iN (nth l i),λj=>sA (nth l (j+5)),λj=>sN (nth l (j+5)),λj=>sC (nth l (j+5))⟩else none
def se (i:Nat) (v:V):Value:=bif iZ i then .slice (sA v) (sN v) (sC v)else .int .i64 (iN v)
theorem ET (ids:List Nat):∀(l:List V) (i:Nat),ES l i=true->i+l.length=56/\ab ids l=(List.range l.length).map λj=>se (i+j) (nth l j)
 |[],i,h=>⟨Nat.eq_of_beq_eq_true h,rfl⟩
 |v::l,i,h=>by
  unfold ES at h;rw[Bool.and_eq_true]at h;obtain⟨h1,h2⟩:=ET ids l (i+1) h.2;refine⟨by simp;omega,?_⟩;rw[List.length_cons,List.range_succ_eq_map,List.map_cons,List.map_map];simp only[ab,h2];have e:ab ids l=(List.range l.length).map ((λj=>se (i+j) (nth (v::l) j))∘Nat.succ):=by
   rw[h2];apply List.map_congr_left;intro j _;show se (i+1+j) (nth l j)=se (i+(j+1)) (nth l j);rw[show i+1+j=i+(j+1) by omega]
  rw[<-h2,e];have hv:cl v (den ids v)=[se (i+0) (nth (v::l) 0)]:=by
   have h3:=h.1;unfold T5 at h3;split at h3
   ·have:iZ i=false:=by simpa using h3
    simp only[cl,den,nth,se,Nat.add_zero,this,cond_false,iN]
   ·simp only[cl,den,nth,se,Nat.add_zero,h3,cond_true,sA,sN,sC]
   ·cases h3
  rw[hv];rfl
theorem EU {l:List V} {x:ij} (h:KE l=some x) (k:Nat->Nat×Sd.Byt) (ids:List Nat):ab ids l=uE ⟨x.q,k⟩ x.ka x.kn x.kc:=by
 unfold KE at h;split at h
 ·cases h;simp only[ab,cl,List.append_nil];rfl
 ·cases hb:ES l 0 with
  |false=>rw[hb]at h;cases h
  |true=>
   rw[hb]at h;cases h;obtain⟨h1,h2⟩:=ET ids l 0 hb;rw[h2,show l.length=56 by omega];unfold uE;apply List.map_congr_left;intro j hj;have hj:=List.mem_range.1 hj;show se (0+j) (nth l j)=_;rw[Nat.zero_add];unfold se iZ;cases hk:Nat.ble 5 j&&Nat.ble j 8 with
   |false=>rfl
   |true=>
    rw[Bool.and_eq_true]at hk;have:=Nat.le_of_ble_eq_true hk.1;simp only[cond_true];rw[show j-5+5=j by omega]
def pV (o1 o2 o3:Int) (q:Nat->Int) (i:Nat):Int:=
 bif Nat.ble i 13 then(bif Nat.beq i 1 then o1 else bif Nat.beq i 2 then o2 else bif Nat.beq i 3 then o3 else bif Nat.beq i 4 then 4 else bif Nat.beq i 9 then 1 else bif Nat.ble 10 i&&Nat.ble i 12 then bits .and .i64 (q i) 14 else 0)
 else bif Nat.ble i 33 then bits .and .i64 (q i) 15
 else bif Nat.ble i 38 then bits .and .i64 (q i) 31
 else bif Nat.ble i 41 then cW (q i) 5
 else bif Nat.ble i 46 then i64.wrap (1+cW (q i) 1000)
 else bif Nat.beq i 47 then cW (q i) 1001
 else bif Nat.ble i 49 then i64.wrap (1+cW (q i) 3)
 else bif Nat.beq i 50 then 0
 else bif Nat.ble i 53 then cW (q i) 1001
 else bif Nat.beq i 54 then i64.wrap (1+cW (q i) 1000)
 else bits .and .i64 (q i) 65535
def Il (q:Nat->Int) (o1 o2 o3:Int):Prop:=
 (cW (q 1) 3=0/\((cW (q 2) 2=0/\o1=1/\o2=2/\o3=3)\/(cW (q 2) 2=1/\o1=1/\o2=3/\o3=2)))\/
 (cW (q 1) 3=1/\((cW (q 2) 2=0/\o1=2/\o2=1/\o3=3)\/(cW (q 2) 2=1/\o1=2/\o2=3/\o3=1)))\/
 (cW (q 1) 3=2/\((cW (q 2) 2=0/\o1=3/\o2=2/\o3=1)\/(cW (q 2) 2=1/\o1=3/\o2=1/\o3=2)))
def k4 {α:Type} (a b c d:α):Nat->α:=λj=>match j with|0=>a|1=>b|2=>c|_=>d
def amo (o1 o2 o3:Int) (q:Nat->Int) (kn d:Nat->Nat):List V:=(List.range 56).map λi=>bif iZ i then .sl (i-5) 0 (KD (kn (i-5))) (KD (kn (i-5))+d (i-5))else .int .i64 (pV o1 o2 o3 q i)
def T6 (p:Nat->Int) (n d:Nat->Nat):List V:=(List.range 56).map λi=>bif iZ i then .sl (i-5) 0 (n (i-5)) (n (i-5)+d (i-5))else .int .i64 (p i)
section
variable(x:ij) (f:Nat->Nat×Sd.Byt) (u:World) (K:VK (LG fr))
def KG (i d:Nat):VB:=dF (KD (x.kn i)) d (zQ (x.kn i) (ft u (x.ka i)))
def zR (i:Nat):Prop:=gF u (x.ka i) (x.kn i) (x.kc i) (ft u (x.ka i))
def afg (d3:Nat) (o1 o2 o3:Int):Prop:=zR x u 0/\∀d0:Nat,zR x u 1/\∀d1:Nat,zR x u 2/\∀d2:Nat,K (.agg (amo o1 o2 o3 x.q x.kn (k4 d0 d1 d2 d3))) [KG x u 0 d0,KG x u 1 d1,KG x u 2 d2,KG x u 3 d3] [.cn u]
def T7 (d3:Nat) (o1 o2 o3:Int):Prop:=(cW (x.q 2) 2=0->afg x u K d3 o1 o2 o3)/\(cW (x.q 2) 2=1->afg x u K d3 o1 o3 o2)
def ajp:Prop:=zR x u 3/\∀d3:Nat,(cW (x.q 1) 3=0->T7 x u K d3 1 2 3)/\(cW (x.q 1) 3=1->T7 x u K d3 2 1 3)/\(cW (x.q 1) 3=2->T7 x u K d3 3 2 1)
def afh (fr:Sd.Reply->Nat×Sd.Byt):List (dI (LG fr)):=[⟨25,true,T0⟩,⟨26,true,T4⟩]
theorem KH:ai prog gv (afh fr):=ai.cons ⟨Ih,λ_=>Ii⟩ (ai.cons ⟨Ij,λ_=>Ik⟩ ai.nil)
theorem afi:cJ (dR prog gv (afh fr)) 60 10 [.agg [.j8 ⟨x.q,f⟩ x.ka x.kn x.kc]] [] [.cn u] (cP 0 K)=ajp x u K:=by kernel_rfl
end
structure Made (x:ij) (p:Nat->Int) (n:Nat->Nat):Prop where
 o:Il x.q (p 1) (p 2) (p 3)
 p:∀i,i<56->iZ i=false->p i=pV (p 1) (p 2) (p 3) x.q i
 n:∀j,n j=KD (x.kn j)
def ajq (x:ij) (u:World) (K:VK (LG fr)):Prop:=(zR x u 0/\zR x u 1/\zR x u 2/\zR x u 3)/\∀(p:Nat->Int) (n d:Nat->Nat),Made x p n->
 K (.agg (T6 p n d)) [dF (n 0) (d 0) (zQ (x.kn 0) (ft u (x.ka 0))),dF (n 1) (d 1) (zQ (x.kn 1) (ft u (x.ka 1))),dF (n 2) (d 2) (zQ (x.kn 2) (ft u (x.ka 2))),dF (n 3) (d 3) (zQ (x.kn 3) (ft u (x.ka 3)))] [.cn u]
theorem afj {x:ij} {u:World} {K:VK (LG fr)} (h:ajq x u K):ajp x u K:=by
 obtain⟨⟨r0,r1,r2,r3⟩,hK⟩:=h;have g:∀(d3:Nat) (o1 o2 o3:Int),Il x.q o1 o2 o3->afg x u K d3 o1 o2 o3:=λd3 o1 o2 o3 h=>⟨r0,λd0=>⟨r1,λd1=>⟨r2,λd2=>hK (pV o1 o2 o3 x.q) (λj=>KD (x.kn j)) (k4 d0 d1 d2 d3) ⟨h,λ_ _ _=>rfl,λ_=>rfl⟩⟩⟩⟩;refine⟨r3,λd3=>⟨λe=>⟨λe2=>g d3 _ _ _ ?_,λe2=>g d3 _ _ _ ?_⟩,λe=>⟨λe2=>g d3 _ _ _ ?_,λe2=>g d3 _ _ _ ?_⟩,λe=>⟨λe2=>g d3 _ _ _ ?_,λe2=>g d3 _ _ _ ?_⟩⟩⟩<;>(unfold Il;omega)
def T8:gm (LG fr):=λargs bl ch K=>match args,ch with
 |[.agg l],.cn u::rest=>(match KE l with
  |some x=>cond (dk bl.length bl) (ajq x u λv b c=>K (qf bl.length v) (bl++ZO bl.length b) (c++rest)) False
  |none=>False)
 |_,_=>False
theorem tT {gl:Nat->Option Nat}:Sound prog gl 10 (T8 (fr:=fr)):=by
 intro args ids bl ch R ms w0 w K hg hl S hc;unfold T8 at hc;split at hc
 ·rename_i l u rest;split at hc
  ·rename_i x hx;cases hq:dk bl.length bl with
   |false=>rw[hq]at hc;exact hc.elim
   |true=>
    rw[hq]at hc;refine KC (C:=dR prog gv (afh fr)) (n:=60) (args':=[.agg [.j8 ⟨x.q,λ_=>(0,λ_=>0)⟩ x.ka x.kn x.kc]]) (ch0:=[.cn u]) (rest:=rest) KH.T KH.Q rfl hl hq ?_ S (by rw[afi];exact afj hc);simp only[ao,den,EU hx (λ_=>(0,λ_=>0)) ids,ab,cl,List.append_nil]
  ·exact hc.elim
 ·exact hc.elim
def ajr (i:Nat) (v:V):Bool:=match v with
 |.int .i64 _=>!iZ i
 |.raw (.slice _ _ _)=>iZ i
 |.sl _ _ _ _=>iZ i
 |_=>false
def nG:List V->Nat->Bool
 |[],i=>Nat.beq i 56
 |v::l,i=>ajr i v&&nG l (i+1)
def ka3 (ids:List Nat):V->Option Addr|.raw (.slice a _ _)=>a|.sl i o _ _=>some ⟨ids.getD i 0,o,none⟩|_=>none
def Zq:V->Nat|.raw (.slice _ n _)=>n|.sl _ _ n _=>n|_=>0
def kc3:V->Nat|.raw (.slice _ _ c)=>c|.sl _ _ _ c=>c|_=>0
def mi (ids:List Nat) (i:Nat) (v:V):Value:=bif iZ i then .slice (ka3 ids v) (Zq v) (kc3 v)else .int .i64 (iN v)
theorem EV (ids:List Nat):∀(l:List V) (i:Nat),nG l i=true->i+l.length=56/\ab ids l=(List.range l.length).map λj=>mi ids (i+j) (nth l j)
 |[],i,h=>⟨Nat.eq_of_beq_eq_true h,rfl⟩
 |v::l,i,h=>by
  unfold nG at h;rw[Bool.and_eq_true]at h;obtain⟨h1,h2⟩:=EV ids l (i+1) h.2;refine⟨by simp;omega,?_⟩;rw[List.length_cons,List.range_succ_eq_map,List.map_cons,List.map_map];simp only[ab,h2];have e:(List.range l.length).map (λj=>mi ids (i+1+j) (nth l j))=(List.range l.length).map ((λj=>mi ids (i+j) (nth (v::l) j))∘Nat.succ):=by
   apply List.map_congr_left;intro j _;show mi ids (i+1+j) (nth l j)=mi ids (i+(j+1)) (nth l j);rw[show i+1+j=i+(j+1) by omega]
  rw[e];have hv:cl v (den ids v)=[mi ids (i+0) (nth (v::l) 0)]:=by
   have h3:=h.1;unfold ajr at h3;split at h3
   ·have:iZ i=false:=by simpa using h3
    simp only[cl,den,nth,mi,Nat.add_zero,this,cond_false,iN]
   ·simp only[cl,den,nth,mi,Nat.add_zero,h3,cond_true,ka3,Zq,kc3]
   ·simp only[cl,den,nth,mi,Nat.add_zero,h3,cond_true,ka3,Zq,kc3]
   ·cases h3
  rw[hv];rfl
def Zr (l:List V) (f:Nat->Nat×Sd.Byt):Sd.Pol:=⟨λi=>iN (nth l i),f⟩
theorem Cf {l:List V} (h:nG l 0=true) (f:Nat->Nat×Sd.Byt) (ids:List Nat):(ao ids [.agg l]).toArray=#[.agg (kJ (Zr l f) (λj=>ka3 ids (nth l (j+5))) (λj=>Zq (nth l (j+5))) (λj=>kc3 (nth l (j+5))))]:=by
 obtain⟨h1,h2⟩:=EV ids l 0 h;simp only[ao,den];rw[h2,show l.length=56 by omega];rfl
def xq:Nat->Nat×Sd.Byt:=λ_=>(0,λ_=>0)
def T9:QF:=⟨27,λargs _=>match args with
 |[.agg l]=>bif nG l 0 then some (True,.int .i64 (ee (λi=>iN (nth l i)) (λj=>Zq (nth l (j+5)))))else none
 |_=>none⟩
def T_:QF:=⟨30,λargs _=>match args with
 |[.agg l]=>bif nG l 0 then some (True,.agg (cI (Sd.Tok.new (Zr l xq))))else none
 |_=>none⟩
def afk:QF:=⟨33,λargs _=>match args with
 |[.raw (.slice none 0 0)]=>some (True,.agg [.dC .u8 32 λ_=>0])
 |_=>none⟩
theorem Ua (gl:Nat->Option Nat):T9.Ok prog gl:=by
 intro args bl p_ v_ h hp ids w _ _;unfold T9 at h;dsimp only at h;split at h
 ·rename_i l;cases hq:nG l 0 with
  |false=>rw[hq]at h;cases h
  |true=>
   rw[hq]at h;simp only[cond_true,Option.some.injEq,Prod.mk.injEq]at h;obtain⟨rfl,rfl⟩:=h;rw[Cf hq xq ids];exact Yi (Zr l xq) _ _ _ w
 ·cases h
theorem Ub (gl:Nat->Option Nat):T_.Ok prog gl:=by
 intro args bl p_ v_ h hp ids w _ _;unfold T_ at h;dsimp only at h;split at h
 ·rename_i l;cases hq:nG l 0 with
  |false=>rw[hq]at h;cases h
  |true=>
   rw[hq]at h;simp only[cond_true,Option.some.injEq,Prod.mk.injEq]at h;obtain⟨rfl,rfl⟩:=h;rw[Cf hq xq ids];exact abv (Zr l xq) _ _ _ w
 ·cases h
theorem ZV (gl:Nat->Option Nat):afk.Ok prog gl:=by
 intro args bl p_ v_ h hp ids w _ _;unfold afk at h;dsimp only at h;split at h
 ·simp only[Option.some.injEq,Prod.mk.injEq]at h;obtain⟨rfl,rfl⟩:=h;exact told (adZ w)
 ·cases h
def Zs (p:Sd.Pol):Sd.Scene:=⟨.new p,[],[]⟩
def ZW:gm (LG fr):=λargs bl ch K=>match args with
 |[.agg l]=>cond (nG l 0&&dk bl.length bl) (K (.ptr bl.length 0) (bl++[gP (Zs (Zr l xq))]) ch) False
 |_=>False
theorem xV (p:Sd.Pol) (bt:Nat) (ids:List Nat):aE ids bt (gP (Zs p))=⟨bt,true,.cells (jy (false,⟨0,0⟩) (f3 ⟨false,⟨0,0⟩,0,(λ_=>0),⟨false,0,0⟩⟩ ⟨false,⟨0,0⟩,0,(λ_=>0),⟨false,0,0⟩⟩ ⟨false,⟨0,0⟩,0,(λ_=>0),⟨false,0,0⟩⟩) (p.i 42) (p.i 49)) 157 (0,0)⟩:=by kernel_rfl
def Uc:List V:=[.bool false,.int .i64 0,.int .i64 0,.int .i64 0]++(List.replicate 32 (.int .u8 0)++[.bool false,.int .i64 0,.int .u64 0])
def KI (b m:Int):List V:=[.bool false,.int .i64 0,.int .i64 0]++(Uc++(Uc++(Uc++[.int .i64 b,.int .i64 m])))
theorem ajs (p:Sd.Pol) (ka:Nat->Option Addr) (kn kc:Nat->Nat) (K:VK Empty):cJ (dR prog gv ([]:List (dI Empty))) 30 31 [.agg (ff p ka kn kc)] [] [] (cP 0 K)=K (.ptr 0 0) [⟨true,⟨157,(0,0)⟩,KI (p.i 42) (p.i 49)⟩] []:=by kernel_rfl
theorem afl (p:Sd.Pol) (bt:Nat) (ids:List Nat):aE ids bt ⟨true,⟨157,(0,0)⟩,KI (p.i 42) (p.i 49)⟩=aE ids bt (gP (Zs p)):=by kernel_rfl
theorem abR {G:Type} [Bl G] {C:Ctx G} {f n:Nat} {args:List V} {ch0:List G} {K:VK G} (hT:∀f c,C.T f=some c->Sound C.P C.gl f c) (hQ:iz C) (hgl:C.gl=gv) (fU:Hd (cJ C n f args [] ch0 K))
 {Y:List av} {ms:List Nat} {w0 w:World} (S:St ms w0 (af ch0 Y) w):
 aj C.P f (ao [] args).toArray w λv w'=>∃(x:V) (more:List Nat) (bl':List VB) (ch':List G),v=den more x/\more.length=bl'.length/\St ms w0 (lits more more bl'++af ch' Y) w'/\K x bl' ch':=Md hT hQ hgl fU.h S
theorem Ud (p:Sd.Pol) (ka:Nat->Option Addr) (kn kc:Nat->Nat) {Y:List av} {ms:List Nat} {w0 w:World} (S:St ms w0 Y w):aj prog 31 #[.agg (kJ p ka kn kc)] w λv w1=>∃bt,v=.pointer (some ⟨bt,0,none⟩)/\St ms w0 (aE [] bt (gP (Zs p))::Y) w1:=by
 have hv:Hd (cJ (dR prog gv ([]:List (dI Empty))) 30 31 [.agg (ff p ka kn kc)] [] [] (cP 0 λv b _=>v=.ptr 0 0/\b=[⟨true,⟨157,(0,0)⟩,KI (p.i 42) (p.i 49)⟩])):=⟨by rw[ajs];exact⟨rfl,rfl⟩⟩;have hr:=abR (C:=dR prog gv ([]:List (dI Empty))) (ai.nil (P:=prog) (gl:=gv)).T (ai.nil (P:=prog) (gl:=gv)).Q rfl hv (Y:=Y) S;clear hv;refine hr.mono ?_;rintro v w' ⟨y,more,bl',ch',rfl,h1,S',hK⟩;obtain⟨v2,aP,bl2,e,gx,S2,rfl,rfl⟩:=c9 (n0:=0) (ids:=more) h1 (by simp) S' hK
 match aP,gx,e,S2 with
 |[bt],_,e,S2=>
  have S3:St ms w0 ([aE [bt] bt ⟨true,⟨157,(0,0)⟩,KI (p.i 42) (p.i 49)⟩]++Y) w':=match ch',S2 with
   |[],S2=>S2
   |e::_,_=>nomatch e
  rw[afl,xV,<-xV p bt []]at S3;exact⟨bt,e,S3⟩
theorem Ue:oP prog gv (⟨31,true,ZW⟩:dI (LG fr)):=by
 refine⟨?_,λ_ args bl ch K h=>?_⟩
 ·intro args ids bl ch R ms w0 w K hg hl S hc;simp only at hc;unfold ZW at hc;split at hc
  ·rename_i l;cases hq:nG l 0&&dk bl.length bl with
   |false=>rw[hq]at hc;exact hc.elim
   |true=>
    rw[hq]at hc;simp only[Bool.and_eq_true]at hq;rw[Cf hq.1 xq ids];refine(Ud (Zr l xq) _ _ _ S).mono ?_;rintro v w' ⟨bt,rfl,S2⟩;rw[xV]at S2;refine⟨_,[bt],_,ch,?_,by simp[hl],?_,hc⟩
    ·simp only[den];rw[<-hl,cy]
    ·rw[aI _ _ _ _ hl,aJ _ _ (by rw[hl];exact hq.2)];simp only[lits];rw[xV];refine S2.perm ?_;rw[List.append_assoc];exact List.perm_middle.symm
  ·exact hc.elim
 ·simp only at h⊢;unfold ZW at h⊢;split at h
  ·rename_i l;cases hq:nG l 0&&dk bl.length bl with
   |false=>rw[hq]at h;exact h.elim
   |true=>rw[hq]at h;exact⟨h,_,rfl⟩
  ·exact h.elim
def EW (P:Program):(Operand->V)->Op->List VB->List (LG fr)->VK (LG fr)->Prop:=λe op bl ch K=>match op with
 |.call c=>(match c.callee,c.args.toList,c.argTypes.toList with
  |.builtin .append,[s,xs],[t,tx]=>(match P.underlying t,P.underlying tx with
   |some (.slice 5),some (.slice _)=>(match e s,e xs,ch with
    |.sl i 0 0 0,.raw (.slice a m c),.cn u::rest=>cond (dk bl.length bl) (∃f,(gF u a m c f/\m<=1000000/\0<m)/\∀d:Nat,K (.sl bl.length 0 m (m+d)) (bl++[dF m d f]) (.cn u::rest)) False
    |_,_,_=>False)
   |_,_=>False)
  |_,_,_=>False)
 |_=>False
theorem xW {gl:Nat->Option Nat}:oA (G:=LG fr) prog gl (EW prog):=by
 intro e op ids bl ch R ms w0 w K ρ o hg hl S cx ho h;unfold EW at h;split at h
 ·rename_i c;split at h
  ·rename_i s xs t tx eU a9 ju;split at h
   ·rename_i T ht o9;split at h
    ·rename_i i a m c' u rest qc ow;cases hq:dk bl.length bl with
     |false=>rw[hq]at h;exact h.elim
     |true=>
      rw[hq]at h;obtain⟨f,⟨hk,hm,Ah⟩,h1⟩:=h;have Wz:∀y∈du u,y∈lits ids ids bl++af (.cn u::rest) R:=λy hy=>by
       refine List.mem_append_right _ ?_;show y∈du u++af rest R;exact List.mem_append_left _ hy
      have fZ:=FP (P:=prog) (⟨hm,TW S Wz hk⟩:cz w a m c' f) o9;obtain⟨FZ,ar,td⟩:=c;simp only at eU a9 ju;have e2:ar=#[s,xs]:=by rw[<-a9]
      have e3:td=#[t,tx]:=by rw[<-ju]
      subst eU e2 e3;have sE:ρ s=.slice (some ⟨ids.getD i 0,0,none⟩) 0 0:=by rw[cx,qc];simp only[den]
      have OM:ρ xs=.slice a m c':=by rw[cx,ow];simp only[den]
      obtain⟨c2,w2,aY,eZ,hle,ER⟩:=xU (g:=f) (x:=a) (ty:=o.type) (t:=t) fZ ht Ah (by omega) ⟨ids.getD i 0,0,none⟩;have h2:=h1 (c2-m);rw[show m+(c2-m)=c2 by omega]at h2;refine⟨_,[w.heap.size],_,_,w2,.inl ?_,by simp[hl],?_,h2⟩
      ·rw[bP (P:=prog) (ρ:=ρ) (o:=o) ho sE OM aY];simp only[den];rw[<-hl,cy]
      ·have e:aE (ids++[w.heap.size]) w.heap.size (dF m (c2-m) f)=⟨w.heap.size,true,.cells (dc m f c2) 5 (0,0)⟩:=by
        unfold aE;rw[jC,show m+(c2-m)=c2 by omega];rfl
       rw[aI _ _ _ _ hl,aJ _ _ (by rw[hl];exact hq)];simp only[lits,e];refine(S.new eZ (Nat.le_refl _) ER).perm ?_;rw[List.append_assoc];exact List.perm_middle.symm
    ·exact h.elim
   ·exact h.elim
  ·exact h.elim
 ·exact h.elim
def LNw (fr:Sd.Reply->Nat×Sd.Byt):List (dI (LG fr)):=⟨31,true,ZW⟩::qL (LG fr) [T9,T_,afk,J4]
theorem Uf:ai prog gv (LNw fr):=ai.cons Ue (f_ (aZ.cons (Ua _) (aZ.cons (Ub _) (aZ.cons (ZV _) (aZ.cons (El _) aZ.nil)))))
def amp (p:Sd.Pol) (kn d:Nat->Nat):List V:=(List.range 56).map λo=>bif Nat.ble 5 o&&Nat.ble o 8 then .sl (o-4) 0 (kn (o-5)) (kn (o-5)+d (o-5))else .int .i64 (p.i o)
def Ug:List V:=[.int .i64 0,.bool false]++List.replicate 8 (.int .u8 0)
def Uh (p:Sd.Pol) (kn d:Nat->Nat):List V:=amp p kn d++(cI (Sd.Tok.new p)++(.ptr 5 0::(Ug++(Ug++(Ug++([.ptr 6 0,.int .i64 0,.int .i64 0,.int .i64 (p.i 39)]++(oF ⟨2,4,0⟩++(rK ⟨1,⟨0,0,0,0⟩,⟨0,0,0,0⟩,⟨2,4,0⟩⟩++[.dC .u8 32 λ_=>0]))))))))
def ZX (p:Sd.Pol) (kn d:Nat->Nat) (kf:Nat->Nat->Int):List VB:=[⟨true,⟨105,(0,0)⟩,Uh p kn d⟩,dF (kn 0) (d 0) (kf 0),dF (kn 1) (d 1) (kf 1),dF (kn 2) (d 2) (kf 2),dF (kn 3) (d 3) (kf 3),
 ⟨true,⟨146,(0,0)⟩,[.raw (.slice none 0 0),.int .i64 (p.i 48),.int .u64 0]⟩,gP (Zs p)]
def ZY (u:World) (xa:Nat->Addr) (kn kc:Nat->Nat) (i:Nat) (X:(Nat->Int)->Nat->Prop):Prop:=∃f,(gF u (some (xa i)) (kn i) (kc i) f/\kn i<=1000000/\0<kn i)/\∀d,X f d
def cd3 (p:Sd.Pol) (xa:Nat->Addr) (kn kc:Nat->Nat):Int:=ee (λi=>iN (nth (ff p (λi=>some (xa i)) kn kc) i)) (λj=>Zq (nth (ff p (λi=>some (xa i)) kn kc) (j+5)))
theorem afm (p:Sd.Pol) (xa:Nat->Addr) (kn kc:Nat->Nat):cd3 p xa kn kc=ee p.i kn:=by kernel_rfl
def O_ (u:World) (p:Sd.Pol) (xa:Nat->Addr) (kn kc:Nat->Nat) (K:VK (LG fr)):Prop:=True/\cond (cd3 p xa kn kc !=0) (K (.az [.raw (.pointer none),.int .i64 (cd3 p xa kn kc)]) [] [.cn u])
 (cond (decide (p.i 48<1)) (K (.az [.raw (.pointer none),.int .i64 1]) [] [.cn u]) (cond (decide (p.i 48>64)) (K (.az [.raw (.pointer none),.int .i64 1]) [] [.cn u])
  (ZY u xa kn kc 0 λf0 d0=>ZY u xa kn kc 1 λf1 d1=>ZY u xa kn kc 2 λf2 d2=>ZY u xa kn kc 3 λf3 d3=>True/\True/\True/\True/\K (.az [.ptr 0 0,.int .i64 0]) (ZX p kn (λj=>[d0,d1,d2,d3].getD j 0) λj=>[f0,f1,f2,f3].getD j f0) [.cn u])))
theorem afn (u:World) (p:Sd.Pol) (xa:Nat->Addr) (kn kc:Nat->Nat) (K:VK (LG fr)):cJ (mL prog gv (LNw fr) (EW prog) xW) 60 11 [.agg (ff p (λi=>some (xa i)) kn kc)] [] [.cn u] (cP 0 K)=O_ u p xa kn kc K:=by kernel_rfl
def KN (u:World) (p:Sd.Pol) (kn:Nat->Nat) (kf:Nat->Nat->Int):VK (LG fr):=λv b ch=>∃d,v=.az [.ptr 0 0,.int .i64 0]/\b=ZX p kn d kf/\ch=[.cn u]
theorem ZZ {u:World} {p:Sd.Pol} {xa:Nat->Addr} {kn kc:Nat->Nat} {kf:Nat->Nat->Int} (h:ee p.i kn=0) (hk:∀i,i<4->cz u (some (xa i)) (kn i) (kc i) (kf i)) (h1:∀i,i<4->0<kn i):O_ (fr:=fr) u p xa kn kc (KN u p kn kf):=by
 have hc:cd3 p xa kn kc=0:=(afm p xa kn kc).trans h;have hq:=RG h;refine⟨trivial,aU (λe=>absurd hc (by simpa using e)) λ_=>aU (λe=>absurd (of_decide_eq_true e) (by omega)) λ_=>aU (λe=>absurd (of_decide_eq_true e) (by omega)) λ_=>?_⟩;exact⟨kf 0,⟨(hk 0 (by omega)).2,(hk 0 (by omega)).1,h1 0 (by omega)⟩,λd0=>⟨kf 1,⟨(hk 1 (by omega)).2,(hk 1 (by omega)).1,h1 1 (by omega)⟩,λd1=>⟨kf 2,⟨(hk 2 (by omega)).2,(hk 2 (by omega)).1,h1 2 (by omega)⟩,λd2=>⟨kf 3,⟨(hk 3 (by omega)).2,(hk 3 (by omega)).1,h1 3 (by omega)⟩,
  λd3=>⟨trivial,trivial,trivial,trivial,λj=>[d0,d1,d2,d3].getD j 0,rfl,rfl,rfl⟩⟩⟩⟩⟩
theorem afo (p:Sd.Pol) (kn d:Nat->Nat) (b k0 k1 k2 k3 bq bt:Nat):aE [b,k0,k1,k2,k3,bq,bt] b ⟨true,⟨105,(0,0)⟩,Uh p kn d⟩=⟨b,true,.cells (mz p (λi=>some ⟨[k0,k1,k2,k3].getD i 0,0,none⟩) kn (λi=>kn i+d i) (⟨4,(p.i 55),(-1),(⟨0,0⟩:Sd.Timer),(⟨0,0⟩:Sd.Timer),false⟩:Sd.Tok) bq
 (f3 (⟨(0:Int),false,(λ_=>0)⟩:Sd.dQ) (⟨(0:Int),false,(λ_=>0)⟩:Sd.dQ) (⟨(0:Int),false,(λ_=>0)⟩:Sd.dQ)) bt (0:Int) (0:Int) (p.i 39) (⟨2,4,0⟩:Sd.Label) (⟨1,(⟨0,0,0,0⟩:Sd.X4),(⟨0,0,0,0⟩:Sd.X4),(⟨2,4,0⟩:Sd.Label)⟩:Sd.Point) (λ_=>0)) 105 (0,0)⟩:=by kernel_rfl
theorem Ui (p:Sd.Pol) (ka:Nat->Option Addr) (kn kc:Nat->Nat) (kf:Nat->Nat->Int) (h:ee p.i kn=0) (w:World) (hk:∀i,i<4->cz w (ka i) (kn i) (kc i) (kf i)):
 aj prog 11 #[.agg (kJ p ka kn kc)] w λv w1=>∃(b bq bt:Nat) (xa:Nat->Option Addr) (xc:Nat->Nat) (B:Nat->List av),v=.tuple #[.pointer (some ⟨b,0,none⟩),.int .i64 0]/\(∀i,i<4->eK 5 (kn i) (kf i) (xa i) (xc i) (B i))/\St [] w ([⟨b,true,.cells (mz p xa kn xc (⟨4,(p.i 55),(-1),(⟨0,0⟩:Sd.Timer),(⟨0,0⟩:Sd.Timer),false⟩:Sd.Tok) bq (f3 (⟨(0:Int),false,(λ_=>0)⟩:Sd.dQ) (⟨(0:Int),false,(λ_=>0)⟩:Sd.dQ) (⟨(0:Int),false,(λ_=>0)⟩:Sd.dQ)) bt (0:Int) (0:Int) (p.i 39) (⟨2,4,0⟩:Sd.Label) (⟨1,(⟨0,0,0,0⟩:Sd.X4),(⟨0,0,0,0⟩:Sd.X4),(⟨2,4,0⟩:Sd.Label)⟩:Sd.Point) (λ_=>0)) 105 (0,0)⟩,⟨bq,true,.cells #[.slice none 0 0,.int .i64 (p.i 48),.int .u64 0] 146 (0,0)⟩,⟨bt,true,.cells (jy (false,(⟨(0:Int),(0:Int)⟩:Sd.Timer)) (f3 (⟨false,⟨(0:Int),(0:Int)⟩,(0:Int),(λ_=>0),⟨false,(0:Int),(0:Int)⟩⟩:Sd.bm) (⟨false,⟨(0:Int),(0:Int)⟩,(0:Int),(λ_=>0),⟨false,(0:Int),(0:Int)⟩⟩:Sd.bm) (⟨false,⟨(0:Int),(0:Int)⟩,(0:Int),(λ_=>0),⟨false,(0:Int),(0:Int)⟩⟩:Sd.bm)) (p.i 42) (p.i 49)) 157 (0,0)⟩]++(B 0++(B 1++(B 2++(B 3++[]))))) w1:=by
 have HP:∀i,i<4->0<kn i:=by
  have:(uv kn&&wV (kn 3))=true:=by
   cases e:(uv kn&&wV (kn 3))with
   |true=>rfl
   |false=>exfalso;unfold ee at h;repeat' split at h
           all_goals first|omega|(rename_i h48;simp[e]at h48)
  simp only[uv,wV,Bool.and_eq_true,decide_eq_true_eq]at this;intro i hi
  match i,hi with
  |0,_=>omega
  |1,_=>omega
  |2,_=>omega
  |3,_=>omega
  |i+4,h=>exact absurd h (by omega)
 have hx:∀i,∃x,i<4->ka i=some x:=by
  intro i;by_cases hi:i<4
  ·cases e:ka i with
   |none=>have:=((hk i hi).2.2.1 e).1;have:=HP i hi;omega
   |some x=>exact⟨x,λ_=>rfl⟩
  ·exact⟨⟨0,0,none⟩,λh=>absurd h hi⟩
 let ya:Nat->Addr:=λi=>Classical.choose (hx i)
 have hy:∀i,i<4->ka i=some (ya i):=λi=>Classical.choose_spec (hx i);have e0:#[Value.agg (kJ p ka kn kc)]=(ao [] [.agg (ff p (λi=>some (ya i)) kn kc)]).toArray:=by
  have e1:kJ p ka kn kc=kJ p (λi=>some (ya i)) kn kc:=by
   unfold kJ;rw[hy 0 (by omega),hy 1 (by omega),hy 2 (by omega),hy 3 (by omega)]
  exact(congrArg (λx=>#[Value.agg x]) e1).trans (by kernel_rfl)
 rw[e0];have hv:Hd (cJ (mL prog gv (LNw λ_=>(0,λ_=>0)) (EW prog) xW) 60 11 [.agg (ff p (λi=>some (ya i)) kn kc)] [] [.cn w] (cP 0 (KN w p kn kf))):=⟨by rw[afn];exact ZZ h (λi hi=>by rw[<-hy i hi];exact hk i hi) HP⟩;have hr:=abR (C:=mL prog gv (LNw λ_=>(0,λ_=>0)) (EW prog) xW) Uf.T Uf.Q rfl hv (Y:=[]) (show St [] w (af [LG.cn w] []) w from Jw w);clear hv;refine hr.mono ?_;rintro v w' ⟨y,more,bl',ch',rfl,hl1,S',hK⟩;obtain⟨v2,aP,bl2,e,gx,S2,d,rfl,rfl,rfl⟩:=c9 (n0:=0) (ids:=more) hl1 (by simp) S' hK
 match aP,gx,e,S2 with
 |[b,k0,k1,k2,k3,bq,bt],_,e,S2=>
  refine⟨b,bq,bt,λi=>some ⟨[k0,k1,k2,k3].getD i 0,0,none⟩,λi=>kn i+d i,λi=>[⟨[k0,k1,k2,k3].getD i 0,true,.cells (dc (kn i) (kf i) (kn i+d i)) 5 (0,0)⟩],e,λi hi=>⟨Nat.le_add_right _ _,.inr ⟨_,rfl,rfl⟩⟩,?_⟩;have Z0:∀(ids:List Nat) (k i:Nat),aE ids k (dF (kn i) (d i) (kf i))=⟨k,true,.cells (dc (kn i) (kf i) (kn i+d i)) 5 (0,0)⟩:=λids k i=>by unfold aE;rw[jC];rfl
  have el:lits [b,k0,k1,k2,k3,bq,bt] [b,k0,k1,k2,k3,bq,bt] (ZX p kn d kf)=aE [b,k0,k1,k2,k3,bq,bt] b ⟨true,⟨105,(0,0)⟩,Uh p kn d⟩::([aE [b,k0,k1,k2,k3,bq,bt] k0 (dF (kn 0) (d 0) (kf 0)),aE [b,k0,k1,k2,k3,bq,bt] k1 (dF (kn 1) (d 1) (kf 1)),aE [b,k0,k1,k2,k3,bq,bt] k2 (dF (kn 2) (d 2) (kf 2)),
   aE [b,k0,k1,k2,k3,bq,bt] k3 (dF (kn 3) (d 3) (kf 3))]++[⟨bq,true,.cells #[.slice none 0 0,.int .i64 (p.i 48),.int .u64 0] 146 (0,0)⟩,aE [b,k0,k1,k2,k3,bq,bt] bt (gP (Zs p))]):=rfl
  rw[Z0,Z0,Z0,Z0,xV,afo]at el;have S3:=S2.sub (List.sublist_append_left _ _);have S4:St [] w (lits [b,k0,k1,k2,k3,bq,bt] [b,k0,k1,k2,k3,bq,bt] (ZX p kn d kf)) w':=S3;rw[el]at S4;exact S4.perm (List.Perm.cons _ List.perm_append_comm)
def KJ (i:Nat) (v:V):Bool:=match v with
 |.int .i64 _=>!iZ i
 |.sl _ 0 _ _=>iZ i
 |_=>false
def tU:List V->Nat->Bool
 |[],i=>Nat.beq i 56
 |v::l,i=>KJ i v&&tU l (i+1)
def sI:V->Nat|.sl i _ _ _=>i|_=>0
def sM:V->Nat|.sl _ _ n _=>n|_=>0
def sK:V->Nat|.sl _ _ _ c=>c|_=>0
def pW (ids:List Nat) (i:Nat) (v:V):Value:=bif iZ i then .slice (some ⟨ids.getD (sI v) 0,0,none⟩) (sM v) (sK v)else .int .i64 (iN v)
theorem zT (ids:List Nat):∀(l:List V) (i:Nat),tU l i=true->i+l.length=56/\ab ids l=(List.range l.length).map λj=>pW ids (i+j) (nth l j)
 |[],i,h=>⟨Nat.eq_of_beq_eq_true h,rfl⟩
 |v::l,i,h=>by
  unfold tU at h;rw[Bool.and_eq_true]at h;obtain⟨h1,h2⟩:=zT ids l (i+1) h.2;refine⟨by simp;omega,?_⟩;rw[List.length_cons,List.range_succ_eq_map,List.map_cons,List.map_map];simp only[ab,h2];have e:ab ids l=(List.range l.length).map ((λj=>pW ids (i+j) (nth (v::l) j))∘Nat.succ):=by
   rw[h2];apply List.map_congr_left;intro j _;show pW ids (i+1+j) (nth l j)=pW ids (i+(j+1)) (nth l j);rw[show i+1+j=i+(j+1) by omega]
  rw[<-h2,e];have hv:cl v (den ids v)=[pW ids (i+0) (nth (v::l) 0)]:=by
   have h3:=h.1;unfold KJ at h3;split at h3
   ·have:iZ i=false:=by simpa using h3
    simp only[cl,den,nth,pW,Nat.add_zero,this,cond_false,iN]
   ·simp only[cl,den,nth,pW,Nat.add_zero,h3,cond_true,sI,sM,sK]
   ·cases h3
  rw[hv];rfl
def kyA (ids:List Nat) (l:List V) (j:Nat):Option Addr:=some ⟨ids.getD (sI (nth l (j+5))) 0,0,none⟩
def uU (l:List V) (j:Nat):Nat:=sM (nth l (j+5))
def Kp (l:List V) (j:Nat):Nat:=sK (nth l (j+5))
def nP (l:List V) (f:Nat->Sd.Byt):Sd.Pol:=⟨λi=>iN (nth l i),λj=>(uU l j,f j)⟩
theorem Uj {l:List V} (h:tU l 0=true) (f:Nat->Sd.Byt) (ids:List Nat):(ab ids l).toArray=kJ (nP l f) (kyA ids l) (uU l) (Kp l):=by
 obtain⟨h1,h2⟩:=zT ids l 0 h;rw[h2,show l.length=56 by omega];rfl
def Zt (bl:List VB) (v:V):Option (Nat×Sd.Byt):=match v with
 |.sl i _ _ _=>(match bl[i]?with|some ⟨_,⟨5,(0,0)⟩,.dC .u8 m f::_⟩=>some (m,f)|_=>none)
 |_=>none
def mkK (l:List V) (f:Nat->Sd.Byt) (ka:Nat->Option Addr) (kc:Nat->Nat) (bq tg tc:Nat):LK:=⟨ka,uU l,kc,f,bq,tg,tc,iN (nth l 48),none,0,0,λ_=>0⟩
def ib (p:Sd.Pol):Sd.Scene:=⟨.new p,[],[]⟩
structure EX (l:List V) (n:Nat->Nat):Prop where
 code:ee (λi=>iN (nth l i)) (uU l)=0
 n:∀j,j<4->n j=uU l j
 k:∀j,j<4->uU l j<=64/\uU l j<=Kp l j
structure Uk (l:List V) (f:Nat->Sd.Byt) (tg tc:Nat) (p:Sd.Pol) (k:LK):Prop where
 eq:p=nP l f
 kn:k.kn=uU l
 kf:k.kf=f
 tg:k.tg=tg
 tc:k.tc=tc
 most:k.most=p.queue
 zF:k.px=none/\k.pn=0/\k.pc=0
def Z3:gm (LG fr):=λargs bl ch K=>match args,ch,bl with
 |[.agg l],.cn u::rest,⟨w0,⟨tg,(0,0)⟩,c0⟩::⟨w1,⟨tc,(0,0)⟩,c1⟩::bl2=>(match Zt (⟨w0,⟨tg,(0,0)⟩,c0⟩::⟨w1,⟨tc,(0,0)⟩,c1⟩::bl2) (nth l 5),Zt (⟨w0,⟨tg,(0,0)⟩,c0⟩::⟨w1,⟨tc,(0,0)⟩,c1⟩::bl2) (nth l 6),Zt (⟨w0,⟨tg,(0,0)⟩,c0⟩::⟨w1,⟨tc,(0,0)⟩,c1⟩::bl2) (nth l 7),Zt (⟨w0,⟨tg,(0,0)⟩,c0⟩::⟨w1,⟨tc,(0,0)⟩,c1⟩::bl2) (nth l 8)with
  |some (n0,f0),some (n1,f1),some (n2,f2),some (n3,f3)=>cond (tU l 0&&dk (bl2.length+2) (⟨w0,⟨tg,(0,0)⟩,c0⟩::⟨w1,⟨tc,(0,0)⟩,c1⟩::bl2))
   (EX l (k4 n0 n1 n2 n3)/\∀(p:Sd.Pol) (k:LK) (F:bN fr (bA k (ib p))),Uk l (k4 f0 f1 f2 f3) tg tc p k->cC=F.vs->cC=F.vr->
    K (.az [.ptr (bl2.length+2) 0,.int .i64 0]) (⟨w0,⟨tg,(0,0)⟩,c0⟩::⟨w1,⟨tc,(0,0)⟩,c1⟩::(bl2++[ew k (bl2.length+3) (ib p),gP (ib p)])) (.cn u::.core (cB k (ib p) F) []::rest)) False
  |_,_,_,_=>False)
 |_,_,_=>False
theorem Cg {ids:List Nat} {bl:List VB} {X:List av} {ms:List Nat} {w0 w:World} {v:V} {m:Nat} {f:Sd.Byt} (hl:ids.length=bl.length) (S:St ms w0 (lits ids ids bl++X) w) (h:Zt bl v=some (m,f)) (hm:m<=64) {c:Nat} (hc:m<=c):cz w (some ⟨ids.getD (sI v) 0,0,none⟩) m c f:=by
 unfold Zt at h;split at h
 ·rename_i i o n c';split at h
  ·rename_i wr m' f' r hb;obtain⟨rfl,rfl⟩:m'=m/\f'=f:=by simpa using h
   have ba:=(cA hl S hb).2;refine⟨by omega,hc,(λe=>nomatch e),λx e j hj=>?_⟩;obtain rfl:⟨ids.getD i 0,0,none⟩=x:=by simpa[sI]using e
   rw[Addr.add_lit,cell_of ba,Nat.zero_add];simp only[ab,cl,List.getElem?_toArray];rw[List.getElem?_append_left (by simpa using hj)];simp[List.getElem?_range hj]
  ·cases h
 ·cases h
theorem NX (k:LK) (p:Sd.Pol) (b bt:Nat):aE (ck b bt) b (ew k 3 (ib p))=⟨b,true,.cells (mz p k.ka k.kn k.kc ⟨4,p.i 55,-1,⟨0,0⟩,⟨0,0⟩,false⟩ k.bq (f3 ⟨0,false,λ_=>0⟩ ⟨0,false,λ_=>0⟩ ⟨0,false,λ_=>0⟩) bt 0 0 (p.i 39) ⟨2,4,0⟩ ⟨1,⟨0,0,0,0⟩,⟨0,0,0,0⟩,⟨2,4,0⟩⟩ (λ_=>0)) 105 (0,0)⟩:=by kernel_rfl
theorem Ul (p:Sd.Pol) (bt:Nat):aE [] bt (gP (ib p))=⟨bt,true,.cells (jy (false,⟨0,0⟩) (f3 ⟨false,⟨0,0⟩,0,(λ_=>0),⟨false,0,0⟩⟩ ⟨false,⟨0,0⟩,0,(λ_=>0),⟨false,0,0⟩⟩ ⟨false,⟨0,0⟩,0,(λ_=>0),⟨false,0,0⟩⟩) (p.i 42) (p.i 49)) 157 (0,0)⟩:=by kernel_rfl
theorem xX:Sound prog gS 11 (Z3 (fr:=fr)):=by
 intro args ids bl ch R ms w0 w K hg hl S hc;unfold Z3 at hc;split at hc
 ·rename_i l u rest w0' tg c0 w1' tc c1 bl2;split at hc
  ·rename_i n0 y0 n1 y1 n2 y2 n3 y3 e0 e1 e2 e3;cases hq:tU l 0&&dk (bl2.length+2) (⟨w0',⟨tg,(0,0)⟩,c0⟩::⟨w1',⟨tc,(0,0)⟩,c1⟩::bl2)with
   |false=>rw[hq]at hc;exact hc.elim
   |true=>
    rw[hq]at hc;simp only[Bool.and_eq_true]at hq;obtain⟨⟨ajt,hn,hk⟩,hK⟩:=hc;have m0:n0=uU l 0:=hn 0 (by decide);have m1:n1=uU l 1:=hn 1 (by decide);have m2:n2=uU l 2:=hn 2 (by decide);have m3:n3=uU l 3:=hn 3 (by decide);have Er:∀i,i<4->cz w (kyA ids l i) (uU l i) (Kp l i) (k4 y0 y1 y2 y3 i):=by
     intro i hi
     match i,hi with
     |0,_=>subst m0;exact Cg hl S e0 (hk 0 (by decide)).1 (hk 0 (by decide)).2
     |1,_=>subst m1;exact Cg hl S e1 (hk 1 (by decide)).1 (hk 1 (by decide)).2
     |2,_=>subst m2;exact Cg hl S e2 (hk 2 (by decide)).1 (hk 2 (by decide)).2
     |3,_=>subst m3;exact Cg hl S e3 (hk 3 (by decide)).1 (hk 3 (by decide)).2
     |i+4,h=>exact absurd h (by omega)
    have a9:(ao ids [.agg l]).toArray=#[.agg (kJ (nP l (k4 y0 y1 y2 y3)) (kyA ids l) (uU l) (Kp l))]:=by
     simp only[ao,den,Uj hq.1 (k4 y0 y1 y2 y3) ids]
    rw[a9];refine(Ui (nP l (k4 y0 y1 y2 y3)) (kyA ids l) (uU l) (Kp l) (k4 y0 y1 y2 y3) ajt w Er).mono ?_;rintro v w' ⟨b,bq,bt,xa,xc,B,rfl,hr,T⟩;have S2:=S.beside T (Wr.app (Wr.cons rfl (Wr.cons rfl (Wr.cons rfl Wr.nil))) (Wr.app (hr 0 (by decide)).wr (Wr.app (hr 1 (by decide)).wr (Wr.app (hr 2 (by decide)).wr (Wr.app (hr 3 (by decide)).wr Wr.nil)))))
    let k:LK:=mkK l (k4 y0 y1 y2 y3) xa xc bq tg tc
    let s:Sd.Scene:=ib (nP l (k4 y0 y1 y2 y3))
    let F:bN fr (bA k s):=⟨none,0,none,0,[⟨bq,true,.cells #[.slice none 0 0,.int .i64 k.most,.int .u64 0] 146 (0,0)⟩],[],[],[],B 0++(B 1++(B 2++(B 3++[]))),[],⟨[],none,0,0,[],rfl,iO _ _,trivial,rfl⟩,iO 6 75,iO 2 85,.nil,⟨B 0,B 1,B 2,B 3,[],rfl,hr 0 (by decide),hr 1 (by decide),hr 2 (by decide),hr 3 (by decide),vV 5⟩⟩
    have D8:ids.length=bl2.length+2:=by simpa using hl
    refine⟨_,[b,bt],_,_,?_,by simp[D8],?_,hK _ k F ⟨rfl,rfl,rfl,rfl,rfl,rfl,rfl,rfl,rfl⟩ rfl rfl⟩
    ·have h1:(ids++[b,bt]).getD (bl2.length+2) 0=b:=by rw[<-D8];simp[List.getD]
     simp only[den,ao,h1]
    ·have h2:(ids++[b,bt]).getD (bl2.length+3) 0=bt:=by rw[show bl2.length+3=ids.length+1 by omega];simp[List.getD]
     have e1:aE (ids++[b,bt]) b (ew k (bl2.length+3) s)=⟨b,true,.cells (mz (nP l (k4 y0 y1 y2 y3)) xa (uU l) xc ⟨4,(nP l (k4 y0 y1 y2 y3)).i 55,-1,⟨0,0⟩,⟨0,0⟩,false⟩ bq (f3 ⟨0,false,λ_=>0⟩ ⟨0,false,λ_=>0⟩ ⟨0,false,λ_=>0⟩) bt 0 0 ((nP l (k4 y0 y1 y2 y3)).i 39) ⟨2,4,0⟩ ⟨1,⟨0,0,0,0⟩,⟨0,0,0,0⟩,⟨2,4,0⟩⟩ (λ_=>0)) 105 (0,0)⟩:=by
      rw[zO (a:=b) b h2];exact NX k (nP l (k4 y0 y1 y2 y3)) b bt
     have e2:aE (ids++[b,bt]) bt (gP s)=⟨bt,true,.cells (jy (false,⟨0,0⟩) (f3 ⟨false,⟨0,0⟩,0,(λ_=>0),⟨false,0,0⟩⟩ ⟨false,⟨0,0⟩,0,(λ_=>0),⟨false,0,0⟩⟩ ⟨false,⟨0,0⟩,0,(λ_=>0),⟨false,0,0⟩⟩) ((nP l (k4 y0 y1 y2 y3)).i 42) ((nP l (k4 y0 y1 y2 y3)).i 49)) 157 (0,0)⟩:=by
      rw[cF (ids':=[]) (iW s)];exact Ul (nP l (k4 y0 y1 y2 y3)) bt
     have e3:(⟨w0',⟨tg,(0,0)⟩,c0⟩::⟨w1',⟨tc,(0,0)⟩,c1⟩::(bl2++[ew k (bl2.length+3) s,gP s]))=(⟨w0',⟨tg,(0,0)⟩,c0⟩::⟨w1',⟨tc,(0,0)⟩,c1⟩::bl2)++[ew k (bl2.length+3) s,gP s]:=rfl;rw[e3,aI _ _ _ _ hl,aJ _ _ (by rw[hl];exact hq.2)];show St ms w0 ((lits ids ids (⟨w0',⟨tg,(0,0)⟩,c0⟩::⟨w1',⟨tc,(0,0)⟩,c1⟩::bl2)++[aE (ids++[b,bt]) b (ew k (bl2.length+3) s),aE (ids++[b,bt]) bt (gP s)])++(du u++((F.B++[])++af rest R))) w';rw[e1,e2];have hF:F.B=⟨bq,true,.cells #[.slice none 0 0,.int .i64 ((nP l (k4 y0 y1 y2 y3)).i 48),.int .u64 0] 146 (0,0)⟩::(B 0++(B 1++(B 2++(B 3++[])))):=rfl;rw[hF];refine S2.perm ?_;show List.Perm (_++(_++(du u++af rest R))) _;exact cj λf=>by simp only[List.countP_append,List.countP_cons,List.countP_nil];omega
  ·exact hc.elim
 ·exact hc.elim
end Go.Proofs.YtggfpcggakghnaaGreatDoor
