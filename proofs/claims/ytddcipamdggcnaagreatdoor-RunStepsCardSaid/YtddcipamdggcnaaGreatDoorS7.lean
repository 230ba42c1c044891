/- Part 7 of the proof. -/
import Derived.Test.YtddcipamdggcnaaGreatDoorCards
import Derived.Test.YtddcipamdggcnaaGreatDoorTie
import Derived.Lib.SmallJoins
import Derived.SevenTiedAt
import Derived.LaidMore
import Derived.Stop.Joined
import Derived.Test.YtddcipamdggcnaaGreatDoorS6
set_option linter.all false
set_option maxRecDepth 100000
set_option maxHeartbeats 4000000
noncomputable section
open Sd(Ev aM aQ aX ai az kx)
open Go.Proofs.Tryz
open Go.Proofs.Tryz renaming prog->f6
open Go.IntKind (u8 u16 u32 u64 i64)
open BitVec renaming ofInt->qt
open Bool renaming true->af,false->ah,and_eq_true->bJ
open Go renaming Addr->aF,Program->aL,TypeId->aP,Value->aj,World->an,Operand->bA,FuncId->fG
open Go.Proofs.Tryz renaming checked->ahj
open Go.Proofs.YtddcipamdggcnaaGreatDoor.Rows renaming laid_sidestick_sha_roots->ahi
open Go.Sem renaming run_bind->bH
open Go.Src renaming ofSlice->qu
open Go.Value renaming okWide->DX,slice->tj
open Go.Value.slice renaming injEq->Zj
open Int renaming toNat_natCast->tf,le_refl->uy
open List renaming flatMap_def->GF,append_assoc->bZ,range->bg,mem_cons->cG,append_nil->cy,mem_append->dV,countP_append->ee,length_append->fH,getD->gh,map_cons->gx,countP_cons->j9,mem_singleton->jS,mem_append_left->kB,sublist_append_right->kM,eq_nil_of_length_eq_zero->kX,Perm->lO,countP_nil->lQ,map_congr_left->mB,mem_map->oC,mem_append_right->oF,not_mem_nil->py,mem_cons_of_mem->qA,mem_of_getElem?->rC,range_succ->vK,flatMap_append->vL
open List.Perm renaming append_right->BA,append_left->j8,trans->xm,refl->zM
open Nat renaming beq->aC,eq_of_beq_eq_true->cw,le_trans->h_,zero_le->oG,beq_refl->uv
open Option renaming some->aa,none->ag
open Option.some renaming inj->cP
open UInt8 renaming ofNat->Lg
open Go Go.RowKit Go.BigFrame Sx Vx
namespace Go.Proofs.YtddcipamdggcnaaGreatDoor
section
variable{fr:aQ->Nat×az}
structure jg where
 x1:Option aF
 c1:Nat
 x2:Option aF
 c2:Nat
 fv:Nat->lh
def wZ(t:ai)(v:jg):List V:=zq t (.raw (.slice v.x1 t.bE.length v.c1)) (.raw (.slice v.x2 t.aY.length v.c2))
structure zF(fr:aQ->Nat×az)(t:ai)(v:jg)(B:List av):Prop where
 s:∃b,dk 2 61 ((bg t.bE.length).flatMap (lK t.bE v.fv)) v.x1 t.bE.length v.c1 b/\∀y∈b,y∈B
 r:∃b,dk 6 64 ((bg t.aY.length).flatMap (fZ t.aY)) v.x2 t.aY.length v.c2 b/\∀y∈b,y∈B
 f:vz fr t.bE v.fv B
def vz.more{l:List (Int×aQ)}{fv:Nat->lh}{B B':List av}(h:vz fr l fv B)(hs:∀y∈B,y∈B'):vz fr l fv B':=λj hj=>by
 obtain⟨x,c,b,h1,h2,h3⟩:=h j hj;exact⟨x,c,b,h1,h2,λy hy=>hs y (h3 y hy)⟩
def zF.more{t:ai}{v:jg}{B B':List av}(h:zF fr t v B)(hs:∀y∈B,y∈B'):zF fr t v B':=by
 obtain⟨b1,s1,s2⟩:=h.s;obtain⟨b2,r1,r2⟩:=h.r;exact⟨⟨b1,s1,λy hy=>hs y (s2 y hy)⟩,⟨b2,r1,λy hy=>hs y (r2 y hy)⟩,h.f.more hs⟩
structure Gt(m m':eY fr)(t:ai)(rr:Nat->Sd.Rest)(v:jg):Prop where
 k:m'.k=m.k
 ic:m'.ic=m.ic
 it:m'.it=m.it
 a:m'.G.a=m.G.a
 s:m'.s=fE t
 ok:ql m'.k m'.s m'.F m'.G
 rs:f_ m'.G=rr
 f:∃e,m'.fB=e++m.fB
 at_:zF fr t v m'.fB
 nS:t.bE.length<=10000
 nR:t.aY.length<=10000
def Gt.R{m m':eY fr}{t:ai}{rr:Nat->Sd.Rest}{v:jg}(h:Gt m m' t rr v):m'.R=m.R:=by
 unfold eY.R;rw[h.ic,h.a]
def Yx(C:aM):MM fr:=λar m rest Kb=>match ar with
 |[.agg [.int .i64 kd,.int .i64 src,vv,.bool vl,.int .i64 a,.int .i64 b,.int .i64 c,.int .i64 d,.bool gv,.bool bad]]=>cond (Pk vv) (ql m.k m.s m.F m.G/\kx ⟨a,b,c,d⟩/\
  ∃eb:jy,EvB kd src vv rest eb/\∀(t:ai),t=(Sd.dU.go C cn ⟨m.s,f_ m.G⟩ (jM kd src eb ⟨vl,⟨a,b,c,d⟩,gv⟩ bad)).s->∀(v:jg)(m':eY fr),Gt m m' t (Sd.dU.go C cn ⟨m.s,f_ m.G⟩ (jM kd src eb ⟨vl,⟨a,b,c,d⟩,gv⟩ bad)).r v->Kb (.agg (wZ t v)) m' []) False
 |_=>False
def ayl(ht:Body (fr:=fr) 124 dE):XE 13 (Yx (fr:=fr) (aO aU)):=by
 intro u ae ar m rest Kb im R ms w0 w hM S;unfold Yx at hM;split at hM
 ·rename_i kd src vv vl a b c d gv bad;cases mK:Pk vv with
  |false=>rw[mK]at hM;exact hM.elim
  |true=>
   rw[mK]at hM;obtain⟨hok,hx,eb,⟨hv,hb,he,hn⟩,hK⟩:=hM;obtain⟨Q,hQ⟩:∃Q,(ax rest R).Perm (eb.B++Q):=by
    rcases hb with e|⟨bs,h1,b,h2,h3⟩
    ·exact⟨ax rest R,by rw[e];exact zM _⟩
    ·obtain⟨Q1,J1⟩:=afk h1 R;obtain⟨Q2,J2⟩:=awf h2;refine⟨Q2++Q1,J1.trans ?_⟩;rw[<-bZ,h3];exact BA _ J2
   have S1:St ms w0 (lits [0,1,m.ic,m.it,im] [0,1,m.ic,m.it,im] (jZ m.k m.s m.G)++ax (wU u m.k m.s m.F [] m.G eb) (m.fB++Q)) w:=by
    refine S.perm ?_;show lO (m.wW im++_) (m.wW im++(cA u++((m.F.B++[])++(m.G.B++(eb.B++(m.fB++Q))))));refine j8 _ ?_;have h1:(m.F.B++(m.fB++(m.G.B++(cA u++ax rest R)))).Perm ((m.F.B++(m.fB++(m.G.B++cA u)))++(eb.B++Q)):=by
     refine xm ?_ (j8 _ hQ);exact dW λf=>by simp only[ee];omega
    refine h1.trans ?_;exact dW λf=>by simp only[ee,lQ];omega
   have hg:Gl gS [0,1,m.ic,m.it,im]:=by
    intro g i dz;unfold gS at dz;split at dz
    ·obtain rfl:=cP dz;exact⟨sP,rfl⟩
    ·obtain rfl:=cP dz;exact⟨sP,rfl⟩
    ·cases dz
   have ve:=awd (u:=u) (kd:=kd) (src:=src) (v:=den ae vv) (sm:=⟨vl,⟨a,b,c,d⟩,gv⟩) (bad:=bad) ht hg hok (λe1 e2=>by rw[hv e1 e2];simp only[den]) he hn hx S1;have agx:(aJ [0,1,m.ic,m.it,im] [.ptr 4 0,.agg (dH kd src (den ae vv) ⟨vl,⟨a,b,c,d⟩,gv⟩ bad)]).toArray=(.pointer (aa ⟨im,0,ag⟩)::aJ ae [.agg [.int .i64 kd,.int .i64 src,vv,.bool vl,.int .i64 a,.int .i64 b,.int .i64 c,.int .i64 d,.bool gv,.bool bad]]).toArray:=
    awg (ae:=ae) (js:=[0,1,m.ic,m.it]) (kd:=kd) (src:=src) (sm:=⟨vl,⟨a,b,c,d⟩,gv⟩) (bad:=bad) mK im
   rw[agx]at ve;refine ve.mono ?_;clear ve agx S S1;rintro v w' ⟨s',F',gQ,bN,G',⟨hM',hA,hr,ha,hnS,hnR⟩,rfl,S2⟩;revert hK hA hr;generalize (Sd.dU.go (aO aU) cn ⟨m.s,f_ m.G⟩ (jM kd src eb ⟨vl,⟨a,b,c,d⟩,gv⟩ bad)).r=rr;generalize (Sd.dU.go (aO aU) cn ⟨m.s,f_ m.G⟩ (jM kd src eb ⟨vl,⟨a,b,c,d⟩,gv⟩ bad)).s=t;intro hK hA hr;obtain⟨rfl,nS,⟨fv,oS,hf⟩,nR,oR⟩:=hA;have hS':=bN.hS;rw[nS,oS]at hS';have hR':=bN.hR;rw[nR,oR]at hR'
   let vd:jg:=⟨bN.xS,bN.cS,bN.xR,bN.cR,fv⟩
   let m':eY fr:=⟨m.k,fE t,F',(bN.bS++(bN.bR++gQ))++m.fB,G',m.ic,m.it⟩
   have aV:zF fr t vd m'.fB:=⟨⟨bN.bS,hS',λy hy=>kB _ (kB _ hy)⟩,⟨bN.bR,hR',λy hy=>kB _ (oF _ (kB _ hy))⟩,
    vz.more hf λy hy=>kB _ (oF _ (oF _ hy))⟩
   refine⟨.agg (wZ t vd),m',[],[],rfl,?_,rfl,hK t rfl vd m' ⟨rfl,rfl,rfl,ha,rfl,hM',hr,⟨_,rfl⟩,aV,oM,oM⟩,?_⟩
   ·unfold Kc zq wZ zq;rw[nS,nR];simp only[den,ao,cl,fE];rfl
   ·have e2:m'.wW im=lits [0,1,m.ic,m.it,im] [0,1,m.ic,m.it,im] (jZ m.k (fE t) m.G):=by
     show lits _ _ [cx m.k,g_ m.k,fM m.k 3 (fE t),fA (fE t),wP 2 G']=_;rw[afw ha];rfl
    rw[e2];refine S2.perm ?_;show lO (_++(cA u++((F'.B++gQ)++(bN.bS++(bN.bR++(G'.B++(eb.B++(m.fB++Q)))))))) (_++([]++(F'.B++(((bN.bS++(bN.bR++gQ))++m.fB)++(G'.B++(cA u++ax rest R))))));refine j8 _ ?_;have h1:(([]:List av)++(F'.B++(((bN.bS++(bN.bR++gQ))++m.fB)++(G'.B++(cA u++ax rest R))))).Perm ((F'.B++(((bN.bS++(bN.bR++gQ))++m.fB)++(G'.B++cA u)))++(eb.B++Q)):=by
     refine xm ?_ (j8 _ hQ);exact dW λf=>by simp only[ee,lQ];omega
    refine xm ?_ h1.symm;exact dW λf=>by simp only[ee];omega
 ·exact hM.elim
def jN(ts:Nat->ai)(vs:Nat->jg)(j:Nat):List aj:=ao [] (wZ (ts j) (vs j))
def agy(ts:Nat->ai)(vs:Nat->jg)(j:Nat):(jN ts vs j).length=46:=by
 unfold jN wZ zq;simp[ao,cl,den]
structure FarB where
 b:List av
instance:Bl FarB:=⟨FarB.b⟩
def strF(n:Nat)(f:Nat->Int):ByteArray:=((bg n).map f).foldl (λr n=>r.push (Lg n.toNat)) ByteArray.empty
def cvtH{G:Type}[Bl G]:(bA->V)->Op->List VB->List G->VK G->Prop:=λe op bl ch K=>match op with
 |.convert s d x=>(match e x with
  |.raw (.slice a n c)=>∃f,((s=23/\d=9)/\∀w:an,(∀y∈ax ch [],w.heap[y.id]?=aa y.obj)->jx w a n c f)/\K (.raw (.string (strF n f))) bl ch
  |_=>False)
 |_=>False
def cvtH_ok{G:Type}[Bl G]{gl:Nat->Option Nat}:iF (G:=G) f6 gl cvtH:=by
 intro e op ae bl ch R ms w0 w K ρ o hg hl S bo ho h;unfold cvtH at h;split at h
 ·rename_i s d x;split at h
  ·rename_i a n c hx;obtain⟨f,⟨⟨rfl,rfl⟩,hk⟩,hK⟩:=h;obtain⟨-,h2,h3⟩:=hk w λy hy=>S.at' (oF _ (by rw[fk R ch];exact kB _ hy));have hc:(Conv.bytesToString (.slice a n c)).run f6 w=.ok (.string (strF n f)) w:=by
    cases a with
    |none=>
     obtain⟨rfl,-⟩:=h2 rfl;rfl
    |some a=>
     have:=run_loadCells (P:=f6) (w:=w) a n (λj=>.int .u8 (f j)) (h3 a rfl);exact run_bytesToString w a n c ((bg n).map f) (by rw[this];simp)
   refine⟨_,[],bl,ch,w,.inl ?_,by simpa using hl,by simpa using S,hK⟩;unfold execOp;simp only[ho,bo,hx,bH,den];rw[run_convert_bytes_string w _ _ 5 a n c kR kR kR,hc];rfl
  ·exact h.elim
 ·exact h.elim
def far1{w:an}{z T n c z0 tg:Nat}{bw:List aj}{x:Option aF}{B:List av}{g:Nat->List aj}{cs:Array aj}(h:dk z T bw x n c B)(hB:∀y∈B,w.heap[y.id]?=aa y.obj)(lH:w.heap[z0]?=aa (.cells cs tg (0,0)))(hg:bw=(bg n).flatMap g):
 ∃(i ty:Nat)(us:List aj),tj x n c=.slice (bif aC n 0 then x else aa ⟨i,0,ag⟩) n c/\w.heap[i]?=aa (.cells ((bg n).flatMap g++us).toArray ty (0,0)):=by
 rcases h.2.2 with⟨rfl,rfl,rfl,rfl⟩|⟨b,tail,rfl,rfl,_⟩
 ·exact⟨z0,tg,cs.toList,rfl,by simpa using lH⟩
 ·refine⟨b,T,tail,?_,?_⟩
  ·cases aC n 0<;>rfl
  ·rw[<-hg];exact hB _ (jS.2 rfl)
structure FarP(fr:aQ->Nat×az)(t:ai)(v v2:jg)(b0:Option VB)(B:List av):Prop where
 a:zF fr t v B
 b:zF fr t v2 B
 r:∃tg,b0=aa (fO tg)
 n:t.bE.length<=10000/\t.aY.length<=10000
def emF_ok:aK (G:=FarB) f6 cU []:=aK.nil
noncomputable def farF(lp:Nat->List V->Option (Lp FarB)):Ctx FarB:=vE f6 cU [] cvtH cvtH_ok lp
def far_call{f:fG}(lp:Nat->Nat->List aj->List aj->Nat->List V->Option (Lp FarB)){w:an}{L b1 b2:List av}(hL:∀y∈L,w.heap[y.id]?=aa y.obj){z T n c1 c2 z0 tg:Nat}{o1 o2:List aj}{x1 x2:Option aF}{g1 g2:Nat->List aj}{cs:Array aj}
 (lH:w.heap[z0]?=aa (.cells cs tg (0,0))) (h1:dk z T o1 x1 n c1 b1) (h2:dk z T o2 x2 n c2 b2) (m1:∀y∈b1,y∈L) (m2:∀y∈b2,y∈L) (e1:o1=(bg n).flatMap g1) (e2:o2=(bg n).flatMap g2)
 (cT:∀(t1 t2:Nat)(u1 u2:List aj),bz (farF (lp t1 t2 u1 u2)) 60 f [.dB 0 0 n c1 x1,.dB 1 0 n c2 x2] [jf t1 z n g1 u1,jf t2 z n g2 u2] [⟨L.map λy=>⟨y.id,ah,y.obj⟩⟩] λv _ _=>v=.bool af):
 ba f6 f #[.slice x1 n c1,.slice x2 n c2] w λv w'=>v=.bool af/\Ch [] w w':=by
 obtain⟨i1,t1,u1,r1,a1⟩:=far1 h1 (λy hy=>hL y (m1 y hy)) lH e1;obtain⟨i2,t2,u2,r2,a2⟩:=far1 h2 (λy hy=>hL y (m2 y hy)) lH e2;have S:St [] w (lits [i1,i2] [i1,i2] [jf t1 z n g1 u1,jf t2 z n g2 u2]++ax [(⟨L.map λy=>⟨y.id,ah,y.obj⟩⟩:FarB)] []) w:=by
  refine St.Yj ?_;intro y hy;have hy:y∈[aI [i1,i2] i1 (jf t1 z n g1 u1),aI [i1,i2] i2 (jf t2 z n g2 u2)]++((L.map λy=>⟨y.id,ah,y.obj⟩)++[]):=hy;rw[cy]at hy;rcases dV.1 hy with hy|hy
  ·simp only[cG,py,or_false]at hy;rcases hy with rfl|rfl
   ·exact⟨rfl,by simp only[aI,FT];exact a1⟩
   ·exact⟨rfl,by simp only[aI,FT];exact a2⟩
  ·obtain⟨x,hx,rfl⟩:=oC.1 hy;exact⟨rfl,hL x hx⟩
 have cN:#[tj x1 n c1,.slice x2 n c2]=(aJ [i1,i2] [.dB 0 0 n c1 x1,.dB 1 0 n c2 x2]).toArray:=by
  rw[r1,r2];rfl
 rw[cN];refine(eO (C:=farF (lp t1 t2 u1 u2)) emF_ok.T emF_ok.Q 60 (ae:=[i1,i2]) (λg i h=>nomatch h) rfl S (cT t1 t2 u1 u2)).mono ?_;rintro v w' ⟨x,aq,b9,ce,rfl,h1,S',rfl⟩;exact⟨by simp only[den],S'.ch⟩
def farC(A:ai->jg->V):dm (LG fr):=λak bl ch K=>∃(t:ai)(v v2:jg),(ak=[A t v,A t v2]/\FarP fr t v v2 bl[0]? (ax ch []))/\K (.bool af) bl ch
def sntA(t:ai)(v:jg):V:=.raw (.slice v.x1 t.bE.length v.c1)
def recA(t:ai)(v:jg):V:=.raw (.slice v.x2 t.aY.length v.c2)
def far_sound{gl:Nat->Option Nat}{f:fG}{A:ai->jg->V}(h:∀(t:ai)(v v2:jg)(L:List av)(w:an),zF fr t v L->zF fr t v2 L->t.bE.length<=10000->t.aY.length<=10000->(∃(z0 tg:Nat)(cs:Array aj),w.heap[z0]?=aa (.cells cs tg (0,0)))->(∀y∈L,w.heap[y.id]?=aa y.obj)->
 ∀ae,ba f6 f (aJ ae [A t v,A t v2]).toArray w λv w'=>v=.bool af/\Ch [] w w'):Sound f6 gl f (farC (fr:=fr) A):=by
 intro ak ae bl ch R ms w0 w K hg hl S hc;obtain⟨t,v,v2,⟨rfl,ha,hb,⟨tg,e0⟩,h1,h2⟩,hK⟩:=hc;refine(h t v v2 _ w ha hb h1 h2 ⟨_,tg,_,(gp hl S e0).2⟩ (λy hy=>S.at' (oF _ (by rw[fk R ch];exact kB _ hy))) ae).mono ?_;rintro v w' ⟨rfl,cz⟩;exact⟨.bool af,[],bl,ch,by simp only[den],by simpa using hl,by simpa using S.quiet cz,hK⟩
abbrev UpTo(n:Nat):={j:Nat //j<=n}
def idxP(j n:Nat)(g:Nat->List aj)(z:Nat)(N:Prop):Prop:=(0<=(j:Int)/\(j:Int)<(n:Int))/\((j:Int).toNat<n/\∀i,(g i).length=z)/\N
def idxP_ok{j n:Nat}{g:Nat->List aj}{z:Nat}{N:Prop}(h:j<n)(hz:∀i,(g i).length=z)(hN:N):idxP j n g z N:=⟨⟨oM,oM⟩,⟨oM,hz⟩,hN⟩
section
variable(n c1 c2:Nat)(x1 x2:Option aF)(t1 t2:Nat)(u1 u2:List aj)(B:FarB)(K:V->Prop)
def prV(j:Int):List V:=[.dB 0 0 n c1 x1,.dB 1 0 n c2 x2,.int .i64 j]
def prX(bl:List VB)(body:Nat->Prop->Prop):Prop:=cond ((n:Int)!=n) (K (.bool ah)) ((af=af/\uX (λy:UpTo n=>prV n c1 c2 x1 x2 y.1) (λ_=>bl) (λ_=>[B]) (prV n c1 c2 x1 x2 0) bl [B])/\
 ∀(y:UpTo n)(g:Nat->aj),cond (decide ((y.1:Int)<n)) (body y.1 (af=af/\uY (λy:UpTo n=>n-y.1) (λy=>prV n c1 c2 x1 x2 y.1) (λ_=>bl) (λ_=>[B]) y (prV n c1 c2 x1 x2 (i64.wrap ((y.1:Int)+1))) bl [B])) (K (.bool af)))
variable{n c1 c2 x1 x2 B K}in
def prX_ok{bl:List VB}{body:Nat->Prop->Prop}(hn:n<=10000)(hb:∀j N,j<n->N->body j N)(hK:K (.bool af)):prX n c1 c2 x1 x2 B K bl body:=by
 refine aN (λe=>by simp at e) λ_=>⟨⟨rfl,⟨0,oG _⟩,rfl,rfl,rfl⟩,λy g=>aN (λe=>?_) λ_=>hK⟩;have h:y.1<n:=by simpa using e
 refine hb _ _ h ⟨rfl,⟨y.1+1,h⟩,by show n-(y.1+1)<n-y.1;omega,?_,rfl,rfl⟩;rw[lg oM];rfl
section
variable(l:List Sd.Rec)
def prR:List VB:=[jf t1 6 n (fZ l) u1,jf t2 6 n (fZ l) u2]
def prRLp:Lp FarB:=we (X:=UpTo n) (λy=>n-y.1) 26 2 [0,1,5] (λy=>prV n c1 c2 x1 x2 y.1) (λ_=>prR n t1 t2 u1 u2 l) (λ_=>[B]) (λ_=>rfl) (λ_=>kR) (λ_=>rfl)
def eqQ(a b:Sd.Rec):Bool:=a.kind==b.kind&&(a.source==b.source&&(a.seq==b.seq&&(a.au==b.au&&(a.code==b.code&&(a.how==b.how&&af)))))
def prR_vc:bz (farF (λi _=>ja 0 (prRLp n c1 c2 x1 x2 t1 t2 u1 u2 B l) i)) 60 40 [.dB 0 0 n c1 x1,.dB 1 0 n c2 x2] (prR n t1 t2 u1 u2 l) [B] (λv _ _=>K v)=
 prX n c1 c2 x1 x2 B K (prR n t1 t2 u1 u2 l) λj N=>idxP j n (fZ l) 6 (idxP j n (fZ l) 6 (cond (!(eqQ (l.getD (j:Int).toNat default) (l.getD (j:Int).toNat default))) (K (.bool ah)) N)):=kR
end
section
variable(l:List (Int×aQ))(f1 f2:Nat->lh)
def prS:List VB:=[jf t1 2 n (lK l f1) u1,jf t2 2 n (lK l f2) u2]
def prSLp:Lp FarB:=we (X:=UpTo n) (λy=>n-y.1) 43 2 [0,1,5] (λy=>prV n c1 c2 x1 x2 y.1) (λ_=>prS n t1 t2 u1 u2 l f1 f2) (λ_=>[B]) (λ_=>rfl) (λ_=>kR) (λ_=>rfl)
def cvP(bl:List VB)(s:lh)(X:(Nat->Int)->Prop):Prop:=∃f,((23=23/\9=9)/\∀w:an,(∀y∈ax [B] [],w.heap[y.id]?=aa y.obj)->jx w s.x s.n s.c f)/\bl=bl/\X f
def prZ(j:Nat)(N:Prop)(X:((Nat->Int)->(Nat->Int)->Prop)->Prop):Prop:=
 idxP j n (lK l f1) 2 (idxP j n (lK l f2) 2 (cond ((l.getD (j:Int).toNat default).1!=(l.getD (j:Int).toNat default).1) (K (.bool ah)) (idxP j n (lK l f1) 2 (idxP j n (lK l f2) 2 (X λf g=>cond (!((strF (f1 (j:Int).toNat).n f).toList==(strF (f2 (j:Int).toNat).n g).toList)) (K (.bool ah)) N)))))
def prS_vc:bz (farF (λi _=>ja 0 (prSLp n c1 c2 x1 x2 t1 t2 u1 u2 B l f1 f2) i)) 60 39 [.dB 0 0 n c1 x1,.dB 1 0 n c2 x2] (prS n t1 t2 u1 u2 l f1 f2) [B] (λv _ _=>K v)=
 prX n c1 c2 x1 x2 B K (prS n t1 t2 u1 u2 l f1 f2) λj N=>prZ n K l f1 f2 j N (λZ=>cvP B (prS n t1 t2 u1 u2 l f1 f2) (f1 (j:Int).toNat) λf=>cvP B (prS n t1 t2 u1 u2 l f1 f2) (f2 (j:Int).toNat) λg=>Z f g)/\
  prZ n K l f1 f2 j N (λZ=>cvP B (prS n t1 t2 u1 u2 l f1 f2) (f2 (j:Int).toNat) λg=>cvP B (prS n t1 t2 u1 u2 l f1 f2) (f1 (j:Int).toNat) λf=>Z f g):=kR
end
end
section
variable{gl:Nat->Option Nat}
def fsame_rec:Sound f6 gl 40 (farC (fr:=fr) recA):=by
 refine far_sound λt v v2 L w ha hb _ hn ⟨z0,tg,cs,hr⟩ hL ae=>?_;obtain⟨b1,h1,m1⟩:=ha.r;obtain⟨b2,h2,m2⟩:=hb.r;exact far_call (λt1 t2 u1 u2 i _=>ja 0 (prRLp t.aY.length v.c2 v2.c2 v.x2 v2.x2 t1 t2 u1 u2 ⟨L.map λy=>⟨y.id,ah,y.obj⟩⟩ t.aY) i) hL hr h1 h2 m1 m2 rfl rfl λt1 t2 u1 u2=>by
  refine cast (prR_vc _ _ _ _ _ _ _ _ _ _ (λv=>v=.bool af) _).symm ?_;exact prX_ok hn (λj N h hN=>idxP_ok h (λ_=>rfl) (idxP_ok h (λ_=>rfl) (aN (λe=>by simp[eqQ]at e) λ_=>hN))) rfl
def fsame_snt:Sound f6 gl 39 (farC (fr:=fr) sntA):=by
 refine far_sound λt v v2 L w ha hb hn _ ⟨z0,tg,cs,hr⟩ hL ae=>?_;obtain⟨b1,h1,m1⟩:=ha.s;obtain⟨b2,h2,m2⟩:=hb.s
 let B:FarB:=⟨L.map λy=>⟨y.id,ah,y.obj⟩⟩
 have hB:∀w:an,(∀y∈ax [B] [],w.heap[y.id]?=aa y.obj)->∀y∈L,w.heap[y.id]?=aa y.obj:=λw h y hy=>h ⟨y.id,ah,y.obj⟩ (kB _ (oC.2 ⟨y,hy,rfl⟩));have hc:∀{fv:Nat->lh}{bl:List VB}{j:Nat}{X:(Nat->Int)->Prop},vz fr t.bE fv L->j<t.bE.length->X (fr (t.bE.getD j default).2).2->cvP B bl (fv (j:Int).toNat) X:=λ{fv bl j X} hf hj hX=>by
  obtain⟨x,c,b,e,h3,h4⟩:=hf j hj;rw[tf];refine⟨_,⟨⟨rfl,rfl⟩,λw hw=>?_⟩,rfl,hX⟩;rw[e];exact row8_rd h3 λy hy=>hB w hw y (h4 y hy)
 have hs:∀{j:Nat},j<t.bE.length->(strF (v.fv (j:Int).toNat).n (fr (t.bE.getD j default).2).2).toList=(strF (v2.fv (j:Int).toNat).n (fr (t.bE.getD j default).2).2).toList:=λ{j} hj=>by
  obtain⟨x,c,b,e,-,-⟩:=ha.f j hj;obtain⟨x',c',b',e',-,-⟩:=hb.f j hj;rw[tf,e,e']
 exact far_call (λt1 t2 u1 u2 i _=>ja 0 (prSLp t.bE.length v.c1 v2.c1 v.x1 v2.x1 t1 t2 u1 u2 B t.bE v.fv v2.fv) i) hL hr h1 h2 m1 m2 rfl rfl λt1 t2 u1 u2=>by
  refine cast (prS_vc _ _ _ _ _ _ _ _ _ _ (λv=>v=.bool af) _ _ _).symm ?_;have hz:∀{j:Nat}{N:Prop}{X:((Nat->Int)->(Nat->Int)->Prop)->Prop},j<t.bE.length->N->(∀Z:(Nat->Int)->(Nat->Int)->Prop,Z (fr (t.bE.getD j default).2).2 (fr (t.bE.getD j default).2).2->X Z)->prZ t.bE.length (λv=>v=.bool af) t.bE v.fv v2.fv j N X:=λh hN hX=>
   idxP_ok h (λ_=>rfl) (idxP_ok h (λ_=>rfl) (aN (λe=>by simp at e) λ_=>idxP_ok h (λ_=>rfl) (idxP_ok h (λ_=>rfl) (hX _ (aN (λe=>by rw[hs h]at e;simp at e) λ_=>hN)))))
  exact prX_ok hn (λj N h hN=>⟨hz h hN λZ hZ=>hc ha.f h (hc hb.f h hZ),hz h hN λZ hZ=>hc hb.f h (hc ha.f h hZ)⟩) rfl
end
def LSm2(fr:aQ->Nat×az):List (bT (LG fr)):=[⟨39,ah,farC sntA⟩,⟨40,ah,farC recA⟩]
section
variable(tg:aP)(n c1 c2:Nat)(x1 x2:Option aF)(t1:BT)(t2:Nat)(u1 u2:List aj)(ts:Nat->ai)(v1 v2:Nat->jg)(m1 m2:eY fr)(K:VK (LG fr))
def tdB2:List VB:=[fO tg,⟨ah,t1,[.gm 46 n (jN ts v1),.rest u1]⟩,jf t2 46 n (jN ts v2) u2]
def tdV2(j:Int):List V:=[.dB 1 0 n c1 x1,.dB 2 0 n c2 x2,.int .i64 j]
def tdLp2:Lp (LG fr):=we (X:=UpTo n) (λy=>n-y.1) 29 3 [0,1,5] (λy=>tdV2 n c1 c2 x1 x2 y.1) (λ_=>tdB2 tg n t1 t2 u1 u2 ts v1 v2) (λ_=>[.gu m1,.gu m2]) (λ_=>rfl) (λ_=>kR) (λ_=>rfl)
def eqH(f g:Nat->Int):Nat->Nat->Bool
 |0,_=>af
 |n+1,i=>f i==g i&&eqH f g n (i+1)
def eqH_self(f:Nat->Int):∀n i,eqH f f n i=af
 |0,_=>rfl
 |n+1,i=>by simp[eqH,eqH_self f n]
def actQ(s:ai):Bool:=s.c.mode==s.c.mode&&(s.c.pt.cls==s.c.pt.cls&&(x4E s.c.pt.now s.c.pt.now&&(labE s.c.gW s.c.gW&&(labE s.c.pt.ct s.c.pt.ct&&af))))
def tdFar(A:ai->jg->V)(j:Nat)(N:Prop):Prop:=∃(t:ai)(v v':jg),([A (ts j) (v1 j),A (ts j) (v2 j)]=[A t v,A t v']/\FarP fr t v v' (aa (fO tg)) (ax [LG.gu m1,.gu m2] []))/\N
def tdY2(j:Nat)(N:Prop):Prop:=idxP j n (jN ts v1) 46 (idxP j n (jN ts v2) 46 (tdFar tg ts v1 v2 m1 m2 sntA (j:Int).toNat (tdFar tg ts v1 v2 m1 m2 recA (j:Int).toNat
 (cond (actQ (ts (j:Int).toNat)) (cond (!(eqH (ts (j:Int).toNat).c.head (ts (j:Int).toNat).c.head 32 0)) (K (.bool ah) (tdB2 tg n t1 t2 u1 u2 ts v1 v2) [.gu m1,.gu m2]) N) (K (.bool ah) (tdB2 tg n t1 t2 u1 u2 ts v1 v2) [.gu m1,.gu m2])))))
def tdX2:Prop:=cond ((n:Int)!=n) (K (.bool ah) (tdB2 tg n t1 t2 u1 u2 ts v1 v2) [.gu m1,.gu m2]) ((af=af/\uX (λy:UpTo n=>tdV2 n c1 c2 x1 x2 y.1) (λ_=>tdB2 tg n t1 t2 u1 u2 ts v1 v2) (λ_=>[LG.gu m1,.gu m2]) (tdV2 n c1 c2 x1 x2 0) (tdB2 tg n t1 t2 u1 u2 ts v1 v2) [.gu m1,.gu m2])/\
 ∀(y:UpTo n)(g:Nat->aj),cond (decide ((y.1:Int)<n)) (tdY2 tg n t1 t2 u1 u2 ts v1 v2 m1 m2 K y.1 (af=af/\uY (λy:UpTo n=>n-y.1) (λy=>tdV2 n c1 c2 x1 x2 y.1) (λ_=>tdB2 tg n t1 t2 u1 u2 ts v1 v2) (λ_=>[LG.gu m1,.gu m2]) y (tdV2 n c1 c2 x1 x2 (i64.wrap ((y.1:Int)+1))) (tdB2 tg n t1 t2 u1 u2 ts v1 v2) [.gu m1,.gu m2])) (K (.bool af) (tdB2 tg n t1 t2 u1 u2 ts v1 v2) [.gu m1,.gu m2]))
def td2_vc:bz (vE f6 cU (LSm2 fr) B6 Ep (λi _=>ja 0 (tdLp2 tg n c1 c2 x1 x2 t1 t2 u1 u2 ts v1 v2 m1 m2) i)) 60 21 [.dB 1 0 n c1 x1,.dB 2 0 n c2 x2] (tdB2 tg n t1 t2 u1 u2 ts v1 v2) [.gu m1,.gu m2] (bG 3 K)=tdX2 tg n c1 c2 x1 x2 t1 t2 u1 u2 ts v1 v2 m1 m2 K:=kR
variable{tg n c1 c2 x1 x2 t1 t2 u1 u2 ts v1 v2 m1 m2 K}in
def td2_ok(hn:n<=60)(ht:∀j,j<n->zF fr (ts j) (v1 j) (ax [LG.gu m1,.gu m2] [])/\zF fr (ts j) (v2 j) (ax [LG.gu m1,.gu m2] [])/\(ts j).bE.length<=10000/\(ts j).aY.length<=10000)(hK:K (.bool af) (tdB2 tg n t1 t2 u1 u2 ts v1 v2) [.gu m1,.gu m2]):
 tdX2 tg n c1 c2 x1 x2 t1 t2 u1 u2 ts v1 v2 m1 m2 K:=by
 refine aN (λe=>by simp at e) λ_=>⟨⟨rfl,⟨0,oG _⟩,rfl,rfl,rfl⟩,λy g=>aN (λe=>?_) λ_=>hK⟩;have h:y.1<n:=by simpa using e
 obtain⟨h1,h2,h3⟩:=ht y.1 h;have hF:FarP fr (ts y.1) (v1 y.1) (v2 y.1) (aa (fO tg)) (ax [LG.gu m1,.gu m2] []):=⟨h1,h2,⟨tg,rfl⟩,h3⟩;unfold tdY2;rw[tf];refine idxP_ok h (λj=>agy _ _ j) (idxP_ok h (λj=>agy _ _ j) ⟨_,_,_,⟨rfl,hF⟩,_,_,_,⟨rfl,hF⟩,aN (λ_=>aN (λe=>by rw[eqH_self]at e;cases e) λ_=>⟨rfl,⟨y.1+1,h⟩,by show n-(y.1+1)<n-y.1;omega,?_,rfl,rfl⟩) λe=>by simp[actQ,labE_self,x4E_self]at e⟩);rw[lg oM];rfl
end
structure TdP(fr:aQ->Nat×az)(b0:Option VB)(n:Nat)(g1:Nat->List aj)(v:aj)(g:bD)(ts:Nat->ai)(v1 v2:Nat->jg)(B:List av):Prop where
 f:g1=jN ts v1
 v:v=.slice g.x n g.c
 z:g.z=46
 k:g.n=n
 os:g.os=(bg n).flatMap (jN ts v2)
 le:n<=60
 r:∃tg,b0=aa (fO tg)
 t:∀j,j<n->zF fr (ts j) (v1 j) B/\zF fr (ts j) (v2 j) B/\(ts j).bE.length<=10000/\(ts j).aY.length<=10000
def tdC2:dm (LG fr):=λak bl ch K=>match ak,ch with
 |[.dB i 0 n c x,.raw v],.br u::.gu a::.gu b::.hJ bs::.row g::rest=>(match bl[i]? with
  |some ⟨ah,ty,[.gm 46 n' f,.rest us]⟩=>cond (aC n' n) (∃(ts:Nat->ai)(v1 v2:Nat->jg),TdP fr bl[0]? n f v g ts v1 v2 (ax [LG.gu a,.gu b] [])/\K (.bool af) bl (.br u::.gu a::.gu b::.hJ bs::rest)) False
  |_=>False)
 |_,_=>False
def LSm2_ok:aK f6 cU (LSm2 fr):=
 have n:∀{c:dm (LG fr)},(ah=af->gZ c):=λe=>by cases e
 aK.cons ⟨fsame_snt,n⟩ (aK.cons ⟨fsame_rec,n⟩ aK.nil)
def td2_sound{gl:Nat->Option Nat}:Sound f6 gl 21 (tdC2 (fr:=fr)):=by
 intro ak ae bl ch R ms w0 w K hg hl S hc;unfold tdC2 at hc;split at hc
 ·rename_i i n c x v u a b bs g rest;split at hc
  ·rename_i ty n' f us hb;cases hq:aC n' n with
   |false=>rw[hq]at hc;exact hc.elim
   |true=>
    rw[hq]at hc;obtain rfl:=cw hq;obtain⟨ts,v1,v2,⟨rfl,rfl,hz,hn,yN,h60,⟨tg,e0⟩,ht⟩,hK⟩:=hc;obtain⟨T,z,os,gx,gn,gc,gb,gh⟩:=g;simp only at hz hn yN;subst hz hn yN;have m1:=wV (ae:=ae) ae bl hl i _ hb;have m0:=wV (ae:=ae) ae bl hl 0 _ e0;have S1:St ms w0 (gb++(lits ae ae bl++(cA u++(a.B++(b.B++(ni bs++ax rest R)))))) w:=by
     refine S.perm ?_;show lO (_++(cA u++(a.B++(b.B++(ni bs++(gb++ax rest R)))))) _;exact dW λf=>by simp only[ee];omega
    obtain⟨i2,t2,u2,r2,S2⟩:=Yw gh S1 (z0:=ae.getD 0 0) (tg:=tg) (cs:=ao ae (fO tg).c) rfl (by simp only[dV];exact .inl m0) rfl;have q0:aI ae (ae.getD 0 0) (fO tg)=aI [ae.getD 0 0,ae.getD i 0,i2] (ae.getD 0 0) (fO tg):=jL rfl;have q1:aI ae (ae.getD i 0) ⟨ah,ty,[.gm 46 gn (jN ts v1),.rest us]⟩=aI [ae.getD 0 0,ae.getD i 0,i2] (ae.getD i 0) ⟨ah,ty,[.gm 46 gn (jN ts v1),.rest us]⟩:=jL (b:=⟨ah,ty,[.gm 46 gn (jN ts v1),.rest us]⟩) rfl;have S3:=(S2.dup (qA _ (kB _ m1)) rfl).dup (qA _ (qA _ (kB _ m0))) rfl;have q2:(⟨i2,ah,.cells ((bg gn).flatMap (jN ts v2)++u2).toArray t2 (0,0)⟩:av)=aI [ae.getD 0 0,ae.getD i 0,i2] i2 (jf t2 46 gn (jN ts v2) u2):=by
     simp only[aI,FT];rfl
    rw[q0,q1,q2]at S3;have S4:St ms w0 (lits [ae.getD 0 0,ae.getD i 0,i2] [ae.getD 0 0,ae.getD i 0,i2] (tdB2 tg gn ty t2 us u2 ts v1 v2)++ax [LG.gu a,.gu b] (lits ae ae bl++(cA u++(ni bs++ax rest R)))) w:=by
     refine S3.perm ?_;show lO (_::_::_::(lits ae ae bl++(cA u++(a.B++(b.B++(ni bs++ax rest R)))))) ([_,_,_]++(a.B++(b.B++(lits ae ae bl++(cA u++(ni bs++ax rest R))))));exact dW λf=>by simp only[ee,j9,lQ];omega
    have cN:aJ ae [.dB i 0 gn c x,.raw (.slice gx gn gc)]=aJ [ae.getD 0 0,ae.getD i 0,i2] [.dB 1 0 gn c x,.dB 2 0 gn gc gx]:=by
     simp only[aJ,den];rw[r2];rfl
    rw[cN];refine(eO (C:=vE f6 cU (LSm2 fr) B6 Ep (λj _=>ja 0 (tdLp2 tg gn c gc x gx ty t2 us u2 ts v1 v2 a b) j)) LSm2_ok.T LSm2_ok.Q 60 (λg i h=>nomatch h) rfl S4 (by
     rw[td2_vc (K:=λv bl ch=>v=.bool af/\bl=tdB2 tg gn ty t2 us u2 ts v1 v2/\ch=[LG.gu a,.gu b])];exact td2_ok h60 ht ⟨rfl,rfl,rfl⟩)).mono ?_
    rintro v w' ⟨y,aq,b9,ce,rfl,h1,S',sd⟩;obtain⟨v2,cj,ci,hv,cK,S5,rfl,rfl,rfl⟩:=ig (n0:=3) h1 sP S' sd;obtain rfl:cj=[]:=kX (by simpa[tdB2]using cK);have q_:([ae.getD 0 0,ae.getD i 0,i2]++aq).take 3=[ae.getD 0 0,ae.getD i 0,i2]:=rfl;rw[q_,cy]at S5;refine⟨.bool af,[],bl,_,by rw[hv];simp only[den],by simpa using hl,?_,hK⟩;rw[cy];have S6:St ms w0 (a.B++(b.B++(lits ae ae bl++(cA u++(ni bs++ax rest R))))) w':=S5.sub (kM _ _);refine S6.perm ?_;show lO _ (_++(cA u++(a.B++(b.B++(ni bs++ax rest R)))));exact dW λf=>by simp only[ee];omega
  ·exact hc.elim
 ·exact hc.elim
def Yy(l:List V):VB:=⟨af,⟨28,(0,0)⟩,l⟩
def aym(x:my)(f:Nat->Nat×az):VB:=Yy [.fi ⟨x.q,f⟩ x.ka x.kn x.kc]
def ayn(x:my)(u:an)(n d:Nat->Nat):List VB:=[hU (n 0) (d 0) (mw (x.kn 0) (dP u (x.ka 0))),hU (n 1) (d 1) (mw (x.kn 1) (dP u (x.ka 1))),hU (n 2) (d 2) (mw (x.kn 2) (dP u (x.ka 2))),hU (n 3) (d 3) (mw (x.kn 3) (dP u (x.ka 3)))]
def s8(k:LK)(p2:aX)(F:bx fr (bd k (mz p2)))(ic it:Nat)(a:Nat->Nat):eY fr:=⟨k,bV (mz p2),F,[],.new a,ic,it⟩
def mkP(bl:List VB)(k:LK)(p2:aX)(it:Nat):Prop:=bl=bl/\nr k it (mz p2)=nr k it (bV (mz p2))/\p2.da=p2.da/\p2.jk=p2.jk
def ayo(bl:List VB)(b:VB):Prop:=∃e,bl++[b]=bl++e
section
variable(C:aM)(tg tc:aP)(ty:BT)(u:an)(x:my)(f:Nat->Nat×az)(o n c:Nat)(a:Option aF)(es:Nat->eT)(aw a9:List aj)
end
def ayp(es:Nat->eT)(n:Nat)(bs:List jz):Prop:=∀j,j<n->∃b∈bs,(es j).x=b.x/\(es j).n=b.n/\(es j).c=b.c/\b.n<=120/\By b.f/\kx (es j).s.x
def agz(tg:aP)(u:an)(es:Nat->eT)(o n c:Nat)(aw:List aj)(X:(dN:Nat->eT)->(bs:List jz)->Option aF->Nat->Nat->List aj->Nat->Prop):Prop:=
 ∃Gu:Nat->eT,(kz es=kz Gu/\n=n/\(∀j,j<n->o=aw.length)/\n<=c/\(∃t,aa (fO tg)=aa (fO t))/\∀j,j<n->jx u (Gu j).x (Gu j).n (Gu j).c (dP u (Gu j).x))/\
  ∀(dN:Nat->eT)(bs:List jz)(x:Option aF)(c' sV:Nat)(us:List aj),DD u Gu dN (cY 60 n) bs->X dN bs x c' sV us (cY 60 n)
def Yz(tg tc:aP)(R:VB)(m:eY fr):Prop:=aa (fO tg)=aa (cx m.k)/\aa (Kk tc)=aa (g_ m.k)/\aa R=aa m.R
def agA(j N:Nat):Prop:=0<=(j:Int)/\(j:Int)<(N:Int)
def evP(es:Nat->eT)(j N:Nat):Prop:=(j:Int).toNat<N/\∀i,(kz es i).length=10
section
variable(C:aM)(tg tc:aP)(ty:BT)(u:an)(x:my)(f:Nat->Nat×az)(o n c:Nat)(a:Option aF)(es:Nat->eT)(aw a9:List aj)
variable(K:V->Prop)
end
def ayq{k:LK}{p2:aX}{F:bx fr (bd k (mz p2))}(hC:ft k (mz p2))(hm:k.most=p2.queue)(hp:Du k)(v1:cC=F.vs)(v2:cC=F.vr)(ic it:Nat)(b:Nat->Nat):ql (fr:=fr) (s8 k p2 F ic it b).k (s8 k p2 F ic it b).s (s8 k p2 F ic it b).F (s8 k p2 F ic it b).G:=
 ⟨by show ft k (bV (mz p2));rw[nu];exact hC,hm.symm,hp,v1,v2,λi _ j=>⟨uy 0,by show(0:Int)<=255;decide⟩,λi _=>oG 36⟩
section
variable{tg tc:aP}{ty:BT}{u:an}{x:my}{f:Nat->Nat×az}{o n c:Nat}{a:Option aF}{es:Nat->eT}{aw a9:List aj}
end
structure DL(u:an)(es:Nat->eT)(o n:Nat)(aw:List aj):Prop where
 po:∀j,j<n->o=aw.length
 rd:∀j,j<n->jx u (es j).x (es j).n (es j).c (dP u (es j).x)
 x4:∀j,kx (es j).s.x
def DL.cp{u:an}{es dN:Nat->eT}{o n N:Nat}{aw:List aj}{bs:List jz}(h:DL u es o n aw)(hF:DD u es dN N bs):ayp dN N bs:=by
 intro j hj;obtain⟨b,q1,q2,q3,q4⟩:=hF.each j hj;refine⟨b,rC q1,by rw[q2];rfl,by rw[q2];rfl,by rw[q2];rfl,by rw[q3];unfold cY;omega,by rw[q4];exact ae4 u _,by rw[q2];exact h.x4 j⟩
def DL.few{tg:aP}{u:an}{es:Nat->eT}{o n c:Nat}{aw:List aj}{X:(dN:Nat->eT)->(bs:List jz)->Option aF->Nat->Nat->List aj->Nat->Prop}(h:DL u es o n aw)(hn:n<=c)
 (hX:∀dN bs x c' sV us,DD u es dN (cY 60 n) bs->X dN bs x c' sV us (cY 60 n)):agz tg u es o n c aw X:=⟨es,⟨rfl,rfl,h.po,hn,⟨tg,rfl⟩,h.rd⟩,hX⟩
def ayr{j N:Nat}(h:j<N):agA j N:=⟨oM,oM⟩
def Bm(j:Nat):((j:Int)).toNat=j:=tf j
def agB{tg tc:aP}{m:eY fr}{R:VB}(h1:m.k.tg=tg)(h2:m.k.tc=tc)(h3:m.R=R):Yz tg tc R m:=by
 subst h1 h2 h3;exact⟨rfl,rfl,rfl⟩
end
end Go.Proofs.YtddcipamdggcnaaGreatDoor
namespace Sd
def dU.run(C:aM)(crc:az->Nat->Int)(m:dU)(ev:Nat->Ev):Nat->dU
 |0=>m
 |n+1=>(dU.run C crc m ev n).go C crc (ev n)
def dU.of(p:aX):dU:=⟨⟨.new p,[],[]⟩,λ_=>(0,λ_=>0)⟩
end Sd
namespace Go.Proofs.YtddcipamdggcnaaGreatDoor
variable{fr:aQ->Nat×az}
def Gv(es:Nat->eT)(bs:List jz)(j:Nat):Ev:=⟨(es j).kind,(es j).src,(match bs[j]? with|some b=>b.n|none=>0),(match bs[j]? with|some b=>b.f|none=>λ_=>0),(es j).s,(es j).bad⟩
def PV(es:Nat->eT)(n:Nat)(bs:List jz):Prop:=∀j,j<n->∃b,bs[j]?=aa b/\(es j).x=b.x/\(es j).n=b.n/\(es j).c=b.c/\b.n<=120/\By b.f/\kx (es j).s.x
structure Bn(fr:aQ->Nat×az)(P:aX)(ev:Nat->Ev)(mc:eY fr)(ts:Nat->ai)(vs:Nat->jg)(j:Nat):Prop where
 ok:ql mc.k mc.s mc.F mc.G
 s:mc.s=fE ((Sd.dU.of P).run (aO aU) cn ev j).s
 r:f_ mc.G=((Sd.dU.of P).run (aO aU) cn ev j).r
 t:∀i,i<j->ts i=((Sd.dU.of P).run (aO aU) cn ev (i+1)).s/\zF fr (ts i) (vs i) mc.fB/\(ts i).bE.length<=10000/\(ts i).aY.length<=10000
structure pg(fr:aQ->Nat×az)(tg tc:aP)(u:an)(x:my)(n:Nat) where
 p:Nat->Int
 m:Nat->Nat
 d:Nat->Nat
 hM:Made x p m
 mc:eY fr
 YB:mc.k.tg=tg
 t_:mc.k.tc=tc
 es:Nat->eT
 bs:List jz
 ev:PV es n bs
 ex:Option aF
 ec:Nat
 et:Nat
 eu:List aj
 j:Nat
 hj:j<=n
 ts:Nat->ai
 vs:Nat->jg
 ok:Bn fr (nP (oz 4 p m d) (afW x u)) (Gv es bs) mc ts vs j
 x:Option aF
 c:Nat
 bk:List av
 h:dk 46 48 ((bg j).flatMap (jN ts vs)) x j c bk
def agC(ts:Nat->ai)(vs:Nat->jg)(x:Option aF)(j c:Nat)(bk:List av)(h:dk 46 48 ((bg j).flatMap (jN ts vs)) x j c bk):bD:=⟨48,46,(bg j).flatMap (jN ts vs),x,j,c,bk,h⟩
def YC:bD:=⟨48,46,[],ag,0,0,[],pF 46 _⟩
noncomputable def zsL:List V:=match lX f6 55 with|some z=>z|none=>[]
def KB(x:Option aF)(n c:Nat):VB:=⟨af,⟨101,(0,0)⟩,[.raw (.slice x n c)]⟩
section
variable(C:aM)(tg tc:aP)(ty:BT)(u:an)(x:my)(f:Nat->Nat×az)(o n c:Nat)(a:Option aF)(es:Nat->eT)(aw a9:List aj)
def YD(p:Nat->Int)(m d:Nat->Nat)(et:Nat)(dN:Nat->eT)(eu:List aj):List VB:=fO tg::Kk tc::nH ty n es aw a9::aym x f::(ayn x u m d++[Yy (oz 4 p m d),jf et 10 (cY 60 n) (kz dN) eu])
def Gw(p:Nat->Int)(m d:Nat->Nat)(et:Nat)(dN:Nat->eT)(eu:List aj):List VB:=YD tg tc ty u x f n es aw a9 p m d et dN eu++[Yy (oz 4 p m d),⟨af,⟨55,(0,0)⟩,zsL⟩]
def PW(y:pg fr tg tc u x (cY 60 n))(j:Int):List V:=[.ptr 11 0,.ptr 12 0,.ptr 13 0,.dB 9 0 (cY 60 n) y.ec y.ex,.int .i64 (cY 60 n),.int .i64 j]
def agD(y:pg fr tg tc u x (cY 60 n))(l:VB):List VB:=Gw tg tc ty u x f n es aw a9 y.p y.m y.d y.et y.es y.eu++[y.mc.R,l]
def YE(y:pg fr tg tc u x (cY 60 n)):List VB:=agD tg tc ty u x f n es aw a9 y (KB y.x y.j y.c)
def YF(y:pg fr tg tc u x (cY 60 n)):List (LG fr):=[.br u,.gu y.mc,.hJ y.bs,.row (agC y.ts y.vs y.x y.j y.c y.bk y.h)]
def PX:Lp (LG fr):=we (X:=pg fr tg tc u x (cY 60 n)) (λy=>cY 60 n-y.j) 31 14 [5,7,8,13,14,15] (λy=>PW tg tc u x n y y.j) (YE tg tc ty u x f n es aw a9) (YF tg tc u x n) (λ_=>rfl) (λ_=>kR) (λ_=>rfl)
def agE(C:aM)(m:eY fr)(e:eT)(rest:List (LG fr))(X:ai->jg->eY fr->Prop):Prop:=
 ql m.k m.s m.F m.G/\kx ⟨e.s.x.a,e.s.x.b,e.s.x.c,e.s.x.d⟩/\∃eb:jy,EvB e.kind e.src (.raw (.slice e.x e.n e.c)) rest eb/\
  ∀(t:ai),t=(Sd.dU.go C cn ⟨m.s,f_ m.G⟩ (jM e.kind e.src eb ⟨e.s.valid,⟨e.s.x.a,e.s.x.b,e.s.x.c,e.s.x.d⟩,e.s.qG⟩ e.bad)).s->∀(v:jg)(m':eY fr),Gt m m' t (Sd.dU.go C cn ⟨m.s,f_ m.G⟩ (jM e.kind e.src eb ⟨e.s.valid,⟨e.s.x.a,e.s.x.b,e.s.x.c,e.s.x.d⟩,e.s.qG⟩ e.bad)).r v->X t v m'
def YH(y:pg fr tg tc u x (cY 60 n)):Prop:=
 let N:=cY 60 n
 agA y.j N/\evP y.es y.j N/\Yz tg tc y.mc.R y.mc/\agE C y.mc (y.es (y.j:Int).toNat) ([]++[.hJ y.bs,.row (agC y.ts y.vs y.x y.j y.c y.bk y.h)]) λt v m'=>
  (V.raw (.slice y.x y.j y.c)=V.raw (.slice y.x y.j y.c)/\y.j+1<=1000000)/\∀(x':Option aF)(c':Nat)(bk:List av)(h:dk 46 48 ((bg y.j).flatMap (jN y.ts y.vs)++ao [] (wZ t v)) x' (y.j+1) c' bk),
   af=af/\uY (λy=>cY 60 n-y.j) (λy=>PW tg tc u x n y y.j) (YE tg tc ty u x f n es aw a9) (YF (fr:=fr) tg tc u x n) y (PW tg tc u x n y (i64.wrap ((y.j:Int)+1))) (agD tg tc ty u x f n es aw a9 y (KB x' (y.j+1) c')) [.br u,.gu m',.hJ y.bs,.row ⟨48,46,(bg y.j).flatMap (jN y.ts y.vs)++ao [] (wZ t v),x',y.j+1,c',bk,h⟩]
variable(Lf:(y:pg fr tg tc u x (cY 60 n))->Option aF->Nat->Nat->List aj->Prop)
def ays(y:pg fr tg tc u x (cY 60 n)):Prop:=Yz tg tc y.mc.R y.mc/\y.mc.s.c.p.queue=y.mc.k.most/\∀(za:Option aF)(zc zt:Nat)(zu:List aj),Lf y za zc zt zu
def ruX(p:Nat->Int)(m d:Nat->Nat)(et:Nat)(dN:Nat->eT)(eu:List aj)(ec:Nat)(ex:Option aF)(bs:List jz):Prop:=
 Py (oz 4 p m d) (n4 m)/\∀(p2:aX)(k:LK)(F:bx fr (bd k (mz p2)))(hN:XT (oz 4 p m d) (afW x u) tg tc p2 k)(v1:cC=F.vs)(v2:cC=F.vr),
  mkP (Gw tg tc ty u x f n es aw a9 p m d et dN eu) k p2 17/\∀(ic it:Nat)(b:Nat->Nat),ayo (Gw tg tc ty u x f n es aw a9 p m d et dN eu) (s8 k p2 F ic it b).R/\
   (af=af/\uX (λy=>PW (fr:=fr) tg tc u x n y y.j) (YE tg tc ty u x f n es aw a9) (YF tg tc u x n) [.ptr 11 0,.ptr 12 0,.ptr 13 0,.dB 9 0 (cY 60 n) ec ex,.int .i64 (cY 60 n),.int .i64 0] (Gw tg tc ty u x f n es aw a9 p m d et dN eu++[(s8 k p2 F ic it b).R,KB ag 0 0]) [.br u,.gu (s8 k p2 F ic it b),.hJ bs,.row YC])/\
   ∀(y:pg fr tg tc u x (cY 60 n))(g:Nat->aj),cond (decide ((y.j:Int)<(cY 60 n:Nat))) (YH C tg tc ty u x f n es aw a9 y) (ays tg tc u x n Lf y)
def YI(fr:aQ->Nat×az)(P:aL)(C:aM):List (bT (LG fr)):=[⟨11,af,PQ P⟩,⟨13,ah,Gc (Yx C)⟩,⟨14,af,Gc Kw⟩,⟨20,af,Gs⟩]
variable(K:VK (LG fr))
end
end Go.Proofs.YtddcipamdggcnaaGreatDoor
namespace Go.Proofs.YtddcipamdggcnaaGreatDoor
section
variable{fr:aQ->Nat×az}
def newOK4{p:Nat->Int}{m d:Nat->Nat}(h1:Py (oz 4 p m d) m):Py (oz 4 p m d) (n4 m):=⟨h1.code,λj hj=>by
 rw[<-h1.n j hj]
 match j,hj with
 |0,_=>rfl
 |1,_=>rfl
 |2,_=>rfl
 |3,_=>rfl
 |j+4,h=>exact absurd h oM,h1.k⟩
section
variable{tg tc:aP}{ty:BT}{u:an}{x:my}{f:Nat->Nat×az}{n:Nat}{es:Nat->eT}{aw a9:List aj}{Lf:(y:pg fr tg tc u x (cY 60 n))->Option aF->Nat->Nat->List aj->Prop}
def ayt{p2:aX}{k:LK}{F:bx fr (bd k (mz p2))}{ev:Nat->Ev}{ic it:Nat}{b:Nat->Nat}(h:ql (fr:=fr) (s8 k p2 F ic it b).k (s8 k p2 F ic it b).s (s8 k p2 F ic it b).F (s8 k p2 F ic it b).G):Bn fr p2 ev (s8 k p2 F ic it b) (λ_=>mz p2) (λ_=>⟨ag,0,ag,0,λ_=>⟨ag,0,0⟩⟩) 0:=
 ⟨h,by show bV (mz p2)=fE (mz p2);rw[nu];rfl,rfl,λi hi=>absurd hi (Nat.not_lt_zero _)⟩
def ayu{m:eY fr}{es:Nat->eT}{n j:Nat}{bs:List jz}{rest:List (LG fr)}{X:ai->jg->eY fr->Prop}(hm:ql m.k m.s m.F m.G)(he:PV es n bs)(hj:j<n)(hb:LG.hJ bs∈rest)
 (hX:∀(t:ai),(t=(Sd.dU.go (aO aU) cn ⟨m.s,f_ m.G⟩ (Gv es bs j)).s)->∀(v:jg)(m':eY fr),Gt m m' t (Sd.dU.go (aO aU) cn ⟨m.s,f_ m.G⟩ (Gv es bs j)).r v->X t v m'):agE (aO aU) m (es j) rest X:=by
 obtain⟨b,iM,e1,e2,e3,e4,e5,e6⟩:=he j hj;have Ar:Gv es bs j=jM (es j).kind (es j).src b.red (es j).s (es j).bad:=by
  unfold Gv;rw[iM];rfl
 rw[Ar]at hX;refine⟨hm,e6,b.red,⟨λ_ _=>?_,.inr ⟨bs,hb,b,rC iM,rfl⟩,e5,h_ e4 dC⟩,λt ht v m' hR=>hX t ht v m' hR⟩;rw[e1,e2,e3];rfl
def Bn.next{P:aX}{ev:Nat->Ev}{mc m':eY fr}{ts:Nat->ai}{vs:Nat->jg}{j:Nat}{t:ai}{v:jg}(h:Bn fr P ev mc ts vs j)(ht:t=(Sd.dU.go (aO aU) cn ⟨mc.s,f_ mc.G⟩ (ev j)).s)
 (hF:Gt mc m' t (Sd.dU.go (aO aU) cn ⟨mc.s,f_ mc.G⟩ (ev j)).r v):Bn fr P ev m' (λi=>if i=j then t else ts i) (λi=>if i=j then v else vs i) (j+1):=by
 have e:Sd.dU.go (aO aU) cn ⟨mc.s,f_ mc.G⟩ (ev j)=(Sd.dU.of P).run (aO aU) cn ev (j+1):=by
  rw[h.s,h.r];rfl
 rw[e]at ht hF;refine⟨hF.ok,by rw[hF.s,ht],hF.rs,λi hi=>?_⟩;by_cases mW:i=j
 ·subst mW;rw[if_pos rfl,if_pos rfl];exact⟨ht,hF.at_,hF.nS,hF.nR⟩
 ·rw[if_neg mW,if_neg mW];obtain⟨q1,q2,q3⟩:=h.t i oM;obtain⟨e',he'⟩:=hF.f;exact⟨q1,q2.more λy hy=>by rw[he'];exact oF _ hy,q3⟩
def agF{ts:Nat->ai}{vs:Nat->jg}{j:Nat}{t:ai}{v:jg}:(bg j).flatMap (jN ts vs)++ao [] (wZ t v)=(bg (j+1)).flatMap (jN (λi=>if i=j then t else ts i) (λi=>if i=j then v else vs i)):=by
 rw[vK,vL];congr 1
 ·simp only[GF];congr 1;apply mB;intro i hi;have hi:=List.mem_range.1 hi;have mW:¬i=j:=oM;show _=ao [] (wZ (if i=j then t else ts i) (if i=j then v else vs i));rw[if_neg mW,if_neg mW];rfl
 ·rw[List.flatMap_cons,List.flatMap_nil,cy];show _=ao [] (wZ (if j=j then t else ts j) (if j=j then v else vs j));rw[if_pos rfl,if_pos rfl]
def ayv(y:pg fr tg tc u x (cY 60 n))(dy:y.j<cY 60 n):YH (aO aU) tg tc ty u x f n es aw a9 y:=by
 have uj:=Bm y.j;have h60:cY 60 n<=60:=by unfold cY;omega
 unfold YH;rw[uj];refine⟨ayr dy,⟨by rw[uj];exact dy,λi=>rfl⟩,agB y.YB y.t_ rfl,?_⟩;refine ayu y.ok.ok y.ev dy sP λt ht v m' hF=>⟨⟨rfl,oM⟩,λx' c' bk h=>⟨rfl,?_⟩⟩;have hN:=y.ok.next ht hF;refine⟨⟨y.p,y.m,y.d,y.hM,m',by rw[hF.k];exact y.YB,by rw[hF.k];exact y.t_,y.es,y.bs,y.ev,y.ex,y.ec,y.et,y.eu,y.j+1,dy,_,_,hN,x',c',bk,agF▸h⟩,by show cY 60 n-(y.j+1)<cY 60 n-y.j;omega,?_,?_,?_⟩
 ·rw[lg oM];rfl
 ·show Gw tg tc ty u x f n es aw a9 y.p y.m y.d y.et y.es y.eu++[y.mc.R,KB x' (y.j+1) c']=Gw tg tc ty u x f n es aw a9 y.p y.m y.d y.et y.es y.eu++[m'.R,KB x' (y.j+1) c'];rw[hF.R]
 ·show[LG.br u,.gu m',.hJ y.bs,.row _]=[LG.br u,.gu m',.hJ y.bs,.row _];rw[agu agF h];rfl
def ayw{p:Nat->Int}{m d:Nat->Nat}{et:Nat}{dN:Nat->eT}{eu:List aj}{ec:Nat}{ex:Option aF}{bs:List jz}(hM:Made x p m)(Ar:PV dN (cY 60 n) bs)
 (hK:∀y:pg fr tg tc u x (cY 60 n),y.j=cY 60 n->∀(za:Option aF)(zc zt:Nat)(zu:List aj),Lf y za zc zt zu):ruX (aO aU) tg tc ty u x f n es aw a9 Lf p m d et dN eu ec ex bs:=by
 have hb:∀j,j<4->1<=m j/\m j<=64:=λj hj=>by rw[hM.n j];exact afI _
 obtain⟨h1,h2⟩:=afV (m:=4) (d:=d) hM.I hM.o hb;refine⟨newOK4 h1,λp2 k F hN v1 v2=>⟨⟨rfl,by rw[nu],rfl,rfl⟩,λic it b=>⟨⟨_,rfl⟩,?_⟩⟩⟩;have hC:=awY hN (h2 _) (λj hj=>by rw[PD _ _ _ _ hj];exact hb j hj);have h0:=ayt (ev:=Gv dN bs) (ayq (fr:=fr) (F:=F) hC hN.most hN.qZ v1 v2 ic it b);refine⟨⟨rfl,⟨p,m,d,hM,s8 k p2 F ic it b,hN.tg,hN.tc,dN,bs,Ar,ex,ec,et,eu,0,oG _,_,_,by rw[<-hN.eq];exact h0,ag,0,[],pF 46 _⟩,rfl,rfl,rfl⟩,λy g=>?_⟩;refine aN (λe=>ayv y (by simpa using e)) (λe=>⟨agB y.YB y.t_ rfl,y.ok.ok.most,hK y ?_⟩);have h3:¬y.j<cY 60 n:=by simpa using e
 have:=y.hj;omega
end
def agG(K:VK (LG fr)):VK (LG fr):=λv b c=>match v,c with
 |.aD [.raw (.slice x n cc),sv,ev],.br u::.gu m::.hJ bs::.row g::rest=>cond (aC g.z 46&&(bY b.length b&&(dg b.length sv&&dg b.length ev))) (∃(ts:Nat->ai)(vs:Nat->jg),(tj x n cc=.slice g.x g.n g.c/\g.os=(bg g.n).flatMap (jN ts vs)/\(∃tg,b[0]?=aa (fO tg)))/\
  ∀(ty:Nat)(us:List aj),K (.aD [.dB b.length 0 n cc x,sv,ev]) (b++[jf ty 46 g.n (jN ts vs) us]) (.br u::.gu m::.hJ bs::rest)) False
 |_,_=>False
def agH(P:aL)(C:aM)(lp:Nat->List V->Option (Lp (LG fr))):dm (LG fr):=λak bl ch K=>bz (vE f6 gS (YI fr P C) Gk Kl lp) 60 19 ak bl (ch++[.row YC]) (bG bl.length (agG K))
def ayx(ht:Body (fr:=fr) 124 dE):aK f6 gS (YI fr f6 (aO aU)):=
 have n:∀{c:dm (LG fr)},(ah=af->gZ c):=λe=>by cases e
 aK.cons ⟨ax0,λ_=>ax2⟩ (aK.cons ⟨afG (ayl ht),n⟩ (aK.cons ⟨afG (ax9 ht),λ_=>ax8⟩ (aK.cons ⟨agv,λ_=>agw⟩ aK.nil)))
def ayy(ht:Body (fr:=fr) 124 dE)(lp:Nat->List V->Option (Lp (LG fr))):Sound f6 gS 19 (agH (fr:=fr) f6 (aO aU) lp):=by
 intro ak ae bl ch R ms w0 w K hg hl S hc;have hok:=ayx (fr:=fr) ht;have S0:St ms w0 (lits ae ae bl++ax (ch++[.row YC]) R) w:=by
  rw[k7];exact S
 refine(eO (C:=vE f6 gS (YI fr f6 (aO aU)) Gk Kl lp) hok.T hok.Q 60 hg hl S0 hc).mono ?_;rintro v w' ⟨x,aq,b9,ce,rfl,h1,S',hK⟩;obtain⟨v2,cj,b,hv,cK,S2,iQ⟩:=ig (n0:=bl.length) h1 (by simp[hl]) S' hK;have q_:(ae++aq).take bl.length=ae:=by rw[<-hl];exact List.take_left
 rw[q_]at hv cK S2;clear hK hc S' S0;unfold agG at iQ;split at iQ
 ·rename_i xx n cc sv ev u m bs g rest;cases hq:aC g.z 46&&(bY b.length b&&(dg b.length sv&&dg b.length ev))with
  |false=>rw[hq]at iQ;exact iQ.elim
  |true=>
   rw[hq]at iQ;obtain⟨ts,vs,⟨e1,e2,tg,e3⟩,Yo⟩:=iQ;simp only[bJ]at hq;obtain⟨_,q1,q2,q3⟩:=hq;have m0:=wV (ae:=ae++cj) (ae++cj) b cK 0 _ e3;have S3:St ms w0 (g.bl++(lits (ae++cj) (ae++cj) b++ax (.br u::.gu m::.hJ bs::rest) R)) w':=by
    refine S2.perm ?_;show lO (_++(cA u++(m.B++(ni bs++(g.bl++ax rest R))))) (_++(_++(cA u++(m.B++(ni bs++ax rest R)))));exact dW λf=>by simp only[ee];omega
   obtain⟨i1,t1,u1,r1,S5⟩:=Yw (g:=jN ts vs) g.h S3 (z0:=(ae++cj).getD 0 0) (tg:=tg) (cs:=ao (ae++cj) (fO tg).c) rfl (by simp only[dV];exact .inl m0) e2;refine⟨_,cj++[i1],_,_,?_,by rw[<-bZ,fH,cK];simp,?_,Yo t1 u1⟩
   ·rw[hv,<-bZ];have g1:(ae++cj++[i1]).getD b.length 0=i1:=by rw[<-cK];simp[gh]
    have d1:=gX (ae:=ae++cj) (aq:=[i1]) sv (by rw[cK];exact q2);have d2:=gX (ae:=ae++cj) (aq:=[i1]) ev (by rw[cK];exact q3);simp only[den,aJ,g1,d1,d2];rw[e1];simp only[Zj]at e1;rw[r1,e1.1,e1.2.1,e1.2.2]
   ·rw[<-bZ,fw _ _ _ _ cK,fy _ _ (by rw[cK];exact q1)];have e4:lits (ae++cj++[i1]) [i1] [jf t1 46 g.n (jN ts vs) u1]=[⟨i1,ah,.cells ((bg g.n).flatMap (jN ts vs)++u1).toArray t1 (0,0)⟩]:=by
     simp only[lits,aI,FT];rfl
    rw[e4];refine S5.perm ?_;exact dW λf=>by simp only[ee,j9,lQ];omega
 ·exact iQ.elim
def DL.cpK{u:an}{es dN:Nat->eT}{o n N:Nat}{aw:List aj}{bs:List jz}(h:DL u es o n aw)(hF:DD u es dN N bs):PV dN N bs:=by
 intro j hj;obtain⟨b,q1,q2,q3,q4⟩:=hF.each j hj;refine⟨b,q1,by rw[q2];rfl,by rw[q2];rfl,by rw[q2];rfl,by rw[q3];unfold cY;omega,by rw[q4];exact ae4 u _,by rw[q2];exact h.x4 j⟩
structure RsS(fr:aQ->Nat×az)(tg tc:aP)(u:an)(x:my)(n:Nat) where
 y:pg fr tg tc u x n
 hy:y.j=n
 za:Option aF
 zc:Nat
 zt:Nat
 zu:List aj
 dt:Nat
 du:List aj
 wx:Option aF
 wc:Nat
 mc:eY fr
 YB:mc.k.tg=tg
 t_:mc.k.tc=tc
 j:Nat
 hj:j<=n
 ts:Nat->ai
 vs:Nat->jg
 ok:Bn fr (nP (oz 4 y.p y.m y.d) (afW x u)) (Gv y.es y.bs) mc ts vs j
 rx:Option aF
 rc:Nat
 bk:List av
 h:dk 46 48 ((bg j).flatMap (jN ts vs)) rx j rc bk
section
variable(C:aM)(tg tc:aP)(ty:BT)(u:an)(x:my)(f:Nat->Nat×az)(o n c:Nat)(a:Option aF)(es:Nat->eT)(aw a9:List aj)
def rsVV(wx:Option aF)(wc:Nat)(y:pg fr tg tc u x (cY 60 n))(rx:Option aF)(j rc:Nat)(i:Int):List V:=[.dB 9 0 (cY 60 n) wc wx,.dB 11 0 y.j y.c y.x,.ptr 12 0,.ptr 13 0,.raw (.slice rx j rc),.int .i64 i]
def rsV(z:RsS fr tg tc u x (cY 60 n)):List V:=rsVV tg tc u x n z.wx z.wc z.y z.rx z.j z.rc z.j
def rsBB(y:pg fr tg tc u x (cY 60 n))(za:Option aF)(zc zt:Nat)(zu:List aj)(dt:Nat)(du:List aj)(ts:Nat->ai)(vs:Nat->jg):List VB:=YD tg tc ty u x f n es aw a9 y.p y.m y.d y.et y.es y.eu++[jf zt 1 y.mc.s.c.q.length (ov y.mc.s.c.q) zu,jf dt 46 y.j (jN ts vs) du,⟨af,⟨55,(0,0)⟩,oZ y.mc.s (.dB 10 0 y.mc.s.c.q.length zc za)⟩]
def rsB(z:RsS fr tg tc u x (cY 60 n)):List VB:=rsBB tg tc ty u x f n es aw a9 z.y z.za z.zc z.zt z.zu z.dt z.du z.y.ts z.y.vs++[z.mc.R]
def rsC(z:RsS fr tg tc u x (cY 60 n)):List (LG fr):=[.br u,.gu z.mc,.gu z.y.mc,.hJ z.y.bs,.row (agC z.ts z.vs z.rx z.j z.rc z.bk z.h)]
def rsLp:Lp (LG fr):=we (X:=RsS fr tg tc u x (cY 60 n)) (λz=>cY 60 n-z.j) 74 14 [7,8,9,11,12,13] (rsV tg tc u x n) (rsB tg tc ty u x f n es aw a9) (rsC tg tc u x n) (λ_=>rfl) (λ_=>kR) (λ_=>rfl)
def siM(s:ai):SiD:=⟨s.c.t.aS,s.c.t.au,s.c.t.offer,s.c.mode,s.c.gW,s.c.pt,(eA s.c.ay).on 0,(eA s.c.ay).on 1,(eA s.c.ay).on 2,(eA s.c.ay).on 3,(eA s.c.ay).on 4,(eA s.c.ay).role 0,(eA s.c.ay).role 1,(eA s.c.ay).role 2,(eA s.c.ay).role 3,(eA s.c.ay).role 4,s.c.t.bad⟩
def SitP(s t:ai):Prop:=siM s=siM t/\s.c.q.length=s.c.q.length/\t.c.q.length=s.c.q.length/\t.c.q.length=s.c.q.length/\s.c.q.length<=1000000/\ov t.c.q=ov s.c.q/\∃q,ov s.c.q=ntG q
def LRs(fr:aQ->Nat×az)(P:aL)(C:aM)(lp:Nat->List V->Option (Lp (LG fr))):List (bT (LG fr)):=[⟨18,ah,Gm⟩,⟨17,ah,PU⟩,⟨10,ah,XK⟩,⟨19,ah,agH P C lp⟩,⟨11,af,PQ P⟩,⟨13,ah,Gc (Yx C)⟩,⟨14,af,Gc Kw⟩,⟨20,af,Gs⟩,⟨21,ah,tdC2⟩,⟨15,ah,sameC⟩]
variable(K:V->Prop)
def rsEn(z:RsS fr tg tc u x (cY 60 n))(m':eY fr)(x':Option aF)(c':Nat)(bk:List av)(os:List aj)(h:dk 46 48 os x' (z.j+1) c' bk):Prop:=
 af=af/\uY (λz=>cY 60 n-z.j) (rsV tg tc u x n) (rsB tg tc ty u x f n es aw a9) (rsC tg tc u x n) z (rsVV tg tc u x n z.wx z.wc z.y x' (z.j+1) c' (i64.wrap ((z.j:Int)+1))) (rsB tg tc ty u x f n es aw a9 z) [.br u,.gu m',.gu z.y.mc,.hJ z.y.bs,.row ⟨48,46,os,x',z.j+1,c',bk,h⟩]
def rsBody(z:RsS fr tg tc u x (cY 60 n)):Prop:=
 let N:=cY 60 n
 agA z.j N/\evP z.y.es z.j N/\Yz tg tc z.mc.R z.mc/\agE C z.mc (z.y.es (z.j:Int).toNat) ([]++[.gu z.y.mc,.hJ z.y.bs,.row (agC z.ts z.vs z.rx z.j z.rc z.bk z.h)]) λt v m'=>
  (V.raw (.slice z.rx z.j z.rc)=V.raw (.slice z.rx z.j z.rc)/\z.j+1<=1000000)/\∀(x':Option aF)(c':Nat)(bk:List av)(h:dk 46 48 ((bg z.j).flatMap (jN z.ts z.vs)++ao [] (wZ t v)) x' (z.j+1) c' bk),rsEn tg tc ty u x f n es aw a9 z m' x' c' bk _ h
def rsEnd(z:RsS fr tg tc u x (cY 60 n)):Prop:=cond (aC z.y.j z.y.j) (∃(ts:Nat->ai)(v1 v2:Nat->jg),TdP fr (aa (fO tg)) z.y.j (jN z.y.ts z.y.vs) (.slice z.rx z.j z.rc) (agC z.ts z.vs z.rx z.j z.rc z.bk z.h) ts v1 v2 (ax [LG.gu z.mc,.gu z.y.mc] [])/\
 Yz tg tc z.mc.R z.mc/\z.mc.s.c.p.queue=z.mc.k.most/\∀(qa:Option aF)(qc qt:Nat)(qu:List aj),SitP z.y.mc.s z.mc.s/\K (.bool af)) False
def rsLf(wx:Option aF)(wc:Nat)(y:pg fr tg tc u x (cY 60 n))(za:Option aF)(zc zt:Nat)(zu:List aj):Prop:=
 ∃(ts:Nat->ai)(vs:Nat->jg),(tj y.x y.j y.c=.slice y.x y.j y.c/\(bg y.j).flatMap (jN y.ts y.vs)=(bg y.j).flatMap (jN ts vs)/\∃t,aa (fO tg)=aa (fO t))/\∀(dt:Nat)(du:List aj),
  Py (oz 4 y.p y.m y.d) (n4 y.m)/\∀(p2:aX)(k:LK)(F:bx fr (bd k (mz p2)))(hN:XT (oz 4 y.p y.m y.d) (afW x u) tg tc p2 k)(v1:cC=F.vs)(v2:cC=F.vr),
   mkP (rsBB tg tc ty u x f n es aw a9 y za zc zt zu dt du ts vs) k p2 18/\∀(ic it:Nat)(b:Nat->Nat),ayo (rsBB tg tc ty u x f n es aw a9 y za zc zt zu dt du ts vs) (s8 k p2 F ic it b).R/\
    cond ((y.j:Int)!=(cY 60 n:Nat)) (K (.bool ah)) (∀(r:bD),r.T=48->r.z=46->r.os=[]->r.n=0->
     (af=af/\uX (rsV (fr:=fr) tg tc u x n) (rsB tg tc ty u x f n es aw a9) (rsC tg tc u x n) (rsVV tg tc u x n wx wc y r.x r.n r.c 0) (rsBB tg tc ty u x f n es aw a9 y za zc zt zu dt du ts vs++[(s8 k p2 F ic it b).R]) [.br u,.gu (s8 k p2 F ic it b),.gu y.mc,.hJ y.bs,.row r])/\
      ∀(z:RsS fr tg tc u x (cY 60 n))(g:Nat->aj),cond (decide ((z.j:Int)<(cY 60 n:Nat))) (rsBody C tg tc ty u x f n es aw a9 z) (rsEnd tg tc u x n K z))
def rsX:Prop:=rdA x u/\∀(p:Nat->Int)(m d:Nat->Nat)(hM:Made x p m),agz tg u es o n c aw λdN bs ex ec et eu N=>ruX (fr:=fr) C tg tc ty u x f n es aw a9 (rsLf C tg tc ty u x f n es aw a9 K ex ec) p m d et dN eu ec ex bs
def rs_vc:bz (vE f6 gS (LRs fr f6 C (λi _=>ja 0 (PX (fr:=fr) tg tc ty u x f n es aw a9) i)) Gk Kl (λi _=>ja 0 (rsLp (fr:=fr) tg tc ty u x f n es aw a9) i)) 60 5 [.agg [.fi ⟨x.q,f⟩ x.ka x.kn x.kc],.dB 2 o n c a] [fO tg,Kk tc,nH ty n es aw a9] [.br u] (λv _ _=>K v)=rsX (fr:=fr) C tg tc ty u x f o n c es aw a9 K:=kR
end
section
variable{tg tc:aP}{ty:BT}{u:an}{x:my}{f:Nat->Nat×az}{o n c:Nat}{a:Option aF}{es:Nat->eT}{aw a9:List aj}{K:V->Prop}
def rsBody_ok(z:RsS fr tg tc u x (cY 60 n))(dy:z.j<cY 60 n):rsBody (aO aU) tg tc ty u x f n es aw a9 z:=by
 have uj:=Bm z.j;have h60:cY 60 n<=60:=by unfold cY;omega
 unfold rsBody;rw[uj];refine⟨ayr dy,⟨by rw[uj];exact dy,λi=>rfl⟩,agB z.YB z.t_ rfl,?_⟩;refine ayu z.ok.ok z.y.ev dy sP λt ht v m' hF=>⟨⟨rfl,oM⟩,λx' c' bk h=>⟨rfl,?_⟩⟩;have hN:=z.ok.next ht hF;refine⟨⟨z.y,z.hy,z.za,z.zc,z.zt,z.zu,z.dt,z.du,z.wx,z.wc,m',by rw[hF.k];exact z.YB,by rw[hF.k];exact z.t_,z.j+1,dy,_,_,hN,x',c',bk,agF▸h⟩,by show cY 60 n-(z.j+1)<cY 60 n-z.j;omega,?_,?_,?_⟩
 ·rw[lg oM];rfl
 ·show rsBB tg tc ty u x f n es aw a9 z.y z.za z.zc z.zt z.zu z.dt z.du z.y.ts z.y.vs++[z.mc.R]=rsBB tg tc ty u x f n es aw a9 z.y z.za z.zc z.zt z.zu z.dt z.du z.y.ts z.y.vs++[m'.R];rw[hF.R]
 ·show[LG.br u,.gu m',.gu z.y.mc,.hJ z.y.bs,.row _]=[LG.br u,.gu m',.gu z.y.mc,.hJ z.y.bs,.row _];rw[agu agF h];rfl
def rsEnd_ok(z:RsS fr tg tc u x (cY 60 n))(hz:z.j=cY 60 n)(hK:K (.bool af)):rsEnd tg tc u x n K z:=by
 have h60:cY 60 n<=60:=by unfold cY;omega
 have hj:z.y.j=z.j:=z.hy.trans hz.symm;have e:∀i,i<z.j->z.ts i=z.y.ts i:=λi hi=>(z.ok.t i hi).1.trans (z.y.ok.t i oM).1.symm;have es:z.y.mc.s=z.mc.s:=by rw[z.y.ok.s,z.ok.s,hj]
 unfold rsEnd;rw[uv];refine⟨z.y.ts,z.y.vs,z.vs,⟨rfl,by rw[hj];rfl,rfl,hj.symm,?_,oM,⟨tg,rfl⟩,λj JX=>?_⟩,agB z.YB z.t_ rfl,z.ok.ok.most,λ_ _ _ _=>⟨?_,hK⟩⟩
 ·show(bg z.j).flatMap (jN z.ts z.vs)=_;rw[hj];simp only[GF];congr 1;apply mB;intro i hi;unfold jN;rw[e i (List.mem_range.1 hi)]
 ·obtain⟨_,h1,h2⟩:=z.y.ok.t j JX;obtain⟨_,h3,_⟩:=z.ok.t j oM;rw[e j oM]at h3;refine⟨h1.more λy hy=>?_,h3.more λy hy=>?_,h2⟩
  ·exact oF _ (kB _ (oF _ (oF _ (kB _ hy))))
  ·exact kB _ (oF _ (oF _ (kB _ hy)))
 ·rw[es];have h1:=z.ok.ok.ok.i.q.len;have h2:=z.ok.ok.ok.i.p.queue;exact⟨rfl,rfl,rfl,rfl,oM,rfl,_,rfl⟩
def rs_ok(hr:rdA x u)(hn:n<=c)(hE:DL u es o n aw)(hK:K (.bool af)):rsX (fr:=fr) (aO aU) tg tc ty u x f o n c es aw a9 K:=by
 refine⟨hr,λp m d hM=>hE.few hn λdN bs ex ec et eu hF=>ayw hM (hE.cpK hF) λy hy za zc zt zu=>?_⟩;have hb:∀j,j<4->1<=y.m j/\y.m j<=64:=λj hj=>by rw[y.hM.n j];exact afI _
 obtain⟨h1,h2⟩:=afV (m:=4) (d:=y.d) y.hM.I y.hM.o hb;refine⟨y.ts,y.vs,⟨rfl,rfl,tg,rfl⟩,λdt du=>⟨newOK4 h1,λp2 k F hN v1 v2=>⟨⟨rfl,by rw[nu],rfl,rfl⟩,λic it b=>⟨⟨_,rfl⟩,aN (λe=>?_) λ_ r hT hz yN En=>?_⟩⟩⟩⟩
 ·rw[hy]at e;simp at e
 ·obtain⟨T,z,os,rx,nn,rc,bk,h⟩:=r;simp only at hT hz yN En;subst hT hz yN En;have hC:=awY hN (h2 _) (λj hj=>by rw[PD _ _ _ _ hj];exact hb j hj);have h0:=ayt (ev:=Gv y.es y.bs) (ayq (fr:=fr) (F:=F) hC hN.most hN.qZ v1 v2 ic it b);refine⟨⟨rfl,⟨y,hy,za,zc,zt,zu,dt,du,ex,ec,s8 k p2 F ic it b,hN.tg,hN.tc,0,oG _,_,_,by rw[<-hN.eq];exact h0,rx,rc,bk,h⟩,rfl,rfl,rfl⟩,λz g=>aN (λe=>rsBody_ok z (by simpa using e)) λe=>rsEnd_ok z ?_ hK⟩;have h3:¬z.j<cY 60 n:=by simpa using e
  have:=z.hj;omega
end
end
section
def LRs_ok(lp:Nat->List V->Option (Lp (LG mA))):aK f6 gS (LRs mA f6 (aO aU) lp):=
 have n:∀{c:dm (LG mA)},(ah=af->gZ c):=λe=>by cases e
 aK.cons ⟨few_26S,n⟩ (aK.cons ⟨shn_26,n⟩ (aK.cons ⟨awv,n⟩ (aK.cons ⟨ayy axE lp,n⟩ (aK.cons ⟨ax0,λ_=>ax2⟩ (aK.cons ⟨afG (ayl axE),n⟩ (aK.cons ⟨afG (ax9 axE),λ_=>ax8⟩ (aK.cons ⟨agv,λ_=>agw⟩ (aK.cons ⟨td2_sound,n⟩ (aK.cons ⟨same_sound,n⟩ aK.nil)))))))))
def rsteps_{W:an}{tg tc:aP}(hG:W.heap[0]?=aa (.cells (aH .u32 64 c9) tg (0,0)))(hC:W.heap[1]?=aa (.cells #[.bool ah,.bool ah,.bool ah,.bool ah,.bool ah,.bool ah,.bool ah,.bool ah,.bool ah,.bool ah,.bool af,.bool af] tc (0,0)))
 (q:Nat->Int) (ka:Nat->Option aF) (kn kc:Nat->Nat) (hr:∀j,j<4->jx W (ka j) (kn j) (kc j) (dP W (ka j))) {v:aj} {es:Nat->eT} {i o n c:Nat} {a:Option aF} {ty:BT} {aw a9:List aj} (hR:Bi W v 10 (kz es) i o n c a ty aw a9)
 (zE:∀j,j<n->jx W (es j).x (es j).n (es j).c (dP W (es j).x)) (hx4:∀j,kx (es j).s.x):
 ba f6 5 #[.agg (tK ⟨q,λ_=>(0,λ_=>0)⟩ ka kn kc).toArray,v] W λv w1=>v=.bool af/\Ch [] W w1:=by
 have S:=axI (fr:=mA) hG hC (i:=i) (b:=nH ty n es aw a9) rfl rfl (by
  rw[hR.at_];simp only[nH,ao,cl,cy])
 have cT:bz (vE f6 gS (LRs mA f6 (aO aU) (λi _=>ja 0 (PX (fr:=mA) tg tc ty W ⟨q,ka,kn,kc⟩ (λ_=>(0,λ_=>0)) n es aw a9) i)) Gk Kl (λi _=>ja 0 (rsLp (fr:=mA) tg tc ty W ⟨q,ka,kn,kc⟩ (λ_=>(0,λ_=>0)) n es aw a9) i)) 60 5 [.agg [.fi ⟨q,λ_=>(0,λ_=>0)⟩ ka kn kc],.dB 2 o n c a] [fO tg,Kk tc,nH ty n es aw a9] [.br W] (λv _ _=>v=.bool af):=by
  rw[rs_vc (x:=⟨q,ka,kn,kc⟩)];exact rs_ok ⟨hr 0 dC,hr 1 dC,hr 2 dC,hr 3 dC⟩ hR.le ⟨hR.po,zE,hx4⟩ rfl
 have cN:(aJ [0,1,i] [.agg [.fi ⟨q,λ_=>(0,λ_=>0)⟩ ka kn kc],.dB 2 o n c a]).toArray=#[.agg (tK ⟨q,λ_=>(0,λ_=>0)⟩ ka kn kc).toArray,v]:=by
  rw[hR.v];simp only[aJ,den,ao,cl,cy];rfl
 rw[<-cN];have hok:=LRs_ok (λi _=>ja 0 (PX (fr:=mA) tg tc ty W ⟨q,ka,kn,kc⟩ (λ_=>(0,λ_=>0)) n es aw a9) i);refine(eO (C:=vE f6 gS (LRs mA f6 (aO aU) (λi _=>ja 0 (PX (fr:=mA) tg tc ty W ⟨q,ka,kn,kc⟩ (λ_=>(0,λ_=>0)) n es aw a9) i)) Gk Kl (λi _=>ja 0 (rsLp (fr:=mA) tg tc ty W ⟨q,ka,kn,kc⟩ (λ_=>(0,λ_=>0)) n es aw a9) i)) hok.T hok.Q 60 (axJ i) rfl S cT).mono ?_;rintro v w' ⟨x,aq,b9,ce,rfl,h1,S',rfl⟩;exact⟨rfl,S'.ch⟩
end
end Go.Proofs.YtddcipamdggcnaaGreatDoor
namespace Go.Proofs.YtddcipamdggcnaaGreatDoor.runSteps
open Go.ChangeShapes Go.WideShapes Go.ChangeAt Go.RowKit Go.Joins Sd Sx
def opened(H:Type)(enc:aP×aj->H)(W:an)(ak:Array aj)(ds gs:List (DataW H))(before:List MemPlace)
 (Gy:∀(j:Nat) t v,Tryz.f5.params[j]?=aa t->ak[j]?=aa v->DX f6 W .any 0 t v)
 (hW:DataW.Whole enc f6 Tryz.f5.params.toList Rows.runStepsSpec.vars ah W ak.toList ds gs before) (hL:laidMetH f6 Yk W):
 Rows.runStepsSpec.fn H (ds++gs)={results:=[.lit (.bool af)],args:=ds,vars:=[]}/\Calls f6 5 ak W λe W'=>e=.returned (.bool af)/\Below W.heap.size W W':=by
 obtain⟨p,q,hA,hV,rfl,Bj,wa⟩:=hW;obtain⟨tG,hG⟩:=axL hL;obtain⟨tC,hC⟩:=axT hL;rw[Tryz.params5]at hA Gy;obtain⟨v0,v1,d0,d1,p0,p1,cN,rfl,_,PJ,PL⟩:=trodAll_two hA;obtain rfl:ak=#[v0,v1]:=by cases ak;simp_all
 obtain⟨rfl,rfl⟩:=trodVars_none hV;obtain⟨pq,ka,kn,kc,rfl,hk⟩:=axU (Gy 0 28 v0 rfl rfl) (λn=>by obtain⟨fuel,h⟩:=PJ;exact Sx.Kq n h);have lJ:=agl Tryz.underlying29 rfl (Gy 1 29 v1 rfl rfl);have zE:∀k,Sx.Rd f6 W k 29 [v1]:=λk=>by
  obtain⟨a,m,c,rfl,_,_⟩:=Yl Tryz.underlying29 lJ;obtain⟨fuel,h2⟩:=PL;exact Sx.Kq k h2
 obtain⟨es,i,o,n,c,a,ty,aw,a9,hR,hO,hx⟩:=axV lJ zE hG;exact⟨rfl,Sx.ahp (rsteps_ hG hC pq ka kn kc hk hR hO hx)⟩
def own:ownKnob f6.godebug=ag:=kR
def P6:List (String×DataW Unit):=[("sidestick/gate.commands",Rows.laid_sidestick_gate_commands),("sidestick/sha.roots",ahi)]
def azd(os:Os)(ak:Array aj):laidMetH f6 P6 ((World.doorLaid f6 400 os).forCall (λ_ _=>0) ⟨#[],ak,[]⟩).memory:=
 laidMetH_of_parts3 (fuel:=8) (laidMet_of_run' 8 kR kR) kR kR
def lifted(os:Os)(started:os.Started)(H:Type)(enc:aP×aj->H):
 ReturnsInHanded {} ahj os 5 .any (λw ak=>(Rows.runStepsSpec.pre enc f6 Tryz.f5 [] ah w ak/\laidMetH f6 P6 w)/\sizedMet enc f6 Tryz.f5 (OpenSpec.ofChange Rows.runStepsSpec) ah w ak)
  (Rows.runStepsSpec.post enc f6 Tryz.f5 ah af ah ah):=by
 refine returnsInHanded_of_change_and (C:=ahj) (X:=λw _=>laidMetH f6 P6 w) (λ_ _ _ hh h=>h.of_heap hh) own started kR Tryz.func5
  (ChangeSpec.witness_shaped (enc:=enc) (C:=ahj) (os:=os) (X:=λw _=>laidMetH f6 P6 w) ah (World.doorLaid f6 400 os) #[.agg #[.int .i64 0,.int .i64 0,.int .i64 0,.int .i64 0,.int .i64 0,.slice ag 0 0,.slice ag 0 0,.slice ag 0 0,.slice ag 0 0,.int .i64 0,.int .i64 0,.int .i64 0,.int .i64 0,.int .i64 0,.int .i64 0,.int .i64 0,.int .i64 0,.int .i64 0,.int .i64 0,.int .i64 0,.int .i64 0,.int .i64 0,.int .i64 0,.int .i64 0,.int .i64 0,.int .i64 0,.int .i64 0,.int .i64 0,.int .i64 0,.int .i64 0,.int .i64 0,.int .i64 0,.int .i64 0,.int .i64 0,.int .i64 0,.int .i64 0,.int .i64 0,.int .i64 0,.int .i64 0,.int .i64 0,.int .i64 0,.int .i64 0,.int .i64 0,.int .i64 0,.int .i64 0,.int .i64 0,.int .i64 0,.int .i64 0,.int .i64 0,.int .i64 0,.int .i64 0,.int .i64 0,.int .i64 0,.int .i64 0,.int .i64 0,.int .i64 0],.slice ag 0 0] 8 rfl (World.shaped_of_RefB kR kR) kR kR kR (azd os _)) ?_
 intro W base ak ds gs before Gy hW _ _ hL _;obtain⟨hs,hc⟩:=opened H enc W ak ds gs before Gy hW hL;refine hc.mono λe W' ⟨he,hb⟩=>⟨_,he,?_⟩;exact axM kR kR rfl kR Tryz.underlying4 hs hW hb
end Go.Proofs.YtddcipamdggcnaaGreatDoor.runSteps
