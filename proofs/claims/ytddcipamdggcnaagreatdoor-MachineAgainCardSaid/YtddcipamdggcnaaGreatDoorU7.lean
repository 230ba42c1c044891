/- Part 7 of the proof. -/
import Derived.Test.YtddcipamdggcnaaGreatDoorCards
import Derived.Test.YtddcipamdggcnaaGreatDoorTie
import Derived.Lib.SmallJoins
import Derived.SevenTiedAt
import Derived.LaidMore
import Derived.Stop.Joined
import Derived.Test.YtddcipamdggcnaaGreatDoorU6
set_option linter.all false
set_option maxRecDepth 100000
set_option maxHeartbeats 4000000
noncomputable section
open Sd(Ev aM aQ aX ai az kx)
open Go.Proofs.Tryz
open Go.IntKind (u8 u16 u32 u64 i64)
open Array renaming ext'->fP
open BitVec renaming ofInt->qt
open Bool renaming true->af,false->ah,and_eq_true->bJ
open Go renaming Addr->aF,Program->aL,TypeId->aP,Value->aj,World->an,Operand->bA,FuncId->fG
open Go.Addr renaming add_lit->iY
open Go.Instr renaming storeAt->Gz,sureAddr->jt
open Go.Proofs.Tryz renaming checked->ahj
open Go.Proofs.YtddcipamdggcnaaGreatDoor.Rows renaming laid_sidestick_sha_roots->ahi
open Go.Result renaming andThen_ok->cD
open Go.Sem renaming run_bind->bH,run_pure->de
open Go.Src renaming ofSlice->qu
open Go.Value renaming okWide->DX,slice->tj
open Int renaming toNat_natCast->tf,le_refl->uy
open List renaming getElem?_set_ne->KV,getElem?_set_self->P8,length_singleton->Zb,append_assoc->bZ,range->bg,mem_cons->cG,append_nil->cy,mem_append->dV,countP_append->ee,length_append->fH,countP_cons->j9,getElem?_eq_none->jA,mem_singleton->jS,length_cons->jv,mem_append_left->kB,Perm->lO,countP_nil->lQ,mem_map->oC,mem_append_right->oF,getElem?_range->pr,not_mem_nil->py,mem_cons_of_mem->qA,mem_of_getElem?->rC,mem_cons_self->xk
open List.Perm renaming append_right->BA,append_left->j8,trans->xm,refl->zM
open Nat renaming mul_le_mul_right->P9,beq->aC,le_refl->cW,zero_add->d_,lt_or_ge->di,le_trans->h_,add_mul->oD,zero_le->oG
open Option renaming some->aa,none->ag
open Option.some renaming inj->cP
open UInt8 renaming ofNat->Lg
open Go Go.RowKit Go.BigFrame Sx Vx
namespace Go.Proofs.YtddcipamdggcnaaGreatDoor
section
variable{fr:aQ->Nat×az}
structure jg where
 x1:Option aF
 c1:Nat
 x2:Option aF
 c2:Nat
 fv:Nat->lh
def wZ(t:ai)(v:jg):List V:=zq t (.raw (.slice v.x1 t.bE.length v.c1)) (.raw (.slice v.x2 t.aY.length v.c2))
structure zF(fr:aQ->Nat×az)(t:ai)(v:jg)(B:List av):Prop where
 s:∃b,dk 2 61 ((bg t.bE.length).flatMap (lK t.bE v.fv)) v.x1 t.bE.length v.c1 b/\∀y∈b,y∈B
 r:∃b,dk 6 64 ((bg t.aY.length).flatMap (fZ t.aY)) v.x2 t.aY.length v.c2 b/\∀y∈b,y∈B
 f:vz fr t.bE v.fv B
def vz.more{l:List (Int×aQ)}{fv:Nat->lh}{B B':List av}(h:vz fr l fv B)(hs:∀y∈B,y∈B'):vz fr l fv B':=λj hj=>by
 obtain⟨x,c,b,h1,h2,h3⟩:=h j hj;exact⟨x,c,b,h1,h2,λy hy=>hs y (h3 y hy)⟩
def zF.more{t:ai}{v:jg}{B B':List av}(h:zF fr t v B)(hs:∀y∈B,y∈B'):zF fr t v B':=by
 obtain⟨b1,s1,s2⟩:=h.s;obtain⟨b2,r1,r2⟩:=h.r;exact⟨⟨b1,s1,λy hy=>hs y (s2 y hy)⟩,⟨b2,r1,λy hy=>hs y (r2 y hy)⟩,h.f.more hs⟩
structure Gt(m m':eY fr)(t:ai)(rr:Nat->Sd.Rest)(v:jg):Prop where
 k:m'.k=m.k
 ic:m'.ic=m.ic
 it:m'.it=m.it
 a:m'.G.a=m.G.a
 s:m'.s=fE t
 ok:ql m'.k m'.s m'.F m'.G
 rs:f_ m'.G=rr
 f:∃e,m'.fB=e++m.fB
 at_:zF fr t v m'.fB
 nS:t.bE.length<=10000
 nR:t.aY.length<=10000
def Gt.R{m m':eY fr}{t:ai}{rr:Nat->Sd.Rest}{v:jg}(h:Gt m m' t rr v):m'.R=m.R:=by
 unfold eY.R;rw[h.ic,h.a]
def Yx(C:aM):MM fr:=λar m rest Kb=>match ar with
 |[.agg [.int .i64 kd,.int .i64 src,vv,.bool vl,.int .i64 a,.int .i64 b,.int .i64 c,.int .i64 d,.bool gv,.bool bad]]=>cond (Pk vv) (ql m.k m.s m.F m.G/\kx ⟨a,b,c,d⟩/\
  ∃eb:jy,EvB kd src vv rest eb/\∀(t:ai),t=(Sd.dU.go C cn ⟨m.s,f_ m.G⟩ (jM kd src eb ⟨vl,⟨a,b,c,d⟩,gv⟩ bad)).s->∀(v:jg)(m':eY fr),Gt m m' t (Sd.dU.go C cn ⟨m.s,f_ m.G⟩ (jM kd src eb ⟨vl,⟨a,b,c,d⟩,gv⟩ bad)).r v->Kb (.agg (wZ t v)) m' []) False
 |_=>False
def ayl(ht:Body (fr:=fr) 124 dE):XE 13 (Yx (fr:=fr) (aO aU)):=by
 intro u ae ar m rest Kb im R ms w0 w hM S;unfold Yx at hM;split at hM
 ·rename_i kd src vv vl a b c d gv bad;cases mK:Pk vv with
  |false=>rw[mK]at hM;exact hM.elim
  |true=>
   rw[mK]at hM;obtain⟨hok,hx,eb,⟨hv,hb,he,hn⟩,hK⟩:=hM;obtain⟨Q,hQ⟩:∃Q,(ax rest R).Perm (eb.B++Q):=by
    rcases hb with e|⟨bs,h1,b,h2,h3⟩
    ·exact⟨ax rest R,by rw[e];exact zM _⟩
    ·obtain⟨Q1,J1⟩:=afk h1 R;obtain⟨Q2,J2⟩:=awf h2;refine⟨Q2++Q1,J1.trans ?_⟩;rw[<-bZ,h3];exact BA _ J2
   have S1:St ms w0 (lits [0,1,m.ic,m.it,im] [0,1,m.ic,m.it,im] (jZ m.k m.s m.G)++ax (wU u m.k m.s m.F [] m.G eb) (m.fB++Q)) w:=by
    refine S.perm ?_;show lO (m.wW im++_) (m.wW im++(cA u++((m.F.B++[])++(m.G.B++(eb.B++(m.fB++Q))))));refine j8 _ ?_;have h1:(m.F.B++(m.fB++(m.G.B++(cA u++ax rest R)))).Perm ((m.F.B++(m.fB++(m.G.B++cA u)))++(eb.B++Q)):=by
     refine xm ?_ (j8 _ hQ);exact dW λf=>by simp only[ee];omega
    refine h1.trans ?_;exact dW λf=>by simp only[ee,lQ];omega
   have hg:Gl gS [0,1,m.ic,m.it,im]:=by
    intro g i dz;unfold gS at dz;split at dz
    ·obtain rfl:=cP dz;exact⟨sP,rfl⟩
    ·obtain rfl:=cP dz;exact⟨sP,rfl⟩
    ·cases dz
   have ve:=awd (u:=u) (kd:=kd) (src:=src) (v:=den ae vv) (sm:=⟨vl,⟨a,b,c,d⟩,gv⟩) (bad:=bad) ht hg hok (λe1 e2=>by rw[hv e1 e2];simp only[den]) he hn hx S1;have agx:(aJ [0,1,m.ic,m.it,im] [.ptr 4 0,.agg (dH kd src (den ae vv) ⟨vl,⟨a,b,c,d⟩,gv⟩ bad)]).toArray=(.pointer (aa ⟨im,0,ag⟩)::aJ ae [.agg [.int .i64 kd,.int .i64 src,vv,.bool vl,.int .i64 a,.int .i64 b,.int .i64 c,.int .i64 d,.bool gv,.bool bad]]).toArray:=
    awg (ae:=ae) (js:=[0,1,m.ic,m.it]) (kd:=kd) (src:=src) (sm:=⟨vl,⟨a,b,c,d⟩,gv⟩) (bad:=bad) mK im
   rw[agx]at ve;refine ve.mono ?_;clear ve agx S S1;rintro v w' ⟨s',F',gQ,bN,G',⟨hM',hA,hr,ha,hnS,hnR⟩,rfl,S2⟩;revert hK hA hr;generalize (Sd.dU.go (aO aU) cn ⟨m.s,f_ m.G⟩ (jM kd src eb ⟨vl,⟨a,b,c,d⟩,gv⟩ bad)).r=rr;generalize (Sd.dU.go (aO aU) cn ⟨m.s,f_ m.G⟩ (jM kd src eb ⟨vl,⟨a,b,c,d⟩,gv⟩ bad)).s=t;intro hK hA hr;obtain⟨rfl,nS,⟨fv,oS,hf⟩,nR,oR⟩:=hA;have hS':=bN.hS;rw[nS,oS]at hS';have hR':=bN.hR;rw[nR,oR]at hR'
   let vd:jg:=⟨bN.xS,bN.cS,bN.xR,bN.cR,fv⟩
   let m':eY fr:=⟨m.k,fE t,F',(bN.bS++(bN.bR++gQ))++m.fB,G',m.ic,m.it⟩
   have aV:zF fr t vd m'.fB:=⟨⟨bN.bS,hS',λy hy=>kB _ (kB _ hy)⟩,⟨bN.bR,hR',λy hy=>kB _ (oF _ (kB _ hy))⟩,
    vz.more hf λy hy=>kB _ (oF _ (oF _ hy))⟩
   refine⟨.agg (wZ t vd),m',[],[],rfl,?_,rfl,hK t rfl vd m' ⟨rfl,rfl,rfl,ha,rfl,hM',hr,⟨_,rfl⟩,aV,oM,oM⟩,?_⟩
   ·unfold Kc zq wZ zq;rw[nS,nR];simp only[den,ao,cl,fE];rfl
   ·have e2:m'.wW im=lits [0,1,m.ic,m.it,im] [0,1,m.ic,m.it,im] (jZ m.k (fE t) m.G):=by
     show lits _ _ [cx m.k,g_ m.k,fM m.k 3 (fE t),fA (fE t),wP 2 G']=_;rw[afw ha];rfl
    rw[e2];refine S2.perm ?_;show lO (_++(cA u++((F'.B++gQ)++(bN.bS++(bN.bR++(G'.B++(eb.B++(m.fB++Q)))))))) (_++([]++(F'.B++(((bN.bS++(bN.bR++gQ))++m.fB)++(G'.B++(cA u++ax rest R))))));refine j8 _ ?_;have h1:(([]:List av)++(F'.B++(((bN.bS++(bN.bR++gQ))++m.fB)++(G'.B++(cA u++ax rest R))))).Perm ((F'.B++(((bN.bS++(bN.bR++gQ))++m.fB)++(G'.B++cA u)))++(eb.B++Q)):=by
     refine xm ?_ (j8 _ hQ);exact dW λf=>by simp only[ee,lQ];omega
    refine xm ?_ h1.symm;exact dW λf=>by simp only[ee];omega
 ·exact hM.elim
def jN(ts:Nat->ai)(vs:Nat->jg)(j:Nat):List aj:=ao [] (wZ (ts j) (vs j))
structure FarB where
 b:List av
instance:Bl FarB:=⟨FarB.b⟩
def strF(n:Nat)(f:Nat->Int):ByteArray:=((bg n).map f).foldl (λr n=>r.push (Lg n.toNat)) ByteArray.empty
def cvtH{G:Type}[Bl G]:(bA->V)->Op->List VB->List G->VK G->Prop:=λe op bl ch K=>match op with
 |.convert s d x=>(match e x with
  |.raw (.slice a n c)=>∃f,((s=23/\d=9)/\∀w:an,(∀y∈ax ch [],w.heap[y.id]?=aa y.obj)->jx w a n c f)/\K (.raw (.string (strF n f))) bl ch
  |_=>False)
 |_=>False
def cvtH_ok{G:Type}[Bl G]{gl:Nat->Option Nat}:iF (G:=G) prog gl cvtH:=by
 intro e op ae bl ch R ms w0 w K ρ o hg hl S bo ho h;unfold cvtH at h;split at h
 ·rename_i s d x;split at h
  ·rename_i a n c hx;obtain⟨f,⟨⟨rfl,rfl⟩,hk⟩,hK⟩:=h;obtain⟨-,h2,h3⟩:=hk w λy hy=>S.at' (oF _ (by rw[fk R ch];exact kB _ hy));have hc:(Conv.bytesToString (.slice a n c)).run prog w=.ok (.string (strF n f)) w:=by
    cases a with
    |none=>
     obtain⟨rfl,-⟩:=h2 rfl;rfl
    |some a=>
     have:=run_loadCells (P:=prog) (w:=w) a n (λj=>.int .u8 (f j)) (h3 a rfl);exact run_bytesToString w a n c ((bg n).map f) (by rw[this];simp)
   refine⟨_,[],bl,ch,w,.inl ?_,by simpa using hl,by simpa using S,hK⟩;unfold execOp;simp only[ho,bo,hx,bH,den];rw[run_convert_bytes_string w _ _ 5 a n c kR kR kR,hc];rfl
  ·exact h.elim
 ·exact h.elim
def far1{w:an}{z T n c z0 tg:Nat}{bw:List aj}{x:Option aF}{B:List av}{g:Nat->List aj}{cs:Array aj}(h:dk z T bw x n c B)(hB:∀y∈B,w.heap[y.id]?=aa y.obj)(lH:w.heap[z0]?=aa (.cells cs tg (0,0)))(hg:bw=(bg n).flatMap g):
 ∃(i ty:Nat)(us:List aj),tj x n c=.slice (bif aC n 0 then x else aa ⟨i,0,ag⟩) n c/\w.heap[i]?=aa (.cells ((bg n).flatMap g++us).toArray ty (0,0)):=by
 rcases h.2.2 with⟨rfl,rfl,rfl,rfl⟩|⟨b,tail,rfl,rfl,_⟩
 ·exact⟨z0,tg,cs.toList,rfl,by simpa using lH⟩
 ·refine⟨b,T,tail,?_,?_⟩
  ·cases aC n 0<;>rfl
  ·rw[<-hg];exact hB _ (jS.2 rfl)
structure FarP(fr:aQ->Nat×az)(t:ai)(v v2:jg)(b0:Option VB)(B:List av):Prop where
 a:zF fr t v B
 b:zF fr t v2 B
 r:∃tg,b0=aa (fO tg)
 n:t.bE.length<=10000/\t.aY.length<=10000
def emF_ok:aK (G:=FarB) prog cU []:=aK.nil
noncomputable def farF(lp:Nat->List V->Option (Lp FarB)):Ctx FarB:=vE prog cU [] cvtH cvtH_ok lp
def far_call{f:fG}(lp:Nat->Nat->List aj->List aj->Nat->List V->Option (Lp FarB)){w:an}{L b1 b2:List av}(hL:∀y∈L,w.heap[y.id]?=aa y.obj){z T n c1 c2 z0 tg:Nat}{o1 o2:List aj}{x1 x2:Option aF}{g1 g2:Nat->List aj}{cs:Array aj}
 (lH:w.heap[z0]?=aa (.cells cs tg (0,0))) (h1:dk z T o1 x1 n c1 b1) (h2:dk z T o2 x2 n c2 b2) (m1:∀y∈b1,y∈L) (m2:∀y∈b2,y∈L) (e1:o1=(bg n).flatMap g1) (e2:o2=(bg n).flatMap g2)
 (cT:∀(t1 t2:Nat)(u1 u2:List aj),bz (farF (lp t1 t2 u1 u2)) 60 f [.dB 0 0 n c1 x1,.dB 1 0 n c2 x2] [jf t1 z n g1 u1,jf t2 z n g2 u2] [⟨L.map λy=>⟨y.id,ah,y.obj⟩⟩] λv _ _=>v=.bool af):
 ba prog f #[.slice x1 n c1,.slice x2 n c2] w λv w'=>v=.bool af/\Ch [] w w':=by
 obtain⟨i1,t1,u1,r1,a1⟩:=far1 h1 (λy hy=>hL y (m1 y hy)) lH e1;obtain⟨i2,t2,u2,r2,a2⟩:=far1 h2 (λy hy=>hL y (m2 y hy)) lH e2;have S:St [] w (lits [i1,i2] [i1,i2] [jf t1 z n g1 u1,jf t2 z n g2 u2]++ax [(⟨L.map λy=>⟨y.id,ah,y.obj⟩⟩:FarB)] []) w:=by
  refine St.Yj ?_;intro y hy;have hy:y∈[aI [i1,i2] i1 (jf t1 z n g1 u1),aI [i1,i2] i2 (jf t2 z n g2 u2)]++((L.map λy=>⟨y.id,ah,y.obj⟩)++[]):=hy;rw[cy]at hy;rcases dV.1 hy with hy|hy
  ·simp only[cG,py,or_false]at hy;rcases hy with rfl|rfl
   ·exact⟨rfl,by simp only[aI,FT];exact a1⟩
   ·exact⟨rfl,by simp only[aI,FT];exact a2⟩
  ·obtain⟨x,hx,rfl⟩:=oC.1 hy;exact⟨rfl,hL x hx⟩
 have cN:#[tj x1 n c1,.slice x2 n c2]=(aJ [i1,i2] [.dB 0 0 n c1 x1,.dB 1 0 n c2 x2]).toArray:=by
  rw[r1,r2];rfl
 rw[cN];refine(eO (C:=farF (lp t1 t2 u1 u2)) emF_ok.T emF_ok.Q 60 (ae:=[i1,i2]) (λg i h=>nomatch h) rfl S (cT t1 t2 u1 u2)).mono ?_;rintro v w' ⟨x,aq,b9,ce,rfl,h1,S',rfl⟩;exact⟨by simp only[den],S'.ch⟩
def farC(A:ai->jg->V):dm (LG fr):=λak bl ch K=>∃(t:ai)(v v2:jg),(ak=[A t v,A t v2]/\FarP fr t v v2 bl[0]? (ax ch []))/\K (.bool af) bl ch
def sntA(t:ai)(v:jg):V:=.raw (.slice v.x1 t.bE.length v.c1)
def recA(t:ai)(v:jg):V:=.raw (.slice v.x2 t.aY.length v.c2)
def far_sound{gl:Nat->Option Nat}{f:fG}{A:ai->jg->V}(h:∀(t:ai)(v v2:jg)(L:List av)(w:an),zF fr t v L->zF fr t v2 L->t.bE.length<=10000->t.aY.length<=10000->(∃(z0 tg:Nat)(cs:Array aj),w.heap[z0]?=aa (.cells cs tg (0,0)))->(∀y∈L,w.heap[y.id]?=aa y.obj)->
 ∀ae,ba prog f (aJ ae [A t v,A t v2]).toArray w λv w'=>v=.bool af/\Ch [] w w'):Sound prog gl f (farC (fr:=fr) A):=by
 intro ak ae bl ch R ms w0 w K hg hl S hc;obtain⟨t,v,v2,⟨rfl,ha,hb,⟨tg,e0⟩,h1,h2⟩,hK⟩:=hc;refine(h t v v2 _ w ha hb h1 h2 ⟨_,tg,_,(gp hl S e0).2⟩ (λy hy=>S.at' (oF _ (by rw[fk R ch];exact kB _ hy))) ae).mono ?_;rintro v w' ⟨rfl,cz⟩;exact⟨.bool af,[],bl,ch,by simp only[den],by simpa using hl,by simpa using S.quiet cz,hK⟩
abbrev UpTo(n:Nat):={j:Nat //j<=n}
def idxP(j n:Nat)(g:Nat->List aj)(z:Nat)(N:Prop):Prop:=(0<=(j:Int)/\(j:Int)<(n:Int))/\((j:Int).toNat<n/\∀i,(g i).length=z)/\N
def idxP_ok{j n:Nat}{g:Nat->List aj}{z:Nat}{N:Prop}(h:j<n)(hz:∀i,(g i).length=z)(hN:N):idxP j n g z N:=⟨⟨oM,oM⟩,⟨oM,hz⟩,hN⟩
section
variable(n c1 c2:Nat)(x1 x2:Option aF)(t1 t2:Nat)(u1 u2:List aj)(B:FarB)(K:V->Prop)
def prV(j:Int):List V:=[.dB 0 0 n c1 x1,.dB 1 0 n c2 x2,.int .i64 j]
def prX(bl:List VB)(body:Nat->Prop->Prop):Prop:=cond ((n:Int)!=n) (K (.bool ah)) ((af=af/\uX (λy:UpTo n=>prV n c1 c2 x1 x2 y.1) (λ_=>bl) (λ_=>[B]) (prV n c1 c2 x1 x2 0) bl [B])/\
 ∀(y:UpTo n)(g:Nat->aj),cond (decide ((y.1:Int)<n)) (body y.1 (af=af/\uY (λy:UpTo n=>n-y.1) (λy=>prV n c1 c2 x1 x2 y.1) (λ_=>bl) (λ_=>[B]) y (prV n c1 c2 x1 x2 (i64.wrap ((y.1:Int)+1))) bl [B])) (K (.bool af)))
variable{n c1 c2 x1 x2 B K}in
def prX_ok{bl:List VB}{body:Nat->Prop->Prop}(hn:n<=10000)(hb:∀j N,j<n->N->body j N)(hK:K (.bool af)):prX n c1 c2 x1 x2 B K bl body:=by
 refine aN (λe=>by simp at e) λ_=>⟨⟨rfl,⟨0,oG _⟩,rfl,rfl,rfl⟩,λy g=>aN (λe=>?_) λ_=>hK⟩;have h:y.1<n:=by simpa using e
 refine hb _ _ h ⟨rfl,⟨y.1+1,h⟩,by show n-(y.1+1)<n-y.1;omega,?_,rfl,rfl⟩;rw[lg oM];rfl
section
variable(l:List Sd.Rec)
def prR:List VB:=[jf t1 6 n (fZ l) u1,jf t2 6 n (fZ l) u2]
def prRLp:Lp FarB:=we (X:=UpTo n) (λy=>n-y.1) 26 2 [0,1,5] (λy=>prV n c1 c2 x1 x2 y.1) (λ_=>prR n t1 t2 u1 u2 l) (λ_=>[B]) (λ_=>rfl) (λ_=>kR) (λ_=>rfl)
def eqQ(a b:Sd.Rec):Bool:=a.kind==b.kind&&(a.source==b.source&&(a.seq==b.seq&&(a.au==b.au&&(a.code==b.code&&(a.how==b.how&&af)))))
def prR_vc:bz (farF (λi _=>ja 0 (prRLp n c1 c2 x1 x2 t1 t2 u1 u2 B l) i)) 60 40 [.dB 0 0 n c1 x1,.dB 1 0 n c2 x2] (prR n t1 t2 u1 u2 l) [B] (λv _ _=>K v)=
 prX n c1 c2 x1 x2 B K (prR n t1 t2 u1 u2 l) λj N=>idxP j n (fZ l) 6 (idxP j n (fZ l) 6 (cond (!(eqQ (l.getD (j:Int).toNat default) (l.getD (j:Int).toNat default))) (K (.bool ah)) N)):=kR
end
section
variable(l:List (Int×aQ))(f1 f2:Nat->lh)
def prS:List VB:=[jf t1 2 n (lK l f1) u1,jf t2 2 n (lK l f2) u2]
def prSLp:Lp FarB:=we (X:=UpTo n) (λy=>n-y.1) 43 2 [0,1,5] (λy=>prV n c1 c2 x1 x2 y.1) (λ_=>prS n t1 t2 u1 u2 l f1 f2) (λ_=>[B]) (λ_=>rfl) (λ_=>kR) (λ_=>rfl)
def cvP(bl:List VB)(s:lh)(X:(Nat->Int)->Prop):Prop:=∃f,((23=23/\9=9)/\∀w:an,(∀y∈ax [B] [],w.heap[y.id]?=aa y.obj)->jx w s.x s.n s.c f)/\bl=bl/\X f
def prZ(j:Nat)(N:Prop)(X:((Nat->Int)->(Nat->Int)->Prop)->Prop):Prop:=
 idxP j n (lK l f1) 2 (idxP j n (lK l f2) 2 (cond ((l.getD (j:Int).toNat default).1!=(l.getD (j:Int).toNat default).1) (K (.bool ah)) (idxP j n (lK l f1) 2 (idxP j n (lK l f2) 2 (X λf g=>cond (!((strF (f1 (j:Int).toNat).n f).toList==(strF (f2 (j:Int).toNat).n g).toList)) (K (.bool ah)) N)))))
def prS_vc:bz (farF (λi _=>ja 0 (prSLp n c1 c2 x1 x2 t1 t2 u1 u2 B l f1 f2) i)) 60 39 [.dB 0 0 n c1 x1,.dB 1 0 n c2 x2] (prS n t1 t2 u1 u2 l f1 f2) [B] (λv _ _=>K v)=
 prX n c1 c2 x1 x2 B K (prS n t1 t2 u1 u2 l f1 f2) λj N=>prZ n K l f1 f2 j N (λZ=>cvP B (prS n t1 t2 u1 u2 l f1 f2) (f1 (j:Int).toNat) λf=>cvP B (prS n t1 t2 u1 u2 l f1 f2) (f2 (j:Int).toNat) λg=>Z f g)/\
  prZ n K l f1 f2 j N (λZ=>cvP B (prS n t1 t2 u1 u2 l f1 f2) (f2 (j:Int).toNat) λg=>cvP B (prS n t1 t2 u1 u2 l f1 f2) (f1 (j:Int).toNat) λf=>Z f g):=kR
end
end
section
variable{gl:Nat->Option Nat}
def fsame_rec:Sound prog gl 40 (farC (fr:=fr) recA):=by
 refine far_sound λt v v2 L w ha hb _ hn ⟨z0,tg,cs,hr⟩ hL ae=>?_;obtain⟨b1,h1,m1⟩:=ha.r;obtain⟨b2,h2,m2⟩:=hb.r;exact far_call (λt1 t2 u1 u2 i _=>ja 0 (prRLp t.aY.length v.c2 v2.c2 v.x2 v2.x2 t1 t2 u1 u2 ⟨L.map λy=>⟨y.id,ah,y.obj⟩⟩ t.aY) i) hL hr h1 h2 m1 m2 rfl rfl λt1 t2 u1 u2=>by
  refine cast (prR_vc _ _ _ _ _ _ _ _ _ _ (λv=>v=.bool af) _).symm ?_;exact prX_ok hn (λj N h hN=>idxP_ok h (λ_=>rfl) (idxP_ok h (λ_=>rfl) (aN (λe=>by simp[eqQ]at e) λ_=>hN))) rfl
def fsame_snt:Sound prog gl 39 (farC (fr:=fr) sntA):=by
 refine far_sound λt v v2 L w ha hb hn _ ⟨z0,tg,cs,hr⟩ hL ae=>?_;obtain⟨b1,h1,m1⟩:=ha.s;obtain⟨b2,h2,m2⟩:=hb.s
 let B:FarB:=⟨L.map λy=>⟨y.id,ah,y.obj⟩⟩
 have hB:∀w:an,(∀y∈ax [B] [],w.heap[y.id]?=aa y.obj)->∀y∈L,w.heap[y.id]?=aa y.obj:=λw h y hy=>h ⟨y.id,ah,y.obj⟩ (kB _ (oC.2 ⟨y,hy,rfl⟩));have hc:∀{fv:Nat->lh}{bl:List VB}{j:Nat}{X:(Nat->Int)->Prop},vz fr t.bE fv L->j<t.bE.length->X (fr (t.bE.getD j default).2).2->cvP B bl (fv (j:Int).toNat) X:=λ{fv bl j X} hf hj hX=>by
  obtain⟨x,c,b,e,h3,h4⟩:=hf j hj;rw[tf];refine⟨_,⟨⟨rfl,rfl⟩,λw hw=>?_⟩,rfl,hX⟩;rw[e];exact row8_rd h3 λy hy=>hB w hw y (h4 y hy)
 have hs:∀{j:Nat},j<t.bE.length->(strF (v.fv (j:Int).toNat).n (fr (t.bE.getD j default).2).2).toList=(strF (v2.fv (j:Int).toNat).n (fr (t.bE.getD j default).2).2).toList:=λ{j} hj=>by
  obtain⟨x,c,b,e,-,-⟩:=ha.f j hj;obtain⟨x',c',b',e',-,-⟩:=hb.f j hj;rw[tf,e,e']
 exact far_call (λt1 t2 u1 u2 i _=>ja 0 (prSLp t.bE.length v.c1 v2.c1 v.x1 v2.x1 t1 t2 u1 u2 B t.bE v.fv v2.fv) i) hL hr h1 h2 m1 m2 rfl rfl λt1 t2 u1 u2=>by
  refine cast (prS_vc _ _ _ _ _ _ _ _ _ _ (λv=>v=.bool af) _ _ _).symm ?_;have hz:∀{j:Nat}{N:Prop}{X:((Nat->Int)->(Nat->Int)->Prop)->Prop},j<t.bE.length->N->(∀Z:(Nat->Int)->(Nat->Int)->Prop,Z (fr (t.bE.getD j default).2).2 (fr (t.bE.getD j default).2).2->X Z)->prZ t.bE.length (λv=>v=.bool af) t.bE v.fv v2.fv j N X:=λh hN hX=>
   idxP_ok h (λ_=>rfl) (idxP_ok h (λ_=>rfl) (aN (λe=>by simp at e) λ_=>idxP_ok h (λ_=>rfl) (idxP_ok h (λ_=>rfl) (hX _ (aN (λe=>by rw[hs h]at e;simp at e) λ_=>hN)))))
  exact prX_ok hn (λj N h hN=>⟨hz h hN λZ hZ=>hc ha.f h (hc hb.f h hZ),hz h hN λZ hZ=>hc hb.f h (hc ha.f h hZ)⟩) rfl
end
section
variable(tg:aP)(n c1 c2:Nat)(x1 x2:Option aF)(t1:BT)(t2:Nat)(u1 u2:List aj)(ts:Nat->ai)(v1 v2:Nat->jg)(m1 m2:eY fr)(K:VK (LG fr))
def eqH(f g:Nat->Int):Nat->Nat->Bool
 |0,_=>af
 |n+1,i=>f i==g i&&eqH f g n (i+1)
def eqH_self(f:Nat->Int):∀n i,eqH f f n i=af
 |0,_=>rfl
 |n+1,i=>by simp[eqH,eqH_self f n]
variable{tg n c1 c2 x1 x2 t1 t2 u1 u2 ts v1 v2 m1 m2 K}in
end
def siM(s:ai):SiD:=⟨s.c.t.aS,s.c.t.au,s.c.t.offer,s.c.mode,s.c.gW,s.c.pt,(eA s.c.ay).on 0,(eA s.c.ay).on 1,(eA s.c.ay).on 2,(eA s.c.ay).on 3,(eA s.c.ay).on 4,(eA s.c.ay).role 0,(eA s.c.ay).role 1,(eA s.c.ay).role 2,(eA s.c.ay).role 3,(eA s.c.ay).role 4,s.c.t.bad⟩
def SitP(s t:ai):Prop:=siM s=siM t/\s.c.q.length=s.c.q.length/\t.c.q.length=s.c.q.length/\t.c.q.length=s.c.q.length/\s.c.q.length<=1000000/\ov t.c.q=ov s.c.q/\∃q,ov s.c.q=ntG q
def bvZ_set{n c q:Nat}{f:Nat->Int}{v:Int}(h:q<n):Sx.splice (bM n f c) q [.int .u8 v]=bM n (L_ f q v) c:=by
 apply fP;simp only[Sx.splice,bM,cQ,Zb];exact aih h
def cps_at{b:jz}:∀{l:List jz}{j:Nat},l[j]?=aa b->∃Q,(ni l).Perm (b.B++Q)/\∀b':jz,(ni (l.set j b')).Perm (b'.B++Q)
 |[],j,h=>by simp at h
 |a::l,0,h=>by
  obtain rfl:a=b:=by simpa using h
  exact⟨ni l,zM _,λb'=>zM _⟩
 |a::l,j+1,h=>by
  obtain⟨Q,h1,h2⟩:=cps_at (l:=l) (j:=j) (by simpa using h);have e:∀{X Y:List av},X.Perm (Y++Q)->(a.B++X).Perm (Y++(a.B++Q)):=λ{X Y} h=>(j8 _ h).trans (dW λf=>by simp only[ee];omega);exact⟨a.B++Q,e h1,λb'=>e (h2 b')⟩
def Room(x:Option aF)(N:Nat)(B:List av):Prop:=0<N->∃(id T:Nat)(cs:Array aj),x=aa ⟨id,0,ag⟩/\(⟨id,af,.cells cs T (0,0)⟩:av)∈B/\N<=cs.size
def Room.row{z T n c:Nat}{os:List aj}{x:Option aF}{b B:List av}(h:dk z T os x n c b)(hb:∀y∈b,y∈B):Room x (n*z) B:=by
 intro hN;rcases h.2.2 with⟨-,rfl,-,-⟩|⟨id,tail,rfl,rfl,hl⟩
 ·omega
 ·refine⟨id,T,_,rfl,hb _ (jS.2 rfl),?_⟩;have:=h.1;simp only[List.size_toArray,fH];omega
def ovrH:(bA->V)->Op->List VB->List (LG fr)->VK (LG fr)->Prop:=λe op bl ch K=>match op,ch with
 |.store t x y,.br u::.hJ bb::.hJ ba::.gu m2::.gu m1::rest=>(match e x,e y with
  |.raw (.pointer a),.int .u8 v=>∃(j o:Nat)(b:jz),(t=5/\ba[j]?=aa b/\a=b.x.map (λq=>q.add (o*1))/\o<b.n)/\∀b':jz,b'.x=b.x->b'.n=b.n->b'.c=b.c->K gn bl (.br u::.hJ bb::.hJ (ba.set j b')::.gu m2::.gu m1::rest)
  |.raw (.pointer a),.agg l=>∃(x:Option aF)(N o:Nat),((bF 0 l&&(ao [] l).all (·.oneCell'))=af/\(prog.info? t).map (·.size)=aa (ao [] l).length/\Room x N m1.fB/\a=x.map (λq=>q.add o)/\o+(ao [] l).length<=N/\0<N)/\
   ∀B':List av,(∀x N,Room x N m1.fB->Room x N B')->K gn bl (.br u::.hJ bb::.hJ ba::.gu m2::.gu {m1 with fB:=B'}::rest)
  |_,_=>False)
 |_,_=>False
def ovrH_ok{gl:Nat->Option Nat}:iF prog gl (ovrH (fr:=fr)):=by
 intro e op ae bl ch R ms w0 w K ρ o hg hl S bo ho h;unfold ovrH at h;split at h
 ·rename_i t x y u bb ba m2 m1 rest;split at h
  ·rename_i a v hx hy;obtain⟨j,q,b,⟨rfl,hj,rfl,hq⟩,hK⟩:=h;have hb:∃id,b.x=aa ⟨id,0,ag⟩/\b.B=[⟨id,af,.cells (bM b.n b.f b.c) 5 (0,0)⟩]/\b.n<=b.c:=by
    rcases b.h with⟨h0,_⟩|⟨hle,⟨_,h0,_⟩|⟨id,hx,hB⟩⟩
    ·omega
    ·omega
    ·exact⟨id,hx,hB,hle⟩
   obtain⟨id,hbx,hbB,hle⟩:=hb;obtain⟨Q,q1,q2⟩:=cps_at hj;rw[hbB]at q1;have S1:St ms w0 (⟨id,af,.cells (bM b.n b.f b.c) 5 (0,0)⟩::(lits ae ae bl++(cA u++(ni bb++(Q++(m2.B++(m1.B++ax rest R))))))) w:=by
    refine S.perm ?_;show lO (_++(cA u++(ni bb++(ni ba++(m2.B++(m1.B++ax rest R)))))) _;refine xm (j8 _ (j8 _ (j8 _ (BA _ q1)))) ?_;exact dW λf=>by simp only[ee,j9,lQ];omega
   have aV:=S1.at' (xk);have b_:=GH (P:=prog) (off:=q) (v:=.int .u8 v) (vs:=[.int .u8 v]) (ty:=5) aV rfl kR (by simp[bM,cQ];omega) rF;have fR:=S1.step (i:=0) rfl rfl (Ch.setRow w id _) (setRow_heap w id _ (Sx.splice (bM b.n b.f b.c) q [.int .u8 v]) 5 (0,0) aV);rw[bvZ_set hq]at fR b_
   let b':jz:=⟨b.n,L_ b.f q v,b.x,b.c,[⟨id,af,.cells (bM b.n (L_ b.f q v) b.c) 5 (0,0)⟩],b.le,.inr ⟨hle,.inr ⟨id,hbx,rfl⟩⟩⟩
   refine⟨gn,[],bl,_,w.setRow id (bM b.n (L_ b.f q v) b.c),.inr ⟨?_,rfl⟩,by simpa using hl,?_,hK b' rfl rfl rfl⟩
   ·unfold execOp;simp only[ho,bo,hx,hy,hbx,den,Option.map,iY,Gz,jt,bH,de,cD,d_,Nat.mul_one,b_]
   ·rw[cy];refine fR.perm ?_;show lO (_::(lits ae ae bl++(cA u++(ni bb++(Q++(m2.B++(m1.B++ax rest R))))))) (_++(cA u++(ni bb++(ni (ba.set j b')++(m2.B++(m1.B++ax rest R))))));refine xm ?_ (j8 _ (j8 _ (j8 _ (BA _ (q2 b').symm))));exact dW λf=>by simp only[b',ee,j9,lQ];omega
  ·rename_i a l hx hy;obtain⟨xa,N,q,⟨hw,dr,hR,rfl,hq,hN⟩,hK⟩:=h;simp only[bJ]at hw;obtain⟨id,T,cs,rfl,hm,qJ⟩:=hR hN;obtain⟨p1,p2,hp⟩:=List.append_of_mem hm;have ed:ao ae l=ao [] l:=by have:=jI (ae:=[]) (aq:=ae) l hw.1;simpa using this
   have S1:St ms w0 (⟨id,af,.cells cs T (0,0)⟩::(lits ae ae bl++(cA u++(ni bb++(ni ba++(m2.B++(m1.cB++(m1.F.B++(p1++(p2++(m1.G.B++ax rest R))))))))))) w:=by
    refine S.perm ?_;show lO (_++(cA u++(ni bb++(ni ba++(m2.B++((m1.cB++(m1.F.B++(m1.fB++m1.G.B)))++ax rest R)))))) _;rw[hp];exact dW λf=>by simp only[ee,j9,lQ];omega
   have aV:=S1.at' (xk);have b_:=GH (P:=prog) (off:=q) (v:=.agg (ao [] l).toArray) (vs:=ao [] l) (ty:=t) aV rF dr oM (by simpa using hw.2);have fR:=S1.step (i:=0) rfl rfl (Ch.setRow w id _) (setRow_heap w id _ (Sx.splice cs q (ao [] l)) T (0,0) aV);have Lt:(Sx.splice cs q (ao [] l)).size=cs.size:=by simp[Sx.splice];omega
   refine⟨gn,[],bl,_,w.setRow id (Sx.splice cs q (ao [] l)),.inr ⟨?_,rfl⟩,by simpa using hl,?_,hK (p1++⟨id,af,.cells (Sx.splice cs q (ao [] l)) T (0,0)⟩::p2) ?_⟩
   ·unfold execOp;simp only[ho,bo,hx,hy,den,ed,Option.map,iY,Gz,jt,bH,de,cD,d_,b_]
   ·rw[cy];refine fR.perm ?_;show lO (_::(lits ae ae bl++(cA u++(ni bb++(ni ba++(m2.B++(m1.cB++(m1.F.B++(p1++(p2++(m1.G.B++ax rest R))))))))))) (_++(cA u++(ni bb++(ni ba++(m2.B++((m1.cB++(m1.F.B++((p1++_::p2)++m1.G.B)))++ax rest R))))));exact dW λf=>by simp only[ee,j9,lQ];omega
   ·intro x' N' h' hN';obtain⟨id',T',oW,e1,e2,e3⟩:=h' hN';rw[hp]at e2;rcases dV.1 e2 with e2|e2
    ·exact⟨id',T',oW,e1,kB _ e2,e3⟩
    ·rcases cG.1 e2 with e2|e2
     ·simp only[av.mk.injEq,Obj.cells.injEq]at e2;obtain⟨rfl,-,rfl,rfl,-⟩:=e2;exact⟨_,_,_,e1,oF _ xk,by rw[Lt];exact e3⟩
     ·exact⟨id',T',oW,e1,oF _ (qA _ e2),e3⟩
  ·exact h.elim
 ·exact h.elim
def Yy(l:List V):VB:=⟨af,⟨28,(0,0)⟩,l⟩
def aym(x:my)(f:Nat->Nat×az):VB:=Yy [.fi ⟨x.q,f⟩ x.ka x.kn x.kc]
def ayn(x:my)(u:an)(n d:Nat->Nat):List VB:=[hU (n 0) (d 0) (mw (x.kn 0) (dP u (x.ka 0))),hU (n 1) (d 1) (mw (x.kn 1) (dP u (x.ka 1))),hU (n 2) (d 2) (mw (x.kn 2) (dP u (x.ka 2))),hU (n 3) (d 3) (mw (x.kn 3) (dP u (x.ka 3)))]
def s8(k:LK)(p2:aX)(F:bx fr (bd k (mz p2)))(ic it:Nat)(a:Nat->Nat):eY fr:=⟨k,bV (mz p2),F,[],.new a,ic,it⟩
def mkP(bl:List VB)(k:LK)(p2:aX)(it:Nat):Prop:=bl=bl/\nr k it (mz p2)=nr k it (bV (mz p2))/\p2.da=p2.da/\p2.jk=p2.jk
def ayo(bl:List VB)(b:VB):Prop:=∃e,bl++[b]=bl++e
section
variable(C:aM)(tg tc:aP)(ty:BT)(u:an)(x:my)(f:Nat->Nat×az)(o n c:Nat)(a:Option aF)(es:Nat->eT)(aw a9:List aj)
end
def ayp(es:Nat->eT)(n:Nat)(bs:List jz):Prop:=∀j,j<n->∃b∈bs,(es j).x=b.x/\(es j).n=b.n/\(es j).c=b.c/\b.n<=120/\By b.f/\kx (es j).s.x
def agz(tg:aP)(u:an)(es:Nat->eT)(o n c:Nat)(aw:List aj)(X:(dN:Nat->eT)->(bs:List jz)->Option aF->Nat->Nat->List aj->Nat->Prop):Prop:=
 ∃Gu:Nat->eT,(kz es=kz Gu/\n=n/\(∀j,j<n->o=aw.length)/\n<=c/\(∃t,aa (fO tg)=aa (fO t))/\∀j,j<n->jx u (Gu j).x (Gu j).n (Gu j).c (dP u (Gu j).x))/\
  ∀(dN:Nat->eT)(bs:List jz)(x:Option aF)(c' sV:Nat)(us:List aj),DD u Gu dN (cY 60 n) bs->X dN bs x c' sV us (cY 60 n)
def Yz(tg tc:aP)(R:VB)(m:eY fr):Prop:=aa (fO tg)=aa (cx m.k)/\aa (Kk tc)=aa (g_ m.k)/\aa R=aa m.R
def agA(j N:Nat):Prop:=0<=(j:Int)/\(j:Int)<(N:Int)
def evP(es:Nat->eT)(j N:Nat):Prop:=(j:Int).toNat<N/\∀i,(kz es i).length=10
section
variable(C:aM)(tg tc:aP)(ty:BT)(u:an)(x:my)(f:Nat->Nat×az)(o n c:Nat)(a:Option aF)(es:Nat->eT)(aw a9:List aj)
variable(K:V->Prop)
end
def ayq{k:LK}{p2:aX}{F:bx fr (bd k (mz p2))}(hC:ft k (mz p2))(hm:k.most=p2.queue)(hp:Du k)(v1:cC=F.vs)(v2:cC=F.vr)(ic it:Nat)(b:Nat->Nat):ql (fr:=fr) (s8 k p2 F ic it b).k (s8 k p2 F ic it b).s (s8 k p2 F ic it b).F (s8 k p2 F ic it b).G:=
 ⟨by show ft k (bV (mz p2));rw[nu];exact hC,hm.symm,hp,v1,v2,λi _ j=>⟨uy 0,by show(0:Int)<=255;decide⟩,λi _=>oG 36⟩
section
variable{tg tc:aP}{ty:BT}{u:an}{x:my}{f:Nat->Nat×az}{o n c:Nat}{a:Option aF}{es:Nat->eT}{aw a9:List aj}
end
structure DL(u:an)(es:Nat->eT)(o n:Nat)(aw:List aj):Prop where
 po:∀j,j<n->o=aw.length
 rd:∀j,j<n->jx u (es j).x (es j).n (es j).c (dP u (es j).x)
 x4:∀j,kx (es j).s.x
def DL.cp{u:an}{es dN:Nat->eT}{o n N:Nat}{aw:List aj}{bs:List jz}(h:DL u es o n aw)(hF:DD u es dN N bs):ayp dN N bs:=by
 intro j hj;obtain⟨b,q1,q2,q3,q4⟩:=hF.each j hj;refine⟨b,rC q1,by rw[q2];rfl,by rw[q2];rfl,by rw[q2];rfl,by rw[q3];unfold cY;omega,by rw[q4];exact ae4 u _,by rw[q2];exact h.x4 j⟩
def DL.few{tg:aP}{u:an}{es:Nat->eT}{o n c:Nat}{aw:List aj}{X:(dN:Nat->eT)->(bs:List jz)->Option aF->Nat->Nat->List aj->Nat->Prop}(h:DL u es o n aw)(hn:n<=c)
 (hX:∀dN bs x c' sV us,DD u es dN (cY 60 n) bs->X dN bs x c' sV us (cY 60 n)):agz tg u es o n c aw X:=⟨es,⟨rfl,rfl,h.po,hn,⟨tg,rfl⟩,h.rd⟩,hX⟩
def ayr{j N:Nat}(h:j<N):agA j N:=⟨oM,oM⟩
def agB{tg tc:aP}{m:eY fr}{R:VB}(h1:m.k.tg=tg)(h2:m.k.tc=tc)(h3:m.R=R):Yz tg tc R m:=by
 subst h1 h2 h3;exact⟨rfl,rfl,rfl⟩
end
end Go.Proofs.YtddcipamdggcnaaGreatDoor
namespace Sd
def dU.run(C:aM)(crc:az->Nat->Int)(m:dU)(ev:Nat->Ev):Nat->dU
 |0=>m
 |n+1=>(dU.run C crc m ev n).go C crc (ev n)
def dU.of(p:aX):dU:=⟨⟨.new p,[],[]⟩,λ_=>(0,λ_=>0)⟩
end Sd
namespace Go.Proofs.YtddcipamdggcnaaGreatDoor
variable{fr:aQ->Nat×az}
def Gv(es:Nat->eT)(bs:List jz)(j:Nat):Ev:=⟨(es j).kind,(es j).src,(match bs[j]?with|some b=>b.n|none=>0),(match bs[j]?with|some b=>b.f|none=>λ_=>0),(es j).s,(es j).bad⟩
def PV(es:Nat->eT)(n:Nat)(bs:List jz):Prop:=∀j,j<n->∃b,bs[j]?=aa b/\(es j).x=b.x/\(es j).n=b.n/\(es j).c=b.c/\b.n<=120/\By b.f/\kx (es j).s.x
structure Bn(fr:aQ->Nat×az)(P:aX)(ev:Nat->Ev)(mc:eY fr)(ts:Nat->ai)(vs:Nat->jg)(j:Nat):Prop where
 ok:ql mc.k mc.s mc.F mc.G
 s:mc.s=fE ((Sd.dU.of P).run (aO aU) cn ev j).s
 r:f_ mc.G=((Sd.dU.of P).run (aO aU) cn ev j).r
 t:∀i,i<j->ts i=((Sd.dU.of P).run (aO aU) cn ev (i+1)).s/\zF fr (ts i) (vs i) mc.fB/\(ts i).bE.length<=10000/\(ts i).aY.length<=10000
structure pg(fr:aQ->Nat×az)(tg tc:aP)(u:an)(x:my)(n:Nat) where
 p:Nat->Int
 m:Nat->Nat
 d:Nat->Nat
 hM:Made x p m
 mc:eY fr
 YB:mc.k.tg=tg
 t_:mc.k.tc=tc
 es:Nat->eT
 bs:List jz
 ev:PV es n bs
 ex:Option aF
 ec:Nat
 et:Nat
 eu:List aj
 j:Nat
 hj:j<=n
 ts:Nat->ai
 vs:Nat->jg
 ok:Bn fr (nP (oz 4 p m d) (afW x u)) (Gv es bs) mc ts vs j
 x:Option aF
 c:Nat
 bk:List av
 h:dk 46 48 ((bg j).flatMap (jN ts vs)) x j c bk
section
variable(C:aM)(tg tc:aP)(ty:BT)(u:an)(x:my)(f:Nat->Nat×az)(o n c:Nat)(a:Option aF)(es:Nat->eT)(aw a9:List aj)
def agE(C:aM)(m:eY fr)(e:eT)(rest:List (LG fr))(X:ai->jg->eY fr->Prop):Prop:=
 ql m.k m.s m.F m.G/\kx ⟨e.s.x.a,e.s.x.b,e.s.x.c,e.s.x.d⟩/\∃eb:jy,EvB e.kind e.src (.raw (.slice e.x e.n e.c)) rest eb/\
  ∀(t:ai),t=(Sd.dU.go C cn ⟨m.s,f_ m.G⟩ (jM e.kind e.src eb ⟨e.s.valid,⟨e.s.x.a,e.s.x.b,e.s.x.c,e.s.x.d⟩,e.s.qG⟩ e.bad)).s->∀(v:jg)(m':eY fr),Gt m m' t (Sd.dU.go C cn ⟨m.s,f_ m.G⟩ (jM e.kind e.src eb ⟨e.s.valid,⟨e.s.x.a,e.s.x.b,e.s.x.c,e.s.x.d⟩,e.s.qG⟩ e.bad)).r v->X t v m'
variable(Lf:(y:pg fr tg tc u x (cY 60 n))->Option aF->Nat->Nat->List aj->Prop)
variable(K:VK (LG fr))
end
end Go.Proofs.YtddcipamdggcnaaGreatDoor
namespace Go.Proofs.YtddcipamdggcnaaGreatDoor
section
variable{fr:aQ->Nat×az}
def newOK4{q:Nat}{p:Nat->Int}{m d:Nat->Nat}(h1:Py (oz q p m d) m):Py (oz q p m d) (n4 m):=⟨h1.code,λj hj=>by
 rw[<-h1.n j hj]
 match j,hj with
 |0,_=>rfl
 |1,_=>rfl
 |2,_=>rfl
 |3,_=>rfl
 |j+4,h=>exact absurd h oM,h1.k⟩
section
variable{tg tc:aP}{ty:BT}{u:an}{x:my}{f:Nat->Nat×az}{n:Nat}{es:Nat->eT}{aw a9:List aj}{Lf:(y:pg fr tg tc u x (cY 60 n))->Option aF->Nat->Nat->List aj->Prop}
def ayt{p2:aX}{k:LK}{F:bx fr (bd k (mz p2))}{ev:Nat->Ev}{ic it:Nat}{b:Nat->Nat}(h:ql (fr:=fr) (s8 k p2 F ic it b).k (s8 k p2 F ic it b).s (s8 k p2 F ic it b).F (s8 k p2 F ic it b).G):Bn fr p2 ev (s8 k p2 F ic it b) (λ_=>mz p2) (λ_=>⟨ag,0,ag,0,λ_=>⟨ag,0,0⟩⟩) 0:=
 ⟨h,by show bV (mz p2)=fE (mz p2);rw[nu];rfl,rfl,λi hi=>absurd hi (Nat.not_lt_zero _)⟩
def stpF_at{m:eY fr}{es:Nat->eT}{j:Nat}{bs:List jz}{rest:List (LG fr)}{X:ai->jg->eY fr->Prop}(hm:ql m.k m.s m.F m.G)(he:∃b,bs[j]?=aa b/\(es j).x=b.x/\(es j).n=b.n/\(es j).c=b.c/\b.n<=120/\By b.f/\kx (es j).s.x)(hb:LG.hJ bs∈rest)
 (hX:∀(t:ai),(t=(Sd.dU.go (aO aU) cn ⟨m.s,f_ m.G⟩ (Gv es bs j)).s)->∀(v:jg)(m':eY fr),Gt m m' t (Sd.dU.go (aO aU) cn ⟨m.s,f_ m.G⟩ (Gv es bs j)).r v->X t v m'):agE (aO aU) m (es j) rest X:=by
 obtain⟨b,iM,e1,e2,e3,e4,e5,e6⟩:=he;have Ar:Gv es bs j=jM (es j).kind (es j).src b.red (es j).s (es j).bad:=by
  unfold Gv;rw[iM];rfl
 rw[Ar]at hX;refine⟨hm,e6,b.red,⟨λ_ _=>?_,.inr ⟨bs,hb,b,rC iM,rfl⟩,e5,h_ e4 dC⟩,λt ht v m' hR=>hX t ht v m' hR⟩;rw[e1,e2,e3];rfl
def Bn.next{P:aX}{ev:Nat->Ev}{mc m':eY fr}{ts:Nat->ai}{vs:Nat->jg}{j:Nat}{t:ai}{v:jg}(h:Bn fr P ev mc ts vs j)(ht:t=(Sd.dU.go (aO aU) cn ⟨mc.s,f_ mc.G⟩ (ev j)).s)
 (hF:Gt mc m' t (Sd.dU.go (aO aU) cn ⟨mc.s,f_ mc.G⟩ (ev j)).r v):Bn fr P ev m' (λi=>if i=j then t else ts i) (λi=>if i=j then v else vs i) (j+1):=by
 have e:Sd.dU.go (aO aU) cn ⟨mc.s,f_ mc.G⟩ (ev j)=(Sd.dU.of P).run (aO aU) cn ev (j+1):=by
  rw[h.s,h.r];rfl
 rw[e]at ht hF;refine⟨hF.ok,by rw[hF.s,ht],hF.rs,λi hi=>?_⟩;by_cases mW:i=j
 ·subst mW;rw[if_pos rfl,if_pos rfl];exact⟨ht,hF.at_,hF.nS,hF.nR⟩
 ·rw[if_neg mW,if_neg mW];obtain⟨q1,q2,q3⟩:=h.t i oM;obtain⟨e',he'⟩:=hF.f;exact⟨q1,q2.more λy hy=>by rw[he'];exact oF _ hy,q3⟩
end
def DL.cpK{u:an}{es dN:Nat->eT}{o n N:Nat}{aw:List aj}{bs:List jz}(h:DL u es o n aw)(hF:DD u es dN N bs):PV dN N bs:=by
 intro j hj;obtain⟨b,q1,q2,q3,q4⟩:=hF.each j hj;refine⟨b,q1,by rw[q2];rfl,by rw[q2];rfl,by rw[q2];rfl,by rw[q3];unfold cY;omega,by rw[q4];exact ae4 u _,by rw[q2];exact h.x4 j⟩
def recN(t:ai):Nat:=t.aY.length
def sntN(t:ai):Nat:=t.bE.length
structure McA(tg tc:aP)(M:Sd.dU)(m:eY fr):Prop where
 YB:m.k.tg=tg
 t_:m.k.tc=tc
 ok:ql m.k m.s m.F m.G
 s:m.s=fE M.s
 r:f_ m.G=M.r
structure KyD where
 p:Nat->Int
 n:Nat->Nat
 d:Nat->Nat
 g:Nat->Nat->Int
 p':Nat->Int
 n':Nat->Nat
 d':Nat->Nat
 hn:∀j,j<4->n j<=64
structure KyS(fr:aQ->Nat×az)(tg tc:aP) where
 y:KyD
 P:aX
 m1:eY fr
 m2:eY fr
 h1:McA tg tc (Sd.dU.of P) m1
 h2:McA tg tc (Sd.dU.of P) m2
 k:Nat
def EvA(ev:Nat->Ev)(es:Nat->eT)(i n:Nat)(bs:List jz):Prop:=∀j,i<=j->j<n->(∃b,bs[j]?=aa b/\(es j).x=b.x/\(es j).n=b.n/\(es j).c=b.c/\b.n<=120/\By b.f/\kx (es j).s.x)/\Gv es bs j=ev j
structure MaS(fr:aQ->Nat×az)(tg tc:aP)(n:Nat) where
 y:KyD
 P:aX
 m1:eY fr
 m2:eY fr
 esa:Nat->eT
 bsa:List jz
 ax:Option aF
 ac:Nat
 at_:Nat
 au:List aj
 esb:Nat->eT
 bsb:List jz
 bx:Option aF
 bc:Nat
 bt:Nat
 bu:List aj
 j:Nat
 hj:j<=n
 h1:McA tg tc ((Sd.dU.of P).run (aO aU) cn (Gv esb bsb) j) m1
 h2:McA tg tc ((Sd.dU.of P).run (aO aU) cn (Gv esb bsb) j) m2
 ea:EvA (Gv esb bsb) esa j n bsa
 eb:PV esb n bsb
structure BlS(fr:aQ->Nat×az)(tg tc:aP)(n:Nat) where
 z:MaS fr tg tc n
 dy:z.j<n
 v:jg
 m1:eY fr
 h1:McA tg tc ((Sd.dU.of z.P).run (aO aU) cn (Gv z.esb z.bsb) (z.j+1)) m1
 t:ai
 ht:t=((Sd.dU.of z.P).run (aO aU) cn (Gv z.esb z.bsb) (z.j+1)).s
 hR:m1.R=z.m1.R
 ra:zF fr t v m1.fB
 ln:t.bE.length<=10000/\t.aY.length<=10000
 bsa:List jz
 ea:EvA (Gv z.esb z.bsb) z.esa (z.j+1) n bsa
 cur:∃b,bsa[z.j]?=aa b/\(z.esa z.j).x=b.x/\(z.esa z.j).n=b.n/\(z.esa z.j).c=b.c/\b.n<=120
 k:Nat
structure TwS(fr:aQ->Nat×az)(tg tc:aP)(n:Nat) where
 z:MaS fr tg tc n
 dy:z.j<n
 t:ai
 v:jg
 m1:eY fr
 h1:McA tg tc ((Sd.dU.of z.P).run (aO aU) cn (Gv z.esb z.bsb) (z.j+1)) m1
 hR:m1.R=z.m1.R
 v2:jg
 m2:eY fr
 h2:McA tg tc ((Sd.dU.of z.P).run (aO aU) cn (Gv z.esb z.bsb) (z.j+1)) m2
 hR2:m2.R=z.m2.R
 bsa:List jz
 ea:EvA (Gv z.esb z.bsb) z.esa (z.j+1) n bsa
 sm:Bool
 hsm:sm=af
 r1:Room v.x1 (t.bE.length*2) m1.fB
 r2:Room v.x2 (t.aY.length*6) m1.fB
 ln:t.bE.length<=10000/\t.aY.length<=10000
 k:Nat
section
variable(C:aM)(tg tc:aP)(ty:BT)(u:an)(x:my)(f:Nat->Nat×az)(o n c:Nat)(a:Option aF)(es:Nat->eT)(aw a9:List aj)
def agQ(p:Nat->Int)(m d:Nat->Nat)(g:Nat->Nat->Int)(p':Nat->Int)(m' d':Nat->Nat):List VB:=fO tg::Kk tc::nH ty n es aw a9::aym x f::([hU (m 0) (d 0) (g 0),hU (m 1) (d 1) (g 1),hU (m 2) (d 2) (g 2),hU (m 3) (d 3) (g 3)]++Yy (oz 4 p m d)::(ayn x u m' d'++[Yy (oz 9 p' m' d')]))
def aBq(y:KyD)(m1 m2:eY fr):List VB:=agQ tg tc ty u x f n es aw a9 y.p y.n y.d y.g y.p' y.n' y.d'++[m1.R,m2.R]
def KyD.up(y:KyD)(i q:Nat):KyD:={y with g:=λj=>bif aC j i then L_ (y.g j) q 1 else y.g j}
def agC(z:KyS fr tg tc):List (LG fr):=[.br u,.gu z.m2,.gu z.m1]
def kyV(i:Nat)(k:Int):List V:=[.dB 2 o n c a,.ptr 8 0,.ptr 14 0,.ptr 15 0,.int .i64 i,.int .i64 k]
def kyVM(k:Int):List V:=[.dB 2 o n c a,.ptr 8 0,.ptr 14 0,.ptr 15 0,.int .i64 k]
def kyLp(i:Nat):Lp (LG fr):=we (X:={z:KyS fr tg tc //z.k<=z.y.n i}) (λz=>z.1.y.n i-z.1.k) 149 16 [1,6,8,9,10,11] (λz=>kyV o n c a i z.1.k) (λz=>aBq tg tc ty u x f n es aw a9 z.1.y z.1.m1 z.1.m2) (λz=>agC tg tc u z.1) (λ_=>rfl) (λ_=>kR) (λ_=>rfl)
def kyLpM:Lp (LG fr):=we (X:={z:KyS fr tg tc //z.k<=z.y.n 3}) (λz=>z.1.y.n 3-z.1.k) 149 16 [1,6,8,9,12] (λz=>kyVM o n c a z.1.k) (λz=>aBq tg tc ty u x f n es aw a9 z.1.y z.1.m1 z.1.m2) (λz=>agC tg tc u z.1) (λ_=>rfl) (λ_=>kR) (λ_=>rfl)
def maVV(z:MaS fr tg tc (cY 60 n))(j:Int):List V:=[.ptr 14 0,.ptr 15 0,.dB 16 0 (cY 60 n) z.ac z.ax,.dB 17 0 (cY 60 n) z.bc z.bx,.int .i64 j]
def maB(z:MaS fr tg tc (cY 60 n)):List VB:=aBq tg tc ty u x f n es aw a9 z.y z.m1 z.m2++[jf z.at_ 10 (cY 60 n) (kz z.esa) z.au,jf z.bt 10 (cY 60 n) (kz z.esb) z.bu]
def maC(z:MaS fr tg tc (cY 60 n)):List (LG fr):=[.br u,.hJ z.bsb,.hJ z.bsa,.gu z.m2,.gu z.m1]
def maLp:Lp (LG fr):=we (X:=MaS fr tg tc (cY 60 n)) (λz=>cY 60 n-z.j) 149 18 [8,9,13,14,15] (λz=>maVV tg tc n z z.j) (maB tg tc ty u x f n es aw a9) (maC tg tc u n) (λ_=>rfl) (λ_=>kR) (λ_=>rfl)
def tdBx(t:ai)(v:jg):VB:=⟨af,⟨48,(0,0)⟩,wZ t v⟩
abbrev BlX(fr:aQ->Nat×az)(jv:Int):={s:BlS fr tg tc (cY 60 n) //(s.z.j:Int)=jv/\s.k<=(s.z.esa s.z.j).n}
def blVV(s:BlS fr tg tc (cY 60 n))(k:Int):List V:=maVV tg tc n s.z s.z.j++[.ptr 18 0,.int .i64 k]
def blB(s:BlS fr tg tc (cY 60 n)):List VB:=maB tg tc ty u x f n es aw a9 s.z++[tdBx s.t s.v]
def blC(s:BlS fr tg tc (cY 60 n)):List (LG fr):=[.br u,.hJ s.z.bsb,.hJ s.bsa,.gu s.z.m2,.gu s.m1]
def blLp(jv:Int):Lp (LG fr):=we (X:=BlX tg tc n fr jv) (λs=>(s.1.z.esa s.1.z.j).n-s.1.k) 149 19 [8,9,13,14,15,16,17] (λs=>blVV tg tc n s.1 s.1.k) (λs=>blB tg tc ty u x f n es aw a9 s.1) (λs=>blC tg tc u n s.1) (λ_=>rfl) (λ_=>kR) (λ_=>rfl)
abbrev TwX(fr:aQ->Nat×az)(jv:Int)(N:ai->Nat):={s:TwS fr tg tc (cY 60 n) //(s.z.j:Int)=jv/\s.k<=N s.t}
def twVV(s:TwS fr tg tc (cY 60 n))(k:Int):List V:=maVV tg tc n s.z s.z.j++[.ptr 18 0,.bool s.sm,.int .i64 k]
def twB(s:TwS fr tg tc (cY 60 n)):List VB:=maB tg tc ty u x f n es aw a9 s.z++[tdBx s.t s.v,tdBx s.t s.v2,tdBx s.t s.v,tdBx s.t s.v2]
def twC(s:TwS fr tg tc (cY 60 n)):List (LG fr):=[.br u,.hJ s.z.bsb,.hJ s.bsa,.gu s.m2,.gu s.m1]
def twLp(q:Nat)(N:ai->Nat)(jv:Int):Lp (LG fr):=we (X:=TwX tg tc n fr jv N) (λs=>N s.1.t-s.1.k) 149 22 [8,9,13,14,15,16,19,q] (λs=>twVV tg tc n s.1 s.1.k) (λs=>twB tg tc ty u x f n es aw a9 s.1) (λs=>twC tg tc u n s.1) (λ_=>rfl) (λ_=>kR) (λ_=>rfl)
def aJq(w:List V)(X:Int->Lp (LG fr)):Option (Lp (LG fr)):=match nth w 15 with|.int .i64 jv=>aa (X jv)|_=>ag
def maLps:Nat->List V->Option (Lp (LG fr)):=λi w=>
 bif aC i 2 then(match nth w 10 with|.int .i64 (.ofNat i)=>aa (kyLp tg tc ty u x f o n c a es aw a9 i)|_=>ag)else bif aC i 4 then aa (kyLpM tg tc ty u x f o n c a es aw a9)else bif aC i 6 then aa (maLp tg tc ty u x f n es aw a9)else
 bif aC i 8 then aJq w (blLp tg tc ty u x f n es aw a9)else bif aC i 10 then aJq w (twLp tg tc ty u x f n es aw a9 20 sntN)else bif aC i 12 then aJq w (twLp tg tc ty u x f n es aw a9 21 recN)else ag
def LMa(fr:aQ->Nat×az)(P:aL)(C:aM):List (bT (LG fr)):=[⟨12,ah,Gm⟩,⟨9,ah,PU⟩,⟨10,ah,XK⟩,⟨11,af,PQ P⟩,⟨13,ah,Gc (Yx C)⟩,⟨14,af,Gc Kw⟩,⟨39,ah,farC sntA⟩,⟨40,ah,farC recA⟩,⟨15,ah,sameC⟩]
variable(K:V->Prop)
def actT(s t:ai):Bool:=s.c.mode==t.c.mode&&(s.c.pt.cls==t.c.pt.cls&&(x4E s.c.pt.now t.c.pt.now&&(labE s.c.gW t.c.gW&&(labE s.c.pt.ct t.c.pt.ct&&af))))
def agEn(z:MaS fr tg tc (cY 60 n))(r:TwS fr tg tc (cY 60 n)):Prop:=af=af/\uY (λz=>cY 60 n-z.j) (λz=>maVV tg tc n z z.j) (maB tg tc ty u x f n es aw a9) (maC tg tc u n) z (maVV tg tc n r.z (i64.wrap ((r.z.j:Int)+1))) (maB tg tc ty u x f n es aw a9 r.z) (twC tg tc u n r)
def agFin(z:MaS fr tg tc (cY 60 n))(r:TwS fr tg tc (cY 60 n)):Prop:=Yz tg tc r.z.m1.R r.m1/\r.m1.s.c.p.queue=r.m1.k.most/\∀(qa:Option aF)(qc qt:Nat)(qu:List aj),Yz tg tc r.z.m2.R r.m2/\r.m2.s.c.p.queue=r.m2.k.most/\∀(ra:Option aF)(rc rt:Nat)(ru:List aj),
 SitP r.m1.s r.m2.s/\cond (!r.sm) (K (.bool ah)) (agEn tg tc ty u x f n es aw a9 z r)
def twBody(N:ai->Nat)(X:jg->Option aF)(sz:Nat)(t:aP)(l:List V)(jv:Int)(r:TwX tg tc n fr jv N):Prop:=
 ((0<=(r.1.k:Int)/\(r.1.k:Int)<(N r.1.t:Int))/\∃b,X r.1.v=aa b)/\∃(x':Option aF)(M o:Nat),((bF 0 l&&(ao [] l).all (·.oneCell'))=af/\(prog.info? t).map (·.size)=aa (ao [] l).length/\Room x' M r.1.m1.fB/\(X r.1.v).map (λq=>q.add ((r.1.k:Int).toNat*sz))=x'.map (λq=>q.add o)/\o+(ao [] l).length<=M/\0<M)/\
   ∀B':List av,(∀x N,Room x N r.1.m1.fB->Room x N B')->af=af/\uY (λs:TwX tg tc n fr jv N=>N s.1.t-s.1.k) (λs=>twVV tg tc n s.1 s.1.k) (λs=>twB tg tc ty u x f n es aw a9 s.1) (λs=>twC tg tc u n s.1) r (twVV tg tc n r.1 (i64.wrap ((r.1.k:Int)+1))) (twB tg tc ty u x f n es aw a9 r.1) [.br u,.hJ r.1.z.bsb,.hJ r.1.bsa,.gu r.1.m2,.gu {r.1.m1 with fB:=B'}]
def twEn0(N:ai->Nat)(z:MaS fr tg tc (cY 60 n))(sm:Bool)(bl:List VB)(ch:List (LG fr))(jv:Int):Prop:=af=af/\uX (λs:TwX tg tc n fr jv N=>twVV tg tc n s.1 s.1.k) (λs=>twB tg tc ty u x f n es aw a9 s.1) (λs=>twC tg tc u n s.1) (maVV tg tc n z z.j++[.ptr 18 0,.bool sm,.int .i64 0]) bl ch
def agRec(z:MaS fr tg tc (cY 60 n))(r:TwS fr tg tc (cY 60 n)):Prop:=twEn0 tg tc ty u x f n es aw a9 recN r.z r.sm (twB tg tc ty u x f n es aw a9 r) (twC tg tc u n r) r.z.j/\
 ∀(q:TwX tg tc n fr r.z.j recN)(g:Nat->aj),cond (decide ((q.1.k:Int)<(recN q.1.t:Int))) (twBody tg tc ty u x f n es aw a9 recN jg.x2 6 64 [.int .i64 0,.int .i64 0,.int .i64 0,.int .i64 0,.int .i64 0,.int .i64 0] r.z.j q) (agFin tg tc ty u x f n es aw a9 K z q.1)
def agTail(z:MaS fr tg tc (cY 60 n))(s:BlS fr tg tc (cY 60 n))(t2:ai)(v2:jg)(m2:eY fr)(sm:Bool):Prop:=twEn0 tg tc ty u x f n es aw a9 sntN s.z sm (maB tg tc ty u x f n es aw a9 s.z++[tdBx s.t s.v,tdBx t2 v2,tdBx s.t s.v,tdBx t2 v2]) [.br u,.hJ s.z.bsb,.hJ s.bsa,.gu m2,.gu s.m1] s.z.j/\
 ∀(r:TwX tg tc n fr s.z.j sntN)(g:Nat->aj),cond (decide ((r.1.k:Int)<(sntN r.1.t:Int))) (twBody tg tc ty u x f n es aw a9 sntN jg.x1 2 61 [.int .i64 0,.raw (.slice ag 0 0)] s.z.j r) (agRec tg tc ty u x f n es aw a9 K z r.1)
def agFar(A:ai->jg->V)(s:BlS fr tg tc (cY 60 n))(t2:ai)(v2:jg)(m2:eY fr)(N:Prop):Prop:=∃(t:ai)(v v':jg),([A s.t s.v,A t2 v2]=[A t v,A t v']/\FarP fr t v v' (aa (fO tg)) (ax [LG.br u,.hJ s.z.bsb,.hJ s.bsa,.gu m2,.gu s.m1] []))/\N
def agSnd(z:MaS fr tg tc (cY 60 n))(s:BlS fr tg tc (cY 60 n)):Prop:=
 agA s.z.j (cY 60 n)/\evP s.z.esb s.z.j (cY 60 n)/\Yz tg tc s.z.m2.R s.z.m2/\agE C s.z.m2 (s.z.esb (s.z.j:Int).toNat) ([.hJ s.z.bsb,.hJ s.bsa]++[.gu s.m1]) λt2 v2 m2=>
  agFar tg tc u n sntA s t2 v2 m2 (agFar tg tc u n recA s t2 v2 m2 (cond (actT s.t t2) (agTail tg tc ty u x f n es aw a9 K z s t2 v2 m2 (eqH s.t.c.head t2.c.head 32 0)) (agTail tg tc ty u x f n es aw a9 K z s t2 v2 m2 ah)))
def blBody(z:MaS fr tg tc (cY 60 n))(s:BlX tg tc n fr (z.j:Int)):Prop:=
 let e:=s.1.z.esa (s.1.z.j:Int).toNat
 agA s.1.z.j (cY 60 n)/\evP s.1.z.esa s.1.z.j (cY 60 n)/\cond (decide ((s.1.k:Int)<(e.n:Int))) (agA s.1.z.j (cY 60 n)/\evP s.1.z.esa s.1.z.j (cY 60 n)/\((0<=(s.1.k:Int)/\(s.1.k:Int)<(e.n:Int))/\∃b,e.x=aa b)/\
  ∃(j q:Nat)(b:jz),(5=5/\s.1.bsa[j]?=aa b/\e.x.map (λb=>b.add ((s.1.k:Int).toNat*1))=b.x.map (λp=>p.add (q*1))/\q<b.n)/\∀b':jz,b'.x=b.x->b'.n=b.n->b'.c=b.c->
   af=af/\uY (λs:BlX tg tc n fr (z.j:Int)=>(s.1.z.esa s.1.z.j).n-s.1.k) (λs=>blVV tg tc n s.1 s.1.k) (λs=>blB tg tc ty u x f n es aw a9 s.1) (λs=>blC tg tc u n s.1) s (blVV tg tc n s.1 (i64.wrap ((s.1.k:Int)+1))) (blB tg tc ty u x f n es aw a9 s.1) [.br u,.hJ s.1.z.bsb,.hJ (s.1.bsa.set j b'),.gu s.1.z.m2,.gu s.1.m1])
  (agSnd C tg tc ty u x f n es aw a9 K z s.1)
def maBody(z:MaS fr tg tc (cY 60 n)):Prop:=
 agA z.j (cY 60 n)/\evP z.esa z.j (cY 60 n)/\Yz tg tc z.m1.R z.m1/\agE C z.m1 (z.esa (z.j:Int).toNat) ([.hJ z.bsb,.hJ z.bsa,.gu z.m2]++[]) λt v m'=>
  (af=af/\uX (λs:BlX tg tc n fr (z.j:Int)=>blVV tg tc n s.1 s.1.k) (λs=>blB tg tc ty u x f n es aw a9 s.1) (λs=>blC tg tc u n s.1) (maVV tg tc n z z.j++[.ptr 18 0,.int .i64 0]) (maB tg tc ty u x f n es aw a9 z++[tdBx t v]) [.br u,.hJ z.bsb,.hJ z.bsa,.gu z.m2,.gu m'])/\
   ∀(s:BlX tg tc n fr (z.j:Int))(g:Nat->aj),blBody C tg tc ty u x f n es aw a9 K z s
def agEvs(y:KyS fr tg tc):Prop:=agz tg u es o n c aw λesa bsa ax ac at_ au _=>agz tg u es o n c aw λesb bsb bx bc bt bu _=>
 (af=af/\uX (λz:MaS fr tg tc (cY 60 n)=>maVV tg tc n z z.j) (maB tg tc ty u x f n es aw a9) (maC tg tc u n) [.ptr 14 0,.ptr 15 0,.dB 16 0 (cY 60 n) ac ax,.dB 17 0 (cY 60 n) bc bx,.int .i64 0] (aBq tg tc ty u x f n es aw a9 y.y y.m1 y.m2++[jf at_ 10 (cY 60 n) (kz esa) au,jf bt 10 (cY 60 n) (kz esb) bu]) [.br u,.hJ bsb,.hJ bsa,.gu y.m2,.gu y.m1])/\
  ∀(z:MaS fr tg tc (cY 60 n))(g:Nat->aj),cond (decide ((z.j:Int)<(cY 60 n:Nat))) (maBody C tg tc ty u x f n es aw a9 K z) (K (.bool af))
abbrev KyX(fr:aQ->Nat×az)(i:Nat):={z:KyS fr tg tc //z.k<=z.y.n i}
def kyLoop(i:Nat)(V:Int->List V)(bl:List VB)(ch:List (LG fr))(N:KyS fr tg tc->Prop):Prop:=
 (af=af/\uX (λz:KyX tg tc fr i=>V z.1.k) (λz=>aBq tg tc ty u x f n es aw a9 z.1.y z.1.m1 z.1.m2) (λz=>agC tg tc u z.1) (V 0) bl ch)/\
  ∀(z:KyX tg tc fr i)(g:Nat->aj),cond (decide ((z.1.k:Int)<(z.1.y.n i:Int))) ((0<=(z.1.k:Int)/\(z.1.k:Int)<(z.1.y.n i:Int))/\0+(z.1.k:Int).toNat<z.1.y.n i/\
   af=af/\uY (λz:KyX tg tc fr i=>z.1.y.n i-z.1.k) (λz=>V z.1.k) (λz=>aBq tg tc ty u x f n es aw a9 z.1.y z.1.m1 z.1.m2) (λz=>agC tg tc u z.1) z (V (i64.wrap ((z.1.k:Int)+1))) (aBq tg tc ty u x f n es aw a9 (z.1.y.up i (0+(z.1.k:Int).toNat)) z.1.m1 z.1.m2) (agC tg tc u z.1)) (N z.1)
def kyNext(i:Nat)(V:Int->List V)(y:KyS fr tg tc)(N:KyS fr tg tc->Prop):Prop:=kyLoop tg tc ty u x f n es aw a9 i V (aBq tg tc ty u x f n es aw a9 y.y y.m1 y.m2) (agC tg tc u y) N
def agKeys(bl:List VB)(ch:List (LG fr)):Prop:=kyLoop tg tc ty u x f n es aw a9 0 (kyV o n c a 0) bl ch λy=>kyNext tg tc ty u x f n es aw a9 1 (kyV o n c a 1) y λy=>kyNext tg tc ty u x f n es aw a9 2 (kyV o n c a 2) y λy=>kyNext tg tc ty u x f n es aw a9 3 (kyVM o n c a) y λy=>agEvs C tg tc ty u x f o n c es aw a9 K y
def keyG(x:my)(u:an)(j:Nat):Nat->Int:=mw (x.kn j) (dP u (x.ka j))
def agX:Prop:=rdA x u/\∀(p:Nat->Int)(m d:Nat->Nat)(hM:Made x p m),rdA x u/\∀(p':Nat->Int)(m' d':Nat->Nat)(hM':Made x p' m'),
 Py (oz 4 p m d) (n4 m)/\∀(p2:aX)(k:LK)(F:bx fr (bd k (mz p2)))(hN:XT (oz 4 p m d) (afW x u) tg tc p2 k)(v1:cC=F.vs)(v2:cC=F.vr),
  mkP (agQ tg tc ty u x f n es aw a9 p m d (keyG x u) p' m' d') k p2 19/\∀(ic it:Nat)(b:Nat->Nat),ayo (agQ tg tc ty u x f n es aw a9 p m d (keyG x u) p' m' d') (s8 k p2 F ic it b).R/\
   Py (oz 9 p' m' d') (n4 m')/\∀(p3:aX)(k':LK)(F':bx fr (bd k' (mz p3)))(hN':XT (oz 9 p' m' d') (afW x u) tg tc p3 k')(v3:cC=F'.vs)(v4:cC=F'.vr),
    mkP (agQ tg tc ty u x f n es aw a9 p m d (keyG x u) p' m' d'++[(s8 k p2 F ic it b).R]) k' p3 20/\∀(ic' it':Nat)(b':Nat->Nat),ayo (agQ tg tc ty u x f n es aw a9 p m d (keyG x u) p' m' d'++[(s8 k p2 F ic it b).R]) (s8 k' p3 F' ic' it' b').R/\
     agKeys C tg tc ty u x f o n c a es aw a9 K (agQ tg tc ty u x f n es aw a9 p m d (keyG x u) p' m' d'++[(s8 k p2 F ic it b).R,(s8 k' p3 F' ic' it' b').R]) [.br u,.gu (s8 k' p3 F' ic' it' b'),.gu (s8 k p2 F ic it b)]
def ag_vc:bz (vE prog gS (LMa fr prog C) ovrH ovrH_ok (maLps (fr:=fr) tg tc ty u x f o n c a es aw a9)) 60 4 [.agg [.fi ⟨x.q,f⟩ x.ka x.kn x.kc],.dB 2 o n c a] [fO tg,Kk tc,nH ty n es aw a9] [.br u] (λv _ _=>K v)=agX (fr:=fr) C tg tc ty u x f o n c a es aw a9 K:=kR
end
def nth_ge:∀(l:List V)(i:Nat),l.length<=i->nth l i=gn
 |[],_,_=>rfl
 |_::_,0,h=>by simp at h
 |_::l,i+1,h=>nth_ge l i (by simpa using h)
def nP_fit{x:my}{p p':Nat->Int}{n n':Nat->Nat}(m m':Nat)(d d':Nat->Nat)(f:Nat->az)(h:Made x p n)(h':Made x p' n'):nP (oz m p n d) f=nP (oz m' p' n' d') f:=by
 have hn:n=n':=funext λj=>(h.n j).trans (h'.n j).symm;subst hn;have ho:p 1=p' 1/\p 2=p' 2/\p 3=p' 3:=by
  have h1:=h.o;have h2:=h'.o;unfold Dz at h1 h2;omega
 have hp:∀i,i<56->ll i=ah->p i=p' i:=λi h1 h2=>by rw[h.p i h1 h2,h'.p i h1 h2,ho.1,ho.2.1,ho.2.2]
 have es:∀(v:V) k,iN (iV k v)=iN v/\sM (iV k v)=sM v:=λv k=>by cases v<;>exact⟨rfl,rfl⟩
 have key:∀i,iN (nth (oz m p n d) i)=iN (nth (oz m' p' n d') i)/\sM (nth (oz m p n d) i)=sM (nth (oz m' p' n d') i):=λi=>by
  rw[XV,XV,(es _ m).1,(es _ m').1,(es _ m).2,(es _ m').2];by_cases h1:i<56
  ·unfold Pm;rw[PC _ _ i i (by rw[pr h1]),PC _ _ i i (by rw[pr h1])];cases hk:ll i with
   |true=>exact⟨rfl,rfl⟩
   |false=>
    simp only[cond_false];rw[hp i h1 hk];exact⟨rfl,rfl⟩
  ·rw[nth_ge _ i (by simp[Pm];omega),nth_ge _ i (by simp[Pm];omega)];exact⟨rfl,rfl⟩
 have e1:(λi=>iN (nth (oz m p n d) i))=λi=>iN (nth (oz m' p' n d') i):=funext λi=>(key i).1;have e2:ln (oz m p n d)=ln (oz m' p' n d'):=funext λj=>(key (j+5)).2;unfold nP;rw[e1,e2]
def McA.next{tg tc:aP}{P:aX}{ev:Nat->Ev}{j:Nat}{m m':eY fr}{t:ai}{v:jg}(h:McA tg tc ((Sd.dU.of P).run (aO aU) cn ev j) m)(ht:t=(Sd.dU.go (aO aU) cn ⟨m.s,f_ m.G⟩ (ev j)).s)
 (hF:Gt m m' t (Sd.dU.go (aO aU) cn ⟨m.s,f_ m.G⟩ (ev j)).r v):McA tg tc ((Sd.dU.of P).run (aO aU) cn ev (j+1)) m'/\t=((Sd.dU.of P).run (aO aU) cn ev (j+1)).s:=by
 have e:Sd.dU.go (aO aU) cn ⟨m.s,f_ m.G⟩ (ev j)=(Sd.dU.of P).run (aO aU) cn ev (j+1):=by
  rw[h.s,h.r];rfl
 rw[e]at ht hF;exact⟨⟨by rw[hF.k];exact h.YB,by rw[hF.k];exact h.t_,hF.ok,by rw[hF.s,ht],hF.rs⟩,ht⟩
def McA.mk0{l:List V}{f:Nat->az}{tg tc:aP}{p2:aX}{k:LK}{F:bx fr (bd k (mz p2))}(hN:XT l f tg tc p2 k)(h:Sd.fL (nP l f))(hk:∀j,j<4->1<=ln l j/\ln l j<=64)(v1:cC=F.vs)(v2:cC=F.vr)(ic it:Nat)(b:Nat->Nat):McA (fr:=fr) tg tc (Sd.dU.of (nP l f)) (s8 k p2 F ic it b):=by
 have h0:=ayt (ev:=λ_=>⟨0,0,0,λ_=>0,⟨ah,⟨0,0,0,0⟩,ah⟩,ah⟩) (ayq (fr:=fr) (F:=F) (awY hN h hk) hN.most hN.qZ v1 v2 ic it b);exact⟨hN.tg,hN.tc,h0.ok,by rw[<-hN.eq];exact h0.s,by rw[<-hN.eq];exact h0.r⟩
section
variable{tg tc:aP}{ty:BT}{u:an}{x:my}{f:Nat->Nat×az}{o n c:Nat}{a:Option aF}{es:Nat->eT}{aw a9:List aj}{K:V->Prop}
def evw_set{es:Nat->eT}{bs:List jz}{i j:Nat}(b:jz)(h:j≠i):Gv es (bs.set i b) j=Gv es bs j:=by
 unfold Gv;rw[KV (λe=>h e.symm)]
def EvA.set{ev:Nat->Ev}{es:Nat->eT}{i n:Nat}{bs:List jz}(h:EvA ev es (i+1) n bs)(b:jz):EvA ev es (i+1) n (bs.set i b):=λj h1 h2=>by
 have c_:j≠i:=oM;obtain⟨⟨b2,q1,q2⟩,q3⟩:=h j h1 h2;exact⟨⟨b2,by rw[KV (λe=>c_ e.symm)];exact q1,q2⟩,by rw[evw_set b c_];exact q3⟩
def agFin_ok(z:MaS fr tg tc (cY 60 n))(r:TwS fr tg tc (cY 60 n))(hz:(r.z.j:Int)=(z.j:Int)):agFin tg tc ty u x f n es aw a9 K z r:=by
 have h60:cY 60 n<=60:=by unfold cY;omega
 have dy:=r.dy;have e:r.m1.s=r.m2.s:=r.h1.s.trans r.h2.s.symm;have h1:=r.h1.ok.ok.i.q.len;have h2:=r.h1.ok.ok.i.p.queue;refine⟨agB r.h1.YB r.h1.t_ r.hR,r.h1.ok.most,λ_ _ _ _=>⟨agB r.h2.YB r.h2.t_ r.hR2,r.h2.ok.most,λ_ _ _ _=>⟨?_,aN (λh=>by rw[r.hsm]at h;cases h) λ_=>⟨rfl,⟨r.z.y,r.z.P,r.m1,r.m2,r.z.esa,r.bsa,r.z.ax,r.z.ac,r.z.at_,r.z.au,r.z.esb,r.z.bsb,r.z.bx,r.z.bc,r.z.bt,r.z.bu,r.z.j+1,dy,r.h1,r.h2,r.ea,r.z.eb⟩,by show cY 60 n-(r.z.j+1)<cY 60 n-z.j;omega,?_,?_,rfl⟩⟩⟩⟩
 ·rw[<-e];exact⟨rfl,rfl,rfl,rfl,oM,rfl,_,rfl⟩
 ·rw[lg oM];rfl
 ·show aBq tg tc ty u x f n es aw a9 r.z.y r.z.m1 r.z.m2++_=aBq tg tc ty u x f n es aw a9 r.z.y r.m1 r.m2++_;unfold aBq;rw[r.hR,r.hR2]
def twBody_ok{N:ai->Nat}{X:jg->Option aF}{sz:Nat}{t:aP}{l:List V}{jv:Int}(r:TwX tg tc n fr jv N)(hs:0<sz)(hw:(bF 0 l&&(ao [] l).all (·.oneCell'))=af)(hi:(prog.info? t).map (·.size)=aa (ao [] l).length)(hl:(ao [] l).length=sz)(hR:Room (X r.1.v) (N r.1.t*sz) r.1.m1.fB)(hN:N r.1.t<=10000)(dy:r.1.k<N r.1.t):
 twBody tg tc ty u x f n es aw a9 N X sz t l jv r:=by
 have hM:0<N r.1.t*sz:=Nat.mul_pos oM hs;obtain⟨id,T,cs,hx,-⟩:=hR hM;refine⟨⟨⟨oM,oM⟩,_,hx⟩,X r.1.v,N r.1.t*sz,r.1.k*sz,⟨hw,hi,hR,by rw[tf],?_,hM⟩,λB' hB=>⟨rfl,⟨⟨r.1.z,r.1.dy,r.1.t,r.1.v,{r.1.m1 with fB:=B'},⟨r.1.h1.YB,r.1.h1.t_,r.1.h1.ok,r.1.h1.s,r.1.h1.r⟩,r.1.hR,r.1.v2,r.1.m2,r.1.h2,r.1.hR2,r.1.bsa,r.1.ea,r.1.sm,r.1.hsm,hB _ _ r.1.r1,hB _ _ r.1.r2,r.1.ln,r.1.k+1⟩,r.2.1,dy⟩,by show N r.1.t-(r.1.k+1)<N r.1.t-r.1.k;omega,?_,rfl,rfl⟩⟩
 ·have:(r.1.k+1)*sz<=N r.1.t*sz:=P9 sz dy;rw[oD]at this;omega
 ·rw[lg oM];rfl
def agRec_ok(z:MaS fr tg tc (cY 60 n))(r:TwS fr tg tc (cY 60 n))(hz:(r.z.j:Int)=(z.j:Int)):agRec tg tc ty u x f n es aw a9 K z r:=
 ⟨⟨rfl,⟨⟨r.z,r.dy,r.t,r.v,r.m1,r.h1,r.hR,r.v2,r.m2,r.h2,r.hR2,r.bsa,r.ea,r.sm,r.hsm,r.r1,r.r2,r.ln,0⟩,rfl,oG _⟩,rfl,rfl,rfl⟩,
   λq g=>aN (λe=>twBody_ok q dC rF kR rF q.1.r2 q.1.ln.2 (by simpa using e)) λ_=>agFin_ok z q.1 (q.2.1.trans hz)⟩
def agTail_ok(z:MaS fr tg tc (cY 60 n))(s:BlS fr tg tc (cY 60 n))(hz:(s.z.j:Int)=(z.j:Int)){v2:jg}{m2:eY fr}(h2:McA tg tc ((Sd.dU.of s.z.P).run (aO aU) cn (Gv s.z.esb s.z.bsb) (s.z.j+1)) m2)(hR2:m2.R=s.z.m2.R){sm:Bool}(hsm:sm=af):agTail tg tc ty u x f n es aw a9 K z s s.t v2 m2 sm:=by
 obtain⟨b1,r1,q1⟩:=s.ra.s;obtain⟨b2,r2,q2⟩:=s.ra.r;exact⟨⟨rfl,⟨⟨s.z,s.dy,s.t,s.v,s.m1,s.h1,s.hR,v2,m2,h2,hR2,s.bsa,s.ea,sm,hsm,Room.row r1 q1,Room.row r2 q2,s.ln,0⟩,rfl,oG _⟩,rfl,rfl,rfl⟩,
  λr g=>aN (λe=>twBody_ok r dC rF kR rF r.1.r1 r.1.ln.1 (by simpa using e)) λ_=>agRec_ok z r.1 (r.2.1.trans hz)⟩
def agSnd_ok(z:MaS fr tg tc (cY 60 n))(s:BlS fr tg tc (cY 60 n))(hz:(s.z.j:Int)=(z.j:Int)):agSnd (aO aU) tg tc ty u x f n es aw a9 K z s:=by
 have dy:=s.dy;unfold agSnd;rw[tf];refine⟨ayr dy,⟨by rw[tf];exact dy,λi=>rfl⟩,agB s.z.h2.YB s.z.h2.t_ rfl,stpF_at s.z.h2.ok (s.z.eb s.z.j dy) sP λt2 ht v2 m2 hF=>?_⟩;obtain⟨h2,ht2⟩:=s.z.h2.next ht hF;have e:t2=s.t:=ht2.trans s.ht.symm;have aV:=hF.at_;rw[e]at aV⊢;have hP:FarP fr s.t s.v v2 (aa (fO tg)) (ax [LG.br u,.hJ s.z.bsb,.hJ s.bsa,.gu m2,.gu s.m1] []):=by
  refine⟨s.ra.more λy hy=>?_,aV.more λy hy=>?_,⟨tg,rfl⟩,s.ln⟩
  ·exact oF _ (oF _ (oF _ (oF _ (kB _ (oF _ (oF _ (kB _ hy)))))))
  ·exact oF _ (oF _ (oF _ (kB _ (oF _ (oF _ (kB _ hy))))))
 exact⟨_,_,_,⟨rfl,hP⟩,_,_,_,⟨rfl,hP⟩,aN (λ_=>agTail_ok z s hz h2 hF.R (eqH_self _ _ _)) λe=>by simp[actT,labE_self,x4E_self]at e⟩
def blBody_ok(z:MaS fr tg tc (cY 60 n))(s:BlX tg tc n fr (z.j:Int)):blBody (aO aU) tg tc ty u x f n es aw a9 K z s:=by
 have dy:=s.1.dy;have hI:agA s.1.z.j (cY 60 n):=ayr dy;have hE:evP s.1.z.esa s.1.z.j (cY 60 n):=⟨by rw[tf];exact dy,λi=>rfl⟩;unfold blBody;dsimp only;rw[tf];refine⟨hI,hE,aN (λe=>?_) λ_=>agSnd_ok z s.1 s.2.1⟩;have hk:s.1.k<(s.1.z.esa s.1.z.j).n:=by simpa using e
 obtain⟨b,hb,e1,e2,e3,e4⟩:=s.1.cur;have hbx:∃q,b.x=aa q:=by
  rcases b.h with⟨h0,_⟩|⟨hle,⟨_,h0,_⟩|⟨id,hx,hB⟩⟩
  ·omega
  ·omega
  ·exact⟨_,hx⟩
 refine⟨hI,hE,⟨⟨oM,oM⟩,by rw[e1];exact hbx⟩,s.1.z.j,s.1.k,b,⟨rfl,hb,by rw[e1,tf],oM⟩,λb' q1 q2 q3=>⟨rfl,⟨⟨s.1.z,dy,s.1.v,s.1.m1,s.1.h1,s.1.t,s.1.ht,s.1.hR,s.1.ra,s.1.ln,s.1.bsa.set s.1.z.j b',s.1.ea.set b',⟨b',?_,by rw[q1];exact e1,by rw[q2];exact e2,by rw[q3];exact e3,oM⟩,s.1.k+1⟩,s.2.1,hk⟩,by show(s.1.z.esa s.1.z.j).n-(s.1.k+1)<(s.1.z.esa s.1.z.j).n-s.1.k;omega,?_,rfl,rfl⟩⟩
 ·rw[P8];rcases di s.1.z.j s.1.bsa.length with h|h
  ·exact h
  ·rw[jA h]at hb;cases hb
 ·rw[lg oM];rfl
def maBody_ok(z:MaS fr tg tc (cY 60 n))(dy:z.j<cY 60 n):maBody (aO aU) tg tc ty u x f n es aw a9 K z:=by
 obtain⟨he,Ar⟩:=z.ea z.j (cW _) dy;unfold maBody;rw[tf];refine⟨ayr dy,⟨by rw[tf];exact dy,λi=>rfl⟩,agB z.h1.YB z.h1.t_ rfl,stpF_at z.h1.ok he sP λt ht v m' hF=>?_⟩;rw[Ar]at ht hF;obtain⟨h1,PL⟩:=z.h1.next ht hF;obtain⟨b,q1,q2,q3,q4,q5,-⟩:=he;exact⟨⟨rfl,⟨⟨z,dy,v,m',h1,t,PL,hF.R,hF.at_,⟨hF.nS,hF.nR⟩,z.bsa,λj h1 h2=>z.ea j oM h2,⟨b,q1,q2,q3,q4,q5⟩,0⟩,rfl,oG _⟩,rfl,rfl,rfl⟩,λs g=>blBody_ok z s⟩
def agEvs_ok(hn:n<=c)(hE:DL u es o n aw)(hK:K (.bool af))(y:KyS fr tg tc):agEvs (aO aU) tg tc ty u x f o n c es aw a9 K y:=by
 refine hE.few hn λesa bsa ax ac at_ au hA=>hE.few hn λesb bsb bx bc bt bu hB=>⟨⟨rfl,⟨y.y,y.P,y.m1,y.m2,esa,bsa,ax,ac,at_,au,esb,bsb,bx,bc,bt,bu,0,oG _,y.h1,y.h2,λj _ hj=>⟨hE.cpK hA j hj,?_⟩,hE.cpK hB⟩,rfl,rfl,rfl⟩,λz g=>aN (λe=>maBody_ok z (by simpa using e)) λ_=>hK⟩;obtain⟨b,q1,q2,q3,q4⟩:=hA.each j hj;obtain⟨b2,r1,r2,r3,r4⟩:=hB.each j hj;unfold Gv;rw[q1,r1,q2,r2];simp only[eT.cp];rw[q3,r3,q4,r4]
def kyLoop_ok{i:Nat}{V:Int->List V}{y:KyS fr tg tc}{bl:List VB}{ch:List (LG fr)}{N:KyS fr tg tc->Prop}(hi:i<4)(h0:y.k=0)(hb:bl=aBq tg tc ty u x f n es aw a9 y.y y.m1 y.m2)(hc:ch=agC tg tc u y)(hN:∀y,N y):kyLoop tg tc ty u x f n es aw a9 i V bl ch N:=by
 refine⟨⟨rfl,⟨y,by rw[h0];exact oG _⟩,by show _=V (y.k:Int);rw[h0];rfl,hb,hc⟩,λz g=>aN (λe=>?_) λ_=>hN _⟩;have hk:z.1.k<z.1.y.n i:=by simpa using e
 have h64:=z.1.y.hn i hi;refine⟨⟨oM,oM⟩,by rw[tf];omega,rfl,⟨⟨z.1.y.up i (0+(z.1.k:Int).toNat),z.1.P,z.1.m1,z.1.m2,z.1.h1,z.1.h2,z.1.k+1⟩,hk⟩,by show z.1.y.n i-(z.1.k+1)<z.1.y.n i-z.1.k;omega,?_,rfl,rfl⟩;rw[lg oM];rfl
def kyNext_ok{i:Nat}{V:Int->List V}(y:KyS fr tg tc){N:KyS fr tg tc->Prop}(hi:i<4)(hN:∀y,N y):kyNext tg tc ty u x f n es aw a9 i V y N:=kyLoop_ok (y:=⟨y.y,y.P,y.m1,y.m2,y.h1,y.h2,0⟩) hi rfl rfl rfl hN
def ag_ok(hr:rdA x u)(hn:n<=c)(hE:DL u es o n aw)(hK:K (.bool af)):agX (fr:=fr) (aO aU) tg tc ty u x f o n c a es aw a9 K:=by
 refine⟨hr,λp m d hM=>⟨hr,λp' m' d' hM'=>?_⟩⟩;have hb:∀j,j<4->1<=m j/\m j<=64:=λj hj=>by rw[hM.n j];exact afI _
 have xG:∀j,j<4->1<=m' j/\m' j<=64:=λj hj=>by rw[hM'.n j];exact afI _
 obtain⟨h1,h2⟩:=afV (m:=4) (d:=d) hM.I hM.o hb;obtain⟨h3,h4⟩:=afV (m:=9) (d:=d') hM'.I hM'.o xG;refine⟨newOK4 h1,λp2 k F hN v1 v2=>⟨⟨rfl,by rw[nu],rfl,rfl⟩,λic it b=>⟨⟨_,rfl⟩,newOK4 h3,λp3 k' F' hN' v3 v4=>⟨⟨rfl,by rw[nu],rfl,rfl⟩,λic' it' b'=>⟨⟨_,rfl⟩,?_⟩⟩⟩⟩⟩;have g1:=McA.mk0 (fr:=fr) hN (h2 _) (λj hj=>by rw[PD _ _ _ _ hj];exact hb j hj) v1 v2 ic it b;have g2:=McA.mk0 (fr:=fr) hN' (h4 _) (λj hj=>by rw[PD _ _ _ _ hj];exact xG j hj) v3 v4 ic' it' b';rw[nP_fit 9 4 d' d _ hM' hM]at g2;exact kyLoop_ok (y:=⟨⟨p,m,d,keyG x u,p',m',d',λj hj=>(hb j hj).2⟩,_,_,_,g1,g2,0⟩) dC rfl rfl rfl λy=>kyNext_ok y dC λy=>kyNext_ok y dC λy=>kyNext_ok y dC λy=>agEvs_ok hn hE hK y
end
end
section
def LMa_ok:aK prog gS (LMa mA prog (aO aU)):=
 have n:∀{c:dm (LG mA)},(ah=af->gZ c):=λe=>by cases e
 aK.cons ⟨few_25S,n⟩ (aK.cons ⟨shn_25,n⟩ (aK.cons ⟨awv,n⟩ (aK.cons ⟨ax0,λ_=>ax2⟩ (aK.cons ⟨afG (ayl axE),n⟩ (aK.cons ⟨afG (ax9 axE),λ_=>ax8⟩ (aK.cons ⟨fsame_snt,n⟩ (aK.cons ⟨fsame_rec,n⟩ (aK.cons ⟨same_sound,n⟩ aK.nil))))))))
def xw{W:an}{tg tc:aP}(hG:W.heap[0]?=aa (.cells (aH .u32 64 c9) tg (0,0)))(hC:W.heap[1]?=aa (.cells #[.bool ah,.bool ah,.bool ah,.bool ah,.bool ah,.bool ah,.bool ah,.bool ah,.bool ah,.bool ah,.bool af,.bool af] tc (0,0)))
 (q:Nat->Int) (ka:Nat->Option aF) (kn kc:Nat->Nat) (hr:∀j,j<4->jx W (ka j) (kn j) (kc j) (dP W (ka j))) {v:aj} {es:Nat->eT} {i o n c:Nat} {a:Option aF} {ty:BT} {aw a9:List aj} (hR:Bi W v 10 (kz es) i o n c a ty aw a9)
 (zE:∀j,j<n->jx W (es j).x (es j).n (es j).c (dP W (es j).x)) (hx4:∀j,kx (es j).s.x):
 ba prog 4 #[.agg (tK ⟨q,λ_=>(0,λ_=>0)⟩ ka kn kc).toArray,v] W λv w1=>v=.bool af/\Ch [] W w1:=by
 have S:=axI (fr:=mA) hG hC (i:=i) (b:=nH ty n es aw a9) rfl rfl (by
  rw[hR.at_];simp only[nH,ao,cl,cy])
 have cT:bz (vE prog gS (LMa mA prog (aO aU)) ovrH ovrH_ok (maLps (fr:=mA) tg tc ty W ⟨q,ka,kn,kc⟩ (λ_=>(0,λ_=>0)) o n c a es aw a9)) 60 4 [.agg [.fi ⟨q,λ_=>(0,λ_=>0)⟩ ka kn kc],.dB 2 o n c a] [fO tg,Kk tc,nH ty n es aw a9] [.br W] (λv _ _=>v=.bool af):=by
  rw[ag_vc (x:=⟨q,ka,kn,kc⟩)];exact ag_ok ⟨hr 0 dC,hr 1 dC,hr 2 dC,hr 3 dC⟩ hR.le ⟨hR.po,zE,hx4⟩ rfl
 have cN:(aJ [0,1,i] [.agg [.fi ⟨q,λ_=>(0,λ_=>0)⟩ ka kn kc],.dB 2 o n c a]).toArray=#[.agg (tK ⟨q,λ_=>(0,λ_=>0)⟩ ka kn kc).toArray,v]:=by
  rw[hR.v];simp only[aJ,den,ao,cl,cy];rfl
 rw[<-cN];have hok:=LMa_ok;refine(eO (C:=vE prog gS (LMa mA prog (aO aU)) ovrH ovrH_ok (maLps (fr:=mA) tg tc ty W ⟨q,ka,kn,kc⟩ (λ_=>(0,λ_=>0)) o n c a es aw a9)) hok.T hok.Q 60 (axJ i) rfl S cT).mono ?_;rintro v w' ⟨x,aq,b9,ce,rfl,h1,S',rfl⟩;exact⟨rfl,S'.ch⟩
end
end Go.Proofs.YtddcipamdggcnaaGreatDoor
namespace Go.Proofs.YtddcipamdggcnaaGreatDoor.machineAgain
open Go.ChangeShapes Go.WideShapes Go.ChangeAt Go.RowKit Go.Joins Sd Sx
def opened(H:Type)(enc:aP×aj->H)(W:an)(ak:Array aj)(ds gs:List (DataW H))(before:List MemPlace)
 (Gy:∀(j:Nat) t v,Tryz.f4.params[j]?=aa t->ak[j]?=aa v->DX prog W .any 0 t v)
 (hW:DataW.Whole enc prog Tryz.f4.params.toList Rows.machineAgainSpec.vars ah W ak.toList ds gs before) (hL:laidMetH prog Yk W):
 Rows.machineAgainSpec.fn H (ds++gs)={results:=[.lit (.bool af)],args:=ds,vars:=[]}/\Calls prog 4 ak W λe W'=>e=.returned (.bool af)/\Below W.heap.size W W':=by
 obtain⟨p,q,hA,hV,rfl,Bj,wa⟩:=hW;obtain⟨tG,hG⟩:=axL hL;obtain⟨tC,hC⟩:=axT hL;rw[Tryz.params4]at hA Gy;obtain⟨v0,v1,d0,d1,p0,p1,cN,rfl,_,PJ,PL⟩:=trodAll_two hA;obtain rfl:ak=#[v0,v1]:=by cases ak;simp_all
 obtain⟨rfl,rfl⟩:=trodVars_none hV;obtain⟨pq,ka,kn,kc,rfl,hk⟩:=axU (Gy 0 28 v0 rfl rfl) (λn=>by obtain⟨fuel,h⟩:=PJ;exact Sx.Kq n h);have lJ:=agl Tryz.underlying29 rfl (Gy 1 29 v1 rfl rfl);have zE:∀k,Sx.Rd prog W k 29 [v1]:=λk=>by
  obtain⟨a,m,c,rfl,_,_⟩:=Yl Tryz.underlying29 lJ;obtain⟨fuel,h2⟩:=PL;exact Sx.Kq k h2
 obtain⟨es,i,o,n,c,a,ty,aw,a9,hR,hO,hx⟩:=axV lJ zE hG;exact⟨rfl,Sx.ahp (xw hG hC pq ka kn kc hk hR hO hx)⟩
def own:ownKnob prog.godebug=ag:=kR
def P6:List (String×DataW Unit):=[("sidestick/gate.commands",Rows.laid_sidestick_gate_commands),("sidestick/sha.roots",ahi)]
def azd(os:Os)(ak:Array aj):laidMetH prog P6 ((World.doorLaid prog 400 os).forCall (λ_ _=>0) ⟨#[],ak,[]⟩).memory:=
 laidMetH_of_parts3 (fuel:=8) (laidMet_of_run' 8 kR kR) kR kR
def lifted(os:Os)(started:os.Started)(H:Type)(enc:aP×aj->H):
 ReturnsInHanded {} ahj os 4 .any (λw ak=>(Rows.machineAgainSpec.pre enc prog Tryz.f4 [] ah w ak/\laidMetH prog P6 w)/\sizedMet enc prog Tryz.f4 (OpenSpec.ofChange Rows.machineAgainSpec) ah w ak)
  (Rows.machineAgainSpec.post enc prog Tryz.f4 ah af ah ah):=by
 refine returnsInHanded_of_change_and (C:=ahj) (X:=λw _=>laidMetH prog P6 w) (λ_ _ _ hh h=>h.of_heap hh) own started kR Tryz.func4
  (ChangeSpec.witness_shaped (enc:=enc) (C:=ahj) (os:=os) (X:=λw _=>laidMetH prog P6 w) ah (World.doorLaid prog 400 os) #[.agg #[.int .i64 0,.int .i64 0,.int .i64 0,.int .i64 0,.int .i64 0,.slice ag 0 0,.slice ag 0 0,.slice ag 0 0,.slice ag 0 0,.int .i64 0,.int .i64 0,.int .i64 0,.int .i64 0,.int .i64 0,.int .i64 0,.int .i64 0,.int .i64 0,.int .i64 0,.int .i64 0,.int .i64 0,.int .i64 0,.int .i64 0,.int .i64 0,.int .i64 0,.int .i64 0,.int .i64 0,.int .i64 0,.int .i64 0,.int .i64 0,.int .i64 0,.int .i64 0,.int .i64 0,.int .i64 0,.int .i64 0,.int .i64 0,.int .i64 0,.int .i64 0,.int .i64 0,.int .i64 0,.int .i64 0,.int .i64 0,.int .i64 0,.int .i64 0,.int .i64 0,.int .i64 0,.int .i64 0,.int .i64 0,.int .i64 0,.int .i64 0,.int .i64 0,.int .i64 0,.int .i64 0,.int .i64 0,.int .i64 0,.int .i64 0,.int .i64 0],.slice ag 0 0] 8 rfl (World.shaped_of_RefB kR kR) kR kR kR (azd os _)) ?_
 intro W base ak ds gs before Gy hW _ _ hL _;obtain⟨hs,hc⟩:=opened H enc W ak ds gs before Gy hW hL;refine hc.mono λe W' ⟨he,hb⟩=>⟨_,he,?_⟩;exact axM kR kR rfl kR Tryz.underlying4 hs hW hb
end Go.Proofs.YtddcipamdggcnaaGreatDoor.machineAgain
