/- Part 25 of the proof. -/
import Derived.Test.YtlkpikfddnjilaaGreatDoorProg
import Derived.Test.YtlkpikfddnjilaaGreatDoorE24
set_option linter.all false
set_option maxRecDepth 100000
set_option maxHeartbeats 4000000
open Go.Proofs.Tryz
open Go.IntKind (u8 u16 u32 u64 i64)
namespace Go.Proofs.YtlkpikfddnjilaaGreatDoor
open Go Go.RowKit Go.BigFrame Sx Vx
variable{fr:Sd.Reply->Nat×Sd.Byt}
def H9 (i:Nat) (v:V):Bool:=match v with
 |.int .i64 _=>!jO i
 |.sl _ 0 _ _=>jO i
 |_=>false
def sE:List V->Nat->Bool
 |[],i=>Nat.beq i 56
 |v::l,i=>H9 i v&&sE l (i+1)
def sI:V->Nat|.sl i _ _ _=>i|_=>0
def sM:V->Nat|.sl _ _ n _=>n|_=>0
def sK:V->Nat|.sl _ _ _ c=>c|_=>0
def pC (ids:List Nat) (i:Nat) (v:V):Value:=bif jO i then .slice (some ⟨ids.getD (sI v) 0,0,none⟩) (sM v) (sK v)else .int .i64 (iN v)
theorem yb (ids:List Nat):∀(l:List V) (i:Nat),sE l i=true->i+l.length=56/\ai ids l=(List.range l.length).map λj=>pC ids (i+j) (nth l j)
 |[],i,h=>⟨Nat.eq_of_beq_eq_true h,rfl⟩
 |v::l,i,h=>by
  unfold sE at h;rw[Bool.and_eq_true]at h;obtain⟨h1,h2⟩:=yb ids l (i+1) h.2;refine⟨by simp;omega,?_⟩;rw[List.length_cons,List.range_succ_eq_map,List.map_cons,List.map_map];simp only[ai,h2];have e:ai ids l=(List.range l.length).map ((λj=>pC ids (i+j) (nth (v::l) j))∘Nat.succ):=by
   rw[h2];apply List.map_congr_left;intro j _;show pC ids (i+1+j) (nth l j)=pC ids (i+(j+1)) (nth l j);rw[show i+1+j=i+(j+1) by omega]
  rw[<-h2,e];have hv:cl v (den ids v)=[pC ids (i+0) (nth (v::l) 0)]:=by
   have h3:=h.1;unfold H9 at h3;split at h3
   ·have:jO i=false:=by simpa using h3
    simp only[cl,den,nth,pC,Nat.add_zero,this,cond_false,iN]
   ·simp only[cl,den,nth,pC,Nat.add_zero,h3,cond_true,sI,sM,sK]
   ·cases h3
  rw[hv];rfl
def kyA (ids:List Nat) (l:List V) (j:Nat):Option Addr:=some ⟨ids.getD (sI (nth l (j+5))) 0,0,none⟩
def wJ (l:List V) (j:Nat):Nat:=sM (nth l (j+5))
def kyC (l:List V) (j:Nat):Nat:=sK (nth l (j+5))
def nP (l:List V) (f:Nat->Sd.Byt):Sd.Pol:=⟨λi=>iN (nth l i),λj=>(wJ l j,f j)⟩
theorem QA {l:List V} (h:sE l 0=true) (f:Nat->Sd.Byt) (ids:List Nat):(ai ids l).toArray=kG (nP l f) (kyA ids l) (wJ l) (kyC l):=by
 obtain⟨h1,h2⟩:=yb ids l 0 h;rw[h2,show l.length=56 by omega];rfl
def kyB (bl:List VB) (v:V):Option (Nat×Sd.Byt):=match v with
 |.sl i _ _ _=>(match bl[i]?with|some ⟨_,⟨5,(0,0)⟩,.ew .u8 m f::_⟩=>some (m,f)|_=>none)
 |_=>none
def mkK (l:List V) (f:Nat->Sd.Byt) (ka:Nat->Option Addr) (kc:Nat->Nat) (bq tg tc:Nat):LK:=⟨ka,wJ l,kc,f,bq,tg,tc,iN (nth l 48),none,0,0,λ_=>0⟩
def iM (p:Sd.Pol):Sd.Scene:=⟨.new p,[],[]⟩
structure yc (l:List V) (n:Nat->Nat):Prop where
 code:eh (λi=>iN (nth l i)) (wJ l)=0
 n:∀j,j<4->n j=wJ l j
 k:∀j,j<4->wJ l j<=64/\wJ l j<=kyC l j
structure Gg (l:List V) (f:Nat->Sd.Byt) (tg tc:Nat) (p:Sd.Pol) (k:LK):Prop where
 eq:p=nP l f
 kn:k.kn=wJ l
 kf:k.kf=f
 tg:k.tg=tg
 tc:k.tc=tc
 most:k.most=p.queue
 Fw:k.px=none/\k.pn=0/\k.pc=0
def V7:jq (LG fr):=λargs bl ch K=>match args,ch,bl with
 |[.agg l],.gh u::rest,⟨w0,⟨tg,(0,0)⟩,c0⟩::⟨w1,⟨tc,(0,0)⟩,c1⟩::bl2=>(match kyB (⟨w0,⟨tg,(0,0)⟩,c0⟩::⟨w1,⟨tc,(0,0)⟩,c1⟩::bl2) (nth l 5),kyB (⟨w0,⟨tg,(0,0)⟩,c0⟩::⟨w1,⟨tc,(0,0)⟩,c1⟩::bl2) (nth l 6),kyB (⟨w0,⟨tg,(0,0)⟩,c0⟩::⟨w1,⟨tc,(0,0)⟩,c1⟩::bl2) (nth l 7),kyB (⟨w0,⟨tg,(0,0)⟩,c0⟩::⟨w1,⟨tc,(0,0)⟩,c1⟩::bl2) (nth l 8)with
  |some (n0,f0),some (n1,f1),some (n2,f2),some (n3,f3)=>cond (sE l 0&&ez (bl2.length+2) (⟨w0,⟨tg,(0,0)⟩,c0⟩::⟨w1,⟨tc,(0,0)⟩,c1⟩::bl2))
   (yc l (k4 n0 n1 n2 n3)/\∀(p:Sd.Pol) (k:LK) (F:cz fr (b9 k (iM p))),Gg l (k4 f0 f1 f2 f3) tg tc p k->cJ=F.vs->cJ=F.vr->
    K (.aI [.ptr (bl2.length+2) 0,.int .i64 0]) (⟨w0,⟨tg,(0,0)⟩,c0⟩::⟨w1,⟨tc,(0,0)⟩,c1⟩::(bl2++[ei k (bl2.length+3) (iM p),gD (iM p)])) (.gh u::.core (cB k (iM p) F) []::rest)) False
  |_,_,_,_=>False)
 |_,_,_=>False
theorem AL {ids:List Nat} {bl:List VB} {X:List aC} {ms:List Nat} {w0 w:World} {v:V} {m:Nat} {f:Sd.Byt} (hl:ids.length=bl.length) (S:St ms w0 (lits ids ids bl++X) w) (h:kyB bl v=some (m,f)) (hm:m<=64) {c:Nat} (hc:m<=c):cA w (some ⟨ids.getD (sI v) 0,0,none⟩) m c f:=by
 unfold kyB at h;split at h
 ·rename_i i o n c';split at h
  ·rename_i wr m' f' r hb;obtain⟨rfl,rfl⟩:m'=m/\f'=f:=by simpa using h
   have cD:=(dY hl S hb).2;refine⟨by omega,hc,(λe=>nomatch e),λx e j hj=>?_⟩;obtain rfl:⟨ids.getD i 0,0,none⟩=x:=by simpa[sI]using e
   rw[Addr.add_lit,cell_of cD,Nat.zero_add];simp only[ai,cl,List.getElem?_toArray];rw[List.getElem?_append_left (by simpa using hj)];simp[List.getElem?_range hj]
  ·cases h
 ·cases h
theorem Kx (k:LK) (p:Sd.Pol) (b bt:Nat):aW (fH b bt) b (ei k 3 (iM p))=⟨b,true,.cells (mf p k.ka k.kn k.kc ⟨4,p.i 55,-1,⟨0,0⟩,⟨0,0⟩,false⟩ k.bq (f3 ⟨0,false,λ_=>0⟩ ⟨0,false,λ_=>0⟩ ⟨0,false,λ_=>0⟩) bt 0 0 (p.i 39) ⟨2,4,0⟩ ⟨1,⟨0,0,0,0⟩,⟨0,0,0,0⟩,⟨2,4,0⟩⟩ (λ_=>0)) 97 (0,0)⟩:=by kernel_rfl
theorem QB (p:Sd.Pol) (bt:Nat):aW [] bt (gD (iM p))=⟨bt,true,.cells (jm (false,⟨0,0⟩) (f3 ⟨false,⟨0,0⟩,0,(λ_=>0),⟨false,0,0⟩⟩ ⟨false,⟨0,0⟩,0,(λ_=>0),⟨false,0,0⟩⟩ ⟨false,⟨0,0⟩,0,(λ_=>0),⟨false,0,0⟩⟩) (p.i 42) (p.i 49)) 143 (0,0)⟩:=by kernel_rfl
theorem wm:Sound prog gS 10 (V7 (fr:=fr)):=by
 intro args ids bl ch R ms w0 w K hg hl S hc;unfold V7 at hc;split at hc
 ·rename_i l u rest w0' tg c0 w1' tc c1 bl2;split at hc
  ·rename_i n0 y0 n1 y1 n2 y2 n3 y3 e0 e1 e2 e3;cases hq:sE l 0&&ez (bl2.length+2) (⟨w0',⟨tg,(0,0)⟩,c0⟩::⟨w1',⟨tc,(0,0)⟩,c1⟩::bl2)with
   |false=>rw[hq]at hc;exact hc.elim
   |true=>
    rw[hq]at hc;simp only[Bool.and_eq_true]at hq;obtain⟨⟨afp,hn,hk⟩,hK⟩:=hc;have m0:n0=wJ l 0:=hn 0 (by decide);have m1:n1=wJ l 1:=hn 1 (by decide);have m2:n2=wJ l 2:=hn 2 (by decide);have m3:n3=wJ l 3:=hn 3 (by decide);have CK:∀i,i<4->cA w (kyA ids l i) (wJ l i) (kyC l i) (k4 y0 y1 y2 y3 i):=by
     intro i hi
     match i,hi with
     |0,_=>subst m0;exact AL hl S e0 (hk 0 (by decide)).1 (hk 0 (by decide)).2
     |1,_=>subst m1;exact AL hl S e1 (hk 1 (by decide)).1 (hk 1 (by decide)).2
     |2,_=>subst m2;exact AL hl S e2 (hk 2 (by decide)).1 (hk 2 (by decide)).2
     |3,_=>subst m3;exact AL hl S e3 (hk 3 (by decide)).1 (hk 3 (by decide)).2
     |i+4,h=>exact absurd h (by omega)
    have ca:(az ids [.agg l]).toArray=#[.agg (kG (nP l (k4 y0 y1 y2 y3)) (kyA ids l) (wJ l) (kyC l))]:=by
     simp only[az,den,QA hq.1 (k4 y0 y1 y2 y3) ids]
    rw[ca];refine(Qz (nP l (k4 y0 y1 y2 y3)) (kyA ids l) (wJ l) (kyC l) (k4 y0 y1 y2 y3) afp w CK).mono ?_;rintro v w' ⟨b,bq,bt,xa,xc,B,rfl,hr,T⟩;have S2:=S.beside T (Wr.app (Wr.cons rfl (Wr.cons rfl (Wr.cons rfl Wr.nil))) (Wr.app (hr 0 (by decide)).wr (Wr.app (hr 1 (by decide)).wr (Wr.app (hr 2 (by decide)).wr (Wr.app (hr 3 (by decide)).wr Wr.nil)))))
    let k:LK:=mkK l (k4 y0 y1 y2 y3) xa xc bq tg tc
    let s:Sd.Scene:=iM (nP l (k4 y0 y1 y2 y3))
    let F:cz fr (b9 k s):=⟨none,0,none,0,[⟨bq,true,.cells #[.slice none 0 0,.int .i64 k.most,.int .u64 0] 132 (0,0)⟩],[],[],[],B 0++(B 1++(B 2++(B 3++[]))),[],⟨[],none,0,0,[],rfl,iA _ _,trivial,rfl⟩,iA 6 65,iA 2 69,.nil,⟨B 0,B 1,B 2,B 3,[],rfl,hr 0 (by decide),hr 1 (by decide),hr 2 (by decide),hr 3 (by decide),kV 5⟩⟩
    have DJ:ids.length=bl2.length+2:=by simpa using hl
    refine⟨_,[b,bt],_,_,?_,by simp[DJ],?_,hK _ k F ⟨rfl,rfl,rfl,rfl,rfl,rfl,rfl,rfl,rfl⟩ rfl rfl⟩
    ·have h1:(ids++[b,bt]).getD (bl2.length+2) 0=b:=by rw[<-DJ];simp[List.getD]
     simp only[den,az,h1]
    ·have h2:(ids++[b,bt]).getD (bl2.length+3) 0=bt:=by rw[show bl2.length+3=ids.length+1 by omega];simp[List.getD]
     have e1:aW (ids++[b,bt]) b (ei k (bl2.length+3) s)=⟨b,true,.cells (mf (nP l (k4 y0 y1 y2 y3)) xa (wJ l) xc ⟨4,(nP l (k4 y0 y1 y2 y3)).i 55,-1,⟨0,0⟩,⟨0,0⟩,false⟩ bq (f3 ⟨0,false,λ_=>0⟩ ⟨0,false,λ_=>0⟩ ⟨0,false,λ_=>0⟩) bt 0 0 ((nP l (k4 y0 y1 y2 y3)).i 39) ⟨2,4,0⟩ ⟨1,⟨0,0,0,0⟩,⟨0,0,0,0⟩,⟨2,4,0⟩⟩ (λ_=>0)) 97 (0,0)⟩:=by
      rw[xW (a:=b) b h2];exact Kx k (nP l (k4 y0 y1 y2 y3)) b bt
     have e2:aW (ids++[b,bt]) bt (gD s)=⟨bt,true,.cells (jm (false,⟨0,0⟩) (f3 ⟨false,⟨0,0⟩,0,(λ_=>0),⟨false,0,0⟩⟩ ⟨false,⟨0,0⟩,0,(λ_=>0),⟨false,0,0⟩⟩ ⟨false,⟨0,0⟩,0,(λ_=>0),⟨false,0,0⟩⟩) ((nP l (k4 y0 y1 y2 y3)).i 42) ((nP l (k4 y0 y1 y2 y3)).i 49)) 143 (0,0)⟩:=by
      rw[cq (ids':=[]) (iJ s)];exact QB (nP l (k4 y0 y1 y2 y3)) bt
     have e3:(⟨w0',⟨tg,(0,0)⟩,c0⟩::⟨w1',⟨tc,(0,0)⟩,c1⟩::(bl2++[ei k (bl2.length+3) s,gD s]))=(⟨w0',⟨tg,(0,0)⟩,c0⟩::⟨w1',⟨tc,(0,0)⟩,c1⟩::bl2)++[ei k (bl2.length+3) s,gD s]:=rfl;rw[e3,aY _ _ _ _ hl,a_ _ _ (by rw[hl];exact hq.2)];show St ms w0 ((lits ids ids (⟨w0',⟨tg,(0,0)⟩,c0⟩::⟨w1',⟨tc,(0,0)⟩,c1⟩::bl2)++[aW (ids++[b,bt]) b (ei k (bl2.length+3) s),aW (ids++[b,bt]) bt (gD s)])++(fu u++((F.B++[])++ak rest R))) w';rw[e1,e2];have hF:F.B=⟨bq,true,.cells #[.slice none 0 0,.int .i64 ((nP l (k4 y0 y1 y2 y3)).i 48),.int .u64 0] 132 (0,0)⟩::(B 0++(B 1++(B 2++(B 3++[])))):=rfl;rw[hF];refine S2.perm ?_;show List.Perm (_++(_++(fu u++ak rest R))) _;exact di λf=>by simp only[List.countP_append,List.countP_cons,List.countP_nil];omega
  ·exact hc.elim
 ·exact hc.elim
theorem AM (n:Nat):∀(l:List V) (i:Nat),nth (HY n l) i=rk n (nth l i)
 |[],_=>rfl
 |_::_,0=>rfl
 |_::l,i+1=>AM n l i
theorem AN {α:Type} (f:α->V):∀(l:List α) (i:Nat) (a:α),l[i]?=some a->nth (l.map f) i=f a
 |[],_,_,h=>by simp at h
 |x::l,0,a,h=>by simp at h;subst h;rfl
 |x::l,i+1,a,h=>AN f l i a (by simpa using h)
section
variable(n:Nat) (p:Nat->Int) (kn d:Nat->Nat)
abbrev jY:List V:=HY n (VY p kn d)
theorem QC {i:Nat} (hi:i<56) (hk:jO i=false):iN (nth (jY n p kn d) i)=p i:=by
 unfold jY;rw[AM,VY,AN _ _ i i (by rw[List.getElem?_range hi]),hk];rfl
theorem QD {j:Nat} (hj:j<4):nth (jY n p kn d) (j+5)=.sl (j+n) 0 (kn j) (kn j+d j):=by
 unfold jY;rw[AM,VY,AN _ _ (j+5) (j+5) (by rw[List.getElem?_range (by omega)])];have hk:jO (j+5)=true:=by
  match j,hj with
  |0,_=>rfl
  |1,_=>rfl
  |2,_=>rfl
  |3,_=>rfl
  |j+4,h=>exact absurd h (by omega)
 rw[hk,Nat.add_sub_cancel];rfl
theorem wo {j:Nat} (hj:j<4):wJ (jY n p kn d) j=kn j:=by unfold wJ;rw[QD _ _ _ _ hj];rfl
theorem abJ {j:Nat} (hj:j<4):kyC (jY n p kn d) j=kn j+d j:=by unfold kyC;rw[QD _ _ _ _ hj];rfl
end
theorem afq (x:Int):0<=bits .and .i64 x 15/\bits .and .i64 x 15<=15:=by
 have:=ee .i64 x 15 16 4 (by decide) (by decide) (by decide);omega
theorem afr (x:Int):0<=bits .and .i64 x 31/\bits .and .i64 x 31<=31:=by
 have:=ee .i64 x 31 32 5 (by decide) (by decide) (by decide);omega
theorem afs (x:Int):0<=bits .and .i64 x 65535/\bits .and .i64 x 65535<=65535:=by
 have:=ee .i64 x 65535 65536 16 (by decide) (by decide) (by decide);omega
theorem QE (x:Int):qB (bits .and .i64 x 14)=true:=by
 rw[aeP];simp only[qB,vd,Bool.and_eq_true,decide_eq_true_eq,beq_iff_eq];omega
theorem one_mod (a:Int) {m:Int} (h:0<m) (h2:m<=1000000):i64.wrap (1+dy a m)=1+dy a m:=by
 have:=ru a h h2;exact nH (by omega)
theorem Gf.perm {q:Nat->Int} {o1 o2 o3:Int} (h:Gf q o1 o2 o3):(o1=1/\o2=2/\o3=3)\/(o1=1/\o2=3/\o3=2)\/(o1=2/\o2=1/\o3=3)\/(o1=2/\o2=3/\o3=1)\/(o1=3/\o2=1/\o3=2)\/(o1=3/\o2=2/\o3=1):=by
 rcases h with⟨_,⟨_,a,b,c⟩|⟨_,a,b,c⟩⟩|⟨_,⟨_,a,b,c⟩|⟨_,a,b,c⟩⟩|⟨_,⟨_,a,b,c⟩|⟨_,a,b,c⟩⟩<;>subst a b c<;>simp
theorem abK {q:Nat->Int} {kn:Nat->Nat} (hp:(q 1=1/\q 2=2/\q 3=3)\/(q 1=1/\q 2=3/\q 3=2)\/(q 1=2/\q 2=1/\q 3=3)\/(q 1=2/\q 2=3/\q 3=1)\/(q 1=3/\q 2=1/\q 3=2)\/(q 1=3/\q 2=2/\q 3=1))
 (h0:q 0=0/\q 4=4/\q 9=1/\q 13=0/\q 50=0) (hk:∀j,j<4->1<=kn j/\kn j<=64) (hr:qB (q 10)=true/\qB (q 11)=true/\qB (q 12)=true) (ht:∀i,14<=i->i<=33->0<=q i/\q i<=15) (hg:∀i,34<=i->i<=38->0<=q i/\q i<=31)
 (hm:∀i,39<=i->i<=41->0<=q i/\q i<=4) (hs:∀i,42<=i->i<=46->1<=q i/\q i<=1000) (hb:0<=q 47/\q 47<=1000) (hq:∀i,48<=i->i<=49->1<=q i/\q i<=3) (hl:∀i,51<=i->i<=53->0<=q i/\q i<=1000) (ha:1<=q 54/\q 54<=1000) (he:0<=q 55/\q 55<=65535):
 eh q kn=0/\∀ks,Sd.cP ⟨q,ks⟩:=by
 obtain⟨z0,z4,z9,z13,z50⟩:=h0;have RO:∀{lo hi n:Int},lo<=n/\n<=hi->vd lo hi n=true:=λh=>by simp[vd,h.1,h.2]
 have ahP:N_ q=true:=by
  rcases hp with⟨a,b,c⟩|⟨a,b,c⟩|⟨a,b,c⟩|⟨a,b,c⟩|⟨a,b,c⟩|⟨a,b,c⟩<;>simp[N_,rX,z0,z4,a,b,c]
 have CK:(sZ kn&&ve (kn 3))=true:=by
  have:=hk 0 (by decide);have:=hk 1 (by decide);have:=hk 2 (by decide);have:=hk 3 (by decide)
  simp only[sZ,ve,Bool.and_eq_true,decide_eq_true_eq];omega
 have ahQ:(q 9==1&&(q 13==0&&pj q))=true:=by simp[pj,z9,z13,hr]
 have ahR:Oa q=true:=by
  simp only[Oa,allI,Bool.and_eq_true];refine⟨?_,?_,?_,?_,?_⟩<;>refine⟨?_,?_,?_,?_,trivial⟩<;>exact RO (ht _ (by decide) (by decide))
 have hgr:allI 0 31 [q 34,q 35,q 36,q 37,q 38]=true:=by
  simp only[allI,Bool.and_eq_true];refine⟨?_,?_,?_,?_,?_,trivial⟩<;>exact RO (hg _ (by decide) (by decide))
 have hmo:allI 0 4 [q 39,q 40,q 41]=true:=by
  simp only[allI,Bool.and_eq_true];refine⟨?_,?_,?_,trivial⟩<;>exact RO (hm _ (by decide) (by decide))
 have hti:allI 1 1000 [q 42,q 43,q 44,q 45]=true:=by
  simp only[allI,Bool.and_eq_true];refine⟨?_,?_,?_,?_,trivial⟩<;>exact RO (hs _ (by decide) (by decide))
 have nY:(vd 1 1000 (q 46)&&vd 0 1000 (q 47))=true:=by rw[RO (hs 46 (by decide) (by decide)),RO hb];rfl
 have hro:allI 1 3 [q 48,q 49]=true:=by
  simp only[allI,Bool.and_eq_true];refine⟨?_,?_,trivial⟩<;>exact RO (hq _ (by decide) (by decide))
 have hli:(q 50==0&&(allI 0 1000 [q 51,q 52,q 53]&&vd 1 1000 (q 54)))=true:=by
  rw[z50,RO ha];simp only[allI,Bool.and_eq_true];refine⟨by decide,⟨?_,?_,?_,trivial⟩,trivial⟩<;>exact RO (hl _ (by decide) (by decide))
 refine⟨?_,λks=>?_⟩
 ·unfold eh;rw[ahP,CK,ahQ,ahR,hgr,hmo,hti,nY,hro,hli,RO he];rfl
 ·refine⟨z0,z4,hp,hm 39 (by decide) (by decide),hm 40 (by decide) (by decide),hm 41 (by decide) (by decide),hs 42 (by decide) (by decide),hs 43 (by decide) (by decide),hs 44 (by decide) (by decide),hs 45 (by decide) (by decide),hs 46 (by decide) (by decide),hb,hq 48 (by decide) (by decide),hq 49 (by decide) (by decide),?_,ha,he⟩;intro c hc;show 0<=q (50+c)/\q (50+c)<=1000
  match c,hc with
  |0,_=>rw[z50];decide
  |1,_=>exact hl 51 (by decide) (by decide)
  |2,_=>exact hl 52 (by decide) (by decide)
  |3,_=>exact hl 53 (by decide) (by decide)
  |c+4,h=>exact absurd h (by omega)
structure Gi (p:Nat->Int) (o1 o2 o3:Int) (q:Nat->Int):Prop where
 lo:∀i,i<=4\/(9<=i/\i<=41)\/(47<=i/\i<=55)->p i=sD o1 o2 o3 q i
 ti:∀i,42<=i->i<=46->1<=p i/\p i<=1000
theorem V8 {o1 o2 o3:Int} {q:Nat->Int} {i:Nat} (h1:42<=i) (h2:i<=46):1<=sD o1 o2 o3 q i/\sD o1 o2 o3 q i<=1000:=by
 have:sD o1 o2 o3 q i=i64.wrap (1+dy (q i) 1000):=by
  have:i=42\/i=43\/i=44\/i=45\/i=46:=by omega
  rcases this with rfl|rfl|rfl|rfl|rfl<;>rfl
 rw[this,one_mod _ (by decide) (by decide)];have:=ru (q i) (m:=1000) (by decide) (by decide);omega
theorem Gi.ok {p:Nat->Int} {o1 o2 o3:Int} {q:Nat->Int} (h:Gi p o1 o2 o3 q) (ho:Gf q o1 o2 o3) {kn:Nat->Nat} (hk:∀j,j<4->1<=kn j/\kn j<=64):eh p kn=0/\∀ks,Sd.cP ⟨p,ks⟩:=by
 have g:=λi hi=>h.lo i hi;have md:=λ(i:Nat) (m:Int) (h1:0<m) (h2:m<=1000000)=>ru (q i) h1 h2;refine abK ?_ ⟨g 0 (by decide),g 4 (by decide),g 9 (by decide),g 13 (by decide),g 50 (by decide)⟩ hk ⟨?_,?_,?_⟩ ?_ ?_ ?_ h.ti ?_ ?_ ?_ ?_ ?_
 ·rw[g 1 (by decide),g 2 (by decide),g 3 (by decide)];exact ho.perm
 ·rw[g 10 (by decide)];exact QE _
 ·rw[g 11 (by decide)];exact QE _
 ·rw[g 12 (by decide)];exact QE _
 ·intro i h1 h2;rw[g i (by omega)];have:sD o1 o2 o3 q i=bits .and .i64 (q i) 15:=by
   unfold sD;have e1:Nat.ble i 13=false:=by cases hb:Nat.ble i 13 with|false=>rfl|true=>exact absurd (Nat.le_of_ble_eq_true hb) (by omega)
   have e2:Nat.ble i 33=true:=Nat.ble_eq_true_of_le h2;rw[e1,e2];rfl
  rw[this];exact afq _
 ·intro i h1 h2;rw[g i (by omega)];have:sD o1 o2 o3 q i=bits .and .i64 (q i) 31:=by
   have:i=34\/i=35\/i=36\/i=37\/i=38:=by omega
   rcases this with rfl|rfl|rfl|rfl|rfl<;>rfl
  rw[this];exact afr _
 ·intro i h1 h2;rw[g i (by omega)];have:sD o1 o2 o3 q i=dy (q i) 5:=by
   have:i=39\/i=40\/i=41:=by omega
   rcases this with rfl|rfl|rfl<;>rfl
  rw[this];have:=md i 5 (by decide) (by decide);omega
 ·rw[g 47 (by decide)];have:=md 47 1001 (by decide) (by decide);show 0<=dy (q 47) 1001/\dy (q 47) 1001<=1000;omega
 ·intro i h1 h2;rw[g i (by omega)];have:sD o1 o2 o3 q i=i64.wrap (1+dy (q i) 3):=by
   have:i=48\/i=49:=by omega
   rcases this with rfl|rfl<;>rfl
  rw[this,one_mod _ (by decide) (by decide)];have:=md i 3 (by decide) (by decide);omega
 ·intro i h1 h2;rw[g i (by omega)];have:sD o1 o2 o3 q i=dy (q i) 1001:=by
   have:i=51\/i=52\/i=53:=by omega
   rcases this with rfl|rfl|rfl<;>rfl
  rw[this];have:=md i 1001 (by decide) (by decide);omega
 ·rw[g 54 (by decide)];show 1<=i64.wrap (1+dy (q 54) 1000)/\i64.wrap (1+dy (q 54) 1000)<=1000;rw[one_mod _ (by decide) (by decide)];have:=md 54 1000 (by decide) (by decide);omega
 ·rw[g 55 (by decide)];exact afs _
theorem H_ {i:Nat} (h:i<5\/8<i):jO i=false:=by
 unfold jO;cases h1:Nat.ble 5 i with
 |false=>rfl
 |true=>
  cases h2:Nat.ble i 8 with
  |false=>rfl
  |true=>have:=Nat.le_of_ble_eq_true h1;have:=Nat.le_of_ble_eq_true h2;omega
theorem Made.I {x:nW} {p:Nat->Int} {n:Nat->Nat} (h:Made x p n):Gi p (p 1) (p 2) (p 3) x.q:=
 ⟨λi hi=>h.p i (by omega) (H_ (by omega)),λi h1 h2=>by rw[h.p i (by omega) (H_ (by omega))];exact V8 h1 h2⟩
theorem Gi.at {p p':Nat->Int} {o1 o2 o3:Int} {q:Nat->Int} (h:Gi p o1 o2 o3 q) (e:∀i,i<56->jO i=false->p' i=p i):Gi p' o1 o2 o3 q:=
 ⟨λi hi=>by rw[e i (by omega) (H_ (by omega))];exact h.lo i hi,λi h1 h2=>by rw[e i (by omega) (H_ (by omega))];exact h.ti i h1 h2⟩
theorem QI {m:Nat} {p:Nat->Int} {n d:Nat->Nat} {o1 o2 o3:Int} {q:Nat->Int} (h:Gi p o1 o2 o3 q) (ho:Gf q o1 o2 o3) (hn:∀j,j<4->1<=n j/\n j<=64):yc (jY m p n d) n/\∀f,Sd.cP (nP (jY m p n d) f):=by
 have hb:∀j,j<4->1<=wJ (jY m p n d) j/\wJ (jY m p n d) j<=64:=λj hj=>by rw[wo _ _ _ _ hj];exact hn j hj
 have h1:=(h.at (p':=λi=>iN (nth (jY m p n d) i)) (λi h1 h2=>QC m p n d h1 h2)).ok ho hb;refine⟨⟨h1.1,λj hj=>(wo _ _ _ _ hj).symm,λj hj=>⟨(hb j hj).2,?_⟩⟩,λf=>h1.2 _⟩;rw[wo _ _ _ _ hj,abJ _ _ _ _ hj];omega
theorem QJ {l:List V} {f:Nat->Sd.Byt} {tg tc:Nat} {p:Sd.Pol} {k:LK} (hN:Gg l f tg tc p k) (h:Sd.cP (nP l f)) (hk:∀j,j<4->1<=wJ l j/\wJ l j<=64):bo k (iM p):=by
 obtain⟨rfl,h1,h2,h3,h4,h5,h6⟩:=hN;exact⟨Sd.Inv.new h,Sd.Ext.new,λi hi=>by rw[h1];exact hk i hi,λi hi=>by rw[h1,h2];rfl,rfl,rfl⟩
def f2 (a b:Int):Sd.Byt:=λj=>match j with|0=>a|_=>b
def abL (C:Sd.Crypt):jq (LG fr):=λargs bl ch K=>match args with
 |[.ptr ic 0,.int .i64 l,.agg [.int .i64 code,.sl ip 0 2 2]]=>(match bl[ip]?with
  |some ⟨true,⟨5,(0,0)⟩,[.int .u8 a,.int .u8 b]⟩=>coI C [.ptr ic 0,.int .i64 l,.agg [.int .i64 code,.sl ip 0 2 2]] (bl.set ip (fa 2 0 (f2 a b))) ch K
  |_=>False)
 |_=>False
theorem Ky {ids:List Nat} {bl:List VB} {ip:Nat} {b b':VB} (hl:ids.length=bl.length) (h:bl[ip]?=some b) (e:∀n,aW ids n b'=aW ids n b):lits ids ids (bl.set ip b')=lits ids ids bl:=by
 rw[<-jD ids bl ip b' hl,e,jD ids bl ip b hl];congr 1;apply List.ext_getElem?;intro j;rw[List.getElem?_set];split
 ·rename_i hj;subst hj;rw[h];simp[ct h]
 ·rfl
theorem Gj (ht:Body (fr:=fr) 130 bN):Sound prog gS 22 (abL (fr:=fr) (aq cu)):=by
 intro args ids bl ch R ms w0 w K hg hl S hc;unfold abL at hc;split at hc
 ·rename_i ic l code ip;split at hc
  ·rename_i a b hb;refine xY ht _ ids _ ch R ms w0 w K hg (by simpa using hl) ?_ hc;rw[Ky (b':=fa 2 0 (f2 a b)) hl hb (λn=>rfl)];exact S
  ·exact hc.elim
 ·exact hc.elim
def jP (t:TypeId):VB:=⟨false,t,[.ew .u32 64 aT]⟩
def pD (t:TypeId):VB:=⟨false,t,[.bool false,.bool false,.bool false,.bool false,.bool false,.bool false,.bool false,.bool false,.bool false,.bool false,.bool true,.bool true]⟩
def LSh (fr:Sd.Reply->Nat×Sd.Byt) (C:Sd.Crypt):List (eG (LG fr)):=[⟨9,false,VZ⟩,⟨10,false,V7⟩,⟨22,false,abL C⟩,⟨12,false,K5 λ_=>AH⟩]
theorem QK (ht:Body (fr:=fr) 130 bN):ao prog gS (LSh fr (aq cu)):=
 ao.cons ⟨x_,λe=>by cases e⟩ (ao.cons ⟨wm,λe=>by cases e⟩ (ao.cons ⟨Gj ht,λe=>by cases e⟩ (ao.cons (pB (v9 ht)) ao.nil)))
def V9:List V:=(List.range 56).map λi=>bif jO i then .raw (.slice none 0 0)else .int .i64 (bif Nat.beq i 10 then 2 else 0)
def abM:nW:=⟨λi=>iN (nth V9 i),λj=>sA (nth V9 (j+5)),λj=>sN (nth V9 (j+5)),λj=>sC (nth V9 (j+5))⟩
def rdA (x:nW) (u:World):Prop:=K7 x u 0/\K7 x u 1/\K7 x u 2/\K7 x u 3
def Dj (x:nW) (u:World):Nat->Sd.Byt:=k4 (xZ (x.kn 0) (dt u (x.ka 0))) (xZ (x.kn 1) (dt u (x.ka 1))) (xZ (x.kn 2) (dt u (x.ka 2))) (xZ (x.kn 3) (dt u (x.ka 3)))
def n4 (n:Nat->Nat):Nat->Nat:=k4 (n 0) (n 1) (n 2) (n 3)
def Dk (tg tc:TypeId) (it:Nat) (k:LK) (s:Sd.Scene):Prop:=some (jP tg)=some (aG k)/\some (pD tc)=some (iI k)/\Cq k it s=Cq k it (du s)/\s.c.p.bU=s.c.p.bU/\s.c.p.bx=s.c.p.bx/\s.c.p.queue=k.most
section
variable(C:Sd.Crypt) (tg tc:TypeId) (u:World) (K:VK (LG fr))
def shE (k:LK) (s':Sd.Scene) (F0:cz fr (b9 k (nn s'))) (fn:List aC) (r:TR):Prop:=
 let no (b:Bool):Prop:=K (.bool b) [jP tg,pD tc] [.gh u,.core (cB k (nn s') F0) (fn++[])]
 cond ((s'.sent.length:Int)==1) ((0<=(0:Int)/\0<(s'.sent.length:Int))/\(0<s'.sent.length/\∀j,(AD s'.sent r.fv j).length=2)/\
  cond ((s'.sent.getD 0 default).1==1) (cond ((s'.recs.length:Int)==1) ((0<=(0:Int)/\0<(s'.recs.length:Int))/\(0<s'.recs.length/\∀j,(C_ s'.recs j).length=6)/\
   cond ((s'.recs.getD 0 default).kind==2) (Dk tg tc 8 k (nn s')/\∀(x:Option Addr) (c ty:Nat) (us:List Value),K (.bool ((nn s').c.t.holder==4)) [jP tg,pD tc] [.gh u,.core (cB k (du (nn s')) F0) (fn++[])]) (no false)) (no false)) (no false)) (no false)
def shX:Prop:=rdA abM u/\∀(p:Nat->Int) (n d:Nat->Nat),Made abM p n->
 yc (jY 2 p n d) (n4 n)/\∀(p2:Sd.Pol) (k:LK) (F:cz fr (b9 k (iM p2))),Gg (jY 2 p n d) (Dj abM u) tg tc p2 k->cJ=F.vs->cJ=F.vr->
  Dk tg tc 8 k (iM p2)/\(2=2/\2+0=2/\wa=wa)/\wc k/\(bo k (du (iM p2))/\cJ=F.vs/\cJ=F.vr/\2<=58/\By (f2 1 1))/\
   ∀s',s'=iL C (du (iM p2)) 1 0 2 (f2 1 1)->∀(r:TR) (fn:List aC) (F0:cz fr (b9 k (nn s'))),cJ=F0.vs->cJ=F0.vr->P7 fr s'.sent r.fv fn->shE tg tc u K k s' F0 fn r
theorem aft:c_ (dQ prog gS (LSh fr C)) 60 8 [] [jP tg,pD tc] [.gh u] (eB 2 K)=shX C tg tc u K:=by kernel_rfl
end
section
variable{G:Type} [Bl G]
theorem yd {C:Ctx G} {f n:Nat} {ids:List Nat} {bl:List VB} {ch0 rest:List G} {R:List aC} {ms:List Nat} {w0 w:World} (hT:∀f c,C.T f=some c->Sound C.P C.gl f c) (hQ:ia C) (hl:ids.length=bl.length) (S:St ms w0 (lits ids ids bl++ak (ch0++rest) R) w)
 (is:List Nat) (hn:is.Nodup) (hg:Gl C.gl (is.map λi=>ids.getD i 0)) (bs:List VB) (hb:is.map (bl[·]?)=bs.map some) (hw:ez 0 bs=true) {args args':List V} (ca:az ids args=az (is.map λi=>ids.getD i 0) args') {v0:V} (XJ:fR 0 v0=true)
 (fW:c_ C n f args' bs ch0 (eB bs.length λv b c=>v=v0/\b.take bs.length=bs/\∃c2,c=ch0++c2)):au C.P f (az ids args).toArray w λv w'=>v=den [] v0/\St ms w0 (lits ids ids bl++ak (ch0++rest) R) w':=by
 have hlen:is.length=bs.length:=by have:=congrArg List.length hb;simpa using this
 have s_:∀(k i:Nat),is[k]?=some i->∃b,bs[k]?=some b/\bl[i]?=some b:=by
  intro k i hk;have:=congrArg (λl=>l[k]?) hb;simp only[List.getElem?_map,hk,Option.map_some]at this;cases hbk:bs[k]?with
  |none=>rw[hbk]at this;simp at this
  |some b=>rw[hbk]at this;simp only[Option.map_some,Option.some.injEq]at this;exact⟨b,rfl,this⟩
 have im:∀i∈is,i<bl.length:=by
  intro i hi;obtain⟨k,hk⟩:=List.getElem?_of_mem hi;obtain⟨b,_,h2⟩:=s_ k i hk;exact ct h2
 obtain⟨r,hr,hp⟩:=vm (bl:=bl) (ids:=ids) hl hn im;have eo:=hp bl rfl;have DP:∀(F9:List Nat),(is.map λj=>aW ids (ids.getD j 0) (bl.getD j ir))=lits F9 (is.map λi=>ids.getD i 0) bs:=by
  intro F9;clear hr hp eo ca fW im hg;induction is generalizing bs with
  |nil=>simp[lits]
  |cons i is ih=>
   cases bs with
   |nil=>simp at hlen
   |cons b bs=>
    simp only[List.map_cons,List.cons.injEq]at hb;simp only[ez,Bool.and_eq_true]at hw;simp only[List.map_cons,lits,cR hb.1];rw[cq (ids':=F9) hw.1,ih (List.nodup_cons.1 hn).2 bs hb.2 hw.2 (by simpa using hlen) (λk i hk=>s_ (k+1) i (by simpa using hk))]
 rw[DP (is.map λi=>ids.getD i 0)]at eo;have S1:St ms w0 (lits (is.map λi=>ids.getD i 0) (is.map λi=>ids.getD i 0) bs++ak ch0 ((r.map λj=>aW ids (ids.getD j 0) (bl.getD j ir))++ak rest R)) w:=by
  refine S.perm ((eo.append_right _).trans ?_);rw[fL,cM (ak rest R) ch0,cM ((r.map λj=>aW ids (ids.getD j 0) (bl.getD j ir))++ak rest R) ch0];exact di λf=>by simp only[List.countP_append];omega
 rw[ca];refine(bW hT hQ n hg (by simpa using hlen) S1 fW).mono ?_;rintro v w' ⟨x,XM,bl0,ch',rfl,Sa,S0,hK⟩;obtain⟨v2,more,bl',hv,DJ,S2,rfl,hbs,c2,rfl⟩:=eQ (n0:=bs.length) Sa (by simp[hlen]) S0 hK;have htk:((is.map λi=>ids.getD i 0)++XM).take bs.length=is.map λi=>ids.getD i 0:=by rw[<-hlen];have:=List.take_left (l₁:=is.map λi=>ids.getD i 0) (l₂:=XM);simpa using this
 rw[htk]at hv DJ S2;refine⟨by rw[hv];have:=bR (ids:=[]) (more:=(is.map λi=>ids.getD i 0)++more) v2 XJ;simpa using this,?_⟩;have gp:bl'=bs++bl'.drop bs.length:=by have:=List.take_append_drop bs.length bl';rw[hbs]at this;exact this.symm
 rw[gp,aY _ _ _ _ (by simpa using hlen),fJ (ids':=is.map λi=>ids.getD i 0) (is.map λi=>ids.getD i 0) bs hw]at S2;rw[fL,cM _ ch0,cM _ c2]at S2;have S3:St ms w0 (lits (is.map λi=>ids.getD i 0) (is.map λi=>ids.getD i 0) bs++(ak ch0 []++((r.map λj=>aW ids (ids.getD j 0) (bl.getD j ir))++ak rest R))) w':=by
  refine S2.sub ?_;rw[List.append_assoc];refine List.Sublist.append_left ?_ _;refine List.Sublist.trans ?_ (List.sublist_append_right _ _);exact List.Sublist.append_left (List.sublist_append_right _ _) _
 refine S3.perm (List.Perm.trans ?_ (eo.symm.append_right _));rw[fL,cM (ak rest R) ch0];exact di λf=>by simp only[List.countP_append];omega
end
theorem abN {G:Type} [Bl G] {C:Ctx Empty} {f n:Nat} {ids:List Nat} {bl:List VB} {ch:List G} {R:List aC} {ms:List Nat} {w0 w:World} (hT:∀f c,C.T f=some c->Sound C.P C.gl f c) (hQ:ia C) (hg:C.gl=my) (hl:ids.length=bl.length) (S:St ms w0 (lits ids ids bl++ak ch R) w)
 (is:List Nat) (hn:is.Nodup) (bs:List VB) (hb:is.map (bl[·]?)=bs.map some) (hw:ez 0 bs=true) {args args':List V} (ca:az ids args=az (is.map λi=>ids.getD i 0) args') {v0:V} (XJ:fR 0 v0=true)
 (fW:c_ C n f args' bs [] (eB bs.length λv b c=>v=v0/\b.take bs.length=bs/\∃c2,c=[]++c2)):au C.P f (az ids args).toArray w λv w'=>v=den [] v0/\St ms w0 (lits ids ids bl++ak ch R) w':=
 yd (G:=Empty) (ch0:=[]) (rest:=[]) (R:=ak ch R) hT hQ hl S is hn (λg i h=>by rw[hg]at h;cases h) bs hb hw ca XJ fW
theorem Dl (C:Sd.Crypt) (p:Sd.Pol) {m:Sd.dw} (hm:C.take 2 (f2 1 1)=some m) (hr:m.role=1) (ht:Sd.j6 p 1 1=true):∃r e,(iL C (iM p) 1 0 2 (f2 1 1)).sent=[(1,r)]/\(iL C (iM p) 1 0 2 (f2 1 1)).recs=[⟨2,1,0,e,0,0⟩]/\(iL C (iM p) 1 0 2 (f2 1 1)).c.t.holder=4/\(iL C (iM p) 1 0 2 (f2 1 1)).c.p=p:=by
 have e:iL C (iM p) 1 0 2 (f2 1 1)=(iM p).kW C 1 2 (f2 1 1):=rfl;rw[e];unfold Sd.Scene.kW;rw[hm];dsimp only;have ht':Sd.j6 (iM p).c.p 1 m.role=true:=by rw[hr];exact ht
 rw[if_neg (by rw[ht'];simp),if_neg (by show¬(4294967295:Int)<=0;decide)];exact⟨_,_,rfl,rfl,rfl,rfl⟩
theorem abO:∃m,cu 2 (f2 1 1)=some m/\m.role=1:=⟨_,rfl,rfl⟩
def shC:jq (LG fr):=λargs bl ch K=>match args,ch,bl with
 |[],.gh u::rest,⟨w0,⟨tg,(0,0)⟩,c0⟩::⟨w1,⟨tc,(0,0)⟩,c1⟩::bl2=>(w0=false/\c0=(jP tg).c/\w1=false/\c1=(pD tc).c)/\K (.bool true) (⟨w0,⟨tg,(0,0)⟩,c0⟩::⟨w1,⟨tc,(0,0)⟩,c1⟩::bl2) (.gh u::rest)
 |_,_,_=>False
theorem AO (u:World) (f:Nat->Int):eE u none 0 0 f:=⟨Nat.le_refl _,λ_=>⟨rfl,rfl⟩,λx e=>nomatch e⟩
theorem Dm {tg tc it:Nat} {k:LK} {s:Sd.Scene} (h1:k.tg=tg) (h2:k.tc=tc) (h3:s.c.p.queue=k.most):Dk tg tc it k s:=by
 subst h1 h2;exact⟨rfl,rfl,rfl,rfl,rfl,h3⟩
theorem abP {tg tc:Nat} {u:World} {K:VK (LG fr)} (hK:∀(g:Gh fr) (fB:List aC),K (.bool true) [jP tg,pD tc] [.gh u,.core g fB]):shX (aq cu) tg tc u K:=by
 refine⟨⟨AO _ _,AO _ _,AO _ _,AO _ _⟩,λp n d hM=>?_⟩;have hn:∀j,j<4->1<=n j/\n j<=64:=λj hj=>by rw[hM.n j];exact Qi _
 obtain⟨h1,h2⟩:=QI (m:=2) (d:=d) hM.I hM.o hn;have h1':yc (jY 2 p n d) (n4 n):=⟨h1.code,λj hj=>by
  rw[<-h1.n j hj]
  match j,hj with
  |0,_=>rfl
  |1,_=>rfl
  |2,_=>rfl
  |3,_=>rfl
  |j+4,h=>exact absurd h (by omega),h1.k⟩
 refine⟨h1',λp2 k F hN v1 v2=>?_⟩;have hC:=QJ hN (h2 _) (λj hj=>by rw[wo _ _ _ _ hj];exact hn j hj);refine⟨Dm hN.tg hN.tc hN.most.symm,⟨rfl,rfl,rfl⟩,hN.Fw,⟨by rw[lX];exact hC,v1,v2,by decide,λj=>by unfold f2;split<;>decide⟩,?_⟩;rintro s' hs r fn F0 w1 w2 hfr;rw[lX]at hs;obtain⟨m,hm,hr⟩:=abO;have hp:p2.i 10=2:=by
  rw[hN.eq];show iN (nth (jY 2 p n d) 10)=2;rw[QC 2 p n d (by decide) rfl,hM.p 10 (by decide) rfl];show bits .and .i64 2 14=2;decide
 have ht:Sd.j6 p2 1 1=true:=by
  unfold Sd.j6 Sd.Pol.Lu;have:p2.i (9+Int.toNat 1)=2:=hp;rw[this];decide
 obtain⟨x,e,q1,q2,q3,hpq⟩:=Dl (aq cu) p2 hm hr ht;rw[<-hs]at q1 q2 q3 hpq;have l1:s'.sent.length=1:=by rw[q1];rfl
 have l2:s'.recs.length=1:=by rw[q2];rfl
 have l3:(s'.sent.getD 0 default).1=1:=by rw[q1];rfl
 have l4:(s'.recs.getD 0 default).kind=2:=by rw[q2];rfl
 unfold shE;refine aS (λ_=>⟨⟨by decide,by omega⟩,⟨by omega,λj=>rfl⟩,?_⟩) (λh=>absurd h (by simp[l1]));refine aS (λ_=>?_) (λh=>absurd h (by rw[l3];decide));refine aS (λ_=>⟨⟨by decide,by omega⟩,⟨by omega,λj=>rfl⟩,?_⟩) (λh=>absurd h (by simp[l2]));refine aS (λ_=>?_) (λh=>absurd h (by rw[l4];decide));refine⟨Dm hN.tg hN.tc (by show s'.c.p.queue=k.most;rw[hpq];exact hN.most.symm),λx c ty us=>?_⟩;have:((nn s').c.t.holder==4)=true:=by show(s'.c.t.holder==4)=true;rw[q3];rfl
 rw[this];exact hK _ _
theorem Kz (ht:Body (fr:=fr) 130 bN):Sound prog gS 8 (shC (fr:=fr)):=by
 intro args ids bl ch R ms w0 w K hg hl S hc;unfold shC at hc;split at hc
 ·rename_i u rest w0' tg c0 w1' tc c1 bl2;obtain⟨⟨rfl,rfl,rfl,rfl⟩,hK⟩:=hc;have X9:Gl gS ([0,1].map λi=>ids.getD i 0):=by
   intro g i iK;unfold gS at iK;split at iK
   ·obtain rfl:=Option.some.inj iK;exact⟨by simp,(hg 0 0 rfl).2⟩
   ·obtain rfl:=Option.some.inj iK;exact⟨by simp,(hg 2 1 rfl).2⟩
   ·cases iK
  have fW:c_ (dQ prog gS (LSh fr (aq cu))) 60 8 [] [jP tg,pD tc] [.gh u] (eB 2 λv b c=>v=.bool true/\b.take 2=[jP tg,pD tc]/\∃c2,c=[.gh u]++c2):=by
   rw[aft];exact abP λg fB=>⟨rfl,rfl,_,rfl⟩
  refine(yd (C:=dQ prog gS (LSh fr (aq cu))) (QK ht).T (QK ht).Q hl (ch0:=[.gh u]) (rest:=rest) S [0,1] (by decide) X9 [jP tg,pD tc] rfl rfl (args:=[]) (args':=[]) rfl rfl fW).mono ?_;rintro v w' ⟨rfl,S2⟩;exact⟨.bool true,[],_,_,rfl,by simpa using hl,by simpa using S2,hK⟩
 ·exact hc.elim
structure SiD where
 h:Int
 e:Int
 o:Int
 m:Int
 mb:Sd.Label
 pt:Sd.Point
 b0:Bool
 b1:Bool
 b2:Bool
 b3:Bool
 b4:Bool
 r0:Int
 r1:Int
 r2:Int
 r3:Int
 r4:Int
 bad:Bool
def XN (x:SiD) (q:V):List V:=[.int .i64 x.h,.int .i64 x.e,.int .i64 x.o,.int .i64 x.m]++(mr x.mb++(RE x.pt++(q::([.bool x.b0,.bool x.b1,.bool x.b2,.bool x.b3,.bool x.b4]++[.int .i64 x.r0,.int .i64 x.r1,.int .i64 x.r2,.int .i64 x.r3,.int .i64 x.r4,.bool x.bad]))))
def siR:List V->Option (SiD×V)
 |.int .i64 h::.int .i64 e::.int .i64 o::.int .i64 m::.int .i64 a::.int .i64 b::.int .i64 c::.int .i64 p1::.int .i64 p2::.int .i64 p3::.int .i64 p4::.int .i64 p5::.int .i64 p6::.int .i64 p7::.int .i64 p8::.int .i64 p9::.int .i64 q1::.int .i64 q2::.int .i64 q3::q::
  .bool b0::.bool b1::.bool b2::.bool b3::.bool b4::.int .i64 r0::.int .i64 r1::.int .i64 r2::.int .i64 r3::.int .i64 r4::.bool bad::[]=>some (⟨h,e,o,m,⟨a,b,c⟩,⟨p1,⟨p2,p3,p4,p5⟩,⟨p6,p7,p8,p9⟩,⟨q1,q2,q3⟩⟩,b0,b1,b2,b3,b4,r0,r1,r2,r3,r4,bad⟩,q)
 |_=>none
theorem QM {l:List V} {x:SiD} {q:V} (h:siR l=some (x,q)):l=XN x q:=by
 unfold siR at h;split at h
 ·simp only[Option.some.injEq,Prod.mk.injEq]at h;obtain⟨rfl,rfl⟩:=h;rfl
 ·cases h
def Dn {G:Type}:jq G:=λargs bl ch K=>match args with
 |[.agg la,.agg lb]=>(match siR la,siR lb with
  |some (x,.je i 0 n _ _),some (y,.je j 0 m _ _)=>(match bl[i]?,bl[j]?with
   |some ⟨_,_,[.fY 1 n' g,.rest _]⟩,some ⟨_,_,[.fY 1 m' g',.rest _]⟩=>cond (!(Nat.beq i j)) ((x=y/\n'=n/\m'=n/\m=n/\n<=1000000/\g'=g/\∃q,g=K6 q)/\K (.bool true) bl ch) False
   |_,_=>False)
  |_,_=>False)
 |_=>False
def Dp:List (eG Empty):=[⟨41,true,De⟩]
theorem Dq:ao prog my Dp:=ao.cons ⟨F_,λ_=>Ga⟩ ao.nil
def chain (no:Prop):List Bool->Prop->Prop
 |[],k=>k
 |b::l,k=>cond b (chain no l k) no
theorem Dr {no k:Prop} (hk:k):∀{l:List Bool},(∀b∈l,b=true)->chain no l k
 |[],_=>hk
 |b::l,h=>by
  unfold chain;rw[h b List.mem_cons_self];exact Dr hk λc hc=>h c (List.mem_cons_of_mem _ hc)
def KA (a b:Sd.Label):Bool:=a.mi==b.mi&&(a.source==b.source&&(a.seq==b.seq&&true))
def x4E (a b:Sd.X4):Bool:=a.a==b.a&&(a.b==b.b&&(a.c==b.c&&(a.d==b.d&&true)))
def ptE (a b:Sd.Point):Bool:=a.cls==b.cls&&(x4E a.cg b.cg&&(x4E a.now b.now&&(KA a.eJ b.eJ&&true)))
theorem sG (a:Sd.Label):KA a a=true:=by simp[KA]
theorem Ds (a:Sd.X4):x4E a a=true:=by simp[x4E]
theorem QN (a:Sd.Point):ptE a a=true:=by simp[ptE,Ds,sG]
def siT (x:SiD):List Bool:=[x.h==x.h,x.e==x.e,x.o==x.o,x.m==x.m,KA x.mb x.mb,ptE x.pt x.pt,x.b0==x.b0&&(x.b1==x.b1&&(x.b2==x.b2&&(x.b3==x.b3&&(x.b4==x.b4&&true)))),x.r0==x.r0&&(x.r1==x.r1&&(x.r2==x.r2&&(x.r3==x.r3&&(x.r4==x.r4&&true))))]
section
variable(x:SiD) (n c c':Nat) (y y':Option Addr) (q:Nat->Int) (a b:Bool) (ty nf:BT) (u u':List Value) (K:VK Empty)
def XO:Prop:=(n=n/\n=n/\n=n/\n<=1000000/\K6 q=K6 q/\∃q',K6 q=K6 q')/\chain (K (.bool false) (kK n q a b ty nf u u') []) (siT x) (K (.bool (x.bad==x.bad)) (kK n q a b ty nf u u') [])
theorem V_:c_ (dQ prog my Dp) 60 18 [.agg (XN x (.je 0 0 n c y)),.agg (XN x (.je 1 0 n c' y'))] (kK n q a b ty nf u u') [] (eB 2 K)=XO x n q a b ty nf u u' K:=by kernel_rfl
end
theorem Wa {x:SiD} {n:Nat} {q:Nat->Int} {a b:Bool} {ty nf:BT} {u u':List Value} {K:VK Empty} (hn:n<=1000000) (hK:K (.bool true) (kK n q a b ty nf u u') []):XO x n q a b ty nf u u' K:=by
 refine⟨⟨rfl,rfl,rfl,hn,rfl,q,rfl⟩,Dr ?_ ?_⟩
 ·have:(x.bad==x.bad)=true:=by simp
  rw[this];exact hK
 ·intro t ht;simp only[siT,List.mem_cons,List.not_mem_nil,or_false]at ht;rcases ht with rfl|rfl|rfl|rfl|rfl|rfl|rfl|rfl<;>simp[sG,QN]
theorem Gk {G:Type} [Bl G] {gl:Nat->Option Nat}:Sound (G:=G) prog gl 18 Dn:=by
 intro args ids bl ch R ms w0 w K hg hl S hc;unfold Dn at hc;split at hc
 ·rename_i la lb;split at hc
  ·rename_i x i n c o y j m c' o' hx hy;split at hc
   ·rename_i a ty n' g u b nf m' g' u' hi hj;cases hq:!(Nat.beq i j)with
    |false=>rw[hq]at hc;exact hc.elim
    |true=>
     rw[hq]at hc;obtain⟨⟨rfl,rfl,rfl,rfl,hn,rfl,q,rfl⟩,hK⟩:=hc;obtain rfl:=QM hx;obtain rfl:=QM hy;have KE:i≠j:=λe=>by rw[e,Nat.beq_refl]at hq;cases hq
     have fW:c_ (dQ prog my Dp) 60 18 [.agg (XN x (.je 0 0 m c o)),.agg (XN x (.je 1 0 m c' o'))] (kK m q a b ty nf u u') [] (eB (kK m q a b ty nf u u').length λv bl c=>v=.bool true/\bl.take (kK m q a b ty nf u u').length=kK m q a b ty nf u u'/\∃c2,c=[]++c2):=by
      show c_ (dQ prog my Dp) 60 18 _ _ _ (eB 2 _);rw[V_];exact Wa hn ⟨rfl,rfl,[],rfl⟩
     have hp:=abN (C:=dQ prog my Dp) Dq.T Dq.Q rfl hl S [i,j] (by simp[KE]) (kK m q a b ty nf u u') (by simp[hi,hj,kK]) rfl (args:=[.agg (XN x (.je i 0 m c o)),.agg (XN x (.je j 0 m c' o'))]) ?_ rfl fW
     ·refine hp.mono ?_;rintro v w' ⟨rfl,S2⟩;exact⟨.bool true,[],bl,ch,rfl,by simpa using hl,by simpa using S2,hK⟩
     ·simp only[XN,mr,RE,az,den,ai,cl,List.cons_append,List.nil_append];rfl
   ·exact hc.elim
  ·exact hc.elim
 ·exact hc.elim
theorem Gm {G:Type}:fC (Dn (G:=G)):=by
 intro args bl ch K hc;unfold Dn at hc⊢;split at hc
 ·split at hc
  ·rename_i x i n c o y j m c' o' hx hy;split at hc
   ·cases hq:!(Nat.beq i j)with
    |false=>rw[hq]at hc;exact hc.elim
    |true=>rw[hq]at hc;exact⟨hc.1,hc.2,[],by simp⟩
   ·exact hc.elim
  ·exact hc.elim
 ·exact hc.elim
def Wb (os:Nat->AI) (j:Nat):List Value:=ai [] (opL (os j))
def QO (ty:BT) (n:Nat) (os:Nat->AI) (pre post:List Value):VB:=⟨false,ty,[.rest pre,.fY 11 n (Wb os),.rest post]⟩
theorem Ia (os:Nat->AI) (j:Nat):(Wb os j).length=11:=rfl
def wq {G:Type}:jq G:=λargs bl ch K=>match args with
 |[.je i o n c x]=>n<=c/\K (.je i o (bJ 80 n) c x) bl ch
 |_=>False
theorem QP (a:Option Addr) (n c:Nat) (X:V->Prop):jr prog [] 60 11 [.raw (.slice a n c)] X=((0<=(if(80:Int)<n then 80 else(n:Int))/\(if(80:Int)<n then 80 else(n:Int))<=(c:Int))/\X (.raw (.slice a (if(80:Int)<n then 80 else(n:Int)).toNat c))):=by kernel_rfl
theorem Dt {G:Type} [Bl G] {gl:Nat->Option Nat}:Sound (G:=G) prog gl 11 wq:=by
 intro args ids bl ch R ms w0 w K hg hl S hc;unfold wq at hc;split at hc
 ·rename_i i o n c x;obtain⟨hle,hK⟩:=hc;have abt:bJ 80 n<=n:=by unfold bJ;omega
  have hm:(if(80:Int)<n then 80 else(n:Int))=((bJ 80 n:Nat):Int):=yC 80 n;have key:∀a:Option Addr,au prog 11 (az ids [.raw (.slice a n c)]).toArray w λv w'=>v=den ids (.raw (.slice a (bJ 80 n) c))/\Ch [] w w':=λa=>
   oK aX.nil 60 (by rw[QP,hm,Int.toNat_natCast];exact⟨⟨by omega,by omega⟩,rfl⟩) rfl rfl ids w
  have e1:az ids [.je i o n c x]=az ids [.raw (.slice (bif Nat.beq n 0 then x else some ⟨ids.getD i 0,o,none⟩) n c)]:=by simp only[az,den]
  rw[e1];refine(key _).mono ?_;rintro v w' ⟨rfl,kq⟩;refine⟨.je i o (bJ 80 n) c x,[],bl,ch,?_,by simpa using hl,by simpa using S.quiet kq,hK⟩;simp only[List.append_nil,den];congr 1;have:Nat.beq (bJ 80 n) 0=Nat.beq n 0:=by
   by_cases h:n=0
   ·subst h;rfl
   ·have h2:bJ 80 n≠0:=by unfold bJ;omega
    have b1:Nat.beq n 0=false:=by cases hb:Nat.beq n 0 with|false=>rfl|true=>exact absurd (Nat.eq_of_beq_eq_true hb) h
    have b2:Nat.beq (bJ 80 n) 0=false:=by cases hb:Nat.beq (bJ 80 n) 0 with|false=>rfl|true=>exact absurd (Nat.eq_of_beq_eq_true hb) h2
    rw[b1,b2]
  rw[this]
 ·exact hc.elim
theorem Du {G:Type}:fC (wq (G:=G)):=by
 intro args bl ch K hc;unfold wq at hc⊢;split at hc
 ·exact⟨hc.1,hc.2,[],by simp⟩
 ·exact hc.elim
def siC:jq (LG fr):=λargs bl ch K=>match args,ch with
 |[.ptr ic 0],.gh u::.core g fB::rest=>(match bl[ic]?with
  |some ⟨true,⟨97,(0,0)⟩,cc⟩=>(match xL cc with
   |some x=>(match bl[x.it]?with
    |some ⟨true,⟨143,(0,0)⟩,tc⟩=>(match vj tc with
     |some y=>cond (ez bl.length bl&&(Nat.blt 1 ic&&(Nat.blt 1 x.it&&!(Nat.beq ic x.it))))
      ((bl[0]?=some (aG g.d.k)/\bl[1]?=some (iI g.d.k)/\x=Cq g.d.k x.it (oe x y g.d g.dx g.sx)/\y.b=x.p.bU/\y.m=x.p.bx/\x.p.queue=g.d.k.most)/\
        ∀(z:Option Addr) (c ty:Nat) (us:List Value),K (rk bl.length (.agg (ot (oe x y g.d g.dx g.sx) (.je 0 0 g.d.q.length c z)))) (bl++[FZ ty 1 g.d.q.length (sw g.d.q) us]) (.gh u::.core g fB::rest)) False
     |none=>False)
    |_=>False)
   |none=>False)
  |_=>False)
 |_,_=>False
theorem Dv {bl:List VB} {i:Nat} {b:VB} (h:bl[i]?=some b):bl.set i b=bl:=by
 apply List.ext_getElem?;intro j;rw[List.getElem?_set];split
 ·rename_i hj;subst hj;rw[h];simp[ct h]
 ·rfl
theorem Gn (ht:Body (fr:=fr) 130 bN):Sound prog gS 12 (siC (fr:=fr)):=by
 intro args ids bl ch R ms w0 w K hg hl S hc;have key:K5 (λ_=>AH) args bl ch λv b c=>∃ex,b=bl++ex/\(∀Y,ak c Y=ak ch Y)/\K v (bl++ex) ch:=by
  unfold siC at hc;unfold K5;split at hc
  ·rename_i ic u g fB rest;split at hc
   ·rename_i cc Rr;try simp only[Rr]
    split at hc
    ·rename_i x hx;try simp only[hx]
     split at hc
     ·rename_i tc Xn;try simp only[Xn]
      split at hc
      ·rename_i y hy;try simp only[hy]
       cases hq:ez bl.length bl&&(Nat.blt 1 ic&&(Nat.blt 1 x.it&&!(Nat.beq ic x.it)))with
       |false=>rw[hq]at hc;exact hc.elim
       |true=>
        rw[hq]at hc;obtain⟨⟨e3,e4,e5,e6,e7,e8⟩,hK⟩:=hc;simp only[cK,Bool.true_and,cond_true];refine⟨⟨e3,e4,e5,e6,e7,e8⟩,λz c ty us=>?_⟩;have Ef:bl[ic]?=some (ei g.d.k x.it (oe x y g.d g.dx g.sx)):=by
         rw[Rr,qI hx];congr 1;unfold ei;rw[<-e5]
        have GH:bl[x.it]?=some (gD (oe x y g.d g.dx g.sx)):=by
         rw[Xn,kl hy];congr 1;unfold gD;have:y=Uj (oe x y g.d g.dx g.sx):=by
          obtain⟨y1,y2,y3,y4,y5,y6,y7,y8⟩:=y;simp only at e6 e7;subst e6 e7;rfl
         rw[<-this]
        have hs:gd bl ic x.it g.d.k (oe x y g.d g.dx g.sx)=bl:=by
         unfold gd;rw[Dv Ef,Dv GH]
        exact⟨_,congrArg (·++_) hs,λY=>rfl,hK z c ty us⟩
      ·exact hc.elim
     ·exact hc.elim
    ·exact hc.elim
   ·exact hc.elim
  ·exact hc.elim
 refine(C9 (v9 ht) args ids bl ch R ms w0 w _ hg hl S key).mono ?_;rintro v w' ⟨x,more,bl',ch',hv,h1,S',ex,rfl,hn,hK⟩;exact⟨x,more,_,ch,hv,h1,by rw[hn]at S';exact S',hK⟩
theorem Gp:fC (siC (fr:=fr)):=by
 intro args bl ch K hc;unfold siC at hc⊢;split at hc
 ·split at hc
  ·split at hc
   ·split at hc
    ·split at hc
     ·rename_i y hy;revert hc;cases ez bl.length bl&&_ with
      |false=>exact λh=>h.elim
      |true=>exact λhc=>⟨hc.1,λz c ty us=>⟨hc.2 z c ty us,_,rfl⟩⟩
     ·exact hc.elim
    ·exact hc.elim
   ·exact hc.elim
  ·exact hc.elim
 ·exact hc.elim
def Wc (fr:Sd.Reply->Nat×Sd.Byt) (C:Sd.Crypt):List (eG (LG fr)):=[⟨8,false,shC⟩,⟨9,false,VZ⟩,⟨10,false,V7⟩,⟨11,true,wq⟩,⟨12,true,siC⟩,⟨17,false,K5 λ_=>P_⟩,⟨13,false,K5 (F8 C)⟩,⟨15,false,K5 λ_=>AE C⟩,⟨18,true,Dn⟩]
theorem Ib (ht:Body (fr:=fr) 130 bN):ao prog gS (Wc fr (aq cu)):=
 have n:∀{c:jq (LG fr)},(false=true->fC c):=λe=>by cases e
 ao.cons ⟨Kz ht,n⟩ (ao.cons ⟨x_,n⟩ (ao.cons ⟨wm,n⟩ (ao.cons ⟨Dt,λ_=>Du⟩ (ao.cons ⟨Gn ht,λ_=>Gp⟩ (ao.cons (pB (Kr ht)) (ao.cons (pB (Kv ht)) (ao.cons (pB (v8 ht)) (ao.cons ⟨Gk,λ_=>Gm⟩ ao.nil))))))))
structure QQ (fr:Sd.Reply->Nat×Sd.Byt) (tg tc:TypeId) (u:World) (x:nW) (n:Nat) where
 p:Nat->Int
 m:Nat->Nat
 d:Nat->Nat
 hM:Made x p m
 p2:Sd.Pol
 k:LK
 hN:Gg (jY 4 p m d) (Dj x u) tg tc p2 k
 j:Nat
 hj:j<=n
 s:Sd.Scene
 F:cz fr (b9 k s)
 fB:List aC
 hC:bo k s
 hp:s.c.p=p2
 v1:cJ=F.vs
 v2:cJ=F.vr
def preB (tg tc:TypeId) (ops pb:VB) (ky:List VB) (rB:VB):List VB:=jP tg::pD tc::ops::pb::(ky++[rB])
def ahS (x:nW) (u:World) (n d:Nat->Nat):List VB:=[fa (n 0) (d 0) (xZ (x.kn 0) (dt u (x.ka 0))),fa (n 1) (d 1) (xZ (x.kn 1) (dt u (x.ka 1))),fa (n 2) (d 2) (xZ (x.kn 2) (dt u (x.ka 2))),fa (n 3) (d 3) (xZ (x.kn 3) (dt u (x.ka 3)))]
def ahT (x:nW) (f:Nat->Nat×Sd.Byt):VB:=⟨true,⟨28,(0,0)⟩,[.jS ⟨x.q,f⟩ x.ka x.kn x.kc]⟩
section
variable(C:Sd.Crypt) (tg tc:TypeId) (ty:BT) (u:World) (x:nW) (f:Nat->Nat×Sd.Byt) (o n c:Nat) (a:Option Addr) (os:Nat->AI) (pre post:List Value)
def lwB (p:Nat->Int) (m d:Nat->Nat) (k:LK) (s:Sd.Scene):List VB:=preB tg tc (QO ty n os pre post) (ahT x f) (ahS x u m d) ⟨true,⟨28,(0,0)⟩,jY 4 p m d⟩++[ei k 10 s,gD s]
end
def aja (s t:Sd.Scene):Bool:=s.c.mode==t.c.mode&&(s.c.pt.cls==t.c.pt.cls&&(x4E s.c.pt.now t.c.pt.now&&(KA s.c.bP t.c.bP&&(KA s.c.pt.eJ t.c.pt.eJ&&true))))
section
variable(C:Sd.Crypt) (tg tc:TypeId) (ty:BT) (u:World) (x:nW) (f:Nat->Nat×Sd.Byt) (o n c:Nat) (a:Option Addr) (os:Nat->AI) (pre post:List Value) (K:V->Prop)
def We (j N:Nat):Prop:=0<=(j:Int)/\(j:Int)<(N:Int)
def opP (j:Nat):Prop:=o=pre.length/\(j:Int).toNat<n/\∀i,(Wb os i).length=11
def CoA (k:LK) (s:Sd.Scene) (F:cz fr (b9 k s)):Prop:=bo k (du s)/\cJ=F.vs/\cJ=F.vr
def afu {k:LK} (sv:Sd.Scene) (X:(s':Sd.Scene)->TR->List aC->cz fr (b9 k (nn s'))->Prop):Prop:=∀s',s'=sv->∀(r:TR) (fn:List aC) (F0:cz fr (b9 k (nn s'))),cJ=F0.vs->cJ=F0.vr->P7 fr s'.sent r.fv fn->X s' r fn F0
end
end Go.Proofs.YtlkpikfddnjilaaGreatDoor
namespace Go.Proofs.YtlkpikfddnjilaaGreatDoor
open Go Go.RowKit Go.BigFrame Sx Vx
variable{fr:Sd.Reply->Nat×Sd.Byt}
section
variable{tg tc:TypeId} {ty:BT} {u:World} {x:nW} {f:Nat->Nat×Sd.Byt} {o n c:Nat} {a:Option Addr} {os:Nat->AI} {pre post:List Value} {K:V->Prop}
theorem QQ.Dm (y:QQ fr tg tc u x n) {s:Sd.Scene} (h:s.c.p=y.p2):Dk tg tc 10 y.k s:=Go.Proofs.YtlkpikfddnjilaaGreatDoor.Dm y.hN.tg y.hN.tc (by rw[h];exact y.hN.most.symm)
theorem coA {k:LK} {s:Sd.Scene} {F:cz fr (b9 k s)} (h:bo k s) (v1:cJ=F.vs) (v2:cJ=F.vr):CoA k s F:=⟨by rw[lX];exact h,v1,v2⟩
structure QY (u:World) (os:Nat->AI) (n:Nat):Prop where
 rd:∀j,j<n->eE u (os j).x (os j).n (os j).c (dt u (os j).x)
 x4:∀j,Sd.DL (os j).s.x
 kd:∀j,j<n->0<=(os j).kind
theorem Gq {j N:Nat} (h:j<N):We j N:=⟨by omega,by omega⟩
theorem QZ {j:Nat} (ho:o=pre.length) (h:j<n):opP o n os pre j:=⟨ho,by omega,λi=>Ia os i⟩
theorem abV {k:LK} {s:Sd.Scene} (h:bo k s) (u:World) (o:AI):(lE (aq cu) u s o).c.p=s.c.p:=by
 unfold lE;split
 ·exact Qa (b:=False) (Sd.vT h.i)
 split
 ·exact Qa (b:=False) (Sd.vW h.i)
 split
 ·exact Qa (b:=False) (Sd.C4 h.i).1
 ·unfold iL;split
  ·rename_i hl;exact Qa (b:=False) (Sd.Ce jN h.i hl (λe=>e.elim))
  ·rfl
theorem ajj {s t:Sd.Scene} (h1:s.c.mode=t.c.mode) (h2:s.c.bP=t.c.bP) (h3:s.c.pt=t.c.pt):aja s t=true:=by
 unfold aja;rw[h1,h2,h3];simp[Ds,sG]
end
end Go.Proofs.YtlkpikfddnjilaaGreatDoor
namespace Go.Proofs.YtlkpikfddnjilaaGreatDoor
open Go Go.RowKit Go.BigFrame Sx Vx
def AP (w:Nat) (s:Int):List V:=(List.range w).map λj=>.int .u8 (ax w (u64.wrap s) j)
def fkX (n m c:Nat) (ac cells:List V) (X:Nat->List Value->Prop):Prop:=
 (n<=c/\fb ac=c*1)/\(∀(c':Nat) (u:List Value),n+m<=c'->fb (cells++[.rest u])=c'*1->X c' u)/\(∀(c':Nat) (u:List Value),n+m<=c'->fb (cells++[.rest u])=c'*1->X c' u)
def KB (F:Prop) (E:Nat->Nat->List V->List Value->Prop):List (Int×Int×Int×Nat)->Nat->Nat->List V->List V->List Value->Prop
 |[],n,c,ac,cells,u=>E n c cells u
 |(s,lo,hi,w)::fs,n,c,ac,cells,u=>cond (decide (s<lo)) F (cond (decide (s>hi)) F (cond (Int.fdiv (u64.wrap s) (Int.ofNat (2^(8*w)))!=0) F
  (fkX n w c ac (cells++AP w s) λc' u'=>KB F E fs (n+w) c' (cells++AP w s++[.rest u']) (cells++AP w s) u')))
def Ie (k a b c d e:Int) (nc:Nat->Int):V:=.agg [.int .i64 k,.int .i64 a,.int .i64 b,.int .i64 c,.int .i64 d,.int .i64 e,.ew .u8 8 nc]
def Wh (x:V) (K:VK Empty):Prop:=c_ (wU prog (λ_=>none) ([]:List (eG Empty)) (SN prog) yV) 60 165 [x] [] [] (eB 0 K)
def Wi (k:Int) (fs:List (Int×Int×Int×Nat)) (K:VK Empty):Prop:=KB (K (.aI [.raw (.slice none 0 0),.int .i64 1]) [] []) (λn c cells u=>K (.aI [.sl 0 0 n c,.int .i64 0]) [⟨true,⟨5,(0,0)⟩,cells++[.rest u]⟩] []) fs 1 1 [.int .u8 k] [.int .u8 k] []
theorem afz (s:Int) (K:VK Empty):Wh (Ie 131 s 0 0 0 0 λ_=>0) K=Wi 131 [(s,0,4294967295,4)] K:=by kernel_rfl
theorem afA (a b c:Int) (K:VK Empty):Wh (Ie 130 0 a b c 0 λ_=>0) K=Wi 130 [(a,0,3,1),(b,0,4,1),(c,0,65535,2)] K:=by kernel_rfl
theorem afB (s c:Int) (K:VK Empty):Wh (Ie 132 s 0 0 0 c λ_=>0) K=Wi 132 [(s,0,4294967295,4),(c,0,255,1)] K:=by kernel_rfl
theorem afC (e:Int) (K:VK Empty):Wh (Ie 133 0 0 0 e 0 λ_=>0) K=Wi 133 [(e,0,65535,2)] K:=by kernel_rfl
theorem afD (w e:Int) (K:VK Empty):Wh (Ie 134 0 0 w e 0 λ_=>0) K=Wi 134 [(w,0,4,1),(e,0,65535,2)] K:=by kernel_rfl
theorem afE (w e:Int) (K:VK Empty):Wh (Ie 135 0 0 w e 0 λ_=>0) K=Wi 135 [(w,0,4,1),(e,0,65535,2)] K:=by kernel_rfl
theorem afF (w c:Int) (K:VK Empty):Wh (Ie 136 0 0 w 0 c λ_=>0) K=Wi 136 [(w,0,4,1),(c,0,255,1)] K:=by kernel_rfl
theorem Wj (a b:List V):fb (a++b)=fb a+fb b:=by
 induction a with
 |nil=>simp[fb]
 |cons v a ih=>simp only[List.cons_append,fb,ih];omega
theorem abY (w:Nat) (s:Int):fb (AP w s)=w:=by
 have h:∀l:List Nat,fb (l.map λj=>V.int .u8 (ax w (u64.wrap s) j))=l.length:=by
  intro l;induction l with
  |nil=>rfl
  |cons j l ih=>simp only[List.map_cons,fb,ih,List.length_cons];show 1+_=_;omega
 unfold AP;rw[h,List.length_range]
theorem Ig {F:Prop} {E:Nat->Nat->List V->List Value->Prop}:∀(fs:List (Int×Int×Int×Nat)) (n c:Nat) (ac cells:List V) (u:List Value),(∀f∈fs,f.2.1<=f.1/\f.1<=f.2.2.1/\0<=f.1/\f.1<18446744073709551616/\f.1<Int.ofNat (2^(8*f.2.2.2)))->n<=c->fb ac=c->n=fb cells->fb (cells++[.rest u])=c->
 (∀c' u',n+(fs.map λf=>f.2.2.2).sum<=c'->fb (cells++(fs.map λf=>AP f.2.2.2 f.1).flatten++[.rest u'])=c'->E (n+(fs.map λf=>f.2.2.2).sum) c' (cells++(fs.map λf=>AP f.2.2.2 f.1).flatten) u')->KB F E fs n c ac cells u
 |[],n,c,ac,cells,u,_,h1,h2,h3,h4,hE=>by
  have:=hE c u (by simpa using h1) (by simpa using h4);simpa[KB]using this
 |(s,lo,hi,w)::fs,n,c,ac,cells,u,hf,h1,h2,h3,h4,hE=>by
  obtain⟨f1,f2,f3,f5,f4⟩:=hf _ (List.mem_cons_self ..);simp only at f1 f2 f3 f4 f5;have step:∀(c':Nat) (u':List Value),n+w<=c'->fb (cells++AP w s++[.rest u'])=c'*1->KB F E fs (n+w) c' (cells++AP w s++[.rest u']) (cells++AP w s) u':=by
   intro c' u' g1 g2;rw[Nat.mul_one]at g2;refine Ig fs (n+w) c' _ _ u' (λf hm=>hf f (List.mem_cons_of_mem _ hm)) g1 g2 ?_ g2 ?_
   ·rw[Wj,abY,h3]
   ·intro c2 u2 g3 g4;have:=hE c2 u2 (by simpa[Nat.add_assoc]using g3) (by simpa[List.append_assoc]using g4);simpa[Nat.add_assoc,List.append_assoc]using this
  unfold KB;refine aS (λh=>absurd (by simpa using h:s<lo) (by omega)) λ_=>aS (λh=>absurd (by simpa using h:hi<s) (by omega)) λ_=>aS (λh=>?_) λ_=>⟨⟨h1,by rw[h2,Nat.mul_one]⟩,step,step⟩;exfalso;have e:Int.fdiv (u64.wrap s) (Int.ofNat (2^(8*w)))=0:=by
   have hd:∀d:Int,0<=d->s<d->Int.fdiv s d=0:=λd h0 h=>by rw[Int.fdiv_eq_ediv_of_nonneg _ h0];exact Int.ediv_eq_zero_of_lt f3 h
   rw[IntKind.wrap_u64,Int.emod_eq_of_lt f3 (by omega)];exact hd _ (Int.natCast_nonneg _) f4
  rw[e]at h;simp at h
theorem abZ {k:Int} {fs:List (Int×Int×Int×Nat)} {K:VK Empty} (hf:∀f∈fs,f.2.1<=f.1/\f.1<=f.2.2.1/\0<=f.1/\f.1<18446744073709551616/\f.1<Int.ofNat (2^(8*f.2.2.2)))
 (hK:∀c' u',1+(fs.map λf=>f.2.2.2).sum<=c'->fb ([.int .u8 k]++(fs.map λf=>AP f.2.2.2 f.1).flatten++[.rest u'])=c'->K (.aI [.sl 0 0 (1+(fs.map λf=>f.2.2.2).sum) c',.int .i64 0]) [⟨true,⟨5,(0,0)⟩,([.int .u8 k]++(fs.map λf=>AP f.2.2.2 f.1).flatten)++[.rest u']⟩] []):Wi k fs K:=
 Ig fs 1 1 _ _ [] hf (Nat.le_refl _) rfl rfl rfl hK
theorem pE {x:V} {k:Int} {fs:List (Int×Int×Int×Nat)} {n:Nat} (e:∀K,Wh x K=Wi k fs K) (hf:∀f∈fs,f.2.1<=f.1/\f.1<=f.2.2.1/\0<=f.1/\f.1<18446744073709551616/\f.1<Int.ofNat (2^(8*f.2.2.2))) (hn:1+(fs.map λf=>f.2.2.2).sum=n) {g:Nat->Int}
 (hg:∀j,j<n->∀u:List Value,(ai [] (([.int .u8 k]++(fs.map λf=>AP f.2.2.2 f.1).flatten)++[.rest u]))[j]?=some (.int .u8 (g j))) (hw:cK 0 (([.int .u8 k]++(fs.map λf=>AP f.2.2.2 f.1).flatten))=true) (w:World):
 au prog 165 (az [] [x]).toArray w λv w1=>∃b c1,v=.tuple #[.slice (some ⟨b,0,none⟩) n c1,.int .i64 0]/\n<=c1/\w.heap.size<=b/\fK w1 b 0 n g/\Ch [] w w1:=by
 have h:Wh x λv b _=>∃c u,v=.aI [.sl 0 0 n c,.int .i64 0]/\b=[⟨true,⟨5,(0,0)⟩,([.int .u8 k]++(fs.map λf=>AP f.2.2.2 f.1).flatten)++[.rest u]⟩]/\n<=c:=by
  rw[e];exact abZ hf λc u h1 h2=>⟨c,u,by rw[hn],rfl,by omega⟩
 refine(bW (ao.nil (G:=Empty) (P:=prog) (gl:=λ_=>none)).T (ao.nil (G:=Empty) (P:=prog) (gl:=λ_=>none)).Q 60 (C:=wU prog (λ_=>none) ([]:List (eG Empty)) (SN prog) yV) (ids:=[]) (bl:=[]) (ch:=[]) (R:=[]) Gl.none rfl (St.nil [] w) h).mono ?_;rintro v w' ⟨y,more,bl',ch',rfl,h1,S',hK⟩;obtain⟨v2,bj,bl2,e2,ja,S2,c,u,rfl,rfl,hc⟩:=eQ (n0:=0) h1 (by simp) S' hK
 match bj,ja,S2,e2 with
 |[b],_,S2,e2=>
  have S3:St [] w ([aW [b] b ⟨true,⟨5,(0,0)⟩,([.int .u8 k]++(fs.map λf=>AP f.2.2.2 f.1).flatten)++[.rest u]⟩]) w':=match ch',S2 with
   |[],S2=>S2
   |e::_,_=>nomatch e
  refine⟨b,c,e2,hc,(S3.own 0 _ rfl rfl).resolve_left (by simp),?_,S3.ch⟩;intro j hj;have cD:w'.heap[b]?=some (.cells (ai [b] (([.int .u8 k]++(fs.map λf=>AP f.2.2.2 f.1).flatten)++[.rest u])).toArray 5 (0,0)):=S3.at_ 0 _ rfl;have hd:=hg j hj u;have e3:ai [b] (([.int .u8 k]++(fs.map λf=>AP f.2.2.2 f.1).flatten)++[.rest u])=ai [] (([.int .u8 k]++(fs.map λf=>AP f.2.2.2 f.1).flatten)++[.rest u]):=by
   have gen:∀L:List V,cK 0 L=true->ai [b] (L++[.rest u])=ai [] (L++[.rest u]):=λL hL=>by
    rw[bH,bH];have q:=b_ (ids:=[]) (more:=[b]) L hL;simp only[List.nil_append]at q;rw[q];rfl
   exact gen _ hw
  rw[Nat.zero_add,cell_of cD,e3];simpa using hd
 |[],h,_,_=>simp at h
 |_::_::_,h,_,_=>simp at h
theorem afG (wh co:Int) (zk:0<=wh/\wh<=4) (hco:0<=co/\co<=255) (w:World):au prog 165 (az [] [Ie 136 0 0 wh 0 co λ_=>0]).toArray w λv w1=>∃b c1,v=.tuple #[.slice (some ⟨b,0,none⟩) 3 c1,.int .i64 0]/\3<=c1/\w.heap.size<=b/\fK w1 b 0 3 (bQ [136,ax 1 (u64.wrap wh) 0,ax 1 (u64.wrap co) 0])/\Ch [] w w1:=
 pE (n:=3) (λK=>afF wh co K) (λf hm=>by
  rcases List.mem_cons.1 hm with rfl|hm
  ·exact⟨zk.1,zk.2,zk.1,by omega,by show wh<256;omega⟩
  rcases List.mem_cons.1 hm with rfl|hm
  ·exact⟨hco.1,hco.2,hco.1,by omega,by show co<256;omega⟩
  cases hm) rfl (λj hj u=>by
  rcases(by omega:j=0\/j=1\/j=2)with rfl|rfl|rfl<;>rfl) rfl w
theorem afH (sq:Int) (hsq:0<=sq/\sq<=4294967295) (w:World):au prog 165 (az [] [Ie 131 sq 0 0 0 0 λ_=>0]).toArray w λv w1=>∃b c1,v=.tuple #[.slice (some ⟨b,0,none⟩) 5 c1,.int .i64 0]/\5<=c1/\w.heap.size<=b/\fK w1 b 0 5 (bQ [131,ax 4 (u64.wrap sq) 0,ax 4 (u64.wrap sq) 1,ax 4 (u64.wrap sq) 2,ax 4 (u64.wrap sq) 3])/\Ch [] w w1:=
 pE (n:=5) (λK=>afz sq K) (λf hm=>by
  rcases List.mem_cons.1 hm with rfl|hm
  ·exact⟨hsq.1,hsq.2,hsq.1,by omega,by show sq<4294967296;omega⟩
  cases hm) rfl (λj hj u=>by
  rcases(by omega:j=0\/j=1\/j=2\/j=3\/j=4)with rfl|rfl|rfl|rfl|rfl<;>rfl) rfl w
theorem afI (ro wh ep:Int) (hro:0<=ro/\ro<=3) (zk:0<=wh/\wh<=4) (Gs:0<=ep/\ep<=65535) (w:World):au prog 165 (az [] [Ie 130 0 ro wh ep 0 λ_=>0]).toArray w λv w1=>∃b c1,v=.tuple #[.slice (some ⟨b,0,none⟩) 5 c1,.int .i64 0]/\5<=c1/\w.heap.size<=b/\fK w1 b 0 5 (bQ [130,ax 1 (u64.wrap ro) 0,ax 1 (u64.wrap wh) 0,ax 2 (u64.wrap ep) 0,ax 2 (u64.wrap ep) 1])/\Ch [] w w1:=
 pE (n:=5) (λK=>afA ro wh ep K) (λf hm=>by
  rcases List.mem_cons.1 hm with rfl|hm
  ·exact⟨hro.1,hro.2,hro.1,by omega,by show ro<256;omega⟩
  rcases List.mem_cons.1 hm with rfl|hm
  ·exact⟨zk.1,zk.2,zk.1,by omega,by show wh<256;omega⟩
  rcases List.mem_cons.1 hm with rfl|hm
  ·exact⟨Gs.1,Gs.2,Gs.1,by omega,by show ep<65536;omega⟩
  cases hm) rfl (λj hj u=>by
  rcases(by omega:j=0\/j=1\/j=2\/j=3\/j=4)with rfl|rfl|rfl|rfl|rfl<;>rfl) rfl w
theorem afJ (sq co:Int) (hsq:0<=sq/\sq<=4294967295) (hco:0<=co/\co<=255) (w:World):au prog 165 (az [] [Ie 132 sq 0 0 0 co λ_=>0]).toArray w λv w1=>∃b c1,v=.tuple #[.slice (some ⟨b,0,none⟩) 6 c1,.int .i64 0]/\6<=c1/\w.heap.size<=b/\fK w1 b 0 6 (bQ [132,ax 4 (u64.wrap sq) 0,ax 4 (u64.wrap sq) 1,ax 4 (u64.wrap sq) 2,ax 4 (u64.wrap sq) 3,ax 1 (u64.wrap co) 0])/\Ch [] w w1:=
 pE (n:=6) (λK=>afB sq co K) (λf hm=>by
  rcases List.mem_cons.1 hm with rfl|hm
  ·exact⟨hsq.1,hsq.2,hsq.1,by omega,by show sq<4294967296;omega⟩
  rcases List.mem_cons.1 hm with rfl|hm
  ·exact⟨hco.1,hco.2,hco.1,by omega,by show co<256;omega⟩
  cases hm) rfl (λj hj u=>by
  rcases(by omega:j=0\/j=1\/j=2\/j=3\/j=4\/j=5)with rfl|rfl|rfl|rfl|rfl|rfl<;>rfl) rfl w
theorem afK (ep:Int) (Gs:0<=ep/\ep<=65535) (w:World):au prog 165 (az [] [Ie 133 0 0 0 ep 0 λ_=>0]).toArray w λv w1=>∃b c1,v=.tuple #[.slice (some ⟨b,0,none⟩) 3 c1,.int .i64 0]/\3<=c1/\w.heap.size<=b/\fK w1 b 0 3 (bQ [133,ax 2 (u64.wrap ep) 0,ax 2 (u64.wrap ep) 1])/\Ch [] w w1:=
 pE (n:=3) (λK=>afC ep K) (λf hm=>by
  rcases List.mem_cons.1 hm with rfl|hm
  ·exact⟨Gs.1,Gs.2,Gs.1,by omega,by show ep<65536;omega⟩
  cases hm) rfl (λj hj u=>by
  rcases(by omega:j=0\/j=1\/j=2)with rfl|rfl|rfl<;>rfl) rfl w
theorem afL (wh ep:Int) (zk:0<=wh/\wh<=4) (Gs:0<=ep/\ep<=65535) (w:World):au prog 165 (az [] [Ie 134 0 0 wh ep 0 λ_=>0]).toArray w λv w1=>∃b c1,v=.tuple #[.slice (some ⟨b,0,none⟩) 4 c1,.int .i64 0]/\4<=c1/\w.heap.size<=b/\fK w1 b 0 4 (bQ [134,ax 1 (u64.wrap wh) 0,ax 2 (u64.wrap ep) 0,ax 2 (u64.wrap ep) 1])/\Ch [] w w1:=
 pE (n:=4) (λK=>afD wh ep K) (λf hm=>by
  rcases List.mem_cons.1 hm with rfl|hm
  ·exact⟨zk.1,zk.2,zk.1,by omega,by show wh<256;omega⟩
  rcases List.mem_cons.1 hm with rfl|hm
  ·exact⟨Gs.1,Gs.2,Gs.1,by omega,by show ep<65536;omega⟩
  cases hm) rfl (λj hj u=>by
  rcases(by omega:j=0\/j=1\/j=2\/j=3)with rfl|rfl|rfl|rfl<;>rfl) rfl w
theorem afM (wh ep:Int) (zk:0<=wh/\wh<=4) (Gs:0<=ep/\ep<=65535) (w:World):au prog 165 (az [] [Ie 135 0 0 wh ep 0 λ_=>0]).toArray w λv w1=>∃b c1,v=.tuple #[.slice (some ⟨b,0,none⟩) 4 c1,.int .i64 0]/\4<=c1/\w.heap.size<=b/\fK w1 b 0 4 (bQ [135,ax 1 (u64.wrap wh) 0,ax 2 (u64.wrap ep) 0,ax 2 (u64.wrap ep) 1])/\Ch [] w w1:=
 pE (n:=4) (λK=>afE wh ep K) (λf hm=>by
  rcases List.mem_cons.1 hm with rfl|hm
  ·exact⟨zk.1,zk.2,zk.1,by omega,by show wh<256;omega⟩
  rcases List.mem_cons.1 hm with rfl|hm
  ·exact⟨Gs.1,Gs.2,Gs.1,by omega,by show ep<65536;omega⟩
  cases hm) rfl (λj hj u=>by
  rcases(by omega:j=0\/j=1\/j=2\/j=3)with rfl|rfl|rfl|rfl<;>rfl) rfl w
end Go.Proofs.YtlkpikfddnjilaaGreatDoor
