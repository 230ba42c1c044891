/- Part 24 of the proof. -/
import Derived.Test.YtlkpikfddnjilaaGreatDoorProg
import Derived.Test.YtlkpikfddnjilaaGreatDoorQ23
set_option linter.all false
set_option maxRecDepth 100000
set_option maxHeartbeats 4000000
open Go.Proofs.Tryz
open Go.IntKind (u8 u16 u32 u64 i64)
namespace Go.Proofs.YtlkpikfddnjilaaGreatDoor
open Go Go.RowKit Go.BigFrame Sx Vx
variable{fr:Sd.Reply->Nat×Sd.Byt}
def I4 (i:Nat) (v:V):Bool:=match v with
 |.int .i64 _=>!jJ i
 |.sl _ 0 _ _=>jJ i
 |_=>false
def sY:List V->Nat->Bool
 |[],i=>Nat.beq i 56
 |v::l,i=>I4 i v&&sY l (i+1)
def sI:V->Nat|.sl i _ _ _=>i|_=>0
def sM:V->Nat|.sl _ _ n _=>n|_=>0
def sK:V->Nat|.sl _ _ _ c=>c|_=>0
def pE (ids:List Nat) (i:Nat) (v:V):Value:=bif jJ i then .slice (some ⟨ids.getD (sI v) 0,0,none⟩) (sM v) (sK v)else .int .i64 (iN v)
theorem yF (ids:List Nat):∀(l:List V) (i:Nat),sY l i=true->i+l.length=56/\af ids l=(List.range l.length).map λj=>pE ids (i+j) (nth l j)
 |[],i,h=>⟨Nat.eq_of_beq_eq_true h,rfl⟩
 |v::l,i,h=>by
  unfold sY at h;rw[Bool.and_eq_true]at h;obtain⟨h1,h2⟩:=yF ids l (i+1) h.2;refine⟨by simp;omega,?_⟩;rw[List.length_cons,List.range_succ_eq_map,List.map_cons,List.map_map];simp only[af,h2];have e:af ids l=(List.range l.length).map ((λj=>pE ids (i+j) (nth (v::l) j))∘Nat.succ):=by
   rw[h2];apply List.map_congr_left;intro j _;show pE ids (i+1+j) (nth l j)=pE ids (i+(j+1)) (nth l j);rw[show i+1+j=i+(j+1) by omega]
  rw[<-h2,e];have hv:cl v (den ids v)=[pE ids (i+0) (nth (v::l) 0)]:=by
   have h3:=h.1;unfold I4 at h3;split at h3
   ·have:jJ i=false:=by simpa using h3
    simp only[cl,den,nth,pE,Nat.add_zero,this,cond_false,iN]
   ·simp only[cl,den,nth,pE,Nat.add_zero,h3,cond_true,sI,sM,sK]
   ·cases h3
  rw[hv];rfl
def kyA (ids:List Nat) (l:List V) (j:Nat):Option Addr:=some ⟨ids.getD (sI (nth l (j+5))) 0,0,none⟩
def xi (l:List V) (j:Nat):Nat:=sM (nth l (j+5))
def kyC (l:List V) (j:Nat):Nat:=sK (nth l (j+5))
def nP (l:List V) (f:Nat->Sd.Byt):Sd.Pol:=⟨λi=>iN (nth l i),λj=>(xi l j,f j)⟩
theorem RX {l:List V} (h:sY l 0=true) (f:Nat->Sd.Byt) (ids:List Nat):(af ids l).toArray=kq (nP l f) (kyA ids l) (xi l) (kyC l):=by
 obtain⟨h1,h2⟩:=yF ids l 0 h;rw[h2,show l.length=56 by omega];rfl
def kyB (bl:List VB) (v:V):Option (Nat×Sd.Byt):=match v with
 |.sl i _ _ _=>(match bl[i]?with|some ⟨_,⟨5,(0,0)⟩,.dS .u8 m f::_⟩=>some (m,f)|_=>none)
 |_=>none
def mkK (l:List V) (f:Nat->Sd.Byt) (ka:Nat->Option Addr) (kc:Nat->Nat) (bq tg tc:Nat):LK:=⟨ka,xi l,kc,f,bq,tg,tc,iN (nth l 48),none,0,0,λ_=>0⟩
def iz (p:Sd.Pol):Sd.Scene:=⟨.new p,[],[]⟩
structure yG (l:List V) (n:Nat->Nat):Prop where
 code:eb (λi=>iN (nth l i)) (xi l)=0
 n:∀j,j<4->n j=xi l j
 k:∀j,j<4->xi l j<=64/\xi l j<=kyC l j
structure GW (l:List V) (f:Nat->Sd.Byt) (tg tc:Nat) (p:Sd.Pol) (k:LK):Prop where
 eq:p=nP l f
 kn:k.kn=xi l
 kf:k.kf=f
 tg:k.tg=tg
 tc:k.tc=tc
 most:k.most=p.queue
 Gd:k.px=none/\k.pn=0/\k.pc=0
def XE:gZ (LG fr):=λargs bl ch K=>match args,ch,bl with
 |[.agg l],.dC u::rest,⟨w0,⟨tg,(0,0)⟩,c0⟩::⟨w1,⟨tc,(0,0)⟩,c1⟩::bl2=>(match kyB (⟨w0,⟨tg,(0,0)⟩,c0⟩::⟨w1,⟨tc,(0,0)⟩,c1⟩::bl2) (nth l 5),kyB (⟨w0,⟨tg,(0,0)⟩,c0⟩::⟨w1,⟨tc,(0,0)⟩,c1⟩::bl2) (nth l 6),kyB (⟨w0,⟨tg,(0,0)⟩,c0⟩::⟨w1,⟨tc,(0,0)⟩,c1⟩::bl2) (nth l 7),kyB (⟨w0,⟨tg,(0,0)⟩,c0⟩::⟨w1,⟨tc,(0,0)⟩,c1⟩::bl2) (nth l 8)with
  |some (n0,f0),some (n1,f1),some (n2,f2),some (n3,f3)=>cond (sY l 0&&dE (bl2.length+2) (⟨w0,⟨tg,(0,0)⟩,c0⟩::⟨w1,⟨tc,(0,0)⟩,c1⟩::bl2))
   (yG l (k4 n0 n1 n2 n3)/\∀(p:Sd.Pol) (k:LK) (F:cw fr (bV k (iz p))),GW l (k4 f0 f1 f2 f3) tg tc p k->cF=F.vs->cF=F.vr->
    K (.aC [.ptr (bl2.length+2) 0,.int .i64 0]) (⟨w0,⟨tg,(0,0)⟩,c0⟩::⟨w1,⟨tc,(0,0)⟩,c1⟩::(bl2++[ee k (bl2.length+3) (iz p),gp (iz p)])) (.dC u::.core (cx k (iz p) F) []::rest)) False
  |_,_,_,_=>False)
 |_,_,_=>False
theorem A_ {ids:List Nat} {bl:List VB} {X:List ax} {ms:List Nat} {w0 w:World} {v:V} {m:Nat} {f:Sd.Byt} (hl:ids.length=bl.length) (S:St ms w0 (lits ids ids bl++X) w) (h:kyB bl v=some (m,f)) (hm:m<=64) {c:Nat} (hc:m<=c):cn w (some ⟨ids.getD (sI v) 0,0,none⟩) m c f:=by
 unfold kyB at h;split at h
 ·rename_i i o n c';split at h
  ·rename_i wr m' f' r hb;obtain⟨rfl,rfl⟩:m'=m/\f'=f:=by simpa using h
   have bD:=(cQ hl S hb).2;refine⟨by omega,hc,(λe=>nomatch e),λx e j hj=>?_⟩;obtain rfl:⟨ids.getD i 0,0,none⟩=x:=by simpa[sI]using e
   rw[Addr.add_lit,cell_of bD,Nat.zero_add];simp only[af,cl,List.getElem?_toArray];rw[List.getElem?_append_left (by simpa using hj)];simp[List.getElem?_range hj]
  ·cases h
 ·cases h
theorem LZ (k:LK) (p:Sd.Pol) (b bt:Nat):aL (ca b bt) b (ee k 3 (iz p))=⟨b,true,.cells (lW p k.ka k.kn k.kc ⟨4,p.i 55,-1,⟨0,0⟩,⟨0,0⟩,false⟩ k.bq (f3 ⟨0,false,λ_=>0⟩ ⟨0,false,λ_=>0⟩ ⟨0,false,λ_=>0⟩) bt 0 0 (p.i 39) ⟨2,4,0⟩ ⟨1,⟨0,0,0,0⟩,⟨0,0,0,0⟩,⟨2,4,0⟩⟩ (λ_=>0)) 97 (0,0)⟩:=by kernel_rfl
theorem RY (p:Sd.Pol) (bt:Nat):aL [] bt (gp (iz p))=⟨bt,true,.cells (jd (false,⟨0,0⟩) (f3 ⟨false,⟨0,0⟩,0,(λ_=>0),⟨false,0,0⟩⟩ ⟨false,⟨0,0⟩,0,(λ_=>0),⟨false,0,0⟩⟩ ⟨false,⟨0,0⟩,0,(λ_=>0),⟨false,0,0⟩⟩) (p.i 42) (p.i 49)) 143 (0,0)⟩:=by kernel_rfl
theorem wR:Sound prog gS 10 (XE (fr:=fr)):=by
 intro args ids bl ch R ms w0 w K hg hl S hc;unfold XE at hc;split at hc
 ·rename_i l u rest w0' tg c0 w1' tc c1 bl2;split at hc
  ·rename_i n0 y0 n1 y1 n2 y2 n3 y3 e0 e1 e2 e3;cases hq:sY l 0&&dE (bl2.length+2) (⟨w0',⟨tg,(0,0)⟩,c0⟩::⟨w1',⟨tc,(0,0)⟩,c1⟩::bl2)with
   |false=>rw[hq]at hc;exact hc.elim
   |true=>
    rw[hq]at hc;simp only[Bool.and_eq_true]at hq;obtain⟨⟨ahm,hn,hk⟩,hK⟩:=hc;have m0:n0=xi l 0:=hn 0 (by decide);have m1:n1=xi l 1:=hn 1 (by decide);have m2:n2=xi l 2:=hn 2 (by decide);have m3:n3=xi l 3:=hn 3 (by decide);have Df:∀i,i<4->cn w (kyA ids l i) (xi l i) (kyC l i) (k4 y0 y1 y2 y3 i):=by
     intro i hi
     match i,hi with
     |0,_=>subst m0;exact A_ hl S e0 (hk 0 (by decide)).1 (hk 0 (by decide)).2
     |1,_=>subst m1;exact A_ hl S e1 (hk 1 (by decide)).1 (hk 1 (by decide)).2
     |2,_=>subst m2;exact A_ hl S e2 (hk 2 (by decide)).1 (hk 2 (by decide)).2
     |3,_=>subst m3;exact A_ hl S e3 (hk 3 (by decide)).1 (hk 3 (by decide)).2
     |i+4,h=>exact absurd h (by omega)
    have bd:(aq ids [.agg l]).toArray=#[.agg (kq (nP l (k4 y0 y1 y2 y3)) (kyA ids l) (xi l) (kyC l))]:=by
     simp only[aq,den,RX hq.1 (k4 y0 y1 y2 y3) ids]
    rw[bd];refine(RW (nP l (k4 y0 y1 y2 y3)) (kyA ids l) (xi l) (kyC l) (k4 y0 y1 y2 y3) ahm w Df).mono ?_;rintro v w' ⟨b,bq,bt,xa,xc,B,rfl,hr,T⟩;have S2:=S.beside T (Wr.app (Wr.cons rfl (Wr.cons rfl (Wr.cons rfl Wr.nil))) (Wr.app (hr 0 (by decide)).wr (Wr.app (hr 1 (by decide)).wr (Wr.app (hr 2 (by decide)).wr (Wr.app (hr 3 (by decide)).wr Wr.nil)))))
    let k:LK:=mkK l (k4 y0 y1 y2 y3) xa xc bq tg tc
    let s:Sd.Scene:=iz (nP l (k4 y0 y1 y2 y3))
    let F:cw fr (bV k s):=⟨none,0,none,0,[⟨bq,true,.cells #[.slice none 0 0,.int .i64 k.most,.int .u64 0] 132 (0,0)⟩],[],[],[],B 0++(B 1++(B 2++(B 3++[]))),[],⟨[],none,0,0,[],rfl,ib _ _,trivial,rfl⟩,ib 6 65,ib 2 69,.nil,⟨B 0,B 1,B 2,B 3,[],rfl,hr 0 (by decide),hr 1 (by decide),hr 2 (by decide),hr 3 (by decide),uM 5⟩⟩
    have Em:ids.length=bl2.length+2:=by simpa using hl
    refine⟨_,[b,bt],_,_,?_,by simp[Em],?_,hK _ k F ⟨rfl,rfl,rfl,rfl,rfl,rfl,rfl,rfl,rfl⟩ rfl rfl⟩
    ·have h1:(ids++[b,bt]).getD (bl2.length+2) 0=b:=by rw[<-Em];simp[List.getD]
     simp only[den,aq,h1]
    ·have h2:(ids++[b,bt]).getD (bl2.length+3) 0=bt:=by rw[show bl2.length+3=ids.length+1 by omega];simp[List.getD]
     have e1:aL (ids++[b,bt]) b (ee k (bl2.length+3) s)=⟨b,true,.cells (lW (nP l (k4 y0 y1 y2 y3)) xa (xi l) xc ⟨4,(nP l (k4 y0 y1 y2 y3)).i 55,-1,⟨0,0⟩,⟨0,0⟩,false⟩ bq (f3 ⟨0,false,λ_=>0⟩ ⟨0,false,λ_=>0⟩ ⟨0,false,λ_=>0⟩) bt 0 0 ((nP l (k4 y0 y1 y2 y3)).i 39) ⟨2,4,0⟩ ⟨1,⟨0,0,0,0⟩,⟨0,0,0,0⟩,⟨2,4,0⟩⟩ (λ_=>0)) 97 (0,0)⟩:=by
      rw[yA (a:=b) b h2];exact LZ k (nP l (k4 y0 y1 y2 y3)) b bt
     have e2:aL (ids++[b,bt]) bt (gp s)=⟨bt,true,.cells (jd (false,⟨0,0⟩) (f3 ⟨false,⟨0,0⟩,0,(λ_=>0),⟨false,0,0⟩⟩ ⟨false,⟨0,0⟩,0,(λ_=>0),⟨false,0,0⟩⟩ ⟨false,⟨0,0⟩,0,(λ_=>0),⟨false,0,0⟩⟩) ((nP l (k4 y0 y1 y2 y3)).i 42) ((nP l (k4 y0 y1 y2 y3)).i 49)) 143 (0,0)⟩:=by
      rw[cj (ids':=[]) (ir s)];exact RY (nP l (k4 y0 y1 y2 y3)) bt
     have e3:(⟨w0',⟨tg,(0,0)⟩,c0⟩::⟨w1',⟨tc,(0,0)⟩,c1⟩::(bl2++[ee k (bl2.length+3) s,gp s]))=(⟨w0',⟨tg,(0,0)⟩,c0⟩::⟨w1',⟨tc,(0,0)⟩,c1⟩::bl2)++[ee k (bl2.length+3) s,gp s]:=rfl;rw[e3,aQ _ _ _ _ hl,aR _ _ (by rw[hl];exact hq.2)];show St ms w0 ((lits ids ids (⟨w0',⟨tg,(0,0)⟩,c0⟩::⟨w1',⟨tc,(0,0)⟩,c1⟩::bl2)++[aL (ids++[b,bt]) b (ee k (bl2.length+3) s),aL (ids++[b,bt]) bt (gp s)])++(dV u++((F.B++[])++ag rest R))) w';rw[e1,e2];have hF:F.B=⟨bq,true,.cells #[.slice none 0 0,.int .i64 ((nP l (k4 y0 y1 y2 y3)).i 48),.int .u64 0] 132 (0,0)⟩::(B 0++(B 1++(B 2++(B 3++[])))):=rfl;rw[hF];refine S2.perm ?_;show List.Perm (_++(_++(dV u++ag rest R))) _;exact cH λf=>by simp only[List.countP_append,List.countP_cons,List.countP_nil];omega
  ·exact hc.elim
 ·exact hc.elim
theorem Ba (n:Nat):∀(l:List V) (i:Nat),nth (IU n l) i=rv n (nth l i)
 |[],_=>rfl
 |_::_,0=>rfl
 |_::l,i+1=>Ba n l i
theorem Bb {α:Type} (f:α->V):∀(l:List α) (i:Nat) (a:α),l[i]?=some a->nth (l.map f) i=f a
 |[],_,_,h=>by simp at h
 |x::l,0,a,h=>by simp at h;subst h;rfl
 |x::l,i+1,a,h=>Bb f l i a (by simpa using h)
section
variable(n:Nat) (p:Nat->Int) (kn d:Nat->Nat)
abbrev jT:List V:=IU n (Xw p kn d)
theorem RZ {i:Nat} (hi:i<56) (hk:jJ i=false):iN (nth (jT n p kn d) i)=p i:=by
 unfold jT;rw[Ba,Xw,Bb _ _ i i (by rw[List.getElem?_range hi]),hk];rfl
theorem R1 {j:Nat} (hj:j<4):nth (jT n p kn d) (j+5)=.sl (j+n) 0 (kn j) (kn j+d j):=by
 unfold jT;rw[Ba,Xw,Bb _ _ (j+5) (j+5) (by rw[List.getElem?_range (by omega)])];have hk:jJ (j+5)=true:=by
  match j,hj with
  |0,_=>rfl
  |1,_=>rfl
  |2,_=>rfl
  |3,_=>rfl
  |j+4,h=>exact absurd h (by omega)
 rw[hk,Nat.add_sub_cancel];rfl
theorem wS {j:Nat} (hj:j<4):xi (jT n p kn d) j=kn j:=by unfold xi;rw[R1 _ _ _ _ hj];rfl
theorem adq {j:Nat} (hj:j<4):kyC (jT n p kn d) j=kn j+d j:=by unfold kyC;rw[R1 _ _ _ _ hj];rfl
end
theorem ahn (x:Int):0<=bits .and .i64 x 15/\bits .and .i64 x 15<=15:=by
 have:=eT .i64 x 15 16 4 (by decide) (by decide) (by decide);omega
theorem aho (x:Int):0<=bits .and .i64 x 31/\bits .and .i64 x 31<=31:=by
 have:=eT .i64 x 31 32 5 (by decide) (by decide) (by decide);omega
theorem ahp (x:Int):0<=bits .and .i64 x 65535/\bits .and .i64 x 65535<=65535:=by
 have:=eT .i64 x 65535 65536 16 (by decide) (by decide) (by decide);omega
theorem R2 (x:Int):qH (bits .and .i64 x 14)=true:=by
 rw[agM];simp only[qH,vJ,Bool.and_eq_true,decide_eq_true_eq,beq_iff_eq];omega
theorem one_mod (a:Int) {m:Int} (h:0<m) (h2:m<=1000000):i64.wrap (1+di a m)=1+di a m:=by
 have:=rD a h h2;exact gE (by omega)
theorem GV.perm {q:Nat->Int} {o1 o2 o3:Int} (h:GV q o1 o2 o3):(o1=1/\o2=2/\o3=3)\/(o1=1/\o2=3/\o3=2)\/(o1=2/\o2=1/\o3=3)\/(o1=2/\o2=3/\o3=1)\/(o1=3/\o2=1/\o3=2)\/(o1=3/\o2=2/\o3=1):=by
 rcases h with⟨_,⟨_,a,b,c⟩|⟨_,a,b,c⟩⟩|⟨_,⟨_,a,b,c⟩|⟨_,a,b,c⟩⟩|⟨_,⟨_,a,b,c⟩|⟨_,a,b,c⟩⟩<;>subst a b c<;>simp
theorem adr {q:Nat->Int} {kn:Nat->Nat} (hp:(q 1=1/\q 2=2/\q 3=3)\/(q 1=1/\q 2=3/\q 3=2)\/(q 1=2/\q 2=1/\q 3=3)\/(q 1=2/\q 2=3/\q 3=1)\/(q 1=3/\q 2=1/\q 3=2)\/(q 1=3/\q 2=2/\q 3=1))
 (h0:q 0=0/\q 4=4/\q 9=1/\q 13=0/\q 50=0) (hk:∀j,j<4->1<=kn j/\kn j<=64) (hr:qH (q 10)=true/\qH (q 11)=true/\qH (q 12)=true) (ht:∀i,14<=i->i<=33->0<=q i/\q i<=15) (hg:∀i,34<=i->i<=38->0<=q i/\q i<=31)
 (hm:∀i,39<=i->i<=41->0<=q i/\q i<=4) (hs:∀i,42<=i->i<=46->1<=q i/\q i<=1000) (hb:0<=q 47/\q 47<=1000) (hq:∀i,48<=i->i<=49->1<=q i/\q i<=3) (hl:∀i,51<=i->i<=53->0<=q i/\q i<=1000) (ha:1<=q 54/\q 54<=1000) (he:0<=q 55/\q 55<=65535):
 eb q kn=0/\∀ks,Sd.cJ ⟨q,ks⟩:=by
 obtain⟨z0,z4,z9,z13,z50⟩:=h0;have TF:∀{lo hi n:Int},lo<=n/\n<=hi->vJ lo hi n=true:=λh=>by simp[vJ,h.1,h.2]
 have ajX:Pr q=true:=by
  rcases hp with⟨a,b,c⟩|⟨a,b,c⟩|⟨a,b,c⟩|⟨a,b,c⟩|⟨a,b,c⟩|⟨a,b,c⟩<;>simp[Pr,sw,z0,z4,a,b,c]
 have Df:(tp kn&&vK (kn 3))=true:=by
  have:=hk 0 (by decide);have:=hk 1 (by decide);have:=hk 2 (by decide);have:=hk 3 (by decide)
  simp only[tp,vK,Bool.and_eq_true,decide_eq_true_eq];omega
 have ajY:(q 9==1&&(q 13==0&&ph q))=true:=by simp[ph,z9,z13,hr]
 have ajZ:Ps q=true:=by
  simp only[Ps,allI,Bool.and_eq_true];refine⟨?_,?_,?_,?_,?_⟩<;>refine⟨?_,?_,?_,?_,trivial⟩<;>exact TF (ht _ (by decide) (by decide))
 have hgr:allI 0 31 [q 34,q 35,q 36,q 37,q 38]=true:=by
  simp only[allI,Bool.and_eq_true];refine⟨?_,?_,?_,?_,?_,trivial⟩<;>exact TF (hg _ (by decide) (by decide))
 have hmo:allI 0 4 [q 39,q 40,q 41]=true:=by
  simp only[allI,Bool.and_eq_true];refine⟨?_,?_,?_,trivial⟩<;>exact TF (hm _ (by decide) (by decide))
 have hti:allI 1 1000 [q 42,q 43,q 44,q 45]=true:=by
  simp only[allI,Bool.and_eq_true];refine⟨?_,?_,?_,?_,trivial⟩<;>exact TF (hs _ (by decide) (by decide))
 have ng:(vJ 1 1000 (q 46)&&vJ 0 1000 (q 47))=true:=by rw[TF (hs 46 (by decide) (by decide)),TF hb];rfl
 have hro:allI 1 3 [q 48,q 49]=true:=by
  simp only[allI,Bool.and_eq_true];refine⟨?_,?_,trivial⟩<;>exact TF (hq _ (by decide) (by decide))
 have hli:(q 50==0&&(allI 0 1000 [q 51,q 52,q 53]&&vJ 1 1000 (q 54)))=true:=by
  rw[z50,TF ha];simp only[allI,Bool.and_eq_true];refine⟨by decide,⟨?_,?_,?_,trivial⟩,trivial⟩<;>exact TF (hl _ (by decide) (by decide))
 refine⟨?_,λks=>?_⟩
 ·unfold eb;rw[ajX,Df,ajY,ajZ,hgr,hmo,hti,ng,hro,hli,TF he];rfl
 ·refine⟨z0,z4,hp,hm 39 (by decide) (by decide),hm 40 (by decide) (by decide),hm 41 (by decide) (by decide),hs 42 (by decide) (by decide),hs 43 (by decide) (by decide),hs 44 (by decide) (by decide),hs 45 (by decide) (by decide),hs 46 (by decide) (by decide),hb,hq 48 (by decide) (by decide),hq 49 (by decide) (by decide),?_,ha,he⟩;intro c hc;show 0<=q (50+c)/\q (50+c)<=1000
  match c,hc with
  |0,_=>rw[z50];decide
  |1,_=>exact hl 51 (by decide) (by decide)
  |2,_=>exact hl 52 (by decide) (by decide)
  |3,_=>exact hl 53 (by decide) (by decide)
  |c+4,h=>exact absurd h (by omega)
structure GY (p:Nat->Int) (o1 o2 o3:Int) (q:Nat->Int):Prop where
 lo:∀i,i<=4\/(9<=i/\i<=41)\/(47<=i/\i<=55)->p i=sW o1 o2 o3 q i
 ti:∀i,42<=i->i<=46->1<=p i/\p i<=1000
theorem XF {o1 o2 o3:Int} {q:Nat->Int} {i:Nat} (h1:42<=i) (h2:i<=46):1<=sW o1 o2 o3 q i/\sW o1 o2 o3 q i<=1000:=by
 have:sW o1 o2 o3 q i=i64.wrap (1+di (q i) 1000):=by
  have:i=42\/i=43\/i=44\/i=45\/i=46:=by omega
  rcases this with rfl|rfl|rfl|rfl|rfl<;>rfl
 rw[this,one_mod _ (by decide) (by decide)];have:=rD (q i) (m:=1000) (by decide) (by decide);omega
theorem GY.ok {p:Nat->Int} {o1 o2 o3:Int} {q:Nat->Int} (h:GY p o1 o2 o3 q) (ho:GV q o1 o2 o3) {kn:Nat->Nat} (hk:∀j,j<4->1<=kn j/\kn j<=64):eb p kn=0/\∀ks,Sd.cJ ⟨p,ks⟩:=by
 have g:=λi hi=>h.lo i hi;have md:=λ(i:Nat) (m:Int) (h1:0<m) (h2:m<=1000000)=>rD (q i) h1 h2;refine adr ?_ ⟨g 0 (by decide),g 4 (by decide),g 9 (by decide),g 13 (by decide),g 50 (by decide)⟩ hk ⟨?_,?_,?_⟩ ?_ ?_ ?_ h.ti ?_ ?_ ?_ ?_ ?_
 ·rw[g 1 (by decide),g 2 (by decide),g 3 (by decide)];exact ho.perm
 ·rw[g 10 (by decide)];exact R2 _
 ·rw[g 11 (by decide)];exact R2 _
 ·rw[g 12 (by decide)];exact R2 _
 ·intro i h1 h2;rw[g i (by omega)];have:sW o1 o2 o3 q i=bits .and .i64 (q i) 15:=by
   unfold sW;have e1:Nat.ble i 13=false:=by cases hb:Nat.ble i 13 with|false=>rfl|true=>exact absurd (Nat.le_of_ble_eq_true hb) (by omega)
   have e2:Nat.ble i 33=true:=Nat.ble_eq_true_of_le h2;rw[e1,e2];rfl
  rw[this];exact ahn _
 ·intro i h1 h2;rw[g i (by omega)];have:sW o1 o2 o3 q i=bits .and .i64 (q i) 31:=by
   have:i=34\/i=35\/i=36\/i=37\/i=38:=by omega
   rcases this with rfl|rfl|rfl|rfl|rfl<;>rfl
  rw[this];exact aho _
 ·intro i h1 h2;rw[g i (by omega)];have:sW o1 o2 o3 q i=di (q i) 5:=by
   have:i=39\/i=40\/i=41:=by omega
   rcases this with rfl|rfl|rfl<;>rfl
  rw[this];have:=md i 5 (by decide) (by decide);omega
 ·rw[g 47 (by decide)];have:=md 47 1001 (by decide) (by decide);show 0<=di (q 47) 1001/\di (q 47) 1001<=1000;omega
 ·intro i h1 h2;rw[g i (by omega)];have:sW o1 o2 o3 q i=i64.wrap (1+di (q i) 3):=by
   have:i=48\/i=49:=by omega
   rcases this with rfl|rfl<;>rfl
  rw[this,one_mod _ (by decide) (by decide)];have:=md i 3 (by decide) (by decide);omega
 ·intro i h1 h2;rw[g i (by omega)];have:sW o1 o2 o3 q i=di (q i) 1001:=by
   have:i=51\/i=52\/i=53:=by omega
   rcases this with rfl|rfl|rfl<;>rfl
  rw[this];have:=md i 1001 (by decide) (by decide);omega
 ·rw[g 54 (by decide)];show 1<=i64.wrap (1+di (q 54) 1000)/\i64.wrap (1+di (q 54) 1000)<=1000;rw[one_mod _ (by decide) (by decide)];have:=md 54 1000 (by decide) (by decide);omega
 ·rw[g 55 (by decide)];exact ahp _
theorem I5 {i:Nat} (h:i<5\/8<i):jJ i=false:=by
 unfold jJ;cases h1:Nat.ble 5 i with
 |false=>rfl
 |true=>
  cases h2:Nat.ble i 8 with
  |false=>rfl
  |true=>have:=Nat.le_of_ble_eq_true h1;have:=Nat.le_of_ble_eq_true h2;omega
theorem Made.I {x:kY} {p:Nat->Int} {n:Nat->Nat} (h:Made x p n):GY p (p 1) (p 2) (p 3) x.q:=
 ⟨λi hi=>h.p i (by omega) (I5 (by omega)),λi h1 h2=>by rw[h.p i (by omega) (I5 (by omega))];exact XF h1 h2⟩
theorem GY.at {p p':Nat->Int} {o1 o2 o3:Int} {q:Nat->Int} (h:GY p o1 o2 o3 q) (e:∀i,i<56->jJ i=false->p' i=p i):GY p' o1 o2 o3 q:=
 ⟨λi hi=>by rw[e i (by omega) (I5 (by omega))];exact h.lo i hi,λi h1 h2=>by rw[e i (by omega) (I5 (by omega))];exact h.ti i h1 h2⟩
theorem R3 {m:Nat} {p:Nat->Int} {n d:Nat->Nat} {o1 o2 o3:Int} {q:Nat->Int} (h:GY p o1 o2 o3 q) (ho:GV q o1 o2 o3) (hn:∀j,j<4->1<=n j/\n j<=64):yG (jT m p n d) n/\∀f,Sd.cJ (nP (jT m p n d) f):=by
 have hb:∀j,j<4->1<=xi (jT m p n d) j/\xi (jT m p n d) j<=64:=λj hj=>by rw[wS _ _ _ _ hj];exact hn j hj
 have h1:=(h.at (p':=λi=>iN (nth (jT m p n d) i)) (λi h1 h2=>RZ m p n d h1 h2)).ok ho hb;refine⟨⟨h1.1,λj hj=>(wS _ _ _ _ hj).symm,λj hj=>⟨(hb j hj).2,?_⟩⟩,λf=>h1.2 _⟩;rw[wS _ _ _ _ hj,adq _ _ _ _ hj];omega
theorem R4 {l:List V} {f:Nat->Sd.Byt} {tg tc:Nat} {p:Sd.Pol} {k:LK} (hN:GW l f tg tc p k) (h:Sd.cJ (nP l f)) (hk:∀j,j<4->1<=xi l j/\xi l j<=64):ba k (iz p):=by
 obtain⟨rfl,h1,h2,h3,h4,h5,h6⟩:=hN;exact⟨Sd.Inv.new h,Sd.Ext.new,λi hi=>by rw[h1];exact hk i hi,λi hi=>by rw[h1,h2];rfl,rfl,rfl⟩
def f2 (a b:Int):Sd.Byt:=λj=>match j with|0=>a|_=>b
def ads (C:Sd.Crypt):gZ (LG fr):=λargs bl ch K=>match args with
 |[.ptr ic 0,.int .i64 l,.agg [.int .i64 code,.sl ip 0 2 2]]=>(match bl[ip]?with
  |some ⟨true,⟨5,(0,0)⟩,[.int .u8 a,.int .u8 b]⟩=>coI C [.ptr ic 0,.int .i64 l,.agg [.int .i64 code,.sl ip 0 2 2]] (bl.set ip (dD 2 0 (f2 a b))) ch K
  |_=>False)
 |_=>False
theorem L_ {ids:List Nat} {bl:List VB} {ip:Nat} {b b':VB} (hl:ids.length=bl.length) (h:bl[ip]?=some b) (e:∀n,aL ids n b'=aL ids n b):lits ids ids (bl.set ip b')=lits ids ids bl:=by
 rw[<-il ids bl ip b' hl,e,il ids bl ip b hl];congr 1;apply List.ext_getElem?;intro j;rw[List.getElem?_set];split
 ·rename_i hj;subst hj;rw[h];simp[ck h]
 ·rfl
theorem GZ (ht:Body (fr:=fr) 130 bM):Sound prog gS 22 (ads (fr:=fr) (aj b_)):=by
 intro args ids bl ch R ms w0 w K hg hl S hc;unfold ads at hc;split at hc
 ·rename_i ic l code ip;split at hc
  ·rename_i a b hb;refine yC ht _ ids _ ch R ms w0 w K hg (by simpa using hl) ?_ hc;rw[L_ (b':=dD 2 0 (f2 a b)) hl hb (λn=>rfl)];exact S
  ·exact hc.elim
 ·exact hc.elim
def iW (t:TypeId):VB:=⟨false,t,[.dS .u32 64 aT]⟩
def pF (t:TypeId):VB:=⟨false,t,[.bool false,.bool false,.bool false,.bool false,.bool false,.bool false,.bool false,.bool false,.bool false,.bool false,.bool true,.bool true]⟩
def LSh (fr:Sd.Reply->Nat×Sd.Byt) (C:Sd.Crypt):List (dF (LG fr)):=[⟨9,false,Xx⟩,⟨10,false,XE⟩,⟨22,false,ads C⟩,⟨12,false,MF λ_=>A7⟩]
theorem R5 (ht:Body (fr:=fr) 130 bM):ah prog gS (LSh fr (aj b_)):=
 ah.cons ⟨yE,λe=>by cases e⟩ (ah.cons ⟨wR,λe=>by cases e⟩ (ah.cons ⟨GZ ht,λe=>by cases e⟩ (ah.cons (pD (wN ht)) ah.nil)))
def XG:List V:=(List.range 56).map λi=>bif jJ i then .raw (.slice none 0 0)else .int .i64 (bif Nat.beq i 10 then 2 else 0)
def adt:kY:=⟨λi=>iN (nth XG i),λj=>sA (nth XG (j+5)),λj=>sN (nth XG (j+5)),λj=>sC (nth XG (j+5))⟩
def rdA (x:kY) (u:World):Prop:=MH x u 0/\MH x u 1/\MH x u 2/\MH x u 3
def DS (x:kY) (u:World):Nat->Sd.Byt:=k4 (yD (x.kn 0) (de u (x.ka 0))) (yD (x.kn 1) (de u (x.ka 1))) (yD (x.kn 2) (de u (x.ka 2))) (yD (x.kn 3) (de u (x.ka 3)))
def n4 (n:Nat->Nat):Nat->Nat:=k4 (n 0) (n 1) (n 2) (n 3)
def R6 (tg tc:TypeId) (it:Nat) (k:LK) (s:Sd.Scene):Prop:=some (iW tg)=some (aF k)/\some (pF tc)=some (iq k)/\CX k it s=CX k it (dg s)/\s.c.p.bR=s.c.p.bR/\s.c.p.bz=s.c.p.bz/\s.c.p.queue=k.most
section
variable(C:Sd.Crypt) (tg tc:TypeId) (u:World) (K:VK (LG fr))
def shE (k:LK) (s':Sd.Scene) (F0:cw fr (bV k (ji s'))) (fn:List ax) (r:TR):Prop:=
 let no (b:Bool):Prop:=K (.bool b) [iW tg,pF tc] [.dC u,.core (cx k (ji s') F0) (fn++[])]
 cond ((s'.sent.length:Int)==1) ((0<=(0:Int)/\0<(s'.sent.length:Int))/\(0<s'.sent.length/\∀j,(xF s'.sent r.fv j).length=2)/\
  cond ((s'.sent.getD 0 default).1==1) (cond ((s'.recs.length:Int)==1) ((0<=(0:Int)/\0<(s'.recs.length:Int))/\(0<s'.recs.length/\∀j,(DH s'.recs j).length=6)/\
   cond ((s'.recs.getD 0 default).kind==2) (R6 tg tc 8 k (ji s')/\∀(x:Option Addr) (c ty:Nat) (us:List Value),K (.bool ((ji s').c.t.holder==4)) [iW tg,pF tc] [.dC u,.core (cx k (dg (ji s')) F0) (fn++[])]) (no false)) (no false)) (no false)) (no false)
def shX:Prop:=rdA adt u/\∀(p:Nat->Int) (n d:Nat->Nat),Made adt p n->
 yG (jT 2 p n d) (n4 n)/\∀(p2:Sd.Pol) (k:LK) (F:cw fr (bV k (iz p2))),GW (jT 2 p n d) (DS adt u) tg tc p2 k->cF=F.vs->cF=F.vr->
  R6 tg tc 8 k (iz p2)/\(2=2/\2+0=2/\l0=l0)/\wO k/\(ba k (dg (iz p2))/\cF=F.vs/\cF=F.vr/\2<=58/\By (f2 1 1))/\
   ∀s',s'=gP C (dg (iz p2)) 1 0 2 (f2 1 1)->∀(r:TR) (fn:List ax) (F0:cw fr (bV k (ji s'))),cF=F0.vs->cF=F0.vr->LR fr s'.sent r.fv fn->shE tg tc u K k s' F0 fn r
theorem ahq:cI (dw prog gS (LSh fr C)) 60 8 [] [iW tg,pF tc] [.dC u] (du 2 K)=shX C tg tc u K:=by kernel_rfl
end
section
variable{G:Type} [Bl G]
theorem yH {C:Ctx G} {f n:Nat} {ids:List Nat} {bl:List VB} {ch0 rest:List G} {R:List ax} {ms:List Nat} {w0 w:World} (hT:∀f c,C.T f=some c->Sound C.P C.gl f c) (hQ:gy C) (hl:ids.length=bl.length) (S:St ms w0 (lits ids ids bl++ag (ch0++rest) R) w)
 (is:List Nat) (hn:is.Nodup) (hg:Gl C.gl (is.map λi=>ids.getD i 0)) (bs:List VB) (hb:is.map (bl[·]?)=bs.map some) (hw:dE 0 bs=true) {args args':List V} (bd:aq ids args=aq (is.map λi=>ids.getD i 0) args') {v0:V} (MG:fu 0 v0=true)
 (fI:cI C n f args' bs ch0 (du bs.length λv b c=>v=v0/\b.take bs.length=bs/\∃c2,c=ch0++c2)):ak C.P f (aq ids args).toArray w λv w'=>v=den [] v0/\St ms w0 (lits ids ids bl++ag (ch0++rest) R) w':=by
 have hlen:is.length=bs.length:=by have:=congrArg List.length hb;simpa using this
 have tB:∀(k i:Nat),is[k]?=some i->∃b,bs[k]?=some b/\bl[i]?=some b:=by
  intro k i hk;have:=congrArg (λl=>l[k]?) hb;simp only[List.getElem?_map,hk,Option.map_some]at this;cases hbk:bs[k]?with
  |none=>rw[hbk]at this;simp at this
  |some b=>rw[hbk]at this;simp only[Option.map_some,Option.some.injEq]at this;exact⟨b,rfl,this⟩
 have f_:∀i∈is,i<bl.length:=by
  intro i hi;obtain⟨k,hk⟩:=List.getElem?_of_mem hi;obtain⟨b,_,h2⟩:=tB k i hk;exact ck h2
 obtain⟨r,hr,hp⟩:=vR (bl:=bl) (ids:=ids) hl hn f_;have ef:=hp bl rfl;have Et:∀(GN:List Nat),(is.map λj=>aL ids (ids.getD j 0) (bl.getD j g_))=lits GN (is.map λi=>ids.getD i 0) bs:=by
  intro GN;clear hr hp ef bd fI f_ hg;induction is generalizing bs with
  |nil=>simp[lits]
  |cons i is ih=>
   cases bs with
   |nil=>simp at hlen
   |cons b bs=>
    simp only[List.map_cons,List.cons.injEq]at hb;simp only[dE,Bool.and_eq_true]at hw;simp only[List.map_cons,lits,cL hb.1];rw[cj (ids':=GN) hw.1,ih (List.nodup_cons.1 hn).2 bs hb.2 hw.2 (by simpa using hlen) (λk i hk=>tB (k+1) i (by simpa using hk))]
 rw[Et (is.map λi=>ids.getD i 0)]at ef;have S1:St ms w0 (lits (is.map λi=>ids.getD i 0) (is.map λi=>ids.getD i 0) bs++ag ch0 ((r.map λj=>aL ids (ids.getD j 0) (bl.getD j g_))++ag rest R)) w:=by
  refine S.perm ((ef.append_right _).trans ?_);rw[dY,bH (ag rest R) ch0,bH ((r.map λj=>aL ids (ids.getD j 0) (bl.getD j g_))++ag rest R) ch0];exact cH λf=>by simp only[List.countP_append];omega
 rw[bd];refine(bw hT hQ n hg (by simpa using hlen) S1 fI).mono ?_;rintro v w' ⟨x,Zv,bl0,ch',rfl,T7,S0,hK⟩;obtain⟨v2,more,bl',hv,Em,S2,rfl,hbs,c2,rfl⟩:=dr (n0:=bs.length) T7 (by simp[hlen]) S0 hK;have htk:((is.map λi=>ids.getD i 0)++Zv).take bs.length=is.map λi=>ids.getD i 0:=by rw[<-hlen];have:=List.take_left (l₁:=is.map λi=>ids.getD i 0) (l₂:=Zv);simpa using this
 rw[htk]at hv Em S2;refine⟨by rw[hv];have:=bx (ids:=[]) (more:=(is.map λi=>ids.getD i 0)++more) v2 MG;simpa using this,?_⟩;have fW:bl'=bs++bl'.drop bs.length:=by have:=List.take_append_drop bs.length bl';rw[hbs]at this;exact this.symm
 rw[fW,aQ _ _ _ _ (by simpa using hlen),fE (ids':=is.map λi=>ids.getD i 0) (is.map λi=>ids.getD i 0) bs hw]at S2;rw[dY,bH _ ch0,bH _ c2]at S2;have S3:St ms w0 (lits (is.map λi=>ids.getD i 0) (is.map λi=>ids.getD i 0) bs++(ag ch0 []++((r.map λj=>aL ids (ids.getD j 0) (bl.getD j g_))++ag rest R))) w':=by
  refine S2.sub ?_;rw[List.append_assoc];refine List.Sublist.append_left ?_ _;refine List.Sublist.trans ?_ (List.sublist_append_right _ _);exact List.Sublist.append_left (List.sublist_append_right _ _) _
 refine S3.perm (List.Perm.trans ?_ (ef.symm.append_right _));rw[dY,bH (ag rest R) ch0];exact cH λf=>by simp only[List.countP_append];omega
end
theorem adu {G:Type} [Bl G] {C:Ctx Empty} {f n:Nat} {ids:List Nat} {bl:List VB} {ch:List G} {R:List ax} {ms:List Nat} {w0 w:World} (hT:∀f c,C.T f=some c->Sound C.P C.gl f c) (hQ:gy C) (hg:C.gl=gz) (hl:ids.length=bl.length) (S:St ms w0 (lits ids ids bl++ag ch R) w)
 (is:List Nat) (hn:is.Nodup) (bs:List VB) (hb:is.map (bl[·]?)=bs.map some) (hw:dE 0 bs=true) {args args':List V} (bd:aq ids args=aq (is.map λi=>ids.getD i 0) args') {v0:V} (MG:fu 0 v0=true)
 (fI:cI C n f args' bs [] (du bs.length λv b c=>v=v0/\b.take bs.length=bs/\∃c2,c=[]++c2)):ak C.P f (aq ids args).toArray w λv w'=>v=den [] v0/\St ms w0 (lits ids ids bl++ag ch R) w':=
 yH (G:=Empty) (ch0:=[]) (rest:=[]) (R:=ag ch R) hT hQ hl S is hn (λg i h=>by rw[hg]at h;cases h) bs hb hw bd MG fI
theorem DU (C:Sd.Crypt) (p:Sd.Pol) {m:Sd.db} (hm:C.take 2 (f2 1 1)=some m) (hr:m.role=1) (ht:Sd.jW p 1 1=true):∃r e,(gP C (iz p) 1 0 2 (f2 1 1)).sent=[(1,r)]/\(gP C (iz p) 1 0 2 (f2 1 1)).recs=[⟨2,1,0,e,0,0⟩]/\(gP C (iz p) 1 0 2 (f2 1 1)).c.t.holder=4/\(gP C (iz p) 1 0 2 (f2 1 1)).c.p=p:=by
 have e:gP C (iz p) 1 0 2 (f2 1 1)=(iz p).jt C 1 2 (f2 1 1):=rfl;rw[e];unfold Sd.Scene.jt;rw[hm];dsimp only;have ht':Sd.jW (iz p).c.p 1 m.role=true:=by rw[hr];exact ht
 rw[if_neg (by rw[ht'];simp),if_neg (by show¬(4294967295:Int)<=0;decide)];exact⟨_,_,rfl,rfl,rfl,rfl⟩
theorem adv:∃m,b_ 2 (f2 1 1)=some m/\m.role=1:=⟨_,rfl,rfl⟩
def shC:gZ (LG fr):=λargs bl ch K=>match args,ch,bl with
 |[],.dC u::rest,⟨w0,⟨tg,(0,0)⟩,c0⟩::⟨w1,⟨tc,(0,0)⟩,c1⟩::bl2=>(w0=false/\c0=(iW tg).c/\w1=false/\c1=(pF tc).c)/\K (.bool true) (⟨w0,⟨tg,(0,0)⟩,c0⟩::⟨w1,⟨tc,(0,0)⟩,c1⟩::bl2) (.dC u::rest)
 |_,_,_=>False
theorem Bc (u:World) (f:Nat->Int):eA u none 0 0 f:=⟨Nat.le_refl _,λ_=>⟨rfl,rfl⟩,λx e=>nomatch e⟩
theorem R7 {tg tc it:Nat} {k:LK} {s:Sd.Scene} (h1:k.tg=tg) (h2:k.tc=tc) (h3:s.c.p.queue=k.most):R6 tg tc it k s:=by
 subst h1 h2;exact⟨rfl,rfl,rfl,rfl,rfl,h3⟩
theorem adw {tg tc:Nat} {u:World} {K:VK (LG fr)} (hK:∀(g:Gh fr) (fB:List ax),K (.bool true) [iW tg,pF tc] [.dC u,.core g fB]):shX (aj b_) tg tc u K:=by
 refine⟨⟨Bc _ _,Bc _ _,Bc _ _,Bc _ _⟩,λp n d hM=>?_⟩;have hn:∀j,j<4->1<=n j/\n j<=64:=λj hj=>by rw[hM.n j];exact RF _
 obtain⟨h1,h2⟩:=R3 (m:=2) (d:=d) hM.I hM.o hn;have h1':yG (jT 2 p n d) (n4 n):=⟨h1.code,λj hj=>by
  rw[<-h1.n j hj]
  match j,hj with
  |0,_=>rfl
  |1,_=>rfl
  |2,_=>rfl
  |3,_=>rfl
  |j+4,h=>exact absurd h (by omega),h1.k⟩
 refine⟨h1',λp2 k F hN v1 v2=>?_⟩;have hC:=R4 hN (h2 _) (λj hj=>by rw[wS _ _ _ _ hj];exact hn j hj);refine⟨R7 hN.tg hN.tc hN.most.symm,⟨rfl,rfl,rfl⟩,hN.Gd,⟨by rw[sJ];exact hC,v1,v2,by decide,λj=>by unfold f2;split<;>decide⟩,?_⟩;rintro s' hs r fn F0 w1 w2 hfr;rw[sJ]at hs;obtain⟨m,hm,hr⟩:=adv;have hp:p2.i 10=2:=by
  rw[hN.eq];show iN (nth (jT 2 p n d) 10)=2;rw[RZ 2 p n d (by decide) rfl,hM.p 10 (by decide) rfl];show bits .and .i64 2 14=2;decide
 have ht:Sd.jW p2 1 1=true:=by
  unfold Sd.jW Sd.Pol.M6;have:p2.i (9+Int.toNat 1)=2:=hp;rw[this];decide
 obtain⟨x,e,q1,q2,q3,hpq⟩:=DU (aj b_) p2 hm hr ht;rw[<-hs]at q1 q2 q3 hpq;have l1:s'.sent.length=1:=by rw[q1];rfl
 have l2:s'.recs.length=1:=by rw[q2];rfl
 have l3:(s'.sent.getD 0 default).1=1:=by rw[q1];rfl
 have l4:(s'.recs.getD 0 default).kind=2:=by rw[q2];rfl
 unfold shE;refine aO (λ_=>⟨⟨by decide,by omega⟩,⟨by omega,λj=>rfl⟩,?_⟩) (λh=>absurd h (by simp[l1]));refine aO (λ_=>?_) (λh=>absurd h (by rw[l3];decide));refine aO (λ_=>⟨⟨by decide,by omega⟩,⟨by omega,λj=>rfl⟩,?_⟩) (λh=>absurd h (by simp[l2]));refine aO (λ_=>?_) (λh=>absurd h (by rw[l4];decide));refine⟨R7 hN.tg hN.tc (by show s'.c.p.queue=k.most;rw[hpq];exact hN.most.symm),λx c ty us=>?_⟩;have:((ji s').c.t.holder==4)=true:=by show(s'.c.t.holder==4)=true;rw[q3];rfl
 rw[this];exact hK _ _
theorem Ma (ht:Body (fr:=fr) 130 bM):Sound prog gS 8 (shC (fr:=fr)):=by
 intro args ids bl ch R ms w0 w K hg hl S hc;unfold shC at hc;split at hc
 ·rename_i u rest w0' tg c0 w1' tc c1 bl2;obtain⟨⟨rfl,rfl,rfl,rfl⟩,hK⟩:=hc;have ZW:Gl gS ([0,1].map λi=>ids.getD i 0):=by
   intro g i iu;unfold gS at iu;split at iu
   ·obtain rfl:=Option.some.inj iu;exact⟨by simp,(hg 0 0 rfl).2⟩
   ·obtain rfl:=Option.some.inj iu;exact⟨by simp,(hg 2 1 rfl).2⟩
   ·cases iu
  have fI:cI (dw prog gS (LSh fr (aj b_))) 60 8 [] [iW tg,pF tc] [.dC u] (du 2 λv b c=>v=.bool true/\b.take 2=[iW tg,pF tc]/\∃c2,c=[.dC u]++c2):=by
   rw[ahq];exact adw λg fB=>⟨rfl,rfl,_,rfl⟩
  refine(yH (C:=dw prog gS (LSh fr (aj b_))) (R5 ht).T (R5 ht).Q hl (ch0:=[.dC u]) (rest:=rest) S [0,1] (by decide) ZW [iW tg,pF tc] rfl rfl (args:=[]) (args':=[]) rfl rfl fI).mono ?_;rintro v w' ⟨rfl,S2⟩;exact⟨.bool true,[],_,_,rfl,by simpa using hl,by simpa using S2,hK⟩
 ·exact hc.elim
structure SiD where
 h:Int
 e:Int
 o:Int
 m:Int
 mb:Sd.Label
 pt:Sd.Point
 b0:Bool
 b1:Bool
 b2:Bool
 b3:Bool
 b4:Bool
 r0:Int
 r1:Int
 r2:Int
 r3:Int
 r4:Int
 bad:Bool
def Zw (x:SiD) (q:V):List V:=[.int .i64 x.h,.int .i64 x.e,.int .i64 x.o,.int .i64 x.m]++(l9 x.mb++(Ts x.pt++(q::([.bool x.b0,.bool x.b1,.bool x.b2,.bool x.b3,.bool x.b4]++[.int .i64 x.r0,.int .i64 x.r1,.int .i64 x.r2,.int .i64 x.r3,.int .i64 x.r4,.bool x.bad]))))
def siR:List V->Option (SiD×V)
 |.int .i64 h::.int .i64 e::.int .i64 o::.int .i64 m::.int .i64 a::.int .i64 b::.int .i64 c::.int .i64 p1::.int .i64 p2::.int .i64 p3::.int .i64 p4::.int .i64 p5::.int .i64 p6::.int .i64 p7::.int .i64 p8::.int .i64 p9::.int .i64 q1::.int .i64 q2::.int .i64 q3::q::
  .bool b0::.bool b1::.bool b2::.bool b3::.bool b4::.int .i64 r0::.int .i64 r1::.int .i64 r2::.int .i64 r3::.int .i64 r4::.bool bad::[]=>some (⟨h,e,o,m,⟨a,b,c⟩,⟨p1,⟨p2,p3,p4,p5⟩,⟨p6,p7,p8,p9⟩,⟨q1,q2,q3⟩⟩,b0,b1,b2,b3,b4,r0,r1,r2,r3,r4,bad⟩,q)
 |_=>none
theorem R9 {l:List V} {x:SiD} {q:V} (h:siR l=some (x,q)):l=Zw x q:=by
 unfold siR at h;split at h
 ·simp only[Option.some.injEq,Prod.mk.injEq]at h;obtain⟨rfl,rfl⟩:=h;rfl
 ·cases h
def DV {G:Type}:gZ G:=λargs bl ch K=>match args with
 |[.agg la,.agg lb]=>(match siR la,siR lb with
  |some (x,.ij i 0 n _ _),some (y,.ij j 0 m _ _)=>(match bl[i]?,bl[j]?with
   |some ⟨_,_,[.fN 1 n' g,.rest _]⟩,some ⟨_,_,[.fN 1 m' g',.rest _]⟩=>cond (!(Nat.beq i j)) ((x=y/\n'=n/\m'=n/\m=n/\n<=1000000/\g'=g/\∃q,g=RC q)/\K (.bool true) bl ch) False
   |_,_=>False)
  |_,_=>False)
 |_=>False
def DW:List (dF Empty):=[⟨41,true,DN⟩]
theorem DX:ah prog gz DW:=ah.cons ⟨GO,λ_=>GP⟩ ah.nil
def chain (no:Prop):List Bool->Prop->Prop
 |[],k=>k
 |b::l,k=>cond b (chain no l k) no
theorem DY {no k:Prop} (hk:k):∀{l:List Bool},(∀b∈l,b=true)->chain no l k
 |[],_=>hk
 |b::l,h=>by
  unfold chain;rw[h b List.mem_cons_self];exact DY hk λc hc=>h c (List.mem_cons_of_mem _ hc)
def XH (a b:Sd.Label):Bool:=a.l5==b.l5&&(a.source==b.source&&(a.seq==b.seq&&true))
def x4E (a b:Sd.X4):Bool:=a.a==b.a&&(a.b==b.b&&(a.c==b.c&&(a.d==b.d&&true)))
def ptE (a b:Sd.Point):Bool:=a.cls==b.cls&&(x4E a.bZ b.bZ&&(x4E a.now b.now&&(XH a.eo b.eo&&true)))
theorem yI (a:Sd.Label):XH a a=true:=by simp[XH]
theorem R_ (a:Sd.X4):x4E a a=true:=by simp[x4E]
theorem Sa (a:Sd.Point):ptE a a=true:=by simp[ptE,R_,yI]
def siT (x:SiD):List Bool:=[x.h==x.h,x.e==x.e,x.o==x.o,x.m==x.m,XH x.mb x.mb,ptE x.pt x.pt,x.b0==x.b0&&(x.b1==x.b1&&(x.b2==x.b2&&(x.b3==x.b3&&(x.b4==x.b4&&true)))),x.r0==x.r0&&(x.r1==x.r1&&(x.r2==x.r2&&(x.r3==x.r3&&(x.r4==x.r4&&true))))]
section
variable(x:SiD) (n c c':Nat) (y y':Option Addr) (q:Nat->Int) (a b:Bool) (ty m9:BT) (u u':List Value) (K:VK Empty)
def Zx:Prop:=(n=n/\n=n/\n=n/\n<=1000000/\RC q=RC q/\∃q',RC q=RC q')/\chain (K (.bool false) (kx n q a b ty m9 u u') []) (siT x) (K (.bool (x.bad==x.bad)) (kx n q a b ty m9 u u') [])
theorem XI:cI (dw prog gz DW) 60 18 [.agg (Zw x (.ij 0 0 n c y)),.agg (Zw x (.ij 1 0 n c' y'))] (kx n q a b ty m9 u u') [] (du 2 K)=Zx x n q a b ty m9 u u' K:=by kernel_rfl
end
theorem XJ {x:SiD} {n:Nat} {q:Nat->Int} {a b:Bool} {ty m9:BT} {u u':List Value} {K:VK Empty} (hn:n<=1000000) (hK:K (.bool true) (kx n q a b ty m9 u u') []):Zx x n q a b ty m9 u u' K:=by
 refine⟨⟨rfl,rfl,rfl,hn,rfl,q,rfl⟩,DY ?_ ?_⟩
 ·have:(x.bad==x.bad)=true:=by simp
  rw[this];exact hK
 ·intro t ht;simp only[siT,List.mem_cons,List.not_mem_nil,or_false]at ht;rcases ht with rfl|rfl|rfl|rfl|rfl|rfl|rfl|rfl<;>simp[yI,Sa]
theorem G0 {G:Type} [Bl G] {gl:Nat->Option Nat}:Sound (G:=G) prog gl 18 DV:=by
 intro args ids bl ch R ms w0 w K hg hl S hc;unfold DV at hc;split at hc
 ·rename_i la lb;split at hc
  ·rename_i x i n c o y j m c' o' hx hy;split at hc
   ·rename_i a ty n' g u b m9 m' g' u' hi hj;cases hq:!(Nat.beq i j)with
    |false=>rw[hq]at hc;exact hc.elim
    |true=>
     rw[hq]at hc;obtain⟨⟨rfl,rfl,rfl,rfl,hn,rfl,q,rfl⟩,hK⟩:=hc;obtain rfl:=R9 hx;obtain rfl:=R9 hy;have Mo:i≠j:=λe=>by rw[e,Nat.beq_refl]at hq;cases hq
     have fI:cI (dw prog gz DW) 60 18 [.agg (Zw x (.ij 0 0 m c o)),.agg (Zw x (.ij 1 0 m c' o'))] (kx m q a b ty m9 u u') [] (du (kx m q a b ty m9 u u').length λv bl c=>v=.bool true/\bl.take (kx m q a b ty m9 u u').length=kx m q a b ty m9 u u'/\∃c2,c=[]++c2):=by
      show cI (dw prog gz DW) 60 18 _ _ _ (du 2 _);rw[XI];exact XJ hn ⟨rfl,rfl,[],rfl⟩
     have hp:=adu (C:=dw prog gz DW) DX.T DX.Q rfl hl S [i,j] (by simp[Mo]) (kx m q a b ty m9 u u') (by simp[hi,hj,kx]) rfl (args:=[.agg (Zw x (.ij i 0 m c o)),.agg (Zw x (.ij j 0 m c' o'))]) ?_ rfl fI
     ·refine hp.mono ?_;rintro v w' ⟨rfl,S2⟩;exact⟨.bool true,[],bl,ch,rfl,by simpa using hl,by simpa using S2,hK⟩
     ·simp only[Zw,l9,Ts,aq,den,af,cl,List.cons_append,List.nil_append];rfl
   ·exact hc.elim
  ·exact hc.elim
 ·exact hc.elim
theorem G2 {G:Type}:dU (DV (G:=G)):=by
 intro args bl ch K hc;unfold DV at hc⊢;split at hc
 ·split at hc
  ·rename_i x i n c o y j m c' o' hx hy;split at hc
   ·cases hq:!(Nat.beq i j)with
    |false=>rw[hq]at hc;exact hc.elim
    |true=>rw[hq]at hc;exact⟨hc.1,hc.2,[],by simp⟩
   ·exact hc.elim
  ·exact hc.elim
 ·exact hc.elim
def XK (os:Nat->sV) (j:Nat):List Value:=af [] (opL (os j))
def Sb (ty:BT) (n:Nat) (os:Nat->sV) (pre post:List Value):VB:=⟨false,ty,[.rest pre,.fN 11 n (XK os),.rest post]⟩
theorem I6 (os:Nat->sV) (j:Nat):(XK os j).length=11:=rfl
def wT {G:Type}:gZ G:=λargs bl ch K=>match args with
 |[.ij i o n c x]=>n<=c/\K (.ij i o (aY 80 n) c x) bl ch
 |_=>False
theorem Sc (a:Option Addr) (n c:Nat) (X:V->Prop):jh prog [] 60 11 [.raw (.slice a n c)] X=((0<=(if(80:Int)<n then 80 else(n:Int))/\(if(80:Int)<n then 80 else(n:Int))<=(c:Int))/\X (.raw (.slice a (if(80:Int)<n then 80 else(n:Int)).toNat c))):=by kernel_rfl
theorem DZ {G:Type} [Bl G] {gl:Nat->Option Nat}:Sound (G:=G) prog gl 11 wT:=by
 intro args ids bl ch R ms w0 w K hg hl S hc;unfold wT at hc;split at hc
 ·rename_i i o n c x;obtain⟨hle,hK⟩:=hc;have ac9:aY 80 n<=n:=by unfold aY;omega
  have hm:(if(80:Int)<n then 80 else(n:Int))=((aY 80 n:Nat):Int):=y_ 80 n;have key:∀a:Option Addr,ak prog 11 (aq ids [.raw (.slice a n c)]).toArray w λv w'=>v=den ids (.raw (.slice a (aY 80 n) c))/\Ch [] w w':=λa=>
   oQ aW.nil 60 (by rw[Sc,hm,Int.toNat_natCast];exact⟨⟨by omega,by omega⟩,rfl⟩) rfl rfl ids w
  have e1:aq ids [.ij i o n c x]=aq ids [.raw (.slice (bif Nat.beq n 0 then x else some ⟨ids.getD i 0,o,none⟩) n c)]:=by simp only[aq,den]
  rw[e1];refine(key _).mono ?_;rintro v w' ⟨rfl,fP⟩;refine⟨.ij i o (aY 80 n) c x,[],bl,ch,?_,by simpa using hl,by simpa using S.quiet fP,hK⟩;simp only[List.append_nil,den];congr 1;have:Nat.beq (aY 80 n) 0=Nat.beq n 0:=by
   by_cases h:n=0
   ·subst h;rfl
   ·have h2:aY 80 n≠0:=by unfold aY;omega
    have b1:Nat.beq n 0=false:=by cases hb:Nat.beq n 0 with|false=>rfl|true=>exact absurd (Nat.eq_of_beq_eq_true hb) h
    have b2:Nat.beq (aY 80 n) 0=false:=by cases hb:Nat.beq (aY 80 n) 0 with|false=>rfl|true=>exact absurd (Nat.eq_of_beq_eq_true hb) h2
    rw[b1,b2]
  rw[this]
 ·exact hc.elim
theorem D0 {G:Type}:dU (wT (G:=G)):=by
 intro args bl ch K hc;unfold wT at hc⊢;split at hc
 ·exact⟨hc.1,hc.2,[],by simp⟩
 ·exact hc.elim
def siC:gZ (LG fr):=λargs bl ch K=>match args,ch with
 |[.ptr ic 0],.dC u::.core g fB::rest=>(match bl[ic]?with
  |some ⟨true,⟨97,(0,0)⟩,cc⟩=>(match yl cc with
   |some x=>(match bl[x.it]?with
    |some ⟨true,⟨143,(0,0)⟩,tc⟩=>(match vP tc with
     |some y=>cond (dE bl.length bl&&(Nat.blt 1 ic&&(Nat.blt 1 x.it&&!(Nat.beq ic x.it))))
      ((bl[0]?=some (aF g.d.k)/\bl[1]?=some (iq g.d.k)/\x=CX g.d.k x.it (ot x y g.d g.dx g.sx)/\y.b=x.p.bR/\y.m=x.p.bz/\x.p.queue=g.d.k.most)/\
        ∀(z:Option Addr) (c ty:Nat) (us:List Value),K (rv bl.length (.agg (oA (ot x y g.d g.dx g.sx) (.ij 0 0 g.d.q.length c z)))) (bl++[GI ty 1 g.d.q.length (xG g.d.q) us]) (.dC u::.core g fB::rest)) False
     |none=>False)
    |_=>False)
   |none=>False)
  |_=>False)
 |_,_=>False
theorem D4 {bl:List VB} {i:Nat} {b:VB} (h:bl[i]?=some b):bl.set i b=bl:=by
 apply List.ext_getElem?;intro j;rw[List.getElem?_set];split
 ·rename_i hj;subst hj;rw[h];simp[ck h]
 ·rfl
theorem G3 (ht:Body (fr:=fr) 130 bM):Sound prog gS 12 (siC (fr:=fr)):=by
 intro args ids bl ch R ms w0 w K hg hl S hc;have key:MF (λ_=>A7) args bl ch λv b c=>∃ex,b=bl++ex/\(∀Y,ag c Y=ag ch Y)/\K v (bl++ex) ch:=by
  unfold siC at hc;unfold MF;split at hc
  ·rename_i ic u g fB rest;split at hc
   ·rename_i cc Th;try simp only[Th]
    split at hc
    ·rename_i x hx;try simp only[hx]
     split at hc
     ·rename_i tc Y8;try simp only[Y8]
      split at hc
      ·rename_i y hy;try simp only[hy]
       cases hq:dE bl.length bl&&(Nat.blt 1 ic&&(Nat.blt 1 x.it&&!(Nat.beq ic x.it)))with
       |false=>rw[hq]at hc;exact hc.elim
       |true=>
        rw[hq]at hc;obtain⟨⟨e3,e4,e5,e6,e7,e8⟩,hK⟩:=hc;simp only[cG,Bool.true_and,cond_true];refine⟨⟨e3,e4,e5,e6,e7,e8⟩,λz c ty us=>?_⟩;have Bt:bl[ic]?=some (ee g.d.k x.it (ot x y g.d g.dx g.sx)):=by
         rw[Th,qN hx];congr 1;unfold ee;rw[<-e5]
        have zo:bl[x.it]?=some (gp (ot x y g.d g.dx g.sx)):=by
         rw[Y8,j7 hy];congr 1;unfold gp;have:y=VP (ot x y g.d g.dx g.sx):=by
          obtain⟨y1,y2,y3,y4,y5,y6,y7,y8⟩:=y;simp only at e6 e7;subst e6 e7;rfl
         rw[<-this]
        have hs:fS bl ic x.it g.d.k (ot x y g.d g.dx g.sx)=bl:=by
         unfold fS;rw[D4 Bt,D4 zo]
        exact⟨_,congrArg (·++_) hs,λY=>rfl,hK z c ty us⟩
      ·exact hc.elim
     ·exact hc.elim
    ·exact hc.elim
   ·exact hc.elim
  ·exact hc.elim
 refine(DG (wN ht) args ids bl ch R ms w0 w _ hg hl S key).mono ?_;rintro v w' ⟨x,more,bl',ch',hv,h1,S',ex,rfl,hn,hK⟩;exact⟨x,more,_,ch,hv,h1,by rw[hn]at S';exact S',hK⟩
theorem G4:dU (siC (fr:=fr)):=by
 intro args bl ch K hc;unfold siC at hc⊢;split at hc
 ·split at hc
  ·split at hc
   ·split at hc
    ·split at hc
     ·rename_i y hy;revert hc;cases dE bl.length bl&&_ with
      |false=>exact λh=>h.elim
      |true=>exact λhc=>⟨hc.1,λz c ty us=>⟨hc.2 z c ty us,_,rfl⟩⟩
     ·exact hc.elim
    ·exact hc.elim
   ·exact hc.elim
  ·exact hc.elim
 ·exact hc.elim
def ahr (fr:Sd.Reply->Nat×Sd.Byt) (C:Sd.Crypt):List (dF (LG fr)):=[⟨8,false,shC⟩,⟨9,false,Xx⟩,⟨10,false,XE⟩,⟨11,true,wT⟩,⟨12,true,siC⟩,⟨17,false,MF λ_=>Ru⟩,⟨13,false,MF (GM C)⟩,⟨15,false,MF λ_=>A4 C⟩,⟨18,true,DV⟩]
theorem XL (ht:Body (fr:=fr) 130 bM):ah prog gS (ahr fr (aj b_)):=
 have n:∀{c:gZ (LG fr)},(false=true->dU c):=λe=>by cases e
 ah.cons ⟨Ma ht,n⟩ (ah.cons ⟨yE,n⟩ (ah.cons ⟨wR,n⟩ (ah.cons ⟨DZ,λ_=>D0⟩ (ah.cons ⟨G3 ht,λ_=>G4⟩ (ah.cons (pD (LS ht)) (ah.cons (pD (LX ht)) (ah.cons (pD (wM ht)) (ah.cons ⟨G0,λ_=>G2⟩ ah.nil))))))))
structure G5 (fr:Sd.Reply->Nat×Sd.Byt) (tg tc:TypeId) (u:World) (x:kY) (n:Nat) where
 p:Nat->Int
 m:Nat->Nat
 d:Nat->Nat
 hM:Made x p m
 p2:Sd.Pol
 k:LK
 hN:GW (jT 4 p m d) (DS x u) tg tc p2 k
 j:Nat
 hj:j<=n
 s:Sd.Scene
 F:cw fr (bV k s)
 fB:List ax
 hC:ba k s
 hp:s.c.p=p2
 v1:cF=F.vs
 v2:cF=F.vr
def preB (tg tc:TypeId) (ops pb:VB) (ky:List VB) (rB:VB):List VB:=iW tg::pF tc::ops::pb::(ky++[rB])
def aj0 (x:kY) (u:World) (n d:Nat->Nat):List VB:=[dD (n 0) (d 0) (yD (x.kn 0) (de u (x.ka 0))),dD (n 1) (d 1) (yD (x.kn 1) (de u (x.ka 1))),dD (n 2) (d 2) (yD (x.kn 2) (de u (x.ka 2))),dD (n 3) (d 3) (yD (x.kn 3) (de u (x.ka 3)))]
def aj1 (x:kY) (f:Nat->Nat×Sd.Byt):VB:=⟨true,⟨28,(0,0)⟩,[.jN ⟨x.q,f⟩ x.ka x.kn x.kc]⟩
section
variable(C:Sd.Crypt) (tg tc:TypeId) (ty:BT) (u:World) (x:kY) (f:Nat->Nat×Sd.Byt) (o n c:Nat) (a:Option Addr) (os:Nat->sV) (pre post:List Value)
def lwB (p:Nat->Int) (m d:Nat->Nat) (k:LK) (s:Sd.Scene):List VB:=preB tg tc (Sb ty n os pre post) (aj1 x f) (aj0 x u m d) ⟨true,⟨28,(0,0)⟩,jT 4 p m d⟩++[ee k 10 s,gp s]
def rjV (y:G5 fr tg tc u x (aY 80 n)):List V:=[.ptr 9 0,.ij 2 o (aY 80 n) c a,.int .i64 y.j]
def adx (y:G5 fr tg tc u x (aY 80 n)):List VB:=lwB tg tc ty u x f n os pre post y.p y.m y.d y.k y.s
def ady (y:G5 fr tg tc u x (aY 80 n)):List (LG fr):=[.dC u,.core (cx y.k y.s y.F) y.fB]
end
section
variable(C:Sd.Crypt) (tg tc:TypeId) (ty:BT) (u:World) (x:kY) (f:Nat->Nat×Sd.Byt) (o n c:Nat) (a:Option Addr) (os:Nat->sV) (pre post:List Value) (K:V->Prop)
def D5 (j N:Nat):Prop:=0<=(j:Int)/\(j:Int)<(N:Int)
def Zy (j:Nat):Prop:=o=pre.length/\(j:Int).toNat<n/\∀i,(XK os i).length=11
def CoA (k:LK) (s:Sd.Scene) (F:cw fr (bV k s)):Prop:=ba k (dg s)/\cF=F.vs/\cF=F.vr
def aj2 {k:LK} (sv:Sd.Scene) (X:(s':Sd.Scene)->TR->List ax->cw fr (bV k (ji s'))->Prop):Prop:=∀s',s'=sv->∀(r:TR) (fn:List ax) (F0:cw fr (bV k (ji s'))),cF=F0.vs->cF=F0.vr->LR fr s'.sent r.fv fn->X s' r fn F0
def Se (Q:(p:Nat->Int)->(m d:Nat->Nat)->Made x p m->(p2:Sd.Pol)->(k:LK)->(F:cw fr (bV k (iz p2)))->GW (jT 4 p m d) (DS x u) tg tc p2 k->cF=F.vs->cF=F.vr->Prop):Prop:=
 (false=false/\(iW tg).c=(iW tg).c/\false=false/\(pF tc).c=(pF tc).c)/\rdA x u/\∀(p:Nat->Int) (m d:Nat->Nat) (hM:Made x p m),
  yG (jT 4 p m d) (n4 m)/\∀(p2:Sd.Pol) (k:LK) (F:cw fr (bV k (iz p2))) (hN:GW (jT 4 p m d) (DS x u) tg tc p2 k) (v1:cF=F.vs) (v2:cF=F.vr),n<=c/\Q p m d hM p2 k F hN v1 v2
end
end Go.Proofs.YtlkpikfddnjilaaGreatDoor
namespace Go.Proofs.YtlkpikfddnjilaaGreatDoor
open Go Go.RowKit Go.BigFrame Sx Vx
variable{fr:Sd.Reply->Nat×Sd.Byt}
section
variable{tg tc:TypeId} {ty:BT} {u:World} {x:kY} {f:Nat->Nat×Sd.Byt} {o n c:Nat} {a:Option Addr} {os:Nat->sV} {pre post:List Value} {K:V->Prop}
theorem G5.R7 (y:G5 fr tg tc u x n) {s:Sd.Scene} (h:s.c.p=y.p2):R6 tg tc 10 y.k s:=Go.Proofs.YtlkpikfddnjilaaGreatDoor.R7 y.hN.tg y.hN.tc (by rw[h];exact y.hN.most.symm)
theorem XM {Q:(p:Nat->Int)->(m d:Nat->Nat)->Made x p m->(p2:Sd.Pol)->(k:LK)->(F:cw fr (bV k (iz p2)))->GW (jT 4 p m d) (DS x u) tg tc p2 k->cF=F.vs->cF=F.vr->Prop} (hr:rdA x u) (hn:n<=c)
 (h:∀p m d hM p2 k F hN v1 v2,ba k (iz p2)->Q p m d hM p2 k F hN v1 v2):Se tg tc u x n c Q:=by
 refine⟨⟨rfl,rfl,rfl,rfl⟩,hr,λp m d hM=>?_⟩;have hb:∀j,j<4->1<=m j/\m j<=64:=λj hj=>by rw[hM.n j];exact RF _
 obtain⟨h1,h2⟩:=R3 (m:=4) (d:=d) hM.I hM.o hb;have h1':yG (jT 4 p m d) (n4 m):=⟨h1.code,λj hj=>by
  rw[<-h1.n j hj]
  match j,hj with
  |0,_=>rfl
  |1,_=>rfl
  |2,_=>rfl
  |3,_=>rfl
  |j+4,h=>exact absurd h (by omega),h1.k⟩
 refine⟨h1',λp2 k F hN v1 v2=>⟨hn,h p m d hM p2 k F hN v1 v2 ?_⟩⟩;exact R4 hN (h2 _) (λj hj=>by rw[wS _ _ _ _ hj];exact hb j hj)
theorem coA {k:LK} {s:Sd.Scene} {F:cw fr (bV k s)} (h:ba k s) (v1:cF=F.vs) (v2:cF=F.vr):CoA k s F:=⟨by rw[sJ];exact h,v1,v2⟩
structure Sf (u:World) (os:Nat->sV) (n:Nat):Prop where
 rd:∀j,j<n->eA u (os j).x (os j).n (os j).c (de u (os j).x)
 x4:∀j,Sd.Eo (os j).s.x
 kd:∀j,j<n->0<=(os j).kind
theorem wU {j N:Nat} (h:j<N):D5 j N:=⟨by omega,by omega⟩
theorem I7 {j:Nat} (ho:o=pre.length) (h:j<n):Zy o n os pre j:=⟨ho,by omega,λi=>I6 os i⟩
theorem adz {k:LK} {s:Sd.Scene} (h:ba k s) (u:World) (o:sV):(kX (aj b_) u s o).c.p=s.c.p:=by
 unfold kX;split
 ·exact Rv (b:=False) (Sd.pz h.i)
 split
 ·exact Rv (b:=False) (Sd.pB h.i)
 split
 ·exact Rv (b:=False) (Sd.wF h.i).1
 ·unfold gP;split
  ·rename_i hl;exact Rv (b:=False) (Sd.vE iy h.i hl (λe=>e.elim))
  ·rfl
end
end Go.Proofs.YtlkpikfddnjilaaGreatDoor
namespace Go.Proofs.YtlkpikfddnjilaaGreatDoor
open Go Go.RowKit Go.BigFrame Sx Vx
def Be (w:Nat) (s:Int):List V:=(List.range w).map λj=>.int .u8 (ay w (u64.wrap s) j)
def fkX (n m c:Nat) (ac cells:List V) (X:Nat->List Value->Prop):Prop:=
 (n<=c/\eF ac=c*1)/\(∀(c':Nat) (u:List Value),n+m<=c'->eF (cells++[.rest u])=c'*1->X c' u)/\(∀(c':Nat) (u:List Value),n+m<=c'->eF (cells++[.rest u])=c'*1->X c' u)
def Mb (F:Prop) (E:Nat->Nat->List V->List Value->Prop):List (Int×Int×Int×Nat)->Nat->Nat->List V->List V->List Value->Prop
 |[],n,c,ac,cells,u=>E n c cells u
 |(s,lo,hi,w)::fs,n,c,ac,cells,u=>cond (decide (s<lo)) F (cond (decide (s>hi)) F (cond (Int.fdiv (u64.wrap s) (Int.ofNat (2^(8*w)))!=0) F
  (fkX n w c ac (cells++Be w s) λc' u'=>Mb F E fs (n+w) c' (cells++Be w s++[.rest u']) (cells++Be w s) u')))
def I8 (k a b c d e:Int) (nc:Nat->Int):V:=.agg [.int .i64 k,.int .i64 a,.int .i64 b,.int .i64 c,.int .i64 d,.int .i64 e,.dS .u8 8 nc]
def XN (x:V) (K:VK Empty):Prop:=cI (nz prog (λ_=>none) ([]:List (dF Empty)) (JS prog) ql) 60 165 [x] [] [] (du 0 K)
def XO (k:Int) (fs:List (Int×Int×Int×Nat)) (K:VK Empty):Prop:=Mb (K (.aC [.raw (.slice none 0 0),.int .i64 1]) [] []) (λn c cells u=>K (.aC [.sl 0 0 n c,.int .i64 0]) [⟨true,⟨5,(0,0)⟩,cells++[.rest u]⟩] []) fs 1 1 [.int .u8 k] [.int .u8 k] []
theorem ahs (s:Int) (K:VK Empty):XN (I8 131 s 0 0 0 0 λ_=>0) K=XO 131 [(s,0,4294967295,4)] K:=by kernel_rfl
theorem aht (a b c:Int) (K:VK Empty):XN (I8 130 0 a b c 0 λ_=>0) K=XO 130 [(a,0,3,1),(b,0,4,1),(c,0,65535,2)] K:=by kernel_rfl
theorem ahu (s c:Int) (K:VK Empty):XN (I8 132 s 0 0 0 c λ_=>0) K=XO 132 [(s,0,4294967295,4),(c,0,255,1)] K:=by kernel_rfl
theorem ahv (e:Int) (K:VK Empty):XN (I8 133 0 0 0 e 0 λ_=>0) K=XO 133 [(e,0,65535,2)] K:=by kernel_rfl
theorem ahw (w e:Int) (K:VK Empty):XN (I8 134 0 0 w e 0 λ_=>0) K=XO 134 [(w,0,4,1),(e,0,65535,2)] K:=by kernel_rfl
theorem ahx (w e:Int) (K:VK Empty):XN (I8 135 0 0 w e 0 λ_=>0) K=XO 135 [(w,0,4,1),(e,0,65535,2)] K:=by kernel_rfl
theorem ahy (w c:Int) (K:VK Empty):XN (I8 136 0 0 w 0 c λ_=>0) K=XO 136 [(w,0,4,1),(c,0,255,1)] K:=by kernel_rfl
theorem XP (a b:List V):eF (a++b)=eF a+eF b:=by
 induction a with
 |nil=>simp[eF]
 |cons v a ih=>simp only[List.cons_append,eF,ih];omega
theorem adA (w:Nat) (s:Int):eF (Be w s)=w:=by
 have h:∀l:List Nat,eF (l.map λj=>V.int .u8 (ay w (u64.wrap s) j))=l.length:=by
  intro l;induction l with
  |nil=>rfl
  |cons j l ih=>simp only[List.map_cons,eF,ih,List.length_cons];show 1+_=_;omega
 unfold Be;rw[h,List.length_range]
theorem I9 {F:Prop} {E:Nat->Nat->List V->List Value->Prop}:∀(fs:List (Int×Int×Int×Nat)) (n c:Nat) (ac cells:List V) (u:List Value),(∀f∈fs,f.2.1<=f.1/\f.1<=f.2.2.1/\0<=f.1/\f.1<18446744073709551616/\f.1<Int.ofNat (2^(8*f.2.2.2)))->n<=c->eF ac=c->n=eF cells->eF (cells++[.rest u])=c->
 (∀c' u',n+(fs.map λf=>f.2.2.2).sum<=c'->eF (cells++(fs.map λf=>Be f.2.2.2 f.1).flatten++[.rest u'])=c'->E (n+(fs.map λf=>f.2.2.2).sum) c' (cells++(fs.map λf=>Be f.2.2.2 f.1).flatten) u')->Mb F E fs n c ac cells u
 |[],n,c,ac,cells,u,_,h1,h2,h3,h4,hE=>by
  have:=hE c u (by simpa using h1) (by simpa using h4);simpa[Mb]using this
 |(s,lo,hi,w)::fs,n,c,ac,cells,u,hf,h1,h2,h3,h4,hE=>by
  obtain⟨f1,f2,f3,f5,f4⟩:=hf _ (List.mem_cons_self ..);simp only at f1 f2 f3 f4 f5;have step:∀(c':Nat) (u':List Value),n+w<=c'->eF (cells++Be w s++[.rest u'])=c'*1->Mb F E fs (n+w) c' (cells++Be w s++[.rest u']) (cells++Be w s) u':=by
   intro c' u' g1 g2;rw[Nat.mul_one]at g2;refine I9 fs (n+w) c' _ _ u' (λf hm=>hf f (List.mem_cons_of_mem _ hm)) g1 g2 ?_ g2 ?_
   ·rw[XP,adA,h3]
   ·intro c2 u2 g3 g4;have:=hE c2 u2 (by simpa[Nat.add_assoc]using g3) (by simpa[List.append_assoc]using g4);simpa[Nat.add_assoc,List.append_assoc]using this
  unfold Mb;refine aO (λh=>absurd (by simpa using h:s<lo) (by omega)) λ_=>aO (λh=>absurd (by simpa using h:hi<s) (by omega)) λ_=>aO (λh=>?_) λ_=>⟨⟨h1,by rw[h2,Nat.mul_one]⟩,step,step⟩;exfalso;have e:Int.fdiv (u64.wrap s) (Int.ofNat (2^(8*w)))=0:=by
   have hd:∀d:Int,0<=d->s<d->Int.fdiv s d=0:=λd h0 h=>by rw[Int.fdiv_eq_ediv_of_nonneg _ h0];exact Int.ediv_eq_zero_of_lt f3 h
   rw[IntKind.wrap_u64,Int.emod_eq_of_lt f3 (by omega)];exact hd _ (Int.natCast_nonneg _) f4
  rw[e]at h;simp at h
theorem adB {k:Int} {fs:List (Int×Int×Int×Nat)} {K:VK Empty} (hf:∀f∈fs,f.2.1<=f.1/\f.1<=f.2.2.1/\0<=f.1/\f.1<18446744073709551616/\f.1<Int.ofNat (2^(8*f.2.2.2)))
 (hK:∀c' u',1+(fs.map λf=>f.2.2.2).sum<=c'->eF ([.int .u8 k]++(fs.map λf=>Be f.2.2.2 f.1).flatten++[.rest u'])=c'->K (.aC [.sl 0 0 (1+(fs.map λf=>f.2.2.2).sum) c',.int .i64 0]) [⟨true,⟨5,(0,0)⟩,([.int .u8 k]++(fs.map λf=>Be f.2.2.2 f.1).flatten)++[.rest u']⟩] []):XO k fs K:=
 I9 fs 1 1 _ _ [] hf (Nat.le_refl _) rfl rfl rfl hK
theorem pG {x:V} {k:Int} {fs:List (Int×Int×Int×Nat)} {n:Nat} (e:∀K,XN x K=XO k fs K) (hf:∀f∈fs,f.2.1<=f.1/\f.1<=f.2.2.1/\0<=f.1/\f.1<18446744073709551616/\f.1<Int.ofNat (2^(8*f.2.2.2))) (hn:1+(fs.map λf=>f.2.2.2).sum=n) {g:Nat->Int}
 (hg:∀j,j<n->∀u:List Value,(af [] (([.int .u8 k]++(fs.map λf=>Be f.2.2.2 f.1).flatten)++[.rest u]))[j]?=some (.int .u8 (g j))) (hw:cG 0 (([.int .u8 k]++(fs.map λf=>Be f.2.2.2 f.1).flatten))=true) (w:World):
 ak prog 165 (aq [] [x]).toArray w λv w1=>∃b c1,v=.tuple #[.slice (some ⟨b,0,none⟩) n c1,.int .i64 0]/\n<=c1/\w.heap.size<=b/\fl w1 b 0 n g/\Ch [] w w1:=by
 have h:XN x λv b _=>∃c u,v=.aC [.sl 0 0 n c,.int .i64 0]/\b=[⟨true,⟨5,(0,0)⟩,([.int .u8 k]++(fs.map λf=>Be f.2.2.2 f.1).flatten)++[.rest u]⟩]/\n<=c:=by
  rw[e];exact adB hf λc u h1 h2=>⟨c,u,by rw[hn],rfl,by omega⟩
 refine(bw (ah.nil (G:=Empty) (P:=prog) (gl:=λ_=>none)).T (ah.nil (G:=Empty) (P:=prog) (gl:=λ_=>none)).Q 60 (C:=nz prog (λ_=>none) ([]:List (dF Empty)) (JS prog) ql) (ids:=[]) (bl:=[]) (ch:=[]) (R:=[]) Gl.none rfl (St.nil [] w) h).mono ?_;rintro v w' ⟨y,more,bl',ch',rfl,h1,S',hK⟩;obtain⟨v2,aS,bl2,e2,gH,S2,c,u,rfl,rfl,hc⟩:=dr (n0:=0) h1 (by simp) S' hK
 match aS,gH,S2,e2 with
 |[b],_,S2,e2=>
  have S3:St [] w ([aL [b] b ⟨true,⟨5,(0,0)⟩,([.int .u8 k]++(fs.map λf=>Be f.2.2.2 f.1).flatten)++[.rest u]⟩]) w':=match ch',S2 with
   |[],S2=>S2
   |e::_,_=>nomatch e
  refine⟨b,c,e2,hc,(S3.own 0 _ rfl rfl).resolve_left (by simp),?_,S3.ch⟩;intro j hj;have bD:w'.heap[b]?=some (.cells (af [b] (([.int .u8 k]++(fs.map λf=>Be f.2.2.2 f.1).flatten)++[.rest u])).toArray 5 (0,0)):=S3.at_ 0 _ rfl;have hd:=hg j hj u;have e3:af [b] (([.int .u8 k]++(fs.map λf=>Be f.2.2.2 f.1).flatten)++[.rest u])=af [] (([.int .u8 k]++(fs.map λf=>Be f.2.2.2 f.1).flatten)++[.rest u]):=by
   have gen:∀L:List V,cG 0 L=true->af [b] (L++[.rest u])=af [] (L++[.rest u]):=λL hL=>by
    rw[bj,bj];have q:=bY (ids:=[]) (more:=[b]) L hL;simp only[List.nil_append]at q;rw[q];rfl
   exact gen _ hw
  rw[Nat.zero_add,cell_of bD,e3];simpa using hd
 |[],h,_,_=>simp at h
 |_::_::_,h,_,_=>simp at h
theorem ahz (wh co:Int) (G6:0<=wh/\wh<=4) (hco:0<=co/\co<=255) (w:World):ak prog 165 (aq [] [I8 136 0 0 wh 0 co λ_=>0]).toArray w λv w1=>∃b c1,v=.tuple #[.slice (some ⟨b,0,none⟩) 3 c1,.int .i64 0]/\3<=c1/\w.heap.size<=b/\fl w1 b 0 3 (rN [136,ay 1 (u64.wrap wh) 0,ay 1 (u64.wrap co) 0])/\Ch [] w w1:=
 pG (n:=3) (λK=>ahy wh co K) (λf hm=>by
  rcases List.mem_cons.1 hm with rfl|hm
  ·exact⟨G6.1,G6.2,G6.1,by omega,by show wh<256;omega⟩
  rcases List.mem_cons.1 hm with rfl|hm
  ·exact⟨hco.1,hco.2,hco.1,by omega,by show co<256;omega⟩
  cases hm) rfl (λj hj u=>by
  rcases(by omega:j=0\/j=1\/j=2)with rfl|rfl|rfl<;>rfl) rfl w
theorem ahA (sq:Int) (hsq:0<=sq/\sq<=4294967295) (w:World):ak prog 165 (aq [] [I8 131 sq 0 0 0 0 λ_=>0]).toArray w λv w1=>∃b c1,v=.tuple #[.slice (some ⟨b,0,none⟩) 5 c1,.int .i64 0]/\5<=c1/\w.heap.size<=b/\fl w1 b 0 5 (rN [131,ay 4 (u64.wrap sq) 0,ay 4 (u64.wrap sq) 1,ay 4 (u64.wrap sq) 2,ay 4 (u64.wrap sq) 3])/\Ch [] w w1:=
 pG (n:=5) (λK=>ahs sq K) (λf hm=>by
  rcases List.mem_cons.1 hm with rfl|hm
  ·exact⟨hsq.1,hsq.2,hsq.1,by omega,by show sq<4294967296;omega⟩
  cases hm) rfl (λj hj u=>by
  rcases(by omega:j=0\/j=1\/j=2\/j=3\/j=4)with rfl|rfl|rfl|rfl|rfl<;>rfl) rfl w
theorem ahB (ro wh ep:Int) (hro:0<=ro/\ro<=3) (G6:0<=wh/\wh<=4) (G7:0<=ep/\ep<=65535) (w:World):ak prog 165 (aq [] [I8 130 0 ro wh ep 0 λ_=>0]).toArray w λv w1=>∃b c1,v=.tuple #[.slice (some ⟨b,0,none⟩) 5 c1,.int .i64 0]/\5<=c1/\w.heap.size<=b/\fl w1 b 0 5 (rN [130,ay 1 (u64.wrap ro) 0,ay 1 (u64.wrap wh) 0,ay 2 (u64.wrap ep) 0,ay 2 (u64.wrap ep) 1])/\Ch [] w w1:=
 pG (n:=5) (λK=>aht ro wh ep K) (λf hm=>by
  rcases List.mem_cons.1 hm with rfl|hm
  ·exact⟨hro.1,hro.2,hro.1,by omega,by show ro<256;omega⟩
  rcases List.mem_cons.1 hm with rfl|hm
  ·exact⟨G6.1,G6.2,G6.1,by omega,by show wh<256;omega⟩
  rcases List.mem_cons.1 hm with rfl|hm
  ·exact⟨G7.1,G7.2,G7.1,by omega,by show ep<65536;omega⟩
  cases hm) rfl (λj hj u=>by
  rcases(by omega:j=0\/j=1\/j=2\/j=3\/j=4)with rfl|rfl|rfl|rfl|rfl<;>rfl) rfl w
theorem ahC (sq co:Int) (hsq:0<=sq/\sq<=4294967295) (hco:0<=co/\co<=255) (w:World):ak prog 165 (aq [] [I8 132 sq 0 0 0 co λ_=>0]).toArray w λv w1=>∃b c1,v=.tuple #[.slice (some ⟨b,0,none⟩) 6 c1,.int .i64 0]/\6<=c1/\w.heap.size<=b/\fl w1 b 0 6 (rN [132,ay 4 (u64.wrap sq) 0,ay 4 (u64.wrap sq) 1,ay 4 (u64.wrap sq) 2,ay 4 (u64.wrap sq) 3,ay 1 (u64.wrap co) 0])/\Ch [] w w1:=
 pG (n:=6) (λK=>ahu sq co K) (λf hm=>by
  rcases List.mem_cons.1 hm with rfl|hm
  ·exact⟨hsq.1,hsq.2,hsq.1,by omega,by show sq<4294967296;omega⟩
  rcases List.mem_cons.1 hm with rfl|hm
  ·exact⟨hco.1,hco.2,hco.1,by omega,by show co<256;omega⟩
  cases hm) rfl (λj hj u=>by
  rcases(by omega:j=0\/j=1\/j=2\/j=3\/j=4\/j=5)with rfl|rfl|rfl|rfl|rfl|rfl<;>rfl) rfl w
theorem ahD (ep:Int) (G7:0<=ep/\ep<=65535) (w:World):ak prog 165 (aq [] [I8 133 0 0 0 ep 0 λ_=>0]).toArray w λv w1=>∃b c1,v=.tuple #[.slice (some ⟨b,0,none⟩) 3 c1,.int .i64 0]/\3<=c1/\w.heap.size<=b/\fl w1 b 0 3 (rN [133,ay 2 (u64.wrap ep) 0,ay 2 (u64.wrap ep) 1])/\Ch [] w w1:=
 pG (n:=3) (λK=>ahv ep K) (λf hm=>by
  rcases List.mem_cons.1 hm with rfl|hm
  ·exact⟨G7.1,G7.2,G7.1,by omega,by show ep<65536;omega⟩
  cases hm) rfl (λj hj u=>by
  rcases(by omega:j=0\/j=1\/j=2)with rfl|rfl|rfl<;>rfl) rfl w
theorem ahE (wh ep:Int) (G6:0<=wh/\wh<=4) (G7:0<=ep/\ep<=65535) (w:World):ak prog 165 (aq [] [I8 134 0 0 wh ep 0 λ_=>0]).toArray w λv w1=>∃b c1,v=.tuple #[.slice (some ⟨b,0,none⟩) 4 c1,.int .i64 0]/\4<=c1/\w.heap.size<=b/\fl w1 b 0 4 (rN [134,ay 1 (u64.wrap wh) 0,ay 2 (u64.wrap ep) 0,ay 2 (u64.wrap ep) 1])/\Ch [] w w1:=
 pG (n:=4) (λK=>ahw wh ep K) (λf hm=>by
  rcases List.mem_cons.1 hm with rfl|hm
  ·exact⟨G6.1,G6.2,G6.1,by omega,by show wh<256;omega⟩
  rcases List.mem_cons.1 hm with rfl|hm
  ·exact⟨G7.1,G7.2,G7.1,by omega,by show ep<65536;omega⟩
  cases hm) rfl (λj hj u=>by
  rcases(by omega:j=0\/j=1\/j=2\/j=3)with rfl|rfl|rfl|rfl<;>rfl) rfl w
theorem ahF (wh ep:Int) (G6:0<=wh/\wh<=4) (G7:0<=ep/\ep<=65535) (w:World):ak prog 165 (aq [] [I8 135 0 0 wh ep 0 λ_=>0]).toArray w λv w1=>∃b c1,v=.tuple #[.slice (some ⟨b,0,none⟩) 4 c1,.int .i64 0]/\4<=c1/\w.heap.size<=b/\fl w1 b 0 4 (rN [135,ay 1 (u64.wrap wh) 0,ay 2 (u64.wrap ep) 0,ay 2 (u64.wrap ep) 1])/\Ch [] w w1:=
 pG (n:=4) (λK=>ahx wh ep K) (λf hm=>by
  rcases List.mem_cons.1 hm with rfl|hm
  ·exact⟨G6.1,G6.2,G6.1,by omega,by show wh<256;omega⟩
  rcases List.mem_cons.1 hm with rfl|hm
  ·exact⟨G7.1,G7.2,G7.1,by omega,by show ep<65536;omega⟩
  cases hm) rfl (λj hj u=>by
  rcases(by omega:j=0\/j=1\/j=2\/j=3)with rfl|rfl|rfl|rfl<;>rfl) rfl w
end Go.Proofs.YtlkpikfddnjilaaGreatDoor
