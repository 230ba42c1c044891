/- Part 23 of the proof. -/
import Derived.Test.YtggfpcggakghnaaGreatDoorRows
import Derived.ProofKit
import Derived.OpenShut
import Derived.FnData
import Derived.MakeChecks
import Derived.Stop.Joined
import Derived.WalkKit
import Derived.Below
import Derived.BigQuiet
import Derived.WalkSpells
import Derived.Lib.Hide
import Derived.Laws.CopyOwn
import Derived.Carry
import Derived.ChangeArms
import Derived.Deep.Slices
import Derived.Test.YtggfpcggakghnaaGreatDoorQ22
set_option linter.all false
set_option maxRecDepth 100000
set_option maxHeartbeats 4000000
open Go.Proofs.Tryz
open Go.IntKind (u8 u16 u32 u64 i64)
namespace Go.Proofs.YtggfpcggakghnaaGreatDoor
open Go Go.RowKit Go.BigFrame Sx Vx
variable{fr:Sd.Reply->Nat×Sd.Byt}
theorem Ci (n:Nat):∀(l:List V) (i:Nat),nth (Kx n l) i=qf n (nth l i)
 |[],_=>rfl
 |_::_,0=>rfl
 |_::l,i+1=>Ci n l i
theorem Cj {α:Type} (f:α->V):∀(l:List α) (i:Nat) (a:α),l[i]?=some a->nth (l.map f) i=f a
 |[],_,_,h=>by simp at h
 |x::l,0,a,h=>by simp at h;subst h;rfl
 |x::l,i+1,a,h=>Cj f l i a (by simpa using h)
section
variable(n:Nat) (p:Nat->Int) (kn d:Nat->Nat)
abbrev kg:List V:=Kx n (T6 p kn d)
theorem Ck {i:Nat} (hi:i<56) (hk:iZ i=false):iN (nth (kg n p kn d) i)=p i:=by
 unfold kg;rw[Ci,T6,Cj _ _ i i (by rw[List.getElem?_range hi]),hk];rfl
theorem Um {j:Nat} (hj:j<4):nth (kg n p kn d) (j+5)=.sl (j+n) 0 (kn j) (kn j+d j):=by
 unfold kg;rw[Ci,T6,Cj _ _ (j+5) (j+5) (by rw[List.getElem?_range (by omega)])];have hk:iZ (j+5)=true:=by
  match j,hj with
  |0,_=>rfl
  |1,_=>rfl
  |2,_=>rfl
  |3,_=>rfl
  |j+4,h=>exact absurd h (by omega)
 rw[hk,Nat.add_sub_cancel];rfl
theorem nH {j:Nat} (hj:j<4):uU (kg n p kn d) j=kn j:=by unfold uU;rw[Um _ _ _ _ hj];rfl
theorem Un {j:Nat} (hj:j<4):Kp (kg n p kn d) j=kn j+d j:=by unfold Kp;rw[Um _ _ _ _ hj];rfl
end
theorem aju (x:Int):0<=bits .and .i64 x 15/\bits .and .i64 x 15<=15:=by
 have:=fl .i64 x 15 16 4 (by decide) (by decide) (by decide);omega
theorem ajv (x:Int):0<=bits .and .i64 x 31/\bits .and .i64 x 31<=31:=by
 have:=fl .i64 x 31 32 5 (by decide) (by decide) (by decide);omega
theorem Uo (x:Int):0<=bits .and .i64 x 65535/\bits .and .i64 x 65535<=65535:=by
 have:=fl .i64 x 65535 65536 16 (by decide) (by decide) (by decide);omega
theorem Up (x:Int):pN (bits .and .i64 x 14)=true:=by
 rw[aiV];simp only[pN,wU,Bool.and_eq_true,decide_eq_true_eq,beq_iff_eq];omega
theorem one_mod (a:Int) {m:Int} (h:0<m) (h2:m<=1000000):i64.wrap (1+cW a m)=1+cW a m:=by
 have:=oq a h h2;exact fG (by omega)
theorem Il.perm {q:Nat->Int} {o1 o2 o3:Int} (h:Il q o1 o2 o3):(o1=1/\o2=2/\o3=3)\/(o1=1/\o2=3/\o3=2)\/(o1=2/\o2=1/\o3=3)\/(o1=2/\o2=3/\o3=1)\/(o1=3/\o2=1/\o3=2)\/(o1=3/\o2=2/\o3=1):=by
 rcases h with⟨_,⟨_,a,b,c⟩|⟨_,a,b,c⟩⟩|⟨_,⟨_,a,b,c⟩|⟨_,a,b,c⟩⟩|⟨_,⟨_,a,b,c⟩|⟨_,a,b,c⟩⟩<;>subst a b c<;>simp
theorem Uq {q:Nat->Int} {kn:Nat->Nat} (hp:(q 1=1/\q 2=2/\q 3=3)\/(q 1=1/\q 2=3/\q 3=2)\/(q 1=2/\q 2=1/\q 3=3)\/(q 1=2/\q 2=3/\q 3=1)\/(q 1=3/\q 2=1/\q 3=2)\/(q 1=3/\q 2=2/\q 3=1))
 (h0:q 0=0/\q 4=4/\q 9=1/\q 13=0/\q 50=0) (hk:∀j,j<4->1<=kn j/\kn j<=64) (hr:pN (q 10)=true/\pN (q 11)=true/\pN (q 12)=true) (ht:∀i,14<=i->i<=33->0<=q i/\q i<=15) (hg:∀i,34<=i->i<=38->0<=q i/\q i<=31)
 (hm:∀i,39<=i->i<=41->0<=q i/\q i<=4) (hs:∀i,42<=i->i<=46->1<=q i/\q i<=1000) (hb:0<=q 47/\q 47<=1000) (hq:∀i,48<=i->i<=49->1<=q i/\q i<=3) (hl:∀i,51<=i->i<=53->0<=q i/\q i<=1000) (ha:1<=q 54/\q 54<=1000) (he:0<=q 55/\q 55<=65535):
 ee q kn=0/\∀ks,Sd.cK ⟨q,ks⟩:=by
 obtain⟨z0,z4,z9,z13,z50⟩:=h0;have V8:∀{lo hi n:Int},lo<=n/\n<=hi->wU lo hi n=true:=λh=>by simp[wU,h.1,h.2]
 have amq:RD q=true:=by
  rcases hp with⟨a,b,c⟩|⟨a,b,c⟩|⟨a,b,c⟩|⟨a,b,c⟩|⟨a,b,c⟩|⟨a,b,c⟩<;>simp[RD,tH,z0,z4,a,b,c]
 have Er:(uv kn&&wV (kn 3))=true:=by
  have:=hk 0 (by decide);have:=hk 1 (by decide);have:=hk 2 (by decide);have:=hk 3 (by decide)
  simp only[uv,wV,Bool.and_eq_true,decide_eq_true_eq];omega
 have amr:(q 9==1&&(q 13==0&&pO q))=true:=by simp[pO,z9,z13,hr]
 have ams:RE q=true:=by
  simp only[RE,allI,Bool.and_eq_true];refine⟨?_,?_,?_,?_,?_⟩<;>refine⟨?_,?_,?_,?_,trivial⟩<;>exact V8 (ht _ (by decide) (by decide))
 have hgr:allI 0 31 [q 34,q 35,q 36,q 37,q 38]=true:=by
  simp only[allI,Bool.and_eq_true];refine⟨?_,?_,?_,?_,?_,trivial⟩<;>exact V8 (hg _ (by decide) (by decide))
 have hmo:allI 0 4 [q 39,q 40,q 41]=true:=by
  simp only[allI,Bool.and_eq_true];refine⟨?_,?_,?_,trivial⟩<;>exact V8 (hm _ (by decide) (by decide))
 have hti:allI 1 1000 [q 42,q 43,q 44,q 45]=true:=by
  simp only[allI,Bool.and_eq_true];refine⟨?_,?_,?_,?_,trivial⟩<;>exact V8 (hs _ (by decide) (by decide))
 have mK:(wU 1 1000 (q 46)&&wU 0 1000 (q 47))=true:=by rw[V8 (hs 46 (by decide) (by decide)),V8 hb];rfl
 have hro:allI 1 3 [q 48,q 49]=true:=by
  simp only[allI,Bool.and_eq_true];refine⟨?_,?_,trivial⟩<;>exact V8 (hq _ (by decide) (by decide))
 have hli:(q 50==0&&(allI 0 1000 [q 51,q 52,q 53]&&wU 1 1000 (q 54)))=true:=by
  rw[z50,V8 ha];simp only[allI,Bool.and_eq_true];refine⟨by decide,⟨?_,?_,?_,trivial⟩,trivial⟩<;>exact V8 (hl _ (by decide) (by decide))
 refine⟨?_,λks=>?_⟩
 ·unfold ee;rw[amq,Er,amr,ams,hgr,hmo,hti,mK,hro,hli,V8 he];rfl
 ·refine⟨z0,z4,hp,hm 39 (by decide) (by decide),hm 40 (by decide) (by decide),hm 41 (by decide) (by decide),hs 42 (by decide) (by decide),hs 43 (by decide) (by decide),hs 44 (by decide) (by decide),hs 45 (by decide) (by decide),hs 46 (by decide) (by decide),hb,hq 48 (by decide) (by decide),hq 49 (by decide) (by decide),?_,ha,he⟩;intro c hc;show 0<=q (50+c)/\q (50+c)<=1000
  match c,hc with
  |0,_=>rw[z50];decide
  |1,_=>exact hl 51 (by decide) (by decide)
  |2,_=>exact hl 52 (by decide) (by decide)
  |3,_=>exact hl 53 (by decide) (by decide)
  |c+4,h=>exact absurd h (by omega)
structure Im (p:Nat->Int) (o1 o2 o3:Int) (q:Nat->Int):Prop where
 lo:∀i,i<=4\/(9<=i/\i<=41)\/(47<=i/\i<=55)->p i=pV o1 o2 o3 q i
 ti:∀i,42<=i->i<=46->1<=p i/\p i<=1000
theorem Z4 {o1 o2 o3:Int} {q:Nat->Int} {i:Nat} (h1:42<=i) (h2:i<=46):1<=pV o1 o2 o3 q i/\pV o1 o2 o3 q i<=1000:=by
 have:pV o1 o2 o3 q i=i64.wrap (1+cW (q i) 1000):=by
  have:i=42\/i=43\/i=44\/i=45\/i=46:=by omega
  rcases this with rfl|rfl|rfl|rfl|rfl<;>rfl
 rw[this,one_mod _ (by decide) (by decide)];have:=oq (q i) (m:=1000) (by decide) (by decide);omega
theorem Im.ok {p:Nat->Int} {o1 o2 o3:Int} {q:Nat->Int} (h:Im p o1 o2 o3 q) (ho:Il q o1 o2 o3) {kn:Nat->Nat} (hk:∀j,j<4->1<=kn j/\kn j<=64):ee p kn=0/\∀ks,Sd.cK ⟨p,ks⟩:=by
 have g:=λi hi=>h.lo i hi;have md:=λ(i:Nat) (m:Int) (h1:0<m) (h2:m<=1000000)=>oq (q i) h1 h2;refine Uq ?_ ⟨g 0 (by decide),g 4 (by decide),g 9 (by decide),g 13 (by decide),g 50 (by decide)⟩ hk ⟨?_,?_,?_⟩ ?_ ?_ ?_ h.ti ?_ ?_ ?_ ?_ ?_
 ·rw[g 1 (by decide),g 2 (by decide),g 3 (by decide)];exact ho.perm
 ·rw[g 10 (by decide)];exact Up _
 ·rw[g 11 (by decide)];exact Up _
 ·rw[g 12 (by decide)];exact Up _
 ·intro i h1 h2;rw[g i (by omega)];have:pV o1 o2 o3 q i=bits .and .i64 (q i) 15:=by
   unfold pV;have e1:Nat.ble i 13=false:=by cases hb:Nat.ble i 13 with|false=>rfl|true=>exact absurd (Nat.le_of_ble_eq_true hb) (by omega)
   have e2:Nat.ble i 33=true:=Nat.ble_eq_true_of_le h2;rw[e1,e2];rfl
  rw[this];exact aju _
 ·intro i h1 h2;rw[g i (by omega)];have:pV o1 o2 o3 q i=bits .and .i64 (q i) 31:=by
   have:i=34\/i=35\/i=36\/i=37\/i=38:=by omega
   rcases this with rfl|rfl|rfl|rfl|rfl<;>rfl
  rw[this];exact ajv _
 ·intro i h1 h2;rw[g i (by omega)];have:pV o1 o2 o3 q i=cW (q i) 5:=by
   have:i=39\/i=40\/i=41:=by omega
   rcases this with rfl|rfl|rfl<;>rfl
  rw[this];have:=md i 5 (by decide) (by decide);omega
 ·rw[g 47 (by decide)];have:=md 47 1001 (by decide) (by decide);show 0<=cW (q 47) 1001/\cW (q 47) 1001<=1000;omega
 ·intro i h1 h2;rw[g i (by omega)];have:pV o1 o2 o3 q i=i64.wrap (1+cW (q i) 3):=by
   have:i=48\/i=49:=by omega
   rcases this with rfl|rfl<;>rfl
  rw[this,one_mod _ (by decide) (by decide)];have:=md i 3 (by decide) (by decide);omega
 ·intro i h1 h2;rw[g i (by omega)];have:pV o1 o2 o3 q i=cW (q i) 1001:=by
   have:i=51\/i=52\/i=53:=by omega
   rcases this with rfl|rfl|rfl<;>rfl
  rw[this];have:=md i 1001 (by decide) (by decide);omega
 ·rw[g 54 (by decide)];show 1<=i64.wrap (1+cW (q 54) 1000)/\i64.wrap (1+cW (q 54) 1000)<=1000;rw[one_mod _ (by decide) (by decide)];have:=md 54 1000 (by decide) (by decide);omega
 ·rw[g 55 (by decide)];exact Uo _
theorem j5 {i:Nat} (h:i<5\/8<i):iZ i=false:=by
 unfold iZ;cases h1:Nat.ble 5 i with
 |false=>rfl
 |true=>
  cases h2:Nat.ble i 8 with
  |false=>rfl
  |true=>have:=Nat.le_of_ble_eq_true h1;have:=Nat.le_of_ble_eq_true h2;omega
theorem Made.I {x:ij} {p:Nat->Int} {n:Nat->Nat} (h:Made x p n):Im p (p 1) (p 2) (p 3) x.q:=
 ⟨λi hi=>h.p i (by omega) (j5 (by omega)),λi h1 h2=>by rw[h.p i (by omega) (j5 (by omega))];exact Z4 h1 h2⟩
theorem Im.at {p p':Nat->Int} {o1 o2 o3:Int} {q:Nat->Int} (h:Im p o1 o2 o3 q) (e:∀i,i<56->iZ i=false->p' i=p i):Im p' o1 o2 o3 q:=
 ⟨λi hi=>by rw[e i (by omega) (j5 (by omega))];exact h.lo i hi,λi h1 h2=>by rw[e i (by omega) (j5 (by omega))];exact h.ti i h1 h2⟩
theorem afp {m:Nat} {p:Nat->Int} {n d:Nat->Nat} {o1 o2 o3:Int} {q:Nat->Int} (h:Im p o1 o2 o3 q) (ho:Il q o1 o2 o3) (hn:∀j,j<4->1<=n j/\n j<=64):EX (kg m p n d) n/\∀f,Sd.cK (nP (kg m p n d) f):=by
 have hb:∀j,j<4->1<=uU (kg m p n d) j/\uU (kg m p n d) j<=64:=λj hj=>by rw[nH _ _ _ _ hj];exact hn j hj
 have h1:=(h.at (p':=λi=>iN (nth (kg m p n d) i)) (λi h1 h2=>Ck m p n d h1 h2)).ok ho hb;refine⟨⟨h1.1,λj hj=>(nH _ _ _ _ hj).symm,λj hj=>⟨(hb j hj).2,?_⟩⟩,λf=>h1.2 _⟩;rw[nH _ _ _ _ hj,Un _ _ _ _ hj];omega
theorem Ur {l:List V} {f:Nat->Sd.Byt} {tg tc:Nat} {p:Sd.Pol} {k:LK} (hN:Uk l f tg tc p k) (h:Sd.cK (nP l f)) (hk:∀j,j<4->1<=uU l j/\uU l j<=64):bd k (ib p):=by
 obtain⟨rfl,h1,h2,h3,h4,h5,h6⟩:=hN;exact⟨Sd.Inv.new h,Sd.Ext.new,λi hi=>by rw[h1];exact hk i hi,λi hi=>by rw[h1,h2];rfl,rfl,rfl⟩
def f2 (a b:Int):Sd.Byt:=λj=>match j with|0=>a|_=>b
def Z5 (C:Sd.Crypt):gm (LG fr):=λargs bl ch K=>match args with
 |[.ptr ic 0,.int .i64 l,.agg [.int .i64 code,.sl ip 0 2 2]]=>(match bl[ip]?with
  |some ⟨true,⟨5,(0,0)⟩,[.int .u8 a,.int .u8 b]⟩=>coI C [.ptr ic 0,.int .i64 l,.agg [.int .i64 code,.sl ip 0 2 2]] (bl.set ip (dF 2 0 (f2 a b))) ch K
  |_=>False)
 |_=>False
theorem NY {ids:List Nat} {bl:List VB} {ip:Nat} {b b':VB} (hl:ids.length=bl.length) (h:bl[ip]?=some b) (e:∀n,aE ids n b'=aE ids n b):lits ids ids (bl.set ip b')=lits ids ids bl:=by
 rw[<-iR ids bl ip b' hl,e,iR ids bl ip b hl];congr 1;apply List.ext_getElem?;intro j;rw[List.getElem?_set];split
 ·rename_i hj;subst hj;rw[h];simp[bO h]
 ·rfl
theorem xY (ht:Body (fr:=fr) 147 bV):Sound prog gS 24 (Z5 (fr:=fr) (ah aT)):=by
 intro args ids bl ch R ms w0 w K hg hl S hc;unfold Z5 at hc;split at hc
 ·rename_i ic l code ip;split at hc
  ·rename_i a b hb;refine zP ht _ ids _ ch R ms w0 w K hg (by simpa using hl) ?_ hc;rw[NY (b':=dF 2 0 (f2 a b)) hl hb (λn=>rfl)];exact S
  ·exact hc.elim
 ·exact hc.elim
def gi (t:TypeId):VB:=⟨false,t,[.dC .u32 64 aX]⟩
def sf (t:TypeId):VB:=⟨false,t,[.bool false,.bool false,.bool false,.bool false,.bool false,.bool false,.bool false,.bool false,.bool false,.bool false,.bool true,.bool true]⟩
def LSh (fr:Sd.Reply->Nat×Sd.Byt) (C:Sd.Crypt):List (dI (LG fr)):=[⟨10,false,T8⟩,⟨11,false,Z3⟩,⟨24,false,Z5 C⟩,⟨14,false,V7 λ_=>Cd⟩]
theorem Us (ht:Body (fr:=fr) 147 bV):ai prog gS (LSh fr (ah aT)):=
 ai.cons ⟨tT,λe=>by cases e⟩ (ai.cons ⟨xX,λe=>by cases e⟩ (ai.cons ⟨xY ht,λe=>by cases e⟩ (ai.cons (xP (xT ht)) ai.nil)))
def Z6:List V:=(List.range 56).map λi=>bif iZ i then .raw (.slice none 0 0)else .int .i64 (bif Nat.beq i 10 then 2 else 0)
def afq:ij:=⟨λi=>iN (nth Z6 i),λj=>sA (nth Z6 (j+5)),λj=>sN (nth Z6 (j+5)),λj=>sC (nth Z6 (j+5))⟩
def rdA (x:ij) (u:World):Prop:=zR x u 0/\zR x u 1/\zR x u 2/\zR x u 3
def xZ (x:ij) (u:World):Nat->Sd.Byt:=k4 (zQ (x.kn 0) (ft u (x.ka 0))) (zQ (x.kn 1) (ft u (x.ka 1))) (zQ (x.kn 2) (ft u (x.ka 2))) (zQ (x.kn 3) (ft u (x.ka 3)))
def n4 (n:Nat->Nat):Nat->Nat:=k4 (n 0) (n 1) (n 2) (n 3)
def EY (tg tc:TypeId) (it:Nat) (k:LK) (s:Sd.Scene):Prop:=some (gi tg)=some (aG k)/\some (sf tc)=some (iA k)/\Cz k it s=Cz k it (dv s)/\s.c.p.bh=s.c.p.bh/\s.c.p.aR=s.c.p.aR/\s.c.p.queue=k.most
section
variable(C:Sd.Crypt) (tg tc:TypeId) (u:World) (K:VK (LG fr))
def shE (k:LK) (s':Sd.Scene) (F0:bN fr (bA k (fS s'))) (fn:List av) (r:TR):Prop:=
 let no (b:Bool):Prop:=K (.bool b) [gi tg,sf tc] [.cn u,.core (cB k (fS s') F0) (fn++[])]
 cond ((s'.sent.length:Int)==1) ((0<=(0:Int)/\0<(s'.sent.length:Int))/\(0<s'.sent.length/\∀j,(nF s'.sent r.fv j).length=2)/\
  cond ((s'.sent.getD 0 default).1==1) (cond ((s'.recs.length:Int)==1) ((0<=(0:Int)/\0<(s'.recs.length:Int))/\(0<s'.recs.length/\∀j,(H_ s'.recs j).length=6)/\
   cond ((s'.recs.getD 0 default).kind==2) (EY tg tc 8 k (fS s')/\∀(x:Option Addr) (c ty:Nat) (us:List Value),K (.bool ((fS s').c.t.holder==4)) [gi tg,sf tc] [.cn u,.core (cB k (dv (fS s')) F0) (fn++[])]) (no false)) (no false)) (no false)) (no false)
def shX:Prop:=rdA afq u/\∀(p:Nat->Int) (n d:Nat->Nat),Made afq p n->
 EX (kg 2 p n d) (n4 n)/\∀(p2:Sd.Pol) (k:LK) (F:bN fr (bA k (ib p2))),Uk (kg 2 p n d) (xZ afq u) tg tc p2 k->cC=F.vs->cC=F.vr->
  EY tg tc 8 k (ib p2)/\(2=2/\2+0=2/\iY=iY)/\j4 k/\(bd k (dv (ib p2))/\cC=F.vs/\cC=F.vr/\2<=58/\By (f2 1 1))/\
   ∀s',s'=cQ C (dv (ib p2)) 1 0 2 (f2 1 1)->∀(r:TR) (fn:List av) (F0:bN fr (bA k (fS s'))),cC=F0.vs->cC=F0.vr->mg fr s'.sent r.fv fn->shE tg tc u K k s' F0 fn r
theorem ajw:cJ (dR prog gS (LSh fr C)) 60 9 [] [gi tg,sf tc] [.cn u] (cP 2 K)=shX C tg tc u K:=by kernel_rfl
end
end Go.Proofs.YtggfpcggakghnaaGreatDoor
namespace Go.Proofs.YtggfpcggakghnaaGreatDoor
open Go Go.RowKit Go.BigFrame Sx Go.ChangeShapes Go.WideShapes
section
variable{H:Type} {enc:TypeId×Value->H} {P:Program} {w:World} {base:Nat} {spare:Nat->Bool} {held:Bool} {fuel:Nat} {t e:TypeId} {cs:List Value} {ps:List MemPlace}
theorem KM {l:List Value} {i:Nat} {v:Value} (h:(l.drop i).take 1=[v]):l[i]?=some v:=by
 have h1:((l.drop i).take 1)[0]?=some v:=by rw[h];rfl
 rw[List.getElem?_take]at h1;simpa using h1
theorem Z7 {k:IntKind} {zs:List Int} (ht:P.underlying t=some (.array zs.length e)) (he:P.underlying e=some (.int k)) (hc:P.cellsOf e=1) (hn:P.cellsOf t=zs.length)
 (h:DataW.trod enc P w base spare held fuel t cs=some (.agg (zs.map λz=>.lit (.int k z)),ps)):cs=zs.map (Value.int k):=by
 obtain⟨xs,m,rfl,hx,hlen,Wf,Fx⟩:=DataW.trod_array ht h;simp only[Prod.mk.injEq,DataW.agg.injEq]at hx;rw[hn]at hlen;apply List.ext_getElem?;intro i;by_cases hi:i<zs.length
 ·have h1:=Fx i hi;rw[hc,Nat.mul_one,List.getElem?_eq_getElem (by omega)]at h1;obtain⟨z,e1,e2,_⟩:=DataW.trod_int he h1;have h3:(zs.map λz=>(DataW.lit (.int k z):DataW H))[i]?=(xs.map (·.1))[i]?:=by rw[hx.1]
  rw[List.getElem?_map,List.getElem?_map,List.getElem?_eq_getElem hi,List.getElem?_eq_getElem (by omega),Option.map_some,Option.map_some,e2]at h3;simp at h3;rw[KM e1,List.getElem?_map,List.getElem?_eq_getElem hi,Option.map_some,h3]
 ·rw[List.getElem?_eq_none (by omega),List.getElem?_eq_none (by simp;omega)]
theorem KO {n:String} {g:Nat} {c:Array Value} (hg:P.globalNamed n=some g) (h:w.var? P n=some c):∃t f,w.heap[g]?=some (.cells c t f):=by
 simp only[World.var?,hg,Option.bind_some]at h;split at h
 ·next c' t f h2=>simp at h;subst h;exact⟨t,f,h2⟩
 ·cases h
end
def x_:List Int:=(List.range 64).map λi=>aX i
def Ut:List (String×DataW Unit):=[("sidestick/gate.commands",Rows.laid_sidestick_gate_commands),("sidestick/sha.roots",Rows.laid_sidestick_sha_roots)]
theorem Uu {W:World} (h:laidMetH prog Ut W):∃t,W.heap[1]?=some (.cells (ak .u32 64 aX) t (0,0)):=by
 rw[MakeChecks.laidMetH_plain _ _ _ (by kernel_rfl)]at h;obtain⟨ps,⟨g0,t0,cs0,f0,p0,q0,hg0,ht0,OT,hd0,⟨g1,t1,cs1,f1,p1,q1,hg1,ht1,VG,Zm,_,hq⟩,Mc⟩,_,jr⟩:=h;obtain rfl:g1=1:=Option.some.inj (hg1.symm.trans (show prog.globalNamed "sidestick/sha.roots" =some 1 by kernel_rfl));have e1:(prog.globals[1]?).map (·.type)=some 287:=by kernel_rfl
 obtain rfl:t1=287:=Option.some.inj (ht1.symm.trans e1);have Jd:cs1.toList=x_.map (Value.int .u32):=by
  have hd2:DataW.trod (λ_=>()) prog W 0 (λ_=>true) false f1 287 cs1.toList=some (.agg (x_.map λz=>.lit (.int .u32 z)),p1):=
   Zm.trans (congrArg (λd=>some (d,p1)) (show(Rows.laid_sidestick_sha_roots:DataW Unit)=.agg (x_.map λz=>.lit (.int .u32 z)) by kernel_rfl))
  exact Z7 (k:=.u32) (zs:=x_) (e:=56) (by kernel_rfl) (by kernel_rfl) (by kernel_rfl) (by kernel_rfl) hd2
 obtain⟨t,f,ba⟩:=KO (show prog.globalNamed "sidestick/sha.roots" =some 1 by kernel_rfl) VG;have hc1:cs1=ak .u32 64 aX:=by
  apply Array.ext';rw[Jd];simp[x_,ak]
 obtain⟨c,t',xy⟩:=(jr 1 0 (by
  rw[Mc,hq,hc1];have:MemPlace.cell 1 0∈MemPlace.row ⟨1,0,none⟩ (ak .u32 64 aX).size:=by
   rw[kQ];simp[MemPlace.row]
  simp[this])).1
 rw[ba]at xy;simp only[Option.some.injEq,Obj.cells.injEq]at xy;refine⟨t,?_⟩;rw[ba,hc1,xy.2.2]
end Go.Proofs.YtggfpcggakghnaaGreatDoor
namespace Sd
open Go Go.RowKit
noncomputable def over (w:World) (B:Nat) (u:World):World:=@ite _ (Below B w u) (Classical.propDecidable _) u w
theorem over_below (w:World) (B:Nat) (u:World):Below B w (over w B u):=by
 unfold over;split
 ·assumption
 ·exact Below.refl _ _
@[go_sem] theorem cell?_over (w:World) (B:Nat) (u:World) (b o:Nat) (h:b<B):(over w B u).cell? ⟨b,o,none⟩=w.cell? ⟨b,o,none⟩:=(over_below w B u).cell h
@[go_sem] theorem frozen?_over (w:World) (B:Nat) (u:World) (b o:Nat) (h:b<B):(over w B u).frozen? ⟨b,o,none⟩=w.frozen? ⟨b,o,none⟩:=(over_below w B u).frozen h
section
variable{P:Program}
end
theorem bs {w a:World} (h:Below w.heap.size w a) {p:Addr} (hp:w.heap.size<=p.block) (v:Value):Below w.heap.size w (a.setCell p v):=h.setCell hp v
def jt (d:TypeDesc):Bool:=match d with|.struct _|.array _ _=>true|_=>false
structure ajx (P:Program) (ty n:Nat):Prop where
 desc:∃d,P.underlying ty=some d/\jt d=true
 size:(P.info? ty).map (·.size)=some n
theorem ajx.load {P:Program} {ty n:Nat} (h:ajx P ty n) {w:World} {g:Nat} {t:TypeId} {cs:Array Value} {fr:Nat×Nat} (hg:w.heap[g]?=some (.cells cs t fr)) (hn:cs.size=n):
 (loadVar ty ⟨g,0,none⟩).run P w=.ok (.agg cs) w:=by
 obtain⟨⟨d,hu,hd⟩,hs⟩:=h;exact run_loadVar_row w g t ty cs fr d hg hu (by cases d<;>first|rfl|simp[jt]at hd) (by rw[hs,hn])
section
variable{P:Program} {ops:Array Oper} {rest:List Oper} {o:Oper} {a:Act} {w:World} {Q:Exit->Act->World->Prop}
end
def I64 (n:Int):Prop:=-9223372036854775808<=n/\n<=9223372036854775807
theorem i64 {n:Int} (h:-9223372036854775808<=n/\n<=9223372036854775807):I64 n:=h
end Sd
namespace Sd
open Go Go.RowKit Go.ChangeShapes Go.WideShapes Go.ChangeAt
theorem oX {H:Type} {enc:TypeId×Value->H} {P:Program} (hl:laidOutB P=true) {W W':World} (hb:Below W.heap.size W W'):
 ∀{ts:List TypeId} {vs:List Value} {ds:List (DataW H)} {ps:List MemPlace},(ts.all λt=>P.readableRec t&&decide (t<P.types.size))=true->
  DataW.TrodAll enc P W 0 (λ_=>true) true ts vs ds ps->(∀p∈ps,p.block<W.heap.size)->DataW.TrodAll enc P W' 0 (λb=>decide (b<W.heap.size)) true ts vs ds ps
 |[],[],[],_,_,h,_=>h
 |t::ts,v::vs,d::ds,ps,hr,h,hp=>by
  obtain⟨p,q,h1,h2,rfl⟩:=h;simp only[List.all_cons,Bool.and_eq_true,decide_eq_true_eq]at hr;exact⟨p,q,Below.trod hl hr.1.1 hr.1.2 h1 hb (λx hx=>hp x (List.mem_append_left _ hx)),oX hl hb hr.2 h2 (λx hx=>hp x (List.mem_append_right _ hx)),rfl⟩
 |[],[],_::_,_,_,h,_=>h.elim
 |[],_::_,_,_,_,h,_=>h.elim
 |_::_,[],_,_,_,h,_=>h.elim
 |_::_,_::_,[],_,_,h,_=>h.elim
theorem Uv {H:Type} {enc:TypeId×Value->H} {P:Program} {f:Func} {s:ChangeSpec} {W W':World} {args:Array Value} {ds gs:List (DataW H)} {before:List MemPlace} {tb:TypeId}
 (hl:laidOutB P=true) (hr:(f.params.toList.all λt=>P.readableRec t&&decide (t<P.types.size))=true) (abS:s.vars=[]) (Tb:f.resultTypes=#[tb]) (htb:P.underlying tb=some .bool)
 (hs:s.fn H (ds++gs)={results:=[.lit (.bool true)],args:=ds,vars:=[]}) (hW:DataW.Whole enc P f.params.toList s.vars false W args.toList ds gs before) (hb:Below W.heap.size W W'):
 s.post enc P f false true false false W args (.bool true) W':=by
 have hW0:=hW;have iK:=λp hp=>hW.lt p hp;obtain⟨p,q,hA,hV,rfl,hz,hn⟩:=hW;rw[abS]at hV;obtain⟨rfl,rfl⟩:=trodVars_none hV;refine⟨ds,[],p++[],[],p,[],hW0,?_,?_,?_,?_,λh=>by cases h⟩
 ·rw[hs,Tb];exact trodAll_mk1 (shut_bool htb _)
 ·rw[hs];exact oX hl hb hr hA (λx hx=>iK x (by simpa using hx))
 ·rw[hs,abS];exact rfl
 ·exact hb.frame _
section
variable{P:Program} {w:World} {r:Reach} {b0:Nat} {t:TypeId} {v:Value}
theorem yb {d:TypeDesc} {ts:List TypeId} (hu:P.underlying t=some d) (hd:jt d=true) (hct:P.cellTypes P.depth t=some ts) (hn:P.cellsOf t=ts.length) (hv:Value.okWide P w r b0 t v):
 ∃cs:Array Value,v=.agg cs/\cs.size=ts.length/\∀(i:Nat) x u,cs[i]?=some x->ts[i]?=some u->Cell.okWide P w r b0 u x:=by
 have h:∃cs,v=.agg cs/\cs.size=P.cellsOf t/\Row.okWide P w r b0 t cs:=by
  unfold Value.okWide at hv;rw[hu]at hv;cases d<;>first|exact hv|simp[jt]at hd
 obtain⟨cs,rfl,iM,ts',h1,_,h2⟩:=h;rw[hct]at h1;obtain rfl:ts=ts':=by simpa using h1
 refine⟨cs,rfl,iM.trans hn,?_⟩;intro i x u hx hu';obtain⟨u',h3,h4⟩:=h2 i x hx;have hi:i<ts.length:=by
  rcases Nat.lt_or_ge i ts.length with h|h
  ·exact h
  ·simp[h]at hu'
 rw[Nat.mod_eq_of_lt hi,hu']at h3;obtain rfl:u=u':=by simpa using h3
 exact h4
theorem EZ {d:TypeDesc} (hu:P.underlying t=some d) (hd:jt d=false) (hv:Value.okWide P w r b0 t v):Cell.okWide P w r b0 t v:=by
 unfold Value.okWide at hv;rw[hu]at hv;cases d<;>first|exact hv|simp[jt]at hd
theorem yc {k:IntKind} (hu:P.underlying t=some (.int k)) (h:Cell.okWide P w r b0 t v):∃n,v=.int k n/\k.min<=n/\n<=k.max:=by
 unfold Cell.okWide at h;rw[hu]at h;unfold Cell.ok at h;rw[hu]at h;cases v<;>simp at h;obtain⟨rfl,h1,h2⟩:=h;exact⟨_,rfl,h1,h2⟩
theorem Uw (hu:P.underlying t=some (.int .i64)) (h:Cell.okWide P w r b0 t v):∃n,v=.int .i64 n/\I64 n:=by
 obtain⟨n,h1,h2,h3⟩:=yc hu h;exact⟨n,h1,by unfold I64;simpa[IntKind.min,IntKind.max,IntKind.signed,IntKind.bits]using And.intro h2 h3⟩
theorem Z8 (hu:P.underlying t=some (.int .u8)) (h:Cell.okWide P w r b0 t v):∃n,v=.int .u8 n/\0<=n/\n<=255:=by
 obtain⟨n,h1,h2,h3⟩:=yc hu h;exact⟨n,h1,by simpa[IntKind.min,IntKind.max,IntKind.signed,IntKind.bits]using And.intro h2 h3⟩
end
end Sd
namespace Go.Proofs.YtggfpcggakghnaaGreatDoor
open Go Go.RowKit Go.WideShapes Sd
def KR (W:World) (a:Option Addr) (n c:Nat):Prop:=n<=c/\((a=none/\n=0/\c=0)\/∃x,a=some x/\(c:Int)<=i64.max/\W.has prog .any 0 x 5 c)
theorem Io {W:World} {v:Value} {t e:TypeId} (hu:prog.underlying t=some (.slice e)) (h:Cell.okWide prog W .any 0 t v):
 ∃a n c,v=.slice a n c/\n<=c/\((a=none/\n=0/\c=0)\/∃x,a=some x/\(c:Int)<=i64.max/\W.has prog .any 0 x e c):=by
 unfold Cell.okWide at h;rw[hu]at h;cases v with
 |slice a n c=>
  unfold Cell.ok at h;rw[hu]at h;cases a with
  |none=>
   cases n<;>cases c<;>first|exact⟨_,_,_,rfl,by omega,Or.inl ⟨rfl,rfl,rfl⟩⟩|(simp at h)
  |some a=>exact⟨_,_,_,rfl,h.1,Or.inr ⟨a,rfl,h.2⟩⟩
 |_=>unfold Cell.ok at h;rw[hu]at h;simp at h
theorem Ux {W:World} {v:Value} (hv:Value.okWide prog W .any 0 28 v):
 ∃(q:Nat->Int) (ka:Nat->Option Addr) (kn kc:Nat->Nat),v=.agg (Hf q ka kn kc)/\(∀i,-9223372036854775808<=q i/\q i<=9223372036854775807)/\∀i,i<4->KR W (ka i) (kn i) (kc i):=by
 obtain⟨cs,rfl,iM,Jd⟩:=yb Tryz.underlying28 rfl (ts:=[3,3,3,3,3,23,23,23,23,3,3,3,3,3,3,3,3,3,3,3,3,3,3,3,3,3,3,3,3,3,3,3,3,3,3,3,3,3,3,3,3,3,3,3,3,3,3,3,3,3,3,3,3,3,3,3]) (by kernel_rfl) (by kernel_rfl) hv;have ba:∀i,i<56->∃x,cs[i]?=some x:=λi hi=>⟨cs[i]'(by rw[iM];exact hi),by rw[Array.getElem?_eq_getElem]⟩;have hI:∀i,i<56->(i<5\/8<i)->∃n,cs[i]?=some (.int .i64 n)/\I64 n:=by
  intro i hi e_;obtain⟨x,hx⟩:=ba i hi;have ht:([3,3,3,3,3,23,23,23,23,3,3,3,3,3,3,3,3,3,3,3,3,3,3,3,3,3,3,3,3,3,3,3,3,3,3,3,3,3,3,3,3,3,3,3,3,3,3,3,3,3,3,3,3,3,3,3]:List Nat)[i]?=some 3:=by clear hx;revert i;decide
  obtain⟨n,rfl,hn⟩:=Uw Tryz.underlying3 (Jd i x 3 hx ht);exact⟨n,hx,hn⟩
 have hS:∀i,i<4->∃a n c,cs[5+i]?=some (.slice a n c)/\KR W a n c:=by
  intro i hi;obtain⟨x,hx⟩:=ba (5+i) (by omega);have ht:([3,3,3,3,3,23,23,23,23,3,3,3,3,3,3,3,3,3,3,3,3,3,3,3,3,3,3,3,3,3,3,3,3,3,3,3,3,3,3,3,3,3,3,3,3,3,3,3,3,3,3,3,3,3,3,3]:List Nat)[5+i]?=some 23:=by clear hx;revert i;decide
  obtain⟨a,n,c,rfl,h1,h2⟩:=Io Tryz.underlying23 (Jd (5+i) x 23 hx ht);exact⟨a,n,c,hx,h1,h2⟩
 let q:Nat->Int:=λi=>match cs[i]?with|some (.int _ n)=>n|_=>0
 let ka:Nat->Option Addr:=λi=>match cs[5+i]?with|some (.slice a _ _)=>a|_=>none
 let kn:Nat->Nat:=λi=>match cs[5+i]?with|some (.slice _ n _)=>n|_=>0
 let kc:Nat->Nat:=λi=>match cs[5+i]?with|some (.slice _ _ c)=>c|_=>0
 have hq:∀i,i<56->(i<5\/8<i)->cs[i]?=some (.int .i64 (q i))/\I64 (q i):=by
  intro i hi e_;obtain⟨n,hx,hn⟩:=hI i hi e_;have:q i=n:=by simp only[q,hx]
  rw[this];exact⟨hx,hn⟩
 have hk:∀i,i<4->cs[5+i]?=some (.slice (ka i) (kn i) (kc i))/\KR W (ka i) (kn i) (kc i):=by
  intro i hi;obtain⟨a,n,c,hx,hn⟩:=hS i hi;have h1:ka i=a:=by simp only[ka,hx]
  have h2:kn i=n:=by simp only[kn,hx]
  have h3:kc i=c:=by simp only[kc,hx]
  rw[h1,h2,h3];exact⟨hx,hn⟩
 refine⟨q,ka,kn,kc,?_,?_,λi hi=>(hk i hi).2⟩
 ·congr 1;apply Array.ext_getElem?;intro i;by_cases hi:i<56
  ·match i,hi with
   |0,_=>exact(hq 0 (by omega) (by omega)).1.trans rfl
   |1,_=>exact(hq 1 (by omega) (by omega)).1.trans rfl
   |2,_=>exact(hq 2 (by omega) (by omega)).1.trans rfl
   |3,_=>exact(hq 3 (by omega) (by omega)).1.trans rfl
   |4,_=>exact(hq 4 (by omega) (by omega)).1.trans rfl
   |5,_=>exact(hk 0 (by omega)).1.trans rfl
   |6,_=>exact(hk 1 (by omega)).1.trans rfl
   |7,_=>exact(hk 2 (by omega)).1.trans rfl
   |8,_=>exact(hk 3 (by omega)).1.trans rfl
   |9,_=>exact(hq 9 (by omega) (by omega)).1.trans rfl
   |10,_=>exact(hq 10 (by omega) (by omega)).1.trans rfl
   |11,_=>exact(hq 11 (by omega) (by omega)).1.trans rfl
   |12,_=>exact(hq 12 (by omega) (by omega)).1.trans rfl
   |13,_=>exact(hq 13 (by omega) (by omega)).1.trans rfl
   |14,_=>exact(hq 14 (by omega) (by omega)).1.trans rfl
   |15,_=>exact(hq 15 (by omega) (by omega)).1.trans rfl
   |16,_=>exact(hq 16 (by omega) (by omega)).1.trans rfl
   |17,_=>exact(hq 17 (by omega) (by omega)).1.trans rfl
   |18,_=>exact(hq 18 (by omega) (by omega)).1.trans rfl
   |19,_=>exact(hq 19 (by omega) (by omega)).1.trans rfl
   |20,_=>exact(hq 20 (by omega) (by omega)).1.trans rfl
   |21,_=>exact(hq 21 (by omega) (by omega)).1.trans rfl
   |22,_=>exact(hq 22 (by omega) (by omega)).1.trans rfl
   |23,_=>exact(hq 23 (by omega) (by omega)).1.trans rfl
   |24,_=>exact(hq 24 (by omega) (by omega)).1.trans rfl
   |25,_=>exact(hq 25 (by omega) (by omega)).1.trans rfl
   |26,_=>exact(hq 26 (by omega) (by omega)).1.trans rfl
   |27,_=>exact(hq 27 (by omega) (by omega)).1.trans rfl
   |28,_=>exact(hq 28 (by omega) (by omega)).1.trans rfl
   |29,_=>exact(hq 29 (by omega) (by omega)).1.trans rfl
   |30,_=>exact(hq 30 (by omega) (by omega)).1.trans rfl
   |31,_=>exact(hq 31 (by omega) (by omega)).1.trans rfl
   |32,_=>exact(hq 32 (by omega) (by omega)).1.trans rfl
   |33,_=>exact(hq 33 (by omega) (by omega)).1.trans rfl
   |34,_=>exact(hq 34 (by omega) (by omega)).1.trans rfl
   |35,_=>exact(hq 35 (by omega) (by omega)).1.trans rfl
   |36,_=>exact(hq 36 (by omega) (by omega)).1.trans rfl
   |37,_=>exact(hq 37 (by omega) (by omega)).1.trans rfl
   |38,_=>exact(hq 38 (by omega) (by omega)).1.trans rfl
   |39,_=>exact(hq 39 (by omega) (by omega)).1.trans rfl
   |40,_=>exact(hq 40 (by omega) (by omega)).1.trans rfl
   |41,_=>exact(hq 41 (by omega) (by omega)).1.trans rfl
   |42,_=>exact(hq 42 (by omega) (by omega)).1.trans rfl
   |43,_=>exact(hq 43 (by omega) (by omega)).1.trans rfl
   |44,_=>exact(hq 44 (by omega) (by omega)).1.trans rfl
   |45,_=>exact(hq 45 (by omega) (by omega)).1.trans rfl
   |46,_=>exact(hq 46 (by omega) (by omega)).1.trans rfl
   |47,_=>exact(hq 47 (by omega) (by omega)).1.trans rfl
   |48,_=>exact(hq 48 (by omega) (by omega)).1.trans rfl
   |49,_=>exact(hq 49 (by omega) (by omega)).1.trans rfl
   |50,_=>exact(hq 50 (by omega) (by omega)).1.trans rfl
   |51,_=>exact(hq 51 (by omega) (by omega)).1.trans rfl
   |52,_=>exact(hq 52 (by omega) (by omega)).1.trans rfl
   |53,_=>exact(hq 53 (by omega) (by omega)).1.trans rfl
   |54,_=>exact(hq 54 (by omega) (by omega)).1.trans rfl
   |55,_=>exact(hq 55 (by omega) (by omega)).1.trans rfl
   |i+56,h=>exact absurd h (by omega)
  ·rw[Array.getElem?_eq_none (by rw[iM];exact Nat.le_of_not_lt hi),Array.getElem?_eq_none (Nat.le_of_not_lt hi)]
 ·intro i;by_cases hi:i<56/\(i<5\/8<i)
  ·exact(hq i hi.1 hi.2).2
  ·have:q i=0:=by
    by_cases h5:i<56
    ·obtain⟨a,n,c,hx,_⟩:=hS (i-5) (by omega);rw[show 5+(i-5)=i by omega]at hx;simp only[q,hx]
    ·have hx:cs[i]?=none:=Array.getElem?_eq_none (by rw[iM];exact Nat.le_of_not_lt h5);simp only[q,hx]
   rw[this];omega
end Go.Proofs.YtggfpcggakghnaaGreatDoor
namespace Sx
open Go Go.RowKit
def Rd (P:Program) (w:World):Nat->TypeId->List Value->Prop
 |0,_,_=>True
 |d+1,t,cs=>
  match P.underlying t with
  |some .bool=>∃b,cs=[.bool b]
  |some (.int k)=>∃n,cs=[.int k n]/\k.min<=n/\n<=k.max
  |some (.slice e)=>cs=[.slice none 0 0]\/∃a len cap,cs=[.slice (some a) len cap]/\len<=cap/\cap<=maxLen/\∀i,i<cap->∃Fy,w.cells? 0 (a.add (i*P.cellsOf e)) (P.cellsOf e)=some Fy/\Rd P w d e Fy
  |some (.struct fs)=>cs.length=P.cellsOf t/\∀(i:Nat) f,fs[i]?=some f->Rd P w d f.type ((cs.drop f.offset).take (P.cellsOf f.type))
  |some (.array n e)=>cs.length=P.cellsOf t/\∀i,i<n->Rd P w d e ((cs.drop (i*P.cellsOf e)).take (P.cellsOf e))
  |_=>True
section
variable{H:Type} {enc:TypeId×Value->H} {P:Program} {w:World} {held:Bool}
theorem mj:∀(d:Nat) {fuel:Nat} {t:TypeId} {cs:List Value} {x:DataW H×List MemPlace},DataW.trod enc P w 0 (λ_=>true) held fuel t cs=some x->Rd P w d t cs
 |0,_,_,_,_,_=>trivial
 |d+1,fuel,t,cs,x,h=>by
  unfold Rd;split
  ·rename_i hu;obtain⟨b,hb,_⟩:=DataW.trod_bool hu h;exact⟨b,hb⟩
  ·rename_i k hu;obtain⟨n,hn,_,hw⟩:=DataW.trod_int hu h;refine⟨n,hn,?_⟩;unfold Lit.wf at hw;simpa using hw
  ·rename_i e hu;rcases Deep.open_slice hu h with⟨h0,_⟩|⟨a,len,cap,m,n,D,Pl,hc,_,hl,hm,hmm,_,hx⟩
   ·exact .inl h0
   ·refine .inr ⟨a,len,cap,hc,hl,hm,λi hi=>?_⟩;obtain⟨Fy,h1,h2⟩:=hx i (by rw[hmm];simpa using hi);exact⟨Fy,h1,mj d h2⟩
  ·rename_i fs hu;obtain⟨xs,n,_,_,hl,hs,hx⟩:=DataW.trod_struct hu h;refine⟨hl,λi f hf=>?_⟩;have h1:=hx i f hf;have hi:i<fs.size:=by
    rcases Nat.lt_or_ge i fs.size with h2|h2
    ·exact h2
    ·simp[h2]at hf
   rw[List.getElem?_eq_getElem (by rw[hs];exact hi)]at h1;exact mj d h1
  ·rename_i n e hu;obtain⟨xs,m,_,_,hl,hs,hx⟩:=DataW.trod_array hu h;refine⟨hl,λi hi=>?_⟩;have h1:=hx i hi;rw[List.getElem?_eq_getElem (by rw[hs];exact hi)]at h1;exact mj d h1
  ·trivial
def cellAt (P:Program):Nat->TypeId->Nat->Option TypeId
 |0,_,_=>none
 |d+1,t,j=>
  match P.underlying t with
  |some (.struct fs)=>fs.toList.findSome? λf=>bif Nat.ble f.offset j&&Nat.blt j (f.offset+P.cellsOf f.type)then cellAt P d f.type (j-f.offset)else none
  |some (.array n e)=>bif Nat.blt (j/P.cellsOf e) n&&Nat.blt 0 (P.cellsOf e)then cellAt P d e (j%P.cellsOf e)else none
  |_=>bif Nat.beq j 0 then some t else none
theorem sh:∀(d:Nat) {t:TypeId} {cs:List Value} {j:Nat} {u:TypeId} {v:Value},(∀n,Rd P w n t cs)->cellAt P d t j=some u->cs[j]?=some v->∀n,Rd P w n u [v]
 |0,_,_,_,_,_,_,h,_=>by simp[cellAt]at h
 |d+1,t,cs,j,u,v,hr,h,hv=>by
  unfold cellAt at h;split at h
  ·rename_i fs hu;obtain⟨f,hf,h⟩:=List.exists_of_findSome?_eq_some h;obtain⟨i,hi⟩:=List.getElem?_of_mem hf;have O3:fs[i]?=some f:=by simpa using hi
   rw[Bool.cond_eq_ite]at h;split at h
   ·rename_i hc;simp only[Bool.and_eq_true]at hc;have h1:=Nat.le_of_ble_eq_true hc.1;have h2:j<f.offset+P.cellsOf f.type:=by
     have:=hc.2;unfold Nat.blt at this;exact Nat.le_of_ble_eq_true this
    refine sh d (cs:=(cs.drop f.offset).take (P.cellsOf f.type)) (λn=>?_) h ?_
    ·have:=hr (n+1);unfold Rd at this;rw[hu]at this;exact this.2 i f O3
    ·rw[List.getElem?_take_of_lt (by omega),List.getElem?_drop];rw[show f.offset+(j-f.offset)=j by omega];exact hv
   ·simp at h
  ·rename_i n0 e hu;rw[Bool.cond_eq_ite]at h;split at h
   ·rename_i hc;simp only[Bool.and_eq_true]at hc;have h1:j/P.cellsOf e<n0:=by
     have:=hc.1;unfold Nat.blt at this;exact Nat.le_of_ble_eq_true this
    have h2:0<P.cellsOf e:=by
     have:=hc.2;unfold Nat.blt at this;exact Nat.le_of_ble_eq_true this
    refine sh d (cs:=(cs.drop (j/P.cellsOf e*P.cellsOf e)).take (P.cellsOf e)) (λn=>?_) h ?_
    ·have:=hr (n+1);unfold Rd at this;rw[hu]at this;exact this.2 _ h1
    ·rw[List.getElem?_take_of_lt (Nat.mod_lt _ h2),List.getElem?_drop];rw[show j/P.cellsOf e*P.cellsOf e+j%P.cellsOf e=j by rw[Nat.mul_comm];exact Nat.div_add_mod _ _];exact hv
   ·simp at h
  ·rename_i hns hna;rw[Bool.cond_eq_ite]at h;split at h
   ·rename_i hj;obtain rfl:j=0:=Nat.eq_of_beq_eq_true hj;obtain rfl:t=u:=by simpa using h
    intro n;have h1:=hr n;cases n with
    |zero=>trivial
    |succ n=>
     unfold Rd at h1⊢;split at h1
     ·obtain⟨b,rfl⟩:=h1;simp at hv;subst hv;exact⟨b,rfl⟩
     ·obtain⟨k,rfl,h2⟩:=h1;simp at hv;subst hv;exact⟨k,rfl,h2⟩
     ·rcases h1 with rfl|⟨a,len,cap,rfl,h2⟩
      ·simp at hv;subst hv;exact .inl rfl
      ·simp at hv;subst hv;exact .inr ⟨a,len,cap,rfl,h2⟩
     ·rename_i fs hu;exact absurd hu (hns fs)
     ·rename_i k e hu;exact absurd hu (hna k e)
     ·trivial
   ·simp at h
theorem Uy {u:TypeId} {v:Value} {k:IntKind} (hu:P.underlying u=some (.int k)) (h:∀n,Rd P w n u [v]):∃n,v=.int k n/\k.min<=n/\n<=k.max:=by
 have:=h 1;unfold Rd at this;rw[hu]at this;obtain⟨b,hb,h2⟩:=this;exact⟨b,by simpa using hb,h2⟩
theorem E0 {u e:TypeId} {v:Value} {z:Nat} {ts:List TypeId} (hu:P.underlying u=some (.slice e)) (h:∀n,Rd P w n u [v]) (hz:P.cellsOf e=z:=by kernel_rfl) (d:Nat) (ju:(List.range z).map (cellAt P d e)=ts.map some:=by kernel_rfl):
 v=.slice none 0 0\/∃a len cap,v=.slice (some a) len cap/\len<=cap/\cap<=maxLen/\∃c:Nat->Nat->Value,∀i,i<cap->∀j,j<z->w.cell? (a.add (i*z+j))=some (c i j)/\∀u',ts[j]?=some u'->∀n,Rd P w n u' [c i j]:=by
 have h1:=h 1;unfold Rd at h1;rw[hu]at h1;rcases h1 with h1|⟨a,len,cap,h1,h2,h3,_⟩
 ·exact .inl (by simpa using h1)
 ·obtain rfl:v=_:=by simpa using h1
  refine .inr ⟨a,len,cap,rfl,h2,h3,?_⟩;subst hz;have key:∀i,i<cap->∃Fy,w.cells? 0 (a.add (i*P.cellsOf e)) (P.cellsOf e)=some Fy/\∀n,Rd P w n e Fy:=by
   intro i hi;have ba:∀n,∃Fy,w.cells? 0 (a.add (i*P.cellsOf e)) (P.cellsOf e)=some Fy/\Rd P w n e Fy:=by
    intro n;have h4:=h (n+1);unfold Rd at h4;rw[hu]at h4;rcases h4 with h4|⟨a',amt,amu,h4,_,_,h5⟩
    ·simp at h4
    ·simp at h4;obtain⟨rfl,rfl,rfl⟩:=h4;exact h5 i hi
   obtain⟨Fy,hc,_⟩:=ba 0;refine⟨Fy,hc,λn=>?_⟩;obtain⟨amv,Tt,hr⟩:=ba n;rw[hc]at Tt;obtain rfl:Fy=amv:=by simpa using Tt
   exact hr
  obtain⟨C,hC⟩:=Deep.choose_lt key;refine⟨λi j=>(C i).getD j undef,λi hi j hj=>?_⟩;obtain⟨h5,h6⟩:=hC i hi;obtain⟨_,hl,jr⟩:=World.cells?_some h5;have h7:(C i)[j]?=some ((C i).getD j undef):=by
   have iK:j<(C i).length:=by omega
   simp[List.getD,List.getElem?_eq_getElem iK]
  refine⟨?_,λu' hu'=>?_⟩
  ·have:=jr j hj;rw[h7]at this;have e1:(a.add (i*P.cellsOf e)).add j=a.add (i*P.cellsOf e+j):=by
    unfold Addr.add;split<;>split<;>split<;>simp_all<;>omega
   rw[e1]at this;exact this
  ·have hjt:cellAt P d e j=some u':=by
    have h8:((List.range (P.cellsOf e)).map (cellAt P d e))[j]?=some (some u'):=by rw[ju];simp[hu']
    simp[hj]at h8;exact h8
   exact sh d h6 hjt h7
end
end Sx
namespace Go.Proofs.YtggfpcggakghnaaGreatDoor
open Go Go.RowKit Go.WideShapes Sd Sx
theorem Uz {W:World} {a:Option Addr} {m c:Nat} (jr:∀n,Rd prog W n 23 [.slice a m c]) (hk:KR W a m c):∃kb:Nat->Int,SR [] W a m c kb:=by
 obtain⟨h1,h2⟩:=hk;rcases h2 with⟨e1,e2,e3⟩|⟨x,e1,hc,hh⟩
 ·exact⟨λ_=>0,h1,λ_=>⟨e2,e3⟩,λad ha=>by rw[e1]at ha;cases ha⟩
 ·rcases E0 Tryz.underlying23 jr (z:=1) (by kernel_rfl) 5 (ts:=[5]) (by kernel_rfl)with h0|⟨a',amt,amu,h0,_,_,C,hC⟩
  ·rw[e1]at h0;simp at h0
  ·rw[e1]at h0;simp only[Value.slice.injEq,Option.some.injEq]at h0;obtain⟨rfl,rfl,rfl⟩:=h0;refine⟨λj=>match C j 0 with|.int _ n=>n|_=>0,h1,λh=>(by rw[e1]at h;cases h),λad ha=>⟨by simp,λj hj=>?_⟩⟩;rw[e1]at ha;obtain rfl:=Option.some.inj ha;obtain⟨h3,h4⟩:=hC j (by omega) 0 (by omega);obtain⟨n,h5,_⟩:=Uy Tryz.underlying5 (h4 _ rfl);simp only[h5]at h3⊢;simpa using h3
theorem NZ {W:World} {v:Value} (hv:Value.okWide prog W .any 0 28 v) (hr:∀n,Rd prog W n 28 v.cells.toList):
 ∃(q:Nat->Int) (ka:Nat->Option Addr) (kn kc:Nat->Nat) (kb:Nat->Nat->Int),v=.agg (Hf q ka kn kc)/\(∀i,-9223372036854775808<=q i/\q i<=9223372036854775807)/\∀i,i<4->SR [] W (ka i) (kn i) (kc i) (kb i):=by
 obtain⟨q,ka,kn,kc,rfl,hq,hk⟩:=Ux hv;have key:∀i,i<4->∃kb:Nat->Int,SR [] W (ka i) (kn i) (kc i) kb:=by
  intro i hi;have jr:∀n,Rd prog W n 23 [.slice (ka i) (kn i) (kc i)]:=by
   have h5:(Hf q ka kn kc)[5+i]?=some (.slice (ka i) (kn i) (kc i)):=by
    match i,hi with
    |0,_=>rfl
    |1,_=>rfl
    |2,_=>rfl
    |3,_=>rfl
    |i+4,h=>exact absurd h (by omega)
   have Lx:cellAt prog 6 28 (5+i)=some 23:=by
    have e:i=0\/i=1\/i=2\/i=3:=by omega
    rcases e with rfl|rfl|rfl|rfl
    ·show cellAt prog 6 28 5=some 23;kernel_rfl
    ·show cellAt prog 6 28 6=some 23;kernel_rfl
    ·show cellAt prog 6 28 7=some 23;kernel_rfl
    ·show cellAt prog 6 28 8=some 23;kernel_rfl
   exact sh 6 (P:=prog) (w:=W) (t:=28) (cs:=(Hf q ka kn kc).toList) (j:=5+i) hr Lx (by simpa using h5)
  exact Uz jr (hk i hi)
 obtain⟨kb,hkb⟩:=Deep.choose_lt key;exact⟨q,ka,kn,kc,kb,rfl,hq,hkb⟩
end Go.Proofs.YtggfpcggakghnaaGreatDoor
namespace Go.Proofs.YtggfpcggakghnaaGreatDoor
open Go Go.RowKit Go.BigFrame Go.WideShapes Go.ChangeShapes Sd Sx Vx
section
variable{H:Type} {enc:TypeId×Value->H} {P:Program} {w:World} {base:Nat} {spare:Nat->Bool} {held:Bool} {fuel:Nat} {t e:TypeId} {cs:List Value} {ps:List MemPlace}
theorem UA {zs:List Bool} (ht:P.underlying t=some (.array zs.length e)) (he:P.underlying e=some .bool) (hc:P.cellsOf e=1) (hn:P.cellsOf t=zs.length)
 (h:DataW.trod enc P w base spare held fuel t cs=some (.agg (zs.map λz=>.lit (.bool z)),ps)):cs=zs.map Value.bool:=by
 obtain⟨xs,m,rfl,hx,hlen,Wf,Fx⟩:=DataW.trod_array ht h;simp only[Prod.mk.injEq,DataW.agg.injEq]at hx;rw[hn]at hlen;apply List.ext_getElem?;intro i;by_cases hi:i<zs.length
 ·have h1:=Fx i hi;rw[hc,Nat.mul_one,List.getElem?_eq_getElem (by omega)]at h1;obtain⟨z,e1,e2⟩:=DataW.trod_bool he h1;have h3:(zs.map λz=>(DataW.lit (.bool z):DataW H))[i]?=(xs.map (·.1))[i]?:=by rw[hx.1]
  rw[List.getElem?_map,List.getElem?_map,List.getElem?_eq_getElem hi,List.getElem?_eq_getElem (by omega),Option.map_some,Option.map_some]at h3;have e3:=congrArg Prod.fst e2;rw[e3]at h3;simp at h3;rw[KM e1,List.getElem?_map,List.getElem?_eq_getElem hi,Option.map_some,h3]
 ·rw[List.getElem?_eq_none (by omega),List.getElem?_eq_none (by simp;omega)]
end
def KU:List Bool:=[false,false,false,false,false,false,false,false,false,false,true,true]
theorem Z9 {W:World} (h:laidMetH prog Ut W):∃t,W.heap[0]?=some (.cells #[.bool false,.bool false,.bool false,.bool false,.bool false,.bool false,.bool false,.bool false,.bool false,.bool false,.bool true,.bool true] t (0,0)):=by
 rw[MakeChecks.laidMetH_plain _ _ _ (by kernel_rfl)]at h;obtain⟨ps,⟨g0,t0,cs0,f0,p0,q0,hg0,ht0,OT,hd0,⟨g1,t1,cs1,f1,p1,q1,hg1,ht1,VG,Zm,_,hq⟩,Mc⟩,_,jr⟩:=h;obtain rfl:g0=0:=Option.some.inj (hg0.symm.trans (show prog.globalNamed "sidestick/gate.commands" =some 0 by kernel_rfl));have e1:(prog.globals[0]?).map (·.type)=some 269:=by kernel_rfl
 obtain rfl:t0=269:=Option.some.inj (ht0.symm.trans e1);have Jd:cs0.toList=KU.map Value.bool:=by
  have hd2:DataW.trod (λ_=>()) prog W 0 (λ_=>true) false f0 269 cs0.toList=some (.agg (KU.map λz=>.lit (.bool z)),p0):=
   hd0.trans (congrArg (λd=>some (d,p0)) (show(Rows.laid_sidestick_gate_commands:DataW Unit)=.agg (KU.map λz=>.lit (.bool z)) by kernel_rfl))
  exact UA (zs:=KU) (e:=4) (by kernel_rfl) (by kernel_rfl) (by kernel_rfl) (by kernel_rfl) hd2
 obtain⟨t,f,ba⟩:=KO (show prog.globalNamed "sidestick/gate.commands" =some 0 by kernel_rfl) OT;have SC:cs0=#[.bool false,.bool false,.bool false,.bool false,.bool false,.bool false,.bool false,.bool false,.bool false,.bool false,.bool true,.bool true]:=by
  apply Array.ext';rw[Jd];rfl
 obtain⟨c,t',xy⟩:=(jr 0 0 (by
  rw[Mc,SC];have:MemPlace.cell 0 0∈MemPlace.row ⟨0,0,none⟩ 12:=by
   simp[MemPlace.row]
  exact List.mem_append_left _ (List.mem_append_left _ this))).1
 rw[ba]at xy;simp only[Option.some.injEq,Obj.cells.injEq]at xy;refine⟨t,?_⟩;rw[ba,SC,xy.2.2]
theorem Z_ {W:World} {v:Value} (h:∀n,Rd prog W n 23 [v]):∃a n c,v=.slice a n c/\gF W a n c (ft W a):=by
 rcases E0 Tryz.underlying23 h (z:=1) (by kernel_rfl) 5 (ts:=[5]) (by kernel_rfl)with rfl|⟨a,len,cap,rfl,hle,_,C,hC⟩
 ·exact⟨none,0,0,rfl,Nat.le_refl _,λ_=>⟨rfl,rfl⟩,λx e=>nomatch e⟩
 ·have hb:∀j,j<len->∃n,C j 0=.int .u8 n/\0<=n/\n<=255:=λj hj=>by
   obtain⟨n,h5,h6⟩:=Uy Tryz.underlying5 ((hC j (by omega) 0 (by omega)).2 _ rfl);exact⟨n,h5,by simpa[IntKind.min,IntKind.max,IntKind.signed,IntKind.bits]using h6⟩
  refine⟨some a,len,cap,rfl,afc (f:=λj=>match C j 0 with|.int _ n=>n|_=>0) ⟨hle,(λe=>nomatch e),λx e j hj=>?_⟩ λj hj=>?_⟩
  ·obtain rfl:=Option.some.inj e;obtain⟨n,h5,_⟩:=hb j hj;have h3:=(hC j (by omega) 0 (by omega)).1;simp only[h5]at h3⊢;simpa using h3
  ·obtain⟨n,h5,h6⟩:=hb j hj;simp only[h5];exact h6
theorem N0 {W:World} {v:Value} (hv:Value.okWide prog W .any 0 28 v) (hr:∀n,Rd prog W n 28 v.cells.toList):
 ∃(q:Nat->Int) (ka:Nat->Option Addr) (kn kc:Nat->Nat),v=.agg (uE ⟨q,λ_=>(0,λ_=>0)⟩ ka kn kc).toArray/\∀j,j<4->gF W (ka j) (kn j) (kc j) (ft W (ka j)):=by
 obtain⟨q,ka,kn,kc,kb,rfl,hq,hk⟩:=NZ hv hr;refine⟨q,ka,kn,kc,rfl,λj hj=>?_⟩;have jr:∀n,Rd prog W n 23 [.slice (ka j) (kn j) (kc j)]:=by
  have h5:(Hf q ka kn kc)[5+j]?=some (.slice (ka j) (kn j) (kc j)):=by
   match j,hj with
   |0,_=>rfl
   |1,_=>rfl
   |2,_=>rfl
   |3,_=>rfl
   |j+4,h=>exact absurd h (by omega)
  have Lx:cellAt prog 6 28 (5+j)=some 23:=by
   have e:j=0\/j=1\/j=2\/j=3:=by omega
   rcases e with rfl|rfl|rfl|rfl
   ·show cellAt prog 6 28 5=some 23;kernel_rfl
   ·show cellAt prog 6 28 6=some 23;kernel_rfl
   ·show cellAt prog 6 28 7=some 23;kernel_rfl
   ·show cellAt prog 6 28 8=some 23;kernel_rfl
  exact sh 6 (P:=prog) (w:=W) (t:=28) (cs:=(Hf q ka kn kc).toList) (j:=5+j) hr Lx (by simpa using h5)
 obtain⟨a,n,c,e,h⟩:=Z_ jr;simp only[Value.slice.injEq]at e;obtain⟨rfl,rfl,rfl⟩:=e;exact h
theorem UB {W:World} {v:Value} {t:TypeId} {n:Nat} (hu:prog.underlying t=some (.array n 5)) (hct:prog.cellTypes prog.depth t=some (List.replicate n 5)) (hn:prog.cellsOf t=n) (hv:Value.okWide prog W .any 0 t v):
 ∃cs:Array Value,v=.agg cs/\cs.size=n/\∀(i:Nat) x,cs[i]?=some x->∃z,x=.int .u8 z/\0<=z/\z<=255:=by
 obtain⟨cs,rfl,hs,h⟩:=yb hu rfl hct (by rw[hn];simp) hv;refine⟨cs,rfl,by simpa using hs,λi x hx=>?_⟩;have hi:i<n:=by
  rcases Nat.lt_or_ge i cs.size with h1|h1
  ·simpa[hs]using h1
  ·rw[Array.getElem?_eq_none h1]at hx;cases hx
 exact Z8 Tryz.underlying5 (h i x 5 hx (by simp[hi]))
theorem aaa {W:World} {v:Value} (hv:Value.okWide prog W .any 0 55 v):∃x0 x1 x2,v=.agg #[.int .u8 x0,.int .u8 x1,.int .u8 x2]/\(0<=x0/\x0<=255)/\(0<=x1/\x1<=255)/\0<=x2/\x2<=255:=by
 obtain⟨cs,rfl,hs,h⟩:=UB (n:=3) (by kernel_rfl) (by kernel_rfl) (by kernel_rfl) hv;rcases cs with⟨l⟩
 match l,hs with
 |[a,b,c],_=>
  obtain⟨z0,rfl,h0⟩:=h 0 a rfl;obtain⟨z1,rfl,h1⟩:=h 1 b rfl;obtain⟨z2,rfl,h2⟩:=h 2 c rfl;exact⟨z0,z1,z2,rfl,h0,h1,h2⟩
end Go.Proofs.YtggfpcggakghnaaGreatDoor
namespace Go.Proofs.YtggfpcggakghnaaGreatDoor
open Go Go.RowKit Go.BigFrame Sx Vx
variable{fr:Sd.Reply->Nat×Sd.Byt}
section
variable{G:Type} [Bl G]
theorem zU {C:Ctx G} {f n:Nat} {ids:List Nat} {bl:List VB} {ch0 rest:List G} {R:List av} {ms:List Nat} {w0 w:World} (hT:∀f c,C.T f=some c->Sound C.P C.gl f c) (hQ:iz C) (hl:ids.length=bl.length) (S:St ms w0 (lits ids ids bl++af (ch0++rest) R) w)
 (is:List Nat) (hn:is.Nodup) (hg:Gl C.gl (is.map λi=>ids.getD i 0)) (bs:List VB) (hb:is.map (bl[·]?)=bs.map some) (hw:dk 0 bs=true) {args args':List V} (a9:ao ids args=ao (is.map λi=>ids.getD i 0) args') {v0:V} (OT:fK 0 v0=true)
 (fU:cJ C n f args' bs ch0 (cP bs.length λv b c=>v=v0/\b.take bs.length=bs/\∃c2,c=ch0++c2)):aj C.P f (ao ids args).toArray w λv w'=>v=den [] v0/\St ms w0 (lits ids ids bl++af (ch0++rest) R) w':=by
 have hlen:is.length=bs.length:=by have:=congrArg List.length hb;simpa using this
 have uC:∀(k i:Nat),is[k]?=some i->∃b,bs[k]?=some b/\bl[i]?=some b:=by
  intro k i hk;have:=congrArg (λl=>l[k]?) hb;simp only[List.getElem?_map,hk,Option.map_some]at this;cases hbk:bs[k]?with
  |none=>rw[hbk]at this;simp at this
  |some b=>rw[hbk]at this;simp only[Option.map_some,Option.some.injEq]at this;exact⟨b,rfl,this⟩
 have iK:∀i∈is,i<bl.length:=by
  intro i hi;obtain⟨k,hk⟩:=List.getElem?_of_mem hi;obtain⟨b,_,h2⟩:=uC k i hk;exact bO h2
 obtain⟨r,hr,hp⟩:=ux (bl:=bl) (ids:=ids) hl hn iK;have dP:=hp bl rfl;have LY:∀(Ip:List Nat),(is.map λj=>aE ids (ids.getD j 0) (bl.getD j gK))=lits Ip (is.map λi=>ids.getD i 0) bs:=by
  intro Ip;clear hr hp dP a9 fU iK hg;induction is generalizing bs with
  |nil=>simp[lits]
  |cons i is ih=>
   cases bs with
   |nil=>simp at hlen
   |cons b bs=>
    simp only[List.map_cons,List.cons.injEq]at hb;simp only[dk,Bool.and_eq_true]at hw;simp only[List.map_cons,lits,cG hb.1];rw[cF (ids':=Ip) hw.1,ih (List.nodup_cons.1 hn).2 bs hb.2 hw.2 (by simpa using hlen) (λk i hk=>uC (k+1) i (by simpa using hk))]
 rw[LY (is.map λi=>ids.getD i 0)]at dP;have S1:St ms w0 (lits (is.map λi=>ids.getD i 0) (is.map λi=>ids.getD i 0) bs++af ch0 ((r.map λj=>aE ids (ids.getD j 0) (bl.getD j gK))++af rest R)) w:=by
  refine S.perm ((dP.append_right _).trans ?_);rw[cV,aW (af rest R) ch0,aW ((r.map λj=>aE ids (ids.getD j 0) (bl.getD j gK))++af rest R) ch0];exact cj λf=>by simp only[List.countP_append];omega
 rw[a9];refine(bw hT hQ n hg (by simpa using hlen) S1 fU).mono ?_;rintro v w' ⟨x,E1,bl0,ch',rfl,Px,S0,hK⟩;obtain⟨v2,more,bl',hv,D8,S2,rfl,hbs,c2,rfl⟩:=c9 (n0:=bs.length) Px (by simp[hlen]) S0 hK;have htk:((is.map λi=>ids.getD i 0)++E1).take bs.length=is.map λi=>ids.getD i 0:=by rw[<-hlen];have:=List.take_left (l₁:=is.map λi=>ids.getD i 0) (l₂:=E1);simpa using this
 rw[htk]at hv D8 S2;refine⟨by rw[hv];have:=bC (ids:=[]) (more:=(is.map λi=>ids.getD i 0)++more) v2 OT;simpa using this,?_⟩;have gz:bl'=bs++bl'.drop bs.length:=by have:=List.take_append_drop bs.length bl';rw[hbs]at this;exact this.symm
 rw[gz,aI _ _ _ _ (by simpa using hlen),fc (ids':=is.map λi=>ids.getD i 0) (is.map λi=>ids.getD i 0) bs hw]at S2;rw[cV,aW _ ch0,aW _ c2]at S2;have S3:St ms w0 (lits (is.map λi=>ids.getD i 0) (is.map λi=>ids.getD i 0) bs++(af ch0 []++((r.map λj=>aE ids (ids.getD j 0) (bl.getD j gK))++af rest R))) w':=by
  refine S2.sub ?_;rw[List.append_assoc];refine List.Sublist.append_left ?_ _;refine List.Sublist.trans ?_ (List.sublist_append_right _ _);exact List.Sublist.append_left (List.sublist_append_right _ _) _
 refine S3.perm (List.Perm.trans ?_ (dP.symm.append_right _));rw[cV,aW (af rest R) ch0];exact cj λf=>by simp only[List.countP_append];omega
end
theorem afr {G:Type} [Bl G] {C:Ctx Empty} {f n:Nat} {ids:List Nat} {bl:List VB} {ch:List G} {R:List av} {ms:List Nat} {w0 w:World} (hT:∀f c,C.T f=some c->Sound C.P C.gl f c) (hQ:iz C) (hg:C.gl=gv) (hl:ids.length=bl.length) (S:St ms w0 (lits ids ids bl++af ch R) w)
 (is:List Nat) (hn:is.Nodup) (bs:List VB) (hb:is.map (bl[·]?)=bs.map some) (hw:dk 0 bs=true) {args args':List V} (a9:ao ids args=ao (is.map λi=>ids.getD i 0) args') {v0:V} (OT:fK 0 v0=true)
 (fU:cJ C n f args' bs [] (cP bs.length λv b c=>v=v0/\b.take bs.length=bs/\∃c2,c=[]++c2)):aj C.P f (ao ids args).toArray w λv w'=>v=den [] v0/\St ms w0 (lits ids ids bl++af ch R) w':=
 zU (G:=Empty) (ch0:=[]) (rest:=[]) (R:=af ch R) hT hQ hl S is hn (λg i h=>by rw[hg]at h;cases h) bs hb hw a9 OT fU
theorem E2 (C:Sd.Crypt) (p:Sd.Pol) {m:Sd.bW} (hm:C.take 2 (f2 1 1)=some m) (hr:m.role=1) (ht:Sd.fm p 1 1=true):∃r e,(cQ C (ib p) 1 0 2 (f2 1 1)).sent=[(1,r)]/\(cQ C (ib p) 1 0 2 (f2 1 1)).recs=[⟨2,1,0,e,0,0⟩]/\(cQ C (ib p) 1 0 2 (f2 1 1)).c.t.holder=4/\(cQ C (ib p) 1 0 2 (f2 1 1)).c.p=p:=by
 have e:cQ C (ib p) 1 0 2 (f2 1 1)=(ib p).gW C 1 2 (f2 1 1):=rfl;rw[e];unfold Sd.Scene.gW;rw[hm];dsimp only;have ht':Sd.fm (ib p).c.p 1 m.role=true:=by rw[hr];exact ht
 rw[if_neg (by rw[ht'];simp),if_neg (by show¬(4294967295:Int)<=0;decide)];exact⟨_,_,rfl,rfl,rfl,rfl⟩
theorem afs:∃m,aT 2 (f2 1 1)=some m/\m.role=1:=⟨_,rfl,rfl⟩
def shC:gm (LG fr):=λargs bl ch K=>match args,ch,bl with
 |[],.cn u::rest,⟨w0,⟨tg,(0,0)⟩,c0⟩::⟨w1,⟨tc,(0,0)⟩,c1⟩::bl2=>(w0=false/\c0=(gi tg).c/\w1=false/\c1=(sf tc).c)/\K (.bool true) (⟨w0,⟨tg,(0,0)⟩,c0⟩::⟨w1,⟨tc,(0,0)⟩,c1⟩::bl2) (.cn u::rest)
 |_,_,_=>False
theorem Cm (u:World) (f:Nat->Int):gF u none 0 0 f:=⟨Nat.le_refl _,λ_=>⟨rfl,rfl⟩,λx e=>nomatch e⟩
theorem UC {tg tc it:Nat} {k:LK} {s:Sd.Scene} (h1:k.tg=tg) (h2:k.tc=tc) (h3:s.c.p.queue=k.most):EY tg tc it k s:=by
 subst h1 h2;exact⟨rfl,rfl,rfl,rfl,rfl,h3⟩
theorem aft {tg tc:Nat} {u:World} {K:VK (LG fr)} (hK:∀(g:Gh fr) (fB:List av),K (.bool true) [gi tg,sf tc] [.cn u,.core g fB]):shX (ah aT) tg tc u K:=by
 refine⟨⟨Cm _ _,Cm _ _,Cm _ _,Cm _ _⟩,λp n d hM=>?_⟩;have hn:∀j,j<4->1<=n j/\n j<=64:=λj hj=>by rw[hM.n j];exact TZ _
 obtain⟨h1,h2⟩:=afp (m:=2) (d:=d) hM.I hM.o hn;have h1':EX (kg 2 p n d) (n4 n):=⟨h1.code,λj hj=>by
  rw[<-h1.n j hj]
  match j,hj with
  |0,_=>rfl
  |1,_=>rfl
  |2,_=>rfl
  |3,_=>rfl
  |j+4,h=>exact absurd h (by omega),h1.k⟩
 refine⟨h1',λp2 k F hN v1 v2=>?_⟩;have hC:=Ur hN (h2 _) (λj hj=>by rw[nH _ _ _ _ hj];exact hn j hj);refine⟨UC hN.tg hN.tc hN.most.symm,⟨rfl,rfl,rfl⟩,hN.zF,⟨by rw[iB];exact hC,v1,v2,by decide,λj=>by unfold f2;split<;>decide⟩,?_⟩;rintro s' hs r fn F0 w1 w2 hfr;rw[iB]at hs;obtain⟨m,hm,hr⟩:=afs;have hp:p2.i 10=2:=by
  rw[hN.eq];show iN (nth (kg 2 p n d) 10)=2;rw[Ck 2 p n d (by decide) rfl,hM.p 10 (by decide) rfl];show bits .and .i64 2 14=2;decide
 have ht:Sd.fm p2 1 1=true:=by
  unfold Sd.fm Sd.Pol.vX;have:p2.i (9+Int.toNat 1)=2:=hp;rw[this];decide
 obtain⟨x,e,q1,q2,q3,hpq⟩:=E2 (ah aT) p2 hm hr ht;rw[<-hs]at q1 q2 q3 hpq;have l1:s'.sent.length=1:=by rw[q1];rfl
 have l2:s'.recs.length=1:=by rw[q2];rfl
 have l3:(s'.sent.getD 0 default).1=1:=by rw[q1];rfl
 have l4:(s'.recs.getD 0 default).kind=2:=by rw[q2];rfl
 unfold shE;refine aU (λ_=>⟨⟨by decide,by omega⟩,⟨by omega,λj=>rfl⟩,?_⟩) (λh=>absurd h (by simp[l1]));refine aU (λ_=>?_) (λh=>absurd h (by rw[l3];decide));refine aU (λ_=>⟨⟨by decide,by omega⟩,⟨by omega,λj=>rfl⟩,?_⟩) (λh=>absurd h (by simp[l2]));refine aU (λ_=>?_) (λh=>absurd h (by rw[l4];decide));refine⟨UC hN.tg hN.tc (by show s'.c.p.queue=k.most;rw[hpq];exact hN.most.symm),λx c ty us=>?_⟩;have:((fS s').c.t.holder==4)=true:=by show(s'.c.t.holder==4)=true;rw[q3];rfl
 rw[this];exact hK _ _
theorem N1 (ht:Body (fr:=fr) 147 bV):Sound prog gS 9 (shC (fr:=fr)):=by
 intro args ids bl ch R ms w0 w K hg hl S hc;unfold shC at hc;split at hc
 ·rename_i u rest w0' tg c0 w1' tc c1 bl2;obtain⟨⟨rfl,rfl,rfl,rfl⟩,hK⟩:=hc;have Zy:Gl gS ([0,1].map λi=>ids.getD i 0):=by
   intro g i iX;unfold gS at iX;split at iX
   ·obtain rfl:=Option.some.inj iX;exact⟨by simp,(hg 1 0 rfl).2⟩
   ·obtain rfl:=Option.some.inj iX;exact⟨by simp,(hg 0 1 rfl).2⟩
   ·cases iX
  have fU:cJ (dR prog gS (LSh fr (ah aT))) 60 9 [] [gi tg,sf tc] [.cn u] (cP 2 λv b c=>v=.bool true/\b.take 2=[gi tg,sf tc]/\∃c2,c=[.cn u]++c2):=by
   rw[ajw];exact aft λg fB=>⟨rfl,rfl,_,rfl⟩
  refine(zU (C:=dR prog gS (LSh fr (ah aT))) (Us ht).T (Us ht).Q hl (ch0:=[.cn u]) (rest:=rest) S [0,1] (by decide) Zy [gi tg,sf tc] rfl rfl (args:=[]) (args':=[]) rfl rfl fU).mono ?_;rintro v w' ⟨rfl,S2⟩;exact⟨.bool true,[],_,_,rfl,by simpa using hl,by simpa using S2,hK⟩
 ·exact hc.elim
def aab (P:Program):(Operand->V)->Op->List VB->List (LG fr)->VK (LG fr)->Prop:=λe op bl ch K=>match op with
 |.buildSlice t 0 ps=>(match ps.toList,P.underlying t with
  |[],some (.slice T)=>(match j_ P T,jo P T with
   |some (z+1),some zc=>cond (Nat.beq (eL zc) (z+1)) (∀r:aC,r.T=T->r.z=z+1->r.os=[]->r.n=0->K r.v bl (ch++[.row r])) False
   |_,_=>False)
  |_,_=>False)
 |.call c=>(match c.callee,c.args.toList,c.argTypes.toList with
  |.builtin .append,[s,xs],[t,tx]=>(match P.underlying t,P.underlying tx with
   |some (.slice T),some (.slice _)=>(match gZ P T,e xs,ch with
    |some (z,cX),.oN i 0 m cc x,.cn u::.core g fB::.row r::rest=>(match bl[i]?with
     |some ⟨_,_,[.fp z' m' f,.rest _]⟩=>cond (Nat.beq z z'&&Nat.ble cX 10000000)
      ((e s=r.v/\r.T=T/\r.z=z/\m'=m/\(∀j,(f j).length=z)/\(∀j u,u∈f j->u.oneCell'=true)/\r.n+m<=1000000)/\
        ∀r2:aC,r2.T=r.T->r2.z=r.z->r2.os=r.os++(List.range m).flatMap f->r2.n=r.n+m->K r2.v bl (.cn u::.core g fB::.row r2::rest)) False
     |_=>False)
    |_,_,_=>False)
   |_,_=>False)
  |_,_,_=>False)
 |_=>False
theorem E3 {z:Nat} {f:Nat->List Value} (h:∀j,(f j).length=z):∀m,((List.range m).flatMap f).length=m*z
 |0=>by simp
 |m+1=>by rw[List.range_succ,List.flatMap_append,List.length_append,E3 h m];simp[h,Nat.add_mul]
theorem lgB (u:World) (g:Gh fr) (fB:List av) (r:aC) (rest:List (LG fr)) (R:List av):af (LG.cn u::LG.core g fB::LG.row r::rest) R=(du u++(g.F.B++fB))++(r.bl++af rest R):=by
 show du u++((g.F.B++fB)++(r.bl++af rest R))=_;simp only[List.append_assoc]
theorem KV {P:Program} {gl:Nat->Option Nat}:oA P gl (aab (fr:=fr) P):=by
 intro e op ids bl ch R ms w0 w K ρ o hg hl S cx ho h;unfold aab at h;split at h
 ·rename_i t ps;split at h
  ·rename_i T Mc hu;split at h
   ·rename_i z zc hz hzc;cases hq:Nat.beq (eL zc) (z+1)with
    |false=>rw[hq]at h;exact h.elim
    |true=>
     rw[hq]at h;simp only[cond_true]at h;have aY:=na (P:=P) (ids:=ids) (w:=w) (len:=0) (ps:=[]) (c:=[]) hu hz hzc (Nat.eq_of_beq_eq_true hq) (by simp) rfl
     let r:aC:=⟨T,z+1,[],some ⟨w.heap.size,0,none⟩,0,0,[⟨w.heap.size,true,.cells #[] T (0,0)⟩],by simp,Nat.le_refl _,.inr ⟨w.heap.size,[],rfl,rfl,by simp⟩⟩
     have hn:=S.new (Ch.alloc [] w (.cells #[] T)) (Nat.le_refl _) (heap_alloc_new w _);refine⟨r.v,[],bl,ch++[.row r],w.alloc (.cells #[] T),.inl ?_,by simpa using hl,?_,h r rfl rfl rfl rfl⟩
     ·unfold execOp;have hp0:ps=#[]:=by apply Array.ext';simpa using Mc
      subst hp0;simp only[ho];rw[Sem.run_bind];have h2:(Instr.buildSlice t 0 #[]).run P w=.ok (.slice (some ⟨w.heap.size,0,none⟩) 0 0) (w.alloc (.cells #[] T)):=aY;have h3:((#[]:Array (Nat×Operand)).map λ(x:Nat×Operand)=>match x with|(i,x)=>(i,ρ x))=#[]:=by simp
      rw[h3,h2];rfl
     ·rw[List.append_nil,cV];have e2:af [LG.row (fr:=fr) r] R=⟨w.heap.size,true,.cells #[] T (0,0)⟩::R:=rfl;rw[e2,aW (_::R) ch];rw[aW R ch]at hn;refine hn.perm ?_;exact cj λf=>by simp only[List.countP_append,List.countP_cons];omega
   ·exact h.elim
  ·exact h.elim
 ·rename_i c;split at h
  ·rename_i s xs t tx eU a9 ju;split at h
   ·rename_i T T' ht o9;split at h
    ·rename_i z cX i m cc x u g fB r rest aF ow;split at h
     ·rename_i wr ty z' m' f us hb;cases hq:Nat.beq z z'&&Nat.ble cX 10000000 with
      |false=>rw[hq]at h;exact h.elim
      |true=>
       rw[hq]at h;simp only[cond_true]at h;simp only[Bool.and_eq_true]at hq;obtain⟨q1,q4⟩:=hq;obtain rfl:=Nat.eq_of_beq_eq_true q1;have q4:=Nat.le_of_ble_eq_true q4;obtain⟨⟨hs,rfl,rfl,rfl,hf,ho1,hn⟩,hK⟩:=h;have hi:(P.info? r.T).map (λi=>(i.zero.map (·.cells.size),i.size,i.bytes))=some (some r.z,r.z,cX):=by
        unfold gZ at aF;split at aF
        ·rename_i inf wv;split at aF
         ·rename_i v hv;cases Mg:Nat.beq v.cells.size inf.size with
          |false=>rw[Mg]at aF;simp at aF
          |true=>
           rw[Mg]at aF;simp only[cond_true,Option.some.injEq,Prod.mk.injEq]at aF;have:=Nat.eq_of_beq_eq_true Mg;simp[wv,hv,this,aF.1,aF.2]
         ·cases aF
        ·cases aF
       have ba:=(cA hl S hb).2;have hlen:=E3 hf m';have Ay:∀u∈(List.range m').flatMap f,u.oneCell'=true:=λu hu=>by
        obtain⟨j,_,hj⟩:=List.mem_flatMap.1 hu;exact ho1 j u hj
       have fZ:Src P r.z tx (.slice (bif Nat.beq m' 0 then x else some ⟨ids.getD i 0,0,none⟩) m' cc) m' ((List.range m').flatMap f) w:=by
        by_cases h0:m'=0
        ·subst h0;cases x with
         |none=>exact Src.ofNil w o9 cc
         |some a=>exact Src.ofSlice w o9 a 0 cc [] (by simp) (λj u hj=>by simp at hj) (λu hu=>by simp at hu)
        ·have WG:Nat.beq m' 0=false:=by
          cases WG:Nat.beq m' 0 with
          |false=>rfl
          |true=>exact absurd (Nat.eq_of_beq_eq_true WG) h0
         rw[WG];refine Src.ofSlice w o9 ⟨ids.getD i 0,0,none⟩ m' cc _ hlen (λj u hj=>?_) Ay;rw[Addr.add_lit,cell_of ba];simp only[ab,cl,List.append_nil];have hjl:j<((List.range m').flatMap f).length:=by
          rcases Nat.lt_or_ge j ((List.range m').flatMap f).length with h|h
          ·exact h
          ·rw[List.getElem?_eq_none h]at hj;cases hj
         rw[List.getElem?_toArray,Nat.zero_add,List.getElem?_append_left hjl];exact hj
       have e1:lits ids ids bl++af (LG.cn u::LG.core g fB::LG.row r::rest) R=(lits ids ids bl++(du u++(g.F.B++fB)))++(r.bl++af rest R):=by
        simp only[lgB,List.append_assoc]
       rw[e1]at S;have AD:(r.n+m')*cX<=140737488355328:=Nat.le_trans (Nat.mul_le_mul hn q4) (by decide);obtain⟨v,w',aY,hc,x',c',bl',rfl,mT,oC⟩:=gE (P:=P) (ty:=o.type) r.h (λy hy=>S.at' (by simp[hy])) cX fZ ht hi AD (Nat.le_trans hn (by decide));have S2:=S.yE r.h.wr hc (λy hy=>(oC y hy).1) (λy hy=>(oC y hy).2) mT.pw;refine⟨_,[],bl,_,w',.inl ?_,by simpa using hl,?_,hK ⟨r.T,r.z,_,x',r.n+m',c',bl',mT⟩ rfl rfl rfl rfl⟩
       ·obtain⟨FZ,ar,td⟩:=c;simp only at eU a9 ju;have e2:ar=#[s,xs]:=by rw[<-a9]
        have e3:td=#[t,tx]:=by rw[<-ju]
        subst eU e2 e3;have:=bP (P:=P) (ρ:=ρ) (o:=o) ho (sv:=.slice r.x r.n r.c) (xv:=.slice (bif Nat.beq m' 0 then x else some ⟨ids.getD i 0,0,none⟩) m' cc) (by rw[cx,hs];simp only[aC.v,den]) (by rw[cx,ow];simp only[den]) aY;simpa[den,aC.v]using this
       ·rw[List.append_nil];have e4:lits ids ids bl++af (LG.cn u::LG.core g fB::LG.row ⟨r.T,r.z,r.os++(List.range m').flatMap f,x',r.n+m',c',bl',mT⟩::rest) R=(lits ids ids bl++(du u++(g.F.B++fB)))++(bl'++af rest R):=by
         simp only[lgB,List.append_assoc]
        rw[e4];exact S2
     ·exact h.elim
    ·exact h.elim
   ·exact h.elim
  ·exact h.elim
 ·exact h.elim
structure SiD where
 h:Int
 e:Int
 o:Int
 m:Int
 mb:Sd.Label
 pt:Sd.Point
 b0:Bool
 b1:Bool
 b2:Bool
 b3:Bool
 b4:Bool
 r0:Int
 r1:Int
 r2:Int
 r3:Int
 r4:Int
 bad:Bool
def UD (a b:Sd.Label):Bool:=a.mD==b.mD&&(a.source==b.source&&(a.seq==b.seq&&true))
theorem N2 (a:Sd.Label):UD a a=true:=by simp[UD]
section
variable(x:SiD) (n c c':Nat) (y y':Option Addr) (q:Nat->Int) (a b:Bool) (ty ty':BT) (u u':List Value) (K:VK Empty)
end
end Go.Proofs.YtggfpcggakghnaaGreatDoor
