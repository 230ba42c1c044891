/- Part 20 of the proof. -/
import Derived.Test.YtlkpikfddnjilaaGreatDoorE19
set_option linter.all false
set_option maxRecDepth 100000
set_option maxHeartbeats 4000000
open Go.Proofs.Tryz
namespace Go.Proofs.YtlkpikfddnjilaaGreatDoor
open Go Go.RowKit Go.BigFrame Sx Vx
variable{fr:Sd.Reply->Nat×Sd.Byt}
def HD:List Int->List V
 |[]=>[]
 |n::l=>.int .i64 n::HD l
def Pf (l:List Int) (t:List Value):VB:=⟨true,⟨3,(0,0)⟩,HD l++[.rest t]⟩
def lc (x:Int) (A B:Prop):Prop:=match x with
 |.ofNat 0=>B
 |x=>cond (Sd.linked x) A B
theorem aeT {x:Int} {A B:Prop} (h:cond (Sd.linked x) A B):lc x A B:=by
 unfold lc;split
 ·exact h
 ·exact h
def mw:List Bool->Int->List Int
 |[],_=>[]
 |b::l,n=>cond b (n::mw l (n+1)) (mw l (n+1))
def oo (t:Sd.Tab):List Bool:=[t.fy,t.dE 0,t.dE 1,t.dE 2]
def TB3 (t:Sd.Tab):Prop:=(dB t.aF.2.n/\dB t.aF.2.most)/\(dB (t.aE 0).aP.n/\dB (t.aE 0).aP.most)/\(dB (t.aE 1).aP.n/\dB (t.aE 1).aP.most)/\(dB (t.aE 2).aP.n/\dB (t.aE 2).aP.most)
def FA (bl:List VB) (ch:List (Gh fr)) (K:VK (Gh fr)) (n:Nat) (B:List Value->VB):Prop:=match n with
 |0=>∀(x:Option Addr) (c:Nat),K (.raw (.slice x 0 c)) bl ch
 |n+1=>∀(c:Nat) (t:List Value),K (.sl bl.length 0 (n+1) c) (bl++[B t]) ch
def vH (bs:List Bool):jq (Gh fr):=λargs bl ch K=>match args with
 |[.ptr it 0]=>(match bl[it]?with
  |some ⟨true,⟨143,(0,0)⟩,tc⟩=>(match vj tc with
   |some y=>cond (ez bl.length bl) ((TB3 (aM y)/\oo (aM y)=bs)/\FA (bl.set it ⟨true,⟨143,(0,0)⟩,bZ (DK (aM y).tick y.b y.m)⟩) ch K (mw bs 0).length (Pf (mw bs 0))) False
   |none=>False)
  |_=>False)
 |_=>False
def vI:jq (Gh fr):=λargs bl ch K=>match args,ch with
 |[.raw vp],g::rest=>cond (ez bl.length bl) ((vp=vq g.d.k/\∀a∈g.d.q,dB a.gF.n/\dB a.gF.most)/\∀B (h:QS g.d.k.bq g.d.k.most (Sd.Q.kept g.d.q) B),
  (Sd.Q.gone g.d.q=[]->FA bl (⟨{g.d with q:=Sd.Q.kept g.d.q},g.dx,g.sx,g.F.bI _ B h⟩::rest) K 0 (lx []))/\
  (∀a,Sd.Q.gone g.d.q=[a]->FA bl (⟨{g.d with q:=Sd.Q.kept g.d.q},g.dx,g.sx,g.F.bI _ B h⟩::rest) K 1 (lx [a]))/\
  (∀a b,Sd.Q.gone g.d.q=[a,b]->FA bl (⟨{g.d with q:=Sd.Q.kept g.d.q},g.dx,g.sx,g.F.bI _ B h⟩::rest) K 2 (lx [a,b]))/\
  (∀a b d,Sd.Q.gone g.d.q=[a,b,d]->FA bl (⟨{g.d with q:=Sd.Q.kept g.d.q},g.dx,g.sx,g.F.bI _ B h⟩::rest) K 3 (lx [a,b,d]))) False
 |_,_=>False
def L9 (fr:Sd.Reply->Nat×Sd.Byt) (C:Sd.Crypt) (bs:List Bool):List (eG (Gh fr)):=⟨63,false,vH bs⟩::⟨68,false,vI⟩::L8 fr C
theorem aeU (tk:Nat->Sd.Byt->Option Sd.dw) (ht:Body (fr:=fr) 130 bN) (bs:List Bool) (h1:Sound prog gS 63 (vH (fr:=fr) bs)) (h2:Sound prog gS 68 (vI (fr:=fr))):ao prog gS (L9 fr (aq tk) bs):=
 ao.cons ⟨h1,λe=>by cases e⟩ (ao.cons ⟨h2,λe=>by cases e⟩ (vD tk ht))
section
variable(C:Sd.Crypt) (k:LK) (s0:Sd.Scene) (Kb:SK fr k)
abbrev SC (fr:Sd.Reply->Nat×Sd.Byt) (k:LK):=(s:Sd.Scene)->cz fr (b9 k s)->List VB->Prop
def tkE (cont:SC fr k):List Int->SC fr k
 |[],s,F,j=>cont s F j
 |x::l,s,F,j=>eu k s F/\gT C [.int .i64 5,.int .i64 x,.int .i64 0,.int .i64 0,.int .i64 0] k (du s) F λv s2 F2=>True/\lc x (eu k s2 F2/\jL C [.int .i64 x] k (du s2) F2 λv s3 F3=>tkE cont l s3 F3 j) (tkE cont l s2 F2 j)
def PtB (p:Sd.Point):Prop:=dB p.cg.a/\dB p.cg.b/\dB p.cg.c/\dB p.cg.d/\dB p.now.a/\dB p.now.b/\dB p.now.c/\dB p.now.d
def pz (s:Sd.Scene):Sd.Scene:={s with c:={s.c with pt:=s.c.pt.step s.c.p}}
def tkL:List Sd.Ask->SC fr k
 |[],s,F,j=>eu k s F/\vC C [] k (du s) F λv s2 F2=>(Sd.cP s2.c.p/\PtB s2.c.pt)/\aN k s0 Kb (.aI []) (cT k (pz s2) F2++j) [cB k (pz s2) F2]
 |a::l,s,F,j=>eu k s F/\mZ [.int .i64 a.source,.int .i64 a.source,.int .i64 30] k (du s) F λv s2 F2=>eu k s2 F2/\gT C [.int .i64 12,.int .i64 a.source,.int .i64 0,.int .i64 30,.int .i64 0] k (du s2) F2 λv s3 F3=>tkL l s3 F3 (j++[⟨true,⟨101,(0,0)⟩,NT a⟩])
def tkQ:SC fr k:=λs F j=>(vq k=vq k/\∀a∈s.c.q,dB a.gF.n/\dB a.gF.most)/\∀B (h:QS k.bq k.most (Sd.Q.kept s.c.q) B),
 (Sd.Q.gone s.c.q=[]->∀(x:Option Addr) (c:Nat),tkL C k s0 Kb [] (bI s (Sd.Q.kept s.c.q)) (F.bI (Sd.Q.kept s.c.q) B h) j)/\
 (∀a,Sd.Q.gone s.c.q=[a]->∀(c:Nat) (t:List Value),tkL C k s0 Kb [a] (bI s (Sd.Q.kept s.c.q)) (F.bI (Sd.Q.kept s.c.q) B h) (j++[lx [a] t]))/\
 (∀a b,Sd.Q.gone s.c.q=[a,b]->∀(c:Nat) (t:List Value),tkL C k s0 Kb [a,b] (bI s (Sd.Q.kept s.c.q)) (F.bI (Sd.Q.kept s.c.q) B h) (j++[lx [a,b] t]))/\
 (∀a b d,Sd.Q.gone s.c.q=[a,b,d]->∀(c:Nat) (t:List Value),tkL C k s0 Kb [a,b,d] (bI s (Sd.Q.kept s.c.q)) (F.bI (Sd.Q.kept s.c.q) B h) (j++[lx [a,b,d] t]))
def tkO:SC fr k:=λs F j=>(dB s.c.t.oa.n/\dB s.c.t.oa.most)/\cond (decide (s.c.t.tick.2>=0))
 (eu k (fF s s.c.t.tick.1) F/\mZ [.int .i64 s.c.t.tick.1.holder,.int .i64 s.c.t.tick.2,.int .i64 30] k (du (fF s s.c.t.tick.1)) F λv s2 F2=>eu k s2 F2/\gT C [.int .i64 12,.int .i64 s.c.t.tick.2,.int .i64 0,.int .i64 30,.int .i64 0] k (du s2) F2 λv s3 F3=>tkQ C k s0 Kb s3 F3 (j++[⟨true,⟨88,(0,0)⟩,cI s.c.t.tick.1⟩]))
 (tkQ C k s0 Kb (fF s s.c.t.tick.1) F (j++[⟨true,⟨88,(0,0)⟩,cI s.c.t.tick.1⟩]))
def tkF (E:Sd.Tab):List Int->SC fr k
 |[],s,F,j=>tkO C k s0 Kb (qP s E) F j
 |x::l,s,F,j=>eu k s F/\gT C [.int .i64 5,.int .i64 x,.int .i64 0,.int .i64 0,.int .i64 0] k (qP s E) F λv s2 F2=>True/\lc x (eu k s2 F2/\jL C [.int .i64 x] k (du s2) F2 λv s3 F3=>tkE C k (tkO C k s0 Kb) l s3 F3 j) (tkE C k (tkO C k s0 Kb) l s2 F2 j)
end
def aeV (C:Sd.Crypt) (k:LK) (s:Sd.Scene) (F:cz fr (b9 k s)) (Kb:SK fr k) (l:List Int):Prop:=match l with
 |[]=>∀(x:Option Addr) (c:Nat),tkF C k s Kb (cj s.c.tab).tick [] s F []
 |a::l=>∀(c:Nat) (t:List Value),tkF C k s Kb (cj s.c.tab).tick (a::l) s F [Pf (a::l) t]
def fG (fr:Sd.Reply->Nat×Sd.Byt) (C:Sd.Crypt) (bs:List Bool):Prop:=∀(k:LK) (s:Sd.Scene) (F:cz fr (b9 k s)) (Kb:SK fr k),c_ (dQ prog gS (L9 fr C bs)) 90 38 [.ptr 2 0] (cT k s F) [cB k s F] (aN k s Kb)
 =((TB3 (cj s.c.tab)/\oo (cj s.c.tab)=bs)/\aeV C k s F Kb (mw bs 0))
def gN:Nat->Option Nat:=λ_=>none
def HE (a0 a1 a2 a3:List V) (b m:Int):VB:=⟨true,⟨143,(0,0)⟩,a0++(a1++(a2++(a3++[.int .i64 b,.int .i64 m])))⟩
def aa5 (r:aO) (x:Int) (k:aO->Prop):Prop:=(r.v=r.v/\r.n+1<=1000000)/\∀(xa:Option Addr) (c:Nat) (bk:List aC) (h:eO r.z r.T (r.os++[.int .i64 x]) xa (r.n+1) c bk),k ⟨r.T,r.z,r.os++[.int .i64 x],xa,r.n+1,c,bk,h⟩
def ovX (on:Bool) (t:Sd.Timer) (aht aeW ahu:Prop):Prop:=cond (!on) aht ((dB t.n/\dB t.most)/\True/\cond t.step.due ahu aeW)
def UX (on:Bool) (t:Sd.Timer):List V:=[.bool on,.int .i64 t.n,.int .i64 t.most]
def aeX (x:Sd.bu):List V:=[.int .i64 x.role,.ew .u8 32 x.key,.bool x.seen.any,.int .i64 x.seen.high,.int .u64 x.seen.seen]
def aeY:List V:=[.bool false,.int .i64 0,.int .i64 0]
def u8z:List V:=[.int .u8 0,.int .u8 0,.int .u8 0,.int .u8 0,.int .u8 0,.int .u8 0,.int .u8 0,.int .u8 0]
def ahv:List V:=aeY++(.int .i64 0::(u8z++(u8z++(u8z++(u8z++[.bool false,.int .i64 0,.int .u64 0])))))
def aeZ (x:Int):VB:=⟨true,⟨3,(0,0)⟩,[.int .i64 x]⟩
def FB (s:Sd.bu) (x:Int) (j:List VB) (r:aO) (k:List V->List VB->aO->Prop):Prop:=
 ovX s.on s.aP (k (UX s.on s.aP++aeX s) j r) (k (UX s.on s.aP.step++aeX s) j r) (aa5 r x (k ahv (j++[aeZ x])))
def ttX (y:TC) (K:VK aO):Prop:=
 let S3 (a0 a1 a2:List V) (j:List VB) (r:aO):Prop:=FB y.sb 3 j r λa3 j r=>K r.v (HE a0 a1 a2 a3 y.b y.m::j) [r]
 let S2 (a0 a1:List V) (j:List VB) (r:aO):Prop:=FB y.sa 2 j r λa2 j r=>S3 a0 a1 a2 j r
 let S1 (a0:List V) (j:List VB) (r:aO):Prop:=FB y.s0 1 j r λa1 j r=>S2 a0 a1 j r
 ovX y.s1 ⟨y.sn,y.sm⟩ (S1 (UX y.s1 ⟨y.sn,y.sm⟩) [] (.nil 3 1)) (S1 (UX y.s1 (Sd.Timer.step ⟨y.sn,y.sm⟩)) [] (.nil 3 1)) (aa5 (.nil 3 1) 0 (S1 aeY [aeZ 0]))
theorem ae0 (y:TC) (K:VK aO):c_ (AS prog gN (qL aO QV)) 60 63 [.ptr 0 0] [⟨true,⟨143,(0,0)⟩,bZ y⟩] [.nil 3 1] K=ttX y K:=by kernel_rfl
theorem Xz {on:Bool} {t:Sd.Timer} {k0 k1 k2:Prop} (h:dB t.n/\dB t.most) (h0:on=false->k0) (h1:on=true->t.step.due=false->k1) (h2:on=true->t.step.due=true->k2):ovX on t k0 k1 k2:=by
 unfold ovX;cases on with
 |false=>exact h0 rfl
 |true=>exact⟨h,trivial,aS (λe=>h2 rfl e) (λe=>h1 rfl e)⟩
def okR (r:aO) (l:List Int):Prop:=r.T=3/\r.z=1/\r.os=l.map (Value.int .i64)/\r.n=l.length/\l.length<=100
theorem HF {r:aO} {x:Int} {k:aO->Prop} {l:List Int} (h:okR r l) (hl:l.length<100) (hk:∀r',okR r' (l++[x])->k r'):aa5 r x k:=by
 obtain⟨h1,h2,h3,h4,h5⟩:=h;refine⟨⟨rfl,by omega⟩,λxa c bk hh=>hk _ ⟨h1,h2,?_,?_,?_⟩⟩
 ·simp[h3]
 ·simp[h4]
 ·simp;omega
def vJ (s:Sd.bu):Sd.bu:=if s.on then(if s.aP.step.due then Sd.bu.zero else{s with aP:=s.aP.step})else s
theorem FC {s:Sd.bu} {x:Int} {j:List VB} {r:aO} {k:List V->List VB->aO->Prop} {l:List Int} (hb:dB s.aP.n/\dB s.aP.most) (h:okR r l) (hl:l.length<100)
 (hk:∀a j' r',cK 0 a=true->ai [] a=ai [] (r_ (vJ s))->okR r' (l++(if s.on&&s.aP.step.due then[x]else[]))->k a j' r'):FB s x j r k:=by
 refine Xz hb (λe=>hk _ _ _ rfl ?_ ?_) (λe e2=>hk _ _ _ rfl ?_ ?_) (λe e2=>HF h hl λr' hr=>hk _ _ _ rfl ?_ ?_)
 ·rw[vJ,if_neg (by simp[e])];rfl
 ·simpa[e]using h
 ·simp only[vJ,e,e2];rfl
 ·simpa[e,e2]using h
 ·simp only[vJ,e,e2];kernel_rfl
 ·simpa[e,e2]using hr
def KT (y:TC):VK aO:=λv bl ch=>∃(a:List V) (j:List VB) (r:aO),v=r.v/\bl=⟨true,⟨143,(0,0)⟩,a⟩::j/\cK 0 a=true/\ch=[r]/\ai [] a=ai [] (bZ (DK (aM y).tick y.b y.m))/\okR r (mw (oo (aM y)) 0)
theorem qX (ids:List Nat):∀a b:List V,ai ids (a++b)=ai ids a++ai ids b
 |[],b=>by simp[ai]
 |v::a,b=>by simp only[List.cons_append,ai,qX ids a b,List.append_assoc]
theorem HG (n:Nat):∀a b:List V,cK n (a++b)=(cK n a&&cK n b)
 |[],b=>by simp[cK]
 |v::a,b=>by simp only[List.cons_append,cK,HG n a b,Bool.and_assoc]
theorem ae1 (y:TC) (h:TB3 (aM y)):ttX y (KT y):=by
 have e0:okR (.nil 3 1) []:=⟨rfl,rfl,rfl,rfl,by simp⟩;have fin:∀(a0:List V) (l:List Int) (j:List VB) (r:aO),cK 0 a0=true->ai [] a0=ai [] [.bool (aM y).tick.aF.1,.int .i64 (aM y).tick.aF.2.n,.int .i64 (aM y).tick.aF.2.most]->okR r l->l=(if(aM y).fy then[0]else[])->
  FB y.s0 1 j r λa1 j r=>FB y.sa 2 j r λa2 j r=>FB y.sb 3 j r λa3 j r=>KT y r.v (HE a0 a1 a2 a3 y.b y.m::j) [r]:=by
  intro a0 l j r w0 ha hr hl;have Sa:l.length<=1:=by rw[hl];split<;>simp
  refine FC h.2.1 hr (by omega) λa1 j1 r1 w1 h1 k1=>?_;refine FC h.2.2.1 k1 (by simp only[List.length_append];split<;>simp<;>omega) λa2 j2 r2 w2 h2 k2=>?_;refine FC h.2.2.2 k2 (by simp only[List.length_append];split<;>split<;>simp<;>omega) λa3 j3 r3 w3 h3 k3=>?_;refine⟨_,j3,r3,rfl,rfl,?_,rfl,?_,?_⟩
  ·simp only[HG,w0,w1,w2,w3];rfl
  ·have e:bZ (DK (aM y).tick y.b y.m)=[.bool (aM y).tick.aF.1,.int .i64 (aM y).tick.aF.2.n,.int .i64 (aM y).tick.aF.2.most]++(r_ (vJ y.s0)++(r_ (vJ y.sa)++(r_ (vJ y.sb)++[.int .i64 y.b,.int .i64 y.m]))):=rfl;rw[e];simp only[qX,ha,h1,h2,h3]
  ·have e:mw (oo (aM y)) 0=l++(if y.s0.on&&y.s0.aP.step.due then[1]else[])++(if y.sa.on&&y.sa.aP.step.due then[2]else[])++(if y.sb.on&&y.sb.aP.step.due then[3]else[]):=by
    rw[hl];have f0:(aM y).dE 0=(y.s0.on&&y.s0.aP.step.due):=rfl;have f1:(aM y).dE 1=(y.sa.on&&y.sa.aP.step.due):=rfl;have f2:(aM y).dE 2=(y.sb.on&&y.sb.aP.step.due):=rfl;simp only[oo,mw,f0,f1,f2];cases(aM y).fy<;>cases(y.s0.on&&y.s0.aP.step.due)<;>cases(y.sa.on&&y.sa.aP.step.due)<;>cases(y.sb.on&&y.sb.aP.step.due)<;>rfl
   rw[e];exact k3
 have hs:(aM y).fy=(y.s1&&(Sd.Timer.step ⟨y.sn,y.sm⟩).due):=rfl;have ht:(aM y).tick.aF=if y.s1 then(if(Sd.Timer.step ⟨y.sn,y.sm⟩).due then(false,.zero)else(true,Sd.Timer.step ⟨y.sn,y.sm⟩))else(y.s1,⟨y.sn,y.sm⟩):=rfl
 refine Xz h.1 (λe=>fin _ [] _ _ rfl ?_ e0 ?_) (λe e2=>fin _ [] _ _ rfl ?_ e0 ?_) (λe e2=>HF e0 (by simp) λr' hr=>fin _ [0] _ _ rfl ?_ hr ?_)
 ·rw[ht,if_neg (by simp[e])];rfl
 ·rw[hs,e];rfl
 ·rw[ht,if_pos e,if_neg (by simp[e2]),e];rfl
 ·rw[hs,e,e2];rfl
 ·rw[ht,if_pos e,if_pos e2];rfl
 ·rw[hs,e,e2];rfl
theorem HH {n:Nat} {b:VB} (hb:cK n b.c=true):∀{bl:List VB} (i:Nat),ez n bl=true->ez n (bl.set i b)=true
 |[],i,h=>by simp[ez]
 |x::l,0,h=>by simp only[ez,Bool.and_eq_true,List.set]at h⊢;exact⟨hb,h.2⟩
 |x::l,i+1,h=>by simp only[ez,Bool.and_eq_true,List.set]at h⊢;exact⟨h.1,HH hb i h.2⟩
theorem xO (ids:List Nat):∀l:List Int,ai ids (HD l)=l.map (Value.int .i64)
 |[]=>rfl
 |n::l=>by simp only[HD,ai,cl,den,xO ids l,List.map_cons,List.singleton_append]
theorem HI {r:aO} {n:Nat} {B:List Value->VB} (hB:∀(ids:List Nat) (b:Nat) (t:List Value),aW ids b (B t)=⟨b,true,.cells (r.os++t).toArray r.T (0,0)⟩) (hn:r.n=n) {bl:List VB} {ids:List Nat} {ch:List (Gh fr)} {R:List aC} {ms:List Nat} {w0 w:World} {K:VK (Gh fr)}
 (hl:ids.length=bl.length) (hw:ez bl.length bl=true) (S:St ms w0 (lits ids ids bl++(r.bl++ak ch R)) w) (hK:FA bl ch K n B):
 ∃x more bl' ch',Value.slice r.x r.n r.c=den (ids++more) x/\(ids++more).length=bl'.length/\St ms w0 (lits (ids++more) (ids++more) bl'++ak ch' R) w/\K x bl' ch':=by
 obtain⟨h1,h2,h3⟩:=r.h;cases n with
 |zero=>
  refine⟨_,[],bl,ch,?_,by simpa using hl,?_,hK r.x r.c⟩
  ·simp only[den];rw[hn]
  ·rw[List.append_nil];exact S.sub (List.Sublist.append_left (List.sublist_append_right _ _) _)
 |succ n=>
  rcases h3 with⟨_,hz,_⟩|⟨b,tail,hx,hbl,_⟩
  ·omega
  ·refine⟨_,[b],_,ch,?_,by simp[hl],?_,hK r.c tail⟩
   ·simp only[den];rw[<-hl,cQ,hx,hn]
   ·rw[aY _ _ _ _ hl,a_ _ _ (by rw[hl];exact hw)];simp only[lits,hB,List.append_assoc];rw[hbl]at S;exact S
theorem CN (bs:List Bool) (gl:Nat->Option Nat):Sound prog gl 63 (vH (fr:=fr) bs):=by
 intro args ids bl ch R ms w0 w K hg hl S hc;unfold vH at hc;split at hc
 ·rename_i it;split at hc
  ·rename_i tc hb;split at hc
   ·rename_i y hy;cases hq:ez bl.length bl with
    |false=>rw[hq]at hc;exact hc.elim
    |true=>
     rw[hq]at hc;obtain⟨⟨hT,hO⟩,hK⟩:=hc;obtain rfl:=kl hy;have hi:=ct hb;obtain⟨r,hr,eo⟩:=OU hl hi;have p1:=eo bl rfl;have S1:=S.perm (p1.append_right _);rw[cR hb]at S1;have S2:St ms w0 (lits [ids.getD it 0] [ids.getD it 0] [⟨true,⟨143,(0,0)⟩,bZ y⟩]++ak [aO.nil 3 1] ((r.map λj=>aW ids (ids.getD j 0) (bl.getD j ir))++ak ch R)) w:=by
      have e:lits [ids.getD it 0] [ids.getD it 0] [⟨true,⟨143,(0,0)⟩,bZ y⟩]=[aW ids (ids.getD it 0) ⟨true,⟨143,(0,0)⟩,bZ y⟩]:=by
       simp only[lits,aW];have a:=b_ (ids:=[]) (more:=[ids.getD it 0]) (bZ y) rfl;have b:=b_ (ids:=[]) (more:=ids) (bZ y) rfl;simp only[List.nil_append]at a b;rw[a,b]
      rw[e];simpa[ak,aO.nil,Bl.B]using S1
     have main:=bW (fZ (sW gN)).TR (fZ (sW gN)).QR 60 (C:=AS prog gN (qL aO QV)) (args:=[.ptr 0 0]) (K:=KT y) (λg i h=>by cases h) rfl S2 (by rw[ae0];exact ae1 y hT);have a1:(az ids [.ptr it 0]).toArray=(az [ids.getD it 0] [.ptr 0 0]).toArray:=rfl;rw[a1];refine main.mono ?_;rintro v w' ⟨x,more,bl',ch',rfl,DJ,S3,a,j,r',rfl,rfl,hwa,rfl,ha,hR⟩;have S4:St ms w0 (lits ids ids (bl.set it ⟨true,⟨143,(0,0)⟩,bZ (DK (aM y).tick y.b y.m)⟩)++(r'.bl++ak ch R)) w':=by
      have p2:=eo (bl.set it ⟨true,⟨143,(0,0)⟩,bZ (DK (aM y).tick y.b y.m)⟩) (by simp);have e3:(r.map λj=>aW ids (ids.getD j 0) ((bl.set it ⟨true,⟨143,(0,0)⟩,bZ (DK (aM y).tick y.b y.m)⟩).getD j ir))=r.map λj=>aW ids (ids.getD j 0) (bl.getD j ir):=by
       apply List.map_congr_left;intro j hj;simp only[List.getD];rw[eY (Ne.symm (hr j hj))]
      rw[e3,cR (mY hi)]at p2;have e4:lits ([ids.getD it 0]++more) ([ids.getD it 0]++more) (⟨true,⟨143,(0,0)⟩,a⟩::j)=aW ids (ids.getD it 0) ⟨true,⟨143,(0,0)⟩,bZ (DK (aM y).tick y.b y.m)⟩::lits ([ids.getD it 0]++more) more j:=by
       simp only[List.singleton_append,lits,aW];have d1:=b_ (ids:=[]) (more:=ids.getD it 0::more) a hwa;have d2:=b_ (ids:=[]) (more:=ids) (bZ (DK (aM y).tick y.b y.m)) rfl;simp only[List.nil_append]at d1 d2;rw[d1,d2,ha]
      rw[e4]at S3;simp only[ak,Bl.B]at S3;have S5:=S3.sub (bs':=aW ids (ids.getD it 0) ⟨true,⟨143,(0,0)⟩,bZ (DK (aM y).tick y.b y.m)⟩::(r'.bl++((r.map λj=>aW ids (ids.getD j 0) (bl.getD j ir))++ak ch R))) (by
       rw[List.cons_append];exact List.Sublist.cons_cons _ (List.sublist_append_right _ _))
      refine S5.perm ?_;refine List.Perm.trans ?_ (p2.symm.append_right _);rw[List.cons_append];exact List.Perm.cons _ (List.perm_append_comm_assoc _ _ _)
     obtain⟨x,bj,bl2,ch2,g1,g2,g3,g4⟩:=HI (r:=r') (n:=(mw bs 0).length) (B:=Pf (mw bs 0)) (by
      intro ids b t;simp only[aW,Pf,qX,xO,hR.2.2.1,hR.1,hO,ai,cl,List.append_nil]) (by rw[hR.2.2.2.1,hO]) (by simpa using hl) (by rw[List.length_set];exact HH (by rfl) it hq) S4 hK
     exact⟨x,bj,bl2,ch2,by rw[<-g1];simp only[aO.v,den],g2,g3,g4⟩
   ·exact hc.elim
  ·exact hc.elim
 ·exact hc.elim
def fq (e:One):One:=⟨{e.a with gF:=e.a.gF.step},e.came⟩
def XA (most came:Int) (gq:aO) (K:VK aO):List One->List VB->aO->aO->Prop
 |[],j,g1,g2=>K g1.v (bE g2.v most came::j) [g1,g2,gq]
 |e::l,j,g1,g2=>(dB e.a.gF.n/\dB e.a.gF.most)/\True/\cond e.a.gF.step.due
  (apps g1 (ai [] (kj (fq e).a)) λg1=>XA most came gq K l (j++[⟨true,⟨146,(0,0)⟩,mX (fq e)⟩,⟨true,⟨101,(0,0)⟩,kj (fq e).a⟩]) g1 g2)
  (apps g2 (ai [] (mX (fq e))) λg2=>XA most came gq K l (j++[⟨true,⟨146,(0,0)⟩,mX (fq e)⟩,⟨true,⟨146,(0,0)⟩,mX (fq e)⟩]) g1 g2)
def qtA (n:Nat) (most came:Int) (gq:aO) (es:List One) (K:VK aO):Prop:=
 (bE gq.v most came=bE gq.v most came/\gq.T=146/\gq.z=5/\gq.os=dS es/\gq.n=es.length/\es.length=n/\bT es)/\Ol n es (λx c=>XA most came gq K [] [] (.nil 101 4) (.nil 146 5)) (λc l t=>XA most came gq K l [dr l t] (.nil 101 4) (.nil 146 5))
section
variable(most came:Int) (gq:aO) (es:List One) (K:VK aO)
abbrev LQ (n:Nat) (es:List One) (most came:Int):List (eG aO):=⟨59,false,tP n es most came⟩::qL aO QV
theorem aa6:c_ (AS prog gN (LQ 0 es most came)) 60 68 [.ptr 0 0] [bE gq.v most came] [.nil 101 4,.nil 146 5,gq] K=qtA 0 most came gq es K:=by kernel_rfl
theorem aa7:c_ (AS prog gN (LQ 1 es most came)) 60 68 [.ptr 0 0] [bE gq.v most came] [.nil 101 4,.nil 146 5,gq] K=qtA 1 most came gq es K:=by kernel_rfl
theorem aa8:c_ (AS prog gN (LQ 2 es most came)) 60 68 [.ptr 0 0] [bE gq.v most came] [.nil 101 4,.nil 146 5,gq] K=qtA 2 most came gq es K:=by kernel_rfl
theorem aa9:c_ (AS prog gN (LQ 3 es most came)) 60 68 [.ptr 0 0] [bE gq.v most came] [.nil 101 4,.nil 146 5,gq] K=qtA 3 most came gq es K:=by kernel_rfl
end
def KQ (most came:Int) (gq:aO) (G:List Sd.Ask) (ko:List One):VK aO:=λv bl ch=>∃(j:List VB) (g1 g2:aO),v=g1.v/\bl=bE g2.v most came::j/\ch=[g1,g2,gq]/\Uf g1 101 4 (lr G) G.length/\Uf g2 146 5 (dS ko) ko.length
theorem xP:∀a b:List One,dS (a++b)=dS a++dS b
 |[],b=>rfl
 |x::a,b=>by simp only[List.cons_append,dS,xP a b,List.append_assoc]
theorem FE (most came:Int) (gq:aO):∀(l:List One) (j:List VB) (g1 g2:aO) (G:List Sd.Ask) (Kp:List One),Uf g1 101 4 (lr G) G.length->Uf g2 146 5 (dS Kp) Kp.length->G.length+l.length<100->Kp.length+l.length<100->
 (∀e∈l,dB e.a.gF.n/\dB e.a.gF.most)->XA most came gq (KQ most came gq (G++((l.map fq).map (·.a)).filter λa=>a.gF.due) (Kp++(l.map fq).filter λe=>!e.a.gF.due)) l j g1 g2
 |[],j,g1,g2,G,Kp,h1,h2,_,_,_=>by
  refine⟨j,g1,g2,rfl,rfl,rfl,?_,?_⟩
  ·simpa using h1
  ·simpa using h2
 |e::l,j,g1,g2,G,Kp,h1,h2,l1,l2,hb=>by
  simp only[List.length_cons]at l1 l2;refine⟨hb e (by simp),trivial,aS (λhd=>zU h1 (by omega) λr' hr=>?_) (λhd=>zU h2 (by omega) λr' hr=>?_)⟩
  ·have ny:(fq e).a.gF.due=true:=hd;have:=FE most came gq l (j++[⟨true,⟨146,(0,0)⟩,mX (fq e)⟩,⟨true,⟨101,(0,0)⟩,kj (fq e).a⟩]) r' g2 (G++[(fq e).a]) Kp (by rw[r9,List.length_append];exact hr) h2 (by simp;omega) (by omega) (λx hx=>hb x (by simp[hx]));simp only[List.map_cons,List.filter_cons,ny,if_true,Bool.not_true,Bool.false_eq_true,if_false];simpa[List.append_assoc]using this
  ·have ny:(fq e).a.gF.due=false:=hd;have:=FE most came gq l (j++[⟨true,⟨146,(0,0)⟩,mX (fq e)⟩,⟨true,⟨146,(0,0)⟩,mX (fq e)⟩]) g1 r' G (Kp++[fq e]) h1 (by rw[xP,List.length_append];exact hr) (by omega) (by simp;omega) (λx hx=>hb x (by simp[hx]));simp only[List.map_cons,List.filter_cons,ny,Bool.false_eq_true,if_false,Bool.not_false,if_true];simpa[List.append_assoc]using this
def Ao (x y:Sd.Ask):Prop:=x.aU<y.aU/\¬x.source=y.source
theorem Pg {es:List One} (h:bT es):(bC es).Pairwise Ao:=by
 match es,h with
 |[],_=>simp[bC]
 |[x],_=>simp[bC]
 |[x,y],h=>simp only[bT]at h;simp[bC,Ao];exact h
 |[x,y,z],h=>
  simp only[bT]at h;simp only[bC];split
  ·simp[Ao];omega
  ·simp[Ao];omega
 |_::_::_::_::_,h=>exact absurd h (by simp[bT])
theorem UY {l:List One} (hl:l.length<=3) (h:(l.map (·.a)).Pairwise Ao):bT l/\bC l=l.map (·.a):=by
 match l,hl,h with
 |[],_,_=>exact⟨trivial,rfl⟩
 |[x],_,_=>exact⟨trivial,rfl⟩
 |[x,y],_,h=>simp[Ao]at h;exact⟨h,rfl⟩
 |[x,y,z],_,h=>
  simp[Ao]at h;refine⟨⟨⟨h.1.1.1,h.1.2.1,by omega⟩,h.1.1.2,h.1.2.2,h.2.2⟩,?_⟩;simp only[bC,if_pos h.2.1];rfl
theorem Ph {L:List Sd.Ask} (h:L.Pairwise Ao):(Sd.Q.pS L).Pairwise Ao:=by
 unfold Sd.Q.pS;rw[List.pairwise_map];exact h
theorem aa_ {bq:Nat} {most:Int} {L:List Sd.Ask} {B bs:List aC} {ms:List Nat} {w0 w:World} (hQ:QS bq most L B) (hB:∀a∈L,dB a.gF.n/\dB a.gF.most) (S0:St ms w0 (B++bs) w):
 au prog 68 #[.pointer (some ⟨bq,0,none⟩)] w λv w1=>∃(B':List aC) (r:aO),v=.slice r.x r.n r.c/\Uf r 101 4 (lr (Sd.Q.gone L)) (Sd.Q.gone L).length/\QS bq most (Sd.Q.kept L) B'/\St ms w0 (r.bl++(B'++bs)) w1:=by
 obtain⟨es,x,c,came,rows,rfl,hr,hH,rfl⟩:=hQ;obtain⟨hal,GW⟩:=vg hH
 let gq:aO:=⟨146,5,dS es,x,es.length,c,rows,hr⟩
 have S1:St ms w0 (lits [bq] [bq] [bE gq.v most came]++ak [aO.nil 101 4,.nil 146 5,gq] bs) w:=by simpa[lits,ak,Bl.B,aO.nil,gq,aW,bE,aO.v,ai,cl,den]using S0
 let KK:VK aO:=λv bl ch=>∃l:List One,l.map (·.a)=bC es/\l.length=es.length/\KQ most came gq (((l.map fq).map (·.a)).filter λa=>a.gF.due) ((l.map fq).filter λe=>!e.a.gF.due) v bl ch
 have hq:∀(l:List One) (j:List VB),l.map (·.a)=bC es->l.length=es.length->XA most came gq KK l j (.nil 101 4) (.nil 146 5):=by
  intro l j hm hl;have h1:=FE most came gq l j (.nil 101 4) (.nil 146 5) [] [] ⟨rfl,rfl,rfl,rfl⟩ ⟨rfl,rfl,rfl,rfl⟩ (by simp;omega) (by simp;omega) (λe he=>hB e.a (by rw[<-hm];exact List.mem_map.2 ⟨e,he,rfl⟩));have mono:∀(l:List One) (j:List VB) (g1 g2:aO) (K K':VK aO),(∀v bl ch,K v bl ch->K' v bl ch)->XA most came gq K l j g1 g2->XA most came gq K' l j g1 g2:=by
   intro l;induction l with
   |nil=>intro j g1 g2 K K' h hk;exact h _ _ _ hk
   |cons e l ih=>
    intro j g1 g2 K K' h hk;obtain⟨a1,a2,a3⟩:=hk;refine⟨a1,a2,?_⟩;cases hd:e.a.gF.step.due with
    |true=>rw[hd]at a3;exact⟨a3.1,λxa c bk hh=>ih _ _ _ K K' h (a3.2 xa c bk hh)⟩
    |false=>rw[hd]at a3;exact⟨a3.1,λxa c bk hh=>ih _ _ _ K K' h (a3.2 xa c bk hh)⟩
  exact mono _ _ _ _ _ _ (λv bl ch hk=>⟨l,hm,hl,by simpa using hk⟩) h1
 have hA:qtA es.length most came gq es KK:=by
  refine⟨⟨rfl,rfl,rfl,rfl,rfl,rfl,hH⟩,Hp GW (λh0 x c=>hq [] [] ?_ ?_) (λl c t hm hl=>hq l _ hm hl)⟩
  ·rw[List.eq_nil_of_length_eq_zero h0];rfl
  ·rw[h0];rfl
 have fW:c_ (AS prog gN (LQ es.length es most came)) 60 68 [.ptr 0 0] [bE gq.v most came] [.nil 101 4,.nil 146 5,gq] KK:=by
  rcases(by omega:es.length=0\/es.length=1\/es.length=2\/es.length=3)with h|h|h|h<;>rw[h]at hA⊢
  ·rw[aa6];exact hA
  ·rw[aa7];exact hA
  ·rw[aa8];exact hA
  ·rw[aa9];exact hA
 have dc:ao prog gN (LQ es.length es most came):=ao.cons ⟨qH _ es most came,λe=>by cases e⟩ (fZ (sW gN));have main:=bW dc.TR dc.QR 60 (C:=AS prog gN (LQ es.length es most came)) (args:=[.ptr 0 0]) (K:=KK) (λg i h=>by cases h) rfl S1 fW;refine Calls.mono main ?_;rintro e w' ⟨v,rfl,xx,more,bl',ch',rfl,DJ,S3,l,hm,hl,j,g1,g2,rfl,rfl,rfl,h1,h2⟩;have hg:Sd.Q.gone (bC es)=((l.map fq).map (·.a)).filter λa=>a.gF.due:=by
  rw[<-hm];simp only[Sd.Q.gone,Sd.Q.pS,List.map_map];rfl
 have hk:Sd.Q.kept (bC es)=((l.map fq).filter λe=>!e.a.gF.due).map (·.a):=by
  rw[<-hm];simp only[Sd.Q.kept,Sd.Q.pS,List.map_map,List.filter_map];rfl
 have hko:((l.map fq).filter λe=>!e.a.gF.due).length<=3:=by
  have:=List.length_filter_le (λe:One=>!e.a.gF.due) (l.map fq);simp at this⊢;omega
 obtain⟨hH',hab⟩:=UY hko (by rw[<-hk];exact(Ph (Pg hH)).filter _);obtain⟨t1,t2,t3,t4⟩:=h2;have hr2:=g2.h;rw[t1,t2,t3,t4]at hr2;refine⟨_,rfl,⟨bq,true,.cells #[.slice g2.x ((l.map fq).filter λe=>!e.a.gF.due).length g2.c,.int .i64 most,.int .u64 came] 132 (0,0)⟩::g2.bl,g1,?_,?_,?_,?_⟩
 ·simp only[aO.v,den]
 ·rw[hg];exact h1
 ·exact⟨_,g2.x,g2.c,came,g2.bl,rfl,hr2,hH',by rw[hab,hk]⟩
 ·have e1:lits ([bq]++more) ([bq]++more) (bE g2.v most came::j)=⟨bq,true,.cells #[.slice g2.x g2.n g2.c,.int .i64 most,.int .u64 came] 132 (0,0)⟩::lits ([bq]++more) more j:=rfl;rw[e1,t4]at S3;have S4:=S3.sub (bs':=⟨bq,true,.cells #[.slice g2.x ((l.map fq).filter λe=>!e.a.gF.due).length g2.c,.int .i64 most,.int .u64 came] 132 (0,0)⟩::(g1.bl++(g2.bl++bs))) (by
   rw[List.cons_append];refine List.Sublist.cons_cons _ ?_;refine List.Sublist.trans ?_ (List.sublist_append_right _ _);exact List.Sublist.append_left (List.Sublist.append_left (List.sublist_append_right _ _) _) _)
  refine S4.perm ?_;exact List.perm_middle.symm
theorem CO (gl:Nat->Option Nat):Sound prog gl 68 (vI (fr:=fr)):=by
 intro args ids bl ch R ms w0 w K hg hl S hc;unfold vI at hc;split at hc
 ·rename_i vp g rest;cases hq:ez bl.length bl with
  |false=>rw[hq]at hc;exact hc.elim
  |true=>
   rw[hq]at hc;obtain⟨⟨rfl,hb⟩,hK⟩:=hc;have e0:ak (g::rest) R=g.F.B++ak rest R:=rfl;rw[e0,tq]at S;have hL:=aa_ g.F.hq hb (S.perm (py _ _ _ _ _ _ _));have ea:(az ids [.raw (vq g.d.k)]).toArray=#[.pointer (some ⟨g.d.k.bq,0,none⟩)]:=rfl;rw[ea];refine hL.mono ?_;rintro v w1 ⟨B',r,rfl,hr,hQ',S1⟩;obtain⟨k0,k1,k2,k3⟩:=hK B' hQ';have S2:St ms w0 (lits ids ids bl++(r.bl++ak (⟨{g.d with q:=Sd.Q.kept g.d.q},g.dx,g.sx,g.F.bI _ B' hQ'⟩::rest) R)) w1:=by
    have e1:ak (⟨{g.d with q:=Sd.Q.kept g.d.q},g.dx,g.sx,g.F.bI _ B' hQ'⟩::rest:List (Gh fr)) R=(g.F.Br++(g.F.Bs++(g.F.Bf++(B'++g.F.Bk))))++ak rest R:=rfl;rw[e1];refine S1.perm ?_;refine(List.Perm.append_left r.bl (py (lits ids ids bl) _ _ _ _ _ _).symm).trans ?_;exact List.perm_append_comm_assoc _ _ _
   have hlen:(Sd.Q.gone g.d.q).length<=3:=by
    have h1:=Xx g.F.hq;have:=List.length_filter_le (λa:Sd.Ask=>a.gF.due) (Sd.Q.pS g.d.q);simp only[Sd.Q.gone,Sd.Q.pS,List.length_map]at this⊢;omega
   have fin:∀(A:List Sd.Ask) (n:Nat),Sd.Q.gone g.d.q=A->A.length=n->FA bl (⟨{g.d with q:=Sd.Q.kept g.d.q},g.dx,g.sx,g.F.bI _ B' hQ'⟩::rest) K n (lx A)->
    ∃x more bl' ch',Value.slice r.x r.n r.c=den (ids++more) x/\(ids++more).length=bl'.length/\St ms w0 (lits (ids++more) (ids++more) bl'++ak ch' R) w1/\K x bl' ch':=by
    rintro A n hA rfl hk;obtain⟨t1,t2,t3,t4⟩:=hr;rw[hA]at t3 t4;exact HI (r:=r) (B:=lx A) (λids b t=>by simp only[aW,lx,qX,sf,t3,t1,ai,cl,List.append_nil]) t4 hl hq S2 hk
   match hG:Sd.Q.gone g.d.q with
   |[]=>exact fin [] 0 hG rfl (k0 hG)
   |[a]=>exact fin [a] 1 hG rfl (k1 a hG)
   |[a,b]=>exact fin [a,b] 2 hG rfl (k2 a b hG)
   |[a,b,d]=>exact fin [a,b,d] 3 hG rfl (k3 a b d hG)
   |_::_::_::_::_=>rw[hG]at hlen;simp at hlen
 ·exact hc.elim
def tu (n:Nat) (f:Nat->Int):Sd.dw:=match cu n f with
 |some m=>m
 |none=>Sd.jd 0
def vK (n:Nat) (f:Nat->Int):Int:=match cu n f with
 |some _=>0
 |none=>13
def UZ (n:Nat) (f:Nat->Int):V:=.aI [.agg (cC (tu n f)),.int .i64 (vK n f)]
theorem FF (n:Nat) (f:Nat->Int):Fq n f=UZ n f:=by
 unfold Fq UZ tu vK;cases cu n f<;>rfl
theorem FG (n:Nat) (f:Nat->Int):fR 0 (UZ n f)=true:=rfl
theorem aba (x:Option Addr) (c:Nat) (X:V->Prop):c_ (KW prog AU LTm) 90 126 [.raw (.slice x 0 c)] [] [] (λv _ _=>X v)=X ph:=by kernel_rfl
theorem take_nil (x:Option Addr) (c:Nat) (f:Nat->Int) (w:World):au prog 126 #[.slice x 0 c] w λv w1=>v=den [] (Fq 0 f)/\Ch [] w w1:=by
 have fW:c_ (KW prog AU LTm) 90 126 [.raw (.slice x 0 c)] [] [] (λv _ _=>v=ph):=by rw[aba]
 refine(bW Aj.TS Aj.QS 90 (C:=KW prog AU LTm) (ids:=[]) (bl:=[]) (ch:=[]) (R:=[]) (ms:=[]) (w0:=w) (args:=[.raw (.slice x 0 c)]) (λg i h=>by cases h) rfl (St.nil [] w) fW).mono ?_;rintro v w' ⟨x,more,bl',ch',rfl,DJ,S2,rfl⟩;refine⟨?_,S2.ch⟩;have:=bR (ids:=[]) (more:=[]++more) ph rfl;have e:Fq 0 f=ph:=rfl;rw[e];simpa using this
theorem CP {b m n c:Nat} {f:Nat->Int} {t:List Value} {w:World} (hf:By f) (hn:n<=m) (hc:n<=c) (hB:w.heap[b]?=some (.cells ((List.range m).map (λj=>Value.int .u8 (f j))++t).toArray 5 (0,0))):
 au prog 126 #[.slice (some ⟨b,0,none⟩) n c] w λv w1=>v=den [] (Fq n f)/\Ch [] w w1:=by
 refine UI b n c f (((List.range m).map (λj=>Value.int .u8 (f j))).drop n++t) hf hc w ?_;have e:(List.range n).map (λj=>Value.int .u8 (f j))=((List.range m).map (λj=>Value.int .u8 (f j))).take n:=by
  rw[<-List.map_take,List.take_range,Nat.min_eq_left hn]
 rw[e,<-List.append_assoc,List.take_append_drop];exact hB
def qtk:QF:=⟨126,λargs bl=>match args with
 |[.sl i 0 n c]=>(match bl[i]?with
  |some b=>(match b.c with
   |[.ew .u8 m f,.rest t]=>bif A5 b.ty 5 then some ((n<=m/\n<=c/\By f),UZ n f)else none
   |_=>none)
  |none=>none)
 |[.raw (.slice x 0 c)]=>some (True,UZ 0 λ_=>0)
 |_=>none⟩
theorem Pj (gl:Nat->Option Nat):qtk.Ok prog gl:=by
 intro args bl p v h hp ids w hg hm;unfold qtk at h;dsimp only at h;split at h
 ·rename_i i n c;split at h
  ·rename_i b hb;split at h
   ·rename_i m f t hc;cases hq:A5 b.ty 5 with
    |false=>rw[hq]at h;cases h
    |true=>
     rw[hq]at h;simp only[cond_true,Option.some.injEq,Prod.mk.injEq]at h;obtain⟨rfl,rfl⟩:=h;have cD:=hm.2 i b hb;rw[hc,yJ hq]at cD;have e:(ai ids [V.ew .u8 m f,.rest t]).toArray=((List.range m).map (λj=>Value.int .u8 (f j))++t).toArray:=by simp[ai,cl]
     rw[e]at cD;refine(CP hp.2.2 hp.1 hp.2.1 cD).mono ?_;rintro x w' ⟨rfl,kq⟩;refine⟨?_,kq⟩;rw[FF];have:=bR (ids:=[]) (more:=ids) (UZ n f) (FG n f);simpa using this.symm
   ·cases h
  ·cases h
 ·rename_i x c;obtain⟨rfl,rfl⟩:True=p/\UZ 0 (λ_=>0)=v:=by simpa using h
  refine(take_nil x c (λ_=>0) w).mono ?_;rintro y w' ⟨rfl,kq⟩;refine⟨?_,kq⟩;rw[FF];have:=bR (ids:=[]) (more:=ids) (UZ 0 λ_=>0) (FG 0 _);simpa using this.symm
 ·cases h
theorem CQ:Sound prog gS 126 (vG (fr:=fr) (aq cu)):=by
 intro args ids bl ch R ms w0 w K hg hl S hc;unfold vG at hc;split at hc
 ·rename_i vp g rest;obtain⟨⟨rfl,hn,hf⟩,h1,h2⟩:=hc;have e0:ak (g::rest) R=g.F.B++ak rest R:=rfl;have S':=S;rw[e0]at S';have main:au prog 126 #[.slice g.d.k.px g.d.k.pn g.d.k.pc] w λv w1=>v=den [] (Fq g.d.k.pn g.d.k.pf)/\Ch [] w w1:=by
   obtain⟨b0,b1,b2,b3,b4,hB,k0,k1,k2,k3,k4⟩:=g.F.hk;have cD:∀y∈g.F.Bk,w.heap[y.id]?=some y.obj:=λy hy=>S'.at' (by rw[tq];simp[hy]);rw[hB]at cD;obtain⟨hle,h|⟨b,hx,hb⟩⟩:=k4
   ·obtain⟨_,hz,_,_⟩:=h;rw[hz];exact take_nil _ _ _ w
   ·have h4:=cD ⟨b,true,.cells (cd g.d.k.pn g.d.k.pf g.d.k.pc) 5 (0,0)⟩ (by simp[hb]);rw[hx];have e:∃t,cd g.d.k.pn g.d.k.pf g.d.k.pc=((List.range g.d.k.pn).map (λj=>Value.int .u8 (g.d.k.pf j))++t).toArray:=by
     exact⟨List.replicate (g.d.k.pc-g.d.k.pn) (.int .u8 0),by unfold cd;congr 2⟩
    obtain⟨t,e⟩:=e;rw[e]at h4;exact CP hf (Nat.le_refl _) hle h4
  have ea:(az ids [.raw (eb g.d.k)]).toArray=#[.slice g.d.k.px g.d.k.pn g.d.k.pc]:=rfl;rw[ea];refine main.mono ?_;rintro v w1 ⟨rfl,kq⟩;refine⟨Fq g.d.k.pn g.d.k.pf,[],bl,g::rest,?_,by simpa using hl,by simpa using S.quiet kq,?_⟩
  ·rw[FF];have:=bR (ids:=[]) (more:=ids++[]) (UZ g.d.k.pn g.d.k.pf) (FG _ _);simpa using this.symm
  ·unfold Fq;cases h:cu g.d.k.pn g.d.k.pf with
   |some m=>exact h1 m h
   |none=>exact h2 h (Sd.jd 0) 13 (by decide)
 ·exact hc.elim
theorem Kc (ht:Body (fr:=fr) 130 bN):Body (fr:=fr) 85 (si (aq cu)):=Fz cu ht CQ
def pY (b m:Int):Sd.Pol:=⟨λi=>if i=42 then b else if i=49 then m else 0,λ_=>(0,λ_=>0)⟩
def Pk:QT:=⟨132,λar y=>match ar with
 |[.int .i64 s,.int .i64 r,.agg [.ew .u8 32 key]]=>some ((0<=y.b/\y.b<=1000)/\1<=s/\s<=3,.int .i64 (Sd.Tab.bw (pY y.b y.m) (aM y) s r key).2,(Sd.Tab.bw (pY y.b y.m) (aM y) s r key).1)
 |_=>none⟩
theorem Kd:Pk.Ok:=by
 intro ar y p v t hm hp bt bs ms w0 w S;replace hm:(match(generalizing:=false) ar with
  |[.int .i64 s,.int .i64 r,.agg [.ew .u8 32 key]]=>some ((0<=y.b/\y.b<=1000)/\1<=s/\s<=3,V.int .i64 (Sd.Tab.bw (pY y.b y.m) (aM y) s r key).2,(Sd.Tab.bw (pY y.b y.m) (aM y) s r key).1)
  |_=>none)=some (p,v,t):=hm
 split at hm
 ·rename_i s r key;simp only[Option.some.injEq,Prod.mk.injEq]at hm;obtain⟨rfl,rfl,rfl⟩:=hm;obtain⟨hb,h1,h3⟩:=hp;rcases(by omega:s=1\/s=2\/s=3)with rfl|rfl|rfl
  ·exact ai6 y 0 (by omega) r key (pY y.b y.m) rfl rfl S
  ·exact ai6 y 1 (by omega) r key (pY y.b y.m) rfl rfl S
  ·exact ai6 y 2 (by omega) r key (pY y.b y.m) rfl rfl S
 ·cases hm
def vL:jq (Gh fr):=λargs bl ch K=>match args,ch with
 |[.agg [.int .i64 m,.bool o,.ew .u8 8 nc],.raw vk,.int .i64 s,.int .i64 r,.agg [.ew .u8 8 pf]],g::rest=>
  (vk=.slice (g.d.k.ka (s.toNat-1)) (g.d.k.kn (s.toNat-1)) (g.d.k.kc (s.toNat-1))/\bl[0]?=some (aG g.d.k)/\(1<=s/\s<=3)/\(0<=r/\r<4294967296)/\(1<=g.d.k.kn (s.toNat-1)/\g.d.k.kn (s.toNat-1)<=64))/\
  cond (!o) (K (.aI [.agg [.int .i64 m,.bool o,.ew .u8 8 nc],.agg [.ew .u8 32 λ_=>0],.int .i64 17]) bl (g::rest))
   (cond (mV (g.d.k.kn (s.toNat-1)) (g.d.k.kf (s.toNat-1)) s r nc pf)
    (K (.aI [.agg [.int .i64 m,.bool false,.ew .u8 8 λ_=>0],.agg [.ew .u8 32 (jW (g.d.k.kn (s.toNat-1)) (g.d.k.kf (s.toNat-1)) s r nc)],.int .i64 0]) bl (g::rest))
    (K (.aI [.agg [.int .i64 m,.bool false,.ew .u8 8 λ_=>0],.agg [.ew .u8 32 λ_=>0],.int .i64 14]) bl (g::rest)))
 |_,_=>False
theorem CR:fC (vL (fr:=fr)):=by
 intro args bl ch K h;unfold vL at h⊢;split at h
 ·rename_i m o nc vk s r pf g rest;refine⟨h.1,?_⟩;have h2:=h.2;cases o with
  |false=>exact⟨h2,[],by simp⟩
  |true=>
   cases hr:mV (g.d.k.kn (s.toNat-1)) (g.d.k.kf (s.toNat-1)) s r nc pf with
   |true=>rw[hr]at h2;exact⟨h2,[],by simp⟩
   |false=>rw[hr]at h2;exact⟨h2,[],by simp⟩
 ·exact h.elim
theorem CS:Sound prog gS 131 (vL (fr:=fr)):=by
 intro args ids bl ch R ms w0 w K hg hl S hc;unfold vL at hc;split at hc
 ·rename_i m o nc vk s r pf g rest;obtain⟨⟨rfl,hr,hs,hrr,hk⟩,hK⟩:=hc;have e0:ak (g::rest) R=g.F.B++ak rest R:=rfl;have S':=S;rw[e0]at S';have hi:s.toNat-1<4:=by omega
  have CK:=HA g.F S' (s.toNat-1) hi (by omega) (by omega);have mh:=HB hg hl S hr;generalize hI:s.toNat-1=i at*;have e:(az ids [.agg [.int .i64 m,.bool o,.ew .u8 8 nc],.raw (.slice (g.d.k.ka i) (g.d.k.kn i) (g.d.k.kc i)),.int .i64 s,.int .i64 r,.agg [.ew .u8 8 pf]]).toArray=#[.agg #[.int .i64 m,.bool o,.int .u8 (nc 0),.int .u8 (nc 1),.int .u8 (nc 2),.int .u8 (nc 3),.int .u8 (nc 4),.int .u8 (nc 5),.int .u8 (nc 6),.int .u8 (nc 7)],.slice (g.d.k.ka i) (g.d.k.kn i) (g.d.k.kc i),.int .i64 s,.int .i64 r,.agg (aj .u8 8 pf)]:=by kernel_rfl
  rw[e];have KM:0<=s/\s<4294967296:=by omega
  cases o with
  |false=>
   refine(ED (g.d.k.ka i) (g.d.k.kn i) (g.d.k.kc i) (g.d.k.kf i) s r ⟨m,false,nc⟩ pf rfl w).mono ?_;rintro v w1 ⟨rfl,kq⟩;exact⟨_,[],bl,g::rest,by kernel_rfl,by simpa using hl,by simpa using S.quiet kq,hK⟩
  |true=>
   cases hq:mV (g.d.k.kn i) (g.d.k.kf i) s r nc pf with
   |true=>
    rw[hq]at hK;refine(NH (g.d.k.ka i) (g.d.k.kn i) (g.d.k.kc i) (g.d.k.kf i) s r ⟨m,true,nc⟩ pf hk KM hrr rfl hq w mh CK).mono ?_;rintro v w1 ⟨rfl,kq⟩;exact⟨.aI [.agg [.int .i64 m,.bool false,.ew .u8 8 λ_=>0],.agg [.ew .u8 32 (jW (g.d.k.kn i) (g.d.k.kf i) s r nc)],.int .i64 0],[],bl,g::rest,by kernel_rfl,by simpa using hl,by simpa using S.quiet kq,hK⟩
   |false=>
    rw[hq]at hK;refine(Jp (g.d.k.ka i) (g.d.k.kn i) (g.d.k.kc i) (g.d.k.kf i) s r ⟨m,true,nc⟩ pf hk KM hrr rfl hq w mh CK).mono ?_;rintro v w1 ⟨rfl,kq⟩;exact⟨.aI [.agg [.int .i64 m,.bool false,.ew .u8 8 λ_=>0],.agg [.ew .u8 32 λ_=>0],.int .i64 14],[],bl,g::rest,by kernel_rfl,by simpa using hl,by simpa using S.quiet kq,hK⟩
 ·exact hc.elim
def LP (fr:Sd.Reply->Nat×Sd.Byt) (C:Sd.Crypt):List (eG (Gh fr)):=qE (Gh fr) qtk::⟨131,true,vL⟩::⟨132,false,tbC Pk⟩::L8 fr C
theorem ae2 (tk:Nat->Sd.Byt->Option Sd.dw) (ht:Body (fr:=fr) 130 bN):ao prog gS (LP fr (aq tk)):=
 ao.cons ⟨qb (Pj gS),λ_=>qa _⟩ (ao.cons ⟨CS,λ_=>CR⟩ (ao.cons (Fo Kd) (vD tk ht)))
def eC (n:Nat) (f:Nat->Int) (t:List Value):VB:=⟨true,⟨5,(0,0)⟩,[.ew .u8 n f,.rest t]⟩
def Pm (k:LK) (s:Sd.Scene) (n:Nat) (f:Nat->Int) (t:List Value) (Kb:SK fr k):V->List VB->List (Gh fr)->Prop:=λv bl ch=>∃s' F',fR 0 v=true/\s'.c.p=s.c.p/\Kb v s' F'/\bl.take 6=cT k s' F'++[eC n f t]/\ch=[cB k s' F']
def CT (s:Sd.Scene) (a b c:Sd.dX) (E:Sd.Tab):Sd.Scene:={s with c:={s.c with doors:=r3 a b c s.c.doors,tab:=⟨E.aF,r3 (E.aE 0) (E.aE 1) (E.aE 2) s.c.tab.aE⟩}}
def bgE (s:Sd.Scene) (l r:Int) (key:Nat->Int):Sd.Tab×Int:=Sd.Tab.bw (pY s.c.p.bU s.c.p.bx) (cj s.c.tab) l r key
section
variable(C:Sd.Crypt) (k:LK) (s:Sd.Scene) (F:cz fr (b9 k s)) (Kb:SK fr k) (l:Int) (i:Nat) (e:Nat) (f:Nat->Int) (t:List Value) (D:Sd.dX->Sd.Scene) (DT:Sd.dX->Sd.Tab->Sd.Scene)
def lf (s0:Sd.Scene) (s':Sd.Scene) (F':cz fr (b9 k s')):Prop:=Pm k s0 10 f t Kb (.aI []) (cT k s' F'++[eC 10 f t]) [cB k s' F']
def w9 (d:Sd.dX):Sd.dX:=⟨d.many,false,λ_=>0⟩
def abb (hD:∀e,b9 k (D e)=b9 k s) (RK:∀e E,b9 k (DT e E)=b9 k s):Prop:=
 let d:=s.c.doors i
 let m:=tu 2 f
 let key:=jW (k.kn i) (k.kf i) l m.role d.ae
 let E:=bgE s l m.role key
 (2<=10/\2<=e+10/\By f)/\cond (vK 2 f !=0) (eu k s F/\sd C [.int .i64 l,.int .i64 13] k (du s) F λv s' F'=>lf k Kb f t s s' F')
 ((Value.slice (k.ka i) (k.kn i) (k.kc i)=.slice (k.ka i) (k.kn i) (k.kc i)/\some (aG k)=some (aG k)/\(1<=l/\l<=3)/\(0<=m.role/\m.role<4294967296)/\(1<=k.kn i/\k.kn i<=64))/\
   cond (!d.kL) (eu k (D d) (hD d▸F)/\dW C [.int .i64 l,.int .i64 0,.int .i64 17] k (D d) (hD d▸F) λv s' F'=>lf k Kb f t s s' F')
   (cond (mV (k.kn i) (k.kf i) l m.role d.ae λj=>f (2+j))
    (True/\cond (!(Sd.j6 s.c.p l m.role)) (eu k (D (w9 d)) (hD (w9 d)▸F)/\dW C [.int .i64 l,.int .i64 0,.int .i64 18] k (D (w9 d)) (hD (w9 d)▸F) λv s' F'=>lf k Kb f t s s' F')
     (((0<=s.c.p.bU/\s.c.p.bU<=1000)/\1<=l/\l<=3)/\cond (E.2!=0) (eu k (DT (w9 d) E.1) (RK (w9 d) E.1▸F)/\dW C [.int .i64 l,.int .i64 0,.int .i64 E.2] k (DT (w9 d) E.1) (RK (w9 d) E.1▸F) λv s' F'=>lf k Kb f t s s' F')
       (eu k (DT (w9 d) E.1) (RK (w9 d) E.1▸F)/\bN [.int .i64 l,.agg (g9 130 0 m.role s.c.t.holder s.c.t.epoch 0)] k (DT (w9 d) E.1) (RK (w9 d) E.1▸F) λv s2 F2=>
        eu k s2 F2/\gT C [.int .i64 3,.int .i64 l,.int .i64 0,.int .i64 0,.int .i64 0] k (du s2) F2 λv s' F'=>lf k Kb f t s s' F')))
    (eu k (D (w9 d)) (hD (w9 d)▸F)/\sd C [.int .i64 l,.int .i64 14] k (D (w9 d)) (hD (w9 d)▸F) λv s' F'=>lf k Kb f t s s' F')))
end
def Ap (fr:Sd.Reply->Nat×Sd.Byt) (C:Sd.Crypt) (l:Int) (i:Nat) (D:Sd.Scene->Sd.dX->Sd.Scene) (DT:Sd.Scene->Sd.dX->Sd.Tab->Sd.Scene) (hD:∀k s e,b9 k (D s e)=b9 k s) (RK:∀k s e E,b9 k (DT s e E)=b9 k s):Prop:=∀(k:LK) (s:Sd.Scene) (F:cz fr (b9 k s)) (Kb:SK fr k) (e:Nat) (f:Nat->Int) (t:List Value),
 c_ (dQ prog gS (LP fr C)) 90 86 [.ptr 2 0,.int .i64 l,.sl 5 0 10 (e+10)] (cT k s F++[eC 10 f t]) [cB k s F] (Pm k s 10 f t Kb)=abb C k s F Kb l i e f t (D s) (DT s) (hD k s) (RK k s)
theorem U0 (fr:Sd.Reply->Nat×Sd.Byt) (C:Sd.Crypt):Ap fr C 1 0 (λs e=>CL s e (s.c.doors 1) (s.c.doors 2)) (λs e E=>CT s e (s.c.doors 1) (s.c.doors 2) E) (λ_ _ _=>rfl) (λ_ _ _ _=>rfl):=λk s F Kb e f t=>by kernel_rfl
theorem U1 (fr:Sd.Reply->Nat×Sd.Byt) (C:Sd.Crypt):Ap fr C 2 1 (λs e=>CL s (s.c.doors 0) e (s.c.doors 2)) (λs e E=>CT s (s.c.doors 0) e (s.c.doors 2) E) (λ_ _ _=>rfl) (λ_ _ _ _=>rfl):=λk s F Kb e f t=>by kernel_rfl
theorem U2 (fr:Sd.Reply->Nat×Sd.Byt) (C:Sd.Crypt):Ap fr C 3 2 (λs e=>CL s (s.c.doors 0) (s.c.doors 1) e) (λs e E=>CT s (s.c.doors 0) (s.c.doors 1) e E) (λ_ _ _=>rfl) (λ_ _ _ _=>rfl):=λk s F Kb e f t=>by kernel_rfl
theorem Ke (fr:Sd.Reply->Nat×Sd.Byt) (C:Sd.Crypt) (k:LK) (s:Sd.Scene) (F:cz fr (b9 k s)) (Kb:SK fr k) (l:Int):c_ (dQ prog gS (LP fr C)) 90 86 [.ptr 2 0,.int .i64 l,.raw (eb k)] (cT k s F) [cB k s F] (aN k s Kb)
 =cond ((k.pn:Int)!=10) (eu k s F/\sd C [.int .i64 l,.int .i64 13] k (du s) F λv s' F'=>aN k s Kb (.aI []) (cT k s' F') [cB k s' F']) (((0:Int)<=2/\(2:Int)<=(k.pc:Int))/\False):=by kernel_rfl
structure U3 (k:LK) (s:Sd.Scene) (l:Int):Prop where
 r:Rm s 8
 lo:1<=l/\l<=3
 key:1<=k.kn (l.toNat-1)/\k.kn (l.toNat-1)<=64
 ke:s.c.p.k (l.toNat-1)=(k.kn (l.toNat-1),k.kf (l.toNat-1))
 bU:0<=s.c.p.bU/\s.c.p.bU<=1000
 jB:N4 s.c.t.holder
 ep:RG s.c.t.epoch
def vM (s:Sd.Scene) (i:Nat) (e:Sd.dX) (t:Sd.Tab):Sd.Scene:={s with c:={s.c with doors:=λj=>if j=i then e else s.c.doors j,tab:=t}}
theorem m8 (s:Sd.Scene) (l r:Int) (key:Nat->Int):(bgE s l r key).2=(Sd.Tab.bw s.c.p s.c.tab l r key).2/\(bgE s l r key).1.aF=(Sd.Tab.bw s.c.p s.c.tab l r key).1.aF/\(1<=l/\l<=3->(∀j,j<3->(bgE s l r key).1.aE j=(Sd.Tab.bw s.c.p s.c.tab l r key).1.aE j)/\∀j,(Sd.Tab.bw s.c.p s.c.tab l r key).1.aE (j+3)=s.c.tab.aE (j+3)):=by
 have hm:(cj s.c.tab).many=s.c.tab.many:=rfl;have hp:(pY s.c.p.bU s.c.p.bx).bx=s.c.p.bx:=rfl;have hb:(pY s.c.p.bU s.c.p.bx).bU=s.c.p.bU:=rfl;have q3:∀j,j<3->(cj s.c.tab).aE j=s.c.tab.aE j:=by
  intro j hj;have:j=0\/j=1\/j=2:=by omega
  rcases this with rfl|rfl|rfl<;>rfl
 unfold bgE Sd.Tab.bw;rw[vo,hm,hp,hb];split
 ·exact⟨rfl,rfl,λ_=>⟨q3,λ_=>rfl⟩⟩
 ·split
  ·exact⟨rfl,rfl,λ_=>⟨q3,λ_=>rfl⟩⟩
  ·refine⟨rfl,rfl,λhl=>⟨λj hj=>?_,λj=>?_⟩⟩
   ·simp only[Sd.Tab.fe];split
    ·rfl
    ·exact q3 j hj
   ·simp only[Sd.Tab.fe];rw[if_neg (by omega)]
theorem vN {s:Sd.Scene} {a b c:Sd.dX} {i:Nat} {e:Sd.dX} {E t:Sd.Tab} (hi:i<3) (ha:a=if 0=i then e else s.c.doors 0) (hb:b=if 1=i then e else s.c.doors 1) (hc:c=if 2=i then e else s.c.doors 2) (h1:E.aF=t.aF) (h2:∀j,j<3->E.aE j=t.aE j) (h3:∀j,t.aE (j+3)=s.c.tab.aE (j+3)):CT s a b c E=vM s i e t:=by
 unfold CT vM;have h:r3 a b c s.c.doors=λj=>if j=i then e else s.c.doors j:=by
  funext j
  match j with
  |0=>exact ha
  |1=>exact hb
  |2=>exact hc
  |j+3=>exact(if_neg (by omega)).symm
 have e:r3 (E.aE 0) (E.aE 1) (E.aE 2) s.c.tab.aE=t.aE:=by
  funext j
  match j with
  |0=>exact h2 0 (by decide)
  |1=>exact h2 1 (by decide)
  |2=>exact h2 2 (by decide)
  |j+3=>exact(h3 j).symm
 rw[h,e,h1]
theorem HJ {k:LK} {s0:Sd.Scene} {Kb:SK fr k} {f:Nat->Int} {t:List Value} {s' sF:Sd.Scene} (e:s'=sF) (hK:∀F,Kb (.aI []) sF F) (F':cz fr (b9 k s')) (hp:s'.c.p=s0.c.p:=by rfl):lf k Kb f t s0 s' F':=by
 subst e;exact⟨s',F',rfl,hp,hK F',rfl,rfl⟩
theorem qY {n:Nat} {f:Nat->Int} (P:Sd.dw->Prop):∀(l:List Fd) (off:Nat) (m r:Sd.dw),(∀d∈l,∀v,d.low<=v->v<=d.high->∀m,P m->P (d.set v m))->P m->runM n f l off m=some r->P r
 |[],off,m,r,_,hm,h=>by
  unfold runM at h;split at h
  ·cases h;exact hm
  ·cases h
 |d::l,off,m,r,hd,hm,h=>by
  unfold runM at h;split at h
  ·cases h
  ·split at h
   ·cases h
   ·rename_i hv;exact qY P l _ _ r (λx hx=>hd x (by simp[hx])) (hd d (by simp) _ (by omega) (by omega) m hm) h
structure HK (k:Int) (m:Sd.dw):Prop where
 kind:m.kind=k
 seq:0<=m.seq/\m.seq<=4294967295
 role:0<=m.role/\m.role<=3
 cg:0<=m.cg/\m.cg<=4
 epoch:0<=m.epoch/\m.epoch<=65535
 mode:0<=m.mode/\m.mode<=4
 cls:0<=m.cls/\m.cls<=3
def okB (d:Fd):Prop:=∀v,d.low<=v->v<=d.high->∀k m,HK k m->HK k (d.set v m)
theorem U4:okB vb:=λv h1 h2 k m h=>⟨h.kind,h.seq,⟨h1,h2⟩,h.cg,h.epoch,h.mode,h.cls⟩
theorem abc:okB iX:=λv h1 h2 k m h=>⟨h.kind,⟨h1,h2⟩,h.role,h.cg,h.epoch,h.mode,h.cls⟩
theorem ae3:okB fTo:=λv h1 h2 k m h=>⟨h.kind,h.seq,h.role,⟨h1,h2⟩,h.epoch,h.mode,h.cls⟩
theorem Pn:okB il:=λv h1 h2 k m h=>⟨h.kind,h.seq,h.role,h.cg,⟨h1,h2⟩,h.mode,h.cls⟩
theorem U5:okB xI:=λv h1 h2 k m h=>⟨h.kind,h.seq,h.role,h.cg,h.epoch,⟨h1,h2⟩,h.cls⟩
theorem abd:okB w7:=λv h1 h2 k m h=>⟨h.kind,h.seq,h.role,h.cg,h.epoch,h.mode,⟨Int.le_trans (by decide) h1,h2⟩⟩
theorem abe:okB JL:=λv h1 h2 k m h=>⟨h.kind,h.seq,h.role,h.cg,h.epoch,h.mode,h.cls⟩
theorem XB (i:Nat) (hi:i<4) (v:Int) (m:Sd.dw):((fX i).set v m).kind=m.kind/\((fX i).set v m).seq=m.seq/\((fX i).set v m).role=m.role/\((fX i).set v m).cg=m.cg/\((fX i).set v m).epoch=m.epoch/\((fX i).set v m).mode=m.mode/\((fX i).set v m).cls=m.cls:=by
 have:i=0\/i=1\/i=2\/i=3:=by omega
 rcases this with rfl|rfl|rfl|rfl<;>exact⟨rfl,rfl,rfl,rfl,rfl,rfl,rfl⟩
theorem U6 (i:Nat) (hi:i<4):okB (fX i):=λv h1 h2 k m h=>by
 obtain⟨a,b,c,d,e,g,j⟩:=XB i hi v m;exact⟨a.trans h.kind,by rw[b];exact h.seq,by rw[c];exact h.role,by rw[d];exact h.cg,by rw[e];exact h.epoch,by rw[g];exact h.mode,by rw[j];exact h.cls⟩
theorem z0 (n:Int) (h:0<=n):(0:Int)<=0/\(0:Int)<=n:=⟨Int.le_refl 0,h⟩
theorem U7 (k:Int):HK k (Sd.jd k):=⟨rfl,z0 _ (by decide),z0 _ (by decide),z0 _ (by decide),z0 _ (by decide),z0 _ (by decide),z0 _ (by decide)⟩
theorem abf {k:Int} {l:List Fd} (h:m7 k=some l):∀d∈l,okB d:=by
 have a1:=U4;have a2:=abc;have a3:=ae3;have a4:=Pn;have a5:=U5;have a6:=abd;have a7:=abe
 have b0:=U6 0 (by decide);have b1:=U6 1 (by decide);have b2:=U6 2 (by decide);have b3:=U6 3 (by decide)
 unfold m7 at h
 repeat' split at h
 all_goals first|(cases h;done)|(obtain rfl:=Option.some.inj h;intro d hd;simp at hd;rcases hd with rfl|rfl|rfl|rfl|rfl|rfl|rfl<;>assumption)|(obtain rfl:=Option.some.inj h;intro d hd;simp at hd;rcases hd with rfl|rfl|rfl<;>assumption)|(obtain rfl:=Option.some.inj h;intro d hd;simp at hd;rcases hd with rfl|rfl<;>assumption)|(obtain rfl:=Option.some.inj h;intro d hd;simp at hd;subst hd;assumption)
theorem Po {k:Int} {l:List Fd} (h:m7 k=some l):1<=k/\k<=11:=by
 unfold m7 at h
 repeat' split at h
 all_goals first|(cases h;done)|omega
theorem FH {n:Nat} {f:Nat->Int} {m:Sd.dw} (h:cu n f=some m):Sd.uZ m:=by
 unfold cu at h;split at h
 ·cases h
 ·split at h
  ·rename_i l hl;have hb:=qY (HK (f 0)) l 1 _ m (λd hd v h1 h2 m hm=>abf hl d hd v h1 h2 _ m hm) (U7 _) h;have hk:=Po hl;refine⟨by rw[hb.kind];exact hk,hb.seq,hb.role,hb.cg,hb.epoch,hb.mode,hb.cls,?_⟩;intro h11;rw[hb.kind]at h11;have ahw:l=[iX,il,w7,fX 0,fX 1,fX 2,fX 3]:=by
    rw[h11]at hl;exact(Option.some.inj hl).symm
   subst ahw;unfold runM at h;split at h
   ·cases h
   split at h
   ·cases h
   unfold runM at h;split at h
   ·cases h
   split at h
   ·cases h
   unfold runM at h;split at h
   ·cases h
   split at h
   ·cases h
   rename_i hv;refine qY (λm=>1<=m.cls) _ _ _ m ?_ ?_ h
   ·intro d hd v _ _ m hm;have:∃i,i<4/\d=fX i:=by
     simp at hd;rcases hd with rfl|rfl|rfl|rfl
     ·exact⟨0,by decide,rfl⟩
     ·exact⟨1,by decide,rfl⟩
     ·exact⟨2,by decide,rfl⟩
     ·exact⟨3,by decide,rfl⟩
    obtain⟨i,hi,rfl⟩:=this;show 1<=((fX i).set v m).cls;rw[(XB i hi v m).2.2.2.2.2.2];exact hm
   ·have h1:w7.low=1:=rfl;have:∀v m,(w7.set v m).cls=v:=λv m=>rfl;show 1<=(w7.set _ _).cls;rw[this];omega
  ·cases h
theorem ae4 {n:Nat} {f:Nat->Int} (h:cu n f≠none):0<=(tu n f).role/\(tu n f).role<=3:=by
 unfold tu;cases hh:cu n f with
 |some m=>exact(FH hh).role
 |none=>exact absurd hh h
theorem HL {n:Nat} {f:Nat->Int} (h:(vK n f !=0)=false):cu n f=some (tu n f):=by
 unfold vK at h;unfold tu;cases hh:cu n f with
 |some m=>rfl
 |none=>rw[hh]at h;simp at h
theorem HM {n:Nat} {f:Nat->Int} (h:(vK n f !=0)=true):cu n f=none:=by
 unfold vK at h;cases hh:cu n f with
 |some m=>rw[hh]at h;simp at h
 |none=>rfl
theorem Aq {k:LK} {s:Sd.Scene} {F:cz fr (b9 k s)} {Kb:SK fr k} {l:Int} {i e:Nat} {f:Nat->Int} {t:List Value} {D:Sd.dX->Sd.Scene} {DT:Sd.dX->Sd.Tab->Sd.Scene} {hD:∀e,b9 k (D e)=b9 k s} {RK:∀e E,b9 k (DT e E)=b9 k s}
 (Xy:∀e,D e=sh s i e) (abg:∀e r key,DT e (bgE s l r key).1=vM s i e (Sd.Tab.bw s.c.p s.c.tab l r key).1) (hi:l.toNat-1=i) (h3:i<3) (hq:s.c.p.queue=k.most) (hP:U3 k s l) (hf:By f) (hK:∀F',Kb (.aI []) (s.prove (aq cu) l 10 f) F'):
 abb (aq cu) k s F Kb l i e f t D DT hD RK:=by
 subst hi;have hP1:=hP.r;have hKk:s.c.p.k (l.toNat-1)=(k.kn (l.toNat-1),k.kf (l.toNat-1)):=hP.ke;have abh:∀(x:Sd.Scene) (hx:b9 k x=b9 k s) (c:Int) (sF:Sd.Scene),x.c.p=s.c.p->N8 c->x.refuse (aq cu) l 0 c=sF->(∀F,Kb (.aI []) sF F)->eu k x (hx▸F)/\dW (aq cu) [.int .i64 l,.int .i64 0,.int .i64 c] k x (hx▸F) λv s' F'=>lf k Kb f t s s' F':=by
  intro x hx c sF hp hc hE hKF;have hs:x.sent=s.sent:=congrArg FD.sent hx;have hr:x.recs=s.recs:=congrArg FD.recs hx;refine⟨eZ (by rw[hp];exact hq),⟨⟨by rw[hs];have:=hP1.1;omega,by rw[hr];have:=hP1.2;omega⟩,Uu,hc⟩,λF1=>HJ hE hKF F1 hp⟩
 have ahx:∀(x:Sd.Scene) (hx:b9 k x=b9 k s) (c:Int) (sF:Sd.Scene),x.c.p=s.c.p->x.dp (aq cu) l c=sF->(∀F,Kb (.aI []) sF F)->eu k x (hx▸F)/\sd (aq cu) [.int .i64 l,.int .i64 c] k x (hx▸F) λv s' F'=>lf k Kb f t s s' F':=by
  intro x hx c sF hp hE hKF;have hr:x.recs=s.recs:=congrArg FD.recs hx;exact⟨eZ (by rw[hp];exact hq),by show x.recs.length<=1000;rw[hr];have:=hP1.2;omega,λF1=>HJ hE hKF F1 hp⟩
 have hpr:s.prove (aq cu) l 10 f=match cu 2 f with
  |none=>s.dp (aq cu) l 13
  |some m=>if(s.c.doors (l.toNat-1)).kL=false then s.refuse (aq cu) l 0 17
   else if mV (k.kn (l.toNat-1)) (k.kf (l.toNat-1)) l m.role (s.c.doors (l.toNat-1)).ae (λj=>f (2+j))=false then(sh s (l.toNat-1) (w9 (s.c.doors (l.toNat-1)))).dp (aq cu) l 14
   else if Sd.j6 s.c.p l m.role=false then(sh s (l.toNat-1) (w9 (s.c.doors (l.toNat-1)))).refuse (aq cu) l 0 18
   else if(Sd.Tab.bw s.c.p s.c.tab l m.role (jW (k.kn (l.toNat-1)) (k.kf (l.toNat-1)) l m.role (s.c.doors (l.toNat-1)).ae)).2≠0 then(sh s (l.toNat-1) (w9 (s.c.doors (l.toNat-1)))).refuse (aq cu) l 0 (Sd.Tab.bw s.c.p s.c.tab l m.role (jW (k.kn (l.toNat-1)) (k.kf (l.toNat-1)) l m.role (s.c.doors (l.toNat-1)).ae)).2
   else((vM s (l.toNat-1) (w9 (s.c.doors (l.toNat-1))) (Sd.Tab.bw s.c.p s.c.tab l m.role (jW (k.kn (l.toNat-1)) (k.kf (l.toNat-1)) l m.role (s.c.doors (l.toNat-1)).ae)).1).tell l ⟨130,0,m.role,s.c.t.holder,s.c.t.epoch,0,λ_=>0⟩).record (aq cu) 3 l 0 0 0:=by
  unfold Sd.Scene.prove;rw[if_neg (by decide)];show(match cu 2 f with|none=>_|some m=>_)=_;cases cu 2 f with
  |none=>rfl
  |some m=>
   simp only[aq,hKk];rfl
 unfold abb;refine⟨⟨by decide,by omega,hf⟩,aS (λe=>?_) (λe=>?_)⟩
 ·rw[hpr,HM e]at hK;exact⟨eZ hq,vt hP.r.r1 λF1=>HJ rfl hK F1⟩
 ·have hm:=HL e;have XC:=ae4 (n:=2) (f:=f) (by rw[hm];simp);rw[hpr,hm]at hK;simp only at hK;refine⟨⟨rfl,rfl,hP.lo,⟨XC.1,by omega⟩,hP.key⟩,aS (λe1=>?_) (λe1=>aS (λe2=>⟨trivial,aS (λe3=>?_) (λe3=>⟨⟨hP.bU,hP.lo⟩,aS (λe4=>?_) (λe4=>?_)⟩)⟩) (λe2=>?_))⟩
  ·rw[if_pos (by simpa using e1)]at hK;refine abh _ (hD _) 17 _ (by rw[Xy];rfl) ⟨by decide,by decide⟩ ?_ hK;rw[Xy];have:sh s (l.toNat-1) (s.c.doors (l.toNat-1))=s:=by
    unfold sh;have:(λj=>if j=l.toNat-1 then s.c.doors (l.toNat-1)else s.c.doors j)=s.c.doors:=by funext j;split<;>simp_all
    rw[this]
   rw[this]
  ·rw[if_neg (by simpa using e1),if_neg (by rw[e2];decide),if_pos (by simpa using e3)]at hK;exact abh _ (hD _) 18 _ (by rw[Xy];rfl) ⟨by decide,by decide⟩ (by rw[Xy]) hK
  ·obtain⟨b2,b1,b3⟩:=m8 s l (tu 2 f).role (jW (k.kn (l.toNat-1)) (k.kf (l.toNat-1)) l (tu 2 f).role (s.c.doors (l.toNat-1)).ae);rw[b2]at e4⊢;have e4':(Sd.Tab.bw s.c.p s.c.tab l (tu 2 f).role (jW (k.kn (l.toNat-1)) (k.kf (l.toNat-1)) l (tu 2 f).role (s.c.doors (l.toNat-1)).ae)).2≠0:=by simpa using e4
   rw[if_neg (by simpa using e1),if_neg (by rw[e2];decide),if_neg (by simpa using e3),if_pos e4']at hK;have hbg:(Sd.Tab.bw s.c.p s.c.tab l (tu 2 f).role (jW (k.kn (l.toNat-1)) (k.kf (l.toNat-1)) l (tu 2 f).role (s.c.doors (l.toNat-1)).ae)).1=s.c.tab/\N8 (Sd.Tab.bw s.c.p s.c.tab l (tu 2 f).role (jW (k.kn (l.toNat-1)) (k.kf (l.toNat-1)) l (tu 2 f).role (s.c.doors (l.toNat-1)).ae)).2:=by
    revert e4';unfold Sd.Tab.bw;split
    ·intro _;exact⟨rfl,(show N8 1 from⟨by decide,by decide⟩)⟩
    ·split
     ·intro _;exact⟨rfl,(show N8 19 from⟨by decide,by decide⟩)⟩
     ·intro h;exact absurd rfl h
   refine abh _ (RK _ _) _ _ (by rw[abg];rfl) hbg.2 ?_ hK;rw[abg,hbg.1];rfl
  ·obtain⟨b2,b1,b3⟩:=m8 s l (tu 2 f).role (jW (k.kn (l.toNat-1)) (k.kf (l.toNat-1)) l (tu 2 f).role (s.c.doors (l.toNat-1)).ae);rw[b2]at e4;rw[if_neg (by simpa using e1),if_neg (by rw[e2];decide),if_neg (by simpa using e3),if_neg (by simpa using e4)]at hK;have key:∀(x:Sd.Scene) (hx:b9 k x=b9 k s),x=vM s (l.toNat-1) (w9 (s.c.doors (l.toNat-1))) (Sd.Tab.bw s.c.p s.c.tab l (tu 2 f).role (jW (k.kn (l.toNat-1)) (k.kf (l.toNat-1)) l (tu 2 f).role (s.c.doors (l.toNat-1)).ae)).1->
    (eu k x (hx▸F)/\bN [.int .i64 l,.agg (g9 130 0 (tu 2 f).role s.c.t.holder s.c.t.epoch 0)] k x (hx▸F) λv s2 F2=>eu k s2 F2/\gT (aq cu) [.int .i64 3,.int .i64 l,.int .i64 0,.int .i64 0,.int .i64 0] k (du s2) F2 λv s' F'=>lf k Kb f t s s' F'):=by
    rintro x hx rfl;refine⟨eZ hq,⟨⟨(show Rm (vM s _ _ _) 8 from hP.r).le (by decide),⟨(show(129:Int)<=130/\(130:Int)<=136 by decide),⟨Uu,.inr rfl⟩,⟨XC,.inl rfl⟩,⟨hP.jB,.inl (.inl rfl)⟩,⟨hP.ep,.inl (.inl rfl)⟩,⟨(show N8 0 from⟨by decide,by decide⟩),.inr rfl⟩,⟨λj=>(show(0:Int)<=0/\(0:Int)<=255 from⟨by decide,by decide⟩),.inr rfl⟩⟩⟩,λF2=>⟨eZ hq,fk ?_ λF3=>HJ rfl hK F3⟩⟩⟩;have:=hP.r.2;simp only[Sd.Scene.tell,vM];omega
   exact key _ (RK _ _) (abg _ _ _)
  ·rw[if_neg (by simpa using e1),if_pos e2]at hK;exact ahx _ (hD _) 14 _ (by rw[Xy];rfl) (by rw[Xy]) hK
end Go.Proofs.YtlkpikfddnjilaaGreatDoor
