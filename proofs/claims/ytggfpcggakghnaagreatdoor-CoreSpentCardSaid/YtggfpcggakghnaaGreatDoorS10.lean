/- Part 10 of the proof. -/
import Derived.Test.YtggfpcggakghnaaGreatDoorS9
set_option linter.all false
set_option maxRecDepth 100000
set_option maxHeartbeats 4000000
open Go.Proofs.Tryz
open Go.IntKind (u8 u16 u32 u64 i64)
namespace Go.Proofs.YtggfpcggakghnaaGreatDoor
open Go Go.RowKit Go.BigFrame Sx Vx
variable{fr:Sd.Reply->Nat×Sd.Byt}
def dL (s:Sd.bm) (b l:Int) (n:Nat) (f:Nat->Int):V×Option (Sd.cN×Sd.Timer):=
 if s.on=false then(gA 16,none)else if n<8\/eV s.key l (n-8) f=false then(gA 14,none)else match aT (n-8) f with
 |none=>(gA 13,none)
 |some m=>if m.kind=1\/m.kind=2 then(gA 13,none)else if dD s.seen m.seq=s.seen then(gA 15,none)else(.az [.agg (cw m),.int .i64 0],some (dD s.seen m.seq,Sd.Timer.start b))
theorem NK {w:Sd.cN} {b:Int} {n:Nat} {f:Nat->Int} {X:V->Option (Sd.cN×Sd.Timer)->Prop} (hw:0<=w.high/\w.high<=4294967295) (hb:0<=b/\b<=1000)
 (h0:aT n f=none->X (gA 13) none) (h1:∀m,aT n f=some m->if m.kind=1\/m.kind=2 then X (gA 13) none else if dD w m.seq=w then X (gA 15) none else X (.az [.agg (cw m),.int .i64 0]) (some (dD w m.seq,Sd.Timer.start b))):
 xG w b (uT n f) (xB n f) X:=by
 unfold xG;refine aU (λe=>h0 (Ki e)) (λe=>?_);have hm:=Kh e;have h2:=h1 _ hm;have va:=HI hm;refine aU (λe1=>?_) (λe1=>aU (λe2=>?_) (λe2=>⟨⟨hw,va.seq⟩,aU (λe3=>?_) (λe3=>⟨by omega,?_⟩)⟩))
 ·rw[if_pos (.inl (by simpa using e1))]at h2;exact h2
 ·rw[if_pos (.inr (by simpa using e2))]at h2;exact h2
 ·rw[if_neg (by simp at e1 e2;simp[e1,e2]),if_pos ((zv _ _).1 (by simpa using e3))]at h2;exact h2
 ·rw[if_neg (by simp at e1 e2;simp[e1,e2]),if_neg (λh=>by rw[(zv _ _).2 h]at e3;simp at e3)]at h2;exact h2
theorem tR {k:LK} {s:Sd.bm} {b l:Int} {n c:Nat} {f:Nat->Int} {X:V->Option (Sd.cN×Sd.Timer)->Prop} (hw:s.on=true->0<=s.seen.high/\s.seen.high<=4294967295) (hb:0<=b/\b<=1000) (hn:n<=58) (hc:n<=c) (hl:1<=l/\l<=3) (hf:By f)
 (h:X (dL s b l n f).1 (dL s b l n f).2):xH k s b l n c f X:=by
 unfold dL at h;unfold xH;refine aU (λe=>?_) (λe=>⟨⟨rfl,rfl,hn,hc,by omega,by omega⟩,λh14=>?_,λh8 ho=>?_⟩)
 ·rw[if_pos (by simpa using e)]at h;exact h
 ·rw[if_neg (by simpa using e),if_pos h14]at h;exact h
 ·rw[if_neg (by simpa using e),if_neg (by rw[ho];simp;omega)]at h;have main:∀g:Nat->Int,aT (n-8) g=aT (n-8) f->xG s.seen b (uT (n-8) g) (xB (n-8) g) X:=by
   intro g hg;refine NK (hw (by simpa using e)) hb (λh0=>?_) (λm hm=>?_)
   ·rw[hg]at h0;rw[h0]at h;exact h
   ·rw[hg]at hm;rw[hm]at h;simp only at h;split
    ·rename_i h1;rw[if_pos h1]at h;exact h
    ·rename_i h1;rw[if_neg h1]at h;split
     ·rename_i h2;rw[if_pos h2]at h;exact h
     ·rename_i h2;rw[if_neg h2]at h;exact h
  refine⟨λh8' x c'=>⟨trivial,?_⟩,λh8' c' t' Tt=>⟨⟨Nat.le_refl _,Tt,hf⟩,main f rfl⟩⟩;have h0:n-8=0:=by omega
  have:=main (λ_=>0) (by rw[h0];rfl);rw[h0]at this;exact this
theorem S9 (t:Sd.Tab) (p:Sd.Pol) (l:Int) (n:Nat) (f:Nat->Int) (hl:1<=l/\l<=3):
 (∃e,Sd.Tab.take (ah aT) p t l n f=(t,.error e)/\dL (t.ay (l.toNat-1)) p.bh l n f=(gA e,none))\/
 (∃m w,Sd.Tab.take (ah aT) p t l n f=(t.dT (l.toNat-1) {(t.ay (l.toNat-1))with seen:=w,on:=true,aH:=.start p.bh},.ok m)/\dL (t.ay (l.toNat-1)) p.bh l n f=(.az [.agg (cw m),.int .i64 0],some (w,Sd.Timer.start p.bh))):=by
 have tD:t.cZ l=(t.ay (l.toNat-1)).on:=by
  unfold Sd.Tab.cZ;simp[hl.1,hl.2]
 unfold Sd.Tab.take dL;rw[tD];by_cases h1:(t.ay (l.toNat-1)).on=false
 ·rw[if_pos h1,if_pos h1];exact .inl ⟨16,rfl,rfl⟩
 ·rw[if_neg h1,if_neg h1];by_cases h2:n<8\/eV (t.ay (l.toNat-1)).key l (n-8) f=false
  ·rw[if_pos h2];have:n<8\/(ah aT).opens (t.ay (l.toNat-1)).key l n f=false:=h2;rw[if_pos this];exact .inl ⟨14,rfl,rfl⟩
  ·rw[if_neg h2];have:¬(n<8\/(ah aT).opens (t.ay (l.toNat-1)).key l n f=false):=h2;rw[if_neg this];rw[show(ah aT).take (n-8) f=aT (n-8) f from rfl];cases htk:aT (n-8) f with
   |none=>exact .inl ⟨13,rfl,rfl⟩
   |some m=>
    simp only;by_cases h3:m.kind=1\/m.kind=2
    ·rw[if_pos h3,if_pos h3];exact .inl ⟨13,rfl,rfl⟩
    ·rw[if_neg h3,if_neg h3];by_cases h4:dD (t.ay (l.toNat-1)).seen m.seq=(t.ay (l.toNat-1)).seen
     ·rw[if_pos h4];have:(ah aT).kS (t.ay (l.toNat-1)).seen m.seq=(t.ay (l.toNat-1)).seen:=h4;rw[if_pos this];exact .inl ⟨15,rfl,rfl⟩
     ·rw[if_neg h4];have:¬(ah aT).kS (t.ay (l.toNat-1)).seen m.seq=(t.ay (l.toNat-1)).seen:=h4;rw[if_neg this];exact .inr ⟨m,dD (t.ay (l.toNat-1)).seen m.seq,rfl,rfl⟩
theorem Kl {d:FD} (F:bN fr d) (h0:0<d.k.pn):∃(bp:Nat) (t:List Value) (X:List av),d.k.px=some ⟨bp,0,none⟩/\d.k.pn<=d.k.pc/\F.B=X++[⟨bp,true,.cells (ab [] (eM d.k.pn d.k.pf t).c).toArray 5 (0,0)⟩]:=by
 obtain⟨b0,b1,b2,b3,b4,hB,k0,k1,k2,k3,k4⟩:=F.hk;obtain⟨hle,h|⟨bp,hx,hb⟩⟩:=k4
 ·have:=h.2.1;omega
 ·have e:(ab [] (eM d.k.pn d.k.pf (List.replicate (d.k.pc-d.k.pn) (.int .u8 0))).c).toArray=dc d.k.pn d.k.pf d.k.pc:=by
   simp[eM,ab,cl,dc,eE]
  refine⟨bp,List.replicate (d.k.pc-d.k.pn) (.int .u8 0),F.Br++(F.Bs++(F.Bf++(F.Bq++(b0++(b1++(b2++b3)))))),hx,hle,?_⟩;rw[e,uS,hB,hb];simp[List.append_assoc]
def HL (C:Sd.Crypt):gm (Gh fr):=λargs bl ch K=>match args,ch with
 |[.ptr it 0,.int .i64 l,.raw vp],g::rest=>(match bl[it]?with
  |some ⟨true,⟨157,(0,0)⟩,tc⟩=>(match uR tc with
   |some y=>cond (!(Nat.beq it 0)) ((vp=ei g.d.k/\bl[0]?=some (aG g.d.k)/\g.d.k.pn<=58/\By g.d.k.pf/\(1<=l/\l<=3)/\(0<=y.b/\y.b<=1000)/\(∀i,i<3->((aN y).ay i).on=true->0<=((aN y).ay i).seen.high/\((aN y).ay i).seen.high<=4294967295))/\
    (∀e,Sd.Tab.take C (pY y.b y.m) (aN y) l g.d.k.pn g.d.k.pf=(aN y,.error e)->K (gA e) bl ch)/\
    (∀t' m,Sd.Tab.take C (pY y.b y.m) (aN y) l g.d.k.pn g.d.k.pf=(t',.ok m)->K (.az [.agg (cw m),.int .i64 0]) (bl.set it ⟨true,⟨157,(0,0)⟩,cd (Fz t' y.b y.m)⟩) ch)) False
   |none=>False)
  |_=>False)
 |_,_=>False
theorem S_ {bl:List VB} {i:Nat} {b:VB} (h:bl[i]?=some b):bl.set i b=bl:=by
 apply List.ext_getElem?;intro j;rw[List.getElem?_set];split
 ·rename_i e;subst e;have:=bO h;rw[if_pos this];exact h.symm
 ·rfl
theorem EB:Sound prog gS 100 (HL (fr:=fr) (ah aT)):=by
 intro args ids bl ch R ms w0 w K hg hl S hc;unfold HL at hc;split at hc
 ·rename_i it l vp g rest;split at hc
  ·rename_i tc hb;split at hc
   ·rename_i y hy;cases hq:!(Nat.beq it 0)with
    |false=>rw[hq]at hc;exact hc.elim
    |true=>
     rw[hq]at hc;simp only[cond_true]at hc;obtain⟨⟨rfl,hr,hn,hf,hlo,hbt,hwn⟩,hE,hO⟩:=hc;obtain rfl:=jz hy;have RI:it≠0:=by rintro rfl;simp at hq
     have hi:=bO hb;have hi0:=bO hr;have ajc:ids.getD 0 0=1:=(hg 1 0 rfl).2;obtain⟨r,hrr,dP⟩:=ux hl (is:=[0,it]) (by simp[Ne.symm RI]) (by simp[hi,hi0]);have abM:(pY y.b y.m).bh=y.b:=rfl;have p1:=dP bl rfl;simp only[List.map_cons,List.map_nil,List.cons_append,List.nil_append]at p1;rw[cG hb,cG hr,ajc]at p1;have Zc:(aN y).ay (l.toNat-1)=ma y l:=by
      have:l=1\/l=2\/l=3:=by omega
      rcases this with rfl|rfl|rfl<;>rfl
     have Tb:=S9 (aN y) (pY y.b y.m) l g.d.k.pn g.d.k.pf hlo;rw[Zc,abM]at Tb;have hw:(ma y l).on=true->0<=(ma y l).seen.high/\(ma y l).seen.high<=4294967295:=by rw[<-Zc];exact hwn _ (by omega)
     have e0:af (g::rest) R=g.F.B++af rest R:=rfl;rw[e0]at S;have er:∀is:List Nat,aE is 1 (aG g.d.k)=aE [] 1 (aG g.d.k):=λis=>by
      have:=bU (ids:=[]) (more:=is) (aG g.d.k).c rfl;simp only[List.nil_append]at this;simp only[aE,this]
     have et:∀(is:List Nat) (i:Nat) (y:TC),aE is i ⟨true,⟨157,(0,0)⟩,cd y⟩=aE [] i ⟨true,⟨157,(0,0)⟩,cd y⟩:=λis i y=>by
      have:=bU (ids:=[]) (more:=is) (cd y) rfl;simp only[List.nil_append]at this;simp only[aE,this]
     have ep:∀(is:List Nat) (i n:Nat) (f:Nat->Int) (t:List Value),aE is i (eM n f t)=aE [] i (eM n f t):=λis i n f t=>by
      have:=bU (ids:=[]) (more:=is) (eM n f t).c rfl;simp only[List.nil_append]at this;simp only[aE,this]
     have back:∀(y':TC) (w':World) (Z:List av),St ms w0 (aE [] 1 (aG g.d.k)::aE [] (ids.getD it 0) ⟨true,⟨157,(0,0)⟩,cd y'⟩::((r.map λj=>aE ids (ids.getD j 0) (bl.getD j gK))++Z)) w'->St ms w0 (lits ids ids (bl.set it ⟨true,⟨157,(0,0)⟩,cd y'⟩)++Z) w':=by
      intro y' w' Z hS;have p2:=dP (bl.set it ⟨true,⟨157,(0,0)⟩,cd y'⟩) (by simp);simp only[List.map_cons,List.map_nil,List.cons_append,List.nil_append]at p2;have e3:(r.map λj=>aE ids (ids.getD j 0) ((bl.set it ⟨true,⟨157,(0,0)⟩,cd y'⟩).getD j gK))=r.map λj=>aE ids (ids.getD j 0) (bl.getD j gK):=by
       apply List.map_congr_left;intro j hj;have:=hrr j hj;simp only[List.getD];rw[eG (λh=>this (by simp[h]))]
      rw[e3,cG (nx hi),cG (i:=0) (b:=aG g.d.k) (by rw[List.getElem?_set_ne RI];exact hr),ajc,er,et]at p2;exact hS.perm (p2.symm.append_right Z)
     have done:∀{w':World} (y':TC) (v:V) (o:Option (Sd.cN×Sd.Timer)),fK 0 v=true->dL (ma y l) y.b l g.d.k.pn g.d.k.pf=(v,o)->y'=(if l=1 then{y with s0:=OP y.s0 o}else if l=2 then{y with sa:=OP y.sa o}else{y with sb:=OP y.sb o})->
      St ms w0 (lits ids ids (bl.set it ⟨true,⟨157,(0,0)⟩,cd y'⟩)++(g.F.B++af rest R)) w'->∃x more bl' ch',den [] v=den (ids++more) x/\(ids++more).length=bl'.length/\St ms w0 (lits (ids++more) (ids++more) bl'++af ch' R) w'/\K x bl' ch':=by
      intro w' y' v o hv ht hy' hS;have ev:∀is,den is v=den [] v:=λis=>by have:=bC (ids:=[]) (more:=is) v hv;simpa using this
      rcases Tb with⟨e,h1,h2⟩|⟨m,w2,h1,h2⟩
      ·rw[h2]at ht;obtain⟨rfl,rfl⟩:=Prod.mk.inj ht;have hyy:y'=y:=by
        rw[hy'];split
        ·rfl
        ·split<;>rfl
       rw[hyy]at hS;have CT:bl.set it ⟨true,⟨157,(0,0)⟩,cd y⟩=bl:=S_ hb;rw[CT]at hS;exact⟨gA e,[],bl,g::rest,(ev _).symm,by simpa using hl,by rw[List.append_nil,e0];exact hS,hE e h1⟩
      ·rw[h2]at ht;obtain⟨rfl,rfl⟩:=Prod.mk.inj ht;refine⟨.az [.agg (cw m),.int .i64 0],[],_,g::rest,(ev _).symm,by simpa using hl,?_,hO _ m h1⟩;rw[List.append_nil,e0];have hyy:Fz ((aN y).dT (l.toNat-1) {ma y l with seen:=w2,on:=true,aH:=.start y.b}) y.b y.m=y':=by
        rw[hy'];have:l=1\/l=2\/l=3:=by omega
        rcases this with rfl|rfl|rfl<;>rfl
       rw[hyy];exact hS
     have hX:∀(y':TC) (o:Option (Sd.cN×Sd.Timer)) (v:V),dL (ma y l) y.b l g.d.k.pn g.d.k.pf=(v,o)->fK 0 v=true:=by
      intro y' o v hv;rcases Tb with⟨e,h1,h2⟩|⟨m,w2,h1,h2⟩<;>(rw[h2]at hv;obtain⟨rfl,rfl⟩:=Prod.mk.inj hv;rfl)
     rcases Nat.eq_zero_or_pos g.d.k.pn with hz|Gs
     ·
      have hg2:Gl gR [1,ids.getD it 0]:=by
       intro gg i iX;unfold gR at iX;split at iX
       ·obtain rfl:=Option.some.inj iX;exact⟨by simp,rfl⟩
       ·cases iX
      have S1:=S.perm (p1.append_right _);simp only[List.cons_append]at S1;rw[er,et]at S1;have S2:St ms w0 (lits [1,ids.getD it 0] [1,ids.getD it 0] [aG g.d.k,⟨true,⟨157,(0,0)⟩,cd y⟩]++af ([]:List Empty) ((r.map λj=>aE ids (ids.getD j 0) (bl.getD j gK))++(g.F.B++af rest R))) w:=by
       simp only[lits,af,er,et,List.cons_append,List.nil_append];exact S1
      let X:V->List VB->Prop:=λv b=>v=(dL (ma y l) y.b l g.d.k.pn g.d.k.pf).1/\b=[aG g.d.k,⟨true,⟨157,(0,0)⟩,cd y⟩]
      have hT:dL (ma y l) y.b l g.d.k.pn g.d.k.pf=if(ma y l).on=false then(gA 16,none)else(gA 14,none):=by
       unfold dL;rw[hz];split
       ·rfl
       ·rw[if_pos (.inl (by decide))]
      have fU:cJ (dR prog gR (LO g.d.k)) 60 100 [.ptr 1 0,.int .i64 l,.raw (.slice g.d.k.px 0 g.d.k.pc)] [aG g.d.k,⟨true,⟨157,(0,0)⟩,cd y⟩] [] (λv bl _=>X v (bl.take 2)):=by
       have Tc:cond (!(ma y l).on) (X (gA 16) [aG g.d.k,⟨true,⟨157,(0,0)⟩,cd y⟩]) (X (gA 14) [aG g.d.k,⟨true,⟨157,(0,0)⟩,cd y⟩]):=by
        refine aU (λe=>⟨?_,rfl⟩) (λe=>⟨?_,rfl⟩)
        ·rw[hT,if_pos (by simpa using e)]
        ·rw[hT,if_neg (by simpa using e)]
       have:l=1\/l=2\/l=3:=by omega
       rcases this with rfl|rfl|rfl
       ·rw[amg];exact Tc
       ·rw[amh];exact Tc
       ·rw[ami];exact Tc
      have ea:(ao ids [.ptr it 0,.int .i64 l,.raw (ei g.d.k)]).toArray=(ao [1,ids.getD it 0] [.ptr 1 0,.int .i64 l,.raw (.slice g.d.k.px 0 g.d.k.pc)]).toArray:=by
       have:ei g.d.k=.slice g.d.k.px 0 g.d.k.pc:=by unfold ei;rw[hz]
       rw[this];rfl
      rw[ea];refine(bw (Kk g.d.k).T (Kk g.d.k).Q 60 (C:=dR prog gR (LO g.d.k)) hg2 rfl S2 fU).mono ?_;rintro v w' ⟨x,more,bl',ch',rfl,h1,S3,hv,va⟩;have Zd:fK 0 x=true:=by
       rw[hv];exact hX y _ _ rfl
      have gz:bl'=[aG g.d.k,⟨true,⟨157,(0,0)⟩,cd y⟩]++bl'.drop 2:=by rw[<-va,List.take_append_drop]
      rw[gz]at S3;have e2:lits ([1,ids.getD it 0]++more) ([1,ids.getD it 0]++more) ([aG g.d.k,⟨true,⟨157,(0,0)⟩,cd y⟩]++bl'.drop 2)=aE [] 1 (aG g.d.k)::aE [] (ids.getD it 0) ⟨true,⟨157,(0,0)⟩,cd y⟩::lits ([1,ids.getD it 0]++more) more (bl'.drop 2):=by
       simp only[List.cons_append,List.nil_append,lits,er,et]
      rw[e2]at S3;have e3:af ch' ((r.map λj=>aE ids (ids.getD j 0) (bl.getD j gK))++(g.F.B++af rest R))=(r.map λj=>aE ids (ids.getD j 0) (bl.getD j gK))++(g.F.B++af rest R):=by cases ch' with
       |nil=>rfl
       |cons c _=>cases c
      rw[e3]at S3;have S4:=S3.sub (bs':=aE [] 1 (aG g.d.k)::aE [] (ids.getD it 0) ⟨true,⟨157,(0,0)⟩,cd y⟩::((r.map λj=>aE ids (ids.getD j 0) (bl.getD j gK))++(g.F.B++af rest R))) (by
       simp only[List.cons_append];exact List.Sublist.cons_cons _ (List.Sublist.cons_cons _ (List.sublist_append_right _ _)))
      have ex:den ([1,ids.getD it 0]++more) x=den [] x:=by have:=bC (ids:=[]) (more:=[1,ids.getD it 0]++more) x Zd;simpa using this
      rw[ex];have ho:(dL (ma y l) y.b l g.d.k.pn g.d.k.pf).2=none:=by rw[hT];split<;>rfl
      refine done y x none Zd ?_ ?_ (back y w' _ S4)
      ·rw[hv,<-ho]
      ·split
       ·rfl
       ·split<;>rfl
     ·
      obtain⟨bp,t,XX,hx,hle,hBB⟩:=Kl g.F Gs;have hg2:Gl gR [1,ids.getD it 0,bp]:=by
       intro gg i iX;unfold gR at iX;split at iX
       ·obtain rfl:=Option.some.inj iX;exact⟨by simp,rfl⟩
       ·cases iX
      have amj:(⟨bp,true,.cells (ab [] (eM g.d.k.pn g.d.k.pf t).c).toArray 5 (0,0)⟩:av)=aE [] bp (eM g.d.k.pn g.d.k.pf t):=rfl;rw[amj]at hBB;have S1:=S.perm (p1.append_right _);rw[hBB]at S1;simp only[List.cons_append]at S1;rw[er,et]at S1;have pm:∀(a b c:av) (A B Z:List av),(a::b::(A++((B++[c])++Z))).Perm (a::b::c::(A++(B++Z))):=by
       intro a b c A B Z;refine List.Perm.cons a (List.Perm.cons b ?_);have:=List.perm_middle (a:=c) (l₁:=A++B) (l₂:=Z);simpa[List.append_assoc]using this
      have S2:St ms w0 (lits [1,ids.getD it 0,bp] [1,ids.getD it 0,bp] [aG g.d.k,⟨true,⟨157,(0,0)⟩,cd y⟩,eM g.d.k.pn g.d.k.pf t]++af ([]:List Empty) ((r.map λj=>aE ids (ids.getD j 0) (bl.getD j gK))++(XX++af rest R))) w:=by
       simp only[lits,af,er,et,ep,List.cons_append,List.nil_append];exact S1.perm (pm _ _ _ _ _ _)
      let X:V->List VB->Prop:=λv b=>v=(dL (ma y l) y.b l g.d.k.pn g.d.k.pf).1/\b=[aG g.d.k,⟨true,⟨157,(0,0)⟩,cd (if l=1 then{y with s0:=OP y.s0 (dL (ma y l) y.b l g.d.k.pn g.d.k.pf).2}else if l=2 then{y with sa:=OP y.sa (dL (ma y l) y.b l g.d.k.pn g.d.k.pf).2}else{y with sb:=OP y.sb (dL (ma y l) y.b l g.d.k.pn g.d.k.pf).2})⟩,eM g.d.k.pn g.d.k.pf t]
      have fU:cJ (dR prog gR (LO g.d.k)) 60 100 [.ptr 1 0,.int .i64 l,.sl 2 0 g.d.k.pn g.d.k.pc] [aG g.d.k,⟨true,⟨157,(0,0)⟩,cd y⟩,eM g.d.k.pn g.d.k.pf t] [] (kT X):=by
       have:l=1\/l=2\/l=3:=by omega
       rcases this with rfl|rfl|rfl
       ·rw[amd];exact tR hw hbt hn hle (by decide) hf ⟨rfl,rfl⟩
       ·rw[ame];exact tR hw hbt hn hle (by decide) hf ⟨rfl,rfl⟩
       ·rw[amf];exact tR hw hbt hn hle (by decide) hf ⟨rfl,rfl⟩
      have ea:(ao ids [.ptr it 0,.int .i64 l,.raw (ei g.d.k)]).toArray=(ao [1,ids.getD it 0,bp] [.ptr 1 0,.int .i64 l,.sl 2 0 g.d.k.pn g.d.k.pc]).toArray:=by
       have:ei g.d.k=.slice (some ⟨bp,0,none⟩) g.d.k.pn g.d.k.pc:=by unfold ei;rw[hx]
       rw[this];rfl
      rw[ea];refine(bw (Kk g.d.k).T (Kk g.d.k).Q 60 (C:=dR prog gR (LO g.d.k)) hg2 rfl S2 fU).mono ?_;rintro v w' ⟨x,more,bl',ch',rfl,h1,S3,hv,va⟩;generalize hy':(if l=1 then{y with s0:=OP y.s0 (dL (ma y l) y.b l g.d.k.pn g.d.k.pf).2}else if l=2 then{y with sa:=OP y.sa (dL (ma y l) y.b l g.d.k.pn g.d.k.pf).2}else{y with sb:=OP y.sb (dL (ma y l) y.b l g.d.k.pn g.d.k.pf).2}:TC)=y' at va;have Zd:fK 0 x=true:=by
       rw[hv];exact hX y _ _ rfl
      have gz:bl'=[aG g.d.k,⟨true,⟨157,(0,0)⟩,cd y'⟩,eM g.d.k.pn g.d.k.pf t]++bl'.drop 3:=by rw[<-va,List.take_append_drop]
      rw[gz]at S3;have e2:lits ([1,ids.getD it 0,bp]++more) ([1,ids.getD it 0,bp]++more) ([aG g.d.k,⟨true,⟨157,(0,0)⟩,cd y'⟩,eM g.d.k.pn g.d.k.pf t]++bl'.drop 3)=aE [] 1 (aG g.d.k)::aE [] (ids.getD it 0) ⟨true,⟨157,(0,0)⟩,cd y'⟩::aE [] bp (eM g.d.k.pn g.d.k.pf t)::lits ([1,ids.getD it 0,bp]++more) more (bl'.drop 3):=by
       simp only[List.cons_append,List.nil_append,lits,er,et,ep]
      rw[e2]at S3;have e3:∀Z,af ch' Z=Z:=by
       intro Z;cases ch' with
       |nil=>rfl
       |cons c _=>cases c
      rw[e3]at S3;have S4:=S3.sub (bs':=aE [] 1 (aG g.d.k)::aE [] (ids.getD it 0) ⟨true,⟨157,(0,0)⟩,cd y'⟩::aE [] bp (eM g.d.k.pn g.d.k.pf t)::((r.map λj=>aE ids (ids.getD j 0) (bl.getD j gK))++(XX++af rest R))) (by
       simp only[List.cons_append];exact List.Sublist.cons_cons _ (List.Sublist.cons_cons _ (List.Sublist.cons_cons _ (List.sublist_append_right _ _))))
      have S5:=S4.perm (pm _ _ _ _ _ _).symm;rw[<-hBB]at S5;have ex:den ([1,ids.getD it 0,bp]++more) x=den [] x:=by have:=bC (ids:=[]) (more:=[1,ids.getD it 0,bp]++more) x Zd;simpa using this
      rw[ex];exact done y' x _ Zd (by rw[hv]) hy'.symm (back y' w' _ S5)
   ·exact hc.elim
  ·exact hc.elim
 ·exact hc.elim
def OQ (a:Nat) (f:FuncId):Value:=.func (.func f) #[.pointer (some ⟨a,0,none⟩)] #[]
def rR (a:Nat):List (Int×Value):=[(3,OQ a 152),(4,OQ a 153),(5,OQ a 154),(6,OQ a 155),(7,OQ a 156),(8,OQ a 157),(9,OQ a 158),(10,OQ a 159),(11,OQ a 159)]
def ajd:Nat->Prop->Prop->Prop
 |0,_,q=>q
 |n+1,p,q=>p/\ajd n p q
theorem Ze (a:Nat) (K:VK De):cJ (acy prog gN []) 60 101 [.raw (.pointer (some ⟨a,0,none⟩))] [] [] K=∀id:Nat,ajd 9 (Value.map (some id)=.map (some id)) (K (.raw (.map (some id))) [] [⟨id,rR a⟩]):=by kernel_rfl
theorem Zf (a:Nat) {ms:List Nat} {w0 w:World} {B:List av} (S:St ms w0 B w):aj prog 101 #[.pointer (some ⟨a,0,none⟩)] w λv w1=>∃id,v=.map (some id)/\St ms w0 (⟨id,true,ox .i64 (rR a)⟩::B) w1:=by
 have fU:cJ (acy prog gN []) 60 101 [.raw (.pointer (some ⟨a,0,none⟩))] [] [] (λv bl ch=>∃id,v=.raw (.map (some id))/\bl=[]/\ch=[⟨id,rR a⟩]):=by
  rw[Ze];exact λid=>⟨rfl,rfl,rfl,rfl,rfl,rfl,rfl,rfl,rfl,id,rfl,rfl,rfl⟩
 refine(bw (G:=De) (ai.nil (P:=prog) (gl:=gN)).T (ai.nil (P:=prog) (gl:=gN)).Q 60 (C:=acy prog gN []) (ids:=[]) (bl:=[]) (ch:=[]) (R:=B) (args:=[.raw (.pointer (some ⟨a,0,none⟩))]) (λg i h=>by cases h) rfl S fU).mono ?_;rintro v w' ⟨x,more,bl',ch',rfl,D8,S2,id,rfl,rfl,rfl⟩;have hm:more=[]:=by cases more with
  |nil=>rfl
  |cons=>simp at D8
 subst hm;exact⟨id,by simp[den],S2⟩
def Td (a:Nat):Nat->Option Nat:=λg=>match gS g with
 |some i=>some i
 |none=>bif Nat.beq g a then some 2 else none
theorem aje {a:Nat} {ids:List Nat} (h:Gl (Td a) ids):Gl gS ids:=λg i hi=>h g i (by unfold Td;rw[hi])
theorem abN {a:Nat} {ids:List Nat} (h:Gl (Td a) ids) (ha:gS a=none):2<ids.length/\ids.getD 2 0=a:=h a 2 (by unfold Td;rw[ha];simp)
def EC (a:Nat):gm (Sm (Gh fr)):=λargs bl ch K=>match args with
 |[.ptr 2 0]=>gS a=none/\∀id:Nat,K (.raw (.map (some id))) bl (ch++[.m ⟨id,rR a⟩])
 |_=>False
theorem HM (a:Nat):Sound prog (Td a) 101 (EC (fr:=fr) a):=by
 intro args ids bl ch R ms w0 w K hg hl S hc;unfold EC at hc;split at hc
 ·obtain⟨ha,hK⟩:=hc;have h2:=(abN hg ha).2;have ea:(ao ids [.ptr 2 0]).toArray=#[.pointer (some ⟨a,0,none⟩)]:=by simp only[ao,den,h2]
  rw[ea];refine(Zf a S).mono ?_;rintro v w1 ⟨id,rfl,S1⟩;refine⟨_,[],bl,_,?_,by simpa using hl,?_,hK id⟩
  ·simp[den]
  ·rw[List.append_nil,cV,aW _ ch];have e:af [(.m ⟨id,rR a⟩:Sm (Gh fr))] R=⟨id,true,ox .i64 (rR a)⟩::R:=rfl;rw[e];rw[aW R ch]at S1;refine S1.perm ?_;rw[<-List.append_assoc,<-List.append_assoc];exact List.perm_middle.symm
 ·exact hc.elim
theorem HN (a:Nat):cT (EC (fr:=fr) a):=by
 intro args bl ch K h;unfold EC at h⊢;split at h
 ·exact⟨h.1,λid=>⟨h.2 id,[],by simp⟩⟩
 ·exact h.elim
def OR (f:FuncId):V:=.az [.fn f [.ptr 2 0] [],.bool true]
def Km (a:Nat):(Operand->V)->Op->List VB->List (Sm (Gh fr))->VK (Sm (Gh fr))->Prop:=λe op bl ch K=>match op with
 |.lookup mt m k true=>(match ch,e m,e k with
  |[.g x,.m g],.raw mv,.int .i64 kd=>(match prog.underlying mt with
   |some (.map kt _)=>(match prog.underlying kt with
    |some (.int .i64)=>(mv=.map (some g.id)/\g.tb=rR a/\gS a=none/\3<=kd/\kd<=11)/\
     cond (kd==3) (K (OR 152) bl ch) (cond (kd==4) (K (OR 153) bl ch) (cond (kd==5) (K (OR 154) bl ch) (cond (kd==6) (K (OR 155) bl ch) (cond (kd==7) (K (OR 156) bl ch) (cond (kd==8) (K (OR 157) bl ch) (cond (kd==9) (K (OR 158) bl ch) (K (OR 159) bl ch)))))))
    |_=>False)
   |_=>False)
  |_,_,_=>False)
 |_=>False
theorem ED (a:Nat):oA prog (Td a) (Km (fr:=fr) a):=by
 intro e op ids bl ch R ms w0 w K ρ o hg hl S cx ho h;unfold Km at h;split at h
 ·rename_i mt m k;split at h
  ·rename_i x g mv kd hm hk;split at h
   ·rename_i kt et hu;split at h
    ·rename_i hkt;obtain⟨⟨rfl,htb,ha,h3,h11⟩,hK⟩:=h;have h2:=(abN hg ha).2;have e0:af [(.g x:Sm (Gh fr)),.m g] R=Bl.B x++(⟨g.id,true,ox .i64 g.tb⟩::R):=rfl;have S':=S;rw[e0,htb]at S';have ba:=S'.at' (x:=⟨g.id,true,ox .i64 (rR a)⟩) (by simp);have run:∀f,(∃j,Instr.findNow (.int .i64) (.int .i64 kd) (((rR a).zipIdx.map λx=>(⟨.int .i64 x.1.1,x.1.2,x.2⟩:MapEntry)).toArray).toList 0=some (some (j,OQ a f)))->K (OR f) bl [(.g x:Sm (Gh fr)),.m g]->
      ∃x_1 more bl' ch' w',((execOp ρ o).run prog w=.ok (.value (den (ids++more) x_1)) w'\/((execOp ρ o).run prog w=.ok .skip w'/\x_1=cE))/\(ids++more).length=bl'.length/\St ms w0 (lits (ids++more) (ids++more) bl'++af ch' R) w'/\K x_1 bl' ch':=by
      intro f hf hkf;refine⟨OR f,[],bl,_,w,.inl ?_,by simpa using hl,by simpa using S,hkf⟩;have aY:=Gc (P:=prog) hu hkt ba hf;unfold execOp;simp only[ho,cx,hm,hk,den]at aY⊢;have amk:den ids (OR f)=.tuple #[OQ a f,.bool true]:=by simp only[OR,den,ao,h2,OQ]
      rw[List.append_nil,amk];simp only[Sem.run_bind,aY,Result.andThen_ok,Sem.run_pure]
     have hkd:kd=3\/kd=4\/kd=5\/kd=6\/kd=7\/kd=8\/kd=9\/kd=10\/kd=11:=by omega
     rcases hkd with rfl|rfl|rfl|rfl|rfl|rfl|rfl|rfl|rfl
     ·exact run 152 ⟨0,by kernel_rfl⟩ hK
     ·exact run 153 ⟨1,by kernel_rfl⟩ hK
     ·exact run 154 ⟨2,by kernel_rfl⟩ hK
     ·exact run 155 ⟨3,by kernel_rfl⟩ hK
     ·exact run 156 ⟨4,by kernel_rfl⟩ hK
     ·exact run 157 ⟨5,by kernel_rfl⟩ hK
     ·exact run 158 ⟨6,by kernel_rfl⟩ hK
     ·exact run 159 ⟨7,by kernel_rfl⟩ hK
     ·exact run 159 ⟨8,by kernel_rfl⟩ hK
    ·exact h.elim
   ·exact h.elim
  ·exact h.elim
 ·exact h.elim
def rS:gm (Gh fr):=λargs bl ch K=>match args,ch with
 |[.raw vp,.int .u8 kd],g::rest=>vp=ei g.d.k/\K (.bool (decide (0<g.d.k.pn)&&(g.d.k.pf 0==kd))) bl (g::rest)
 |_,_=>False
theorem BR:cT (rS (fr:=fr)):=by
 intro args bl ch K h;unfold rS at h⊢;split at h
 ·exact⟨h.1,h.2,[],by simp⟩
 ·exact h.elim
def Te:List (dI Empty):=[]
theorem ae6 (x:Option Addr) (c:Nat) (kd:Int) (X:V->Prop):cJ (dR (G:=Empty) prog Cx Te) 40 97 [.raw (.slice x 0 c),.int .u8 kd] [] [] (λv _ _=>X v)=X (.bool false):=by kernel_rfl
theorem ae7 (n c:Nat) (kd:Int) (f:Nat->Int) (t:List Value) (X:V->Prop):cJ (dR (G:=Empty) prog Cx Te) 40 97 [.sl 0 0 (n+1) c,.int .u8 kd] [⟨false,⟨5,(0,0)⟩,[.dC .u8 (n+1) f,.rest t]⟩] [] (λv _ _=>X v)=cond (decide (((n+1:Nat):Int)>0)) (X (.bool (f 0==kd))) (X (.bool false)):=by kernel_rfl
theorem BS:ai (G:=Empty) prog Cx Te:=ai.nil
theorem BU:Sound prog gS 97 (rS (fr:=fr)):=by
 intro args ids bl ch R ms w0 w K hg hl S hc;unfold rS at hc;split at hc
 ·rename_i vp kd g rest;obtain⟨rfl,hK⟩:=hc;have e0:af (g::rest) R=g.F.B++af rest R:=rfl;have S':=S;rw[e0]at S';have main:aj prog 97 #[ei g.d.k,.int .u8 kd] w λv w1=>v=.bool (decide (0<g.d.k.pn)&&(g.d.k.pf 0==kd))/\Ch [] w w1:=by
   rcases Nat.eq_zero_or_pos g.d.k.pn with hz|Gs
   ·have ep:ei g.d.k=.slice g.d.k.px 0 g.d.k.pc:=by unfold ei;rw[hz]
    rw[ep];refine(bw (G:=Empty) BS.T BS.Q 40 (C:=dR prog Cx Te) (ids:=[]) (bl:=[]) (ch:=[]) (R:=[]) (ms:=[]) (w0:=w) (args:=[.raw (.slice g.d.k.px 0 g.d.k.pc),.int .u8 kd]) (λg i h=>by cases h) rfl (St.nil [] w) (K:=λv _ _=>v=.bool false) (f:=97) (by rw[ae6])).mono ?_;rintro v w' ⟨x,more,bl',ch',rfl,D8,S2,rfl⟩;exact⟨by simp[den,hz],S2.ch⟩
   ·obtain⟨bp,t,X,hx,hle,hB⟩:=Kl g.F Gs;rw[hB]at S';have ba:=S'.at' (x:=⟨bp,true,.cells (ab [] (eM g.d.k.pn g.d.k.pf t).c).toArray 5 (0,0)⟩) (by simp);obtain⟨n,hn⟩:∃n,g.d.k.pn=n+1:=⟨g.d.k.pn-1,by omega⟩;have ep:ei g.d.k=.slice (some ⟨bp,0,none⟩) (n+1) g.d.k.pc:=by unfold ei;rw[hx,hn]
    rw[ep];rw[hn]at ba;have S0:=St.given (w:=w) [(bp,.cells (ab [] (eM (n+1) g.d.k.pf t).c).toArray 5 (0,0))] (all_cons ba all_nil);have S1:St [] w (lits [bp] [bp] [⟨false,⟨5,(0,0)⟩,[.dC .u8 (n+1) g.d.k.pf,.rest t]⟩]++af ([]:List Empty) []) w:=by
     simpa[lits,aE,ab,cl,af,eM]using S0
    refine(bw (G:=Empty) BS.T BS.Q 40 (C:=dR prog Cx Te) (args:=[.sl 0 0 (n+1) g.d.k.pc,.int .u8 kd]) (λg i h=>by cases h) rfl S1 (K:=λv _ _=>v=.bool (g.d.k.pf 0==kd)) (f:=97) (by rw[ae7];exact aU (λ_=>rfl) (λe=>by have:=of_decide_eq_false e;omega))).mono ?_;rintro v w' ⟨x,more,bl',ch',rfl,D8,S2,rfl⟩;refine⟨?_,S2.ch⟩;have:decide (0<g.d.k.pn)=true:=by simp[Gs]
    simp[den,this]
  have ea:(ao ids [.raw (ei g.d.k),.int .u8 kd]).toArray=#[ei g.d.k,.int .u8 kd]:=rfl;rw[ea];refine main.mono ?_;rintro v w1 ⟨rfl,eZ⟩;exact⟨_,[],bl,g::rest,by simp only[den],by simpa using hl,by simpa using S.quiet eZ,hK⟩
 ·exact hc.elim
def HO (C:Sd.Crypt):gm (Gh fr):=λargs bl ch K=>match args,ch with
 |[.ptr it 0,.int .i64 l,.raw vp],g::rest=>(match bl[it]?with
  |some ⟨true,⟨157,(0,0)⟩,tc⟩=>(match uR tc with
   |some y=>cond (!(Nat.beq it 0)) ((vp=ei g.d.k/\bl[0]?=some (aG g.d.k)/\g.d.k.pn<=58/\By g.d.k.pf/\(1<=l/\l<=3)/\(0<=y.b/\y.b<=1000)/\(∀i,i<3->((aN y).ay i).on=true->0<=((aN y).ay i).seen.high/\((aN y).ay i).seen.high<=4294967295))/\
    (Sd.Tab.take C (pY y.b y.m) (aN y) l g.d.k.pn g.d.k.pf=(aN y,.error 16)->K (gA 16) bl ch)/\
    (Sd.Tab.take C (pY y.b y.m) (aN y) l g.d.k.pn g.d.k.pf=(aN y,.error 14)->K (gA 14) bl ch)/\
    (Sd.Tab.take C (pY y.b y.m) (aN y) l g.d.k.pn g.d.k.pf=(aN y,.error 13)->K (gA 13) bl ch)/\
    (Sd.Tab.take C (pY y.b y.m) (aN y) l g.d.k.pn g.d.k.pf=(aN y,.error 15)->K (gA 15) bl ch)/\
    (∀t' m,Sd.Tab.take C (pY y.b y.m) (aN y) l g.d.k.pn g.d.k.pf=(t',.ok m)->K (.az [.agg (cw m),.int .i64 0]) (bl.set it ⟨true,⟨157,(0,0)⟩,cd (Fz t' y.b y.m)⟩) ch)) False
   |none=>False)
  |_=>False)
 |_,_=>False
theorem wQ {C:Sd.Crypt} {p:Sd.Pol} {t t':Sd.Tab} {l:Int} {n:Nat} {f:Nat->Int} {e:Int} (h:Sd.Tab.take C p t l n f=(t',.error e)):e=16\/e=14\/e=13\/e=15:=by
 unfold Sd.Tab.take at h
 repeat' split at h
 all_goals first|(cases h;done)|(obtain⟨_,h2⟩:=Prod.mk.inj h;cases h2;simp)
theorem BV:Sound prog gS 100 (HO (fr:=fr) (ah aT)):=by
 intro args ids bl ch R ms w0 w K hg hl S hc;refine EB args ids bl ch R ms w0 w K hg hl S ?_;unfold HO at hc;unfold HL;split at hc
 ·rename_i it l vp g rest;split at hc
  ·rename_i tc hb;try simp only[hb]
   split at hc
   ·rename_i y hy;try simp only[hy]
    cases hq:!(Nat.beq it 0)with
    |false=>rw[hq]at hc;exact hc.elim
    |true=>
     rw[hq]at hc;obtain⟨hp,h16,h14,h13,Zj,hok⟩:=hc;refine⟨hp,λe he=>?_,hok⟩;rcases wQ he with rfl|rfl|rfl|rfl
     ·exact h16 he
     ·exact h14 he
     ·exact h13 he
     ·exact Zj he
   ·exact hc.elim
  ·exact hc.elim
 ·exact hc.elim
def LIg (fr:Sd.Reply->Nat×Sd.Byt) (C:Sd.Crypt):List (dI (Gh fr)):=⟨98,false,pP (tQ C)⟩::⟨99,false,pP (xF C)⟩::⟨100,false,HO C⟩::⟨97,true,rS⟩::⟨152,false,pP (jn λs l m=>s.done l m.seq)⟩::⟨153,false,pP (jn λs l m=>s.En C l m)⟩::⟨154,false,pP (jn λs l m=>s.ask C l m)⟩::
 ⟨155,false,pP (jn λs l m=>s.offer C l m)⟩::⟨156,false,pP (jn λs l m=>s.accept C l m)⟩::⟨157,false,pP (jn λs l m=>s.fJ C l m)⟩::⟨158,false,pP (jn λs l m=>s.release C l m)⟩::⟨159,false,pP (Sz C)⟩::L8 fr C
theorem ae8 (ht:Body (fr:=fr) 147 bV):ai prog gS (LIg fr (ah aT)):=
 ai.cons (c_ (NH ht)) (ai.cons (c_ (HJ ht)) (ai.cons ⟨BV,λe=>by cases e⟩ (ai.cons ⟨BU,λ_=>BR⟩ (ai.cons (c_ (Nv aT ht)) (ai.cons (c_ (SA aT ht)) (ai.cons (c_ (Sn aT ht)) (ai.cons (c_ (Hr aT ht)) (ai.cons (c_ (Ef aT ht)) (ai.cons (c_ (Nw aT ht)) (ai.cons (c_ (BF aT ht)) (ai.cons (c_ (BK aT ht)) (xp aT ht))))))))))))
def LI (fr:Sd.Reply->Nat×Sd.Byt) (a:Nat) (C:Sd.Crypt):List (dI (Sm (Gh fr))):=⟨101,true,EC a⟩::PY (LIg fr C)
theorem ajf (a:Nat) (ht:Body (fr:=fr) 147 bV):ai prog (Td a) (LI fr a (ah aT)):=ai.cons ⟨HM a,λ_=>HN a⟩ (Dg (λids h=>aje h) (ae8 ht))
def Tf (k:LK) (s:Sd.Scene) (Kb:SK fr k):V->List VB->List (Sm (Gh fr))->Prop:=λv bl ch=>∃s' F' r,fK 0 v=true/\s'.c.p=s.c.p/\Kb v s' F'/\bl.take 5=cS k s' F'/\ch=.g (cB k s' F')::r
section
variable(a:Nat) (C:Sd.Crypt) (k:LK) (s:Sd.Scene) (F:bN fr (bA k s)) (Kb:SK fr k) (l code:Int)
def xm (r:List (Sm (Gh fr))) (s':Sd.Scene) (F':bN fr (bA k s')):Prop:=Tf k s Kb (.az []) (cS k s' F') (.g (cB k s' F')::r)
def itE (e:Int):Prop:=Sd.Tab.take C (pY s.c.p.bh s.c.p.aR) (dw s.c.tab) l k.pn k.pf=(dw s.c.tab,.error e)->ez k s F/\tM C [.int .i64 l,.int .i64 e] k (dv s) F λv s' F'=>xm k s Kb [] s' F'
def Zg (M:SM fr) (t':Sd.Tab) (m:Sd.bW) (id:Nat):Prop:=ez k s F/\M [.int .i64 l,.agg (cw m)] k (rH s t') F λv s' F'=>xm k s Kb [.m ⟨id,rR a⟩] s' F'
def itO (t':Sd.Tab) (m:Sd.bW):Prop:=gS a=none/\∀id:Nat,(Value.map (some id)=.map (some id)/\rR a=rR a/\gS a=none/\3<=m.kind/\m.kind<=11)/\
 cond (m.kind==3) (Zg a k s F Kb l (jn λs l m=>s.done l m.seq) t' m id) (cond (m.kind==4) (Zg a k s F Kb l (jn λs l m=>s.En C l m) t' m id) (cond (m.kind==5) (Zg a k s F Kb l (jn λs l m=>s.ask C l m) t' m id) (cond (m.kind==6) (Zg a k s F Kb l (jn λs l m=>s.offer C l m) t' m id)
 (cond (m.kind==7) (Zg a k s F Kb l (jn λs l m=>s.accept C l m) t' m id) (cond (m.kind==8) (Zg a k s F Kb l (jn λs l m=>s.fJ C l m) t' m id) (cond (m.kind==9) (Zg a k s F Kb l (jn λs l m=>s.release C l m) t' m id) (Zg a k s F Kb l (Sz C) t' m id)))))))
def Tg:Prop:=
 cond (code !=0) (ez k s F/\tM C [.int .i64 l,.int .i64 code] k (dv s) F λv s' F'=>xm k s Kb [] s' F')
 (ei k=ei k/\cond (decide (0<k.pn)&&(k.pf 0==1)) (ez k s F/\tQ C [.int .i64 l,.raw (ei k)] k (dv s) F λv s' F'=>xm k s Kb [] s' F')
 (ei k=ei k/\cond (decide (0<k.pn)&&(k.pf 0==2)) (ez k s F/\xF C [.int .i64 l,.raw (ei k)] k (dv s) F λv s' F'=>xm k s Kb [] s' F')
 ((ei k=ei k/\some (aG k)=some (aG k)/\k.pn<=58/\By k.pf/\(1<=l/\l<=3)/\(0<=s.c.p.bh/\s.c.p.bh<=1000)/\(∀i,i<3->((aN (VV s)).ay i).on=true->0<=((aN (VV s)).ay i).seen.high/\((aN (VV s)).ay i).seen.high<=4294967295))/\
   itE C k s F Kb l 16/\itE C k s F Kb l 14/\itE C k s F Kb l 13/\itE C k s F Kb l 15/\∀t' m,Sd.Tab.take C (pY s.c.p.bh s.c.p.aR) (dw s.c.tab) l k.pn k.pf=(t',.ok m)->itO a C k s F Kb l t' m)))
theorem Zh:cJ (mL prog (Td a) (LI fr a C) (Km a) (ED a)) 90 56 [.ptr 2 0,.int .i64 l,.agg [.int .i64 code,.raw (ei k)]] (cS k s F) [.g (cB k s F)] (Tf k s Kb)=Tg a C k s F Kb l code:=by kernel_rfl
end
theorem Zi {w:Sd.cN} {n:Int} (h:0<=w.high/\w.high<=4294967295) (hn:0<=n/\n<=4294967295):0<=(dD w n).high/\(dD w n).high<=4294967295:=by
 unfold dD
 repeat' split
 all_goals first|exact hn|exact h
theorem Th (H:Nat->Int):By (Dm H):=by
 intro j;have hw:∀n:Int,0<=u8.wrap n/\u8.wrap n<=255:=by intro n;simp[IntKind.wrap,IntKind.bits,IntKind.signed];omega
 unfold Dm;split<;>exact hw _
theorem ae9 (n:Nat) (f:Nat->Int):By (ji n f):=by
 unfold ji;cases Nat.ble n 55
 ·exact Th _
 ·exact Th _
theorem ln:Sd.rf (ah aT):=⟨λk s n j=>by
 show 0<=dq k.1 k.2 s n j/\dq k.1 k.2 s n j<=255;unfold dq fA;exact ae9 _ _ j,λn f m h=>HI h,λw n h1 h2=>Zi h1 h2⟩
structure Zl (k:LK) (s:Sd.Scene) (l:Int):Prop where
 r:Rm s 8
 i:Sd.Inv s.c
 lo:1<=l/\l<=3
 d:∀i,i<3->(s.c.doors i).many<=9223372036854775807
 key:∀i,i<4->1<=k.kn i/\k.kn i<=64
 ke:∀i,i<4->s.c.p.k i=(k.kn i,k.kf i)
 zF:k.pn<=58/\By k.pf
def EE (C:Sd.Crypt):SM fr:=λar k s F K=>match ar with
 |[.int .i64 l,.agg [.int .i64 code,.raw vp]]=>(vp=ei k/\Zl k s l)/\∀F',K (.az []) (s.item C l code k.pn k.pf) F'
 |_=>False
theorem Zl.Fx {k:LK} {s:Sd.Scene} {l:Int} (h:Zl k s l):aeP k s l:=⟨h.r,λi hi=>⟨h.i.doors i hi,h.d i hi⟩,h.key 3 (by decide),h.ke 3 (by decide),⟨by have:=h.zF.1;omega,h.zF.2⟩,h.lo⟩
theorem Zl.prv {k:LK} {s:Sd.Scene} {l:Int} (h:Zl k s l):Y6 k s l:=⟨h.r,h.lo,h.key _ (by have:=h.lo;omega),h.ke _ (by have:=h.lo;omega),by have:=h.i.p.bh;omega,h.i.tok.holder,h.i.eW⟩
theorem Ti (C:Sd.Crypt) (s:Sd.Scene) (l:Int) (n:Nat) (f:Nat->Int) (hl:1<=l/\l<=3):
 (∃e,Sd.Tab.take C (pY s.c.p.bh s.c.p.aR) (dw s.c.tab) l n f=(dw s.c.tab,.error e)/\Sd.Tab.take C s.c.p s.c.tab l n f=(s.c.tab,.error e))\/
 (∃m E t,Sd.Tab.take C (pY s.c.p.bh s.c.p.aR) (dw s.c.tab) l n f=(E,.ok m)/\Sd.Tab.take C s.c.p s.c.tab l n f=(t,.ok m)/\rH s E=dZ s t):=by
 have Zc:(dw s.c.tab).ay (l.toNat-1)=s.c.tab.ay (l.toNat-1):=by
  have:l=1\/l=2\/l=3:=by omega
  rcases this with rfl|rfl|rfl<;>rfl
 have hb:(pY s.c.p.bh s.c.p.aR).bh=s.c.p.bh:=rfl;unfold Sd.Tab.take;rw[w9,Zc,hb];by_cases h1:s.c.tab.cZ l=false
 ·rw[if_pos h1,if_pos h1];exact .inl ⟨16,rfl,rfl⟩
 rw[if_neg h1,if_neg h1];by_cases h2:n<8\/C.opens (s.c.tab.ay (l.toNat-1)).key l n f=false
 ·rw[if_pos h2,if_pos h2];exact .inl ⟨14,rfl,rfl⟩
 rw[if_neg h2,if_neg h2];cases C.take (n-8) f with
 |none=>exact .inl ⟨13,rfl,rfl⟩
 |some m=>
  simp only;by_cases h3:m.kind=1\/m.kind=2
  ·rw[if_pos h3,if_pos h3];exact .inl ⟨13,rfl,rfl⟩
  rw[if_neg h3,if_neg h3];by_cases h4:C.kS (s.c.tab.ay (l.toNat-1)).seen m.seq=(s.c.tab.ay (l.toNat-1)).seen
  ·rw[if_pos h4,if_pos h4];exact .inl ⟨15,rfl,rfl⟩
  rw[if_neg h4,if_neg h4];refine .inr ⟨m,_,_,rfl,rfl,rI rfl (λj hj=>?_) (λj=>?_)⟩
  ·simp only[Sd.Tab.dT];split
   ·rfl
   ·have:j=0\/j=1\/j=2:=by omega
    rcases this with rfl|rfl|rfl<;>rfl
  ·simp only[Sd.Tab.dT];rw[if_neg (by omega)]
theorem Tj {C:Sd.Crypt} {b:Prop} {s s':Sd.Scene} {kd l:Int} (h:Sd.l5 C b s s' kd l):s'.c.p=s.c.p:=by
 rcases h.GN with q|⟨how,g,_⟩
 ·exact q.p
 ·exact g.p
theorem Tk {a:Nat} {k:LK} {s:Sd.Scene} {F:bN fr (bA k s)} {Kb:SK fr k} {l code:Int} (ha:gS a=none) (hq:s.c.p.queue=k.most) (hP:Zl k s l) (hK:∀F',Kb (.az []) (s.item (ah aT) l code k.pn k.pf) F'):Tg a (ah aT) k s F Kb l code:=by
 have leaf:∀(r:List (Sm (Gh fr))) (s':Sd.Scene) (F':bN fr (bA k s')),s'=s.item (ah aT) l code k.pn k.pf->s'.c.p=s.c.p->xm k s Kb r s' F':=by
  intro r s' F' e hp;subst e;exact⟨_,F',r,rfl,hp,hK F',rfl,rfl⟩
 have BW:∀e,code=0->¬(0<k.pn/\k.pf 0=1)->¬(0<k.pn/\k.pf 0=2)->itE (ah aT) k s F Kb l e:=by
  intro e hc h1 h2 he;refine⟨eY hq,w_ (hP.r.r1) λF1=>leaf _ _ F1 ?_ rfl⟩;unfold Sd.Scene.item;rw[if_neg (by simp[hc]),if_neg h1,if_neg h2];rcases Ti (ah aT) s l k.pn k.pf hP.lo with⟨e',h3,h4⟩|⟨m,E,t,h3,_,_⟩
  ·rw[h4];rw[h3]at he;have:=(Prod.mk.inj he).2;cases this;rfl
  ·rw[h3]at he;have:=(Prod.mk.inj he).2;cases this
 unfold Tg;refine aU (λe=>⟨eY hq,w_ hP.r.r1 λF1=>leaf _ _ F1 ?_ rfl⟩) (λe=>⟨rfl,aU (λe1=>⟨eY hq,fC (M:=tQ (ah aT)) ⟨⟨rfl,hP.Fx⟩,λF1=>leaf _ _ F1 ?_ ?_⟩⟩) (λe1=>⟨rfl,aU (λe2=>⟨eY hq,fC (M:=xF (ah aT)) ⟨⟨rfl,hP.prv,hP.zF.2⟩,λF1=>leaf _ _ F1 ?_ ?_⟩⟩) (λe2=>?_)⟩)⟩)
 ·unfold Sd.Scene.item;rw[if_pos (by simpa using e)]
 ·unfold Sd.Scene.item;rw[if_neg (by simpa using e),if_pos (by simpa using e1)]
 ·exact Tj (b:=False) (Sd.zx ln hP.i hP.lo)
 ·unfold Sd.Scene.item;rw[if_neg (by simpa using e),if_neg (by simpa using e1),if_pos (by simpa using e2)]
 ·exact Tj (b:=False) (Sd.ajT ln hP.i hP.lo)
 ·have hc:code=0:=by simpa using e
  have n1:¬(0<k.pn/\k.pf 0=1):=by simpa using e1
  have n2:¬(0<k.pn/\k.pf 0=2):=by simpa using e2
  refine⟨⟨rfl,rfl,hP.zF.1,hP.zF.2,hP.lo,by have:=hP.i.p.bh;omega,λi hi tD=>?_⟩,BW 16 hc n1 n2,BW 14 hc n1 n2,BW 13 hc n1 n2,BW 15 hc n1 n2,λt' m ht=>⟨ha,λid=>?_⟩⟩
  ·have hs:(aN (VV s)).ay i=s.c.tab.ay i:=by
    have:i=0\/i=1\/i=2:=by omega
    rcases this with rfl|rfl|rfl<;>rfl
   rw[hs]at tD⊢;have:=hP.i.tab.ay i hi tD;exact⟨this.2.2.2.2.2.1,this.2.2.2.2.2.2⟩
  ·rcases Ti (ah aT) s l k.pn k.pf hP.lo with⟨e',h3,h4⟩|⟨m',E,t,h3,h4,h5⟩
   ·rw[h3]at ht;have:=(Prod.mk.inj ht).2;cases this
   ·rw[h3]at ht;obtain⟨rfl,hm⟩:=Prod.mk.inj ht;cases hm;obtain⟨g1,g2,g3,g4,g5⟩:=Sd.JO ln h4;have hkd:=g2.kind;have abM:=hP.i.p.bh;have g1':s.c.tab.on l=true:=by rw[Sd.A5 hP.lo];exact g1
    have tD:(s.c.tab.ay (l.toNat-1)).on=true:=by unfold Sd.Tab.cZ at g1;simp at g1;exact g1.2
    have i1:Sd.Inv (dZ s t).c:=by
     have:=hP.i.dT (i:=l.toNat-1) (x:={(s.c.tab.ay (l.toNat-1))with seen:=(ah aT).kS (s.c.tab.ay (l.toNat-1)).seen m.seq,on:=true,aH:=.start s.c.p.bh}) rfl
      (by
       have:=hP.i.tab.ay (l.toNat-1) (by have:=hP.lo;omega) tD;have h9:=ln.kS (s.c.tab.ay (l.toNat-1)).seen m.seq ⟨by omega,by omega⟩ g2.seq;simp[Sd.Timer.start];omega)
     rw[<-g5]at this;exact this
    have hS:Sy (dZ s t) l m:=⟨hP.r,i1,g2.seq,hP.lo.1,hP.lo.2⟩;have ae_:(dZ s t).c.tab.on l=true:=by
     show t.on l=true;rw[g5];exact Sd.l7 g1' rfl
    have RI:s.item (ah aT) l code k.pn k.pf=(dZ s t).u9 (ah aT) l m:=by
     unfold Sd.Scene.item;rw[if_neg (by simp[hc]),if_neg n1,if_neg n2,h4];rfl
    have ajg:((dZ s t).u9 (ah aT) l m).c.p=s.c.p:=(Tj (C:=ah aT) (b:=False) (Sd.JQ i1 hP.lo g2 ae_ g3 g4)).trans rfl;have go:∀(act:Sd.Scene->Int->Sd.bW->Sd.Scene),act (dZ s t) l m=(dZ s t).u9 (ah aT) l m->Zg a k s F Kb l (jn act) E m id:=by
     intro act Tl;refine⟨eY hq,H7 (M:=λs' F'=>jn act [.int .i64 l,.agg (cw m)] k s' F' λv s' F'=>xm k s Kb [.m ⟨id,rR a⟩] s' F') h5 F ?_⟩;exact⟨hS,λF1=>leaf _ _ F1 (by rw[RI,Tl]) (by rw[Tl];exact ajg)⟩
    refine⟨⟨rfl,rfl,ha,by omega,by omega⟩,?_⟩;have sy:∀j:Int,m.kind=j->(dZ s t).u9 (ah aT) l m=(dZ s t).u9 (ah aT) l m:=λ_ _=>rfl;refine aU (λe=>go _ ?_) (λx3=>aU (λe=>go _ ?_) (λx4=>aU (λe=>go _ ?_) (λx5=>aU (λe=>go _ ?_) (λx6=>aU (λe=>go _ ?_) (λx7=>aU (λe=>go _ ?_) (λx8=>aU (λe=>go _ ?_) (λx9=>?_)))))))
    ·unfold Sd.Scene.u9;rw[if_pos (by simpa using e)]
    ·unfold Sd.Scene.u9;rw[if_neg (by simpa using x3),if_pos (by simpa using e)]
    ·unfold Sd.Scene.u9;rw[if_neg (by simpa using x3),if_neg (by simpa using x4),if_pos (by simpa using e)]
    ·unfold Sd.Scene.u9;rw[if_neg (by simpa using x3),if_neg (by simpa using x4),if_neg (by simpa using x5),if_pos (by simpa using e)]
    ·unfold Sd.Scene.u9;rw[if_neg (by simpa using x3),if_neg (by simpa using x4),if_neg (by simpa using x5),if_neg (by simpa using x6),if_pos (by simpa using e)]
    ·unfold Sd.Scene.u9;rw[if_neg (by simpa using x3),if_neg (by simpa using x4),if_neg (by simpa using x5),if_neg (by simpa using x6),if_neg (by simpa using x7),if_pos (by simpa using e)]
    ·unfold Sd.Scene.u9;rw[if_neg (by simpa using x3),if_neg (by simpa using x4),if_neg (by simpa using x5),if_neg (by simpa using x6),if_neg (by simpa using x7),if_neg (by simpa using x8),if_pos (by simpa using e)]
    ·have h10:m.kind=10\/m.kind=11:=by simp at x3 x4 x5 x6 x7 x8 x9;omega
     have Tl:(dZ s t).command (ah aT) l m=(dZ s t).u9 (ah aT) l m:=by
      unfold Sd.Scene.u9;rw[if_neg (by simpa using x3),if_neg (by simpa using x4),if_neg (by simpa using x5),if_neg (by simpa using x6),if_neg (by simpa using x7),if_neg (by simpa using x8),if_neg (by simpa using x9),if_pos h10]
     refine⟨eY hq,H7 (M:=λs' F'=>Sz (ah aT) [.int .i64 l,.agg (cw m)] k s' F' λv s' F'=>xm k s Kb [.m ⟨id,rR a⟩] s' F') h5 F ?_⟩;exact⟨⟨hS,h10⟩,λF1=>leaf _ _ F1 (by rw[RI,Tl]) (by rw[Tl];exact ajg)⟩
theorem NL (ht:Body (fr:=fr) 147 bV):Body (fr:=fr) 56 (EE (ah aT)):=by
 intro ar k s F Kb a b c R ms w0 w h0 hq hM S;unfold EE at hM;split at hM
 ·rename_i l code vp;obtain⟨⟨rfl,hP⟩,hK⟩:=hM;have aml:a_ a b c=[1,0,a,b,c]:=rfl;have ha:gS a=none:=by
   have h1:(lits (a_ a b c) (a_ a b c) (cS k s F)++(F.B++R))[0]?=some (aE (a_ a b c) 1 (aG k)):=rfl;have h2:(lits (a_ a b c) (a_ a b c) (cS k s F)++(F.B++R))[1]?=some (aE (a_ a b c) 0 (iA k)):=rfl;have h3:(lits (a_ a b c) (a_ a b c) (cS k s F)++(F.B++R))[2]?=some (aE (a_ a b c) a (w7 3 F)):=rfl;have n0:a≠1:=S.apart 2 0 _ _ h3 h1 (by decide) rfl;have n2:a≠0:=S.apart 2 1 _ _ h3 h2 (by decide) rfl;unfold gS;split
   ·exact absurd rfl n0
   ·exact absurd rfl n2
   ·rfl
  have hg:Gl (Td a) (a_ a b c):=by
   intro g i iX;unfold Td at iX;split at iX
   ·rename_i j hj;obtain rfl:=Option.some.inj iX;have:=aja a b c [] g j hj;simpa using this
   ·cases hb:Nat.beq g a with
    |false=>rw[hb]at iX;cases iX
    |true=>
     rw[hb]at iX;obtain rfl:=Option.some.inj iX;obtain rfl:=Nat.eq_of_beq_eq_true hb;exact⟨by simp[aml],rfl⟩
  have S1:St ms w0 (lits (a_ a b c) (a_ a b c) (cS k s F)++af [(.g (cB k s F):Sm (Gh fr))] R) w:=S;have hL:=ajf (fr:=fr) a ht;refine(bw (G:=Sm (Gh fr)) hL.T hL.Q 90 (C:=mL prog (Td a) (LI fr a (ah aT)) (Km a) (ED a)) (f:=56) (args:=[.ptr 2 0,.int .i64 l,.agg [.int .i64 code,.raw (ei k)]]) (K:=Tf k s Kb) hg rfl S1 (by
   rw[Zh];exact Tk ha hq hP hK)).mono ?_
  rintro v w' ⟨x,more,bl',ch',rfl,h1,S',s',F',r,hv,hp,hK',hb,rfl⟩;have ev:den (a_ a b c++more) x=den [] x:=by have:=bC (ids:=[]) (more:=a_ a b c++more) x hv;simpa using this
  refine⟨x,s',F',ev,hv,hp,hK',?_⟩;have gz:bl'=cS k s' F'++bl'.drop 5:=by rw[<-hb,List.take_append_drop]
  rw[gz]at S';have e2:lits (a_ a b c++more) (a_ a b c++more) (cS k s' F'++bl'.drop 5)=lits (a_ a b c) (a_ a b c) (cS k s' F')++lits (a_ a b c++more) more (bl'.drop 5):=by
   rw[aI _ _ _ _ rfl,aJ (ids:=a_ a b c) (more:=more) (a_ a b c) (cS k s' F') rfl]
  rw[e2]at S';have e3:af (.g (cB k s' F')::r:List (Sm (Gh fr))) R=F'.B++af r R:=rfl;rw[e3,aW R r]at S';refine S'.sub ?_;rw[List.append_assoc];refine List.Sublist.append_left ?_ _;refine List.Sublist.trans ?_ (List.sublist_append_right _ _);exact List.Sublist.append_left (List.sublist_append_right _ _) _
 ·exact hM.elim
end Go.Proofs.YtggfpcggakghnaaGreatDoor
namespace Go.Proofs.YtggfpcggakghnaaGreatDoor
open Go Go.RowKit Go.BigFrame Sx Vx
variable{fr:Sd.Reply->Nat×Sd.Byt}
structure me (c:Sd.Core):Prop where
 p:Sd.cK c.p
 t:TB c.t
 o1:db c.t.oa.n
 o2:db c.t.oa.most
 l1:db c.t.la.n
 l2:db c.t.la.most
 VS:c.t.offer<=4
 q:∀a∈c.q,N4 a.source/\db a.gU.n/\db a.gU.most
 pt:PtB c.pt
theorem b0:db 0:=⟨by decide,by decide⟩
theorem abO {n m:Int} (h1:db n) (h2:db m):db (Sd.sat n m):=by
 obtain⟨a,b⟩:=h1;obtain⟨c,d⟩:=h2;unfold Sd.sat;split
 ·exact⟨by omega,by omega⟩
 ·exact⟨c,d⟩
theorem me.tok {c:Sd.Core} (h:me c) {t:Sd.Tok} (ht:TB t) (o1:db t.oa.n) (o2:db t.oa.most) (VS:t.offer<=4) (hl:t.la=c.t.la):me {c with t:=t}:=⟨h.p,ht,o1,o2,hl▸h.l1,hl▸h.l2,VS,h.q,h.pt⟩
theorem me.drop {c:Sd.Core} (h:me c) (l:Int):me {c with t:=(c.t.drop l).1}:=by
 unfold Sd.Tok.drop;split
 ·exact h
 ·exact h.tok ⟨h.t.h,h.t.e⟩ b0 b0 (by simp[Sd.Tok.bG]) rfl
theorem me.tick {c:Sd.Core} (h:me c):me {c with t:=c.t.tick.1}/\c.t.tick.2<=4:=by
 unfold Sd.Tok.tick;split
 ·exact⟨h,by simp⟩
 ·split
  ·exact⟨h.tok ⟨h.t.h,h.t.e⟩ b0 b0 (by simp[Sd.Tok.bG]) rfl,h.VS⟩
  ·exact⟨h.tok ⟨h.t.h,h.t.e⟩ (abO h.o1 h.o2) h.o2 h.VS rfl,by simp⟩
theorem me.qs {c:Sd.Core} (h:me c) {q:List Sd.Ask} (hq:∀a∈q,N4 a.source/\db a.gU.n/\db a.gU.most):me {c with q:=q}:=⟨h.p,h.t,h.o1,h.o2,h.l1,h.l2,h.VS,hq,h.pt⟩
theorem me.head {c:Sd.Core} (h:me c) (x:Sd.Byt):me {c with head:=x}:=⟨h.p,h.t,h.o1,h.o2,h.l1,h.l2,h.VS,h.q,h.pt⟩
theorem me.rcd {s:Sd.Scene} (h:me s.c) (C:Sd.Crypt) (a b c d e:Int):me (s.record C a b c d e).c:=h.head _
theorem me.gone {s:Sd.Scene} (h:me s.c) (l w c:Int):me (s.gone l w c).c:=by rw[gone_c];exact h
theorem me.leave {s:Sd.Scene} (h:me s.c) (C:Sd.Crypt) (l:Int):me (s.leave C l).c:=by
 have h1:me (qd s l).c:=h.qs λa ha=>h.q a (List.mem_filter.1 ha).1;rw[xg];split
 ·exact h1
 ·exact((show me (fQ (qd s l) (s.c.t.drop l).1).c from h1.drop l).gone _ _ _).rcd _ _ _ _ _ _
def zI (C:Sd.Crypt) (s:Sd.Scene) (a:Sd.Ask):Sd.Scene:=(s.gone a.source a.source 30).record C 12 a.source 0 30 0
def im (C:Sd.Crypt) (s:Sd.Scene) (x:Int):Sd.Scene:=if Sd.linked x then(s.record C 5 x 0 0 0).leave C x else s.record C 5 x 0 0 0
def NM (C:Sd.Crypt) (s:Sd.Scene):Sd.Scene:=if 0<=s.c.t.tick.2 then((fQ s s.c.t.tick.1).gone s.c.t.tick.1.holder s.c.t.tick.2 30).record C 12 s.c.t.tick.2 0 30 0 else fQ s s.c.t.tick.1
section
variable{tk:Nat->Sd.Byt->Option Sd.bW} {k:LK} {s0:Sd.Scene} {Kb:SK fr k}
theorem me.im {s:Sd.Scene} (h:me s.c) (C:Sd.Crypt) (x:Int):me (im C s x).c:=by
 unfold Go.Proofs.YtggfpcggakghnaaGreatDoor.im;split
 ·exact(h.rcd C _ _ _ _ _).leave C x
 ·exact h.rcd C _ _ _ _ _
theorem Rm.im {C:Sd.Crypt} {s:Sd.Scene} {x:Int} {n:Nat} (h:Rm s (n+3)):Rm (im C s x) n:=by
 unfold Go.Proofs.YtggfpcggakghnaaGreatDoor.im;have h1:Rm (s.record C 5 x 0 0 0) (n+2):=Rm.rec h;split
 ·exact h1.leave
 ·exact h1.le (by omega)
end
def Hi (s:Sd.Scene):Prop:=∀j,(s.c.tab.ay (j+3)).on=false
def Kq (C:Sd.Crypt) (s:Sd.Scene):Sd.Scene:=NM C (s.c.tab.ended.foldl (im C) (dZ s s.c.tab.tick))
theorem vA (C:Sd.Crypt) (s:Sd.Scene):s.tick C=pT (((Sd.Q.gone (Kq C s).c.q).foldl (zI C) (bH (Kq C s) (Sd.Q.kept (Kq C s).c.q))).cY C):=by kernel_rfl
structure TkP (s:Sd.Scene):Prop where
 c:me s.c
 r:Rm s 28
 h:Hi s
 b:TB3 s.c.tab
def cC:Value:=.slice none 0 0
def fV (k:LK) (s:Sd.Scene):List VB:=[aG k,iA k,ew k 3 s,gP s]
def Ts (k:LK) (s:Sd.Scene) (F:bN fr (bA k s)):Prop:=cC=F.vs/\cC=F.vr/\some (aG k)=some (aG k)/\some (iA k)=some (iA k)/\Cz k 3 s=Cz k 3 (dv s)/\s.c.p.bh=s.c.p.bh/\s.c.p.aR=s.c.p.aR/\s.c.p.queue=k.most
def EI (s:Sd.Scene) (vs vr:Value):List V:=[.int .i64 s.c.mode,.int .i64 s.c.pt.cls,.int .i64 s.c.pt.now.a,.int .i64 s.c.pt.now.b,.int .i64 s.c.pt.now.c,.int .i64 s.c.pt.now.d,.int .i64 s.c.bj.mD,.int .i64 s.c.bj.source,.int .i64 s.c.bj.seq,
 .int .i64 s.c.pt.cX.mD,.int .i64 s.c.pt.cX.source,.int .i64 s.c.pt.cX.seq,.raw vs,.raw vr,.dC .u8 32 s.c.head]
def uz (k:LK) (s:Sd.Scene) (Kb:(s':Sd.Scene)->bN fr (bA k s')->Prop):VK (Gh fr):=λv bl ch=>∃(s':Sd.Scene) (F':bN fr (bA k s')),v=.agg (EI s' F'.vs F'.vr)/\bl.take 4=fV k s'/\ch=[cB k s' F']/\Kb s' F'
def LCs (fr:Sd.Reply->Nat×Sd.Byt) (C:Sd.Crypt):List (dI (Gh fr)):=[⟨50,false,pP (SC C)⟩]
theorem aeS (ht:Body (fr:=fr) 147 bV):ai prog gS (LCs fr (ah aT)):=ai.cons (c_ (H8 aT ht)) ai.nil
def LCh (fr:Sd.Reply->Nat×Sd.Byt) (C:Sd.Crypt):List (dI (Gh fr)):=[⟨52,false,pP (j3 C)⟩]
theorem aeT (ht:Body (fr:=fr) 147 bV):ai prog gS (LCh fr (ah aT)):=ai.cons (c_ (IG aT ht)) ai.nil
def LCi (fr:Sd.Reply->Nat×Sd.Byt) (C:Sd.Crypt):List (dI (Gh fr)):=[⟨56,false,pP (EE C)⟩]
theorem Kn (ht:Body (fr:=fr) 147 bV):ai prog gS (LCi fr (ah aT)):=ai.cons (c_ (NL ht)) ai.nil
section
variable(C:Sd.Crypt) (k:LK) (s:Sd.Scene) (F:bN fr (bA k s)) (Kb:(s':Sd.Scene)->bN fr (bA k s')->Prop)
def lfC (s':Sd.Scene) (F':bN fr (bA k s')):Prop:=uz k s Kb (.agg (EI s' F'.vs F'.vr)) (fV k s') [cB k s' F']
theorem Kp (b:Bool):cJ (dR prog gS (LCh fr C)) 60 21 [.ptr 2 0,.bool b] (fV k s) [cB k s F] (uz k s Kb)=(Ts k s F/\j3 C [.bool b] k (dv s) F λv s' F'=>lfC k s Kb s' F'):=by kernel_rfl
theorem KK (x:Sd.dS):cJ (dR prog gS (LCs fr C)) 60 20 [.ptr 2 0,.agg (ri x)] (fV k s) [cB k s F] (uz k s Kb)=(Ts k s F/\SC C [.agg (ri x)] k (dv s) F λv s' F'=>lfC k s Kb s' F'):=by kernel_rfl
def ajh (l code:Int):Prop:=
 let no:Prop:=uz k s Kb (.agg (EI s cC cC)) (fV k s) [cB k s F]
 cond (decide (l>=1)) (cond (decide (l<=3)) (Ts k s F/\EE C [.int .i64 l,.agg [.int .i64 code,.raw (ei k)]] k (dv s) F λv s' F'=>lfC k s Kb s' F') no) no
theorem Tu (l code:Int):cJ (dR prog gS (LCi fr C)) 60 24 [.ptr 2 0,.int .i64 l,.agg [.int .i64 code,.raw (ei k)]] (fV k s) [cB k s F] (uz k s Kb)=ajh C k s F Kb l code:=by kernel_rfl
end
def oW (s:Sd.Scene) (qv:V):List V:=[.int .i64 s.c.t.holder,.int .i64 s.c.t.epoch,.int .i64 s.c.t.offer,.int .i64 s.c.mode]++(oF s.c.bj++(rK s.c.pt++(qv::([.bool ((dw s.c.tab).on 0),.bool ((dw s.c.tab).on 1),.bool ((dw s.c.tab).on 2),.bool ((dw s.c.tab).on 3),.bool ((dw s.c.tab).on 4)]++
 [.int .i64 ((dw s.c.tab).role 0),.int .i64 ((dw s.c.tab).role 1),.int .i64 ((dw s.c.tab).role 2),.int .i64 ((dw s.c.tab).role 3),.int .i64 ((dw s.c.tab).role 4),.bool s.c.t.bad]))))
def xJ:List Sd.Ask->List V
 |[]=>[]
 |a::l=>.int .i64 a.source::xJ l
def HT (l:List Sd.Ask) (u:List Value):VB:=⟨true,⟨3,(0,0)⟩,xJ l++[.rest u]⟩
def ZD:Nat->Nat->Prop->Prop
 |0,_,q=>q
 |n+1,j,q=>True/\(0<=(j:Int)/\(j:Int)<(5:Nat))/\True/\True/\ZD n (j+1) q
section
variable(C:Sd.Crypt) (k:LK) (s:Sd.Scene) (F:bN fr (bA k s)) (K:VK (Gh fr))
def amm:Prop:=ZD 5 0 (K (.agg (oW s (.raw cC))) (fV k s) [cB k s F])
def siF (l:List Sd.Ask) (c:Nat) (u:List Value):Prop:=ZD 5 0 (K (.agg (oW s (.sl 4 0 l.length c))) (fV k s++[HT l u]) [cB k s F])
def siA (n:Nat) (l:List Sd.Ask) (P:Prop) (k:Nat->List Value->Prop):Prop:=P/\(∀(c:Nat) (u:List Value),n+1<=c->eL (xJ l++[.rest u])=c*1->k c u)/\(∀(c:Nat) (u:List Value),n+1<=c->eL (xJ l++[.rest u])=c*1->k c u)
def siN (a:Sd.Ask) (k:Nat->List Value->Prop):Prop:=∀(c:Nat) (u:List Value),0+1<=c->eL (xJ [a]++[.rest u])=c*1->k c u
def aji:Prop:=vq k=vq k/\(s.c.q=[]->∀(x:Option Addr) (c:Nat),amm k s F K)/\
 (∀a,s.c.q=[a]->∀(c:Nat) (t:List Value),siN a λc u=>siF k s F K [a] c u)/\
 (∀a b,s.c.q=[a,b]->∀(c:Nat) (t:List Value),siN a λc u=>siA 1 [a,b] (1<=c/\eL (xJ [a]++[.rest u])=c*1) λc u=>siF k s F K [a,b] c u)/\
 (∀a b d,s.c.q=[a,b,d]->∀(c:Nat) (t:List Value),siN a λc u=>siA 1 [a,b] (1<=c/\eL (xJ [a]++[.rest u])=c*1) λc u=>siA 2 [a,b,d] (2<=c/\eL (xJ [a,b]++[.rest u])=c*1) λc u=>siF k s F K [a,b,d] c u)
theorem ZE:cJ (mL prog gS (L8 fr C) (PZ prog) vf) 60 14 [.ptr 2 0] (fV k s) [cB k s F] (cP 4 K)=aji k s F K:=by kernel_rfl
end
end Go.Proofs.YtggfpcggakghnaaGreatDoor
namespace Sd
variable{C:Crypt} {b:Prop} {s:Scene} {l:Int} {m:bW}
theorem oe {X:Scene} {k a n e w:Int} (h:Quiet C b s X) (hk:k≠8) (hb:GK b ⟨k,a,n,X.c.t.epoch,e,w⟩):Quiet C b s (X.record C k a n e w):=
 h.trans (Scene.bR hk hb)
theorem Inv.ZF {c:Core} (h:Inv c) {n y:Int} (hn:0<=n/\n<=4294967295):Inv {c with samples:=n,tab:=c.tab.dU c.p,beyond:=y}:=by
 have hb:=h.p.bh;have h1:=Inv.JN (T:=c.tab) (T':=c.tab.dU c.p) h ⟨λ_=>by simp[Tab.dU,Timer.start];omega,h.tab.ay⟩
  (λa ha=>by
   have:=(h.q.each a ha).2.2.2.1;unfold Tab.on at*;split
   ·rfl
   ·rename_i h4;rw[if_neg h4]at this;split
    ·rfl
    ·rename_i h0;rw[if_neg h0]at this;exact this)
  (λho=>by
   have:c.tab.on c.t.offer=true:=by
    rcases h.tok.offer with h1|⟨_,_,_,h1,_⟩
    ·omega
    ·exact h1
   unfold Tab.on at*;split
   ·rfl
   ·rename_i h4;rw[if_neg h4]at this;split
    ·rfl
    ·rename_i h0;rw[if_neg h0]at this;exact this)
 exact⟨h1.p,h1.tok,h1.q,h1.tab,hn,h1.mode,h1.doors⟩
theorem l5.ZG {t:Scene} {c:Core} {kind link:Int} (k:l5 C b ({s with c:=c}:Scene) t kind link) (h1:c.t=s.c.t) (h2:c.q=s.c.q) (h3:c.p=s.c.p) (h4:c.head=s.c.head):l5 C b s t kind link:=by
 have q0:Quiet C b s ({s with c:=c}:Scene):=Scene.aS (by rw[h1]) (by rw[h1]) h3 h4;refine⟨k.inv,?_⟩;rcases k.GN with q|⟨how,g,w⟩
 ·exact .inl (q0.trans q)
 ·refine .inr ⟨how,q0.goes g,?_⟩;unfold oQ at*;simpa only[h1,h2,h3]using w
theorem HU {x:dS} (h:Inv s.c):l5 C b s (s.dU C x) 1 0:=by
 have e0:=h.eW;unfold Scene.dU;split
 ·exact .cD ⟨h.p,h.tok,h.q,h.tab,h.samples,h.mode,h.doors⟩ (Scene.aS rfl rfl rfl rfl)
 dsimp only;have hn:=ace h.samples.1 (m:=4294967295) (by omega) h.samples.2;have i1:=h.ZF (y:=(kS s.c.p s.c.beyond x).1) hn;have q1:Quiet C b s ({s with c:={s.c with samples:=sat s.c.samples 4294967295,tab:=s.c.tab.dU s.c.p,beyond:=(kS s.c.p s.c.beyond x).1}}:Scene):=Scene.aS rfl rfl rfl rfl;split
 ·rename_i hg;split
  ·have h2:=qZ s.c.t s.c.q 0;refine .cD (i1.head _) (oe q1 (by simp) ?_);exact⟨by simp,by simp,hn,e0,λ_=>⟨h2.1,Int.le_trans h2.2 (by decide)⟩,by simp⟩
  ·rename_i hz;obtain⟨g0,a,r,g1,g2,g3,g4,g5,g6⟩:=wP (by simpa using hz);rw[g2];refine l5.ZG (c:={s.c with samples:=sat s.c.samples 4294967295,tab:=s.c.tab.dU s.c.p,beyond:=(kS s.c.p s.c.beyond x).1}) (nr (s:=⟨_,s.sent,s.recs⟩) i1 ⟨g3,g4⟩ ⟨_,rfl⟩ g5 g6 (by simp) hn ?_) rfl rfl rfl rfl;refine .inr (.inl ⟨rfl,by simp,⟨a,r,g1,by simp[Tok.pass]⟩,?_⟩);simp;exact g0.symm
 split
 ·rename_i h0;split
  ·have h2:=pJ s.c.p s.c.t 0 0 s.c.mode {aD 11 with epoch:=s.c.t.epoch,cls:=1};refine .cD (i1.head _) (oe q1 (by simp) ?_);exact⟨by simp,by simp,hn,e0,λ_=>⟨h2.1,Int.le_trans h2.2 (by decide)⟩,by simp⟩
  ·refine .cD (Inv.head (c:={s.c with samples:=sat s.c.samples 4294967295,tab:=s.c.tab.dU s.c.p,beyond:=(kS s.c.p s.c.beyond x).1,pt:=s.c.pt.set s.c.p 1 x.x ⟨1,0,sat s.c.samples 4294967295⟩}) ⟨i1.p,i1.tok,i1.q,i1.tab,i1.samples,i1.mode,i1.doors⟩ _) (oe (q1.trans (Scene.aS rfl rfl rfl rfl)) (by simp) ?_);exact⟨by simp,by simp,hn,e0,by simp,by simp⟩
 split
 ·rename_i h0;split
  ·have h2:=lZ s.c.t 0;refine .cD (i1.head _) (oe q1 (by simp) ?_);exact⟨by simp,by simp,hn,e0,λ_=>⟨h2.1,Int.le_trans h2.2 (by decide)⟩,by simp⟩
  ·rename_i hz;obtain⟨g1,g2,g3,g4,g5⟩:=qX (by simpa using hz);rw[g1];refine⟨Inv.goes (s:=⟨_,s.sent,s.recs⟩) i1 (iP.pass h.p ⟨g2,g3⟩ (by have:=h.tok.epoch;omega)),.inr ⟨4,?_,.inr (.inr (.inr (.inl ⟨rfl,rfl,by simp[Tok.pass]⟩)))⟩⟩;exact q1.goes (Scene.k8 (by simp[Tok.pass]) (by simpa[Tok.pass]using g4) rfl (.inl ⟨g5,rfl⟩) e0.1 (by simp) hn)
 ·exact .cD i1 q1
theorem Inv.xK {c:Core} (h:Inv c) {mo:Int} (hm:0<=mo/\mo<=4) (y:Label) (pt:Point):Inv {c with mode:=mo,bj:=y,pt:=pt}:=
 ⟨h.p,h.tok,h.q,h.tab,h.samples,hm,h.doors⟩
theorem gB {mo:Int} {y:Label}:Quiet C b s (s.dH mo y):=Scene.aS rfl rfl rfl rfl
def dE (s:Scene) (a:Ask):Scene:=({s with c:={s.c with q:=Q.drop s.c.q a.source}}:Scene).gone a.source 4 29
theorem xL {a:Ask}:Quiet C b s (dE s a):=
 Quiet.trans (t:=({s with c:={s.c with q:=Q.drop s.c.q a.source}}:Scene)) (Scene.aS rfl rfl rfl rfl) (Scene.fP (Scene.jW (by omega) (by omega)))
theorem mf {a:Ask}:(dE s a).c={s.c with q:=Q.drop s.c.q a.source}:=by unfold dE;rw[Scene.gone_c]
theorem Inv.dE {a:Ask} (h:Inv s.c):Inv (Sd.dE s a).c:=by
 rw[mf];exact⟨h.p,h.tok,h.q.drop a.source (λx hx _=>(h.q.each x hx).2.2.2.2.1),h.tab,h.samples,h.mode,h.doors⟩
theorem nC (q:List Ask):∀s:Scene,Inv s.c->Inv (q.foldl dE s).c/\Quiet C b s (q.foldl dE s)/\(q.foldl dE s).c.t=s.c.t/\(q.foldl dE s).c.tab=s.c.tab/\
 (∀x∈(q.foldl dE s).c.q,x∈s.c.q/\∀a∈q,x.source≠a.source)/\∃q',(q.foldl dE s).c={s.c with q:=q'}:=by
 induction q with
 |nil=>intro s h;exact⟨h,Quiet.refl ..,rfl,rfl,λx hx=>⟨hx,by simp⟩,s.c.q,rfl⟩
 |cons a q ih=>
  intro s h;obtain⟨h1,h2,h3,h4,h5,q',h6⟩:=ih (dE s a) h.dE;rw[mf]at h3 h4 h5 h6;refine⟨h1,xL.trans h2,h3,h4,λx hx=>?_,q',h6⟩;obtain⟨h7,h8⟩:=h5 x hx;simp only[Q.drop,List.mem_filter,decide_eq_true_eq]at h7;exact⟨h7.1,λy hy=>by
   rcases List.mem_cons.1 hy with rfl|hy
   ·exact h7.2
   ·exact h8 y hy⟩
theorem zL (bad:Bool) (hb:bad=true):s.jg C bad=
 ((((if s.c.t.holder≠4 then(s.da {s.c.t with bad:=bad}).goes C ({s.c.t with bad:=bad}:Tok).dO 6 0 else(s.da {s.c.t with bad:=bad}).da ({s.c.t with bad:=bad}:Tok).dO):Scene).c.q.foldl dE
   (if s.c.t.holder≠4 then(s.da {s.c.t with bad:=bad}).goes C ({s.c.t with bad:=bad}:Tok).dO 6 0 else(s.da {s.c.t with bad:=bad}).da ({s.c.t with bad:=bad}:Tok).dO)).dH
    s.c.p.safe dV):=by
 unfold Scene.jg;rw[if_neg (by simp[hb])];dsimp only;congr 1;have:∀(q:List Ask) (s:Scene),(q.foldl dE s).c.p=s.c.p:=by
  intro q;induction q with
  |nil=>intro s;rfl
  |cons a q ih=>intro s;rw[List.foldl_cons,ih,mf]
 refine Eq.trans (congrArg Pol.safe (this _ _)) ?_;split<;>simp[Scene.da]
theorem HV {bad:Bool} (h:Inv s.c):l5 C b s (s.jg C bad) 2 0:=by
 have e0:=h.eW;have he:=h.tok.epoch;have hh:=h.tok.holder;have i0:Inv {s.c with t:={s.c.t with bad:=bad}}:=⟨h.p,⟨h.tok.holder,h.tok.epoch,h.tok.offer,h.tok.lost⟩,h.q,h.tab,h.samples,h.mode,h.doors⟩;have q0:Quiet C b s (s.da {s.c.t with bad:=bad}):=Scene.aS rfl rfl rfl rfl;cases bad
 ·exact .cD i0 q0
 rw[zL true rfl];split
 ·rename_i h4;have hs:sat s.c.t.epoch 65535=if s.c.t.epoch<65535 then s.c.t.epoch+1 else 65535:=rfl
  have et:({s.c.t with bad:=true}:Tok).dO=Tok.pass {s.c.t with bad:=true} 4 (sat s.c.t.epoch 65535):=by simp[Tok.dO,h4]
  rw[et];have i1:Inv ((s.da {s.c.t with bad:=true}).goes C (Tok.pass {s.c.t with bad:=true} 4 (sat s.c.t.epoch 65535)) 6 0).c:=
   Inv.goes (s:=s.da _) i0 (iP.pass h.p (by omega) (by show s.c.p.epoch<=_/\_;rw[hs];split<;>omega))
  obtain⟨h1,h2,h3,h5,h6,q',h7⟩:=nC (C:=C) (b:=b) ((s.da {s.c.t with bad:=true}).goes C (Tok.pass {s.c.t with bad:=true} 4 (sat s.c.t.epoch 65535)) 6 0).c.q _ i1;refine⟨h1.xK h.p.safe _ _,.inr ⟨6,?_,?_⟩⟩
  ·refine A1.quiet (Quiet.goes q0 (Scene.k8 (by simp[Tok.pass]) (by simpa[Tok.pass,Scene.da]using λe=>h4 e.symm) rfl ?_ e0.1 (by simp) (by simp))) (h2.trans gB) ?_
   ·show(s.c.t.epoch<65535/\sat s.c.t.epoch 65535=s.c.t.epoch+1)\/(s.c.t.epoch=65535/\sat s.c.t.epoch 65535=65535/\(6:Int)=6);rw[hs];split<;>omega
   ·show(Scene.dH _ _ _).c.t.offer=-1;simp only[Scene.dH];rw[h3];simp[Tok.pass]
  ·refine .inr (.inr (.inr (.inr (.inr ⟨rfl,?_,.inl ⟨rfl,?_⟩⟩))))
   ·simp only[Scene.dH];rw[h3];simp[Tok.pass]
   ·simp only[Scene.dH];rw[h3];simp[Tok.pass]
 ·rename_i h4;have h4':s.c.t.holder=4:=by simpa using h4
  have et:({s.c.t with bad:=true}:Tok).dO=Tok.pass {s.c.t with bad:=true} 4 s.c.t.epoch:=by simp[Tok.dO,h4']
  rw[et];have i1:Inv ((s.da {s.c.t with bad:=true}).da (Tok.pass {s.c.t with bad:=true} 4 s.c.t.epoch)).c:=
   ⟨h.p,iP.pass h.p (by omega) he,⟨λa ha=>by have:=h.q.each a ha;simpa[Tok.pass,Scene.da,h4']using this,h.q.sorted,h.q.len⟩,h.tab,h.samples,h.mode,h.doors⟩
  obtain⟨h1,h2,h3,h5,h6,q',h7⟩:=nC (C:=C) (b:=b) ((s.da {s.c.t with bad:=true}).da (Tok.pass {s.c.t with bad:=true} 4 s.c.t.epoch)).c.q _ i1;refine .cD (h1.xK h.p.safe _ _) ?_;exact Quiet.trans (Quiet.trans (t:=(s.da {s.c.t with bad:=true}).da (Tok.pass {s.c.t with bad:=true} 4 s.c.t.epoch)) (Scene.aS (by simp[Tok.pass,h4']) rfl rfl rfl) h2) gB
def h_ (C:Crypt) (s:Scene) (x:Int):Scene:=let s:=s.record C 5 x 0 0 0;if linked x then s.leave C x else s
def BX (q:List Ask) (xs:List Int):List Ask:=xs.foldl (λq x=>if linked x then Q.drop q x else q) q
def lq (t:Tok) (xs:List Int):Tok:=xs.foldl (λt x=>if linked x then(t.drop x).1 else t) t
theorem EJ (C:Crypt) (s:Scene) (x:Int):∃hd,(h_ C s x).c={s.c with q:=BX s.c.q [x],t:=lq s.c.t [x],head:=hd}:=by
 unfold h_ BX lq;simp only[List.foldl_cons,List.foldl_nil];split
 ·obtain⟨hd,e⟩:=A4 C (s.record C 5 x 0 0 0) x;exact⟨hd,by rw[e];rfl⟩
 ·exact⟨_,rfl⟩
theorem BY {x:Int} (hx:0<=x/\x<=3) (he:0<=s.c.t.epoch/\s.c.t.epoch<=65535):Quiet C b s (h_ C s x):=by
 unfold h_;have q1:Quiet C b s (s.record C 5 x 0 0 0):=Scene.bR (by simp) ⟨by simp,by simp;omega,by simp,he,by simp,by simp⟩;dsimp only;split
 ·rename_i h;simp[linked]at h;exact q1.trans (uo (by omega) he)
 ·exact q1
theorem Inv.h_ {T:Tab} {x:Int} (hx:0<=x/\x<=3) (h:Inv {s.c with tab:=T}):Inv {(Sd.h_ C s x).c with tab:=T}:=by
 unfold Sd.h_;dsimp only;split
 ·rcases Inv.leave (C:=C) (s:=s.record C 5 x 0 0 0) (T:=T) (x:=x) (h.head _)with⟨h1,_⟩|h1
  ·exact h1
  ·omega
 ·exact h.head _
theorem xM (xs:List Int):∀t:Tok,(lq t xs).holder=t.holder/\(lq t xs).epoch=t.epoch/\(lq t xs).la=t.la/\(lq t xs).bad=t.bad/\
 (((lq t xs)=t/\∀x∈xs,linked x=true->t.offer≠x)\/(lq t xs=t.bG/\t.offer∈xs)\/t.offer=-1/\lq t xs=t):=by
 induction xs with
 |nil=>intro t;exact⟨rfl,rfl,rfl,rfl,.inl ⟨rfl,by simp⟩⟩
 |cons x xs ih=>
  intro t;unfold lq;simp only[List.foldl_cons];by_cases hl:linked x=true
  ·simp only[hl,if_true];have hd:=q_ t x;obtain⟨h1,h2,h3,h4,h5⟩:=ih (t.drop x).1;unfold lq at h1 h2 h3 h4 h5;refine⟨h1.trans hd.1,h2.trans hd.2.1,h3.trans hd.2.2.1,h4.trans hd.2.2.2.1,?_⟩;have hx:1<=x:=by simp[linked]at hl;exact hl.1
   rcases hd.2.2.2.2 with⟨e,_,e2⟩|⟨e,_,e2⟩
   ·rw[e]at h5⊢;rcases h5 with⟨h5,h6⟩|⟨h5,h6⟩|⟨h5,h6⟩
    ·refine .inl ⟨h5,λy hy hyl=>?_⟩;rcases List.mem_cons.1 hy with rfl|hy
     ·omega
     ·exact h6 y hy hyl
    ·exact .inr (.inl ⟨h5,by simp[h6]⟩)
    ·exact .inr (.inr ⟨h5,h6⟩)
   ·rw[e]at h5⊢;refine .inr (.inl ⟨?_,by simp[e2]⟩);rcases h5 with⟨h5,h6⟩|⟨h5,h6⟩|⟨h5,h6⟩
    ·exact h5
    ·rw[h5];rfl
    ·exact h6
  ·simp only[hl];obtain⟨h1,h2,h3,h4,h5⟩:=ih t;unfold lq at h1 h2 h3 h4 h5;refine⟨h1,h2,h3,h4,?_⟩;rcases h5 with⟨h5,h6⟩|⟨h5,h6⟩|⟨h5,h6⟩
   ·refine .inl ⟨h5,λy hy hyl=>?_⟩;rcases List.mem_cons.1 hy with rfl|hy
    ·exact absurd hyl hl
    ·exact h6 y hy hyl
   ·exact .inr (.inl ⟨h5,by simp[h6]⟩)
   ·exact .inr (.inr ⟨h5,h6⟩)
theorem Tv (xs:List Int):∀(q:List Ask) (a:Ask),a∈BX q xs↔a∈q/\∀x∈xs,linked x=true->a.source≠x:=by
 induction xs with
 |nil=>intro q a;simp[BX]
 |cons x xs ih=>
  intro q a;have:=ih (if linked x then Q.drop q x else q) a;unfold BX at*;simp only[List.foldl_cons];rw[this];by_cases hl:linked x=true
  ·simp[hl,Q.drop,and_assoc]
  ·simp[hl]
theorem NO (xs:List Int):∀(s:Scene) (T:Tab),(∀x∈xs,0<=x/\x<=3)->Inv {s.c with tab:=T}->
 Inv {(xs.foldl (h_ C) s).c with tab:=T}/\Quiet C b s (xs.foldl (h_ C) s)/\∃hd,(xs.foldl (h_ C) s).c={s.c with q:=BX s.c.q xs,t:=lq s.c.t xs,head:=hd}:=by
 induction xs with
 |nil=>intro s T _ h;exact⟨h,Quiet.refl ..,s.c.head,rfl⟩
 |cons x xs ih=>
  intro s T hx h;have SF:=hx x (by simp);have e0:0<=s.c.t.epoch/\s.c.t.epoch<=65535:=Inv.eW (c:={s.c with tab:=T}) h;obtain⟨h1,h2,hd,h3⟩:=ih (h_ C s x) T (λy hy=>hx y (by simp[hy])) (h.h_ SF);obtain⟨Zm,h4⟩:=EJ C s x;refine⟨h1,(BY SF e0).trans h2,hd,?_⟩;simp only[List.foldl_cons];rw[h3,h4];rfl
theorem og {t:Timer} {m:Int} (h:t.most=m/\0<=t.n/\t.n<m):t.step=⟨t.n+1,m⟩/\(t.step.due=true↔t.n+1=m):=by
 obtain⟨h1,h2,h3⟩:=h;have:t.step=⟨t.n+1,m⟩:=by unfold Timer.step sat;rw[if_pos (by omega),h1]
 rw[this];refine⟨rfl,?_⟩;simp[Timer.due];omega
theorem HW {p:Pol} {t:Tab} (hp:cK p) (h:zb p t):zb p t.tick:=by
 have hb:=hp.bh;constructor
 ·intro ho;unfold Tab.tick at*;dsimp only at*;split at ho
  ·rename_i h1;rw[if_pos h1];obtain⟨h2,h3⟩:=og (h.aA h1);split at ho
   ·cases ho
   ·rename_i h4;rw[if_neg h4,h2];have:=h.aA h1;simp at h4;have:t.aA.2.n+1≠p.bh:=λe=>by rw[h3.2 e]at h4;cases h4
    dsimp only;omega
  ·rename_i h1;exact absurd ho h1
 ·intro i hi ho;unfold Tab.tick at*;dsimp only at*;split at ho
  ·rename_i h1;rw[if_pos h1];have h0:=h.ay i hi h1;obtain⟨h2,h3⟩:=og (m:=p.bh) ⟨h0.1,h0.2.1,h0.2.2.1⟩;split at ho
   ·cases ho
   ·rename_i h4;rw[if_neg h4];dsimp only;rw[h2];simp at h4;have:(t.ay i).aH.n+1≠p.bh:=λe=>by rw[h3.2 e]at h4;cases h4
    dsimp only;omega
  ·rename_i h1;exact absurd ho h1
theorem NP {t:Tab} {x:Int} (h:x∈t.ended):0<=x/\x<=3:=by
 unfold Tab.ended at h;simp only[List.mem_append]at h;rcases h with((h|h)|h)|h<;>split at h<;>simp at h<;>omega
theorem Ks {t:Tab} {x:Int} (hx:1<=x/\x<=3) (h:t.on x=true) (hn:x∉t.ended):t.tick.on x=true:=by
 have e:x=1\/x=2\/x=3:=by omega
 rw[A5 hx]at*;unfold Tab.cZ Tab.tick at*;rcases e with rfl|rfl|rfl<;>simp[Tab.ended,Tab.dG]at*<;>simp[h]<;>simp[h]at hn<;>simp[hn,h]
theorem Tw {q:List Ask} {a:Ask} (h:a∈Q.kept q):∃x∈q,a={x with gU:=x.gU.step}/\a.gU.due=false:=by
 unfold Q.kept Q.qx at h;simp only[List.mem_filter,List.mem_map]at h;obtain⟨⟨x,hx,rfl⟩,h2⟩:=h;exact⟨x,hx,rfl,by simpa using h2⟩
theorem Tx {q:List Ask} {a:Ask} (h:a∈Q.gone q):∃x∈q,a={x with gU:=x.gU.step}/\a.gU.due=true:=by
 unfold Q.gone Q.qx at h;simp only[List.mem_filter,List.mem_map]at h;obtain⟨⟨x,hx,rfl⟩,h2⟩:=h;exact⟨x,hx,rfl,by simpa using h2⟩
theorem LN.kept {p:Pol} {t:Tab} {h:Int} {q:List Ask} (k:LN p t h q):LN p t h (Q.kept q) where
 each:=by
  intro a ha;obtain⟨x,hx,rfl,hd⟩:=Tw ha;obtain⟨a1,a2,a3,a4,a5,a6,a7,a8⟩:=k.each x hx;obtain⟨e1,e2⟩:=og ⟨a6,a7,a8⟩;refine⟨a1,a2,a3,a4,a5,by dsimp only;rw[e1],by dsimp only;rw[e1];dsimp only;omega,?_⟩;dsimp only at*;rw[e1];have:x.gU.n+1≠p.ask:=λe=>by rw[e2.2 e]at hd;cases hd
  dsimp only;omega
 sorted:=by
  unfold Q.kept Q.qx;refine List.Pairwise.filter _ ?_;rw[List.pairwise_map];exact k.sorted
 len:=by
  have:=List.length_filter_le (λa:Ask=>!a.gU.due) (Q.qx q);have h2:=k.len;unfold Q.kept;simp only[Q.qx,List.length_map]at*;omega
def kA (C:Crypt) (s:Scene) (a:Ask):Scene:=(s.gone a.source a.source 30).record C 12 a.source 0 30 0
theorem HX (q:List Ask):∀s:Scene,(∀a∈q,1<=a.source/\a.source<=3)->0<=s.c.t.epoch/\s.c.t.epoch<=65535->
 Quiet C b s (q.foldl (kA C) s)/\∃hd,(q.foldl (kA C) s).c={s.c with head:=hd}:=by
 induction q with
 |nil=>intro s _ _;exact⟨Quiet.refl ..,s.c.head,rfl⟩
 |cons a q ih=>
  intro s hq he;have ha:=hq a (by simp);have e1:(kA C s a).c={s.c with head:=C.next s.c.head ⟨12,a.source,0,s.c.t.epoch,30,0⟩}:=by
   unfold kA;rw[show∀(y:Scene) (k a n e w:Int),(y.record C k a n e w).c={y.c with head:=C.next y.c.head ⟨k,a,n,y.c.t.epoch,e,w⟩}from λ_ _ _ _ _ _=>rfl,Scene.gone_c]
  have q1:Quiet C b s (kA C s a):=by
   refine Quiet.trans (Scene.fP (Scene.jW (by omega) (by omega))) (Scene.bR (by simp) ?_);refine⟨by simp,by dsimp only;omega,by simp,?_,by simp,by simp⟩;dsimp only;rw[Scene.hear_c];exact he
  obtain⟨h1,hd,h2⟩:=ih (kA C s a) (λx hx=>hq x (by simp[hx])) (by rw[e1];exact he);refine⟨q1.trans h1,hd,?_⟩;simp only[List.foldl_cons];rw[h2,e1]
theorem Tz {p:Pol} {tab:Tab} {t:Tok} (h:iP p tab t):t.tick.1.holder=t.holder/\t.tick.1.epoch=t.epoch/\t.tick.1.la=t.la/\t.tick.1.bad=t.bad/\
 iP p tab t.tick.1/\((t.tick.2=-1/\t.tick.1.offer=t.offer)\/(t.tick.2=t.offer/\1<=t.offer/\t.offer<=3/\t.tick.1.offer=-1)):=by
 unfold Tok.tick;rcases h.offer with ho|⟨o1,o2,o3,o4,o5,o6,o7⟩
 ·rw[if_pos (by omega)];exact⟨rfl,rfl,rfl,rfl,h,.inl ⟨rfl,rfl⟩⟩
 ·rw[if_neg (by omega)];obtain⟨e1,e2⟩:=og ⟨o5,o6,o7⟩;split
  ·exact⟨rfl,rfl,rfl,rfl,⟨h.holder,h.epoch,.inl rfl,h.lost⟩,.inr ⟨rfl,o1,o2,rfl⟩⟩
  ·rename_i hd;refine⟨rfl,rfl,rfl,rfl,⟨h.holder,h.epoch,.inr ⟨o1,o2,o3,o4,?_⟩,h.lost⟩,.inl ⟨rfl,rfl⟩⟩;have:t.oa.n+1≠p.offer:=λe=>hd (e2.2 e);dsimp only;rw[e1];dsimp only;omega
inductive EK (p:Pol) (t:Tok) (q:List Ask) (there:Bool):Tok->Int->List Ask->Prop
 |here (h:t.holder=4\/there=true):EK p t q there {t with la:=.zero} 0 q
 |ajj (la:Timer) (h1:t.holder≠4) (h2:there=false) (hm:la.most=p.cY) (hn:la.n=t.la.n+1) (iK:la.n<p.cY):EK p t q there {t with la:=la} 0 q
 |safe (h1:t.holder≠4) (h2:there=false) (hn:t.la.n+1=p.cY) (he:t.epoch=65535):EK p t q there (t.pass 4 65535) 6 q
 |first (a:Ask) (l:List Ask) (h1:t.holder≠4) (h2:there=false) (hn:t.la.n+1=p.cY) (he:t.epoch<65535) (hq:q=a::l):EK p t q there (t.pass a.source (t.epoch+1)) 5 (Q.drop q a.source)
 |none (h1:t.holder≠4) (h2:there=false) (hn:t.la.n+1=p.cY) (he:t.epoch<65535) (hq:q=[]):EK p t q there (t.pass 4 (t.epoch+1)) 5 q
theorem NQ {p:Pol} {tab:Tab} {t:Tok} {q:List Ask} {there:Bool} (hp:cK p) (h:iP p tab t) (hq:LN p tab t.holder q):
 EK p t q there (bM p t q there).1 (bM p t q there).2.1 (bM p t q there).2.2:=by
 unfold bM;have hb:=hp.cY;split
 ·rename_i h1;exact .here h1
 rename_i h1;have Zn:t.holder≠4:=λe=>h1 (.inl e);have h1b:there=false:=by
  cases there
  ·rfl
  ·exact absurd (.inr rfl) h1
 have O7:∃la:Timer,(if t.la.most=0 then Timer.start p.cY else t.la).step=la/\la.most=p.cY/\la.n=t.la.n+1/\(la.due=true↔t.la.n+1=p.cY):=by
  rcases h.lost with⟨l1,l2⟩|⟨l1,l2,l3⟩
  ·rw[if_pos l1];obtain⟨e1,e2⟩:=og (t:=Timer.start p.cY) (m:=p.cY) (by simp[Timer.start];omega);have e0:(Timer.start p.cY).n=0:=rfl;refine⟨_,rfl,by rw[e1],by rw[e1,e0,l2],?_⟩;rw[e2,e0,l2]
  ·rw[if_neg (by omega)];obtain⟨e1,e2⟩:=og ⟨l1,l2,l3⟩;exact⟨_,rfl,by rw[e1],by rw[e1],e2⟩
 obtain⟨la,e0,e1,e2,e3⟩:=O7;simp only[e0];split
 ·rename_i hd;refine .ajj la Zn h1b e1 e2 ?_;have e_:t.la.n+1≠p.cY:=λe=>by rw[e3.2 e]at hd;cases hd
  rcases h.lost with⟨l1,l2⟩|⟨l1,l2,l3⟩<;>omega
 rename_i hd;have hn:t.la.n+1=p.cY:=e3.1 (by simpa using hd);have he:=h.epoch;split
 ·rename_i h6;have h6':t.epoch=65535:=by omega
  have:({t with la:=la}:Tok).dO=t.pass 4 65535:=by
   simp only[Tok.dO,Tok.pass];rw[if_pos Zn,h6'];rfl
  rw[this];exact .safe Zn h1b hn h6'
 rename_i h6;have iK:t.epoch<65535:=by omega
 have g4:({t with la:=la}:Tok).bz 4=(t.pass 4 (t.epoch+1),0):=by
  unfold Tok.bz;rw[if_neg (by omega),if_neg (λe=>Zn e.symm),if_neg (by dsimp only;omega)];rfl
 cases q with
 |nil=>
  have:(bg ({t with la:=la}:Tok) []).2.1≠0:=by simp[bg]
  rw[if_pos this,g4];exact .none Zn h1b hn iK rfl
 |cons a r=>
  have ha:=hq.each a (by simp);have ga:({t with la:=la}:Tok).bz a.source=(t.pass a.source (t.epoch+1),0):=by
   unfold Tok.bz;rw[if_neg (by omega),if_neg ha.2.2.2.2.1,if_neg (by dsimp only;omega)];rfl
  have e:bg ({t with la:=la}:Tok) (a::r)=(t.pass a.source (t.epoch+1),0,Q.drop (a::r) a.source):=by
   unfold bg;simp only[ga];rw[if_neg (by simp)]
  rw[e,if_neg (by simp)];exact .first a r Zn h1b hn iK rfl
theorem TA (h:Inv s.c):l5 C b s (s.cY C) 3 0/\(s.cY C).c.tab=s.c.tab/\(s.cY C).c.p=s.c.p/\
 EK s.c.p s.c.t s.c.q (s.c.tab.on s.c.t.holder) (s.cY C).c.t (bM s.c.p s.c.t s.c.q (s.c.tab.on s.c.t.holder)).2.1 (s.cY C).c.q/\
 ((bM s.c.p s.c.t s.c.q (s.c.tab.on s.c.t.holder)).2.1=5->(s.cY C).c.mode=s.c.p.lost/\(s.cY C).c.bj=⟨3,4,0⟩/\(s.cY C).c.pt=s.c.pt.hold ⟨3,4,0⟩)/\
 ((bM s.c.p s.c.t s.c.q (s.c.tab.on s.c.t.holder)).2.1=0->(s.cY C).c.mode=s.c.mode/\(s.cY C).c.bj=s.c.bj/\(s.cY C).c.pt=s.c.pt):=by
 have e0:=h.eW;have he:=h.tok.epoch;have hh:=h.tok.holder;have hb:=h.p.cY;have hL:=NQ (there:=s.c.tab.on s.c.t.holder) h.p h.tok h.q;unfold Scene.cY;dsimp only;generalize ht:(bM s.c.p s.c.t s.c.q (s.c.tab.on s.c.t.holder)).1=t at hL⊢;generalize hw:(bM s.c.p s.c.t s.c.q (s.c.tab.on s.c.t.holder)).2.1=how at hL⊢;generalize hq:(bM s.c.p s.c.t s.c.q (s.c.tab.on s.c.t.holder)).2.2=q at hL⊢;have hL':=hL;cases hL with
 |here h1=>
  rw[if_pos (by omega)];refine⟨.cD ⟨h.p,⟨h.tok.holder,h.tok.epoch,h.tok.offer,.inl ⟨rfl,rfl⟩⟩,h.q,h.tab,h.samples,h.mode,h.doors⟩ (Scene.aS rfl rfl rfl rfl),rfl,rfl,hL',by simp,λ_=>⟨rfl,rfl,rfl⟩⟩
 |ajj la h1 h2 hm hn iK=>
  rw[if_pos (by omega)];have:0<=la.n:=by rcases h.tok.lost with⟨_,l2⟩|⟨_,l2,_⟩<;>omega
  refine⟨.cD ⟨h.p,⟨h.tok.holder,h.tok.epoch,h.tok.offer,.inr ⟨hm,this,iK⟩⟩,h.q,h.tab,h.samples,h.mode,h.doors⟩ (Scene.aS rfl rfl rfl rfl),rfl,rfl,hL',by simp,λ_=>⟨rfl,rfl,rfl⟩⟩
 |safe h1 h2 hn h6=>
  rw[if_neg (by omega),if_neg (by omega)];have i1:Inv (Scene.goes C ({s with c:={s.c with q:=s.c.q}}:Scene) (s.c.t.pass 4 65535) 6 0).c:=Inv.goes (s:=s) h (iP.pass h.p (by omega) (by omega));have hd:Q.drop s.c.q 4=s.c.q:=by
   unfold Q.drop;rw[List.filter_eq_self];intro a ha;have:=(h.q.each a ha).2.2.1;simp;omega
  have Ko:(Scene.goes C ({s with c:={s.c with q:=s.c.q}}:Scene) (s.c.t.pass 4 65535) 6 0).c.q=s.c.q:=by
   rw[Scene.goes_q];exact hd
  refine⟨⟨i1.xK (by simpa using h.p.safe) _ _,.inr ⟨6,?_,?_⟩⟩,by simp[Scene.dH],by simp[Scene.dH],?_,by simp,by simp⟩
  ·refine A1.quiet (Scene.k8 (s:=s) (by simp[Tok.pass]) (by simpa[Tok.pass]using λe=>h1 e.symm) rfl (.inr ⟨h6,rfl,rfl⟩) e0.1 (by simp) (by simp)) gB ?_;simp[Scene.dH,Tok.pass]
  ·refine .inr (.inr (.inr (.inr (.inr ⟨rfl,by simp[Scene.dH,Tok.pass],.inr ⟨rfl,h6,?_⟩⟩))));simpa[Scene.dH]using h2
  ·have e1:(Scene.dH (Scene.goes C ({s with c:={s.c with q:=s.c.q}}:Scene) (s.c.t.pass 4 65535) 6 0) (Scene.goes C ({s with c:={s.c with q:=s.c.q}}:Scene) (s.c.t.pass 4 65535) 6 0).c.p.safe dV).c.t=s.c.t.pass 4 65535:=by simp[Scene.dH]
   rw[e1];have e2:(Scene.dH (Scene.goes C ({s with c:={s.c with q:=s.c.q}}:Scene) (s.c.t.pass 4 65535) 6 0) (Scene.goes C ({s with c:={s.c with q:=s.c.q}}:Scene) (s.c.t.pass 4 65535) 6 0).c.p.safe dV).c.q=s.c.q:=Ko;rw[e2];exact hL'
 |first a r h1 h2 hn iK hqa=>
  rw[if_neg (by omega),if_pos rfl];have ha:=h.q.each a (by rw[hqa];simp);obtain⟨g1,g2⟩:=nr (C:=C) (b:=b) (s:=s) (kind:=3) (link:=0) (how:=5) (n:=0) (f:=a.source) (q:=Q.drop s.c.q a.source) h (by omega) ⟨_,rfl⟩ ha.2.2.2.2.1 iK (by simp) (by simp)
   (.inr (.inr (.inr (.inr (.inl ⟨rfl,rfl,by simpa using h2,by simpa[Tok.pass]using ha.2.2.2.1⟩)))))
  have hdd:Q.drop (Q.drop s.c.q a.source) a.source=Q.drop s.c.q a.source:=by
   unfold Q.drop;rw[List.filter_filter];congr 1;funext x;simp
  have Ko:(Scene.goes C ({s with c:={s.c with q:=Q.drop s.c.q a.source}}:Scene) (s.c.t.pass a.source (s.c.t.epoch+1)) 5 0).c.q=Q.drop s.c.q a.source:=by
   rw[Scene.goes_q];exact hdd
  generalize hX:Scene.goes C ({s with c:={s.c with q:=Q.drop s.c.q a.source}}:Scene) (s.c.t.pass a.source (s.c.t.epoch+1)) 5 0=X at g1 g2 Ko;have eX:X.c.t=s.c.t.pass a.source (s.c.t.epoch+1)/\X.c.p=s.c.p/\X.c.tab=s.c.tab:=by subst hX;simp
  have ept:X.c.pt=s.c.pt:=by
   subst hX;obtain⟨x,e⟩:=Scene.wM C ({s with c:={s.c with q:=Q.drop s.c.q a.source}}:Scene) (s.c.t.pass a.source (s.c.t.epoch+1)) 5 0;rw[e]
  refine⟨⟨g1.xK (by rw[eX.2.1];exact h.p.lost) _ _,?_⟩,by simp[Scene.dH,eX],by simp[Scene.dH,eX],by simpa[Scene.dH,eX,Ko]using hL',λ_=>⟨by simp[Scene.dH,eX],rfl,by simp[Scene.dH,ept]⟩,by simp⟩;rcases g2 with g2|⟨how,g2,g3⟩
  ·exact .inl (g2.trans gB)
  ·exact .inr ⟨how,g2.quiet gB (by simp[Scene.dH,eX,Tok.pass]),by simpa[oQ,Scene.dH]using g3⟩
 |none h1 h2 hn iK hqa=>
  rw[if_neg (by omega),if_pos rfl];have hq0:s.c.q=Q.drop s.c.q 4:=by rw[hqa];rfl
  obtain⟨g1,g2⟩:=nr (C:=C) (b:=b) (s:=s) (kind:=3) (link:=0) (how:=5) (n:=0) (f:=4) (q:=s.c.q) h (by omega) ⟨4,hq0⟩ (λe=>h1 e.symm) iK (by simp) (by simp)
   (.inr (.inr (.inr (.inr (.inl ⟨rfl,rfl,by simpa using h2,by simp[Tok.pass,Tab.on]⟩)))))
  have Ko:(Scene.goes C ({s with c:={s.c with q:=s.c.q}}:Scene) (s.c.t.pass 4 (s.c.t.epoch+1)) 5 0).c.q=s.c.q:=by
   rw[Scene.goes_q];exact hq0.symm
  generalize hX:Scene.goes C ({s with c:={s.c with q:=s.c.q}}:Scene) (s.c.t.pass 4 (s.c.t.epoch+1)) 5 0=X at g1 g2 Ko;have eX:X.c.t=s.c.t.pass 4 (s.c.t.epoch+1)/\X.c.p=s.c.p/\X.c.tab=s.c.tab:=by subst hX;simp
  have ept:X.c.pt=s.c.pt:=by
   subst hX;obtain⟨x,e⟩:=Scene.wM C ({s with c:={s.c with q:=s.c.q}}:Scene) (s.c.t.pass 4 (s.c.t.epoch+1)) 5 0;rw[e]
  refine⟨⟨g1.xK (by rw[eX.2.1];exact h.p.lost) _ _,?_⟩,by simp[Scene.dH,eX],by simp[Scene.dH,eX],by simpa[Scene.dH,eX,Ko]using hL',λ_=>⟨by simp[Scene.dH,eX],rfl,by simp[Scene.dH,ept]⟩,by simp⟩;rcases g2 with g2|⟨how,g2,g3⟩
  ·exact .inl (g2.trans gB)
  ·exact .inr ⟨how,g2.quiet gB (by simp[Scene.dH,eX,Tok.pass]),by simpa[oQ,Scene.dH]using g3⟩
structure Mid (c c':Core):Prop where
 inv:Inv c'
 p:c'.p=c.p
 tab:c'.tab=c.tab.tick
 holder:c'.t.holder=c.t.holder
 epoch:c'.t.epoch=c.t.epoch
 la:c'.t.la=c.t.la
 bad:c'.t.bad=c.t.bad
 q:c'.q=Q.kept (BX c.q c.tab.ended)
 offer:c'.t.offer=(lq c.t c.tab.ended).tick.1.offer
 mode:c'.mode=c.mode/\c'.bj=c.bj/\c'.pt=c.pt
 rest:c'.samples=c.samples/\c'.beyond=c.beyond/\c'.doors=c.doors
def lr (C:Crypt) (s:Scene):Scene:=s.c.tab.ended.foldl (h_ C) ({s with c:={s.c with tab:=s.c.tab.tick}}:Scene)
def lu (C:Crypt) (s:Scene):Scene:=
 let s2:=s.da s.c.t.tick.1
 if 0<=s.c.t.tick.2 then(s2.gone s.c.t.tick.1.holder s.c.t.tick.2 30).record C 12 s.c.t.tick.2 0 30 0 else s2
def rV (C:Crypt) (s:Scene):Scene:=(Q.gone s.c.q).foldl (kA C) ({s with c:={s.c with q:=Q.kept s.c.q}}:Scene)
theorem vA (C:Crypt) (s:Scene):s.tick C=(let s6:=(rV C (lu C (lr C s))).cY C;{s6 with c:={s6.c with pt:=s6.c.pt.step s6.c.p}}):=rfl
theorem TD (h:Inv s.c):Quiet C b s (rV C (lu C (lr C s)))/\Mid s.c (rV C (lu C (lr C s))).c:=by
 have e0:=h.eW;obtain⟨a1,a2,Zm,a3⟩:=NO (C:=C) (b:=b) s.c.tab.ended ({s with c:={s.c with tab:=s.c.tab.tick}}:Scene) s.c.tab (λx hx=>NP hx) h;have q1:Quiet C b s (lr C s):=Quiet.trans (t:=({s with c:={s.c with tab:=s.c.tab.tick}}:Scene)) (Scene.aS rfl rfl rfl rfl) a2;have i1:Inv (lr C s).c:=by
  have e3:(lr C s).c={s.c with tab:=s.c.tab.tick,q:=BX s.c.q s.c.tab.ended,t:=lq s.c.t s.c.tab.ended,head:=Zm}:=a3;refine Inv.nt (T:=s.c.tab.tick) (Inv.JN (T:=s.c.tab) a1 (by rw[e3];exact HW h.p h.tab) ?_ ?_) (by rw[e3])
  ·rw[e3];intro x hx;obtain⟨OM,HD⟩:=(Tv _ _ _).1 hx;have:=h.q.each x OM;refine Ks ⟨this.2.1,this.2.2.1⟩ this.2.2.2.1 (λhm=>HD x.source hm ?_ rfl);simp[linked];omega
  ·rw[e3];intro ho;have hf:=xM s.c.tab.ended s.c.t;show s.c.tab.tick.on (lq s.c.t s.c.tab.ended).offer=true;have yD:0<=(lq s.c.t s.c.tab.ended).offer:=ho;rcases hf.2.2.2.2 with⟨e,e_⟩|⟨e,_⟩|⟨e,e'⟩
   ·rw[e]at yD⊢;rcases h.tok.offer with h1|⟨h1,h2,_,h3,_⟩
    ·omega
    ·refine Ks ⟨h1,h2⟩ h3 (λhm=>e_ _ hm ?_ rfl);simp[linked];omega
   ·rw[e]at yD;simp[Tok.bG]at yD
   ·rw[e',e]at yD;omega
 have e1:(lr C s).c={s.c with tab:=s.c.tab.tick,q:=BX s.c.q s.c.tab.ended,t:=lq s.c.t s.c.tab.ended,head:=Zm}:=a3;have hf:=xM s.c.tab.ended s.c.t;generalize lr C s=s1 at*;have e10:=i1.eW;have hk:=Tz i1.tok;have i2:Inv {s1.c with t:=s1.c.t.tick.1}:=⟨i1.p,hk.2.2.2.2.1,by show LN _ _ s1.c.t.tick.1.holder _;rw[hk.1];exact i1.q,i1.tab,i1.samples,i1.mode,i1.doors⟩;have q2:Quiet C b s1 (lu C s1)/\∃hd,(lu C s1).c={s1.c with t:=s1.c.t.tick.1,head:=hd}:=by
  have q20:Quiet C b s1 (s1.da s1.c.t.tick.1):=Scene.aS hk.1 hk.2.1 rfl rfl;unfold lu;dsimp only;split
  ·rename_i hw;have hw':1<=s1.c.t.tick.2/\s1.c.t.tick.2<=3:=by rcases hk.2.2.2.2.2 with⟨e,_⟩|⟨e,_,_,_⟩<;>omega
   refine⟨q20.trans (Quiet.trans (Scene.fP (Scene.jW (by omega) (by omega))) (Scene.bR (by simp) ?_)),?_⟩
   ·refine⟨by simp,by dsimp only;omega,by simp,?_,by simp,by simp⟩;dsimp only;rw[Scene.hear_c];show 0<=s1.c.t.tick.1.epoch/\s1.c.t.tick.1.epoch<=65535;rw[hk.2.1];exact e10
   ·refine⟨C.next s1.c.head ⟨12,s1.c.t.tick.2,0,s1.c.t.tick.1.epoch,30,0⟩,?_⟩;rw[show∀(y:Scene) (k a n e w:Int),(y.record C k a n e w).c={y.c with head:=C.next y.c.head ⟨k,a,n,y.c.t.epoch,e,w⟩}from λ_ _ _ _ _ _=>rfl,Scene.gone_c];rfl
  ·exact⟨q20,s1.c.head,rfl⟩
 obtain⟨q2,hd2,e2⟩:=q2;have ZH:Inv (lu C s1).c:=by rw[e2];exact i2.head _
 generalize lu C s1=s2 at*;have e20:=ZH.eW;obtain⟨a4,hd3,e3⟩:=HX (C:=C) (b:=b) (Q.gone s2.c.q) ({s2 with c:={s2.c with q:=Q.kept s2.c.q}}:Scene)
  (λa ha=>by
   obtain⟨x,hx,rfl,_⟩:=Tx ha;have:=ZH.q.each x hx;exact⟨this.2.1,this.2.2.1⟩) e20
 have q3:Quiet C b s2 (rV C s2):=Quiet.trans (t:=({s2 with c:={s2.c with q:=Q.kept s2.c.q}}:Scene)) (Scene.aS rfl rfl rfl rfl) a4;have TE:(rV C s2).c={s2.c with q:=Q.kept s2.c.q,head:=hd3}:=e3;have i3:Inv (rV C s2).c:=by
  rw[TE];exact⟨ZH.p,ZH.tok,ZH.q.kept,ZH.tab,ZH.samples,ZH.mode,ZH.doors⟩
 refine⟨q1.trans (q2.trans q3),i3,?_,?_,?_,?_,?_,?_,?_,?_,?_,?_⟩
 ·rw[TE,e2,e1]
 ·rw[TE,e2,e1]
 ·rw[TE,e2];show s1.c.t.tick.1.holder=_;rw[hk.1,e1];exact hf.1
 ·rw[TE,e2];show s1.c.t.tick.1.epoch=_;rw[hk.2.1,e1];exact hf.2.1
 ·rw[TE,e2];show s1.c.t.tick.1.la=_;rw[hk.2.2.1,e1];exact hf.2.2.1
 ·rw[TE,e2];show s1.c.t.tick.1.bad=_;rw[hk.2.2.2.1,e1];exact hf.2.2.2.1
 ·rw[TE,e2,e1]
 ·rw[TE,e2,e1]
 ·rw[TE,e2,e1];exact⟨rfl,rfl,rfl⟩
 ·rw[TE,e2,e1];exact⟨rfl,rfl,rfl⟩
structure afa (c m c':Core) (how:Int):Prop where
 p:c'.p=c.p
 tab:c'.tab=c.tab.tick
 lost:EK c.p m.t m.q (m.tab.on m.t.holder) c'.t how c'.q
 agm:how=5->c'.mode=c.p.lost/\c'.bj=⟨3,4,0⟩/\c'.pt=(c.pt.hold ⟨3,4,0⟩).step c.p
 stays:how=0->c'.mode=c.mode/\c'.bj=c.bj/\c'.pt=c.pt.step c.p
theorem TF (h:Inv s.c):l5 C b s (s.tick C) 3 0/\∃m how,Mid s.c m/\afa s.c m (s.tick C).c how:=by
 obtain⟨q3,hm⟩:=TD (C:=C) (b:=b) h;rw[vA];generalize rV C (lu C (lr C s))=s3 at*;obtain⟨⟨i4,w4⟩,t4,p4,l4,r4,fV⟩:=TA (C:=C) (b:=b) hm.inv;generalize hs4:s3.cY C=s4 at*;dsimp only;have i5:Inv {s4.c with pt:=s4.c.pt.step s4.c.p}:=⟨i4.p,i4.tok,i4.q,i4.tab,i4.samples,i4.mode,i4.doors⟩;have q5:Quiet C b s4 ({s4 with c:={s4.c with pt:=s4.c.pt.step s4.c.p}}:Scene):=Scene.aS rfl rfl rfl rfl;refine⟨⟨i5,?_⟩,s3.c,(bM s3.c.p s3.c.t s3.c.q (s3.c.tab.on s3.c.t.holder)).2.1,hm,p4.trans hm.p,t4.trans hm.tab,?_,?_,?_⟩
 ·rcases w4 with w4|⟨how,g4,w4⟩
  ·exact .inl (q3.trans (w4.trans q5))
  ·refine .inr ⟨how,(q3.goes g4).quiet q5 g4.offer,?_⟩;unfold oQ at*;simp only[hm.holder,hm.epoch]at w4;rcases w4 with⟨e,k,_⟩|⟨e,k,_⟩|⟨e,k,_⟩|⟨e,k,_⟩|w4|⟨e,k,w4⟩
   ·omega
   ·omega
   ·omega
   ·omega
   ·exact .inr (.inr (.inr (.inr (.inl ⟨w4.1,rfl,w4.2.2⟩))))
   ·refine .inr (.inr (.inr (.inr (.inr ⟨e,k,?_⟩))));rcases w4 with⟨e',_⟩|w4
    ·omega
    ·exact .inr ⟨rfl,w4.2⟩
 ·rw[hm.p]at l4;rw[hm.p];exact l4
 ·intro e;obtain⟨r1,r2,r3⟩:=r4 e;refine⟨by rw[<-hm.p];exact r1,r2,?_⟩;show s4.c.pt.step s4.c.p=_;rw[r3,p4,hm.p,hm.mode.2.2]
 ·intro e;obtain⟨r1,r2,r3⟩:=fV e;refine⟨by rw[<-hm.mode.1];exact r1,by rw[<-hm.mode.2.1];exact r2,?_⟩;show s4.c.pt.step s4.c.p=_;rw[r3,p4,hm.p,hm.mode.2.2]
structure Calm (s s':Scene):Prop where
 recs:∃rs:List Rec,s'.recs=s.recs++rs/\∀r∈rs,r.kind≠1/\r.kind≠7
 sent:∃ts:List (Int×Reply),s'.sent=s.sent++ts/\∀x∈ts,132<x.2.kind
theorem Calm.refl (s:Scene):Calm s s:=⟨⟨[],by simp,by simp⟩,⟨[],by simp,by simp⟩⟩
theorem Calm.trans {s t u:Scene} (h:Calm s t) (k:Calm t u):Calm s u:=by
 obtain⟨⟨rs,r1,r2⟩,⟨ts,t1,t2⟩⟩:=h;obtain⟨⟨qs,q1,q2⟩,⟨us,u1,u2⟩⟩:=k;exact⟨⟨rs++qs,by rw[q1,r1,List.append_assoc],λr hr=>(List.mem_append.1 hr).elim (r2 r) (q2 r)⟩,⟨ts++us,by rw[u1,t1,List.append_assoc],λx hx=>(List.mem_append.1 hx).elim (t2 x) (u2 x)⟩⟩
structure Kt (c c':Core):Prop where
 p:c'.p=c.p
 t:c'.t=c.t
 q:c'.q=c.q
 on:∀x,c'.tab.on x=c.tab.on x
 role:∀x,c'.tab.role x=c.tab.role x
 mode:c'.mode=c.mode
 bj:c'.bj=c.bj
 pt:c'.pt=c.pt
inductive Class (s s':Scene) (l:Int):Prop
 |rejected (e:Int) (he:e≠0) (hr:s'.recs=s.recs++[⟨1,l,0,s.c.t.epoch,e,0⟩]) (hs:s'.sent=s.sent) (hc:Kt s.c s'.c)
 |refused (n e:Int) (he:e≠0) (hr:s'.recs=s.recs++[⟨7,l,n,s.c.t.epoch,e,0⟩]) (hs:s'.sent=s.sent++[(l,{kind:=132,seq:=n,code:=e})]) (hc:Kt s.c s'.c)
 |done (r:Reply) (hr:129<=r.kind/\r.kind<=131) (rs:List Rec) (h1:s'.recs=s.recs++rs) (h2:∀r∈rs,r.kind≠1/\r.kind≠7) (xs ys:List (Int×Reply)) (h3:s'.sent=s.sent++(xs++(l,r)::ys)) (h4:∀x∈xs++ys,132<x.2.kind)
theorem Kt.refl (c:Core):Kt c c:=⟨rfl,rfl,rfl,λ_=>rfl,λ_=>rfl,rfl,rfl,rfl⟩
theorem Class.nt {T:Tab} {t:Scene} (k:Class ({s with c:={s.c with tab:=T}}:Scene) t l) (tD:∀x,T.on x=s.c.tab.on x) (hr:∀x,T.role x=s.c.tab.role x):Class s t l:=by
 cases k with
 |rejected e he mT hs hc=>exact .rejected e he mT hs ⟨hc.p,hc.t,hc.q,λx=>(hc.on x).trans (tD x),λx=>(hc.role x).trans (hr x),hc.mode,hc.bj,hc.pt⟩
 |refused n e he mT hs hc=>exact .refused n e he mT hs ⟨hc.p,hc.t,hc.q,λx=>(hc.on x).trans (tD x),λx=>(hc.role x).trans (hr x),hc.mode,hc.bj,hc.pt⟩
 |done r hr rs h1 h2 xs ys h3 h4=>exact .done r hr rs h1 h2 xs ys h3 h4
end Sd
namespace Sd
variable{C:Crypt}
def zM (C:Crypt) (c:Core):Core:=((⟨c,[],[]⟩:Scene).tick C).c
end Sd
namespace Sd
variable{C:Crypt} {s:Scene}
def Bd (n:Int):Prop:=-9223372036854775808<=n/\n<=9223372036854775807
def V5 (t:Timer):Prop:=Bd t.n/\Bd t.most
structure rW (t:Tab):Prop where
 hi:∀j,(t.ay (j+3)).on=false
 st:V5 t.aA.2
 ss:∀j,V5 (t.ay j).aH
structure ia (t:Tok):Prop where
 oa:V5 t.oa
 la:V5 t.la
def Ku (x:X4):Prop:=Bd x.a/\Bd x.b/\Bd x.c/\Bd x.d
structure PtX (p:Point):Prop where
 bx:Ku p.bx
 now:Ku p.now
structure Ext (c:Core):Prop where
 tab:rW c.tab
 t:ia c.t
 pt:PtX c.pt
 d:∀i,(c.doors i).many<=4294967295
 be:Bd c.beyond
theorem V6:Bd 0:=⟨by decide,by decide⟩
theorem OS:V5 Timer.zero:=⟨V6,V6⟩
theorem x40:Ku X4.zero:=⟨V6,V6,V6,V6⟩
theorem TG {n m:Int} (h:Bd n) (k:Bd m):Bd (sat n m):=by
 unfold Bd sat at*;split<;>omega
theorem zN {n a b:Int} (h:a<=n/\n<=b) (ha:-9223372036854775808<=a) (hb:b<=9223372036854775807):Bd n:=⟨by omega,by omega⟩
theorem nD {m:Int} (h:Bd m):V5 (Timer.start m):=⟨V6,by unfold Timer.start Bd at*;dsimp only;omega⟩
theorem rX {t:Timer} (h:V5 t):V5 t.step:=⟨TG h.1 h.2,h.2⟩
theorem Ext.eq {c c':Core} (h:Ext c) (h1:c'.tab=c.tab) (h2:c'.t=c.t) (h3:c'.pt=c.pt) (h4:c'.doors=c.doors) (h5:c'.beyond=c.beyond):Ext c':=
 ⟨h1▸h.tab,h2▸h.t,h3▸h.pt,h4▸h.d,h5▸h.be⟩
theorem Ext.new {p:Pol}:Ext (Core.new p):=⟨⟨λ_=>rfl,OS,λ_=>OS⟩,⟨OS,OS⟩,⟨x40,x40⟩,λ_=>show(0:Int)<=4294967295 by decide,V6⟩
theorem vB {t:Tok} {a b:Int}:ia (t.pass a b):=⟨OS,OS⟩
theorem nE {t:Tok} (h:ia t) {a:Int}:ia (t.bz a).1:=by
 unfold Tok.bz;split
 ·exact h
 split
 ·exact h
 split
 ·exact h
 exact vB
theorem TH {t:Tok} (h:ia t):ia t.bG:=⟨OS,h.la⟩
theorem ZI {p:Pol} (hp:cK p) {t:Tok} (h:ia t) {a b:Int} {th:Bool}:ia (t.make p a b th).1:=by
 unfold Tok.make;split
 ·exact h
 split
 ·exact h
 split
 ·exact h
 split
 ·exact h
 split
 ·exact h
 exact⟨nD (zN hp.offer (by decide) (by decide)),h.la⟩
theorem NR {t:Tok} (h:ia t) {a b:Int}:ia (t.accept a b).1:=by
 unfold Tok.accept;split
 ·exact h
 split
 ·exact h
 exact nE h
theorem ZJ {t:Tok} (h:ia t) {a:Int}:ia (t.fJ a).1:=by
 unfold Tok.fJ;split
 ·exact h
 exact TH h
theorem Kv {t:Tok} (h:ia t) {a:Int}:ia (t.drop a).1:=by
 unfold Tok.drop;split
 ·exact h
 exact TH h
theorem Kw {t:Tok} (h:ia t):ia t.tick.1:=by
 unfold Tok.tick;split
 ·exact h
 split
 ·exact⟨OS,h.la⟩
 exact⟨rX h.oa,h.la⟩
theorem TI {p:Pol} {t:Tok} {m:Int} {q:List Ask} {f:Int} {now:Bool} (h:ia t):ia (cv p t m q f now).1:=by
 unfold cv;split
 ·exact h
 split
 ·exact h
 split
 ·exact h
 split
 ·split
  ·exact h
  ·exact nE h
 split
 ·exact h
 exact h
theorem EL {t:Tok} (h:ia t) {q:List Ask}:ia (bg t q).1:=by
 unfold bg;split
 ·exact h
 split
 ·exact h
 exact nE h
theorem xN {t:Tok} (h:ia t) {q:List Ask} {f:Int}:ia (dy t q f).1:=by
 unfold dy;split
 ·exact h
 split
 ·exact h
 exact EL h
theorem BZ {p:Pol} (hp:cK p) {t:Tok} (h:ia t) {q:List Ask} {th:Bool}:ia (bM p t q th).1:=by
 unfold bM;split
 ·exact⟨h.oa,OS⟩
 have O7:V5 (if t.la.most=0 then Timer.start p.cY else t.la).step:=by
  split
  ·exact rX (nD (zN hp.cY (by decide) (by decide)))
  ·exact rX h.la
 dsimp only;generalize (if t.la.most=0 then Timer.start p.cY else t.la).step=la at*;have h1:ia {t with la:=la}:=⟨h.oa,O7⟩;split
 ·exact h1
 split
 ·exact vB
 split
 ·exact nE h1
 exact EL h1
theorem Ext.record {k a n e w:Int} (h:Ext s.c):Ext (s.record C k a n e w).c:=⟨h.tab,h.t,h.pt,h.d,h.be⟩
theorem Ext.hear {l:Int} {r:Reply} (h:Ext s.c):Ext (s.hear l r).c:=by rw[Scene.hear_c];exact h
theorem Ext.gone {l w e:Int} (h:Ext s.c):Ext (s.gone l w e).c:=h.hear
theorem Ext.tell {l:Int} {r:Reply} (h:Ext s.c):Ext (s.tell l r).c:=h
theorem Ext.done {l n:Int} (h:Ext s.c):Ext (s.done l n).c:=h
theorem Ext.refuse {l n e:Int} (h:Ext s.c):Ext (s.refuse C l n e).c:=Ext.record (s:=s.tell l _) h
theorem Ext.dp {l e:Int} (h:Ext s.c):Ext (s.dp C l e).c:=h.record
theorem Ext.goes {t:Tok} {how n:Int} (h:Ext s.c) (ht:ia t):Ext (s.goes C t how n).c:=by
 obtain⟨x,e⟩:=Scene.wM C s t how n;rw[e];exact⟨h.tab,ht,h.pt,h.d,h.be⟩
theorem Ext.leave {x:Int} (h:Ext s.c):Ext (s.leave C x).c:=by
 obtain⟨hd,e⟩:=A4 C s x;rw[e];exact⟨h.tab,Kv h.t,h.pt,h.d,h.be⟩
theorem Ext.da {t:Tok} (h:Ext s.c) (ht:ia t):Ext (s.da t).c:=⟨h.tab,ht,h.pt,h.d,h.be⟩
theorem Ext.EM {q:List Ask} (h:Ext s.c):Ext ({s with c:={s.c with q:=q}}:Scene).c:=⟨h.tab,h.t,h.pt,h.d,h.be⟩
theorem Ext.dH {m:Int} {y:Label} (h:Ext s.c):Ext (s.dH m y).c:=⟨h.tab,h.t,⟨x40,h.pt.now⟩,h.d,h.be⟩
theorem B9 {t:Tab} (h:rW t) {i:Nat} (hi:i<3) {x:bm} (hx:V5 x.aH):rW (t.dT i x) where
 hi:=by
  intro j;unfold Tab.dT;dsimp only;rw[if_neg (by omega)];exact h.hi j
 st:=h.st
 ss:=by
  intro j;unfold Tab.dT;dsimp only;split
  ·exact hx
  ·exact h.ss j
theorem ZK {t:Tab} (h:rW t) {l:Int} (hl:1<=l/\l<=3):rW (t.end_ l):=by
 unfold Tab.end_;split
 ·exact B9 h (by omega) OS
 ·exact h
theorem NS {p:Pol} (hp:cK p) {t:Tab} (h:rW t) {l r:Int} {key:Byt}:rW (Tab.br p t l r key).1:=by
 unfold Tab.br;split
 ·exact h
 split
 ·exact h
 exact B9 h (by omega) (nD (zN hp.bh (by decide) (by decide)))
theorem TJ {p:Pol} (hp:cK p) {t:Tab} (h:rW t) {l:Int} (hl:1<=l/\l<=3) {n:Nat} {f:Byt}:rW (Tab.take C p t l n f).1:=by
 unfold Tab.take;split
 ·exact h
 split
 ·exact h
 split
 ·exact h
 split
 ·exact h
 split
 ·exact h
 exact B9 h (by omega) (nD (zN hp.bh (by decide) (by decide)))
theorem HY {p:Pol} (hp:cK p) {t:Tab} (h:rW t):rW (t.dU p):=⟨h.hi,nD (zN hp.bh (by decide) (by decide)),h.ss⟩
theorem TK {t:Tab} (h:rW t):rW t.tick where
 hi:=by
  intro j;simp only[Tab.tick,h.hi j];simp[h.hi j]
 st:=by
  unfold Tab.tick;dsimp only;split
  ·split
   ·exact OS
   ·exact rX h.st
  ·exact h.st
 ss:=by
  intro j;unfold Tab.tick;dsimp only;split
  ·split
   ·exact OS
   ·exact rX (h.ss j)
  ·exact h.ss j
theorem rY {n a b:Int} (ha:Bd a) (hb:Bd b) (h:Bd n):Bd (oM n a b):=by
 unfold oM;split
 ·exact ha
 split
 ·exact hb
 exact h
theorem TM {p:Pol} (hp:cK p) {pt:Point} (h:PtX pt) {c:Int} {x:X4} (hx:Ku x) {y:Label}:PtX (pt.set p c x y) where
 bx:=by
  unfold Point.set;dsimp only;split
  ·exact x40
  ·have hm:=hp.most c.toNat (by omega);have h1:Bd (-(p.most c.toNat)):=⟨by omega,by omega⟩;have h2:Bd (p.most c.toNat):=⟨by omega,by omega⟩;exact⟨rY h1 h2 hx.1,rY h1 h2 hx.2.1,rY h1 h2 hx.2.2.1,rY h1 h2 hx.2.2.2⟩
 now:=h.now
theorem oh {a b r:Int} (ha:Bd a) (hb:Bd b):Bd (jf a b r):=by
 unfold jf Bd at*;split
 ·exact ha
 split
 ·split<;>omega
 ·split<;>omega
theorem ZL {p:Pol} {pt:Point} (h:PtX pt):PtX (pt.step p) where
 bx:=h.bx
 now:=⟨oh h.now.1 h.bx.1,oh h.now.2.1 h.bx.2.1,oh h.now.2.2.1 h.bx.2.2.1,oh h.now.2.2.2 h.bx.2.2.2⟩
theorem ZM {m:bW} {l:Int} (hl:1<=l/\l<=3) (hp:cK s.c.p) (hx:Ku m.x) (h:Ext s.c):Ext (s.u9 C l m).c:=by
 unfold Scene.u9;split
 ·exact h.done
 split
 ·unfold Scene.En;refine Ext.done (Ext.record (Ext.leave ?_));exact⟨ZK h.tab hl,h.t,h.pt,h.d,h.be⟩
 split
 ·unfold Scene.ask;dsimp only;split
  ·exact h.refuse
  refine Ext.done ?_;split
  ·exact Ext.goes (h.EM) (TI h.t)
  ·exact Ext.record (Ext.da h.EM (TI h.t))
 split
 ·unfold Scene.offer;dsimp only;split
  ·exact h.refuse
  exact Ext.done (Ext.record (Ext.hear (Ext.da h (ZI hp h.t))))
 split
 ·unfold Scene.accept;dsimp only;split
  ·exact h.refuse
  exact Ext.done (Ext.goes h (NR h.t))
 split
 ·unfold Scene.fJ;dsimp only;split
  ·exact h.refuse
  exact Ext.done (Ext.record (Ext.gone (Ext.da h (ZJ h.t))))
 split
 ·unfold Scene.release;dsimp only;split
  ·exact h.refuse
  exact Ext.done (Ext.goes h.EM (xN h.t))
 split
 ·unfold Scene.command;dsimp only;split
  ·exact h.refuse
  refine Ext.done (Ext.record ?_);split
  ·exact⟨h.tab,h.t,h.pt,h.d,h.be⟩
  ·exact⟨h.tab,h.t,TM hp h.pt hx,h.d,h.be⟩
 ·exact h
theorem TN {l code:Int} {n:Nat} {f:Byt} (hx:∀n f m,C.take n f=some m->Ku m.x) (hl:1<=l/\l<=3) (hp:cK s.c.p) (h:Ext s.c):Ext (s.item C l code n f).c:=by
 unfold Scene.item;split
 ·exact h.dp
 split
 ·unfold Scene.gW;split
  ·exact h.dp
  split
  ·exact h.refuse
  dsimp only;split
  ·exact h.refuse
  refine Ext.record (Ext.tell ?_);refine⟨h.tab,h.t,h.pt,?_,h.be⟩;intro i;dsimp only;split
  ·dsimp only;omega
  ·exact h.d i
 split
 ·unfold Scene.prove;split
  ·exact h.dp
  split
  ·exact h.dp
  dsimp only;split
  ·exact h.refuse
  have h1:∀{b:Bool} {x:Byt},Ext ({s.c with doors:=λj=>if j=l.toNat-1 then⟨(s.c.doors (l.toNat-1)).many,b,x⟩else s.c.doors j}:Core):=by
   intro b x;refine⟨h.tab,h.t,h.pt,?_,h.be⟩;intro i;dsimp only;split
   ·exact h.d _
   ·exact h.d i
  split
  ·exact Ext.dp (s:=({s with c:=_}:Scene)) h1
  split
  ·exact Ext.refuse (s:=({s with c:=_}:Scene)) h1
  split
  ·exact Ext.refuse (s:=({s with c:=_}:Scene)) h1
  refine Ext.record (Ext.tell ?_);exact⟨NS hp h.tab,h.t,h.pt,(@h1 false λ_=>0).d,h.be⟩
 split
 ·exact h.dp
 ·rename_i tab m heq;have h1:rW tab:=by have:=TJ (C:=C) hp h.tab hl (n:=n) (f:=f);rw[heq]at this;exact this
  have hm:Ku m.x:=by
   unfold Tab.take at heq;split at heq
   ·cases heq
   split at heq
   ·cases heq
   split at heq
   ·cases heq
   ·rename_i m' Wz;split at heq
    ·cases heq
    split at heq
    ·cases heq
    cases heq;exact hx _ _ _ Wz
  exact ZM hl hp hm ⟨h1,h.t,h.pt,h.d,h.be⟩
theorem HZ {x:dS} (hx:Ku x.x) (hp:cK s.c.p) (h:Ext s.c):Ext (s.dU C x).c:=by
 have hs:Bd (kS s.c.p s.c.beyond x).1:=by
  unfold kS;split
  ·exact V6
  ·exact TG (by have:=h.be;unfold Bd at*;omega) (zN hp.oL (by decide) (by decide))
 unfold Scene.dU;split
 ·exact⟨h.tab,h.t,h.pt,h.d,V6⟩
 dsimp only;have h1:Ext ({s.c with samples:=sat s.c.samples 4294967295,tab:=s.c.tab.dU s.c.p,beyond:=(kS s.c.p s.c.beyond x).1}:Core):=⟨HY hp h.tab,h.t,h.pt,h.d,hs⟩;split
 ·split
  ·exact Ext.record (s:=({s with c:=_}:Scene)) h1
  ·exact Ext.goes ⟨h1.tab,h1.t,h1.pt,h1.d,h1.be⟩ (xN h.t)
 split
 ·split
  ·exact Ext.record (s:=({s with c:=_}:Scene)) h1
  ·exact Ext.record (s:=({s with c:=_}:Scene)) ⟨h1.tab,h1.t,TM hp h.pt hx,h1.d,h1.be⟩
 split
 ·split
  ·exact Ext.record (s:=({s with c:=_}:Scene)) h1
  ·exact Ext.goes (s:=({s with c:=_}:Scene)) h1 (nE h.t)
 ·exact h1
theorem B_ (q:List Ask):∀s:Scene,Ext s.c->Ext (q.foldl dE s).c:=by
 induction q with
 |nil=>intro s h;exact h
 |cons a q ih=>intro s h;exact ih _ (by rw[mf];exact⟨h.tab,h.t,h.pt,h.d,h.be⟩)
theorem H0 {bad:Bool} (h:Ext s.c):Ext (s.jg C bad).c:=by
 cases bad with
 |false=>exact⟨h.tab,⟨h.t.oa,h.t.la⟩,h.pt,h.d,h.be⟩
 |true=>
  rw[zL true rfl];refine Ext.dH (B_ _ _ ?_);have h0:Ext (s.da {s.c.t with bad:=true}).c:=Ext.da h ⟨h.t.oa,h.t.la⟩;split
  ·exact Ext.goes h0 vB
  ·exact Ext.da h0 vB
theorem afb (xs:List Int):∀t:Tok,ia t->ia (lq t xs):=by
 induction xs with
 |nil=>intro t h;exact h
 |cons x xs ih=>
  intro t h;unfold lq at*;rw[List.foldl_cons];refine ih _ ?_;split
  ·exact Kv h
  ·exact h
theorem ZN (xs:List Int):∀s:Scene,Ext s.c->Ext (xs.foldl (h_ C) s).c:=by
 induction xs with
 |nil=>intro s h;exact h
 |cons x xs ih=>
  intro s h;refine ih _ ?_;obtain⟨hd,e⟩:=EJ C s x;rw[e];exact⟨h.tab,afb _ _ h.t,h.pt,h.d,h.be⟩
theorem NT (q:List Ask):∀s:Scene,Ext s.c->Ext (q.foldl (kA C) s).c:=by
 induction q with
 |nil=>intro s h;exact h
 |cons a q ih=>intro s h;exact ih _ (Ext.record (Ext.gone h))
theorem TO (hp:cK s.c.p) (h:Ext s.c):Ext (s.cY C).c:=by
 unfold Scene.cY;dsimp only;split
 ·exact Ext.da h (BZ hp h.t)
 split
 ·exact Ext.dH (Ext.goes h.EM (BZ hp h.t))
 ·exact Ext.dH (Ext.goes h.EM (BZ hp h.t))
theorem TP (hi:Inv s.c) (h:Ext s.c):Ext (s.tick C).c:=by
 rw[vA];have h1:Ext (lr C s).c:=ZN _ _ ⟨TK h.tab,h.t,h.pt,h.d,h.be⟩;have h2:Ext (lu C (lr C s)).c:=by
  unfold lu;dsimp only;split
  ·exact Ext.record (Ext.gone (Ext.da h1 (Kw h1.t)))
  ·exact Ext.da h1 (Kw h1.t)
 have h3:Ext (rV C (lu C (lr C s))).c:=NT _ _ ⟨h2.tab,h2.t,h2.pt,h2.d,h2.be⟩;have hp:cK (rV C (lu C (lr C s))).c.p:=by rw[(TD (b:=True) hi).2.p];exact hi.p
 have h4:=TO (C:=C) hp h3;exact⟨h4.tab,h4.t,ZL h4.pt,h4.d,h4.be⟩
end Sd
namespace Sx
open Go Go.RowKit Go.BigFrame
theorem St.dup {ms:List Nat} {w0 w:World} {bs:List av} {b:av} (S:St ms w0 bs w) (hb:b∈bs) (hw:b.wr=false):St ms w0 (b::bs) w:=by
 refine St.mk' S.ch ?_ ?_ ?_
 ·intro x hx;rcases List.mem_cons.1 hx with rfl|hx
  ·exact S.at' hb
  ·exact S.at' hx
 ·intro x hx h;rcases List.mem_cons.1 hx with rfl|hx
  ·rw[hw]at h;cases h
  ·exact S.ql hx h
 ·refine List.pairwise_cons.2 ⟨?_,S.pw⟩;intro y hy;obtain⟨i,hi⟩:=List.getElem?_of_mem hb;obtain⟨j,hj⟩:=List.getElem?_of_mem hy;intro h;have hyw:y.wr=true:=by
   rcases h with h|h
   ·rw[hw]at h;cases h
   ·exact h
  have e_:j≠i:=λe=>by
   rw[e,hi]at hj;have:=Option.some.inj hj;rw[this]at hw;rw[hw]at hyw;cases hyw
  exact(S.apart j i y b hj hi e_ hyw).symm
end Sx
namespace Go.Proofs.YtggfpcggakghnaaGreatDoor
open Go Go.RowKit Go.BigFrame Sx Vx
variable{fr:Sd.Reply->Nat×Sd.Byt}
inductive LG (fr:Sd.Reply->Nat×Sd.Byt) where
 |cn (u:World)
 |core (g:Gh fr) (fB:List av)
 |row (r:aC)
instance:Bl (LG fr):=⟨λg=>match g with|.cn u=>du u|.core g fB=>g.F.B++fB|.row r=>r.bl⟩
mutual
def qf (n:Nat):V->V
 |.ptr i o=>.ptr (i+n) o
 |.sl i o m c=>.sl (i+n) o m c
 |.oN i o m c x=>.oN (i+n) o m c x
 |.pe i o j z k=>.pe (i+n) o j z k
 |.fn f a b=>.fn f (Kx n a) (Kx n b)
 |.CM t v=>.CM t (qf n v)
 |.agg l=>.agg (Kx n l)
 |.az l=>.az (Kx n l)
 |v=>v
def Kx (n:Nat):List V->List V
 |[]=>[]
 |v::l=>qf n v::Kx n l
end
theorem vC {ids xs:List Nat} (i:Nat):(ids++xs).getD (i+ids.length) 0=xs.getD i 0:=by
 simp[List.getD,List.getElem?_append_right (show ids.length<=i+ids.length by omega)]
mutual
theorem tS {ids xs:List Nat}:∀v:V,den (ids++xs) (qf ids.length v)=den xs v
 |.ptr i _=>by simp only[qf,den,vC]
 |.sl i _ _ _=>by simp only[qf,den,vC]
 |.oN i _ _ _ _=>by simp only[qf,den,vC]
 |.pe i _ _ _ _=>by simp only[qf,den,vC]
 |.fn _ a b=>by simp only[qf,den,vD a,vD b]
 |.CM _ v=>by simp only[qf,den,tS v]
 |.agg l=>by simp only[qf,den,Ca l]
 |.az l=>by simp only[qf,den,vD l]
 |.int _ _=>by simp[qf,den]
 |.bool _=>by simp[qf,den]
 |.dC _ _ _=>by simp[qf,den]
 |.arr _ _ _=>by simp[qf,den]
 |.j8 _ _ _ _=>by simp[qf,den]
 |.rest _=>by simp[qf,den]
 |.fp _ _ _=>by simp[qf,den]
 |.raw _=>by simp[qf,den]
theorem vD {ids xs:List Nat}:∀l:List V,ao (ids++xs) (Kx ids.length l)=ao xs l
 |[]=>by simp[Kx,ao]
 |v::l=>by simp only[Kx,ao,tS v,vD l]
theorem Ca {ids xs:List Nat}:∀l:List V,ab (ids++xs) (Kx ids.length l)=ab xs l
 |[]=>by simp[Kx,ab]
 |v::l=>by
  simp only[Kx,ab,Ca l];congr 1;have h:=tS (ids:=ids) (xs:=xs) v;cases v<;>simp only[qf,cl]at h⊢<;>first|rfl|rw[h]
end
def ZO (n:Nat):List VB->List VB
 |[]=>[]
 |b::l=>⟨b.wr,b.ty,Kx n b.c⟩::ZO n l
theorem Ky (n:Nat):∀l:List VB,(ZO n l).length=l.length
 |[]=>rfl
 |_::l=>by simp[ZO,Ky n l]
theorem Kz {ids xs:List Nat}:∀(is:List Nat) (bl:List VB),lits (ids++xs) is (ZO ids.length bl)=lits xs is bl
 |[],_=>by simp[lits]
 |_::_,[]=>by simp[lits,ZO]
 |i::is,b::bl=>by
  simp only[ZO,lits,Kz is bl];unfold aE;simp only[Ca]
abbrev LKb (fr:Sd.Reply->Nat×Sd.Byt) (k:LK):=V->(s':Sd.Scene)->bN fr (bA k s')->List av->List VB->Prop
abbrev LM (fr:Sd.Reply->Nat×Sd.Byt):=List V->(k:LK)->(s:Sd.Scene)->bN fr (bA k s)->LKb fr k->Prop
def eA (bl:List VB) (ic it:Nat) (k:LK) (s:Sd.Scene):List VB:=(bl.set ic (ew k it s)).set it (gP s)
def V7 (M:World->LM fr):gm (LG fr):=λargs bl ch K=>match args,ch with
 |.ptr ic 0::ar,.cn u::.core g fB::rest=>(match bl[ic]?with
  |some ⟨true,⟨105,(0,0)⟩,cc⟩=>(match w6 cc with
   |some x=>(match bl[x.it]?with
    |some ⟨true,⟨157,(0,0)⟩,tc⟩=>(match uR tc with
     |some y=>cond (cH 0 ar&&(dk bl.length bl&&(Nat.blt 1 ic&&(Nat.blt 1 x.it&&!(Nat.beq ic x.it)))))
      ((bl[0]?=some (aG g.d.k)/\bl[1]?=some (iA g.d.k)/\x=Cz g.d.k x.it (lP x y g.d g.dx g.sx)/\y.b=x.p.bh/\y.m=x.p.aR/\x.p.queue=g.d.k.most)/\
        M u ar g.d.k (lP x y g.d g.dx g.sx) g.F λvv s' F' fn ex=>K (qf bl.length vv) (eA bl ic x.it g.d.k s'++ex) (.cn u::.core (cB g.d.k s' F') (fn++fB)::rest)) False
     |none=>False)
    |_=>False)
   |none=>False)
  |_=>False)
 |_,_=>False
abbrev ck (a b:Nat):List Nat:=[1,0,a,b]
def rZ (f:FuncId) (M:World->LM fr):Prop:=∀(u:World) (ar:List V) (k:LK) (s:Sd.Scene) (F:bN fr (bA k s)) (Kb:LKb fr k) (a b:Nat) (R:List av) (ms:List Nat) (w0 w:World),cH 0 ar=true->s.c.p.queue=k.most->M u ar k s F Kb->
 St ms w0 (lits (ck a b) (ck a b) (fV k s)++(F.B++(du u++R))) w->
 aj prog f (ao (ck a b) (.ptr 2 0::ar)).toArray w λv w'=>∃(vv:V) (s':Sd.Scene) (F':bN fr (bA k s')) (fn:List av) (ex:List VB) (xs:List Nat),xs.length=ex.length/\den xs vv=v/\dk 0 ex=true/\Kb vv s' F' fn ex/\
  St ms w0 (lits (ck a b) (ck a b) (fV k s')++(lits xs xs ex++(F'.B++(fn++(du u++R))))) w'
theorem zO {ids:List Nat} {it a b:Nat} (n:Nat) {k:LK} {s:Sd.Scene} (h:ids.getD it 0=b):aE ids n (ew k it s)=aE (ck a b) n (ew k 3 s):=by
 have e:(ck a b).getD 3 0=b:=rfl;simp only[aE,ew,zB,Cz,ab,cl,den,h,e]
structure H9 (bl:List VB) (ic it:Nat) (k:LK) (s:Sd.Scene):Prop where
 h0:bl[0]?=some (aG k)
 h1:bl[1]?=some (iA k)
 hc:bl[ic]?=some (ew k it s)
 ht:bl[it]?=some (gP s)
theorem lv {ids:List Nat} {bl:List VB} {ic it:Nat} {k:LK} {s:Sd.Scene} (H:H9 bl ic it k s) (hg:Gl gS ids):
 ([0,1,ic,it].map λj=>aE ids (ids.getD j 0) (bl.getD j gK))=lits (ck (ids.getD ic 0) (ids.getD it 0)) (ck (ids.getD ic 0) (ids.getD it 0)) (fV k s):=by
 have g0:=(hg 1 0 rfl).2;have g1:=(hg 0 1 rfl).2;simp only[List.map_cons,List.map_nil,cG H.h0,cG H.h1,cG H.hc,cG H.ht,g0,g1,fV,lits];rw[cF (ids':=ck (ids.getD ic 0) (ids.getD it 0)) (hJ k),cF (ids':=ck (ids.getD ic 0) (ids.getD it 0)) (uy k),cF (ids':=ck (ids.getD ic 0) (ids.getD it 0)) (iW s),
  zO (a:=ids.getD ic 0) _ rfl]
theorem xO {bl:List VB} {ic it:Nat} {k:LK} {s:Sd.Scene} (H:H9 bl ic it k s) (h2:1<ic) (h3:1<it) (n3:ic≠it) (s':Sd.Scene):H9 (eA bl ic it k s') ic it k s':=by
 have l2:=bO H.hc;have l3:=bO H.ht;unfold eA;refine⟨?_,?_,?_,?_⟩
 ·rw[eG (by omega),eG (by omega)];exact H.h0
 ·rw[eG (by omega),eG (by omega)];exact H.h1
 ·rw[eG (by omega),nx l2]
 ·rw[nx (by simpa using l3)]
theorem pU {bl:List VB} {ids r:List Nat} {a b:Nat} {x y:VB} (hr:∀j∈r,j≠a/\j≠b):
 (r.map λj=>aE ids (ids.getD j 0) (((bl.set a x).set b y).getD j gK))=r.map λj=>aE ids (ids.getD j 0) (bl.getD j gK):=by
 apply List.map_congr_left;intro j hj;obtain⟨h1,h2⟩:=hr j hj;simp only[List.getD,List.getElem?_set];rw[if_neg (Ne.symm h2),if_neg (Ne.symm h1)]
theorem r_ {n:Nat} {b:VB} (hb:cH n b.c=true):∀(bl:List VB) (i:Nat),dk n bl=true->dk n (bl.set i b)=true
 |[],_,_=>by simp[dk]
 |c::l,0,h=>by simp only[dk,Bool.and_eq_true,List.set_cons_zero]at h⊢;exact⟨hb,h.2⟩
 |c::l,i+1,h=>by simp only[dk,Bool.and_eq_true,List.set_cons_succ]at h⊢;exact⟨h.1,r_ hb l i h.2⟩
theorem fc {ids ids':List Nat}:∀(xs:List Nat) (ex:List VB),dk 0 ex=true->lits ids xs ex=lits ids' xs ex
 |[],_,_=>by simp[lits]
 |_::_,[],_=>by simp[lits]
 |i::is,b::bl,h=>by
  simp only[dk,Bool.and_eq_true]at h;simp only[lits];rw[cF (ids':=ids') h.1,fc is bl h.2]
theorem EN {f:Nat} {M:World->LM fr} (h:rZ f M):Sound prog gS f (V7 M):=by
 intro args ids bl ch R ms w0 w K hg hl S hc;unfold V7 at hc;split at hc
 ·rename_i ic ar u g fB rest;split at hc
  ·rename_i cc OG;split at hc
   ·rename_i x hx;split at hc
    ·rename_i tc VW;split at hc
     ·rename_i y hy;cases hq:cH 0 ar&&(dk bl.length bl&&(Nat.blt 1 ic&&(Nat.blt 1 x.it&&!(Nat.beq ic x.it))))with
      |false=>rw[hq]at hc;exact hc.elim
      |true=>
       rw[hq]at hc;simp only[Bool.and_eq_true,Bool.not_eq_true',Nat.blt_eq]at hq;obtain⟨q0,qw,q2,q3,q6⟩:=hq;have n3:ic≠x.it:=λe=>by rw[e,Nat.beq_refl]at q6;cases q6
       obtain⟨⟨e3,e4,e5,e6,e7,e8⟩,hM⟩:=hc;obtain rfl:=nv hx;obtain rfl:=jz hy;have H:H9 bl ic x.it g.d.k (lP x y g.d g.dx g.sx):=by
        refine⟨e3,e4,?_,?_⟩
        ·rw[OG];congr 1;unfold ew;rw[<-e5]
        ·rw[VW];congr 1;unfold gP;have:y=VV (lP x y g.d g.dx g.sx):=by
          obtain⟨y1,y2,y3,y4,y5,y6,y7,y8⟩:=y;simp only at e6 e7;subst e6 e7;rfl
         rw[<-this]
       have l2:=bO H.hc;have l3:=bO H.ht;obtain⟨r,hr,hp⟩:=ux (bl:=bl) (ids:=ids) hl (is:=[0,1,ic,x.it]) (by simp;omega) (by
        intro i hi;simp only[List.mem_cons,List.not_mem_nil,or_false]at hi;rcases hi with rfl|rfl|rfl|rfl<;>omega)
       have dP:=hp bl rfl;rw[lv H hg]at dP;have S1:=S.perm (bs':=lits (ck (ids.getD ic 0) (ids.getD x.it 0)) (ck (ids.getD ic 0) (ids.getD x.it 0)) (fV g.d.k (lP x y g.d g.dx g.sx))++(g.F.B++(du u++((r.map λj=>aE ids (ids.getD j 0) (bl.getD j gK))++(fB++af rest R))))) (by
        refine(dP.append_right _).trans ?_;rw[List.append_assoc];refine List.Perm.append_left _ ?_;show((r.map λj=>aE ids (ids.getD j 0) (bl.getD j gK))++(du u++((g.F.B++fB)++af rest R))).Perm _;exact cj λf=>by simp only[List.countP_append];omega)
       have D_:=h u ar g.d.k (lP x y g.d g.dx g.sx) g.F _ _ _ _ ms w0 w q0 e8 hM S1;have a9:ao ids (.ptr ic 0::ar)=ao (ck (ids.getD ic 0) (ids.getD x.it 0)) (.ptr 2 0::ar):=by
        have a1:ao ids ar=ao [] ar:=by have:=dW (ids:=[]) (more:=ids) ar q0;simpa using this
        have a2:ao (ck (ids.getD ic 0) (ids.getD x.it 0)) ar=ao [] ar:=by have:=dW (ids:=[]) (more:=ck (ids.getD ic 0) (ids.getD x.it 0)) ar q0;simpa using this
        simp only[ao,den,a1,a2];rfl
       rw[a9];refine D_.mono ?_;rintro v w' ⟨vv,s',F',fn,ex,xs,ow,hvv,Zd,hK,S2⟩;refine⟨qf bl.length vv,xs,eA bl ic x.it g.d.k s'++ex,.cn u::.core (cB g.d.k s' F') (fn++fB)::rest,?_,?_,?_,hK⟩
       ·rw[<-hl,tS];exact hvv.symm
       ·simp[eA,hl,ow]
       ·have H':=xO H q2 q3 n3 s';have gy:=hp (eA bl ic x.it g.d.k s') (by simp[eA]);rw[lv H' hg]at gy;have w8:(r.map λj=>aE ids (ids.getD j 0) ((eA bl ic x.it g.d.k s').getD j gK))=r.map λj=>aE ids (ids.getD j 0) (bl.getD j gK):=by
         unfold eA;refine pU ?_;intro j hj;have:=hr j hj;simp only[List.mem_cons,List.not_mem_nil,or_false,not_or]at this;omega
        rw[w8]at gy;have gx:ids.length=(eA bl ic x.it g.d.k s').length:=by simp[eA,hl]
        have hw2:dk ids.length (eA bl ic x.it g.d.k s')=true:=by
         unfold eA;rw[<-hl]at qw l3;refine r_ ?_ _ _ (r_ ?_ _ _ qw)
         ·exact gY (Nat.zero_le _) _ (iW s')
         ·simp only[ew,zB,Cz,cH,fK,Bool.and_eq_true,Nat.blt_eq,Bool.true_and,Bool.and_true];exact l3
        rw[aI _ _ _ _ gx,aJ _ _ hw2,fc (ids':=xs) xs ex Zd];refine S2.perm ?_;show List.Perm _ ((lits ids ids (eA bl ic x.it g.d.k s')++lits xs xs ex)++(du u++((F'.B++(fn++fB))++af rest R)));refine List.Perm.trans ?_ ((gy.symm.append_right _).append_right _);exact cj λf=>by simp only[List.countP_append];omega
     ·exact hc.elim
    ·exact hc.elim
   ·exact hc.elim
  ·exact hc.elim
 ·exact hc.elim
theorem xP {f:Nat} {M:World->LM fr} (h:rZ f M):oP prog gS ⟨f,false,V7 M⟩:=⟨EN h,λe=>by cases e⟩
end Go.Proofs.YtggfpcggakghnaaGreatDoor
