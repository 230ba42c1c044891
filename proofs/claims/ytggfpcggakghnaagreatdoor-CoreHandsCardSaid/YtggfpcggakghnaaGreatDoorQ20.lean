/- Part 20 of the proof. -/
import Derived.Test.YtggfpcggakghnaaGreatDoorQ19
set_option linter.all false
set_option maxRecDepth 100000
set_option maxHeartbeats 4000000
open Go.Proofs.Tryz
open Go.IntKind (u8 u16 u32 u64 i64)
namespace Go.Proofs.YtggfpcggakghnaaGreatDoor
open Go Go.RowKit Go.BigFrame Sx Vx
variable{fr:Sd.Reply->Nat×Sd.Byt}
def OQ (a:Nat) (f:FuncId):Value:=.func (.func f) #[.pointer (some ⟨a,0,none⟩)] #[]
def rR (a:Nat):List (Int×Value):=[(3,OQ a 152),(4,OQ a 153),(5,OQ a 154),(6,OQ a 155),(7,OQ a 156),(8,OQ a 157),(9,OQ a 158),(10,OQ a 159),(11,OQ a 159)]
def ajd:Nat->Prop->Prop->Prop
 |0,_,q=>q
 |n+1,p,q=>p/\ajd n p q
theorem Ze (a:Nat) (K:VK De):cJ (acy prog gN []) 60 101 [.raw (.pointer (some ⟨a,0,none⟩))] [] [] K=∀id:Nat,ajd 9 (Value.map (some id)=.map (some id)) (K (.raw (.map (some id))) [] [⟨id,rR a⟩]):=by kernel_rfl
theorem Zf (a:Nat) {ms:List Nat} {w0 w:World} {B:List av} (S:St ms w0 B w):aj prog 101 #[.pointer (some ⟨a,0,none⟩)] w λv w1=>∃id,v=.map (some id)/\St ms w0 (⟨id,true,ox .i64 (rR a)⟩::B) w1:=by
 have fU:cJ (acy prog gN []) 60 101 [.raw (.pointer (some ⟨a,0,none⟩))] [] [] (λv bl ch=>∃id,v=.raw (.map (some id))/\bl=[]/\ch=[⟨id,rR a⟩]):=by
  rw[Ze];exact λid=>⟨rfl,rfl,rfl,rfl,rfl,rfl,rfl,rfl,rfl,id,rfl,rfl,rfl⟩
 refine(bw (G:=De) (ai.nil (P:=prog) (gl:=gN)).T (ai.nil (P:=prog) (gl:=gN)).Q 60 (C:=acy prog gN []) (ids:=[]) (bl:=[]) (ch:=[]) (R:=B) (args:=[.raw (.pointer (some ⟨a,0,none⟩))]) (λg i h=>by cases h) rfl S fU).mono ?_;rintro v w' ⟨x,more,bl',ch',rfl,D8,S2,id,rfl,rfl,rfl⟩;have hm:more=[]:=by cases more with
  |nil=>rfl
  |cons=>simp at D8
 subst hm;exact⟨id,by simp[den],S2⟩
def Td (a:Nat):Nat->Option Nat:=λg=>match gS g with
 |some i=>some i
 |none=>bif Nat.beq g a then some 2 else none
theorem aje {a:Nat} {ids:List Nat} (h:Gl (Td a) ids):Gl gS ids:=λg i hi=>h g i (by unfold Td;rw[hi])
theorem abN {a:Nat} {ids:List Nat} (h:Gl (Td a) ids) (ha:gS a=none):2<ids.length/\ids.getD 2 0=a:=h a 2 (by unfold Td;rw[ha];simp)
def EC (a:Nat):gm (Sm (Gh fr)):=λargs bl ch K=>match args with
 |[.ptr 2 0]=>gS a=none/\∀id:Nat,K (.raw (.map (some id))) bl (ch++[.m ⟨id,rR a⟩])
 |_=>False
theorem HM (a:Nat):Sound prog (Td a) 101 (EC (fr:=fr) a):=by
 intro args ids bl ch R ms w0 w K hg hl S hc;unfold EC at hc;split at hc
 ·obtain⟨ha,hK⟩:=hc;have h2:=(abN hg ha).2;have ea:(ao ids [.ptr 2 0]).toArray=#[.pointer (some ⟨a,0,none⟩)]:=by simp only[ao,den,h2]
  rw[ea];refine(Zf a S).mono ?_;rintro v w1 ⟨id,rfl,S1⟩;refine⟨_,[],bl,_,?_,by simpa using hl,?_,hK id⟩
  ·simp[den]
  ·rw[List.append_nil,cV,aW _ ch];have e:af [(.m ⟨id,rR a⟩:Sm (Gh fr))] R=⟨id,true,ox .i64 (rR a)⟩::R:=rfl;rw[e];rw[aW R ch]at S1;refine S1.perm ?_;rw[<-List.append_assoc,<-List.append_assoc];exact List.perm_middle.symm
 ·exact hc.elim
theorem HN (a:Nat):cT (EC (fr:=fr) a):=by
 intro args bl ch K h;unfold EC at h⊢;split at h
 ·exact⟨h.1,λid=>⟨h.2 id,[],by simp⟩⟩
 ·exact h.elim
def OR (f:FuncId):V:=.az [.fn f [.ptr 2 0] [],.bool true]
def Km (a:Nat):(Operand->V)->Op->List VB->List (Sm (Gh fr))->VK (Sm (Gh fr))->Prop:=λe op bl ch K=>match op with
 |.lookup mt m k true=>(match ch,e m,e k with
  |[.g x,.m g],.raw mv,.int .i64 kd=>(match prog.underlying mt with
   |some (.map kt _)=>(match prog.underlying kt with
    |some (.int .i64)=>(mv=.map (some g.id)/\g.tb=rR a/\gS a=none/\3<=kd/\kd<=11)/\
     cond (kd==3) (K (OR 152) bl ch) (cond (kd==4) (K (OR 153) bl ch) (cond (kd==5) (K (OR 154) bl ch) (cond (kd==6) (K (OR 155) bl ch) (cond (kd==7) (K (OR 156) bl ch) (cond (kd==8) (K (OR 157) bl ch) (cond (kd==9) (K (OR 158) bl ch) (K (OR 159) bl ch)))))))
    |_=>False)
   |_=>False)
  |_,_,_=>False)
 |_=>False
theorem ED (a:Nat):oA prog (Td a) (Km (fr:=fr) a):=by
 intro e op ids bl ch R ms w0 w K ρ o hg hl S cx ho h;unfold Km at h;split at h
 ·rename_i mt m k;split at h
  ·rename_i x g mv kd hm hk;split at h
   ·rename_i kt et hu;split at h
    ·rename_i hkt;obtain⟨⟨rfl,htb,ha,h3,h11⟩,hK⟩:=h;have h2:=(abN hg ha).2;have e0:af [(.g x:Sm (Gh fr)),.m g] R=Bl.B x++(⟨g.id,true,ox .i64 g.tb⟩::R):=rfl;have S':=S;rw[e0,htb]at S';have ba:=S'.at' (x:=⟨g.id,true,ox .i64 (rR a)⟩) (by simp);have run:∀f,(∃j,Instr.findNow (.int .i64) (.int .i64 kd) (((rR a).zipIdx.map λx=>(⟨.int .i64 x.1.1,x.1.2,x.2⟩:MapEntry)).toArray).toList 0=some (some (j,OQ a f)))->K (OR f) bl [(.g x:Sm (Gh fr)),.m g]->
      ∃x_1 more bl' ch' w',((execOp ρ o).run prog w=.ok (.value (den (ids++more) x_1)) w'\/((execOp ρ o).run prog w=.ok .skip w'/\x_1=cE))/\(ids++more).length=bl'.length/\St ms w0 (lits (ids++more) (ids++more) bl'++af ch' R) w'/\K x_1 bl' ch':=by
      intro f hf hkf;refine⟨OR f,[],bl,_,w,.inl ?_,by simpa using hl,by simpa using S,hkf⟩;have aY:=Gc (P:=prog) hu hkt ba hf;unfold execOp;simp only[ho,cx,hm,hk,den]at aY⊢;have amk:den ids (OR f)=.tuple #[OQ a f,.bool true]:=by simp only[OR,den,ao,h2,OQ]
      rw[List.append_nil,amk];simp only[Sem.run_bind,aY,Result.andThen_ok,Sem.run_pure]
     have hkd:kd=3\/kd=4\/kd=5\/kd=6\/kd=7\/kd=8\/kd=9\/kd=10\/kd=11:=by omega
     rcases hkd with rfl|rfl|rfl|rfl|rfl|rfl|rfl|rfl|rfl
     ·exact run 152 ⟨0,by kernel_rfl⟩ hK
     ·exact run 153 ⟨1,by kernel_rfl⟩ hK
     ·exact run 154 ⟨2,by kernel_rfl⟩ hK
     ·exact run 155 ⟨3,by kernel_rfl⟩ hK
     ·exact run 156 ⟨4,by kernel_rfl⟩ hK
     ·exact run 157 ⟨5,by kernel_rfl⟩ hK
     ·exact run 158 ⟨6,by kernel_rfl⟩ hK
     ·exact run 159 ⟨7,by kernel_rfl⟩ hK
     ·exact run 159 ⟨8,by kernel_rfl⟩ hK
    ·exact h.elim
   ·exact h.elim
  ·exact h.elim
 ·exact h.elim
def rS:gm (Gh fr):=λargs bl ch K=>match args,ch with
 |[.raw vp,.int .u8 kd],g::rest=>vp=ei g.d.k/\K (.bool (decide (0<g.d.k.pn)&&(g.d.k.pf 0==kd))) bl (g::rest)
 |_,_=>False
theorem BR:cT (rS (fr:=fr)):=by
 intro args bl ch K h;unfold rS at h⊢;split at h
 ·exact⟨h.1,h.2,[],by simp⟩
 ·exact h.elim
def Te:List (dI Empty):=[]
theorem ae6 (x:Option Addr) (c:Nat) (kd:Int) (X:V->Prop):cJ (dR (G:=Empty) prog Cx Te) 40 97 [.raw (.slice x 0 c),.int .u8 kd] [] [] (λv _ _=>X v)=X (.bool false):=by kernel_rfl
theorem ae7 (n c:Nat) (kd:Int) (f:Nat->Int) (t:List Value) (X:V->Prop):cJ (dR (G:=Empty) prog Cx Te) 40 97 [.sl 0 0 (n+1) c,.int .u8 kd] [⟨false,⟨5,(0,0)⟩,[.dC .u8 (n+1) f,.rest t]⟩] [] (λv _ _=>X v)=cond (decide (((n+1:Nat):Int)>0)) (X (.bool (f 0==kd))) (X (.bool false)):=by kernel_rfl
theorem BS:ai (G:=Empty) prog Cx Te:=ai.nil
theorem BU:Sound prog gS 97 (rS (fr:=fr)):=by
 intro args ids bl ch R ms w0 w K hg hl S hc;unfold rS at hc;split at hc
 ·rename_i vp kd g rest;obtain⟨rfl,hK⟩:=hc;have e0:af (g::rest) R=g.F.B++af rest R:=rfl;have S':=S;rw[e0]at S';have main:aj prog 97 #[ei g.d.k,.int .u8 kd] w λv w1=>v=.bool (decide (0<g.d.k.pn)&&(g.d.k.pf 0==kd))/\Ch [] w w1:=by
   rcases Nat.eq_zero_or_pos g.d.k.pn with hz|Gs
   ·have ep:ei g.d.k=.slice g.d.k.px 0 g.d.k.pc:=by unfold ei;rw[hz]
    rw[ep];refine(bw (G:=Empty) BS.T BS.Q 40 (C:=dR prog Cx Te) (ids:=[]) (bl:=[]) (ch:=[]) (R:=[]) (ms:=[]) (w0:=w) (args:=[.raw (.slice g.d.k.px 0 g.d.k.pc),.int .u8 kd]) (λg i h=>by cases h) rfl (St.nil [] w) (K:=λv _ _=>v=.bool false) (f:=97) (by rw[ae6])).mono ?_;rintro v w' ⟨x,more,bl',ch',rfl,D8,S2,rfl⟩;exact⟨by simp[den,hz],S2.ch⟩
   ·obtain⟨bp,t,X,hx,hle,hB⟩:=Kl g.F Gs;rw[hB]at S';have ba:=S'.at' (x:=⟨bp,true,.cells (ab [] (eM g.d.k.pn g.d.k.pf t).c).toArray 5 (0,0)⟩) (by simp);obtain⟨n,hn⟩:∃n,g.d.k.pn=n+1:=⟨g.d.k.pn-1,by omega⟩;have ep:ei g.d.k=.slice (some ⟨bp,0,none⟩) (n+1) g.d.k.pc:=by unfold ei;rw[hx,hn]
    rw[ep];rw[hn]at ba;have S0:=St.given (w:=w) [(bp,.cells (ab [] (eM (n+1) g.d.k.pf t).c).toArray 5 (0,0))] (all_cons ba all_nil);have S1:St [] w (lits [bp] [bp] [⟨false,⟨5,(0,0)⟩,[.dC .u8 (n+1) g.d.k.pf,.rest t]⟩]++af ([]:List Empty) []) w:=by
     simpa[lits,aE,ab,cl,af,eM]using S0
    refine(bw (G:=Empty) BS.T BS.Q 40 (C:=dR prog Cx Te) (args:=[.sl 0 0 (n+1) g.d.k.pc,.int .u8 kd]) (λg i h=>by cases h) rfl S1 (K:=λv _ _=>v=.bool (g.d.k.pf 0==kd)) (f:=97) (by rw[ae7];exact aU (λ_=>rfl) (λe=>by have:=of_decide_eq_false e;omega))).mono ?_;rintro v w' ⟨x,more,bl',ch',rfl,D8,S2,rfl⟩;refine⟨?_,S2.ch⟩;have:decide (0<g.d.k.pn)=true:=by simp[Gs]
    simp[den,this]
  have ea:(ao ids [.raw (ei g.d.k),.int .u8 kd]).toArray=#[ei g.d.k,.int .u8 kd]:=rfl;rw[ea];refine main.mono ?_;rintro v w1 ⟨rfl,eZ⟩;exact⟨_,[],bl,g::rest,by simp only[den],by simpa using hl,by simpa using S.quiet eZ,hK⟩
 ·exact hc.elim
def HO (C:Sd.Crypt):gm (Gh fr):=λargs bl ch K=>match args,ch with
 |[.ptr it 0,.int .i64 l,.raw vp],g::rest=>(match bl[it]?with
  |some ⟨true,⟨157,(0,0)⟩,tc⟩=>(match uR tc with
   |some y=>cond (!(Nat.beq it 0)) ((vp=ei g.d.k/\bl[0]?=some (aG g.d.k)/\g.d.k.pn<=58/\By g.d.k.pf/\(1<=l/\l<=3)/\(0<=y.b/\y.b<=1000)/\(∀i,i<3->((aN y).ay i).on=true->0<=((aN y).ay i).seen.high/\((aN y).ay i).seen.high<=4294967295))/\
    (Sd.Tab.take C (pY y.b y.m) (aN y) l g.d.k.pn g.d.k.pf=(aN y,.error 16)->K (gA 16) bl ch)/\
    (Sd.Tab.take C (pY y.b y.m) (aN y) l g.d.k.pn g.d.k.pf=(aN y,.error 14)->K (gA 14) bl ch)/\
    (Sd.Tab.take C (pY y.b y.m) (aN y) l g.d.k.pn g.d.k.pf=(aN y,.error 13)->K (gA 13) bl ch)/\
    (Sd.Tab.take C (pY y.b y.m) (aN y) l g.d.k.pn g.d.k.pf=(aN y,.error 15)->K (gA 15) bl ch)/\
    (∀t' m,Sd.Tab.take C (pY y.b y.m) (aN y) l g.d.k.pn g.d.k.pf=(t',.ok m)->K (.az [.agg (cw m),.int .i64 0]) (bl.set it ⟨true,⟨157,(0,0)⟩,cd (Fz t' y.b y.m)⟩) ch)) False
   |none=>False)
  |_=>False)
 |_,_=>False
theorem wQ {C:Sd.Crypt} {p:Sd.Pol} {t t':Sd.Tab} {l:Int} {n:Nat} {f:Nat->Int} {e:Int} (h:Sd.Tab.take C p t l n f=(t',.error e)):e=16\/e=14\/e=13\/e=15:=by
 unfold Sd.Tab.take at h
 repeat' split at h
 all_goals first|(cases h;done)|(obtain⟨_,h2⟩:=Prod.mk.inj h;cases h2;simp)
theorem BV:Sound prog gS 100 (HO (fr:=fr) (ah aT)):=by
 intro args ids bl ch R ms w0 w K hg hl S hc;refine EB args ids bl ch R ms w0 w K hg hl S ?_;unfold HO at hc;unfold HL;split at hc
 ·rename_i it l vp g rest;split at hc
  ·rename_i tc hb;try simp only[hb]
   split at hc
   ·rename_i y hy;try simp only[hy]
    cases hq:!(Nat.beq it 0)with
    |false=>rw[hq]at hc;exact hc.elim
    |true=>
     rw[hq]at hc;obtain⟨hp,h16,h14,h13,Zj,hok⟩:=hc;refine⟨hp,λe he=>?_,hok⟩;rcases wQ he with rfl|rfl|rfl|rfl
     ·exact h16 he
     ·exact h14 he
     ·exact h13 he
     ·exact Zj he
   ·exact hc.elim
  ·exact hc.elim
 ·exact hc.elim
def LIg (fr:Sd.Reply->Nat×Sd.Byt) (C:Sd.Crypt):List (dI (Gh fr)):=⟨98,false,pP (tQ C)⟩::⟨99,false,pP (xF C)⟩::⟨100,false,HO C⟩::⟨97,true,rS⟩::⟨152,false,pP (jn λs l m=>s.done l m.seq)⟩::⟨153,false,pP (jn λs l m=>s.En C l m)⟩::⟨154,false,pP (jn λs l m=>s.ask C l m)⟩::
 ⟨155,false,pP (jn λs l m=>s.offer C l m)⟩::⟨156,false,pP (jn λs l m=>s.accept C l m)⟩::⟨157,false,pP (jn λs l m=>s.fJ C l m)⟩::⟨158,false,pP (jn λs l m=>s.release C l m)⟩::⟨159,false,pP (Sz C)⟩::L8 fr C
theorem ae8 (ht:Body (fr:=fr) 147 bV):ai prog gS (LIg fr (ah aT)):=
 ai.cons (c_ (NH ht)) (ai.cons (c_ (HJ ht)) (ai.cons ⟨BV,λe=>by cases e⟩ (ai.cons ⟨BU,λ_=>BR⟩ (ai.cons (c_ (Nv aT ht)) (ai.cons (c_ (SA aT ht)) (ai.cons (c_ (Sn aT ht)) (ai.cons (c_ (Hr aT ht)) (ai.cons (c_ (Ef aT ht)) (ai.cons (c_ (Nw aT ht)) (ai.cons (c_ (BF aT ht)) (ai.cons (c_ (BK aT ht)) (xp aT ht))))))))))))
def LI (fr:Sd.Reply->Nat×Sd.Byt) (a:Nat) (C:Sd.Crypt):List (dI (Sm (Gh fr))):=⟨101,true,EC a⟩::PY (LIg fr C)
theorem ajf (a:Nat) (ht:Body (fr:=fr) 147 bV):ai prog (Td a) (LI fr a (ah aT)):=ai.cons ⟨HM a,λ_=>HN a⟩ (Dg (λids h=>aje h) (ae8 ht))
def Tf (k:LK) (s:Sd.Scene) (Kb:SK fr k):V->List VB->List (Sm (Gh fr))->Prop:=λv bl ch=>∃s' F' r,fK 0 v=true/\s'.c.p=s.c.p/\Kb v s' F'/\bl.take 5=cS k s' F'/\ch=.g (cB k s' F')::r
section
variable(a:Nat) (C:Sd.Crypt) (k:LK) (s:Sd.Scene) (F:bN fr (bA k s)) (Kb:SK fr k) (l code:Int)
def xm (r:List (Sm (Gh fr))) (s':Sd.Scene) (F':bN fr (bA k s')):Prop:=Tf k s Kb (.az []) (cS k s' F') (.g (cB k s' F')::r)
def itE (e:Int):Prop:=Sd.Tab.take C (pY s.c.p.bh s.c.p.aR) (dw s.c.tab) l k.pn k.pf=(dw s.c.tab,.error e)->ez k s F/\tM C [.int .i64 l,.int .i64 e] k (dv s) F λv s' F'=>xm k s Kb [] s' F'
def Zg (M:SM fr) (t':Sd.Tab) (m:Sd.bW) (id:Nat):Prop:=ez k s F/\M [.int .i64 l,.agg (cw m)] k (rH s t') F λv s' F'=>xm k s Kb [.m ⟨id,rR a⟩] s' F'
def itO (t':Sd.Tab) (m:Sd.bW):Prop:=gS a=none/\∀id:Nat,(Value.map (some id)=.map (some id)/\rR a=rR a/\gS a=none/\3<=m.kind/\m.kind<=11)/\
 cond (m.kind==3) (Zg a k s F Kb l (jn λs l m=>s.done l m.seq) t' m id) (cond (m.kind==4) (Zg a k s F Kb l (jn λs l m=>s.En C l m) t' m id) (cond (m.kind==5) (Zg a k s F Kb l (jn λs l m=>s.ask C l m) t' m id) (cond (m.kind==6) (Zg a k s F Kb l (jn λs l m=>s.offer C l m) t' m id)
 (cond (m.kind==7) (Zg a k s F Kb l (jn λs l m=>s.accept C l m) t' m id) (cond (m.kind==8) (Zg a k s F Kb l (jn λs l m=>s.fJ C l m) t' m id) (cond (m.kind==9) (Zg a k s F Kb l (jn λs l m=>s.release C l m) t' m id) (Zg a k s F Kb l (Sz C) t' m id)))))))
def Tg:Prop:=
 cond (code !=0) (ez k s F/\tM C [.int .i64 l,.int .i64 code] k (dv s) F λv s' F'=>xm k s Kb [] s' F')
 (ei k=ei k/\cond (decide (0<k.pn)&&(k.pf 0==1)) (ez k s F/\tQ C [.int .i64 l,.raw (ei k)] k (dv s) F λv s' F'=>xm k s Kb [] s' F')
 (ei k=ei k/\cond (decide (0<k.pn)&&(k.pf 0==2)) (ez k s F/\xF C [.int .i64 l,.raw (ei k)] k (dv s) F λv s' F'=>xm k s Kb [] s' F')
 ((ei k=ei k/\some (aG k)=some (aG k)/\k.pn<=58/\By k.pf/\(1<=l/\l<=3)/\(0<=s.c.p.bh/\s.c.p.bh<=1000)/\(∀i,i<3->((aN (VV s)).ay i).on=true->0<=((aN (VV s)).ay i).seen.high/\((aN (VV s)).ay i).seen.high<=4294967295))/\
   itE C k s F Kb l 16/\itE C k s F Kb l 14/\itE C k s F Kb l 13/\itE C k s F Kb l 15/\∀t' m,Sd.Tab.take C (pY s.c.p.bh s.c.p.aR) (dw s.c.tab) l k.pn k.pf=(t',.ok m)->itO a C k s F Kb l t' m)))
theorem Zh:cJ (mL prog (Td a) (LI fr a C) (Km a) (ED a)) 90 56 [.ptr 2 0,.int .i64 l,.agg [.int .i64 code,.raw (ei k)]] (cS k s F) [.g (cB k s F)] (Tf k s Kb)=Tg a C k s F Kb l code:=by kernel_rfl
end
theorem Zi {w:Sd.cN} {n:Int} (h:0<=w.high/\w.high<=4294967295) (hn:0<=n/\n<=4294967295):0<=(dD w n).high/\(dD w n).high<=4294967295:=by
 unfold dD
 repeat' split
 all_goals first|exact hn|exact h
theorem Th (H:Nat->Int):By (Dm H):=by
 intro j;have hw:∀n:Int,0<=u8.wrap n/\u8.wrap n<=255:=by intro n;simp[IntKind.wrap,IntKind.bits,IntKind.signed];omega
 unfold Dm;split<;>exact hw _
theorem ae9 (n:Nat) (f:Nat->Int):By (ji n f):=by
 unfold ji;cases Nat.ble n 55
 ·exact Th _
 ·exact Th _
theorem ln:Sd.rf (ah aT):=⟨λk s n j=>by
 show 0<=dq k.1 k.2 s n j/\dq k.1 k.2 s n j<=255;unfold dq fA;exact ae9 _ _ j,λn f m h=>HI h,λw n h1 h2=>Zi h1 h2⟩
structure Zl (k:LK) (s:Sd.Scene) (l:Int):Prop where
 r:Rm s 8
 i:Sd.Inv s.c
 lo:1<=l/\l<=3
 d:∀i,i<3->(s.c.doors i).many<=9223372036854775807
 key:∀i,i<4->1<=k.kn i/\k.kn i<=64
 ke:∀i,i<4->s.c.p.k i=(k.kn i,k.kf i)
 zF:k.pn<=58/\By k.pf
def EE (C:Sd.Crypt):SM fr:=λar k s F K=>match ar with
 |[.int .i64 l,.agg [.int .i64 code,.raw vp]]=>(vp=ei k/\Zl k s l)/\∀F',K (.az []) (s.item C l code k.pn k.pf) F'
 |_=>False
theorem Zl.Fx {k:LK} {s:Sd.Scene} {l:Int} (h:Zl k s l):aeP k s l:=⟨h.r,λi hi=>⟨h.i.doors i hi,h.d i hi⟩,h.key 3 (by decide),h.ke 3 (by decide),⟨by have:=h.zF.1;omega,h.zF.2⟩,h.lo⟩
theorem Zl.prv {k:LK} {s:Sd.Scene} {l:Int} (h:Zl k s l):Y6 k s l:=⟨h.r,h.lo,h.key _ (by have:=h.lo;omega),h.ke _ (by have:=h.lo;omega),by have:=h.i.p.bh;omega,h.i.tok.holder,h.i.eW⟩
theorem Ti (C:Sd.Crypt) (s:Sd.Scene) (l:Int) (n:Nat) (f:Nat->Int) (hl:1<=l/\l<=3):
 (∃e,Sd.Tab.take C (pY s.c.p.bh s.c.p.aR) (dw s.c.tab) l n f=(dw s.c.tab,.error e)/\Sd.Tab.take C s.c.p s.c.tab l n f=(s.c.tab,.error e))\/
 (∃m E t,Sd.Tab.take C (pY s.c.p.bh s.c.p.aR) (dw s.c.tab) l n f=(E,.ok m)/\Sd.Tab.take C s.c.p s.c.tab l n f=(t,.ok m)/\rH s E=dZ s t):=by
 have Zc:(dw s.c.tab).ay (l.toNat-1)=s.c.tab.ay (l.toNat-1):=by
  have:l=1\/l=2\/l=3:=by omega
  rcases this with rfl|rfl|rfl<;>rfl
 have hb:(pY s.c.p.bh s.c.p.aR).bh=s.c.p.bh:=rfl;unfold Sd.Tab.take;rw[w9,Zc,hb];by_cases h1:s.c.tab.cZ l=false
 ·rw[if_pos h1,if_pos h1];exact .inl ⟨16,rfl,rfl⟩
 rw[if_neg h1,if_neg h1];by_cases h2:n<8\/C.opens (s.c.tab.ay (l.toNat-1)).key l n f=false
 ·rw[if_pos h2,if_pos h2];exact .inl ⟨14,rfl,rfl⟩
 rw[if_neg h2,if_neg h2];cases C.take (n-8) f with
 |none=>exact .inl ⟨13,rfl,rfl⟩
 |some m=>
  simp only;by_cases h3:m.kind=1\/m.kind=2
  ·rw[if_pos h3,if_pos h3];exact .inl ⟨13,rfl,rfl⟩
  rw[if_neg h3,if_neg h3];by_cases h4:C.kS (s.c.tab.ay (l.toNat-1)).seen m.seq=(s.c.tab.ay (l.toNat-1)).seen
  ·rw[if_pos h4,if_pos h4];exact .inl ⟨15,rfl,rfl⟩
  rw[if_neg h4,if_neg h4];refine .inr ⟨m,_,_,rfl,rfl,rI rfl (λj hj=>?_) (λj=>?_)⟩
  ·simp only[Sd.Tab.dT];split
   ·rfl
   ·have:j=0\/j=1\/j=2:=by omega
    rcases this with rfl|rfl|rfl<;>rfl
  ·simp only[Sd.Tab.dT];rw[if_neg (by omega)]
theorem Tj {C:Sd.Crypt} {b:Prop} {s s':Sd.Scene} {kd l:Int} (h:Sd.l5 C b s s' kd l):s'.c.p=s.c.p:=by
 rcases h.GN with q|⟨how,g,_⟩
 ·exact q.p
 ·exact g.p
theorem Tk {a:Nat} {k:LK} {s:Sd.Scene} {F:bN fr (bA k s)} {Kb:SK fr k} {l code:Int} (ha:gS a=none) (hq:s.c.p.queue=k.most) (hP:Zl k s l) (hK:∀F',Kb (.az []) (s.item (ah aT) l code k.pn k.pf) F'):Tg a (ah aT) k s F Kb l code:=by
 have leaf:∀(r:List (Sm (Gh fr))) (s':Sd.Scene) (F':bN fr (bA k s')),s'=s.item (ah aT) l code k.pn k.pf->s'.c.p=s.c.p->xm k s Kb r s' F':=by
  intro r s' F' e hp;subst e;exact⟨_,F',r,rfl,hp,hK F',rfl,rfl⟩
 have BW:∀e,code=0->¬(0<k.pn/\k.pf 0=1)->¬(0<k.pn/\k.pf 0=2)->itE (ah aT) k s F Kb l e:=by
  intro e hc h1 h2 he;refine⟨eY hq,w_ (hP.r.r1) λF1=>leaf _ _ F1 ?_ rfl⟩;unfold Sd.Scene.item;rw[if_neg (by simp[hc]),if_neg h1,if_neg h2];rcases Ti (ah aT) s l k.pn k.pf hP.lo with⟨e',h3,h4⟩|⟨m,E,t,h3,_,_⟩
  ·rw[h4];rw[h3]at he;have:=(Prod.mk.inj he).2;cases this;rfl
  ·rw[h3]at he;have:=(Prod.mk.inj he).2;cases this
 unfold Tg;refine aU (λe=>⟨eY hq,w_ hP.r.r1 λF1=>leaf _ _ F1 ?_ rfl⟩) (λe=>⟨rfl,aU (λe1=>⟨eY hq,fC (M:=tQ (ah aT)) ⟨⟨rfl,hP.Fx⟩,λF1=>leaf _ _ F1 ?_ ?_⟩⟩) (λe1=>⟨rfl,aU (λe2=>⟨eY hq,fC (M:=xF (ah aT)) ⟨⟨rfl,hP.prv,hP.zF.2⟩,λF1=>leaf _ _ F1 ?_ ?_⟩⟩) (λe2=>?_)⟩)⟩)
 ·unfold Sd.Scene.item;rw[if_pos (by simpa using e)]
 ·unfold Sd.Scene.item;rw[if_neg (by simpa using e),if_pos (by simpa using e1)]
 ·exact Tj (b:=False) (Sd.zx ln hP.i hP.lo)
 ·unfold Sd.Scene.item;rw[if_neg (by simpa using e),if_neg (by simpa using e1),if_pos (by simpa using e2)]
 ·exact Tj (b:=False) (Sd.zz ln hP.i hP.lo)
 ·have hc:code=0:=by simpa using e
  have n1:¬(0<k.pn/\k.pf 0=1):=by simpa using e1
  have n2:¬(0<k.pn/\k.pf 0=2):=by simpa using e2
  refine⟨⟨rfl,rfl,hP.zF.1,hP.zF.2,hP.lo,by have:=hP.i.p.bh;omega,λi hi tD=>?_⟩,BW 16 hc n1 n2,BW 14 hc n1 n2,BW 13 hc n1 n2,BW 15 hc n1 n2,λt' m ht=>⟨ha,λid=>?_⟩⟩
  ·have hs:(aN (VV s)).ay i=s.c.tab.ay i:=by
    have:i=0\/i=1\/i=2:=by omega
    rcases this with rfl|rfl|rfl<;>rfl
   rw[hs]at tD⊢;have:=hP.i.tab.ay i hi tD;exact⟨this.2.2.2.2.2.1,this.2.2.2.2.2.2⟩
  ·rcases Ti (ah aT) s l k.pn k.pf hP.lo with⟨e',h3,h4⟩|⟨m',E,t,h3,h4,h5⟩
   ·rw[h3]at ht;have:=(Prod.mk.inj ht).2;cases this
   ·rw[h3]at ht;obtain⟨rfl,hm⟩:=Prod.mk.inj ht;cases hm;obtain⟨g1,g2,g3,g4,g5⟩:=Sd.JO ln h4;have hkd:=g2.kind;have abM:=hP.i.p.bh;have g1':s.c.tab.on l=true:=by rw[Sd.A5 hP.lo];exact g1
    have tD:(s.c.tab.ay (l.toNat-1)).on=true:=by unfold Sd.Tab.cZ at g1;simp at g1;exact g1.2
    have i1:Sd.Inv (dZ s t).c:=by
     have:=hP.i.dT (i:=l.toNat-1) (x:={(s.c.tab.ay (l.toNat-1))with seen:=(ah aT).kS (s.c.tab.ay (l.toNat-1)).seen m.seq,on:=true,aH:=.start s.c.p.bh}) rfl
      (by
       have:=hP.i.tab.ay (l.toNat-1) (by have:=hP.lo;omega) tD;have h9:=ln.kS (s.c.tab.ay (l.toNat-1)).seen m.seq ⟨by omega,by omega⟩ g2.seq;simp[Sd.Timer.start];omega)
     rw[<-g5]at this;exact this
    have hS:Sy (dZ s t) l m:=⟨hP.r,i1,g2.seq,hP.lo.1,hP.lo.2⟩;have ae_:(dZ s t).c.tab.on l=true:=by
     show t.on l=true;rw[g5];exact Sd.l7 g1' rfl
    have RI:s.item (ah aT) l code k.pn k.pf=(dZ s t).u9 (ah aT) l m:=by
     unfold Sd.Scene.item;rw[if_neg (by simp[hc]),if_neg n1,if_neg n2,h4];rfl
    have ajg:((dZ s t).u9 (ah aT) l m).c.p=s.c.p:=(Tj (C:=ah aT) (b:=False) (Sd.JQ i1 hP.lo g2 ae_ g3 g4)).trans rfl;have go:∀(act:Sd.Scene->Int->Sd.bW->Sd.Scene),act (dZ s t) l m=(dZ s t).u9 (ah aT) l m->Zg a k s F Kb l (jn act) E m id:=by
     intro act Tl;refine⟨eY hq,rA (M:=λs' F'=>jn act [.int .i64 l,.agg (cw m)] k s' F' λv s' F'=>xm k s Kb [.m ⟨id,rR a⟩] s' F') h5 F ?_⟩;exact⟨hS,λF1=>leaf _ _ F1 (by rw[RI,Tl]) (by rw[Tl];exact ajg)⟩
    refine⟨⟨rfl,rfl,ha,by omega,by omega⟩,?_⟩;have sy:∀j:Int,m.kind=j->(dZ s t).u9 (ah aT) l m=(dZ s t).u9 (ah aT) l m:=λ_ _=>rfl;refine aU (λe=>go _ ?_) (λx3=>aU (λe=>go _ ?_) (λx4=>aU (λe=>go _ ?_) (λx5=>aU (λe=>go _ ?_) (λx6=>aU (λe=>go _ ?_) (λx7=>aU (λe=>go _ ?_) (λx8=>aU (λe=>go _ ?_) (λx9=>?_)))))))
    ·unfold Sd.Scene.u9;rw[if_pos (by simpa using e)]
    ·unfold Sd.Scene.u9;rw[if_neg (by simpa using x3),if_pos (by simpa using e)]
    ·unfold Sd.Scene.u9;rw[if_neg (by simpa using x3),if_neg (by simpa using x4),if_pos (by simpa using e)]
    ·unfold Sd.Scene.u9;rw[if_neg (by simpa using x3),if_neg (by simpa using x4),if_neg (by simpa using x5),if_pos (by simpa using e)]
    ·unfold Sd.Scene.u9;rw[if_neg (by simpa using x3),if_neg (by simpa using x4),if_neg (by simpa using x5),if_neg (by simpa using x6),if_pos (by simpa using e)]
    ·unfold Sd.Scene.u9;rw[if_neg (by simpa using x3),if_neg (by simpa using x4),if_neg (by simpa using x5),if_neg (by simpa using x6),if_neg (by simpa using x7),if_pos (by simpa using e)]
    ·unfold Sd.Scene.u9;rw[if_neg (by simpa using x3),if_neg (by simpa using x4),if_neg (by simpa using x5),if_neg (by simpa using x6),if_neg (by simpa using x7),if_neg (by simpa using x8),if_pos (by simpa using e)]
    ·have h10:m.kind=10\/m.kind=11:=by simp at x3 x4 x5 x6 x7 x8 x9;omega
     have Tl:(dZ s t).command (ah aT) l m=(dZ s t).u9 (ah aT) l m:=by
      unfold Sd.Scene.u9;rw[if_neg (by simpa using x3),if_neg (by simpa using x4),if_neg (by simpa using x5),if_neg (by simpa using x6),if_neg (by simpa using x7),if_neg (by simpa using x8),if_neg (by simpa using x9),if_pos h10]
     refine⟨eY hq,rA (M:=λs' F'=>Sz (ah aT) [.int .i64 l,.agg (cw m)] k s' F' λv s' F'=>xm k s Kb [.m ⟨id,rR a⟩] s' F') h5 F ?_⟩;exact⟨⟨hS,h10⟩,λF1=>leaf _ _ F1 (by rw[RI,Tl]) (by rw[Tl];exact ajg)⟩
theorem NL (ht:Body (fr:=fr) 147 bV):Body (fr:=fr) 56 (EE (ah aT)):=by
 intro ar k s F Kb a b c R ms w0 w h0 hq hM S;unfold EE at hM;split at hM
 ·rename_i l code vp;obtain⟨⟨rfl,hP⟩,hK⟩:=hM;have aml:a_ a b c=[1,0,a,b,c]:=rfl;have ha:gS a=none:=by
   have h1:(lits (a_ a b c) (a_ a b c) (cS k s F)++(F.B++R))[0]?=some (aE (a_ a b c) 1 (aG k)):=rfl;have h2:(lits (a_ a b c) (a_ a b c) (cS k s F)++(F.B++R))[1]?=some (aE (a_ a b c) 0 (iA k)):=rfl;have h3:(lits (a_ a b c) (a_ a b c) (cS k s F)++(F.B++R))[2]?=some (aE (a_ a b c) a (w7 3 F)):=rfl;have n0:a≠1:=S.apart 2 0 _ _ h3 h1 (by decide) rfl;have n2:a≠0:=S.apart 2 1 _ _ h3 h2 (by decide) rfl;unfold gS;split
   ·exact absurd rfl n0
   ·exact absurd rfl n2
   ·rfl
  have hg:Gl (Td a) (a_ a b c):=by
   intro g i iX;unfold Td at iX;split at iX
   ·rename_i j hj;obtain rfl:=Option.some.inj iX;have:=aja a b c [] g j hj;simpa using this
   ·cases hb:Nat.beq g a with
    |false=>rw[hb]at iX;cases iX
    |true=>
     rw[hb]at iX;obtain rfl:=Option.some.inj iX;obtain rfl:=Nat.eq_of_beq_eq_true hb;exact⟨by simp[aml],rfl⟩
  have S1:St ms w0 (lits (a_ a b c) (a_ a b c) (cS k s F)++af [(.g (cB k s F):Sm (Gh fr))] R) w:=S;have hL:=ajf (fr:=fr) a ht;refine(bw (G:=Sm (Gh fr)) hL.T hL.Q 90 (C:=mL prog (Td a) (LI fr a (ah aT)) (Km a) (ED a)) (f:=56) (args:=[.ptr 2 0,.int .i64 l,.agg [.int .i64 code,.raw (ei k)]]) (K:=Tf k s Kb) hg rfl S1 (by
   rw[Zh];exact Tk ha hq hP hK)).mono ?_
  rintro v w' ⟨x,more,bl',ch',rfl,h1,S',s',F',r,hv,hp,hK',hb,rfl⟩;have ev:den (a_ a b c++more) x=den [] x:=by have:=bC (ids:=[]) (more:=a_ a b c++more) x hv;simpa using this
  refine⟨x,s',F',ev,hv,hp,hK',?_⟩;have gz:bl'=cS k s' F'++bl'.drop 5:=by rw[<-hb,List.take_append_drop]
  rw[gz]at S';have e2:lits (a_ a b c++more) (a_ a b c++more) (cS k s' F'++bl'.drop 5)=lits (a_ a b c) (a_ a b c) (cS k s' F')++lits (a_ a b c++more) more (bl'.drop 5):=by
   rw[aI _ _ _ _ rfl,aJ (ids:=a_ a b c) (more:=more) (a_ a b c) (cS k s' F') rfl]
  rw[e2]at S';have e3:af (.g (cB k s' F')::r:List (Sm (Gh fr))) R=F'.B++af r R:=rfl;rw[e3,aW R r]at S';refine S'.sub ?_;rw[List.append_assoc];refine List.Sublist.append_left ?_ _;refine List.Sublist.trans ?_ (List.sublist_append_right _ _);exact List.Sublist.append_left (List.sublist_append_right _ _) _
 ·exact hM.elim
end Go.Proofs.YtggfpcggakghnaaGreatDoor
namespace Go.Proofs.YtggfpcggakghnaaGreatDoor
open Go Go.RowKit Go.BigFrame Sx Vx
variable{fr:Sd.Reply->Nat×Sd.Byt}
structure me (c:Sd.Core):Prop where
 p:Sd.cK c.p
 t:TB c.t
 o1:dy c.t.oa.n
 o2:dy c.t.oa.most
 l1:dy c.t.la.n
 l2:dy c.t.la.most
 VS:c.t.offer<=4
 q:∀a∈c.q,N4 a.source/\dy a.gU.n/\dy a.gU.most
 pt:PtB c.pt
theorem b0:dy 0:=⟨by decide,by decide⟩
theorem abO {n m:Int} (h1:dy n) (h2:dy m):dy (Sd.sat n m):=by
 obtain⟨a,b⟩:=h1;obtain⟨c,d⟩:=h2;unfold Sd.sat;split
 ·exact⟨by omega,by omega⟩
 ·exact⟨c,d⟩
theorem me.tok {c:Sd.Core} (h:me c) {t:Sd.Tok} (ht:TB t) (o1:dy t.oa.n) (o2:dy t.oa.most) (VS:t.offer<=4) (hl:t.la=c.t.la):me {c with t:=t}:=⟨h.p,ht,o1,o2,hl▸h.l1,hl▸h.l2,VS,h.q,h.pt⟩
theorem me.drop {c:Sd.Core} (h:me c) (l:Int):me {c with t:=(c.t.drop l).1}:=by
 unfold Sd.Tok.drop;split
 ·exact h
 ·exact h.tok ⟨h.t.h,h.t.e⟩ b0 b0 (by simp[Sd.Tok.bG]) rfl
theorem me.tick {c:Sd.Core} (h:me c):me {c with t:=c.t.tick.1}/\c.t.tick.2<=4:=by
 unfold Sd.Tok.tick;split
 ·exact⟨h,by simp⟩
 ·split
  ·exact⟨h.tok ⟨h.t.h,h.t.e⟩ b0 b0 (by simp[Sd.Tok.bG]) rfl,h.VS⟩
  ·exact⟨h.tok ⟨h.t.h,h.t.e⟩ (abO h.o1 h.o2) h.o2 h.VS rfl,by simp⟩
theorem me.qs {c:Sd.Core} (h:me c) {q:List Sd.Ask} (hq:∀a∈q,N4 a.source/\dy a.gU.n/\dy a.gU.most):me {c with q:=q}:=⟨h.p,h.t,h.o1,h.o2,h.l1,h.l2,h.VS,hq,h.pt⟩
theorem me.head {c:Sd.Core} (h:me c) (x:Sd.Byt):me {c with head:=x}:=⟨h.p,h.t,h.o1,h.o2,h.l1,h.l2,h.VS,h.q,h.pt⟩
theorem me.rcd {s:Sd.Scene} (h:me s.c) (C:Sd.Crypt) (a b c d e:Int):me (s.record C a b c d e).c:=h.head _
theorem me.gone {s:Sd.Scene} (h:me s.c) (l w c:Int):me (s.gone l w c).c:=by rw[gone_c];exact h
theorem me.leave {s:Sd.Scene} (h:me s.c) (C:Sd.Crypt) (l:Int):me (s.leave C l).c:=by
 have h1:me (qd s l).c:=h.qs λa ha=>h.q a (List.mem_filter.1 ha).1;rw[xg];split
 ·exact h1
 ·exact((show me (fQ (qd s l) (s.c.t.drop l).1).c from h1.drop l).gone _ _ _).rcd _ _ _ _ _ _
def zI (C:Sd.Crypt) (s:Sd.Scene) (a:Sd.Ask):Sd.Scene:=(s.gone a.source a.source 30).record C 12 a.source 0 30 0
def im (C:Sd.Crypt) (s:Sd.Scene) (x:Int):Sd.Scene:=if Sd.linked x then(s.record C 5 x 0 0 0).leave C x else s.record C 5 x 0 0 0
def NM (C:Sd.Crypt) (s:Sd.Scene):Sd.Scene:=if 0<=s.c.t.tick.2 then((fQ s s.c.t.tick.1).gone s.c.t.tick.1.holder s.c.t.tick.2 30).record C 12 s.c.t.tick.2 0 30 0 else fQ s s.c.t.tick.1
section
variable{tk:Nat->Sd.Byt->Option Sd.bW} {k:LK} {s0:Sd.Scene} {Kb:SK fr k}
theorem me.im {s:Sd.Scene} (h:me s.c) (C:Sd.Crypt) (x:Int):me (im C s x).c:=by
 unfold Go.Proofs.YtggfpcggakghnaaGreatDoor.im;split
 ·exact(h.rcd C _ _ _ _ _).leave C x
 ·exact h.rcd C _ _ _ _ _
theorem Rm.im {C:Sd.Crypt} {s:Sd.Scene} {x:Int} {n:Nat} (h:Rm s (n+3)):Rm (im C s x) n:=by
 unfold Go.Proofs.YtggfpcggakghnaaGreatDoor.im;have h1:Rm (s.record C 5 x 0 0 0) (n+2):=Rm.rec h;split
 ·exact h1.leave
 ·exact h1.le (by omega)
end
def Hi (s:Sd.Scene):Prop:=∀j,(s.c.tab.ay (j+3)).on=false
def Kq (C:Sd.Crypt) (s:Sd.Scene):Sd.Scene:=NM C (s.c.tab.ended.foldl (im C) (dZ s s.c.tab.tick))
theorem vA (C:Sd.Crypt) (s:Sd.Scene):s.tick C=pT (((Sd.Q.gone (Kq C s).c.q).foldl (zI C) (bH (Kq C s) (Sd.Q.kept (Kq C s).c.q))).cY C):=by kernel_rfl
structure TkP (s:Sd.Scene):Prop where
 c:me s.c
 r:Rm s 28
 h:Hi s
 b:TB3 s.c.tab
def cC:Value:=.slice none 0 0
def fV (k:LK) (s:Sd.Scene):List VB:=[aG k,iA k,ew k 3 s,gP s]
def Ts (k:LK) (s:Sd.Scene) (F:bN fr (bA k s)):Prop:=cC=F.vs/\cC=F.vr/\some (aG k)=some (aG k)/\some (iA k)=some (iA k)/\Cz k 3 s=Cz k 3 (dv s)/\s.c.p.bh=s.c.p.bh/\s.c.p.aR=s.c.p.aR/\s.c.p.queue=k.most
def EI (s:Sd.Scene) (vs vr:Value):List V:=[.int .i64 s.c.mode,.int .i64 s.c.pt.cls,.int .i64 s.c.pt.now.a,.int .i64 s.c.pt.now.b,.int .i64 s.c.pt.now.c,.int .i64 s.c.pt.now.d,.int .i64 s.c.bj.mD,.int .i64 s.c.bj.source,.int .i64 s.c.bj.seq,
 .int .i64 s.c.pt.cX.mD,.int .i64 s.c.pt.cX.source,.int .i64 s.c.pt.cX.seq,.raw vs,.raw vr,.dC .u8 32 s.c.head]
def uz (k:LK) (s:Sd.Scene) (Kb:(s':Sd.Scene)->bN fr (bA k s')->Prop):VK (Gh fr):=λv bl ch=>∃(s':Sd.Scene) (F':bN fr (bA k s')),v=.agg (EI s' F'.vs F'.vr)/\bl.take 4=fV k s'/\ch=[cB k s' F']/\Kb s' F'
def LCi (fr:Sd.Reply->Nat×Sd.Byt) (C:Sd.Crypt):List (dI (Gh fr)):=[⟨56,false,pP (EE C)⟩]
theorem Kn (ht:Body (fr:=fr) 147 bV):ai prog gS (LCi fr (ah aT)):=ai.cons (c_ (NL ht)) ai.nil
section
variable(C:Sd.Crypt) (k:LK) (s:Sd.Scene) (F:bN fr (bA k s)) (Kb:(s':Sd.Scene)->bN fr (bA k s')->Prop)
def lfC (s':Sd.Scene) (F':bN fr (bA k s')):Prop:=uz k s Kb (.agg (EI s' F'.vs F'.vr)) (fV k s') [cB k s' F']
def ajh (l code:Int):Prop:=
 let no:Prop:=uz k s Kb (.agg (EI s cC cC)) (fV k s) [cB k s F]
 cond (decide (l>=1)) (cond (decide (l<=3)) (Ts k s F/\EE C [.int .i64 l,.agg [.int .i64 code,.raw (ei k)]] k (dv s) F λv s' F'=>lfC k s Kb s' F') no) no
theorem Tu (l code:Int):cJ (dR prog gS (LCi fr C)) 60 24 [.ptr 2 0,.int .i64 l,.agg [.int .i64 code,.raw (ei k)]] (fV k s) [cB k s F] (uz k s Kb)=ajh C k s F Kb l code:=by kernel_rfl
end
def oW (s:Sd.Scene) (qv:V):List V:=[.int .i64 s.c.t.holder,.int .i64 s.c.t.epoch,.int .i64 s.c.t.offer,.int .i64 s.c.mode]++(oF s.c.bj++(rK s.c.pt++(qv::([.bool ((dw s.c.tab).on 0),.bool ((dw s.c.tab).on 1),.bool ((dw s.c.tab).on 2),.bool ((dw s.c.tab).on 3),.bool ((dw s.c.tab).on 4)]++
 [.int .i64 ((dw s.c.tab).role 0),.int .i64 ((dw s.c.tab).role 1),.int .i64 ((dw s.c.tab).role 2),.int .i64 ((dw s.c.tab).role 3),.int .i64 ((dw s.c.tab).role 4),.bool s.c.t.bad]))))
def xJ:List Sd.Ask->List V
 |[]=>[]
 |a::l=>.int .i64 a.source::xJ l
def HT (l:List Sd.Ask) (u:List Value):VB:=⟨true,⟨3,(0,0)⟩,xJ l++[.rest u]⟩
def ZD:Nat->Nat->Prop->Prop
 |0,_,q=>q
 |n+1,j,q=>True/\(0<=(j:Int)/\(j:Int)<(5:Nat))/\True/\True/\ZD n (j+1) q
section
variable(C:Sd.Crypt) (k:LK) (s:Sd.Scene) (F:bN fr (bA k s)) (K:VK (Gh fr))
def amm:Prop:=ZD 5 0 (K (.agg (oW s (.raw cC))) (fV k s) [cB k s F])
def siF (l:List Sd.Ask) (c:Nat) (u:List Value):Prop:=ZD 5 0 (K (.agg (oW s (.sl 4 0 l.length c))) (fV k s++[HT l u]) [cB k s F])
def siA (n:Nat) (l:List Sd.Ask) (P:Prop) (k:Nat->List Value->Prop):Prop:=P/\(∀(c:Nat) (u:List Value),n+1<=c->eL (xJ l++[.rest u])=c*1->k c u)/\(∀(c:Nat) (u:List Value),n+1<=c->eL (xJ l++[.rest u])=c*1->k c u)
def siN (a:Sd.Ask) (k:Nat->List Value->Prop):Prop:=∀(c:Nat) (u:List Value),0+1<=c->eL (xJ [a]++[.rest u])=c*1->k c u
def aji:Prop:=vq k=vq k/\(s.c.q=[]->∀(x:Option Addr) (c:Nat),amm k s F K)/\
 (∀a,s.c.q=[a]->∀(c:Nat) (t:List Value),siN a λc u=>siF k s F K [a] c u)/\
 (∀a b,s.c.q=[a,b]->∀(c:Nat) (t:List Value),siN a λc u=>siA 1 [a,b] (1<=c/\eL (xJ [a]++[.rest u])=c*1) λc u=>siF k s F K [a,b] c u)/\
 (∀a b d,s.c.q=[a,b,d]->∀(c:Nat) (t:List Value),siN a λc u=>siA 1 [a,b] (1<=c/\eL (xJ [a]++[.rest u])=c*1) λc u=>siA 2 [a,b,d] (2<=c/\eL (xJ [a,b]++[.rest u])=c*1) λc u=>siF k s F K [a,b,d] c u)
theorem ZE:cJ (mL prog gS (L8 fr C) (PZ prog) vf) 60 14 [.ptr 2 0] (fV k s) [cB k s F] (cP 4 K)=aji k s F K:=by kernel_rfl
end
end Go.Proofs.YtggfpcggakghnaaGreatDoor
namespace Sd
variable{C:Crypt} {b:Prop} {s:Scene} {l:Int} {m:bW}
theorem oe {X:Scene} {k a n e w:Int} (h:Quiet C b s X) (hk:k≠8) (hb:GK b ⟨k,a,n,X.c.t.epoch,e,w⟩):Quiet C b s (X.record C k a n e w):=
 h.trans (Scene.bR hk hb)
theorem Inv.ZF {c:Core} (h:Inv c) {n y:Int} (hn:0<=n/\n<=4294967295):Inv {c with samples:=n,tab:=c.tab.dU c.p,beyond:=y}:=by
 have hb:=h.p.bh;have h1:=Inv.JN (T:=c.tab) (T':=c.tab.dU c.p) h ⟨λ_=>by simp[Tab.dU,Timer.start];omega,h.tab.ay⟩
  (λa ha=>by
   have:=(h.q.each a ha).2.2.2.1;unfold Tab.on at*;split
   ·rfl
   ·rename_i h4;rw[if_neg h4]at this;split
    ·rfl
    ·rename_i h0;rw[if_neg h0]at this;exact this)
  (λho=>by
   have:c.tab.on c.t.offer=true:=by
    rcases h.tok.offer with h1|⟨_,_,_,h1,_⟩
    ·omega
    ·exact h1
   unfold Tab.on at*;split
   ·rfl
   ·rename_i h4;rw[if_neg h4]at this;split
    ·rfl
    ·rename_i h0;rw[if_neg h0]at this;exact this)
 exact⟨h1.p,h1.tok,h1.q,h1.tab,hn,h1.mode,h1.doors⟩
theorem l5.ZG {t:Scene} {c:Core} {kind link:Int} (k:l5 C b ({s with c:=c}:Scene) t kind link) (h1:c.t=s.c.t) (h2:c.q=s.c.q) (h3:c.p=s.c.p) (h4:c.head=s.c.head):l5 C b s t kind link:=by
 have q0:Quiet C b s ({s with c:=c}:Scene):=Scene.aS (by rw[h1]) (by rw[h1]) h3 h4;refine⟨k.inv,?_⟩;rcases k.GN with q|⟨how,g,w⟩
 ·exact .inl (q0.trans q)
 ·refine .inr ⟨how,q0.goes g,?_⟩;unfold oQ at*;simpa only[h1,h2,h3]using w
theorem HU {x:dS} (h:Inv s.c):l5 C b s (s.dU C x) 1 0:=by
 have e0:=h.eW;unfold Scene.dU;split
 ·exact .cD ⟨h.p,h.tok,h.q,h.tab,h.samples,h.mode,h.doors⟩ (Scene.aS rfl rfl rfl rfl)
 dsimp only;have hn:=ace h.samples.1 (m:=4294967295) (by omega) h.samples.2;have i1:=h.ZF (y:=(kS s.c.p s.c.beyond x).1) hn;have q1:Quiet C b s ({s with c:={s.c with samples:=sat s.c.samples 4294967295,tab:=s.c.tab.dU s.c.p,beyond:=(kS s.c.p s.c.beyond x).1}}:Scene):=Scene.aS rfl rfl rfl rfl;split
 ·rename_i hg;split
  ·have h2:=qZ s.c.t s.c.q 0;refine .cD (i1.head _) (oe q1 (by simp) ?_);exact⟨by simp,by simp,hn,e0,λ_=>⟨h2.1,Int.le_trans h2.2 (by decide)⟩,by simp⟩
  ·rename_i hz;obtain⟨g0,a,r,g1,g2,g3,g4,g5,g6⟩:=wP (by simpa using hz);rw[g2];refine l5.ZG (c:={s.c with samples:=sat s.c.samples 4294967295,tab:=s.c.tab.dU s.c.p,beyond:=(kS s.c.p s.c.beyond x).1}) (nr (s:=⟨_,s.sent,s.recs⟩) i1 ⟨g3,g4⟩ ⟨_,rfl⟩ g5 g6 (by simp) hn ?_) rfl rfl rfl rfl;refine .inr (.inl ⟨rfl,by simp,⟨a,r,g1,by simp[Tok.pass]⟩,?_⟩);simp;exact g0.symm
 split
 ·rename_i h0;split
  ·have h2:=pJ s.c.p s.c.t 0 0 s.c.mode {aD 11 with epoch:=s.c.t.epoch,cls:=1};refine .cD (i1.head _) (oe q1 (by simp) ?_);exact⟨by simp,by simp,hn,e0,λ_=>⟨h2.1,Int.le_trans h2.2 (by decide)⟩,by simp⟩
  ·refine .cD (Inv.head (c:={s.c with samples:=sat s.c.samples 4294967295,tab:=s.c.tab.dU s.c.p,beyond:=(kS s.c.p s.c.beyond x).1,pt:=s.c.pt.set s.c.p 1 x.x ⟨1,0,sat s.c.samples 4294967295⟩}) ⟨i1.p,i1.tok,i1.q,i1.tab,i1.samples,i1.mode,i1.doors⟩ _) (oe (q1.trans (Scene.aS rfl rfl rfl rfl)) (by simp) ?_);exact⟨by simp,by simp,hn,e0,by simp,by simp⟩
 split
 ·rename_i h0;split
  ·have h2:=lZ s.c.t 0;refine .cD (i1.head _) (oe q1 (by simp) ?_);exact⟨by simp,by simp,hn,e0,λ_=>⟨h2.1,Int.le_trans h2.2 (by decide)⟩,by simp⟩
  ·rename_i hz;obtain⟨g1,g2,g3,g4,g5⟩:=qX (by simpa using hz);rw[g1];refine⟨Inv.goes (s:=⟨_,s.sent,s.recs⟩) i1 (iP.pass h.p ⟨g2,g3⟩ (by have:=h.tok.epoch;omega)),.inr ⟨4,?_,.inr (.inr (.inr (.inl ⟨rfl,rfl,by simp[Tok.pass]⟩)))⟩⟩;exact q1.goes (Scene.k8 (by simp[Tok.pass]) (by simpa[Tok.pass]using g4) rfl (.inl ⟨g5,rfl⟩) e0.1 (by simp) hn)
 ·exact .cD i1 q1
theorem Inv.xK {c:Core} (h:Inv c) {mo:Int} (hm:0<=mo/\mo<=4) (y:Label) (pt:Point):Inv {c with mode:=mo,bj:=y,pt:=pt}:=
 ⟨h.p,h.tok,h.q,h.tab,h.samples,hm,h.doors⟩
theorem gB {mo:Int} {y:Label}:Quiet C b s (s.dH mo y):=Scene.aS rfl rfl rfl rfl
def dE (s:Scene) (a:Ask):Scene:=({s with c:={s.c with q:=Q.drop s.c.q a.source}}:Scene).gone a.source 4 29
theorem xL {a:Ask}:Quiet C b s (dE s a):=
 Quiet.trans (t:=({s with c:={s.c with q:=Q.drop s.c.q a.source}}:Scene)) (Scene.aS rfl rfl rfl rfl) (Scene.fP (Scene.jW (by omega) (by omega)))
theorem mf {a:Ask}:(dE s a).c={s.c with q:=Q.drop s.c.q a.source}:=by unfold dE;rw[Scene.gone_c]
theorem Inv.dE {a:Ask} (h:Inv s.c):Inv (Sd.dE s a).c:=by
 rw[mf];exact⟨h.p,h.tok,h.q.drop a.source (λx hx _=>(h.q.each x hx).2.2.2.2.1),h.tab,h.samples,h.mode,h.doors⟩
theorem nC (q:List Ask):∀s:Scene,Inv s.c->Inv (q.foldl dE s).c/\Quiet C b s (q.foldl dE s)/\(q.foldl dE s).c.t=s.c.t/\(q.foldl dE s).c.tab=s.c.tab/\
 (∀x∈(q.foldl dE s).c.q,x∈s.c.q/\∀a∈q,x.source≠a.source)/\∃q',(q.foldl dE s).c={s.c with q:=q'}:=by
 induction q with
 |nil=>intro s h;exact⟨h,Quiet.refl ..,rfl,rfl,λx hx=>⟨hx,by simp⟩,s.c.q,rfl⟩
 |cons a q ih=>
  intro s h;obtain⟨h1,h2,h3,h4,h5,q',h6⟩:=ih (dE s a) h.dE;rw[mf]at h3 h4 h5 h6;refine⟨h1,xL.trans h2,h3,h4,λx hx=>?_,q',h6⟩;obtain⟨h7,h8⟩:=h5 x hx;simp only[Q.drop,List.mem_filter,decide_eq_true_eq]at h7;exact⟨h7.1,λy hy=>by
   rcases List.mem_cons.1 hy with rfl|hy
   ·exact h7.2
   ·exact h8 y hy⟩
theorem zL (bad:Bool) (hb:bad=true):s.jg C bad=
 ((((if s.c.t.holder≠4 then(s.bb {s.c.t with bad:=bad}).goes C ({s.c.t with bad:=bad}:Tok).dO 6 0 else(s.bb {s.c.t with bad:=bad}).bb ({s.c.t with bad:=bad}:Tok).dO):Scene).c.q.foldl dE
   (if s.c.t.holder≠4 then(s.bb {s.c.t with bad:=bad}).goes C ({s.c.t with bad:=bad}:Tok).dO 6 0 else(s.bb {s.c.t with bad:=bad}).bb ({s.c.t with bad:=bad}:Tok).dO)).dH
    s.c.p.safe dV):=by
 unfold Scene.jg;rw[if_neg (by simp[hb])];dsimp only;congr 1;have:∀(q:List Ask) (s:Scene),(q.foldl dE s).c.p=s.c.p:=by
  intro q;induction q with
  |nil=>intro s;rfl
  |cons a q ih=>intro s;rw[List.foldl_cons,ih,mf]
 refine Eq.trans (congrArg Pol.safe (this _ _)) ?_;split<;>simp[Scene.bb]
theorem HV {bad:Bool} (h:Inv s.c):l5 C b s (s.jg C bad) 2 0:=by
 have e0:=h.eW;have he:=h.tok.epoch;have hh:=h.tok.holder;have i0:Inv {s.c with t:={s.c.t with bad:=bad}}:=⟨h.p,⟨h.tok.holder,h.tok.epoch,h.tok.offer,h.tok.lost⟩,h.q,h.tab,h.samples,h.mode,h.doors⟩;have q0:Quiet C b s (s.bb {s.c.t with bad:=bad}):=Scene.aS rfl rfl rfl rfl;cases bad
 ·exact .cD i0 q0
 rw[zL true rfl];split
 ·rename_i h4;have hs:sat s.c.t.epoch 65535=if s.c.t.epoch<65535 then s.c.t.epoch+1 else 65535:=rfl
  have et:({s.c.t with bad:=true}:Tok).dO=Tok.pass {s.c.t with bad:=true} 4 (sat s.c.t.epoch 65535):=by simp[Tok.dO,h4]
  rw[et];have i1:Inv ((s.bb {s.c.t with bad:=true}).goes C (Tok.pass {s.c.t with bad:=true} 4 (sat s.c.t.epoch 65535)) 6 0).c:=
   Inv.goes (s:=s.bb _) i0 (iP.pass h.p (by omega) (by show s.c.p.epoch<=_/\_;rw[hs];split<;>omega))
  obtain⟨h1,h2,h3,h5,h6,q',h7⟩:=nC (C:=C) (b:=b) ((s.bb {s.c.t with bad:=true}).goes C (Tok.pass {s.c.t with bad:=true} 4 (sat s.c.t.epoch 65535)) 6 0).c.q _ i1;refine⟨h1.xK h.p.safe _ _,.inr ⟨6,?_,?_⟩⟩
  ·refine A1.quiet (Quiet.goes q0 (Scene.k8 (by simp[Tok.pass]) (by simpa[Tok.pass,Scene.bb]using λe=>h4 e.symm) rfl ?_ e0.1 (by simp) (by simp))) (h2.trans gB) ?_
   ·show(s.c.t.epoch<65535/\sat s.c.t.epoch 65535=s.c.t.epoch+1)\/(s.c.t.epoch=65535/\sat s.c.t.epoch 65535=65535/\(6:Int)=6);rw[hs];split<;>omega
   ·show(Scene.dH _ _ _).c.t.offer=-1;simp only[Scene.dH];rw[h3];simp[Tok.pass]
  ·refine .inr (.inr (.inr (.inr (.inr ⟨rfl,?_,.inl ⟨rfl,?_⟩⟩))))
   ·simp only[Scene.dH];rw[h3];simp[Tok.pass]
   ·simp only[Scene.dH];rw[h3];simp[Tok.pass]
 ·rename_i h4;have h4':s.c.t.holder=4:=by simpa using h4
  have et:({s.c.t with bad:=true}:Tok).dO=Tok.pass {s.c.t with bad:=true} 4 s.c.t.epoch:=by simp[Tok.dO,h4']
  rw[et];have i1:Inv ((s.bb {s.c.t with bad:=true}).bb (Tok.pass {s.c.t with bad:=true} 4 s.c.t.epoch)).c:=
   ⟨h.p,iP.pass h.p (by omega) he,⟨λa ha=>by have:=h.q.each a ha;simpa[Tok.pass,Scene.bb,h4']using this,h.q.sorted,h.q.len⟩,h.tab,h.samples,h.mode,h.doors⟩
  obtain⟨h1,h2,h3,h5,h6,q',h7⟩:=nC (C:=C) (b:=b) ((s.bb {s.c.t with bad:=true}).bb (Tok.pass {s.c.t with bad:=true} 4 s.c.t.epoch)).c.q _ i1;refine .cD (h1.xK h.p.safe _ _) ?_;exact Quiet.trans (Quiet.trans (t:=(s.bb {s.c.t with bad:=true}).bb (Tok.pass {s.c.t with bad:=true} 4 s.c.t.epoch)) (Scene.aS (by simp[Tok.pass,h4']) rfl rfl rfl) h2) gB
def h_ (C:Crypt) (s:Scene) (x:Int):Scene:=let s:=s.record C 5 x 0 0 0;if linked x then s.leave C x else s
def BX (q:List Ask) (xs:List Int):List Ask:=xs.foldl (λq x=>if linked x then Q.drop q x else q) q
def lq (t:Tok) (xs:List Int):Tok:=xs.foldl (λt x=>if linked x then(t.drop x).1 else t) t
theorem EJ (C:Crypt) (s:Scene) (x:Int):∃hd,(h_ C s x).c={s.c with q:=BX s.c.q [x],t:=lq s.c.t [x],head:=hd}:=by
 unfold h_ BX lq;simp only[List.foldl_cons,List.foldl_nil];split
 ·obtain⟨hd,e⟩:=A4 C (s.record C 5 x 0 0 0) x;exact⟨hd,by rw[e];rfl⟩
 ·exact⟨_,rfl⟩
theorem BY {x:Int} (hx:0<=x/\x<=3) (he:0<=s.c.t.epoch/\s.c.t.epoch<=65535):Quiet C b s (h_ C s x):=by
 unfold h_;have q1:Quiet C b s (s.record C 5 x 0 0 0):=Scene.bR (by simp) ⟨by simp,by simp;omega,by simp,he,by simp,by simp⟩;dsimp only;split
 ·rename_i h;simp[linked]at h;exact q1.trans (uo (by omega) he)
 ·exact q1
theorem Inv.h_ {T:Tab} {x:Int} (hx:0<=x/\x<=3) (h:Inv {s.c with tab:=T}):Inv {(Sd.h_ C s x).c with tab:=T}:=by
 unfold Sd.h_;dsimp only;split
 ·rcases Inv.leave (C:=C) (s:=s.record C 5 x 0 0 0) (T:=T) (x:=x) (h.head _)with⟨h1,_⟩|h1
  ·exact h1
  ·omega
 ·exact h.head _
theorem xM (xs:List Int):∀t:Tok,(lq t xs).holder=t.holder/\(lq t xs).epoch=t.epoch/\(lq t xs).la=t.la/\(lq t xs).bad=t.bad/\
 (((lq t xs)=t/\∀x∈xs,linked x=true->t.offer≠x)\/(lq t xs=t.bG/\t.offer∈xs)\/t.offer=-1/\lq t xs=t):=by
 induction xs with
 |nil=>intro t;exact⟨rfl,rfl,rfl,rfl,.inl ⟨rfl,by simp⟩⟩
 |cons x xs ih=>
  intro t;unfold lq;simp only[List.foldl_cons];by_cases hl:linked x=true
  ·simp only[hl,if_true];have hd:=q_ t x;obtain⟨h1,h2,h3,h4,h5⟩:=ih (t.drop x).1;unfold lq at h1 h2 h3 h4 h5;refine⟨h1.trans hd.1,h2.trans hd.2.1,h3.trans hd.2.2.1,h4.trans hd.2.2.2.1,?_⟩;have hx:1<=x:=by simp[linked]at hl;exact hl.1
   rcases hd.2.2.2.2 with⟨e,_,e2⟩|⟨e,_,e2⟩
   ·rw[e]at h5⊢;rcases h5 with⟨h5,h6⟩|⟨h5,h6⟩|⟨h5,h6⟩
    ·refine .inl ⟨h5,λy hy hyl=>?_⟩;rcases List.mem_cons.1 hy with rfl|hy
     ·omega
     ·exact h6 y hy hyl
    ·exact .inr (.inl ⟨h5,by simp[h6]⟩)
    ·exact .inr (.inr ⟨h5,h6⟩)
   ·rw[e]at h5⊢;refine .inr (.inl ⟨?_,by simp[e2]⟩);rcases h5 with⟨h5,h6⟩|⟨h5,h6⟩|⟨h5,h6⟩
    ·exact h5
    ·rw[h5];rfl
    ·exact h6
  ·simp only[hl];obtain⟨h1,h2,h3,h4,h5⟩:=ih t;unfold lq at h1 h2 h3 h4 h5;refine⟨h1,h2,h3,h4,?_⟩;rcases h5 with⟨h5,h6⟩|⟨h5,h6⟩|⟨h5,h6⟩
   ·refine .inl ⟨h5,λy hy hyl=>?_⟩;rcases List.mem_cons.1 hy with rfl|hy
    ·exact absurd hyl hl
    ·exact h6 y hy hyl
   ·exact .inr (.inl ⟨h5,by simp[h6]⟩)
   ·exact .inr (.inr ⟨h5,h6⟩)
theorem Tv (xs:List Int):∀(q:List Ask) (a:Ask),a∈BX q xs↔a∈q/\∀x∈xs,linked x=true->a.source≠x:=by
 induction xs with
 |nil=>intro q a;simp[BX]
 |cons x xs ih=>
  intro q a;have:=ih (if linked x then Q.drop q x else q) a;unfold BX at*;simp only[List.foldl_cons];rw[this];by_cases hl:linked x=true
  ·simp[hl,Q.drop,and_assoc]
  ·simp[hl]
theorem NO (xs:List Int):∀(s:Scene) (T:Tab),(∀x∈xs,0<=x/\x<=3)->Inv {s.c with tab:=T}->
 Inv {(xs.foldl (h_ C) s).c with tab:=T}/\Quiet C b s (xs.foldl (h_ C) s)/\∃hd,(xs.foldl (h_ C) s).c={s.c with q:=BX s.c.q xs,t:=lq s.c.t xs,head:=hd}:=by
 induction xs with
 |nil=>intro s T _ h;exact⟨h,Quiet.refl ..,s.c.head,rfl⟩
 |cons x xs ih=>
  intro s T hx h;have SF:=hx x (by simp);have e0:0<=s.c.t.epoch/\s.c.t.epoch<=65535:=Inv.eW (c:={s.c with tab:=T}) h;obtain⟨h1,h2,hd,h3⟩:=ih (h_ C s x) T (λy hy=>hx y (by simp[hy])) (h.h_ SF);obtain⟨Zm,h4⟩:=EJ C s x;refine⟨h1,(BY SF e0).trans h2,hd,?_⟩;simp only[List.foldl_cons];rw[h3,h4];rfl
theorem og {t:Timer} {m:Int} (h:t.most=m/\0<=t.n/\t.n<m):t.step=⟨t.n+1,m⟩/\(t.step.due=true↔t.n+1=m):=by
 obtain⟨h1,h2,h3⟩:=h;have:t.step=⟨t.n+1,m⟩:=by unfold Timer.step sat;rw[if_pos (by omega),h1]
 rw[this];refine⟨rfl,?_⟩;simp[Timer.due];omega
theorem HW {p:Pol} {t:Tab} (hp:cK p) (h:zb p t):zb p t.tick:=by
 have hb:=hp.bh;constructor
 ·intro ho;unfold Tab.tick at*;dsimp only at*;split at ho
  ·rename_i h1;rw[if_pos h1];obtain⟨h2,h3⟩:=og (h.aA h1);split at ho
   ·cases ho
   ·rename_i h4;rw[if_neg h4,h2];have:=h.aA h1;simp at h4;have:t.aA.2.n+1≠p.bh:=λe=>by rw[h3.2 e]at h4;cases h4
    dsimp only;omega
  ·rename_i h1;exact absurd ho h1
 ·intro i hi ho;unfold Tab.tick at*;dsimp only at*;split at ho
  ·rename_i h1;rw[if_pos h1];have h0:=h.ay i hi h1;obtain⟨h2,h3⟩:=og (m:=p.bh) ⟨h0.1,h0.2.1,h0.2.2.1⟩;split at ho
   ·cases ho
   ·rename_i h4;rw[if_neg h4];dsimp only;rw[h2];simp at h4;have:(t.ay i).aH.n+1≠p.bh:=λe=>by rw[h3.2 e]at h4;cases h4
    dsimp only;omega
  ·rename_i h1;exact absurd ho h1
theorem NP {t:Tab} {x:Int} (h:x∈t.ended):0<=x/\x<=3:=by
 unfold Tab.ended at h;simp only[List.mem_append]at h;rcases h with((h|h)|h)|h<;>split at h<;>simp at h<;>omega
theorem Ks {t:Tab} {x:Int} (hx:1<=x/\x<=3) (h:t.on x=true) (hn:x∉t.ended):t.tick.on x=true:=by
 have e:x=1\/x=2\/x=3:=by omega
 rw[A5 hx]at*;unfold Tab.cZ Tab.tick at*;rcases e with rfl|rfl|rfl<;>simp[Tab.ended,Tab.dG]at*<;>simp[h]<;>simp[h]at hn<;>simp[hn,h]
theorem Tw {q:List Ask} {a:Ask} (h:a∈Q.kept q):∃x∈q,a={x with gU:=x.gU.step}/\a.gU.due=false:=by
 unfold Q.kept Q.qx at h;simp only[List.mem_filter,List.mem_map]at h;obtain⟨⟨x,hx,rfl⟩,h2⟩:=h;exact⟨x,hx,rfl,by simpa using h2⟩
theorem Tx {q:List Ask} {a:Ask} (h:a∈Q.gone q):∃x∈q,a={x with gU:=x.gU.step}/\a.gU.due=true:=by
 unfold Q.gone Q.qx at h;simp only[List.mem_filter,List.mem_map]at h;obtain⟨⟨x,hx,rfl⟩,h2⟩:=h;exact⟨x,hx,rfl,by simpa using h2⟩
theorem LN.kept {p:Pol} {t:Tab} {h:Int} {q:List Ask} (k:LN p t h q):LN p t h (Q.kept q) where
 each:=by
  intro a ha;obtain⟨x,hx,rfl,hd⟩:=Tw ha;obtain⟨a1,a2,a3,a4,a5,a6,a7,a8⟩:=k.each x hx;obtain⟨e1,e2⟩:=og ⟨a6,a7,a8⟩;refine⟨a1,a2,a3,a4,a5,by dsimp only;rw[e1],by dsimp only;rw[e1];dsimp only;omega,?_⟩;dsimp only at*;rw[e1];have:x.gU.n+1≠p.ask:=λe=>by rw[e2.2 e]at hd;cases hd
  dsimp only;omega
 sorted:=by
  unfold Q.kept Q.qx;refine List.Pairwise.filter _ ?_;rw[List.pairwise_map];exact k.sorted
 len:=by
  have:=List.length_filter_le (λa:Ask=>!a.gU.due) (Q.qx q);have h2:=k.len;unfold Q.kept;simp only[Q.qx,List.length_map]at*;omega
def kA (C:Crypt) (s:Scene) (a:Ask):Scene:=(s.gone a.source a.source 30).record C 12 a.source 0 30 0
theorem HX (q:List Ask):∀s:Scene,(∀a∈q,1<=a.source/\a.source<=3)->0<=s.c.t.epoch/\s.c.t.epoch<=65535->
 Quiet C b s (q.foldl (kA C) s)/\∃hd,(q.foldl (kA C) s).c={s.c with head:=hd}:=by
 induction q with
 |nil=>intro s _ _;exact⟨Quiet.refl ..,s.c.head,rfl⟩
 |cons a q ih=>
  intro s hq he;have ha:=hq a (by simp);have e1:(kA C s a).c={s.c with head:=C.next s.c.head ⟨12,a.source,0,s.c.t.epoch,30,0⟩}:=by
   unfold kA;rw[show∀(y:Scene) (k a n e w:Int),(y.record C k a n e w).c={y.c with head:=C.next y.c.head ⟨k,a,n,y.c.t.epoch,e,w⟩}from λ_ _ _ _ _ _=>rfl,Scene.gone_c]
  have q1:Quiet C b s (kA C s a):=by
   refine Quiet.trans (Scene.fP (Scene.jW (by omega) (by omega))) (Scene.bR (by simp) ?_);refine⟨by simp,by dsimp only;omega,by simp,?_,by simp,by simp⟩;dsimp only;rw[Scene.hear_c];exact he
  obtain⟨h1,hd,h2⟩:=ih (kA C s a) (λx hx=>hq x (by simp[hx])) (by rw[e1];exact he);refine⟨q1.trans h1,hd,?_⟩;simp only[List.foldl_cons];rw[h2,e1]
theorem Tz {p:Pol} {tab:Tab} {t:Tok} (h:iP p tab t):t.tick.1.holder=t.holder/\t.tick.1.epoch=t.epoch/\t.tick.1.la=t.la/\t.tick.1.bad=t.bad/\
 iP p tab t.tick.1/\((t.tick.2=-1/\t.tick.1.offer=t.offer)\/(t.tick.2=t.offer/\1<=t.offer/\t.offer<=3/\t.tick.1.offer=-1)):=by
 unfold Tok.tick;rcases h.offer with ho|⟨o1,o2,o3,o4,o5,o6,o7⟩
 ·rw[if_pos (by omega)];exact⟨rfl,rfl,rfl,rfl,h,.inl ⟨rfl,rfl⟩⟩
 ·rw[if_neg (by omega)];obtain⟨e1,e2⟩:=og ⟨o5,o6,o7⟩;split
  ·exact⟨rfl,rfl,rfl,rfl,⟨h.holder,h.epoch,.inl rfl,h.lost⟩,.inr ⟨rfl,o1,o2,rfl⟩⟩
  ·rename_i hd;refine⟨rfl,rfl,rfl,rfl,⟨h.holder,h.epoch,.inr ⟨o1,o2,o3,o4,?_⟩,h.lost⟩,.inl ⟨rfl,rfl⟩⟩;have:t.oa.n+1≠p.offer:=λe=>hd (e2.2 e);dsimp only;rw[e1];dsimp only;omega
inductive EK (p:Pol) (t:Tok) (q:List Ask) (there:Bool):Tok->Int->List Ask->Prop
 |here (h:t.holder=4\/there=true):EK p t q there {t with la:=.zero} 0 q
 |ajj (la:Timer) (h1:t.holder≠4) (h2:there=false) (hm:la.most=p.cY) (hn:la.n=t.la.n+1) (iK:la.n<p.cY):EK p t q there {t with la:=la} 0 q
 |safe (h1:t.holder≠4) (h2:there=false) (hn:t.la.n+1=p.cY) (he:t.epoch=65535):EK p t q there (t.pass 4 65535) 6 q
 |first (a:Ask) (l:List Ask) (h1:t.holder≠4) (h2:there=false) (hn:t.la.n+1=p.cY) (he:t.epoch<65535) (hq:q=a::l):EK p t q there (t.pass a.source (t.epoch+1)) 5 (Q.drop q a.source)
 |none (h1:t.holder≠4) (h2:there=false) (hn:t.la.n+1=p.cY) (he:t.epoch<65535) (hq:q=[]):EK p t q there (t.pass 4 (t.epoch+1)) 5 q
theorem NQ {p:Pol} {tab:Tab} {t:Tok} {q:List Ask} {there:Bool} (hp:cK p) (h:iP p tab t) (hq:LN p tab t.holder q):
 EK p t q there (bM p t q there).1 (bM p t q there).2.1 (bM p t q there).2.2:=by
 unfold bM;have hb:=hp.cY;split
 ·rename_i h1;exact .here h1
 rename_i h1;have Zn:t.holder≠4:=λe=>h1 (.inl e);have h1b:there=false:=by
  cases there
  ·rfl
  ·exact absurd (.inr rfl) h1
 have O7:∃la:Timer,(if t.la.most=0 then Timer.start p.cY else t.la).step=la/\la.most=p.cY/\la.n=t.la.n+1/\(la.due=true↔t.la.n+1=p.cY):=by
  rcases h.lost with⟨l1,l2⟩|⟨l1,l2,l3⟩
  ·rw[if_pos l1];obtain⟨e1,e2⟩:=og (t:=Timer.start p.cY) (m:=p.cY) (by simp[Timer.start];omega);have e0:(Timer.start p.cY).n=0:=rfl;refine⟨_,rfl,by rw[e1],by rw[e1,e0,l2],?_⟩;rw[e2,e0,l2]
  ·rw[if_neg (by omega)];obtain⟨e1,e2⟩:=og ⟨l1,l2,l3⟩;exact⟨_,rfl,by rw[e1],by rw[e1],e2⟩
 obtain⟨la,e0,e1,e2,e3⟩:=O7;simp only[e0];split
 ·rename_i hd;refine .ajj la Zn h1b e1 e2 ?_;have e_:t.la.n+1≠p.cY:=λe=>by rw[e3.2 e]at hd;cases hd
  rcases h.lost with⟨l1,l2⟩|⟨l1,l2,l3⟩<;>omega
 rename_i hd;have hn:t.la.n+1=p.cY:=e3.1 (by simpa using hd);have he:=h.epoch;split
 ·rename_i h6;have h6':t.epoch=65535:=by omega
  have:({t with la:=la}:Tok).dO=t.pass 4 65535:=by
   simp only[Tok.dO,Tok.pass];rw[if_pos Zn,h6'];rfl
  rw[this];exact .safe Zn h1b hn h6'
 rename_i h6;have iK:t.epoch<65535:=by omega
 have g4:({t with la:=la}:Tok).bz 4=(t.pass 4 (t.epoch+1),0):=by
  unfold Tok.bz;rw[if_neg (by omega),if_neg (λe=>Zn e.symm),if_neg (by dsimp only;omega)];rfl
 cases q with
 |nil=>
  have:(bg ({t with la:=la}:Tok) []).2.1≠0:=by simp[bg]
  rw[if_pos this,g4];exact .none Zn h1b hn iK rfl
 |cons a r=>
  have ha:=hq.each a (by simp);have ga:({t with la:=la}:Tok).bz a.source=(t.pass a.source (t.epoch+1),0):=by
   unfold Tok.bz;rw[if_neg (by omega),if_neg ha.2.2.2.2.1,if_neg (by dsimp only;omega)];rfl
  have e:bg ({t with la:=la}:Tok) (a::r)=(t.pass a.source (t.epoch+1),0,Q.drop (a::r) a.source):=by
   unfold bg;simp only[ga];rw[if_neg (by simp)]
  rw[e,if_neg (by simp)];exact .first a r Zn h1b hn iK rfl
theorem TA (h:Inv s.c):l5 C b s (s.cY C) 3 0/\(s.cY C).c.tab=s.c.tab/\(s.cY C).c.p=s.c.p/\
 EK s.c.p s.c.t s.c.q (s.c.tab.on s.c.t.holder) (s.cY C).c.t (bM s.c.p s.c.t s.c.q (s.c.tab.on s.c.t.holder)).2.1 (s.cY C).c.q/\
 ((bM s.c.p s.c.t s.c.q (s.c.tab.on s.c.t.holder)).2.1=5->(s.cY C).c.mode=s.c.p.lost/\(s.cY C).c.bj=⟨3,4,0⟩/\(s.cY C).c.pt=s.c.pt.hold ⟨3,4,0⟩)/\
 ((bM s.c.p s.c.t s.c.q (s.c.tab.on s.c.t.holder)).2.1=0->(s.cY C).c.mode=s.c.mode/\(s.cY C).c.bj=s.c.bj/\(s.cY C).c.pt=s.c.pt):=by
 have e0:=h.eW;have he:=h.tok.epoch;have hh:=h.tok.holder;have hb:=h.p.cY;have hL:=NQ (there:=s.c.tab.on s.c.t.holder) h.p h.tok h.q;unfold Scene.cY;dsimp only;generalize ht:(bM s.c.p s.c.t s.c.q (s.c.tab.on s.c.t.holder)).1=t at hL⊢;generalize hw:(bM s.c.p s.c.t s.c.q (s.c.tab.on s.c.t.holder)).2.1=how at hL⊢;generalize hq:(bM s.c.p s.c.t s.c.q (s.c.tab.on s.c.t.holder)).2.2=q at hL⊢;have hL':=hL;cases hL with
 |here h1=>
  rw[if_pos (by omega)];refine⟨.cD ⟨h.p,⟨h.tok.holder,h.tok.epoch,h.tok.offer,.inl ⟨rfl,rfl⟩⟩,h.q,h.tab,h.samples,h.mode,h.doors⟩ (Scene.aS rfl rfl rfl rfl),rfl,rfl,hL',by simp,λ_=>⟨rfl,rfl,rfl⟩⟩
 |ajj la h1 h2 hm hn iK=>
  rw[if_pos (by omega)];have:0<=la.n:=by rcases h.tok.lost with⟨_,l2⟩|⟨_,l2,_⟩<;>omega
  refine⟨.cD ⟨h.p,⟨h.tok.holder,h.tok.epoch,h.tok.offer,.inr ⟨hm,this,iK⟩⟩,h.q,h.tab,h.samples,h.mode,h.doors⟩ (Scene.aS rfl rfl rfl rfl),rfl,rfl,hL',by simp,λ_=>⟨rfl,rfl,rfl⟩⟩
 |safe h1 h2 hn h6=>
  rw[if_neg (by omega),if_neg (by omega)];have i1:Inv (Scene.goes C ({s with c:={s.c with q:=s.c.q}}:Scene) (s.c.t.pass 4 65535) 6 0).c:=Inv.goes (s:=s) h (iP.pass h.p (by omega) (by omega));have hd:Q.drop s.c.q 4=s.c.q:=by
   unfold Q.drop;rw[List.filter_eq_self];intro a ha;have:=(h.q.each a ha).2.2.1;simp;omega
  have Ko:(Scene.goes C ({s with c:={s.c with q:=s.c.q}}:Scene) (s.c.t.pass 4 65535) 6 0).c.q=s.c.q:=by
   rw[Scene.goes_q];exact hd
  refine⟨⟨i1.xK (by simpa using h.p.safe) _ _,.inr ⟨6,?_,?_⟩⟩,by simp[Scene.dH],by simp[Scene.dH],?_,by simp,by simp⟩
  ·refine A1.quiet (Scene.k8 (s:=s) (by simp[Tok.pass]) (by simpa[Tok.pass]using λe=>h1 e.symm) rfl (.inr ⟨h6,rfl,rfl⟩) e0.1 (by simp) (by simp)) gB ?_;simp[Scene.dH,Tok.pass]
  ·refine .inr (.inr (.inr (.inr (.inr ⟨rfl,by simp[Scene.dH,Tok.pass],.inr ⟨rfl,h6,?_⟩⟩))));simpa[Scene.dH]using h2
  ·have e1:(Scene.dH (Scene.goes C ({s with c:={s.c with q:=s.c.q}}:Scene) (s.c.t.pass 4 65535) 6 0) (Scene.goes C ({s with c:={s.c with q:=s.c.q}}:Scene) (s.c.t.pass 4 65535) 6 0).c.p.safe dV).c.t=s.c.t.pass 4 65535:=by simp[Scene.dH]
   rw[e1];have e2:(Scene.dH (Scene.goes C ({s with c:={s.c with q:=s.c.q}}:Scene) (s.c.t.pass 4 65535) 6 0) (Scene.goes C ({s with c:={s.c with q:=s.c.q}}:Scene) (s.c.t.pass 4 65535) 6 0).c.p.safe dV).c.q=s.c.q:=Ko;rw[e2];exact hL'
 |first a r h1 h2 hn iK hqa=>
  rw[if_neg (by omega),if_pos rfl];have ha:=h.q.each a (by rw[hqa];simp);obtain⟨g1,g2⟩:=nr (C:=C) (b:=b) (s:=s) (kind:=3) (link:=0) (how:=5) (n:=0) (f:=a.source) (q:=Q.drop s.c.q a.source) h (by omega) ⟨_,rfl⟩ ha.2.2.2.2.1 iK (by simp) (by simp)
   (.inr (.inr (.inr (.inr (.inl ⟨rfl,rfl,by simpa using h2,by simpa[Tok.pass]using ha.2.2.2.1⟩)))))
  have hdd:Q.drop (Q.drop s.c.q a.source) a.source=Q.drop s.c.q a.source:=by
   unfold Q.drop;rw[List.filter_filter];congr 1;funext x;simp
  have Ko:(Scene.goes C ({s with c:={s.c with q:=Q.drop s.c.q a.source}}:Scene) (s.c.t.pass a.source (s.c.t.epoch+1)) 5 0).c.q=Q.drop s.c.q a.source:=by
   rw[Scene.goes_q];exact hdd
  generalize hX:Scene.goes C ({s with c:={s.c with q:=Q.drop s.c.q a.source}}:Scene) (s.c.t.pass a.source (s.c.t.epoch+1)) 5 0=X at g1 g2 Ko;have eX:X.c.t=s.c.t.pass a.source (s.c.t.epoch+1)/\X.c.p=s.c.p/\X.c.tab=s.c.tab:=by subst hX;simp
  have ept:X.c.pt=s.c.pt:=by
   subst hX;obtain⟨x,e⟩:=Scene.wM C ({s with c:={s.c with q:=Q.drop s.c.q a.source}}:Scene) (s.c.t.pass a.source (s.c.t.epoch+1)) 5 0;rw[e]
  refine⟨⟨g1.xK (by rw[eX.2.1];exact h.p.lost) _ _,?_⟩,by simp[Scene.dH,eX],by simp[Scene.dH,eX],by simpa[Scene.dH,eX,Ko]using hL',λ_=>⟨by simp[Scene.dH,eX],rfl,by simp[Scene.dH,ept]⟩,by simp⟩;rcases g2 with g2|⟨how,g2,g3⟩
  ·exact .inl (g2.trans gB)
  ·exact .inr ⟨how,g2.quiet gB (by simp[Scene.dH,eX,Tok.pass]),by simpa[oQ,Scene.dH]using g3⟩
 |none h1 h2 hn iK hqa=>
  rw[if_neg (by omega),if_pos rfl];have hq0:s.c.q=Q.drop s.c.q 4:=by rw[hqa];rfl
  obtain⟨g1,g2⟩:=nr (C:=C) (b:=b) (s:=s) (kind:=3) (link:=0) (how:=5) (n:=0) (f:=4) (q:=s.c.q) h (by omega) ⟨4,hq0⟩ (λe=>h1 e.symm) iK (by simp) (by simp)
   (.inr (.inr (.inr (.inr (.inl ⟨rfl,rfl,by simpa using h2,by simp[Tok.pass,Tab.on]⟩)))))
  have Ko:(Scene.goes C ({s with c:={s.c with q:=s.c.q}}:Scene) (s.c.t.pass 4 (s.c.t.epoch+1)) 5 0).c.q=s.c.q:=by
   rw[Scene.goes_q];exact hq0.symm
  generalize hX:Scene.goes C ({s with c:={s.c with q:=s.c.q}}:Scene) (s.c.t.pass 4 (s.c.t.epoch+1)) 5 0=X at g1 g2 Ko;have eX:X.c.t=s.c.t.pass 4 (s.c.t.epoch+1)/\X.c.p=s.c.p/\X.c.tab=s.c.tab:=by subst hX;simp
  have ept:X.c.pt=s.c.pt:=by
   subst hX;obtain⟨x,e⟩:=Scene.wM C ({s with c:={s.c with q:=s.c.q}}:Scene) (s.c.t.pass 4 (s.c.t.epoch+1)) 5 0;rw[e]
  refine⟨⟨g1.xK (by rw[eX.2.1];exact h.p.lost) _ _,?_⟩,by simp[Scene.dH,eX],by simp[Scene.dH,eX],by simpa[Scene.dH,eX,Ko]using hL',λ_=>⟨by simp[Scene.dH,eX],rfl,by simp[Scene.dH,ept]⟩,by simp⟩;rcases g2 with g2|⟨how,g2,g3⟩
  ·exact .inl (g2.trans gB)
  ·exact .inr ⟨how,g2.quiet gB (by simp[Scene.dH,eX,Tok.pass]),by simpa[oQ,Scene.dH]using g3⟩
end Sd
