/- Part 25 of the proof. -/
import Derived.Test.YtggfpcggakghnaaGreatDoorQ24
set_option linter.all false
set_option maxRecDepth 100000
set_option maxHeartbeats 4000000
open Go.Proofs.Tryz
open Go.IntKind (u8 u16 u32 u64 i64)
namespace Go.Proofs.YtggfpcggakghnaaGreatDoor
open Go Go.RowKit Go.BigFrame Sx Vx
def K4 (l:List Int):Int:=i64.wrap (l.foldl (λs b=>bits .or .u64 (u64.wrap (s*2^8)) (u64.wrap b)) 0)
def trT (bad:Prop) (UP:List Int->Prop):List (List Int×Int×Int)->List Int->Prop
 |[],acc=>UP acc
 |(bs,lo,hi)::l,acc=>cond (decide (K4 bs<lo)) bad (cond (decide (K4 bs>hi)) bad (trT bad UP l (acc++[K4 bs])))
def xA (l:List Int) (us:List Value):List VB:=[⟨false,⟨5,(0,0)⟩,l.map (λx=>V.int .u8 x)++[.rest us]⟩]
def xI (n:Nat) (l:List Int) (us:List Value) (e:Nat) (K:VK Empty):Prop:=cJ (mL prog gv ([]:List (dI Empty)) (N3 prog) vE) 60 49 [.sl 0 0 n (e+n)] (xA l us) [] (cP 1 K)
def zG (k a b c d e:Int) (code:Int):V:=.az [.agg [.int .i64 k,.int .i64 a,.int .i64 b,.int .i64 c,.int .i64 d,.int .i64 e,.int .u8 0,.int .u8 0,.int .u8 0,.int .u8 0,.int .u8 0,.int .u8 0,.int .u8 0,.int .u8 0],.int .i64 code]
def zH (l:List Int) (us:List Value) (K:VK Empty) (fs:List (List Int×Int×Int)) (g:List Int->V):Prop:=trT (K (zG 0 0 0 0 0 0 13) (xA l us) []) (λx=>K (g x) (xA l us) []) fs []
section
variable(a b c d x:Int) (us:List Value) (e:Nat) (K:VK Empty)
theorem afH:xI 5 [131,a,b,c,d] us e K=zH [131,a,b,c,d] us K [([a,b,c,d],0,4294967295)] (λl=>zG 131 (l.getD 0 0) 0 0 0 0 0):=by kernel_rfl
theorem afI:xI 5 [130,a,b,c,d] us e K=zH [130,a,b,c,d] us K [([a],0,3),([b],0,4),([c,d],0,65535)] (λl=>zG 130 0 (l.getD 0 0) (l.getD 1 0) (l.getD 2 0) 0 0):=by kernel_rfl
theorem afJ:xI 6 [132,a,b,c,d,x] us e K=zH [132,a,b,c,d,x] us K [([a,b,c,d],0,4294967295),([x],0,255)] (λl=>zG 132 (l.getD 0 0) 0 0 0 (l.getD 1 0) 0):=by kernel_rfl
theorem afK:xI 3 [133,a,b] us e K=zH [133,a,b] us K [([a,b],0,65535)] (λl=>zG 133 0 0 0 (l.getD 0 0) 0 0):=by kernel_rfl
theorem afL:xI 4 [134,a,b,c] us e K=zH [134,a,b,c] us K [([a],0,4),([b,c],0,65535)] (λl=>zG 134 0 0 (l.getD 0 0) (l.getD 1 0) 0 0):=by kernel_rfl
theorem afM:xI 4 [135,a,b,c] us e K=zH [135,a,b,c] us K [([a],0,4),([b,c],0,65535)] (λl=>zG 135 0 0 (l.getD 0 0) (l.getD 1 0) 0 0):=by kernel_rfl
theorem afN:xI 3 [136,a,b] us e K=zH [136,a,b] us K [([a],0,4),([b],0,255)] (λl=>zG 136 0 0 (l.getD 0 0) 0 (l.getD 1 0) 0):=by kernel_rfl
end
theorem LQ {s b:Int} (hs:0<=s/\s<2^56) (hb:0<=b/\b<=255):bits .or .u64 (u64.wrap (s*2^8)) (u64.wrap b)=s*256+b:=by
 rw[show u64.wrap b=b by rw[IntKind.wrap_u64];omega];exact tF s b hs (by omega)
theorem UQ {a:Int} (ha:0<=a/\a<=255):K4 [a]=a:=by
 unfold K4;simp only[List.foldl_cons,List.foldl_nil];rw[LQ (by omega) ha,fG (by omega)];omega
theorem abT {a b:Int} (ha:0<=a/\a<=255) (hb:0<=b/\b<=255):K4 [a,b]=a*256+b:=by
 unfold K4;simp only[List.foldl_cons,List.foldl_nil];rw[LQ (by omega) ha,LQ (by omega) hb,fG (by omega)];omega
theorem abU {a b c d:Int} (ha:0<=a/\a<=255) (hb:0<=b/\b<=255) (hc:0<=c/\c<=255) (hd:0<=d/\d<=255):K4 [a,b,c,d]=((a*256+b)*256+c)*256+d:=by
 unfold K4;simp only[List.foldl_cons,List.foldl_nil];rw[LQ (by omega) ha,LQ (by omega) hb,LQ (by omega) hc,LQ (by omega) hd,fG (by omega)];omega
theorem fk (k:Nat) (x:Int) (j:Nat):0<=aq k x j/\aq k x j<=255:=by
 unfold aq;rw[IntKind.wrap_u8];omega
theorem E7 {v:Int} (h:0<=v/\v<=255):K4 [aq 1 (u64.wrap v) 0]=v:=by
 rw[UQ (fk _ _ _)];unfold aq;rw[show u64.wrap v=v by rw[IntKind.wrap_u64];omega,IntKind.wrap_u8,Int.fdiv_eq_ediv_of_nonneg _ (by decide)];show v/1%256=v;omega
theorem UR {v:Int} (h:0<=v/\v<=65535):K4 [aq 2 (u64.wrap v) 0,aq 2 (u64.wrap v) 1]=v:=by
 rw[abT (fk _ _ _) (fk _ _ _)];unfold aq;rw[show u64.wrap v=v by rw[IntKind.wrap_u64];omega,IntKind.wrap_u8,IntKind.wrap_u8,Int.fdiv_eq_ediv_of_nonneg _ (by decide),Int.fdiv_eq_ediv_of_nonneg _ (by decide)];show v/256%256*256+v/1%256=v;omega
theorem afO {v:Int} (h:0<=v/\v<=4294967295):K4 [aq 4 (u64.wrap v) 0,aq 4 (u64.wrap v) 1,aq 4 (u64.wrap v) 2,aq 4 (u64.wrap v) 3]=v:=by
 rw[abU (fk _ _ _) (fk _ _ _) (fk _ _ _) (fk _ _ _)];unfold aq;rw[show u64.wrap v=v by rw[IntKind.wrap_u64];omega];simp only[IntKind.wrap_u8];rw[Int.fdiv_eq_ediv_of_nonneg _ (by decide),Int.fdiv_eq_ediv_of_nonneg _ (by decide),Int.fdiv_eq_ediv_of_nonneg _ (by decide),Int.fdiv_eq_ediv_of_nonneg _ (by decide)];show((v/16777216%256*256+v/65536%256)*256+v/256%256)*256+v/1%256=v;omega
def trP:List (List Int×Int×Int)->List Int->Prop
 |[],[]=>True
 |(bs,lo,hi)::fs,v::vs=>(K4 bs=v/\lo<=v/\v<=hi)/\trP fs vs
 |_,_=>False
theorem mn {bad:Prop} {UP:List Int->Prop}:∀(fs:List (List Int×Int×Int)) (vs acc:List Int),trP fs vs->UP (acc++vs)->trT bad UP fs acc
 |[],[],acc,_,hg=>by
  unfold trT;simpa using hg
 |[],v::vs,acc,h,_=>h.elim
 |(bs,lo,hi)::fs,[],acc,h,_=>h.elim
 |(bs,lo,hi)::fs,v::vs,acc,h,hg=>by
  obtain⟨⟨h1,h2,h3⟩,hf⟩:=h;unfold trT;rw[h1];refine aU (λe=>?_) (λ_=>aU (λe=>?_) (λ_=>mn fs vs _ hf (by simpa using hg)))
  ·have:=of_decide_eq_true e;omega
  ·have:=of_decide_eq_true e;omega
def rpI (r:Sd.Reply):List Int:=(List.range (fL r)).map (yU r)
def iD (r:Sd.Reply):List V:=[.int .i64 r.kind,.int .i64 r.seq,.int .i64 r.role,.int .i64 r.fT,.int .i64 r.epoch,.int .i64 r.code,.int .u8 (r.ae 0),.int .u8 (r.ae 1),.int .u8 (r.ae 2),.int .u8 (r.ae 3),.int .u8 (r.ae 4),.int .u8 (r.ae 5),.int .u8 (r.ae 6),.int .u8 (r.ae 7)]
theorem mq {n:Nat} {l:List Int} {us:List Value} {e:Nat} {v0:V} (OT:fK 0 v0=true) (h:Hd (xI n l us e λv b c=>v=v0)) {w:World} {b:Nat} (ba:w.heap[b]?=some (.cells (l.map (λx=>Value.int .u8 x)++us).toArray 5 (0,0))):
 aj prog 49 #[.slice (some ⟨b,0,none⟩) n (e+n)] w λv w'=>v=den [] v0/\Ch [] w w':=by
 have hd:∀l:List Int,ab [b] (l.map (λx=>V.int .u8 x)++[.rest us])=l.map (λx=>Value.int .u8 x)++us:=by
  intro l;induction l with
  |nil=>simp only[List.map_nil,List.nil_append,ab,cl,List.append_nil]
  |cons x l ih=>simp only[List.map_cons,List.cons_append,ab,cl,den,ih,List.nil_append]
 have S:St [] w (lits [b] [b] (xA l us)++af ([]:List Empty) []) w:=by
  refine St.K2 ?_;intro y hy;simp only[xA,lits,af,List.append_nil,List.mem_cons,List.not_mem_nil,or_false]at hy;subst hy;refine⟨rfl,ba.trans ?_⟩;simp only[aE,hd]
 have hok:ai (G:=Empty) prog gv []:=ai.nil;refine(bw (C:=mL prog gv ([]:List (dI Empty)) (N3 prog) vE) hok.T hok.Q 60 (ids:=[b]) (λg i h=>by cases h) rfl S h.h).mono ?_;rintro v w' ⟨y,more,bl',ch',rfl,h1,S',hK⟩;obtain⟨v2,aP,bl2,zJ,-,S2,Mx⟩:=c9 (n0:=1) h1 (by simp) S' hK;obtain rfl:v2=v0:=Mx;refine⟨?_,S2.ch⟩;rw[zJ];have:=bC (ids:=[]) (more:=List.take 1 ([b]++more)++aP) v2 OT;simpa using this
theorem Iz (r:Sd.Reply) (h:RB r) (h9:r.kind≠129) {us:List Value} {e:Nat} {w:World} {b:Nat} (ba:w.heap[b]?=some (.cells ((rpI r).map (λx=>Value.int .u8 x)++us).toArray 5 (0,0))):
 aj prog 49 #[.slice (some ⟨b,0,none⟩) (fL r) (e+fL r)] w λv w'=>v=den [] (.az [.agg (iD r),.int .i64 0])/\Ch [] w w':=by
 have hk:r.kind=130\/r.kind=131\/r.kind=132\/r.kind=133\/r.kind=134\/r.kind=135\/r.kind=136:=by have:=h.kind;omega
 obtain⟨k,sq,ro,wh,ep,co,nc⟩:=r;obtain⟨_,⟨s1,s2⟩,⟨r1,r2⟩,⟨w1,w2⟩,⟨e1,e2⟩,⟨c1,c2⟩,⟨n1,n2⟩⟩:=h;simp only at*;rcases hk with rfl|rfl|rfl|rfl|rfl|rfl|rfl<;>simp at s2 r2 w2 e2 c2 n2<;>subst_vars
 ·exact mq (n:=5) (l:=[130,aq 1 (u64.wrap ro) 0,aq 1 (u64.wrap wh) 0,aq 2 (u64.wrap ep) 0,aq 2 (u64.wrap ep) 1]) rfl ⟨by rw[afI];exact mn _ [ro,wh,ep] [] ⟨⟨E7 (by omega),r1⟩,⟨E7 ⟨w1.1,by have:=w1.2;omega⟩,w1⟩,⟨UR e1,e1⟩,trivial⟩ rfl⟩ ba
 ·exact mq (n:=5) (l:=[131,aq 4 (u64.wrap sq) 0,aq 4 (u64.wrap sq) 1,aq 4 (u64.wrap sq) 2,aq 4 (u64.wrap sq) 3]) rfl ⟨by rw[afH];exact mn _ [sq] [] ⟨⟨afO s1,s1⟩,trivial⟩ rfl⟩ ba
 ·exact mq (n:=6) (l:=[132,aq 4 (u64.wrap sq) 0,aq 4 (u64.wrap sq) 1,aq 4 (u64.wrap sq) 2,aq 4 (u64.wrap sq) 3,aq 1 (u64.wrap co) 0]) rfl ⟨by rw[afJ];exact mn _ [sq,co] [] ⟨⟨afO s1,s1⟩,⟨E7 c1,c1⟩,trivial⟩ rfl⟩ ba
 ·exact mq (n:=3) (l:=[133,aq 2 (u64.wrap ep) 0,aq 2 (u64.wrap ep) 1]) rfl ⟨by rw[afK];exact mn _ [ep] [] ⟨⟨UR e1,e1⟩,trivial⟩ rfl⟩ ba
 ·exact mq (n:=4) (l:=[134,aq 1 (u64.wrap wh) 0,aq 2 (u64.wrap ep) 0,aq 2 (u64.wrap ep) 1]) rfl ⟨by rw[afL];exact mn _ [wh,ep] [] ⟨⟨E7 ⟨w1.1,by have:=w1.2;omega⟩,w1⟩,⟨UR e1,e1⟩,trivial⟩ rfl⟩ ba
 ·exact mq (n:=4) (l:=[135,aq 1 (u64.wrap wh) 0,aq 2 (u64.wrap ep) 0,aq 2 (u64.wrap ep) 1]) rfl ⟨by rw[afM];exact mn _ [wh,ep] [] ⟨⟨E7 ⟨w1.1,by have:=w1.2;omega⟩,w1⟩,⟨UR e1,e1⟩,trivial⟩ rfl⟩ ba
 ·exact mq (n:=3) (l:=[136,aq 1 (u64.wrap wh) 0,aq 1 (u64.wrap co) 0]) rfl ⟨by rw[afN];exact mn _ [wh,co] [] ⟨⟨E7 ⟨w1.1,by have:=w1.2;omega⟩,w1⟩,⟨E7 c1,c1⟩,trivial⟩ rfl⟩ ba
def E8 (j:Nat):List V:=[.int .i64 1,.int .i64 0,.int .i64 255,.fn 173 [] [.ptr j 0],.fn 174 [] [.ptr j 0]]
def afP (u:List Value):VB:=⟨true,⟨175,(0,0)⟩,E8 4++(E8 5++(E8 6++(E8 7++(E8 8++(E8 9++(E8 10++(E8 11++[.rest u])))))))⟩
def bxT:List VB:=(List.range 8).map λj=>⟨true,⟨220,(0,0)⟩,[.ptr 2 (6+j)]⟩
def E9:gm Empty:=λargs bl ch K=>match args,bl with
 |[.ptr 2 0],[b0,b1,⟨true,⟨40,(0,0)⟩,c⟩]=>cond (dk 3 [b0,b1]) (∃nc,c=Iv nc/\∀(k:Nat) (u:List Value),8<=k->K (.az [.sl 3 0 8 k,.bool true]) ([b0,b1]++(Cb nc::afP u::bxT)) ch) False
 |_,_=>False
theorem E_:Sound prog (λ_=>none) 76 E9:=by
 intro args ids bl ch R ms w0 w K hg hl S hc;unfold E9 at hc;split at hc
 ·rename_i b0 b1 c;cases hw:dk 3 [b0,b1]with
  |false=>rw[hw]at hc;exact hc.elim
  |true=>
   rw[hw]at hc;obtain⟨nc,rfl,hK⟩:=hc
   match ids,hl with
   |[x0,x1,r],hl3=>
    have S1:St ms w0 (lits [r] [r] [Cb nc]++([aE [x0,x1,r] x0 b0,aE [x0,x1,r] x1 b1]++af ch R)) w:=by
     have e:lits [x0,x1,r] [x0,x1,r] [b0,b1,⟨true,⟨40,(0,0)⟩,Iv nc⟩]=[aE [x0,x1,r] x0 b0,aE [x0,x1,r] x1 b1,aE [r] r (Cb nc)]:=rfl;rw[e]at S;exact S.perm (cj λf=>by simp only[lits,List.countP_append,List.countP_cons,List.countP_nil];omega)
    have hv:Mm (Zu 60 76 [.ptr 0 0] [Cb nc] (cP 1 λv b _=>∃k u,v=.az [.sl 1 0 8 k,.bool true]/\b=mI nc u/\8<=k)):=⟨by rw[UJ];exact λc u h1 h2=>Cn 7 1 c u h1 h2 λk u h _=>⟨k,u,rfl,rfl,h⟩⟩;have hr:=Co hv (ids:=[r]) rfl (by simp) S1;clear hv;refine hr.mono ?_;rintro v w' ⟨x,more,b,rfl,h1,S2,k,u,rfl,rfl,h8⟩;have hm:more.length=9:=by simpa[mI,bx9]using h1
    match more,hm with
    |[m0,m1,m2,m3,m4,m5,m6,m7,m8],_=>
     refine⟨.az [.sl 3 0 8 k,.bool true],[m0,m1,m2,m3,m4,m5,m6,m7,m8],[b0,b1]++(Cb nc::afP u::bxT),ch,rfl,rfl,?_,hK k u h8⟩;have e2:lits ([x0,x1,r]++[m0,m1,m2,m3,m4,m5,m6,m7,m8]) ([x0,x1,r]++[m0,m1,m2,m3,m4,m5,m6,m7,m8]) ([b0,b1]++(Cb nc::afP u::bxT))=lits ([x0,x1,r]++[m0,m1,m2,m3,m4,m5,m6,m7,m8]) [x0,x1] [b0,b1]++lits ([r]++[m0,m1,m2,m3,m4,m5,m6,m7,m8]) ([r]++[m0,m1,m2,m3,m4,m5,m6,m7,m8]) (mI nc u):=rfl;rw[e2,aJ (ids:=[x0,x1,r]) [x0,x1] [b0,b1] hw];have S3:St ms w0 (lits ([r]++[m0,m1,m2,m3,m4,m5,m6,m7,m8]) ([r]++[m0,m1,m2,m3,m4,m5,m6,m7,m8]) (mI nc u)++([aE [x0,x1,r] x0 b0,aE [x0,x1,r] x1 b1]++af ch R)) w':=S2;generalize lits ([r]++[m0,m1,m2,m3,m4,m5,m6,m7,m8]) ([r]++[m0,m1,m2,m3,m4,m5,m6,m7,m8]) (mI nc u)=L at S3⊢;refine S3.perm (cj λf=>?_);simp only[lits,List.countP_append,List.countP_cons,List.countP_nil];omega
 ·exact hc.elim
def trU (n:Nat) (l:List Int) (us:List Value) (e:Nat) (K:VK Empty):Prop:=cJ (dR prog (λ_=>none) [⟨76,false,E9⟩]) 60 49 [.sl 0 0 n (e+n)] (xA l us) [] (cP 1 K)
def rpO (l:List Int):V:=.az [.agg ([.int .i64 129,.int .i64 0,.int .i64 0,.int .i64 0,.int .i64 0,.int .i64 0]++l.map λx=>.int .u8 (u8.wrap x)),.int .i64 0]
section
variable(a b c d a' b' c' d':Int) (us:List Value) (e:Nat) (K:VK Empty)
theorem afQ:trU 9 [129,a,b,c,d,a',b',c',d'] us e K=∃nc,Iv (λ_=>0)=Iv nc/\∀(k:Nat) (u:List Value),8<=k->zH [129,a,b,c,d,a',b',c',d'] us K [([a],0,255),([b],0,255),([c],0,255),([d],0,255),([a'],0,255),([b'],0,255),([c'],0,255),([d'],0,255)] rpO:=by kernel_rfl
end
theorem aal {n:Nat} {l:List Int} {us:List Value} {e:Nat} {v0:V} (OT:fK 0 v0=true) (h:Hd (trU n l us e λv b c=>v=v0)) {w:World} {b:Nat} (ba:w.heap[b]?=some (.cells (l.map (λx=>Value.int .u8 x)++us).toArray 5 (0,0))):
 aj prog 49 #[.slice (some ⟨b,0,none⟩) n (e+n)] w λv w'=>v=den [] v0/\Ch [] w w':=by
 have hd:∀l:List Int,ab [b] (l.map (λx=>V.int .u8 x)++[.rest us])=l.map (λx=>Value.int .u8 x)++us:=by
  intro l;induction l with
  |nil=>simp only[List.map_nil,List.nil_append,ab,cl,List.append_nil]
  |cons x l ih=>simp only[List.map_cons,List.cons_append,ab,cl,den,ih,List.nil_append]
 have S:St [] w (lits [b] [b] (xA l us)++af ([]:List Empty) []) w:=by
  refine St.K2 ?_;intro y hy;simp only[xA,lits,af,List.append_nil,List.mem_cons,List.not_mem_nil,or_false]at hy;subst hy;refine⟨rfl,ba.trans ?_⟩;simp only[aE,hd]
 have hok:ai (G:=Empty) prog (λ_=>none) [⟨76,false,E9⟩]:=ai.cons ⟨E_,λe=>by cases e⟩ ai.nil;refine(bw (C:=dR prog (λ_=>none) [⟨76,false,E9⟩]) hok.T hok.Q 60 (ids:=[b]) (λg i h=>by cases h) rfl S h.h).mono ?_;rintro v w' ⟨y,more,bl',ch',rfl,h1,S',hK⟩;obtain⟨v2,aP,bl2,zJ,-,S2,Mx⟩:=c9 (n0:=1) h1 (by simp) S' hK;obtain rfl:v2=v0:=Mx;refine⟨?_,S2.ch⟩;rw[zJ];have:=bC (ids:=[]) (more:=List.take 1 ([b]++more)++aP) v2 OT;simpa using this
theorem US (r:Sd.Reply) (h:RB r) {us:List Value} {e:Nat} {w:World} {b:Nat} (ba:w.heap[b]?=some (.cells ((rpI r).map (λx=>Value.int .u8 x)++us).toArray 5 (0,0))):
 aj prog 49 #[.slice (some ⟨b,0,none⟩) (fL r) (e+fL r)] w λv w'=>v=den [] (.az [.agg (iD r),.int .i64 0])/\Ch [] w w':=by
 by_cases h9:r.kind=129
 ·obtain⟨k,sq,ro,wh,ep,co,nc⟩:=r;obtain⟨_,⟨s1,s2⟩,⟨r1,r2⟩,⟨w1,w2⟩,⟨e1,e2⟩,⟨c1,c2⟩,⟨n1,n2⟩⟩:=h;simp only at*;subst h9;simp at s2 r2 w2 e2 c2 n2
  subst_vars
  have hw:∀j,u8.wrap (nc j)=nc j:=λj=>by have:=n1 j;rw[IntKind.wrap_u8];omega
  have hn:∀j,K4 [nc j]=nc j/\0<=nc j/\nc j<=255:=λj=>⟨UQ (n1 j),n1 j⟩;exact aal (n:=9) (l:=[129,nc 0,nc 1,nc 2,nc 3,nc 4,nc 5,nc 6,nc 7]) rfl ⟨by
   rw[afQ];exact⟨λ_=>0,rfl,λ_ _ _=>mn _ [nc 0,nc 1,nc 2,nc 3,nc 4,nc 5,nc 6,nc 7] [] ⟨hn 0,hn 1,hn 2,hn 3,hn 4,hn 5,hn 6,hn 7,trivial⟩ (by
    show rpO _=_;simp only[rpO,List.nil_append,List.map_cons,List.map_nil,hw];rfl)⟩⟩ ba
 ·exact Iz r h h9 ba
theorem afR (op:BinOp) (a b:Int):0<=bits op .u16 a b/\bits op .u16 a b<=65535:=by
 unfold bits;rw[IntKind.wrap_u16];omega
theorem aam (x:Int):0<=DF x/\DF x<=65535:=by
 unfold DF;cases(bits .and .u16 x 32768!=0)with
 |true=>exact afR .xor (u16.wrap (x*2^1)) 4129
 |false=>
  simp only[cond_false];rw[IntKind.wrap_u16];omega
theorem aan (f:Nat->Int):∀n,0<=jT f n/\jT f n<=65535
 |0=>⟨(by decide:(0:Int)<=65535),(by decide:(65535:Int)<=65535)⟩
 |n+1=>aam _
theorem yf {f g:Nat->Int}:∀n,(∀j,j<n->f j=g j)->jT f n=jT g n
 |0,_=>rfl
 |n+1,h=>by
  show MN (jT f n) (f n)=MN (jT g n) (g n);rw[yf n (λj hj=>h j (by omega)),h n (by omega)]
theorem amG {x:Int} (hx:0<=x/\x<=65535):bits .or .u16 (u16.wrap (u16.wrap (u8.wrap (Int.fdiv x (2^8)))*2^8)) (u16.wrap (u8.wrap x))=x:=by
 have e1:u8.wrap (Int.fdiv x (2^8))=x/256:=by
  rw[IntKind.wrap_u8,Int.fdiv_eq_ediv_of_nonneg _ (by decide)];show x/256%256=x/256;omega
 have e2:u8.wrap x=x%256:=IntKind.wrap_u8 x;have e3:u16.wrap (u16.wrap (x/256)*2^8)=x/256*256:=by
  rw[IntKind.wrap_u16,IntKind.wrap_u16];omega
 have e4:u16.wrap (x%256)=x%256:=by rw[IntKind.wrap_u16];omega
 rw[e1,e2,e3,e4];obtain⟨a,ha⟩:∃a:Nat,x/256=a:=⟨(x/256).toNat,by omega⟩;obtain⟨b,hb⟩:∃b:Nat,x%256=b:=⟨(x%256).toNat,by omega⟩;have VH:a<256:=by omega
 have Wh:b<256:=by omega
 rw[ha,hb];unfold bits;have h1:(BitVec.ofInt 16 ((a:Int)*256)).toNat=a*256:=by simp only[BitVec.toNat_ofInt];omega
 have h2:(BitVec.ofInt 16 (b:Int)).toNat=b:=by simp only[BitVec.toNat_ofInt];omega
 have h3:(a*256|||b)=a*256+b:=by
  have:=Nat.shiftLeft_add_eq_or_of_lt (i:=8) (b:=b) (by omega) a;rw[Nat.shiftLeft_eq]at this;exact this.symm
 show u16.wrap (((BitVec.ofInt 16 ((a:Int)*256)|||BitVec.ofInt 16 (b:Int)).toNat:Nat):Int)=_;rw[BitVec.toNat_or,h1,h2,h3,IntKind.wrap_u16];omega
def crC (n:Nat) (f:Nat->Int):Int:=jT (Ek (bI 3 (gT [165,1,n]) f) 1) (3+n-1)
def N6 (n:Nat) (f:Nat->Int):Int:=u8.wrap (Int.fdiv (crC n f) (2^8))
def N7 (n:Nat) (f:Nat->Int):Int:=u8.wrap (crC n f)
def Fa (n:Nat):Prop:=n=3\/n=4\/n=5\/n=6\/n=9
theorem afS {n:Nat} (h:Fa n) (cr:(Nat->Int)->Nat->Int) (f:Nat->Int) (hi lo:Int) (us:List Value) (d:Nat) (K:VK Empty):KQ cr n f hi lo us d K=KK cr n f hi lo us d K:=by
 rcases h with rfl|rfl|rfl|rfl|rfl
 ·exact amx ..
 ·exact amy ..
 ·exact amz ..
 ·exact amA ..
 ·exact amB ..
theorem UT {n:Nat} (h:Fa n) (f:Nat->Int):(List.range (n+5)).map (pI n f)=nxI n f (N6 n f) (N7 n f):=by
 rcases h with rfl|rfl|rfl|rfl|rfl<;>rfl
theorem afT {n:Nat} (h:Fa n) (f:Nat->Int) (hi lo:Int) (us:List Value):∀j,j<n+2->CA (Is n f hi lo us) 1 j=Ek (bI 3 (gT [165,1,n]) f) 1 j:=by
 have e:(List.range (n+2)).map (CA (Is n f hi lo us) 1)=(List.range (n+2)).map (Ek (bI 3 (gT [165,1,n]) f) 1):=by
  rcases h with rfl|rfl|rfl|rfl|rfl<;>rfl
 intro j hj;have:=congrArg (λl=>l[j]?) e;simpa[List.getElem?_range hj]using this
theorem aao {n:Nat} (h:Fa n) (f:Nat->Int) (hi lo:Int) (us:List Value):∀j,j<n->CA (Is n f hi lo us) 3 j=f j:=by
 have e:(List.range n).map (CA (Is n f hi lo us) 3)=(List.range n).map f:=by
  rcases h with rfl|rfl|rfl|rfl|rfl<;>rfl
 intro j hj;have:=congrArg (λl=>l[j]?) e;simpa[List.getElem?_range hj]using this
theorem aap {n:Nat} (h:Fa n) (f:Nat->Int) (us:List Value) (d:Nat) {K:VK Empty} (hK:∀e:Nat,K (.agg [.int .i64 2,.int .i64 ((n+5:Nat):Int),.int .i64 0,.sl 1 0 n (n+e)]) (xz n f (N6 n f) (N7 n f) us++[dF n e (CA (Is n f (N6 n f) (N7 n f) us) 3)]) []):KK jT n f (N6 n f) (N7 n f) us d K:=by
 have e1:jT (CA (Is n f (N6 n f) (N7 n f) us) 1) (n+2)=crC n f:=by
  unfold crC;rw[yf (n+2) (afT h f _ _ us),show 3+n-1=n+2 by omega]
 have e2:=amG (aan (Ek (bI 3 (gT [165,1,n]) f) 1) (3+n-1));have hn:0<n/\n<=9:=by unfold Fa at h;omega
 refine⟨trivial,aU (λe=>?_) (λ_=>⟨⟨hn.1,by omega,by omega⟩,hK⟩)⟩;rw[e1]at e;have:(bits .or .u16 (u16.wrap (u16.wrap (N6 n f)*2^8)) (u16.wrap (N7 n f)))=crC n f:=e2;rw[this]at e;simp at e
theorem afU (r:Sd.Reply):Fa (fL r):=UN r
theorem afV {n c:Nat} {f g:Nat->Int} (h:∀j,j<n->f j=g j):dc n f c=dc n g c:=by
 have e:eE n f=eE n g:=List.map_congr_left λj hj=>by rw[h j (List.mem_range.1 hj)]
 unfold dc;rw[e]
theorem aaq {ids:List Nat} (n:Nat) (f:Nat->Int) (hi lo:Int) (us:List Value):ab ids (Is n f hi lo us)=(nxI n f hi lo).map (λx=>Value.int .u8 x)++us:=by
 unfold Is;generalize nxI n f hi lo=l;induction l with
 |nil=>simp only[List.map_nil,List.nil_append,ab,cl,List.append_nil]
 |cons x l ih=>simp only[List.map_cons,List.cons_append,ab,cl,den,ih,List.nil_append]
theorem UU {n:Nat} (hn:Fa n) (f:Nat->Int) {w:World} {b c:Nat} (hc:n+5<=c) (ba:w.heap[b]?=some (.cells (dc (n+5) (pI n f) c) 5 (0,0))):
 aj prog 48 #[.slice (some ⟨b,0,none⟩) (n+5) c] w λv w'=>∃b2 e,v=.agg #[.int .i64 2,.int .i64 ((n+5:Nat):Int),.int .i64 0,.slice (some ⟨b2,0,none⟩) n (n+e)]/\w.heap.size<=b2/\w'.heap[b2]?=some (.cells (dc n f (n+e)) 5 (0,0))/\Ch [] w w':=by
 obtain⟨d,rfl⟩:∃d,c=d+(n+5):=⟨c-(n+5),by omega⟩
 let us:List Value:=List.replicate (d+(n+5)-(n+5)) (.int .u8 0)
 have S:St [] w (lits [b] [b] (xz n f (N6 n f) (N7 n f) us)++af ([]:List Empty) []) w:=by
  refine St.K2 ?_;intro y hy;simp only[xz,lits,af,List.append_nil,List.mem_cons,List.not_mem_nil,or_false]at hy;subst hy;refine⟨rfl,ba.trans ?_⟩;simp only[aE,aaq,<-UT hn f];unfold dc eE;rw[List.map_map];rfl
 have fU:Hd (KQ jT n f (N6 n f) (N7 n f) us d λv bl _=>∃e,v=.agg [.int .i64 2,.int .i64 ((n+5:Nat):Int),.int .i64 0,.sl 1 0 n (n+e)]/\bl=xz n f (N6 n f) (N7 n f) us++[dF n e (CA (Is n f (N6 n f) (N7 n f) us) 3)]):=⟨by
  rw[afS hn];exact aap hn f us d λe=>⟨e,rfl,rfl⟩⟩
 have hok:ai (G:=Empty) prog gv (qL Empty [UE jT]):=f_ (aZ.cons (aac _) aZ.nil);refine(bw (C:=mL prog gv (qL Empty [UE jT]) (N3 prog) vE) hok.T hok.Q 60 (ids:=[b]) (λg i h=>by cases h) rfl S fU.h).mono ?_;rintro v w' ⟨y,more,bl',ch',rfl,h1,S',hK⟩;obtain⟨v2,aP,bl2,zJ,gx,S2,e,rfl,rfl⟩:=c9 (n0:=1) h1 (by simp) S' hK;have ht:List.take 1 ([b]++more)=[b]:=rfl;rw[ht]at zJ gx S2;have hm:aP.length=1:=by simpa[xz]using gx
 match aP,hm with
 |[x],_=>
  have va:aE ([b]++[x]) x (dF n e (CA (Is n f (N6 n f) (N7 n f) us) 3))=⟨x,true,.cells (dc n f (n+e)) 5 (0,0)⟩:=by
   unfold aE;rw[jC,afV (aao hn f _ _ us)];rfl
  have S3:St [] w ([aE ([b]++[x]) b ⟨false,⟨5,(0,0)⟩,Is n f (N6 n f) (N7 n f) us⟩,aE ([b]++[x]) x (dF n e (CA (Is n f (N6 n f) (N7 n f) us) 3))]++af ch' []) w':=S2;rw[va]at S3;refine⟨x,e,?_,(S3.own 1 _ rfl rfl).resolve_left (by simp),S3.at_ 1 _ rfl,S3.ch⟩;rw[zJ];rfl
def zM:gm (LG eB):=λargs bl ch K=>match args,ch with
 |[.raw (.slice x n c)],.cn u::.core g fB::rest=>cond (dk bl.length bl) (∃(r:Sd.Reply) (b:List av),(n=fL r+5/\eK 5 n (pI (fL r) (yU r)) x c b/\∀y∈b,y∈fB)/\
  ∀d:Nat,K (.agg [.int .i64 2,.int .i64 ((fL r+5:Nat):Int),.int .i64 0,.sl bl.length 0 (fL r) (fL r+d)]) (bl++[dF (fL r) d (yU r)]) (.cn u::.core g fB::rest)) False
 |_,_=>False
theorem IA {gl:Nat->Option Nat}:Sound prog gl 48 zM:=by
 intro args ids bl ch R ms w0 w K hg hl S hc;unfold zM at hc;split at hc
 ·rename_i x n c u g fB rest;cases hq:dk bl.length bl with
  |false=>rw[hq]at hc;exact hc.elim
  |true=>
   rw[hq]at hc;obtain⟨r,b,⟨rfl,hr,hb⟩,hK⟩:=hc;rcases hr.2 with⟨_,h0,_,_⟩|⟨bk,rfl,rfl⟩
   ·omega
   ·have ba:w.heap[bk]?=some (.cells (dc (fL r+5) (pI (fL r) (yU r)) c) 5 (0,0)):=S.at' (x:=⟨bk,true,.cells (dc (fL r+5) (pI (fL r) (yU r)) c) 5 (0,0)⟩) (by
     have:=hb _ List.mem_cons_self;refine List.mem_append_right _ ?_;show _∈du u++((g.F.B++fB)++af rest R);exact List.mem_append_right _ (List.mem_append_left _ (List.mem_append_right _ this)))
    have ha:(ao ids [.raw (.slice (some ⟨bk,0,none⟩) (fL r+5) c)]).toArray=#[.slice (some ⟨bk,0,none⟩) (fL r+5) c]:=rfl;rw[ha];refine(UU (afU r) (yU r) hr.1 ba).mono ?_;rintro v w' ⟨b2,e,rfl,jI,qM,eZ⟩;refine⟨_,[b2],_,_,?_,by simp[hl],?_,hK e⟩
    ·simp only[den,ab,cl,List.cons_append,List.nil_append,List.append_nil];rw[<-hl,cy]
    ·have em:aE (ids++[b2]) b2 (dF (fL r) e (yU r))=⟨b2,true,.cells (dc (fL r) (yU r) (fL r+e)) 5 (0,0)⟩:=by
      unfold aE;rw[jC];rfl
     rw[aI _ _ _ _ hl,aJ _ _ (by rw[hl];exact hq)];simp only[lits,em];refine(S.new eZ jI qM).perm ?_;rw[List.append_assoc];exact List.perm_middle.symm
 ·exact hc.elim
def trC {G:Type}:gm G:=λargs bl ch K=>match args with
 |[.sl i 0 n c]=>(match bl[i]?with
  |some ⟨_,⟨5,(0,0)⟩,[.dC .u8 n' f,.dC .u8 d z]⟩=>∃r:Sd.Reply,(RB r/\n=fL r/\n'=fL r/\f=yU r/\c=fL r+d/\z=iY)/\K (.az [.agg (iD r),.int .i64 0]) bl ch
  |_=>False)
 |_=>False
theorem aar (r:Sd.Reply):fK 0 (.az [.agg (iD r),.int .i64 0])=true:=rfl
theorem UW {G:Type} [Bl G] {gl:Nat->Option Nat}:Sound (G:=G) prog gl 49 trC:=by
 intro args ids bl ch R ms w0 w K hg hl S hc;unfold trC at hc;split at hc
 ·rename_i i n c;split at hc
  ·rename_i wr n' f d z hb;obtain⟨r,⟨hr,rfl,rfl,rfl,rfl,rfl⟩,hK⟩:=hc;have ba:=(cA hl S hb).2;have hd:ab ids [V.dC .u8 (fL r) (yU r),.dC .u8 d iY]=(rpI r).map (λx=>Value.int .u8 x)++(List.range d).map (λj=>Value.int .u8 (iY j)):=by
    simp only[ab,cl,List.append_nil,rpI,List.map_map];rfl
   rw[hd]at ba;have ha:(ao ids [.sl i 0 (fL r) (fL r+d)]).toArray=#[.slice (some ⟨ids.getD i 0,0,none⟩) (fL r) (d+fL r)]:=by
    rw[Nat.add_comm d];rfl
   rw[ha];refine(US r hr ba).mono ?_;rintro v w' ⟨rfl,eZ⟩;refine⟨.az [.agg (iD r),.int .i64 0],[],bl,ch,?_,by simpa using hl,by simpa using S.quiet eZ,hK⟩;have:=bC (ids:=[]) (more:=ids++[]) (.az [.agg (iD r),.int .i64 0]) (aar r);simpa using this.symm
  ·exact hc.elim
 ·exact hc.elim
theorem UX {G:Type}:cT (trC (G:=G)):=by
 intro args bl ch K hc;unfold trC at hc⊢;split at hc
 ·split at hc
  ·obtain⟨r,h,hK⟩:=hc;exact⟨r,h,hK,[],by simp⟩
  ·exact hc.elim
 ·exact hc.elim
theorem IB:cT zM:=by
 intro args bl ch K hc;unfold zM at hc⊢;split at hc
 ·revert hc;cases dk bl.length bl with
  |false=>exact λh=>h.elim
  |true=>
   rintro⟨r,b,h,hK⟩;exact⟨r,b,h,λd=>⟨hK d,_,rfl⟩⟩
 ·exact hc.elim
end Go.Proofs.YtggfpcggakghnaaGreatDoor
namespace Sd
variable{C:Crypt} {s:Scene} {c:Core} {l:List (Int×Reply)}
def Scene.at_ (s:Scene) (c:Core) (l:List (Int×Reply)):Prop:=(∃x,s.c={c with head:=x})/\s.sent=l
theorem abV (c:Core) (l:List (Int×Reply)) (x:Byt) (r:List Rec):(Scene.mk {c with head:=x} l r).at_ c l:=⟨⟨x,rfl⟩,rfl⟩
theorem fu (h:s.at_ c l):∃x r,s=⟨{c with head:=x},l,r⟩:=by
 obtain⟨⟨x,hx⟩,hl⟩:=h;obtain⟨sc,ss,sr⟩:=s;simp only at hx hl;exact⟨x,sr,by rw[hx,hl]⟩
theorem vG (h:s.at_ c l) (k:Int) (r:Reply):(s.tell k r).at_ c (l++[(k,r)]):=by
 obtain⟨x,q,rfl⟩:=fu h;exact⟨⟨x,rfl⟩,rfl⟩
theorem iE (h:s.at_ c l) (k so n co w:Int):(s.record C k so n co w).at_ c l:=by
 obtain⟨x,q,rfl⟩:=fu h;exact⟨⟨_,rfl⟩,rfl⟩
theorem zW (h:s.at_ c l) (k n e:Int):(s.refuse C k n e).at_ c (l++[(k,{kind:=132,seq:=n,code:=e})]):=iE (vG h _ _) _ _ _ _ _
theorem K5 (h:s.at_ c l) (k n:Int):(s.done k n).at_ c (l++[(k,{kind:=131,seq:=n})]):=vG h _ _
def heard (tab:Tab) (k:Int) (r:Reply):List (Int×Reply):=if linked k&&tab.on k then[(k,r)]else[]
theorem yg (h:s.at_ c l) (k:Int) (r:Reply):(s.hear k r).at_ c (l++heard c.tab k r):=by
 obtain⟨x,q,rfl⟩:=fu h;unfold Scene.hear heard;show Scene.at_ (if(linked k&&c.tab.on k)=true then _ else _) _ _;split
 ·exact⟨⟨x,rfl⟩,rfl⟩
 ·exact⟨⟨x,rfl⟩,by simp⟩
theorem aas (h:s.at_ c l) (t:Tok) (how n:Int):(s.goes C t how n).at_ {c with t:=t,q:=Q.drop c.q t.holder} (l++heard c.tab c.t.holder {kind:=134,fT:=t.holder,epoch:=t.epoch}++heard c.tab t.holder {kind:=133,epoch:=t.epoch}):=by
 obtain⟨x,q,rfl⟩:=fu h;unfold Scene.goes;dsimp only;exact iE (yg (yg (abV {c with t:=t,q:=Q.drop c.q t.holder} l x q) _ _) _ _) _ _ _ _ _
def nI (c:Core) (k:Int) (d:dQ):Core:={c with doors:=λj=>if j=k.toNat-1 then d else c.doors j}
theorem UY (h:s.at_ c l) {k:Int} {m:bW} {N:Nat} {f:Byt} (ht:C.take N f=some m) (hr:fm c.p k m.role=true) (hm:(c.doors (k.toNat-1)).many<4294967295):
 (s.gW C k N f).at_ (nI c k ⟨(c.doors (k.toNat-1)).many+1,true,C.ae (c.p.k 3) k ((c.doors (k.toNat-1)).many+1)⟩) (l++[(k,{kind:=129,ae:=C.ae (c.p.k 3) k ((c.doors (k.toNat-1)).many+1)})]):=by
 obtain⟨x,q,rfl⟩:=fu h;unfold Scene.gW;rw[ht];dsimp only;rw[if_neg (by rw[hr];decide),if_neg (by omega)];exact iE (vG ⟨⟨x,rfl⟩,rfl⟩ _ _) _ _ _ _ _
theorem UZ (h:s.at_ c l) {k:Int} {m:bW} {f:Byt} (ht:C.take 2 f=some m) (ho:(c.doors (k.toNat-1)).sG=true) (hr:C.right (c.p.k (k.toNat-1)) k m.role (c.doors (k.toNat-1)).ae (λj=>f (2+j))=true)
 (hk:fm c.p k m.role=true) {tab:Tab} {e:Int} (hb:Tab.br c.p c.tab k m.role (C.key (c.p.k (k.toNat-1)) k m.role (c.doors (k.toNat-1)).ae)=(tab,e)):
 (s.prove C k 10 f).at_ (if e≠0 then nI c k ⟨(c.doors (k.toNat-1)).many,false,λ_=>0⟩else{nI c k ⟨(c.doors (k.toNat-1)).many,false,λ_=>0⟩with tab:=tab})
  (l++[(k,if e≠0 then{kind:=132,seq:=0,code:=e}else{kind:=130,role:=m.role,fT:=c.t.holder,epoch:=c.t.epoch})]):=by
 obtain⟨x,q,rfl⟩:=fu h;unfold Scene.prove;rw[if_neg (by decide),ht];dsimp only;rw[if_neg (by rw[ho];decide),if_neg (by rw[hr];decide),if_neg (by rw[hk];decide),hb];dsimp only;split
 ·exact zW ⟨⟨x,rfl⟩,rfl⟩ _ _ _
 ·exact iE (vG ⟨⟨x,rfl⟩,rfl⟩ _ _) _ _ _ _ _
def Tab.dB (C:Crypt) (p:Pol) (t:Tab) (k n:Int):Tab:=t.dT (k.toNat-1) {(t.ay (k.toNat-1))with seen:=C.kS (t.ay (k.toNat-1)).seen n,on:=true,aH:=.start p.bh}
theorem aat (h:s.at_ c l) {k:Int} {N:Nat} {f:Byt} {m:bW} (h1:f 0≠1) (h2:f 0≠2) (ho:c.tab.cZ k=true) (hN:8<=N) (uh:C.opens (c.tab.ay (k.toNat-1)).key k N f=true) (ht:C.take (N-8) f=some m)
 (k1:m.kind≠1) (k2:m.kind≠2) (hs:C.kS (c.tab.ay (k.toNat-1)).seen m.seq≠(c.tab.ay (k.toNat-1)).seen):
 ∃s':Scene,s.item C k 0 N f=s'.u9 C k m/\s'.at_ {c with tab:=c.tab.dB C c.p k m.seq} l:=by
 obtain⟨x,q,rfl⟩:=fu h;refine⟨⟨{{c with tab:=c.tab.dB C c.p k m.seq}with head:=x},l,q⟩,?_,abV _ _ _ _⟩;have e:c.tab.take C c.p k N f=(c.tab.dB C c.p k m.seq,.ok m):=by
  unfold Tab.take;rw[if_neg (by rw[ho];decide),if_neg (by rw[uh];simp;omega),ht];dsimp only;rw[if_neg (by omega),if_neg hs];rfl
 unfold Scene.item;rw[if_neg (by decide),if_neg (by simp[h1]),if_neg (by simp[h2])];dsimp only;rw[e]
abbrev K6:=Core×List (Int×Reply)
def si (c:Core) (k n e:Int):K6:=(c,[(k,{kind:=132,seq:=n,code:=e})])
def zK (c:Core) (t:Tok):K6:=({c with t:=t,q:=Q.drop c.q t.holder},heard c.tab c.t.holder {kind:=134,fT:=t.holder,epoch:=t.epoch}++heard c.tab t.holder {kind:=133,epoch:=t.epoch})
def V9 (x:K6) (k n:Int):K6:=(x.1,x.2++[(k,{kind:=131,seq:=n})])
def wJ (c:Core) (k:Int) (m:bW):K6:=
 let r:=cv c.p c.t c.p.queue c.q k m.now
 if r.2.2.1≠0 then si c k m.seq r.2.2.1
 else V9 (if 0<r.2.1 then zK {c with q:=r.2.2.2} r.1 else({c with q:=r.2.2.2,t:=r.1},[])) k m.seq
def tW (c:Core) (k:Int) (m:bW):K6:=
 let r:=Tok.make c.p c.t k m.bx (c.tab.on m.bx)
 if r.2≠0 then si c k m.seq r.2 else V9 ({c with t:=r.1},heard c.tab m.bx {kind:=135,fT:=k,epoch:=r.1.epoch}) k m.seq
def ot (c:Core) (k:Int) (m:bW):K6:=
 let r:=c.t.accept k m.epoch
 if r.2≠0 then si c k m.seq r.2 else V9 (zK c r.1) k m.seq
def yi (c:Core) (k:Int) (m:bW):K6:=
 let r:=an c.t c.q k
 if r.2.1≠0 then si c k m.seq r.2.1 else V9 (zK {c with q:=r.2.2} r.1) k m.seq
def oY (c:Core) (k:Int) (m:bW):K6:=
 let e:=fM c.p c.t k (c.tab.role k) c.mode m
 if e≠0 then si c k m.seq e else V9 ({c with mode:=m.mode,bj:=⟨1,k,m.seq⟩},[]) k m.seq
def Fb (c:Core) (k:Int) (m:bW):K6:=
 if m.kind=3 then(c,[(k,{kind:=131,seq:=m.seq})])else if m.kind=5 then wJ c k m else if m.kind=6 then tW c k m else if m.kind=7 then ot c k m
 else if m.kind=9 then yi c k m else oY c k m
def Scene.res (s:Scene) (l:List (Int×Reply)) (r:K6):Prop:=s.at_ r.1 (l++r.2)
theorem tX {r:K6} (h:s.res l r) (k n:Int):(s.done k n).res l (V9 r k n):=by
 unfold Scene.res V9;rw[<-List.append_assoc];exact K5 h k n
theorem IC (h:s.at_ c l) (t:Tok) (how n:Int):(s.goes C t how n).res l (zK c t):=by
 unfold Scene.res zK;rw[<-List.append_assoc];exact aas h t how n
theorem nJ (h:s.at_ c l) (k n e:Int):(s.refuse C k n e).res l (si c k n e):=zW h k n e
theorem K7 {c:Core} (h:s.at_ c l):s.res l (c,[]):=by
 show s.at_ c (l++[]);rw[List.append_nil];exact h
theorem aau (h:s.at_ c l) (k:Int) (m:bW):(s.ask C k m).res l (wJ c k m):=by
 obtain⟨x,q,rfl⟩:=fu h;unfold Scene.ask wJ;dsimp only;generalize cv c.p c.t c.p.queue c.q k m.now=r;obtain⟨t,how,e,q2⟩:=r;dsimp only;split
 ·exact nJ ⟨⟨x,rfl⟩,rfl⟩ _ _ _
 ·split
  ·exact tX (IC (c:={c with q:=q2}) ⟨⟨x,rfl⟩,rfl⟩ t how m.seq) k m.seq
  ·exact tX (r:=({c with q:=q2,t:=t},[])) (K7 (iE ⟨⟨x,rfl⟩,rfl⟩ _ _ _ _ _)) k m.seq
theorem N9 (h:s.at_ c l) (k:Int) (m:bW):(s.offer C k m).res l (tW c k m):=by
 obtain⟨x,q,rfl⟩:=fu h;unfold Scene.offer tW;dsimp only;generalize Tok.make c.p c.t k m.bx (c.tab.on m.bx)=r;obtain⟨t,e⟩:=r;dsimp only;split
 ·exact nJ ⟨⟨x,rfl⟩,rfl⟩ _ _ _
 ·exact tX (r:=({c with t:=t},heard c.tab m.bx {kind:=135,fT:=k,epoch:=t.epoch})) (iE (yg (c:={c with t:=t}) ⟨⟨x,rfl⟩,rfl⟩ _ _) _ _ _ _ _) k m.seq
theorem ID (h:s.at_ c l) (k:Int) (m:bW):(s.accept C k m).res l (ot c k m):=by
 obtain⟨x,q,rfl⟩:=fu h;unfold Scene.accept ot;dsimp only;generalize c.t.accept k m.epoch=r;obtain⟨t,e⟩:=r;dsimp only;split
 ·exact nJ ⟨⟨x,rfl⟩,rfl⟩ _ _ _
 ·exact tX (IC (c:=c) ⟨⟨x,rfl⟩,rfl⟩ t 1 m.seq) k m.seq
theorem Fc (h:s.at_ c l) (k:Int) (m:bW):(s.release C k m).res l (yi c k m):=by
 obtain⟨x,q,rfl⟩:=fu h;unfold Scene.release yi;dsimp only;generalize an c.t c.q k=r;obtain⟨t,e,q2⟩:=r;dsimp only;split
 ·exact nJ ⟨⟨x,rfl⟩,rfl⟩ _ _ _
 ·exact tX (IC (c:={c with q:=q2}) ⟨⟨x,rfl⟩,rfl⟩ t 2 m.seq) k m.seq
theorem U0 (h:s.at_ c l) (k:Int) (m:bW) (hm:m.kind=10):(s.command C k m).res l (oY c k m):=by
 obtain⟨x,q,rfl⟩:=fu h;unfold Scene.command oY;dsimp only;rw[if_pos hm];split
 ·exact nJ ⟨⟨x,rfl⟩,rfl⟩ _ _ _
 ·exact tX (r:=({c with mode:=m.mode,bj:=⟨1,k,m.seq⟩},[])) (K7 (iE ⟨⟨x,rfl⟩,rfl⟩ _ _ _ _ _)) k m.seq
theorem aav (h:s.at_ c l) (k:Int) (m:bW) (hm:m.kind=3\/m.kind=5\/m.kind=6\/m.kind=7\/m.kind=9\/m.kind=10):(s.u9 C k m).res l (Fb c k m):=by
 unfold Scene.u9 Fb;rcases hm with e|e|e|e|e|e<;>simp only[e,if_true,if_false,Int.reduceEq,true_or]
 ·exact K5 h _ _
 ·exact aau h _ _
 ·exact N9 h _ _
 ·exact ID h _ _
 ·exact Fc h _ _
 ·exact U0 h _ _ e
def eJ (C:Crypt) (c:Core) (k:Int) (m:bW):K6:=Fb {c with tab:=c.tab.dB C c.p k m.seq} k m
theorem U1 (h:s.at_ c l) {k:Int} {N:Nat} {f:Byt} {m:bW} (hf:f 0=m.kind) (ho:c.tab.cZ k=true) (hN:8<=N) (uh:C.opens (c.tab.ay (k.toNat-1)).key k N f=true) (ht:C.take (N-8) f=some m)
 (hm:m.kind=3\/m.kind=5\/m.kind=6\/m.kind=7\/m.kind=9\/m.kind=10) (hs:C.kS (c.tab.ay (k.toNat-1)).seen m.seq≠(c.tab.ay (k.toNat-1)).seen):(s.item C k 0 N f).res l (eJ C c k m):=by
 obtain⟨s',e,h'⟩:=aat h (by omega) (by omega) ho hN uh ht (by omega) (by omega) hs;rw[e];exact aav h' k m hm
def aQ (l:List (Int×Reply)) (k:Int):List Reply:=(l.filter λy=>decide (y.1=k)).map (·.2)
def dr (l:List Reply):Reply:=l.getLastD {kind:=0}
theorem IE (a b:List (Int×Reply)) (k:Int):aQ (a++b) k=aQ a k++aQ b k:=by simp[aQ]
theorem yj (k:Int) (r:Reply):aQ [(k,r)] k=[r]:=by simp[aQ]
theorem goes_t (s:Scene) (t:Tok) (how n:Int):(s.goes C t how n).c.t=t:=by
 obtain⟨x,e⟩:=Scene.wM C s t how n;rw[e]
end Sd
namespace Sd
variable{C:Crypt} {s:Scene} {c:Core} {l:List (Int×Reply)} {k:Int} {m:bW}
theorem aaw {k:Int} (hk:1<=k/\k<=3):linked k=true:=by simp[linked,hk.1,hk.2]
theorem sj {tab:Tab} (hk:1<=k/\k<=3) (ho:tab.on k=true) (r:Reply):heard tab k r=[(k,r)]:=by unfold heard;rw[aaw hk,ho];rfl
theorem aax (tab:Tab) (r:Reply):heard tab 4 r=[]:=rfl
theorem Fe {tab:Tab} (hk:1<=k/\k<=3):tab.on k=tab.cZ k:=by unfold Tab.on;rw[if_neg (by omega),if_neg (by omega)]
theorem zX {t:Tok} (hk:0<=k/\k<=4) (hh:k≠t.holder) (he:t.epoch<65535):t.bz k=(t.pass k (t.epoch+1),0):=by
 unfold Tok.bz;rw[if_neg (by omega),if_neg hh,if_neg (by omega)]
theorem aay (hb:c.t.bad=false) (hh:c.t.holder=4) (hk:1<=k/\k<=3) (he:c.t.epoch<65535) (hq:c.q=[]) (ho:c.tab.cZ k=true):
 wJ c k m=({c with t:=c.t.pass k (c.t.epoch+1),q:=[]},[(k,{kind:=133,epoch:=c.t.epoch+1}),(k,{kind:=131,seq:=m.seq})]):=by
 have e:cv c.p c.t c.p.queue c.q k m.now=(c.t.pass k (c.t.epoch+1),3,0,[]):=by
  unfold cv;rw[if_neg (by rw[hb];decide),if_neg (by omega),if_neg (by omega),if_pos (.inl hh),zX (by omega) (by omega) he,if_neg (by simp),hq];rfl
 unfold wJ;dsimp only;rw[e];dsimp only;rw[if_neg (by decide),if_pos (by decide)];unfold zK V9;dsimp only;rw[hh,aax];show((_,_):K6)=_;rw[show(c.t.pass k (c.t.epoch+1)).holder=k from rfl,sj hk (by rw[Fe hk];exact ho)];rfl
theorem U2 (hh:k=c.t.holder) (he:c.t.epoch<65535) (ht:m.bx≠k) (h3:1<=m.bx/\m.bx<=3) (ho:c.tab.cZ m.bx=true) (hf:c.t.offer<0):
 tW c k m=({c with t:={c.t with offer:=m.bx,oa:=.start c.p.offer}},[(m.bx,{kind:=135,fT:=k,epoch:=c.t.epoch}),(k,{kind:=131,seq:=m.seq})]):=by
 have e:Tok.make c.p c.t k m.bx (c.tab.on m.bx)=({c.t with offer:=m.bx,oa:=.start c.p.offer},0):=by
  unfold Tok.make;rw[Fe h3,ho,if_neg (by omega),if_neg (by omega),if_neg ht,if_neg (by simp;omega),if_neg (by omega)]
 unfold tW;dsimp only;rw[e];dsimp only;rw[if_neg (by decide),sj h3 (by rw[Fe h3];exact ho)];rfl
theorem IF (hk:1<=k/\k<=3) (hf:c.t.offer=k) (hm:m.epoch=c.t.epoch) (hh:k≠c.t.holder) (he:c.t.epoch<65535):
 ot c k m=V9 (zK c (c.t.pass k (c.t.epoch+1))) k m.seq:=by
 have e:c.t.accept k m.epoch=(c.t.pass k (c.t.epoch+1),0):=by
  unfold Tok.accept;rw[if_neg (by omega),if_neg (by omega),zX (by omega) hh he]
 unfold ot;dsimp only;rw[e];rfl
theorem Ff (hm:m.kind=10) (hh:k≠c.t.holder):oY c k m=si c k m.seq 20:=by
 have e:fM c.p c.t k (c.tab.role k) c.mode m=20:=by
  unfold fM;rw[if_neg (by omega),if_pos hh]
 unfold oY;dsimp only;rw[e];rfl
theorem IG (hm:m.kind=10) (hh:k=c.t.holder) (he:m.epoch≠c.t.epoch):oY c k m=si c k m.seq 21:=by
 have e:fM c.p c.t k (c.tab.role k) c.mode m=21:=by
  unfold fM;rw[if_neg (by omega),if_neg (by omega),if_pos he]
 unfold oY;dsimp only;rw[e];rfl
theorem aaz (hm:m.kind=10) (hh:k=c.t.holder) (he:m.epoch=c.t.epoch) (h1:may c.p c.mode (c.tab.role k) 0=true) (h2:goes c.p c.mode m.mode=true):
 oY c k m=({c with mode:=m.mode,bj:=⟨1,k,m.seq⟩},[(k,{kind:=131,seq:=m.seq})]):=by
 have e:fM c.p c.t k (c.tab.role k) c.mode m=0:=by
  unfold fM;rw[if_neg (by omega),if_neg (by omega),if_neg (by omega),if_pos hm,if_neg (by rw[h1];decide),if_neg (by rw[h2];simp)]
 unfold oY;dsimp only;rw[e];rfl
structure yV (C:Crypt):Prop where
 gW:∀(r:Int) (f:Byt),0<=r/\r<=3->f 0=1->f 1=r->∃m,C.take 2 f=some m/\m.role=r
 prove:∀(r:Int) (f:Byt),0<=r/\r<=3->f 0=2->f 1=r->∃m,C.take 2 f=some m/\m.role=r
 kS:∀(w:cN) (n:Int),0<=n/\n<=4294967295->0<=w.high->(w.any=false\/w.high<n)->C.kS w n≠w/\(C.kS w n).high=n
structure FA (c:Core) (k:Int) (key:Byt) (role hi:Int):Prop where
 lk:1<=k/\k<=3
 on:c.tab.cZ k=true
 key:(c.tab.ay (k.toNat-1)).key=key
 role:(c.tab.ay (k.toNat-1)).role=role
 any:(c.tab.ay (k.toNat-1)).seen.any=false\/(c.tab.ay (k.toNat-1)).seen.high<=hi
 hi:0<=(c.tab.ay (k.toNat-1)).seen.high
theorem jD (hk:1<=k/\k<=3) (t:Tab):t.cZ k=(t.ay (k.toNat-1)).on:=by unfold Tab.cZ;simp[hk.1,hk.2]
theorem FA.nt {c c':Core} {key:Byt} {role hi:Int} (h:FA c k key role hi) (e:c'.tab=c.tab):FA c' k key role hi:=by
 obtain⟨a1,a2,a3,a4,a5,a6⟩:=h;exact⟨a1,by rw[e];exact a2,by rw[e];exact a3,by rw[e];exact a4,by rw[e];exact a5,by rw[e];exact a6⟩
theorem FA.bh {key:Byt} {role hi n:Int} (hT:yV C) (h:FA c k key role hi) (hn:hi<n/\0<=n/\n<=4294967295):C.kS (c.tab.ay (k.toNat-1)).seen n≠(c.tab.ay (k.toNat-1)).seen/\FA {c with tab:=c.tab.dB C c.p k n} k key role n:=by
 have hs:=hT.kS (c.tab.ay (k.toNat-1)).seen n hn.2 h.hi (by rcases h.any with e|e;exact .inl e;exact .inr (by omega));refine⟨hs.1,⟨h.lk,?_,?_,?_,?_,?_⟩⟩
 ·rw[jD h.lk];simp[Tab.dB,Tab.dT]
 ·simpa[Tab.dB,Tab.dT]using h.key
 ·simpa[Tab.dB,Tab.dT]using h.role
 ·right;simp[Tab.dB,Tab.dT,hs.2]
 ·simp[Tab.dB,Tab.dT,hs.2,hn.2.1]
theorem FA.other {key:Byt} {role hi n k':Int} (h:FA c k key role hi) (hk:1<=k'/\k'<=3) (e_:k'≠k):FA {c with tab:=c.tab.dB C c.p k' n} k key role hi:=by
 have hl:=h.lk;have e:((c.tab.dB C c.p k' n).ay (k.toNat-1))=c.tab.ay (k.toNat-1):=by
  unfold Tab.dB Tab.dT;dsimp only;rw[if_neg (by omega)]
 refine⟨h.lk,?_,by rw[<-h.key];exact congrArg _ e,by rw[<-h.role];exact congrArg _ e,?_,?_⟩
 ·rw[jD h.lk];have:=h.on;rw[jD h.lk]at this;rw[<-this];exact congrArg _ e
 ·have:=h.any;rwa [<-e]at this
 ·have:=h.hi;rwa [<-e]at this
end Sd
namespace Sd
variable{C:Crypt}
structure HS (p:Pol) (a b:Int) (ka kb:Byt) (ra rb:Int) (c:Core) (ha hb:Int) (t:Tok) (mode:Int) (cX:Label) (q:List Ask):Prop where
 p:c.p=p
 sa:FA c a ka ra ha
 sb:FA c b kb rb hb
 t:c.t=t
 q:c.q=q
 m:c.mode=mode
 mb:c.bj=cX
variable{p:Pol} {a b:Int} {ka kb:Byt} {ra rb:Int} {c:Core} {ha hb:Int} {t:Tok} {mode:Int} {cX:Label} {q:List Ask} {m:bW}
theorem HS.swap (h:HS p a b ka kb ra rb c ha hb t mode cX q):HS p b a kb ka rb ra c hb ha t mode cX q:=⟨h.p,h.sb,h.sa,h.t,h.q,h.m,h.mb⟩
theorem HS.bh (hT:yV C) (h:HS p a b ka kb ra rb c ha hb t mode cX q) (mB:a≠b) {n:Int} (hn:ha<n/\0<=n/\n<=4294967295):
 C.kS (c.tab.ay (a.toNat-1)).seen n≠(c.tab.ay (a.toNat-1)).seen/\HS p a b ka kb ra rb {c with tab:=c.tab.dB C c.p a n} n hb t mode cX q:=by
 have h1:=h.sa.bh hT hn;exact⟨h1.1,⟨h.p,h1.2,h.sb.other h.sa.lk mB,h.t,h.q,h.m,h.mb⟩⟩
theorem HS.K8 (h:HS p a b ka kb ra rb c ha hb t mode cX q) {c':Core} (e1:c'.p=c.p) (e2:c'.tab=c.tab):HS p a b ka kb ra rb c' ha hb c'.t c'.mode c'.bj c'.q:=⟨e1.trans h.p,h.sa.nt e2,h.sb.nt e2,rfl,rfl,rfl,rfl⟩
abbrev bt (C:Crypt) (c:Core) (k:Int) (m:bW):Core:={c with tab:=c.tab.dB C c.p k m.seq}
theorem ajS {k:Int} (hm:m.kind=5):eJ C c k m=wJ (bt C c k m) k m:=by unfold eJ Fb;rw[if_neg (by omega),if_pos hm]
theorem ajT {k:Int} (hm:m.kind=6):eJ C c k m=tW (bt C c k m) k m:=by unfold eJ Fb;rw[if_neg (by omega),if_neg (by omega),if_pos hm]
theorem ajU {k:Int} (hm:m.kind=7):eJ C c k m=ot (bt C c k m) k m:=by unfold eJ Fb;rw[if_neg (by omega),if_neg (by omega),if_neg (by omega),if_pos hm]
theorem IH {k:Int} (hm:m.kind=10):eJ C c k m=oY (bt C c k m) k m:=by unfold eJ Fb;rw[if_neg (by omega),if_neg (by omega),if_neg (by omega),if_neg (by omega),if_neg (by omega)]
theorem afW (hT:yV C) (h:HS p a b ka kb ra rb c ha hb t mode cX []) (mB:a≠b) (hm:m.kind=5) (hn:ha<m.seq/\0<=m.seq/\m.seq<=4294967295) (h4:t.holder=4) (amH:t.bad=false) (he:t.epoch<65535):
 HS p a b ka kb ra rb (eJ C c a m).1 m.seq hb (t.pass a (t.epoch+1)) mode cX []/\(eJ C c a m).2=[(a,{kind:=133,epoch:=t.epoch+1}),(a,{kind:=131,seq:=m.seq})]:=by
 have h1:=(h.bh hT mB hn).2;have e:=(ajS (C:=C) (c:=c) (k:=a) hm).trans (aay (c:=bt C c a m) (by show c.t.bad=false;rw[h.t];exact amH) (by show c.t.holder=4;rw[h.t];exact h4) h.sa.lk (by show c.t.epoch<65535;rw[h.t];exact he) h.q h1.sa.on);rw[e];refine⟨?_,by show _=_;simp only[h.t]⟩;have h2:=h1.K8 (c':={c with tab:=c.tab.dB C c.p a m.seq,t:=c.t.pass a (c.t.epoch+1),q:=[]}) rfl rfl;have e2:c.t.pass a (c.t.epoch+1)=t.pass a (t.epoch+1):=by rw[h.t]
 have e3:c.mode=mode:=h.m;have e4:c.bj=cX:=h.mb;simpa only[e2,e3,e4]using h2
theorem U3 (hT:yV C) (h:HS p a b ka kb ra rb c ha hb t mode cX q) (mB:a≠b) (hm:m.kind=6) (hn:ha<m.seq/\0<=m.seq/\m.seq<=4294967295) (hto:m.bx=b) (hh:t.holder=a) (ho:t.offer<0) (he:t.epoch<65535):
 HS p a b ka kb ra rb (eJ C c a m).1 m.seq hb {t with offer:=b,oa:=.start p.offer} mode cX q/\(eJ C c a m).2=[(b,{kind:=135,fT:=a,epoch:=t.epoch}),(a,{kind:=131,seq:=m.seq})]:=by
 have h1:=(h.bh hT mB hn).2;have e:=(ajT (C:=C) (c:=c) (k:=a) hm).trans (U2 (c:=bt C c a m) (by show a=c.t.holder;rw[h.t];exact hh.symm) (by show c.t.epoch<65535;rw[h.t];exact he) (by rw[hto];exact mB.symm) (by rw[hto];exact h.sb.lk) (by rw[hto];exact h1.sb.on) (by show c.t.offer<0;rw[h.t];exact ho));rw[e];refine⟨?_,by show _=_;simp only[h.t,hto]⟩;have h2:=h1.K8 (c':={c with tab:=c.tab.dB C c.p a m.seq,t:={c.t with offer:=m.bx,oa:=.start c.p.offer}}) rfl rfl;have e2:({c.t with offer:=m.bx,oa:=.start c.p.offer}:Tok)={t with offer:=b,oa:=.start p.offer}:=by rw[h.t,hto,h.p]
 have e3:c.mode=mode:=h.m;have e4:c.bj=cX:=h.mb;have e5:c.q=q:=h.q;simpa only[e2,e3,e4,e5]using h2
theorem N_ (hT:yV C) (h:HS p a b ka kb ra rb c ha hb t mode cX []) (mB:a≠b) (hm:m.kind=7) (hn:ha<m.seq/\0<=m.seq/\m.seq<=4294967295) (ho:t.offer=a) (hh:t.holder=b) (hme:m.epoch=t.epoch) (he:t.epoch<65535):
 HS p a b ka kb ra rb (eJ C c a m).1 m.seq hb (t.pass a (t.epoch+1)) mode cX []/\(eJ C c a m).2=[(b,{kind:=134,fT:=a,epoch:=t.epoch+1}),(a,{kind:=133,epoch:=t.epoch+1}),(a,{kind:=131,seq:=m.seq})]:=by
 have h1:=(h.bh hT mB hn).2;have e:=(ajU (C:=C) (c:=c) (k:=a) hm).trans (IF (c:=bt C c a m) h.sa.lk (by show c.t.offer=a;rw[h.t];exact ho) (by show m.epoch=c.t.epoch;rw[h.t];exact hme) (by show a≠c.t.holder;rw[h.t,hh];exact mB) (by show c.t.epoch<65535;rw[h.t];exact he));rw[e];unfold zK V9;dsimp only;have tD:(c.tab.dB C c.p a m.seq).on a=true:=by rw[Fe h.sa.lk];exact h1.sa.on
 have ae_:(c.tab.dB C c.p a m.seq).on b=true:=by rw[Fe h.sb.lk];exact h1.sb.on
 have eh:c.t.holder=b:=by rw[h.t];exact hh
 rw[eh,sj h.sb.lk ae_,show(c.t.pass a (c.t.epoch+1)).holder=a from rfl,sj h.sa.lk tD,h.q];refine⟨?_,by rw[h.t];rfl⟩;have h2:=h1.K8 (c':={c with tab:=c.tab.dB C c.p a m.seq,t:=c.t.pass a (c.t.epoch+1),q:=Q.drop [] a}) rfl rfl;have e2:c.t.pass a (c.t.epoch+1)=t.pass a (t.epoch+1):=by rw[h.t]
 have e3:c.mode=mode:=h.m;have e4:c.bj=cX:=h.mb;have e5:Q.drop [] a=[]:=rfl;simpa only[e2,e3,e4,e5]using h2
theorem K9 (hT:yV C) (h:HS p a b ka kb ra rb c ha hb t mode cX q) (mB:a≠b) (hn:ha<m.seq/\0<=m.seq/\m.seq<=4294967295) {e:Int} (he:Fb {c with tab:=c.tab.dB C c.p a m.seq} a m=si {c with tab:=c.tab.dB C c.p a m.seq} a m.seq e):
 HS p a b ka kb ra rb (eJ C c a m).1 m.seq hb t mode cX q/\(eJ C c a m).2=[(a,{kind:=132,seq:=m.seq,code:=e})]:=by
 have e1:eJ C c a m=_:=he;rw[e1];exact⟨(h.bh hT mB hn).2,rfl⟩
theorem aaA (hT:yV C) (h:HS p a b ka kb ra rb c ha hb t mode cX q) (mB:a≠b) (hm:m.kind=10) (hn:ha<m.seq/\0<=m.seq/\m.seq<=4294967295) (hh:t.holder=a) (hme:m.epoch=t.epoch) (h1:may p mode ra 0=true) (h2:goes p mode m.mode=true):
 HS p a b ka kb ra rb (eJ C c a m).1 m.seq hb t m.mode ⟨1,a,m.seq⟩ q/\(eJ C c a m).2=[(a,{kind:=131,seq:=m.seq})]:=by
 have h3:=(h.bh hT mB hn).2;have er:(c.tab.dB C c.p a m.seq).role a=ra:=by
  unfold Tab.role;have:=h3.sa.on;rw[if_pos this];exact h3.sa.role
 have e:=(IH (C:=C) (c:=c) (k:=a) hm).trans (aaz (c:=bt C c a m) hm (by show a=c.t.holder;rw[h.t,hh]) (by show m.epoch=c.t.epoch;rw[h.t,hme]) (by show may c.p c.mode ((c.tab.dB C c.p a m.seq).role a) 0=true;rw[er,h.p,h.m];exact h1) (by show goes c.p c.mode m.mode=true;rw[h.p,h.m];exact h2));rw[e];refine⟨?_,rfl⟩;have h4:=h3.K8 (c':={c with tab:=c.tab.dB C c.p a m.seq,mode:=m.mode,bj:=⟨1,a,m.seq⟩}) rfl rfl;have e2:c.t=t:=h.t;have e5:c.q=q:=h.q;simpa only[e2,e5]using h4
end Sd
namespace Sd
variable{C:Crypt} {s:Scene} {c:Core} {k r:Int}
def Scene.clear (s:Scene):Scene:=⟨s.c,[],[]⟩
def uV (C:Crypt) (c:Core) (k:Int):Byt:=C.ae (c.p.k 3) k ((c.doors (k.toNat-1)).many+1)
def nK (C:Crypt) (c:Core) (k:Int):Core:=nI c k ⟨(c.doors (k.toNat-1)).many+1,true,uV C c k⟩
def abW (c:Core) (k:Int):Core:=nI c k ⟨(c.doors (k.toNat-1)).many+1,false,λ_=>0⟩
def gC (C:Crypt) (c:Core) (k r:Int):Core:={abW c k with tab:=c.tab.dT (k.toNat-1) ⟨true,.start c.p.bh,r,C.key (c.p.k (k.toNat-1)) k r (uV C c k),⟨false,0,0⟩⟩}
theorem Oa (c:Core) (k:Int) (d:dQ):nI (nI c k d) k ⟨((nI c k d).doors (k.toNat-1)).many,false,λ_=>0⟩=nI c k ⟨d.many,false,λ_=>0⟩:=by
 unfold nI;simp only[if_true];congr 1;funext j;split<;>rfl
theorem II {N:Nat} {f:Byt} (h0:f 0=1) (hN:0<N):s.item C k 0 N f=s.gW C k N f:=by
 unfold Scene.item;rw[if_neg (by decide),if_pos ⟨hN,h0⟩]
theorem IJ {N:Nat} {f:Byt} (h0:f 0=2) (hN:0<N):s.item C k 0 N f=s.prove C k N f:=by
 unfold Scene.item;rw[if_neg (by decide),if_neg (by omega),if_pos ⟨hN,h0⟩]
variable{f1 f2:Byt}
theorem uA (hT:yV C) (h:s.at_ c []) (hr:0<=r/\r<=3) (ht:fm c.p k r=true) (hm:(c.doors (k.toNat-1)).many<4294967295) (h0:f1 0=1) (h1:f1 1=r):
 (s.item C k 0 2 f1).at_ (nK C c k) [(k,{kind:=129,ae:=uV C c k})]:=by
 obtain⟨m,e1,e2⟩:=hT.gW r f1 hr h0 h1;rw[II h0 (by decide)];exact UY h e1 (by rw[e2];exact ht) hm
theorem Ob {p:Pol} {t:Tab} {key:Byt} (hk:1<=k/\k<=3) (hr:0<=r/\r<=3) (hs:t.cZ k=true\/t.many<p.aR):Tab.br p t k r key=(t.dT (k.toNat-1) ⟨true,.start p.bh,r,key,⟨false,0,0⟩⟩,0):=by
 unfold Tab.br;rw[if_neg (by omega),if_neg (by rintro⟨a,b⟩;rcases hs with e|e;rw[e]at a;cases a;omega)]
theorem Oc (hT:yV C) (h:s.at_ (nK C c k) []) (hk:1<=k/\k<=3) (hr:0<=r/\r<=3) (ht:fm c.p k r=true) (h0:f2 0=2) (h1:f2 1=r) (hp:C.right (c.p.k (k.toNat-1)) k r (uV C c k) (λj=>f2 (2+j))=true)
 (hs:c.tab.cZ k=true\/c.tab.many<c.p.aR):(s.item C k 0 10 f2).at_ (gC C c k r) [(k,{kind:=130,role:=r,fT:=c.t.holder,epoch:=c.t.epoch})]:=by
 obtain⟨m,e1,rfl⟩:=hT.prove r f2 hr h0 h1;rw[IJ h0 (by decide)];have hd:(nK C c k).doors (k.toNat-1)=⟨(c.doors (k.toNat-1)).many+1,true,uV C c k⟩:=if_pos rfl;have:=UZ h e1 (by rw[hd]) (by rw[hd];exact hp) ht (Ob (key:=C.key ((nK C c k).p.k (k.toNat-1)) k m.role ((nK C c k).doors (k.toNat-1)).ae) hk hr hs);rw[if_neg (by decide),if_neg (by decide)]at this;have e:nI (nK C c k) k ⟨((nK C c k).doors (k.toNat-1)).many,false,λ_=>0⟩=abW c k:=Oa c k _;rw[e,hd]at this;exact this
theorem zY (hk:1<=k/\k<=3):FA (gC C c k r) k (C.key (c.p.k (k.toNat-1)) k r (uV C c k)) r 0:=by
 refine⟨hk,?_,?_,?_,?_,?_⟩<;>simp[gC,jD hk,Tab.dT]
theorem U4 {k':Int} {key:Byt} {role hi:Int} (h:FA c k' key role hi) (hk:1<=k/\k<=3) (e_:k≠k'):FA (gC C c k r) k' key role hi:=by
 have hl:=h.lk;have e:(gC C c k r).tab.ay (k'.toNat-1)=c.tab.ay (k'.toNat-1):=by
  unfold gC Tab.dT;dsimp only;rw[if_neg (by omega)]
 obtain⟨a1,a2,a3,a4,a5,a6⟩:=h;rw[jD a1]at a2;exact⟨a1,by rw[jD a1,e];exact a2,by rw[e];exact a3,by rw[e];exact a4,by rw[e];exact a5,by rw[e];exact a6⟩
theorem U5 {k':Int} (hk:1<=k/\k<=3) (Ej:1<=k'/\k'<=3) (e_:k≠k') (h:c.tab.cZ k'=false):(gC C c k r).tab.cZ k'=false:=by
 rw[jD Ej]at h⊢;unfold gC Tab.dT;dsimp only;rw[if_neg (by omega)];exact h
theorem IK (t:Tab) (a1 a2 a3:Bool) (h1:t.cZ 1=a1) (h2:t.cZ 2=a2) (h3:t.cZ 3=a3):t.many=(if a1 then 1 else 0)+(if a2 then 1 else 0)+(if a3 then 1 else 0):=by
 rw[jD (by decide)]at h1 h2 h3;unfold Tab.many;rw[<-h1,<-h2,<-h3];rfl
end Sd
namespace Go.Proofs.YtggfpcggakghnaaGreatDoor
open Go Go.RowKit Go.BigFrame Sx Vx
theorem Od {h f g:Nat->Int} {n:Nat} (e:∀j,j<n->f j=g j):iF h 0 n f=iF h 0 n g:=by
 funext j;unfold iF;cases hb:Nat.ble 0 j&&Nat.blt j (0+n)with
 |false=>rfl
 |true=>
  simp only[cond_true];rw[Bool.and_eq_true]at hb;have h2:=hb.2;unfold Nat.blt at h2;have:=Nat.le_of_ble_eq_true h2;exact e _ (by omega)
theorem IL {f g:Nat->Int} {n:Nat} (e:∀j,j<n->f j=g j):ji n f=ji n g:=by
 unfold ji abc P8 tm;rw[Od e]
theorem zZ {h f g:Nat->Int} {n m:Nat} (e:∀j,j<m->f j=g j):∀j,j<n+m->bI n h f j=bI n h g j:=by
 intro j hj;unfold bI;cases hb:Nat.blt j n with
 |true=>rfl
 |false=>
  simp only[cond_false];refine e _ ?_;have:¬j<n:=λh=>by rw[CK h]at hb;cases hb
  omega
theorem yk {f g:Nat->Int} {n j:Nat} (h:j<n):bI n f g j=f j:=by unfold bI;rw[CK h];rfl
theorem afX {f g:Nat->Int} {n j:Nat}:bI n f g (n+j)=g j:=by unfold bI;rw[I4 (by omega)];simp
theorem IM {kn:Nat} {kf d d':Nat->Int} {n:Nat} (e:∀j,j<n->d j=d' j):fA kn kf n d=fA kn kf n d':=by
 unfold fA;rw[IL (n:=64+n) (zZ e)]
theorem IN {k f g:Nat->Int} {s:Int} {m:Nat} (e:∀j,j<m->f j=g j):∀j,j<m+8->cO k s m f j=cO k s m g j:=by
 intro j hj;unfold cO;have h:fA 32 k (1+1+m) (jS 1 1 (λ_=>77) (aq 1 (s%256)) f)=fA 32 k (1+1+m) (jS 1 1 (λ_=>77) (aq 1 (s%256)) g):=IM (λj hj=>zZ e j hj);rw[h];by_cases hjm:j<m
 ·rw[yk hjm,yk hjm];exact e j hjm
 ·unfold bI;rw[I4 hjm];rfl
theorem xor_self (kd:IntKind) (x:Int):bits .xor kd x x=kd.wrap 0:=by simp[bits]
theorem Fg {f g:Nat->Int}:∀n,(∀j,j<n->f j=g j)->Ll f g n=0
 |0,_=>rfl
 |n+1,h=>by
  show bits .or .u8 (Ll f g n) (bits .xor .u8 (f n) (g n))=0;rw[Fg n λj hj=>h j (by omega),h n (by omega),xor_self];rfl
theorem yl {f g:Nat->Int} {n:Nat} (h:∀j,j<n->f j=g j):kq n f g=true:=by
 unfold kq;rw[Fg n h];rfl
theorem Fh (k f:Nat->Int) (s:Int) (m:Nat):eV k s m (cO k s m f)=true:=by
 unfold eV;refine yl λj hj=>(IN (λi hi=>?_) j hj);unfold cO;exact(yk hi).symm
theorem Fi {k f:Nat->Int} {s:Int} {m j:Nat} (h:j<m):cO k s m f j=f j:=by unfold cO;exact yk h
theorem Fj (kn:Nat) (kf nc pf:Nat->Int) (s r:Int) (h:∀j,j<8->pf j=eF kn kf s r nc j):lY kn kf s r nc pf=true:=yl h
theorem K_ {k r:Int} (hk:k=1\/k=2) {f:Nat->Int} (hr:0<=r/\r<=3) (h0:f 0=k) (h1:f 1=r):aT 2 f=some {Sd.aD k with role:=r}:=by
 unfold aT;rw[if_neg (by decide),h0];have e:kz k=some [oS]:=by unfold kz;rw[if_pos hk]
 rw[e];show runM 2 f [oS] 1 (Sd.aD k)=_;unfold runM;have en:oS.num (λj=>f (1+j))=r:=h1;rw[if_neg (by decide),en,if_neg (by show¬(r<0\/3<r);omega)];rfl
theorem U6 {w:Sd.cN} {n:Int} (h:w.any=false\/w.high<n):dD w n≠w/\(dD w n).high=n:=by
 unfold dD;by_cases ha:w.any=false
 ·rw[if_pos ha];exact⟨(λe=>by rw[<-e]at ha;cases ha),rfl⟩
 ·rw[if_neg ha,if_pos (h.resolve_left ha)];exact⟨(λe=>by have h1:=congrArg Sd.cN.high e;have:=h.resolve_left ha;simp only at h1;omega),rfl⟩
theorem iI:Sd.yV (ah aT):=
 ⟨λr f hr h0 h1=>⟨_,K_ (.inl rfl) hr h0 h1,rfl⟩,λr f hr h0 h1=>⟨_,K_ (.inr rfl) hr h0 h1,rfl⟩,λw n _ _ h=>U6 h⟩
theorem aaB {f:Nat->Int} {v:Int} (h:0<=v/\v<=4294967295) (h0:f 1=aq 4 (u64.wrap v) 0) (h1:f 2=aq 4 (u64.wrap v) 1) (h2:f 3=aq 4 (u64.wrap v) 2) (h3:f 4=aq 4 (u64.wrap v) 3):ig.num (λj=>f (1+j))=v:=by
 have:=afO h;rw[abU (fk _ _ _) (fk _ _ _) (fk _ _ _) (fk _ _ _)]at this;show((f 1*256+f 2)*256+f 3)*256+f 4=v;rw[h0,h1,h2,h3];exact this
theorem La {f:Nat->Int} {v:Int} {o:Nat} (h:0<=v/\v<=65535) (h0:f o=aq 2 (u64.wrap v) 0) (h1:f (o+1)=aq 2 (u64.wrap v) 1):gf.num (λj=>f (o+j))=v:=by
 have:=UR h;rw[abT (fk _ _ _) (fk _ _ _)]at this;show f o*256+f (o+1)=v;rw[h0,h1];exact this
theorem one_num {f:Nat->Int} {v:Int} {o:Nat} (h:0<=v/\v<=255) (h0:f o=aq 1 (u64.wrap v) 0):f o=v:=by
 have:=E7 h;rw[UQ (fk _ _ _)]at this;rw[h0];exact this
structure IP (f:Nat->Int) (k v:Int):Prop where
 hk:f 0=k
 hv:0<=v/\v<=4294967295
 b1:f 1=aq 4 (u64.wrap v) 0
 b2:f 2=aq 4 (u64.wrap v) 1
 b3:f 3=aq 4 (u64.wrap v) 2
 b4:f 4=aq 4 (u64.wrap v) 3
theorem tY {f:Nat->Int} {k v:Int} {n:Nat} {l:List Fd} (h:IP f k v) (hl:kz k=some (ig::l)) (hn:5<=n):aT n f=runM n f l 5 {Sd.aD k with seq:=v}:=by
 have hv:=h.hv;unfold aT;rw[if_neg (by omega),h.hk,hl];show runM n f (ig::l) 1 (Sd.aD k)=_;rw[runM,if_neg (by show¬(n-1<4);omega),aaB h.hv h.b1 h.b2 h.b3 h.b4,if_neg (by show¬(v<0\/4294967295<v);omega)];rfl
theorem ajV {f:Nat->Int} {v:Int} (h:IP f 3 v):aT 5 f=some {Sd.aD 3 with seq:=v}:=by rw[tY h rfl (Nat.le_refl _)];rfl
theorem ajW {f:Nat->Int} {v:Int} (h:IP f 9 v):aT 5 f=some {Sd.aD 9 with seq:=v}:=by rw[tY h rfl (Nat.le_refl _)];rfl
theorem ajX {f:Nat->Int} {v:Int} {b:Bool} (h:IP f 5 v) (h5:f 5=aq 1 (u64.wrap (if b then 1 else 0)) 0):aT 6 f=some {Sd.aD 5 with seq:=v,now:=b}:=by
 rw[tY (l:=[D0]) h rfl (by decide),runM,if_neg (by decide)];have e:D0.num (λj=>f (5+j))=if b then 1 else 0:=one_num (o:=5) (by cases b<;>decide) h5
 rw[e,if_neg (by cases b<;>decide)];cases b<;>rfl
theorem ajY {f:Nat->Int} {v w:Int} (h:IP f 6 v) (hw:0<=w/\w<=4) (h5:f 5=aq 1 (u64.wrap w) 0):aT 6 f=some {Sd.aD 6 with seq:=v,bx:=w}:=by
 rw[tY (l:=[rN]) h rfl (by decide),runM,if_neg (by decide)];have e:rN.num (λj=>f (5+j))=w:=one_num (o:=5) (by omega) h5;rw[e,if_neg (by show¬(w<0\/4<w);omega)];rfl
theorem ajZ {f:Nat->Int} {v w:Int} (h:IP f 7 v) (hw:0<=w/\w<=65535) (h5:f 5=aq 2 (u64.wrap w) 0) (h6:f 6=aq 2 (u64.wrap w) 1):aT 7 f=some {Sd.aD 7 with seq:=v,epoch:=w}:=by
 rw[tY (l:=[gf]) h rfl (by decide),runM,if_neg (by decide),La (o:=5) hw h5 h6,if_neg (by show¬(w<0\/65535<w);omega)];rfl
theorem afY {f:Nat->Int} {v w x:Int} (h:IP f 10 v) (hw:0<=w/\w<=65535) (hx:0<=x/\x<=4) (h5:f 5=aq 2 (u64.wrap w) 0) (h6:f 6=aq 2 (u64.wrap w) 1) (h7:f 7=aq 1 (u64.wrap x) 0):
 aT 8 f=some {Sd.aD 10 with seq:=v,epoch:=w,mode:=x}:=by
 rw[tY (l:=[gf,rj]) h rfl (by decide),runM,if_neg (by decide),La (o:=5) hw h5 h6,if_neg (by show¬(w<0\/65535<w);omega)];show runM 8 f [rj] 7 _=_;rw[runM,if_neg (by decide)];have e:rj.num (λj=>f (7+j))=x:=one_num (o:=7) (by omega) h7;rw[e,if_neg (by show¬(x<0\/4<x);omega)];rfl
end Go.Proofs.YtggfpcggakghnaaGreatDoor
