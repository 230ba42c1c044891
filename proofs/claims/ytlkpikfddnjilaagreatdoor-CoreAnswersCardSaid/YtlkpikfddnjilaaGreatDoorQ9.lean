/- Part 9 of the proof. -/
import Derived.Test.YtlkpikfddnjilaaGreatDoorQ8
set_option linter.all false
set_option maxRecDepth 100000
set_option maxHeartbeats 4000000
open Go.Proofs.Tryz
namespace Go.Proofs.YtlkpikfddnjilaaGreatDoor
open Go Go.RowKit Go.BigFrame Sx
def tWF (f:Nat->Int) (x:Int):Nat->Nat->Int
 |0=>λ_=>0
 |k+1=>oI (tWF f x k) k (bits .xor .u8 (f k) x)
def eW (f:Nat->Int) (x:Int):Nat->Int:=λj=>bits .xor .u8 (f j) x
theorem NZ (f:Nat->Int) (x:Int):∀(k j:Nat),j<k->tWF f x k j=eW f x j
 |k+1,j,h=>by
  by_cases e:j=k
  ·subst e;exact Hr _ _ _
  ·exact(yW _ _ e).trans (NZ f x k j (by omega))
theorem N0 (f:Nat->Int) (x:Int):ai .u8 64 (tWF f x 64)=ai .u8 64 (eW f x):=EB _ λi h=>NZ f x 64 i h
theorem J3 {f:Nat->Int} {x:Int} (i:Int) (W:Nat->Int) (h:0<=i) (e:W=tWF f x i.toNat):oI W (0+i.toNat*1) (bits .xor .u8 (f i.toNat) x)=tWF f x (i+1).toNat:=by
 have h1:(i+1).toNat=i.toNat+1:=by omega
 rw[h1,e,Nat.zero_add,Nat.mul_one];rfl
theorem x_ {n m c:Nat} {f g:Nat->Int} (e:n=m) (h:∀i,i<m->f i=g i):cN n f c=cN m g c:=by
 subst e;unfold cN;rw[xM h]
def kj (n1 n2:Nat) (f g h:Nat->Int):Nat->Int:=cy (n1+n2) (cy n1 f g) h
def N1 (n1 n2 n3:Nat) (f g h k:Nat->Int):Nat->Int:=cy (n1+n2+n3) (cy (n1+n2) (cy n1 f g) h) k
theorem HT (f:Nat->Int) (y:Int) (w:World):
 ak prog 227 #[.agg (ai .u8 64 f),.int .u8 y] w λv w1=>∃b,v=.slice (some ⟨b,0,none⟩) 64 64/\w.heap.size<=b/\w1.heap[b]?=some (.cells (ai .u8 64 (eW f y)) 5 (0,0))/\Ch [] w w1:=by
 have S0:=St.nil [] w;refine ct Tryz.func227 rfl ?_;refine ao (aw ?_);refine cq S0 (λb=>.pointer (some ⟨b,0,none⟩)) (.cells (ai .u8 64 f) 211) ?_;intro bQ lU fm;refine aa (.slice none 0 0) ?_;refine au (ae (ao (aw ?_)));refine cq fm (λb=>.slice (some ⟨b,0,none⟩) 64 64) (.cells (ai .u8 64 (λ_=>0)) 5) ?_;intro fF uc eI;refine bm ?_;refine au (ae (ao (ao (aw ?_))));refine c_ eI 1 64 (ai .u8 64 f) bQ 0 ?_;refine aa (.int .i64 0) ?_;refine au (ae (wp_block ?_));refine yX (λzn za zw=>∃(i:Int) (W:Nat->Int) (J4:Nat->Value),(zn=(64-i).toNat/\0<=i/\i<=64/\W=tWF f y i.toNat)/\za=⟨#[.agg (ai .u8 64 f),.int .u8 y,.pointer (some ⟨bQ,0,none⟩),undef,.slice none 0 0,.slice (some ⟨fF,0,none⟩) 64 64,(J4 6),(J4 7),.slice (some ⟨fF,0,none⟩) 64 64,.agg (ai .u8 64 f),.int .i64 i,(J4 11),(J4 12),(J4 13),(J4 14),(J4 15),(J4 16),(J4 17),(J4 18),(J4 19),(J4 20),undef],[]⟩/\St [] w [⟨fF,true,.cells (ai .u8 64 W) 5 (0,0)⟩,⟨bQ,true,.cells (ai .u8 64 f) 211 (0,0)⟩] zw) _ (λzy Cj=>⟨(0:Int),(λ_=>0),(λd=>zy.tmps.getD d undef),⟨rfl,by omega,by omega,rfl⟩,by subst Cj;kernel_rfl,eI.re (R:=([]:List ax)) [[⟨fF,true,.cells (ai .u8 64 (λ_=>0)) 5 (0,0)⟩],[⟨bQ,true,.cells (ai .u8 64 f) 211 (0,0)⟩]] [0,1]⟩) ?_;rintro _ _ N2 ⟨i,W,J4,⟨rfl,zf8,zf9,aeG⟩,rfl,iH⟩;refine ao (aw ?_);refine aa (.bool (decide (i<64))) ?_;refine au (ae (ao ?_));refine jl (decide (i<64)) ?_ ?_
 ·intro nU;have xy:=Er nU;refine wp_skip (ae (ao (wp_block (ao (aw ?_)))));refine aa (.int .i64 i) ?_;refine TT (e:=5) .u8 64 f .i64 i (by omega) (by omega) ?_;refine aa (.int .i64 i) ?_;refine aa (.int .u8 (f (i).toNat)) ?_;refine au (ae (aw ?_));refine bJ ?_;refine aa (.int .i64 i) ?_;refine aa (.int .u8 (f (i).toNat)) ?_;refine aa (.int .u8 y) ?_;refine aa (.int .u8 (bits .xor .u8 (f (i).toNat) y)) ?_;refine lS (e:=5) fF 0 (i).toNat 64 1 64 .i64 i (by omega) (by omega) rfl ?_;refine store_ iH 0 (.int .u8 (bits .xor .u8 (f (i).toNat) y)) fF (0+(i).toNat*1) ?_ (hb:=ckF (t:=5) (kd:=.u8) (n:=64) (f:=W) (by omega));intro zH mK;have gK:St [] w [⟨fF,true,.cells (ai .u8 64 (oI W (0+(i).toNat*1) (bits .xor .u8 (f (i).toNat) y))) 5 (0,0)⟩,⟨bQ,true,.cells (ai .u8 64 f) 211 (0,0)⟩] zH:=St.stF (t:=5) (kd:=.u8) (n:=64) (f:=W) (i:=0) (off:=(0+(i).toNat*1)) (b:=fF) mK (by omega);refine au (gL (ae (aw ?_)));refine j9 .i64 (i+1) (IntWalk.i64_in _ (by omega)) ?_;refine aa (.int .i64 (i+1)) ?_;refine au ?_;refine uL λzy Cj=>?_;exact⟨_,by omega,(i+1),(oI W (0+(i).toNat*1) (bits .xor .u8 (f (i).toNat) y)),(λd=>zy.tmps.getD d undef),⟨rfl,by omega,by omega,J3 i W (by omega) aeG⟩,by subst Cj;kernel_rfl,gK.re (R:=([]:List ax)) [[⟨fF,true,.cells (ai .u8 64 (oI W (0+(i).toNat*1) (bits .xor .u8 (f (i).toNat) y))) 5 (0,0)⟩],[⟨bQ,true,.cells (ai .u8 64 f) 211 (0,0)⟩]] [0,1]⟩
 intro N3;have tM:=Es N3;refine wp_exit (fa (fa (pM (ae (ao (aw ?_))))));refine bJ ?_;refine bm ?_;refine au (ae (wp_ret ?_));refine eD rfl (ei [.tmp 4] [.slice (some ⟨fF,0,none⟩) 64 64] (.slice (some ⟨fF,0,none⟩) 64 64) ⟨bo,trivial⟩) ?_;have ze:ai .u8 64 W=ai .u8 64 (eW f y):=by rw[aeG,show i.toNat=64 by omega];exact N0 f y
 exact⟨fF,rfl,(iH.own 0 _ rfl rfl).resolve_left (by simp),by rw[<-ze];exact iH.at_ 0 _ rfl,iH.ch⟩
theorem HU (pb:Nat) (b0 o0 n0 c0:Nat) (f0:Nat->Int) (b1 o1 n1 c1:Nat) (f1:Nat->Int) (h0:0<n0) (hn:n0+n1<=1000000) (w:World) (hp:w.heap[pb]?=some (.cells #[.slice (some ⟨b0,o0,none⟩) n0 c0,.slice (some ⟨b1,o1,none⟩) n1 c1] 23 (0,0))) (UE:fl w b0 o0 n0 f0) (UF:fl w b1 o1 n1 f1):
 ak prog 226 #[.slice (some ⟨pb,0,none⟩) 2 2] w λv w1=>∃b c1,v=.slice (some ⟨b,0,none⟩) (n0+n1) c1/\n0+n1<=c1/\w.heap.size<=b/\w1.heap[b]?=some (.cells (cN (n0+n1) (cy n0 f0 f1) c1) 5 (0,0))/\Ch [] w w1:=by
 have S0:=St.given (w:=w) [(pb,.cells #[.slice (some ⟨b0,o0,none⟩) n0 c0,.slice (some ⟨b1,o1,none⟩) n1 c1] 23 (0,0))] (all_cons hp (all_nil));refine ct Tryz.func226 rfl ?_;refine ao (aw ?_);refine aa (.slice none 0 0) ?_;refine au (ae (ao (aw ?_)));refine aa (.slice none 0 0) ?_;refine au (ae (ao (ao (aw ?_))));refine bJ ?_;refine aa (.int .i64 2) ?_;refine aa (.int .i64 0) ?_;refine au (ae (wp_block (Bx 24 (ao (aw ?_)))));refine aa (.bool true) ?_;refine au (ae (ao (jk ?_)));refine wp_skip (ae (ao (wp_block (ao (aw ?_)))));refine aa (.pointer (some ⟨pb,0,none⟩)) ?_;refine eh S0 0 (.slice (some ⟨b0,o0,none⟩) n0 c0) pb 0 ?_;refine bm ?_;refine au (ae (aw ?_));refine aa (.slice none 0 0) ?_;refine bJ ?_;have zS7:St [] w ([⟨pb,false,.cells #[.slice (some ⟨b0,o0,none⟩) n0 c0,.slice (some ⟨b1,o1,none⟩) n1 c1] 23 (0,0)⟩]++([]:List ax)) w:=S0.re (R:=([]:List ax)) [[⟨pb,false,.cells #[.slice (some ⟨b0,o0,none⟩) n0 c0,.slice (some ⟨b1,o1,none⟩) n1 c1] 23 (0,0)⟩]] [0];have Tp:St [] w ([⟨pb,false,.cells #[.slice (some ⟨b0,o0,none⟩) n0 c0,.slice (some ⟨b1,o1,none⟩) n1 c1] 23 (0,0)⟩]++([]++([]:List ax))) w:=zS7.conv (by kernel_rfl);refine BE (n:=0) (c:=0) (f:=(λ_=>0)) (g:=f0) (xv:=.slice (some ⟨b0,o0,none⟩) n0 c0) Tp (uM 5) (Ju (e':=5) (St.iE S0 UE (by simp))) (by omega) ?_;intro zx2 zc3 zq1 uc zh4 eI;have aie:=pW zh4 (by omega);obtain⟨zb9,rZ,jy,iI⟩:=aie;subst jy;subst iI;refine bm ?_;refine au (gL (ae (aw ?_)));refine aa (.int .i64 1) ?_;refine aa (.int .i64 1) ?_;refine au (k7 (ao (aw ?_)));refine aa (.bool true) ?_;refine au (ae (ao (jk ?_)));refine wp_skip (ae (ao (wp_block (ao (aw ?_)))));refine aa (.pointer (some ⟨pb,1,none⟩)) ?_;refine eh eI 0 (.slice (some ⟨b1,o1,none⟩) n1 c1) pb 1 ?_;refine bm ?_;refine au (ae (aw ?_));refine bJ ?_;refine bJ ?_;have nV:St [] w ([⟨pb,false,.cells #[.slice (some ⟨b0,o0,none⟩) n0 c0,.slice (some ⟨b1,o1,none⟩) n1 c1] 23 (0,0)⟩]++([⟨zb9,true,.cells (cN (0+n0) (cy 0 (λ_=>0) f0) zc3) 5 (0,0)⟩]++([]:List ax))) uc:=eI.re (R:=([]:List ax)) [[⟨pb,false,.cells #[.slice (some ⟨b0,o0,none⟩) n0 c0,.slice (some ⟨b1,o1,none⟩) n1 c1] 23 (0,0)⟩],[⟨zb9,true,.cells (cN (0+n0) (cy 0 (λ_=>0) f0) zc3) 5 (0,0)⟩]] [0,1];refine BE (n:=(0+n0)) (c:=zc3) (f:=(cy 0 (λ_=>0) f0)) (g:=f1) (xv:=.slice (some ⟨b1,o1,none⟩) n1 c1) nV ⟨rZ,.inr ⟨_,rfl,rfl⟩⟩ (Ju (e':=5) (St.iE eI UF (by simp))) (by omega) ?_;intro akI kK akJ zI J5 r9;have aif:=pW J5 (by omega);obtain⟨lx,vg,zJ,tN⟩:=aif;subst zJ;subst tN;refine bm ?_;refine au (gL (ae (aw ?_)));refine aa (.int .i64 2) ?_;refine aa (.int .i64 2) ?_;refine au (k7 (ao (aw ?_)));refine aa (.bool false) ?_;refine au (ae (ao (gv ?_)));refine wp_exit (fa (fa (pM (ae (ao (aw ?_))))));refine bJ ?_;refine bm ?_;refine au (ae (wp_ret ?_));refine eD rfl (ei [.tmp 2] [.slice (some ⟨lx,0,none⟩) ((0+n0)+n1) kK] (.slice (some ⟨lx,0,none⟩) ((0+n0)+n1) kK) ⟨bo,trivial⟩) ?_;have ze:cN ((0+n0)+n1) (cy (0+n0) (cy 0 (λ_=>0) f0) f1) kK=cN (n0+n1) (cy n0 f0 f1) kK:=x_ (by omega) λi hi=>by simp only[ah7,kj,N1,Nat.zero_add]
 exact⟨lx,kK,by rw[show((0+n0)+n1)=n0+n1 by omega],by have:=vg;omega,(r9.own 1 _ rfl rfl).resolve_left (by simp),by rw[<-ze];exact r9.at_ 1 _ rfl,r9.ch⟩
def gm (kn:Nat) (kf:Nat->Int) (n:Nat) (d:Nat->Int):Nat->Int:=jR (64+32) (cy 64 (eW (iD (λ_=>0) 0 kn kf) 92) (jR (64+n) (cy 64 (eW (iD (λ_=>0) 0 kn kf) 54) d)))
def orF (f g:Nat->Int):Nat->Int
 |0=>0
 |k+1=>bits .or .u8 (orF f g k) (bits .xor .u8 (f k) (g k))
theorem UG {f g:Nat->Int} (i s:Int) (h:0<=i) (e:s=orF f g i.toNat):bits .or .u8 s (bits .xor .u8 (f i.toNat) (g i.toNat))=orF f g (i+1).toNat:=by
 have h1:(i+1).toNat=i.toNat+1:=by omega
 rw[h1,e];rfl
def j4 (n:Nat) (f g:Nat->Int):Bool:=orF f g n==0
theorem Tq (ka:Option Addr) (kn kc:Nat) (kf:Nat->Int) (b o n c:Nat) (d:Nat->Int) (hkn:1<=kn/\kn<=64) (hn:n<=55) {tG:TypeId} (w:World) (hG:w.heap[(0)]?=some (.cells (ai .u32 64 aT) tG (0,0))) (hk:cn w ka kn kc kf) (hB:fl w b o n d):
 ak prog 205 #[.slice ka kn kc,.slice (some ⟨b,o,none⟩) n c] w λv w1=>v=.agg (ai .u8 32 (gm kn kf n d))/\Ch [] w w1:=by
 have S0:=St.given (w:=w) [((0),.cells (ai .u32 64 aT) tG (0,0))] (all_cons hG (all_nil));refine ct Tryz.func205 rfl ?_;refine ao (aw ?_);refine cq S0 (λb=>.pointer (some ⟨b,0,none⟩)) (.cells (ai .u8 32 (λ_=>0)) 50) ?_;intro bQ lU fm;refine au (ae (ao (aw ?_)));refine cq fm (λb=>.pointer (some ⟨b,0,none⟩)) (.cells (ai .u8 64 (λ_=>0)) 211) ?_;intro fF uc eI;refine au (ae (ao (ao (aw ?_))));refine aa (.slice ka kn kc) ?_;refine aa (.int .i64 ((kn:Nat):Int)) ?_;refine e_ (.bool (decide (64<((kn:Nat):Int)))) (.bool false) (congrArg Value.bool (ltF (by omega))) ?_;refine au (ae (gv ?_));refine aw ?_;refine aa (.slice (some ⟨fF,0,none⟩) 64 64) ?_;refine aa (.slice ka kn kc) ?_;refine Z5 (elem:=5) (t:=211) eI 0 fF 64 0 64 64 (λ_=>0) ka kn kc kf (cn.quiet hk eI.ch) (by omega) (by omega) (by omega) (by kernel_rfl) (by kernel_rfl:_=[⟨fF,true,.cells (ai .u8 64 (iD (λ_=>0) 0 kn kf)) 211 (0,0)⟩,⟨bQ,true,.cells (ai .u8 32 (λ_=>0)) 50 (0,0)⟩,⟨(0),false,.cells (ai .u32 64 aT) tG (0,0)⟩]) ?_;intro YL Tp;refine au (ae (ao (aw ?_)));refine c_ Tp 0 64 (ai .u8 64 (iD (λ_=>0) 0 kn kf)) fF 0 ?_;refine cd 227 #[.agg (ai .u8 64 (iD (λ_=>0) 0 kn kf)),.int .u8 54] ?_;refine(HT (iD (λ_=>0) 0 kn kf) 54 _).mono ?_;rintro _ zw9 ⟨UH,rfl,nU,xy,jy⟩;have vh:=Tp.new jy nU xy;refine bJ ?_;refine cq vh (λb=>.slice (some ⟨b,0,none⟩) 2 2) (.cells #[.slice (some ⟨UH,0,none⟩) 64 64,.slice (some ⟨b,o,none⟩) n c] 23) ?_;intro mL UI gK;refine cd 226 #[.slice (some ⟨mL,0,none⟩) 2 2] ?_;refine(HU mL UH 0 64 64 (eW (iD (λ_=>0) 0 kn kf) 54) b o n c d (by omega) (by omega) _ (gK.at_ 0 _ rfl) (St.dG (N:=64) (f:=(eW (iD (λ_=>0) 0 kn kf) 54)) (wr:=true) (t:=5) (fr:=(0,0)) gK 1) (St.iE gK hB (by simp))).mono ?_;rintro _ zI ⟨lx,E0,rfl,tN,vg,N5,tM⟩;have nV:=gK.new tM vg N5;refine cd 72 #[.slice (some ⟨lx,0,none⟩) (64+n) E0] ?_;refine(zG lx 0 (64+n) E0 (cy 64 (eW (iD (λ_=>0) 0 kn kf) 54) d) (by omega) _ (nV.at_ 5 _ rfl) (St.yZ (c:=E0) (wr:=true) (t:=5) (fr:=(0,0)) nV 0)).mono ?_;rintro _ UJ ⟨rfl,iJ⟩;have N6:=nV.quiet iJ;refine cq N6 (λb=>.pointer (some ⟨b,0,none⟩)) (.cells (ai .u8 32 (λ_=>0)) 50) ?_;intro J6 UK vi;refine store_ vi 0 (.agg (ai .u8 32 (jR (64+n) (cy 64 (eW (iD (λ_=>0) 0 kn kf) 54) d)))) J6 0 ?_;intro aeH vj;refine au (ae (ao ?_));refine gY 3 [⟨0,λ_=>.agg (ai .u8 64 (iD (λ_=>0) 0 kn kf)),λ_=>[]⟩,⟨1,λids=>.slice (some ⟨(ids.getD 0 0),0,none⟩) 64 64,λids=>[((ids.getD 0 0),.cells (ai .u8 64 (eW (iD (λ_=>0) 0 kn kf) 92)) 5 (0,0))]⟩,⟨0,λ_=>.slice (some ⟨J6,0,none⟩) 32 32,λ_=>[]⟩] [[3,1,0],[3,1],[3,2],[4,1,0],[4,1],[4,3,2],[4,3],[5,4,1,0],[5,4,1],[5,4,3,2],[5,4,3],[5,4],[6,0],[6,1],[6,2],[6,3],[6,4],[6,5]] ?_ ?_
 ·refine step_cons (TM vj 4 fF 0 64 (ai .u8 64 (iD (λ_=>0) 0 kn kf))) ?_;refine step_cons ?_ ?_
  ·intro aih akK YM akn aeI;have r_:aih 25=.agg (ai .u8 64 (iD (λ_=>0) 0 kn kf)):=(Sp.bg (aeI 0 25 (by kernel_rfl) (by kernel_rfl))).1;have aii:=vj.quiet YM;refine jV ?_;refine kE [(25,.agg (ai .u8 64 (iD (λ_=>0) 0 kn kf)))] (cu r_ (fL)) ?_;have tO:=aii.loc;refine Y.cd 227 #[.agg (ai .u8 64 (iD (λ_=>0) 0 kn kf)),.int .u8 92] ?_;refine(HT (iD (λ_=>0) 0 kn kf) 92 _).mono ?_;rintro _ aeJ ⟨zK,rfl,aij,aaz,zL⟩;have J7:=tO.new zL aij aaz;exact⟨J7.ch,Sp.da [zK] (all_cons (J7.mn YM.size 0 (by kernel_rfl)) (all_nil))⟩
  refine step_cons iA ?_;exact ez
 intro aaA aeK aeL N7;have Ck:aaA 0=.agg (ai .u8 64 (iD (λ_=>0) 0 kn kf)):=(Sp.bg (N7 0 (by kernel_rfl))).1;have aaB:=Sp.yR (N7 1 (by kernel_rfl));obtain⟨ly,N9,N_⟩:=aaB;have Oa:aaA 1=.slice (some ⟨ly,0,none⟩) 64 64:=N9;have aaC:∀zp∈([(ly,.cells (ai .u8 64 (eW (iD (λ_=>0) 0 kn kf) 92)) 5 (0,0))]:List (Nat×Obj)),aeH.heap.size<=zp.1/\aeK.heap[zp.1]?=some zp.2:=N_;have aaD:aaA 2=.slice (some ⟨J6,0,none⟩) 32 32:=(Sp.bg (N7 2 (by kernel_rfl))).1;have J8:=vj.ro aeL ([(ly,.cells (ai .u8 64 (eW (iD (λ_=>0) 0 kn kf) 92)) 5 (0,0))]) (aaC);refine⟨[.agg (ai .u8 64 (iD (λ_=>0) 0 kn kf)),.slice (some ⟨ly,0,none⟩) 64 64,.slice (some ⟨J6,0,none⟩) 32 32],by kernel_rfl,av Ck (av Oa (av aaD (k9))),?_⟩;refine cq J8 (λb=>.slice (some ⟨b,0,none⟩) 2 2) (.cells #[.slice (some ⟨ly,0,none⟩) 64 64,.slice (some ⟨J6,0,none⟩) 32 32] 23) ?_;intro zM aeM Cm;refine cd 226 #[.slice (some ⟨zM,0,none⟩) 2 2] ?_;refine(HU zM ly 0 64 64 (eW (iD (λ_=>0) 0 kn kf) 92) J6 0 32 32 (jR (64+n) (cy 64 (eW (iD (λ_=>0) 0 kn kf) 54) d)) (by omega) (by omega) _ (Cm.at_ 0 _ rfl) (St.dG (N:=64) (f:=(eW (iD (λ_=>0) 0 kn kf) 92)) (wr:=false) (t:=5) (fr:=(0,0)) Cm 1) (St.dG (N:=32) (f:=(jR (64+n) (cy 64 (eW (iD (λ_=>0) 0 kn kf) 54) d))) (wr:=true) (t:=50) (fr:=(0,0)) Cm 2)).mono ?_;rintro _ akL ⟨aeN,aaE,rfl,aeO,aaF,aik,ail⟩;have aaG:=Cm.new ail aaF aik;refine cd 72 #[.slice (some ⟨aeN,0,none⟩) (64+32) aaE] ?_;refine(zG aeN 0 (64+32) aaE (cy 64 (eW (iD (λ_=>0) 0 kn kf) 92) (jR (64+n) (cy 64 (eW (iD (λ_=>0) 0 kn kf) 54) d))) (by omega) _ (aaG.at_ 9 _ rfl) (St.yZ (c:=aaE) (wr:=true) (t:=5) (fr:=(0,0)) aaG 0)).mono ?_;rintro _ akM ⟨rfl,aim⟩;have ain:=aaG.quiet aim;refine store_ ain 8 (.agg (ai .u8 32 (jR (64+32) (cy 64 (eW (iD (λ_=>0) 0 kn kf) 92) (jR (64+n) (cy 64 (eW (iD (λ_=>0) 0 kn kf) 54) d)))))) bQ 0 ?_;intro akN aeP;refine au (ae (wp_ret ?_));refine eD rfl (ei [.cell 4 50] [.agg (ai .u8 32 (jR (64+32) (cy 64 (eW (iD (λ_=>0) 0 kn kf) 92) (jR (64+n) (cy 64 (eW (iD (λ_=>0) 0 kn kf) 54) d)))))] (.agg (ai .u8 32 (jR (64+32) (cy 64 (eW (iD (λ_=>0) 0 kn kf) 92) (jR (64+n) (cy 64 (eW (iD (λ_=>0) 0 kn kf) 54) d)))))) ⟨bh aeP 8 32 bQ 0,trivial⟩) ?_;exact⟨by(unfold gm)<;>kernel_rfl,aeP.ch⟩
theorem aaH (ka:Option Addr) (kn kc:Nat) (kf:Nat->Int) (b o n c:Nat) (d:Nat->Int) (hkn:1<=kn/\kn<=64) (hn:n<=55) {tG:TypeId} (w:World) (hG:w.heap[(0)]?=some (.cells (ai .u32 64 aT) tG (0,0))) (hk:cn w ka kn kc kf) (hB:fl w b o n d):
 ak prog 201 #[.slice ka kn kc,.slice (some ⟨b,o,none⟩) n c] w λv w1=>v=.agg (ai .u8 8 (gm kn kf n d))/\Ch [] w w1:=by
 have S0:=St.given (w:=w) [((0),.cells (ai .u32 64 aT) tG (0,0))] (all_cons hG (all_nil));refine ct Tryz.func201 rfl ?_;refine ao (aw ?_);refine cq S0 (λb=>.pointer (some ⟨b,0,none⟩)) (.cells (ai .u8 8 (λ_=>0)) 73) ?_;intro bQ lU fm;refine au (ae (ao (aw ?_)));refine aa (.slice ka kn kc) ?_;refine bJ ?_;refine cd 205 #[.slice ka kn kc,.slice (some ⟨b,o,none⟩) n c] ?_;refine(Tq ka kn kc kf b o n c d (by omega) (by omega) _ (fm.at_ 1 _ rfl) (cn.quiet hk fm.ch) (St.iE fm hB (by simp))).mono ?_;rintro _ zw4 ⟨rfl,zh5⟩;have eI:=fm.quiet zh5;refine cq eI (λb=>.pointer (some ⟨b,0,none⟩)) (.cells (ai .u8 32 (λ_=>0)) 50) ?_;intro yb zw8 nW;refine store_ nW 0 (.agg (ai .u8 32 (gm kn kf n d))) yb 0 ?_;intro aeQ vh;refine au (ae (ao (aw ?_)));refine aa (.slice (some ⟨yb,0,none⟩) 8 32) ?_;refine aa (.pointer (some ⟨yb,0,none⟩)) ?_;refine c_ vh 0 8 (ai .u8 8 (gm kn kf n d)) yb 0 ?_;refine store_ vh 1 (.agg (ai .u8 8 (gm kn kf n d))) bQ 0 ?_;intro aaI sd;refine au (ae (wp_ret ?_));refine eD rfl (ei [.cell 4 73] [.agg (ai .u8 8 (gm kn kf n d))] (.agg (ai .u8 8 (gm kn kf n d))) ⟨bh sd 1 8 bQ 0,trivial⟩) ?_;exact⟨by kernel_rfl,sd.ch⟩
theorem HV (b o n c e q k:Nat) (f g:Nat->Int) (hn:n<=1000000) (w:World) (hB:fl w b o n f) (hE:fl w e q n g):
 ak prog 168 #[.slice (some ⟨b,o,none⟩) n c,.slice (some ⟨e,q,none⟩) n k] w λv w1=>v=.bool (j4 n f g)/\Ch [] w w1:=by
 have S0:=St.nil [] w;refine ct Tryz.func168 rfl ?_;refine ao (aw ?_);refine aa (.bool false) ?_;refine au (ae (ao (ao (aw ?_))));refine bJ ?_;refine aa (.int .i64 ((n:Nat):Int)) ?_;refine bJ ?_;refine aa (.int .i64 ((n:Nat):Int)) ?_;refine e_ (.bool (((n:Nat):Int)!=((n:Nat):Int))) (.bool false) (congrArg Value.bool (neF (by omega))) ?_;refine au (ae (gv ?_));refine wp_skip (ae (ao (aw ?_)));refine aa (.int .u8 0) ?_;refine au (ae (ao (ao (aw ?_))));refine bJ ?_;refine aa (.int .i64 ((n:Nat):Int)) ?_;refine aa (.int .i64 0) ?_;refine au (ae (wp_block ?_));refine yX (λzn za zw=>∃(i:Int) (s:Int) (lV:Nat->Value),(zn=(((n:Nat):Int)-i).toNat/\0<=i/\i<=((n:Nat):Int)/\s=orF f g i.toNat)/\za=⟨#[.slice (some ⟨b,o,none⟩) n c,.slice (some ⟨e,q,none⟩) n k,undef,undef,.bool false,.int .u8 s,(lV 6),(lV 7),.slice (some ⟨b,o,none⟩) n c,.int .i64 ((n:Nat):Int),.slice (some ⟨e,q,none⟩) n k,.int .i64 ((n:Nat):Int),.bool false,.slice (some ⟨b,o,none⟩) n c,.int .i64 ((n:Nat):Int),.int .i64 i,(lV 16),(lV 17),(lV 18),(lV 19),(lV 20),(lV 21),(lV 22),(lV 23),(lV 24),(lV 25),(lV 26),(lV 27),(lV 28),undef,undef],[]⟩/\St [] w [] zw) _ (λzy Cj=>⟨(0:Int),(0:Int),(λd=>zy.tmps.getD d undef),⟨rfl,by omega,by omega,rfl⟩,by subst Cj;kernel_rfl,S0.re (R:=([]:List ax)) [] []⟩) ?_;rintro _ _ uc ⟨i,s,lV,⟨rfl,zf2,zf3,UL⟩,rfl,eI⟩;refine ao (aw ?_);refine aa (.bool (decide (i<((n:Nat):Int)))) ?_;refine au (ae (ao ?_));refine jl (decide (i<((n:Nat):Int))) ?_ ?_
 ·intro UM;have Ej:=Er UM;refine wp_skip (ae (ao (wp_block (ao (aw ?_)))));refine aa (.int .i64 i) ?_;refine lS (e:=5) b o (i).toNat n 1 c .i64 i (by omega) (by omega) (by omega) ?_;refine j_ b o n (o+(i).toNat*1) (i).toNat f (St.iE eI hB (by simp)) (by omega) (by omega) ?_;refine aa (.int .i64 i) ?_;refine aa (.int .u8 (f (i).toNat)) ?_;refine au (ae (aw ?_));refine aa (.int .u8 s) ?_;refine aa (.int .u8 (f (i).toNat)) ?_;refine bJ ?_;refine aa (.int .i64 i) ?_;refine lS (e:=5) e q (i).toNat n 1 k .i64 i (by omega) (by omega) (by omega) ?_;refine j_ e q n (q+(i).toNat*1) (i).toNat g (St.iE eI hE (by simp)) (by omega) (by omega) ?_;refine aa (.int .u8 (bits .xor .u8 (f (i).toNat) (g (i).toNat))) ?_;refine aa (.int .u8 (bits .or .u8 s (bits .xor .u8 (f (i).toNat) (g (i).toNat)))) ?_;refine bm ?_;refine au (gL (ae (aw ?_)));refine j9 .i64 (i+1) (IntWalk.i64_in _ (by omega)) ?_;refine aa (.int .i64 (i+1)) ?_;refine au ?_;refine uL λzy Cj=>?_;exact⟨_,by omega,(i+1),(bits .or .u8 s (bits .xor .u8 (f (i).toNat) (g (i).toNat))),(λd=>zy.tmps.getD d undef),⟨rfl,by omega,by omega,UG i s (by omega) UL⟩,by subst Cj;kernel_rfl,eI.re (R:=([]:List ax)) [] []⟩
 intro J9;have jy:=Es J9;refine wp_exit (fa (fa (pM (ae (ao (aw ?_))))));refine aa (.int .u8 s) ?_;refine aa (.bool (s==0)) ?_;refine aa (.bool (s==0)) ?_;refine au (ae (wp_ret ?_));refine eD rfl (ei [.tmp 4] [.bool (s==0)] (.bool (s==0)) ⟨bo,trivial⟩) ?_;exact⟨congrArg Value.bool (by unfold j4;rw[UL,show i.toNat=n by omega]),eI.ch⟩
end Go.Proofs.YtlkpikfddnjilaaGreatDoor
namespace Go.Proofs.YtlkpikfddnjilaaGreatDoor
open Go Go.RowKit Go.BigFrame Sx Vx
def dV (u:World):List ax:=u.heap.toList.zipIdx.map λp=>⟨p.2,false,p.1⟩
theorem Cn {u:World} {i:Nat} {o:Obj} (h:u.heap[i]?=some o):(⟨i,false,o⟩:ax)∈dV u:=by
 unfold dV;rw[List.mem_map];exact⟨(o,i),by rw[List.mk_mem_zipIdx_iff_getElem?];simpa using h,rfl⟩
theorem HW (w:World):St [] w (dV w++[]) w:=by
 have:=St.given (w:=w) (w.heap.toList.zipIdx.map λp=>(p.2,p.1)) (by
  intro p hp;obtain⟨q,hq,rfl⟩:=List.mem_map.1 hp;have:=(List.mem_zipIdx_iff_getElem?.1 (show(q.1,q.2)∈w.heap.toList.zipIdx from hq));simpa using this)
 rw[List.append_nil];unfold dV;rw[List.map_map]at this;exact this
structure R8 where
 n:Nat
 f:Nat->Int
 b:Nat
 c:Nat
def R8.bl (r:R8):List ax:=[⟨r.b,true,.cells (cN r.n r.f r.c) 5 (0,0)⟩]
inductive CG where
 |dC (u:World)
 |row (r:R8)
instance:Bl CG:=⟨λg=>match g with|.dC u=>dV u|.row r=>r.bl⟩
def Co:List V->Option (List Int)
 |[]=>some []
 |.int .u8 x::l=>(match Co l with
  |some r=>some (x::r)
  |none=>none)
 |_=>none
theorem HX (ids:List Nat):∀{l:List V} {r:List Int},Co l=some r->af ids l=fi r.length (rN r)
 |[],r,h=>by cases h;rfl
 |v::l,r,h=>by
  unfold Co at h;split at h
  ·rename_i e;cases e
  ·rename_i x l' e;obtain⟨rfl,rfl⟩:=List.cons.inj e;split at h
   ·rename_i r' hr;cases h;have ih:=HX ids hr;simp only[af,cl,ih,List.length_cons];unfold fi;rw[List.range_succ_eq_map,List.map_cons,List.map_map];rfl
   ·cases h
  ·cases h
def YN (o:Nat) (f:Nat->Int):Nat->Int:=match o with
 |0=>f
 |k+1=>Z4 f (k+1)
theorem Ob (o:Nat) (f:Nat->Int) (j:Nat):YN o f j=f (o+j):=by
 cases o with
 |zero=>simp[YN]
 |succ k=>rfl
def Cp:List CG->Option (List CG×R8)
 |[]=>none
 |[.row r]=>some ([],r)
 |g::l=>(match Cp l with
  |some (a,r)=>some (g::a,r)
  |none=>none)
theorem vl:∀{ch l:List CG} {r:R8},Cp ch=some (l,r)->ch=l++[.row r]
 |[],l,r,h=>by cases h
 |g::t,l,r,h=>by
  unfold Cp at h;split at h
  ·cases h
  ·rename_i e;obtain⟨rfl,rfl⟩:=List.cons.inj e;cases h;rfl
  ·rename_i g' t' _ e;obtain⟨rfl,rfl⟩:=List.cons.inj e;split at h
   ·rename_i a r' hr;cases h;rw[vl hr];rfl
   ·cases h
def UN (bl:List VB) (ch:List CG) (x:V) (X:Bool->Nat->(Nat->Int)->Prop):Prop:=match x with
 |.sl i o (m+1) _=>(match bl[i]?with
  |some ⟨_,⟨_,(0,0)⟩,l⟩=>(match Co l with
   |some r=>o+(m+1)<=r.length/\X true (m+1) (YN o (rN r))
   |none=>False)
  |_=>False)
 |.raw (.slice (some ⟨b,o,none⟩) m _)=>(match ch with
  |.dC u::_=>∃f,fl u b o m f/\X false m f
  |_=>False)
 |_=>False
theorem UO {u w w0:World} {ms:List Nat} {B:List ax} (S:St ms w0 B w) (h:∀y∈dV u,y∈B) {b o m:Nat} {f:Nat->Int} (h8:fl u b o m f):fl w b o m f:=λj hj=>by
 have h1:=h8 j hj;unfold World.cell? at h1⊢;cases hh:u.heap[b]?with
 |none=>simp[hh]at h1
 |some ob=>
  have:w.heap[b]?=some ob:=S.at' (h _ (Cn hh));simp only[hh,this]at h1⊢;exact h1
theorem HY {ids:List Nat} {bl:List VB} {ch:List CG} {R:List ax} {ms:List Nat} {w0 w:World} (hl:ids.length=bl.length) (S:St ms w0 (lits ids ids bl++ag ch R) w) {x:V} {X:Bool->Nat->(Nat->Int)->Prop} (h:UN bl ch x X):
 ∃b o m c f sure,den ids x=.slice (some ⟨b,o,none⟩) m c/\fl w b o m f/\(sure=true->0<m)/\X sure m f:=by
 unfold UN at h;split at h
 ·rename_i i o m c;split at h
  ·rename_i wr t l hb;split at h
   ·rename_i r hr;have bD:=(cQ hl S hb).2;refine⟨_,_,_,_,_,true,rfl,λj hj=>?_,λ_=>Nat.succ_pos m,h.2⟩;rw[cell_of bD,HX ids hr,Ob];simp only[List.getElem?_toArray];exact lh _ (by have:=h.1;omega)
   ·exact h.elim
  ·exact h.elim
 ·rename_i b o m c;split at h
  ·rename_i u rest;obtain⟨f,h8,hX⟩:=h;refine⟨b,o,m,c,f,false,rfl,UO S (λy hy=>?_) h8,(λe=>by cases e),hX⟩;exact List.mem_append_right _ (List.mem_append_left _ hy)
  ·exact h.elim
 ·exact h.elim
def ap8:(Operand->V)->Op->List VB->List CG->VK CG->Prop:=λe op bl ch K=>match op with
 |.call c=>(match c.callee,c.args.toList,c.argTypes.toList with
  |.builtin .append,[s,xs],[t,tx]=>(match prog.underlying t,prog.underlying tx with
   |some (.slice 5),some (.slice _)=>(match e s with
    |.raw (.slice none 0 0)=>UN bl ch (e xs) λsure m g=>m<=1000000/\
     cond sure (∀b c,m<=c->K (.raw (.slice (some ⟨b,0,none⟩) m c)) bl (ch++[.row ⟨m,g,b,c⟩]))
      ((m=0->K (.raw (.slice none 0 0)) bl ch)/\(0<m->∀b c,m<=c->K (.raw (.slice (some ⟨b,0,none⟩) m c)) bl (ch++[.row ⟨m,g,b,c⟩])))
    |.raw (.slice (some ⟨b,0,none⟩) n c)=>(match Cp ch with
     |some (l,r)=>UN bl ch (e xs) λ_ m g=>(b=r.b/\n=r.n/\c=r.c/\n<=c/\n+m<=1000000/\0<n+m)/\∀b' c',n+m<=c'->K (.raw (.slice (some ⟨b',0,none⟩) (n+m) c')) bl (l++[.row ⟨n+m,cy n r.f g,b',c'⟩])
     |none=>False)
    |_=>False)
   |_,_=>False)
  |_,_,_=>False)
 |.makeSlice t l c=>(match prog.underlying t,e l,e c with
  |some (.slice 5),.int _ (.ofNat 0),.int _ m=>(1<=m/\m<=1000000)/\∀b,K (.raw (.slice (some ⟨b,0,none⟩) 0 m.toNat)) bl (ch++[.row ⟨0,λ_=>0,b,m.toNat⟩])
  |_,_,_=>False)
 |_=>False
theorem UP {P:Program} {ids:List Nat} {w:World} {t el:TypeId} {n:Nat} {inf:TypeInfo} {k1 k2:IntKind} (hu:P.underlying t=some (.slice el)) (hi:P.info? el=some inf) (hz:jQ P el=some (0+1)) (h0:iS P el=some [.int .u8 0]) (h1:1<=n) (hn:n<=1000000) (hb:inf.bytes<=100):
 (Instr.makeSlice t (.int k1 ((0:Nat):Int)) (.int k2 (n:Int))).run P w=.ok (.slice (some ⟨w.heap.size,0,none⟩) 0 n) (w.alloc (.cells (cN 0 (λ_=>0) n) el)):=by
 obtain⟨v0,z1,z2⟩:=ju (P:=P) (w:=w) (ids:=ids) h0;have hv:v0.cells.size=0+1:=by rw[<-Array.length_toList,z2];rfl
 have Nm:(Array.range (n*(0+1))).map (λi=>v0.cells[i%v0.cells.size]!)=cN 0 (λ_=>0) n:=by
  apply Array.ext';rw[rQ v0.cells 0 hv,z2];simp[af,cl,fi,cN,den]
 have hm:inf.bytes*n<=100000000:=Nat.le_trans (Nat.mul_le_mul hb hn) (by decide);have e1:(decide ((n:Int)<0)||decide ((inf.bytes:Int)*(n:Int)>2^48))=false:=by
  have:(inf.bytes:Int)*(n:Int)<=100000000:=by
   have q:=Int.ofNat_le.2 hm;rw[Int.natCast_mul]at q;exact q
  rw[decide_eq_false (by omega),decide_eq_false (by omega)];rfl
 have e4:(decide ((((0:Nat):Int))<0)||decide ((inf.bytes:Int)*((0:Nat):Int)>2^48))=false:=by simp
 have e2:¬(n*inf.bytes>roomBytes):=by
  have:n*inf.bytes<=100000000:=by rw[Nat.mul_comm];exact hm
  show¬(n*inf.bytes>_);unfold roomBytes;omega
 have e3:¬n*(0+1)=0:=by omega
 simp only[Instr.makeSlice,Sem.run_bind,run_underlying hu,Result.andThen_ok,asInt,asIntOf,Sem.run_pure,qb hi,iw0 hn,iw0 (Nat.zero_le 1000000),e1,e4,Bool.false_or,askRoom,if_neg e2,Int.toNat_natCast,bb hz,if_neg e3,z1];simp only[show decide (((0:Nat):Int)<0)=false by simp,show decide (((0:Nat):Int)>(n:Int))=false by simp,Bool.or_self,Bool.false_eq_true,if_false,Sem.run_bind,Sem.run_pure,Result.andThen_ok,bb hz,if_neg e3,z1];rw[Nm];rfl
theorem Cq {ids:List Nat} {bl:List VB} {l:List CG} {B B' R:List ax} {ms:List Nat} {w0 w w':World} (S:St ms w0 ((lits ids ids bl++ag l [])++(B++R)) w) {n c:Nat} {f:Nat->Int} {x:Option Addr} (hr:dG 5 n f x c B') (hB:Wr B) (hc:Ch (B.map ax.id) w w') (bD:∀y∈B',w'.heap[y.id]?=some y.obj/\((∃u∈B,y.id=u.id)\/w.heap.size<=y.id)) (h0:0<n):
 ∃b,x=some ⟨b,0,none⟩/\n<=c/\St ms w0 (lits ids ids bl++ag (l++[.row ⟨n,f,b,c⟩]) R) w':=by
 obtain⟨b,hle,rfl,rfl⟩:=pW hr h0;refine⟨b,rfl,hle,?_⟩;have S2:=S.BD hB hc (λy hy=>(bD y hy).1) (λy hy=>(bD y hy).2) (by simp);have e:lits ids ids bl++ag (l++[.row ⟨n,f,b,c⟩]) R=(lits ids ids bl++ag l [])++([⟨b,true,.cells (cN n f c) 5 (0,0)⟩]++R):=by
  rw[dY,bH (ag [CG.row ⟨n,f,b,c⟩] R) l,List.append_assoc];rfl
 rw[e];exact S2
theorem nB (ids:List Nat) (bl:List VB) (l:List CG) (r:R8) (R:List ax):lits ids ids bl++ag (l++[.row r]) R=(lits ids ids bl++ag l [])++(r.bl++R):=by
 rw[dY,bH (ag [CG.row r] R) l,List.append_assoc];rfl
theorem vm (ids:List Nat) (bl:List VB) (l:List CG) (R:List ax):lits ids ids bl++ag l R=(lits ids ids bl++ag l [])++([]++R):=by
 rw[bH R l,List.append_assoc];rfl
theorem lz (n:Nat) (f g:Nat->Int):cy 0 f g=g:=by funext j;rfl
theorem E1 {gl:Nat->Option Nat}:rR prog gl ap8:=by
 intro e op ids bl ch R ms w0 w K ρ o hg hl S cz ho h;unfold ap8 at h;split at h
 ·rename_i c;split at h
  ·rename_i s xs t tx eV bd jL;split at h
   ·rename_i T' ht pJ;obtain⟨HA,ar,tJ⟩:=c;simp only at eV bd jL;have e2:ar=#[s,xs]:=by rw[<-bd]
    have e3:tJ=#[t,tx]:=by rw[<-jL]
    subst eV e2 e3;have aI:(prog.info? 5).map (λi=>(i.zero.map (·.cells),i.size,i.bytes))=some (some #[.int .u8 0],1,1):=by kernel_rfl
    split at h
    ·rename_i rJ;obtain⟨b,ob,m,c,f,sure,hx,h8,YO,hm,hK⟩:=HY hl S h;obtain⟨v,w',a_,fP,x',c',bl',rfl,oG,vb⟩:=mz (P:=prog) (ty:=o.type) (uM 5) (w:=w) (λy hy=>nomatch hy) (Ju h8 pJ) ht aI (by omega);rw[Nat.zero_add,lz 0]at oG;have Oc:=bN (P:=prog) (ρ:=ρ) (o:=o) ho (sv:=.slice none 0 0) (by rw[cz,rJ];rfl) (by rw[cz,hx]) a_;have hK1:0<m->∀b c,m<=c->K (.raw (.slice (some ⟨b,0,none⟩) m c)) bl (ch++[.row ⟨m,f,b,c⟩]):=by
      cases sure with
      |true=>exact λ_=>hK
      |false=>exact hK.2
     have hK0:m=0->K (.raw (.slice none 0 0)) bl ch:=λh0=>by
      cases sure with
      |true=>have:=YO rfl;omega
      |false=>exact hK.1 h0
     rcases Nat.eq_zero_or_pos m with yS|yS
     ·have h1:=hK0 yS;subst yS;obtain⟨i,hi,hi2⟩:=Option.map_eq_some_iff.1 aI;simp only[Prod.mk.injEq]at hi2;have aeR:=bN (P:=prog) (ρ:=ρ) (o:=o) ho (sv:=.slice none 0 0) (by rw[cz,rJ];rfl) (by rw[cz,hx]) (run_append_nothing (P:=prog) w t tx o.type 5 i ht hi none 0 0 (Nat.le_refl _) _ (by rw[hi2.2.1];exact Ju h8 pJ));exact⟨_,[],bl,_,w,.inl (by rw[aeR];simp[den]),by simpa using hl,by simpa using S,h1⟩
     ·obtain⟨b',rfl,hle,S2⟩:=Cq (l:=ch) (B:=[]) (by rw[<-vm];exact S) oG (λy hy=>nomatch hy) (by simpa using fP) (λy hy=>by simpa using vb y hy) yS;exact⟨_,[],bl,_,w',.inl (by rw[Oc,Nat.zero_add];simp[den]),by simpa using hl,by simpa using S2,hK1 yS b' c' hle⟩
    ·rename_i b n c rJ;split at h
     ·rename_i l r hlr;obtain rfl:=vl hlr;obtain⟨b1,ob,m,c1,f,sure,hx,h8,YO,⟨rfl,rfl,rfl,Bo,hb,E2⟩,hK⟩:=HY hl S h;have S1:=S;rw[nB]at S1;obtain⟨v,w',a_,fP,x',c',bl',rfl,oG,vb⟩:=mz (P:=prog) (ty:=o.type) (show dG 5 r.n r.f (some ⟨r.b,0,none⟩) r.c r.bl from⟨Bo,.inr ⟨_,rfl,rfl⟩⟩) (w:=w) (λy hy=>S1.at' (by simp[hy])) (Ju h8 pJ) ht aI (by omega);have Oc:=bN (P:=prog) (ρ:=ρ) (o:=o) ho (sv:=.slice (some ⟨r.b,0,none⟩) r.n r.c) (by rw[cz,rJ];rfl) (by rw[cz,hx]) a_;obtain⟨b',rfl,hle,S2⟩:=Cq S1 oG (Wr.cons rfl Wr.nil) fP vb E2;exact⟨_,[],bl,_,w',.inl (by rw[Oc];simp[den]),by simpa using hl,by simpa using S2,hK b' c' hle⟩
     ·exact h.elim
    ·exact h.elim
   ·exact h.elim
  ·exact h.elim
 ·rename_i t l c;split at h
  ·rename_i k1 k2 m hu Ei hec;obtain⟨⟨m1,m2⟩,hK⟩:=h;obtain⟨n,rfl⟩:=Int.eq_ofNat_of_zero_le (show 0<=m by omega);obtain⟨inf,va,Bn⟩:∃inf,prog.info? 5=some inf/\inf.bytes<=100:=⟨_,rfl,Nat.le_of_ble_eq_true (by kernel_rfl)⟩;have a_:=UP (P:=prog) (ids:=ids) (w:=w) (t:=t) (el:=5) (n:=n) (inf:=inf) (k1:=k1) (k2:=k2) hu va (by kernel_rfl) (by kernel_rfl) (by omega) (by omega) Bn;rw[Int.toNat_natCast]at hK;refine⟨_,[],bl,_,w.alloc (.cells (cN 0 (λ_=>0) n) 5),.inl ?_,by simpa using hl,?_,hK w.heap.size⟩
   ·unfold execOp;have e1:Int.ofNat 0=((0:Nat):Int):=rfl;simp only[ho,cz,Ei,hec,den,Sem.run_bind,e1,a_,Result.andThen_ok,Sem.run_pure]
   ·rw[List.append_nil,nB];rw[vm]at S;exact S.BD (λy hy=>nomatch hy) (Ch.alloc [] w _) (λy hy=>by
     obtain rfl:=List.mem_singleton.1 hy;exact heap_alloc_new w _) (λy hy=>by
     obtain rfl:=List.mem_singleton.1 hy;exact .inr (Nat.le_refl _)) (by simp[R8.bl])
  ·exact h.elim
 ·exact h.elim
end Go.Proofs.YtlkpikfddnjilaaGreatDoor
