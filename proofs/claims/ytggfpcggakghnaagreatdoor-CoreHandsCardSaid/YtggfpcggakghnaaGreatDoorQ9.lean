/- Part 9 of the proof. -/
import Derived.Test.YtggfpcggakghnaaGreatDoorQ8
set_option linter.all false
set_option maxRecDepth 100000
set_option maxHeartbeats 4000000
open Go.Proofs.Tryz
namespace Go.Proofs.YtggfpcggakghnaaGreatDoor
open Go Go.RowKit Go.BigFrame Sx
def To (f:Nat->Int) (x:Int):Nat->Nat->Int
 |0=>λ_=>0
 |k+1=>o_ (To f x k) k (bits .xor .u8 (f k) x)
def fq (f:Nat->Int) (x:Int):Nat->Int:=λj=>bits .xor .u8 (f j) x
theorem Qa (f:Nat->Int) (x:Int):∀(k j:Nat),j<k->To f x k j=fq f x j
 |k+1,j,h=>by
  by_cases e:j=k
  ·subst e;exact I3 _ _ _
  ·exact(Aj _ _ e).trans (Qa f x k j (by omega))
theorem Qb (f:Nat->Int) (x:Int):ak .u8 64 (To f x 64)=ak .u8 64 (fq f x):=FL _ λi h=>Qa f x 64 i h
theorem Mr {f:Nat->Int} {x:Int} (i:Int) (W:Nat->Int) (h:0<=i) (e:W=To f x i.toNat):o_ W (0+i.toNat*1) (bits .xor .u8 (f i.toNat) x)=To f x (i+1).toNat:=by
 have h1:(i+1).toNat=i.toNat+1:=by omega
 rw[h1,e,Nat.zero_add,Nat.mul_one];rfl
theorem tn {n m c:Nat} {f g:Nat->Int} (e:n=m) (h:∀i,i<m->f i=g i):dc n f c=dc m g c:=by
 subst e;unfold dc;rw[kR h]
def jS (n1 n2:Nat) (f g h:Nat->Int):Nat->Int:=bI (n1+n2) (bI n1 f g) h
def Qc (n1 n2 n3:Nat) (f g h k:Nat->Int):Nat->Int:=bI (n1+n2+n3) (bI (n1+n2) (bI n1 f g) h) k
theorem Jt (f:Nat->Int) (y:Int) (w:World):
 aj prog 108 #[.agg (ak .u8 64 f),.int .u8 y] w λv w1=>∃b,v=.slice (some ⟨b,0,none⟩) 64 64/\w.heap.size<=b/\w1.heap[b]?=some (.cells (ak .u8 64 (fq f y)) 5 (0,0))/\Ch [] w w1:=by
 have S0:=St.nil [] w;refine dz Tryz.func108 rfl ?_;refine au (ax ?_);refine eD S0 (λb=>.pointer (some ⟨b,0,none⟩)) (.cells (ak .u8 64 f) 205) ?_;intro de sH i_;refine aa (.slice none 0 0) ?_;refine aw (ag (au (ax ?_)));refine eD i_ (λb=>.slice (some ⟨b,0,none⟩) 64 64) (.cells (ak .u8 64 (λ_=>0)) 5) ?_;intro iG Dn gw;refine bJ ?_;refine aw (ag (au (au (ax ?_))));refine eC gw 1 64 (ak .u8 64 f) de 0 ?_;refine aa (.int .i64 0) ?_;refine aw (ag (wp_block ?_));refine Ak (λzn za zw=>∃(i:Int) (W:Nat->Int) (Ms:Nat->Value),(zn=(64-i).toNat/\0<=i/\i<=64/\W=To f y i.toNat)/\za=⟨#[.agg (ak .u8 64 f),.int .u8 y,.pointer (some ⟨de,0,none⟩),undef,.slice none 0 0,.slice (some ⟨iG,0,none⟩) 64 64,(Ms 6),(Ms 7),.slice (some ⟨iG,0,none⟩) 64 64,.agg (ak .u8 64 f),.int .i64 i,(Ms 11),(Ms 12),(Ms 13),(Ms 14),(Ms 15),(Ms 16),(Ms 17),(Ms 18),(Ms 19),(Ms 20),undef],[]⟩/\St [] w [⟨iG,true,.cells (ak .u8 64 W) 5 (0,0)⟩,⟨de,true,.cells (ak .u8 64 f) 205 (0,0)⟩] zw) _ (λzy Dp=>⟨(0:Int),(λ_=>0),(λd=>zy.tmps.getD d undef),⟨rfl,by omega,by omega,rfl⟩,by subst Dp;kernel_rfl,gw.re (R:=([]:List av)) [[⟨iG,true,.cells (ak .u8 64 (λ_=>0)) 5 (0,0)⟩],[⟨de,true,.cells (ak .u8 64 f) 205 (0,0)⟩]] [0,1]⟩) ?_;rintro _ _ agR ⟨i,W,Ms,⟨rfl,zf8,zf9,agS⟩,rfl,tp⟩;refine au (ax ?_);refine aa (.bool (decide (i<64))) ?_;refine aw (ag (au ?_));refine jH (decide (i<64)) ?_ ?_
 ·intro oD;have yK:=FC oD;refine wp_skip (ag (au (wp_block (au (ax ?_)))));refine aa (.int .i64 i) ?_;refine Wo (e:=5) .u8 64 f .i64 i (by omega) (by omega) ?_;refine aa (.int .i64 i) ?_;refine aa (.int .u8 (f (i).toNat)) ?_;refine aw (ag (ax ?_));refine bY ?_;refine aa (.int .i64 i) ?_;refine aa (.int .u8 (f (i).toNat)) ?_;refine aa (.int .u8 y) ?_;refine aa (.int .u8 (bits .xor .u8 (f (i).toNat) y)) ?_;refine mw (e:=5) iG 0 (i).toNat 64 1 64 .i64 i (by omega) (by omega) rfl ?_;refine store_ tp 0 (.int .u8 (bits .xor .u8 (f (i).toNat) y)) iG (0+(i).toNat*1) ?_ (hb:=ckF (t:=5) (kd:=.u8) (n:=64) (f:=W) (by omega));intro Mt tq;have uI:St [] w [⟨iG,true,.cells (ak .u8 64 (o_ W (0+(i).toNat*1) (bits .xor .u8 (f (i).toNat) y))) 5 (0,0)⟩,⟨de,true,.cells (ak .u8 64 f) 205 (0,0)⟩] Mt:=St.stF (t:=5) (kd:=.u8) (n:=64) (f:=W) (i:=0) (off:=(0+(i).toNat*1)) (b:=iG) tq (by omega);refine aw (ik (ag (ax ?_)));refine lz .i64 (i+1) (IntWalk.i64_in _ (by omega)) ?_;refine aa (.int .i64 (i+1)) ?_;refine aw ?_;refine vU λzy Dp=>?_;exact⟨_,by omega,(i+1),(o_ W (0+(i).toNat*1) (bits .xor .u8 (f (i).toNat) y)),(λd=>zy.tmps.getD d undef),⟨rfl,by omega,by omega,Mr i W (by omega) agS⟩,by subst Dp;kernel_rfl,uI.re (R:=([]:List av)) [[⟨iG,true,.cells (ak .u8 64 (o_ W (0+(i).toNat*1) (bits .xor .u8 (f (i).toNat) y))) 5 (0,0)⟩],[⟨de,true,.cells (ak .u8 64 f) 205 (0,0)⟩]] [0,1]⟩
 intro Qd;have Dq:=FE Qd;refine wp_exit (fy (fy (qh (ag (au (ax ?_))))));refine bY ?_;refine bJ ?_;refine aw (ag (wp_ret ?_));refine gn rfl (fY [.tmp 4] [.slice (some ⟨iG,0,none⟩) 64 64] (.slice (some ⟨iG,0,none⟩) 64 64) ⟨cM,trivial⟩) ?_;have ze:ak .u8 64 W=ak .u8 64 (fq f y):=by rw[agS,show i.toNat=64 by omega];exact Qb f y
 exact⟨iG,rfl,(tp.own 0 _ rfl rfl).resolve_left (by simp),by rw[<-ze];exact tp.at_ 0 _ rfl,tp.ch⟩
theorem Ju (pb:Nat) (b0 o0 n0 c0:Nat) (f0:Nat->Int) (b1 o1 n1 c1:Nat) (f1:Nat->Int) (h0:0<n0) (hn:n0+n1<=1000000) (w:World) (hp:w.heap[pb]?=some (.cells #[.slice (some ⟨b0,o0,none⟩) n0 c0,.slice (some ⟨b1,o1,none⟩) n1 c1] 23 (0,0))) (HF:eS w b0 o0 n0 f0) (Xj:eS w b1 o1 n1 f1):
 aj prog 107 #[.slice (some ⟨pb,0,none⟩) 2 2] w λv w1=>∃b c1,v=.slice (some ⟨b,0,none⟩) (n0+n1) c1/\n0+n1<=c1/\w.heap.size<=b/\w1.heap[b]?=some (.cells (dc (n0+n1) (bI n0 f0 f1) c1) 5 (0,0))/\Ch [] w w1:=by
 have S0:=St.given (w:=w) [(pb,.cells #[.slice (some ⟨b0,o0,none⟩) n0 c0,.slice (some ⟨b1,o1,none⟩) n1 c1] 23 (0,0))] (all_cons hp (all_nil));refine dz Tryz.func107 rfl ?_;refine au (ax ?_);refine aa (.slice none 0 0) ?_;refine aw (ag (au (ax ?_)));refine aa (.slice none 0 0) ?_;refine aw (ag (au (au (ax ?_))));refine bY ?_;refine aa (.int .i64 2) ?_;refine aa (.int .i64 0) ?_;refine aw (ag (wp_block (CD 24 (au (ax ?_)))));refine aa (.bool true) ?_;refine aw (ag (au (lB ?_)));refine wp_skip (ag (au (wp_block (au (ax ?_)))));refine aa (.pointer (some ⟨pb,0,none⟩)) ?_;refine ir S0 0 (.slice (some ⟨b0,o0,none⟩) n0 c0) pb 0 ?_;refine bJ ?_;refine aw (ag (ax ?_));refine aa (.slice none 0 0) ?_;refine bY ?_;have zS7:St [] w ([⟨pb,false,.cells #[.slice (some ⟨b0,o0,none⟩) n0 c0,.slice (some ⟨b1,o1,none⟩) n1 c1] 23 (0,0)⟩]++([]:List av)) w:=S0.re (R:=([]:List av)) [[⟨pb,false,.cells #[.slice (some ⟨b0,o0,none⟩) n0 c0,.slice (some ⟨b1,o1,none⟩) n1 c1] 23 (0,0)⟩]] [0];have J3:St [] w ([⟨pb,false,.cells #[.slice (some ⟨b0,o0,none⟩) n0 c0,.slice (some ⟨b1,o1,none⟩) n1 c1] 23 (0,0)⟩]++([]++([]:List av))) w:=zS7.conv (by kernel_rfl);refine CL (n:=0) (c:=0) (f:=(λ_=>0)) (g:=f0) (xv:=.slice (some ⟨b0,o0,none⟩) n0 c0) J3 (vV 5) (FM (e':=5) (St.mC S0 HF (by simp))) (by omega) ?_;intro zx2 zc3 zq1 Dn zh4 gw;have akH:=qt zh4 (by omega);obtain⟨zb9,AJ,lR,kG⟩:=akH;subst lR;subst kG;refine bJ ?_;refine aw (ik (ag (ax ?_)));refine aa (.int .i64 1) ?_;refine aa (.int .i64 1) ?_;refine aw (lA (au (ax ?_)));refine aa (.bool true) ?_;refine aw (ag (au (lB ?_)));refine wp_skip (ag (au (wp_block (au (ax ?_)))));refine aa (.pointer (some ⟨pb,1,none⟩)) ?_;refine ir gw 0 (.slice (some ⟨b1,o1,none⟩) n1 c1) pb 1 ?_;refine bJ ?_;refine aw (ag (ax ?_));refine bY ?_;refine bY ?_;have uJ:St [] w ([⟨pb,false,.cells #[.slice (some ⟨b0,o0,none⟩) n0 c0,.slice (some ⟨b1,o1,none⟩) n1 c1] 23 (0,0)⟩]++([⟨zb9,true,.cells (dc (0+n0) (bI 0 (λ_=>0) f0) zc3) 5 (0,0)⟩]++([]:List av))) Dn:=gw.re (R:=([]:List av)) [[⟨pb,false,.cells #[.slice (some ⟨b0,o0,none⟩) n0 c0,.slice (some ⟨b1,o1,none⟩) n1 c1] 23 (0,0)⟩],[⟨zb9,true,.cells (dc (0+n0) (bI 0 (λ_=>0) f0) zc3) 5 (0,0)⟩]] [0,1];refine CL (n:=(0+n0)) (c:=zc3) (f:=(bI 0 (λ_=>0) f0)) (g:=f1) (xv:=.slice (some ⟨b1,o1,none⟩) n1 c1) uJ ⟨AJ,.inr ⟨_,rfl,rfl⟩⟩ (FM (e':=5) (St.mC gw Xj (by simp))) (by omega) ?_;intro anj kY ank Gm Mu tu;have akI:=qt Mu (by omega);obtain⟨AK,wz,Qe,uK⟩:=akI;subst Qe;subst uK;refine bJ ?_;refine aw (ik (ag (ax ?_)));refine aa (.int .i64 2) ?_;refine aa (.int .i64 2) ?_;refine aw (lA (au (ax ?_)));refine aa (.bool false) ?_;refine aw (ag (au (iu ?_)));refine wp_exit (fy (fy (qh (ag (au (ax ?_))))));refine bY ?_;refine bJ ?_;refine aw (ag (wp_ret ?_));refine gn rfl (fY [.tmp 2] [.slice (some ⟨AK,0,none⟩) ((0+n0)+n1) kY] (.slice (some ⟨AK,0,none⟩) ((0+n0)+n1) kY) ⟨cM,trivial⟩) ?_;have ze:dc ((0+n0)+n1) (bI (0+n0) (bI 0 (λ_=>0) f0) f1) kY=dc (n0+n1) (bI n0 f0 f1) kY:=tn (by omega) λi hi=>by simp only[aky,jS,Qc,Nat.zero_add]
 exact⟨AK,kY,by rw[show((0+n0)+n1)=n0+n1 by omega],by have:=wz;omega,(tu.own 1 _ rfl rfl).resolve_left (by simp),by rw[<-ze];exact tu.at_ 1 _ rfl,tu.ch⟩
def fA (kn:Nat) (kf:Nat->Int) (n:Nat) (d:Nat->Int):Nat->Int:=ji (64+32) (bI 64 (fq (iF (λ_=>0) 0 kn kf) 92) (ji (64+n) (bI 64 (fq (iF (λ_=>0) 0 kn kf) 54) d)))
def Ll (f g:Nat->Int):Nat->Int
 |0=>0
 |k+1=>bits .or .u8 (Ll f g k) (bits .xor .u8 (f k) (g k))
theorem Xk {f g:Nat->Int} (i s:Int) (h:0<=i) (e:s=Ll f g i.toNat):bits .or .u8 s (bits .xor .u8 (f i.toNat) (g i.toNat))=Ll f g (i+1).toNat:=by
 have h1:(i+1).toNat=i.toNat+1:=by omega
 rw[h1,e];rfl
def kq (n:Nat) (f g:Nat->Int):Bool:=Ll f g n==0
theorem VS (ka:Option Addr) (kn kc:Nat) (kf:Nat->Int) (b o n c:Nat) (d:Nat->Int) (VT:1<=kn/\kn<=64) (hn:n<=55) {tG:TypeId} (w:World) (hG:w.heap[1]?=some (.cells (ak .u32 64 aX) tG (0,0))) (hk:cz w ka kn kc kf) (hB:eS w b o n d):
 aj prog 67 #[.slice ka kn kc,.slice (some ⟨b,o,none⟩) n c] w λv w1=>v=.agg (ak .u8 32 (fA kn kf n d))/\Ch [] w w1:=by
 have S0:=St.given (w:=w) [(1,.cells (ak .u32 64 aX) tG (0,0))] (all_cons hG (all_nil));refine dz Tryz.func67 rfl ?_;refine au (ax ?_);refine eD S0 (λb=>.pointer (some ⟨b,0,none⟩)) (.cells (ak .u8 32 (λ_=>0)) 37) ?_;intro de sH i_;refine aw (ag (au (ax ?_)));refine eD i_ (λb=>.pointer (some ⟨b,0,none⟩)) (.cells (ak .u8 64 (λ_=>0)) 205) ?_;intro iG Dn gw;refine aw (ag (au (au (ax ?_))));refine aa (.slice ka kn kc) ?_;refine aa (.int .i64 ((kn:Nat):Int)) ?_;refine gV (.bool (decide (64<((kn:Nat):Int)))) (.bool false) (congrArg Value.bool (ltF (by omega))) ?_;refine aw (ag (iu ?_));refine ax ?_;refine aa (.slice (some ⟨iG,0,none⟩) 64 64) ?_;refine aa (.slice ka kn kc) ?_;refine aca (elem:=5) (t:=205) gw 0 iG 64 0 64 64 (λ_=>0) ka kn kc kf (cz.quiet hk gw.ch) (by omega) (by omega) (by omega) (by kernel_rfl) (by kernel_rfl:_=[⟨iG,true,.cells (ak .u8 64 (iF (λ_=>0) 0 kn kf)) 205 (0,0)⟩,⟨de,true,.cells (ak .u8 32 (λ_=>0)) 37 (0,0)⟩,⟨1,false,.cells (ak .u32 64 aX) tG (0,0)⟩]) ?_;intro Tp J3;refine aw (ag (au (ax ?_)));refine eC J3 0 64 (ak .u8 64 (iF (λ_=>0) 0 kn kf)) iG 0 ?_;refine dh 108 #[.agg (ak .u8 64 (iF (λ_=>0) 0 kn kf)),.int .u8 54] ?_;refine(Jt (iF (λ_=>0) 0 kn kf) 54 _).mono ?_;rintro _ zw9 ⟨Xl,rfl,oD,yK,lR⟩;have Dr:=J3.new lR oD yK;refine bY ?_;refine eD Dr (λb=>.slice (some ⟨b,0,none⟩) 2 2) (.cells #[.slice (some ⟨Xl,0,none⟩) 64 64,.slice (some ⟨b,o,none⟩) n c] 23) ?_;intro nn agT uI;refine dh 107 #[.slice (some ⟨nn,0,none⟩) 2 2] ?_;refine(Ju nn Xl 0 64 64 (fq (iF (λ_=>0) 0 kn kf) 54) b o n c d (by omega) (by omega) _ (uI.at_ 0 _ rfl) (St.eK (N:=64) (f:=(fq (iF (λ_=>0) 0 kn kf) 54)) (wr:=true) (t:=5) (fr:=(0,0)) uI 1) (St.mC uI hB (by simp))).mono ?_;rintro _ Gm ⟨AK,Gn,rfl,uK,wz,Qf,Dq⟩;have uJ:=uI.new Dq wz Qf;refine dh 106 #[.slice (some ⟨AK,0,none⟩) (64+n) Gn] ?_;refine(AI AK 0 (64+n) Gn (bI 64 (fq (iF (λ_=>0) 0 kn kf) 54) d) (by omega) _ (uJ.at_ 5 _ rfl) (St.FN (c:=Gn) (wr:=true) (t:=5) (fr:=(0,0)) uJ 0)).mono ?_;rintro _ agU ⟨rfl,kH⟩;have Qg:=uJ.quiet kH;refine eD Qg (λb=>.pointer (some ⟨b,0,none⟩)) (.cells (ak .u8 32 (λ_=>0)) 37) ?_;intro Mv Xm acG;refine store_ acG 0 (.agg (ak .u8 32 (ji (64+n) (bI 64 (fq (iF (λ_=>0) 0 kn kf) 54) d)))) Mv 0 ?_;intro akJ AL;refine aw (ag (au ?_));refine lE 3 [⟨0,λ_=>.agg (ak .u8 64 (iF (λ_=>0) 0 kn kf)),λ_=>[]⟩,⟨1,λids=>.slice (some ⟨(ids.getD 0 0),0,none⟩) 64 64,λids=>[((ids.getD 0 0),.cells (ak .u8 64 (fq (iF (λ_=>0) 0 kn kf) 92)) 5 (0,0))]⟩,⟨0,λ_=>.slice (some ⟨Mv,0,none⟩) 32 32,λ_=>[]⟩] [[3,1,0],[3,1],[3,2],[4,1,0],[4,1],[4,3,2],[4,3],[5,4,1,0],[5,4,1],[5,4,3,2],[5,4,3],[5,4],[6,0],[6,1],[6,2],[6,3],[6,4],[6,5]] ?_ ?_
 ·refine step_cons (Zz AL 4 iG 0 64 (ak .u8 64 (iF (λ_=>0) 0 kn kf))) ?_;refine step_cons ?_ ?_
  ·intro akK anl abd amZ agV;have wA:akK 25=.agg (ak .u8 64 (iF (λ_=>0) 0 kn kf)):=(Sp.dt (agV 0 25 (by kernel_rfl) (by kernel_rfl))).1;have akL:=AL.quiet abd;refine kP ?_;refine mR [(25,.agg (ak .u8 64 (iF (λ_=>0) 0 kn kf)))] (eu wA (iy)) ?_;have akM:=akL.loc;refine Y.dh 108 #[.agg (ak .u8 64 (iF (λ_=>0) 0 kn kf)),.int .u8 92] ?_;refine(Jt (iF (λ_=>0) 0 kn kf) 92 _).mono ?_;rintro _ anm ⟨akN,rfl,akO,acH,Qh⟩;have agW:=akM.new Qh akO acH;exact⟨agW.ch,Sp.eO [akN] (all_cons (agW.qk abd.size 0 (by kernel_rfl)) (all_nil))⟩
  refine step_cons sD ?_;exact jK
 intro acI agX agY Qi;have Mw:acI 0=.agg (ak .u8 64 (iF (λ_=>0) 0 kn kf)):=(Sp.dt (Qi 0 (by kernel_rfl))).1;have acJ:=Sp.Ag (Qi 1 (by kernel_rfl));obtain⟨lS,Qj,Qk⟩:=acJ;have acK:acI 1=.slice (some ⟨lS,0,none⟩) 64 64:=Qj;have acL:∀zp∈([(lS,.cells (ak .u8 64 (fq (iF (λ_=>0) 0 kn kf) 92)) 5 (0,0))]:List (Nat×Obj)),akJ.heap.size<=zp.1/\agX.heap[zp.1]?=some zp.2:=Qk;have acM:acI 2=.slice (some ⟨Mv,0,none⟩) 32 32:=(Sp.dt (Qi 2 (by kernel_rfl))).1;have Xn:=AL.ro agY ([(lS,.cells (ak .u8 64 (fq (iF (λ_=>0) 0 kn kf) 92)) 5 (0,0))]) (acL);refine⟨[.agg (ak .u8 64 (iF (λ_=>0) 0 kn kf)),.slice (some ⟨lS,0,none⟩) 64 64,.slice (some ⟨Mv,0,none⟩) 32 32],by kernel_rfl,aL Mw (aL acK (aL acM (sO))),?_⟩;refine eD Xn (λb=>.slice (some ⟨b,0,none⟩) 2 2) (.cells #[.slice (some ⟨lS,0,none⟩) 64 64,.slice (some ⟨Mv,0,none⟩) 32 32] 23) ?_;intro AM akQ Xo;refine dh 107 #[.slice (some ⟨AM,0,none⟩) 2 2] ?_;refine(Ju AM lS 0 64 64 (fq (iF (λ_=>0) 0 kn kf) 92) Mv 0 32 32 (ji (64+n) (bI 64 (fq (iF (λ_=>0) 0 kn kf) 54) d)) (by omega) (by omega) _ (Xo.at_ 0 _ rfl) (St.eK (N:=64) (f:=(fq (iF (λ_=>0) 0 kn kf) 92)) (wr:=false) (t:=5) (fr:=(0,0)) Xo 1) (St.eK (N:=32) (f:=(ji (64+n) (bI 64 (fq (iF (λ_=>0) 0 kn kf) 54) d))) (wr:=true) (t:=37) (fr:=(0,0)) Xo 2)).mono ?_;rintro _ ann ⟨agZ,acN,rfl,ag0,acO,akS,akT⟩;have acP:=Xo.new akT acO akS;refine dh 106 #[.slice (some ⟨agZ,0,none⟩) (64+32) acN] ?_;refine(AI agZ 0 (64+32) acN (bI 64 (fq (iF (λ_=>0) 0 kn kf) 92) (ji (64+n) (bI 64 (fq (iF (λ_=>0) 0 kn kf) 54) d))) (by omega) _ (acP.at_ 9 _ rfl) (St.FN (c:=acN) (wr:=true) (t:=5) (fr:=(0,0)) acP 0)).mono ?_;rintro _ ano ⟨rfl,akU⟩;have akV:=acP.quiet akU;refine store_ akV 8 (.agg (ak .u8 32 (ji (64+32) (bI 64 (fq (iF (λ_=>0) 0 kn kf) 92) (ji (64+n) (bI 64 (fq (iF (λ_=>0) 0 kn kf) 54) d)))))) de 0 ?_;intro anp ag1;refine aw (ag (wp_ret ?_));refine gn rfl (fY [.cell 4 37] [.agg (ak .u8 32 (ji (64+32) (bI 64 (fq (iF (λ_=>0) 0 kn kf) 92) (ji (64+n) (bI 64 (fq (iF (λ_=>0) 0 kn kf) 54) d)))))] (.agg (ak .u8 32 (ji (64+32) (bI 64 (fq (iF (λ_=>0) 0 kn kf) 92) (ji (64+n) (bI 64 (fq (iF (λ_=>0) 0 kn kf) 54) d)))))) ⟨cU ag1 8 32 de 0,trivial⟩) ?_;exact⟨by(unfold fA)<;>kernel_rfl,ag1.ch⟩
theorem acQ (ka:Option Addr) (kn kc:Nat) (kf:Nat->Int) (b o n c:Nat) (d:Nat->Int) (VT:1<=kn/\kn<=64) (hn:n<=55) {tG:TypeId} (w:World) (hG:w.heap[1]?=some (.cells (ak .u32 64 aX) tG (0,0))) (hk:cz w ka kn kc kf) (hB:eS w b o n d):
 aj prog 42 #[.slice ka kn kc,.slice (some ⟨b,o,none⟩) n c] w λv w1=>v=.agg (ak .u8 8 (fA kn kf n d))/\Ch [] w w1:=by
 have S0:=St.given (w:=w) [(1,.cells (ak .u32 64 aX) tG (0,0))] (all_cons hG (all_nil));refine dz Tryz.func42 rfl ?_;refine au (ax ?_);refine eD S0 (λb=>.pointer (some ⟨b,0,none⟩)) (.cells (ak .u8 8 (λ_=>0)) 38) ?_;intro de sH i_;refine aw (ag (au (ax ?_)));refine aa (.slice ka kn kc) ?_;refine bY ?_;refine dh 67 #[.slice ka kn kc,.slice (some ⟨b,o,none⟩) n c] ?_;refine(VS ka kn kc kf b o n c d (by omega) (by omega) _ (i_.at_ 1 _ rfl) (cz.quiet hk i_.ch) (St.mC i_ hB (by simp))).mono ?_;rintro _ zw4 ⟨rfl,zh5⟩;have gw:=i_.quiet zh5;refine eD gw (λb=>.pointer (some ⟨b,0,none⟩)) (.cells (ak .u8 32 (λ_=>0)) 37) ?_;intro Qm zw8 uL;refine store_ uL 0 (.agg (ak .u8 32 (fA kn kf n d))) Qm 0 ?_;intro akW Dr;refine aw (ag (au (ax ?_)));refine aa (.slice (some ⟨Qm,0,none⟩) 8 32) ?_;refine aa (.pointer (some ⟨Qm,0,none⟩)) ?_;refine eC Dr 0 8 (ak .u8 8 (fA kn kf n d)) Qm 0 ?_;refine store_ Dr 1 (.agg (ak .u8 8 (fA kn kf n d))) de 0 ?_;intro acR Gp;refine aw (ag (wp_ret ?_));refine gn rfl (fY [.cell 4 38] [.agg (ak .u8 8 (fA kn kf n d))] (.agg (ak .u8 8 (fA kn kf n d))) ⟨cU Gp 1 8 de 0,trivial⟩) ?_;exact⟨by kernel_rfl,Gp.ch⟩
theorem abe (b o n c e q k:Nat) (f g:Nat->Int) (hn:n<=1000000) (w:World) (hB:eS w b o n f) (hE:eS w e q n g):
 aj prog 192 #[.slice (some ⟨b,o,none⟩) n c,.slice (some ⟨e,q,none⟩) n k] w λv w1=>v=.bool (kq n f g)/\Ch [] w w1:=by
 have S0:=St.nil [] w;refine dz Tryz.func192 rfl ?_;refine au (ax ?_);refine aa (.bool false) ?_;refine aw (ag (au (au (ax ?_))));refine bY ?_;refine aa (.int .i64 ((n:Nat):Int)) ?_;refine bY ?_;refine aa (.int .i64 ((n:Nat):Int)) ?_;refine gV (.bool (((n:Nat):Int)!=((n:Nat):Int))) (.bool false) (congrArg Value.bool (neF (by omega))) ?_;refine aw (ag (iu ?_));refine wp_skip (ag (au (ax ?_)));refine aa (.int .u8 0) ?_;refine aw (ag (au (au (ax ?_))));refine bY ?_;refine aa (.int .i64 ((n:Nat):Int)) ?_;refine aa (.int .i64 0) ?_;refine aw (ag (wp_block ?_));refine Ak (λzn za zw=>∃(i:Int) (s:Int) (my:Nat->Value),(zn=(((n:Nat):Int)-i).toNat/\0<=i/\i<=((n:Nat):Int)/\s=Ll f g i.toNat)/\za=⟨#[.slice (some ⟨b,o,none⟩) n c,.slice (some ⟨e,q,none⟩) n k,undef,undef,.bool false,.int .u8 s,(my 6),(my 7),.slice (some ⟨b,o,none⟩) n c,.int .i64 ((n:Nat):Int),.slice (some ⟨e,q,none⟩) n k,.int .i64 ((n:Nat):Int),.bool false,.slice (some ⟨b,o,none⟩) n c,.int .i64 ((n:Nat):Int),.int .i64 i,(my 16),(my 17),(my 18),(my 19),(my 20),(my 21),(my 22),(my 23),(my 24),(my 25),(my 26),(my 27),(my 28),undef,undef],[]⟩/\St [] w [] zw) _ (λzy Dp=>⟨(0:Int),(0:Int),(λd=>zy.tmps.getD d undef),⟨rfl,by omega,by omega,rfl⟩,by subst Dp;kernel_rfl,S0.re (R:=([]:List av)) [] []⟩) ?_;rintro _ _ Dn ⟨i,s,my,⟨rfl,zf2,zf3,Xp⟩,rfl,gw⟩;refine au (ax ?_);refine aa (.bool (decide (i<((n:Nat):Int)))) ?_;refine aw (ag (au ?_));refine jH (decide (i<((n:Nat):Int))) ?_ ?_
 ·intro Xq;have Jv:=FC Xq;refine wp_skip (ag (au (wp_block (au (ax ?_)))));refine aa (.int .i64 i) ?_;refine mw (e:=5) b o (i).toNat n 1 c .i64 i (by omega) (by omega) (by omega) ?_;refine kC b o n (o+(i).toNat*1) (i).toNat f (St.mC gw hB (by simp)) (by omega) (by omega) ?_;refine aa (.int .i64 i) ?_;refine aa (.int .u8 (f (i).toNat)) ?_;refine aw (ag (ax ?_));refine aa (.int .u8 s) ?_;refine aa (.int .u8 (f (i).toNat)) ?_;refine bY ?_;refine aa (.int .i64 i) ?_;refine mw (e:=5) e q (i).toNat n 1 k .i64 i (by omega) (by omega) (by omega) ?_;refine kC e q n (q+(i).toNat*1) (i).toNat g (St.mC gw hE (by simp)) (by omega) (by omega) ?_;refine aa (.int .u8 (bits .xor .u8 (f (i).toNat) (g (i).toNat))) ?_;refine aa (.int .u8 (bits .or .u8 s (bits .xor .u8 (f (i).toNat) (g (i).toNat)))) ?_;refine bJ ?_;refine aw (ik (ag (ax ?_)));refine lz .i64 (i+1) (IntWalk.i64_in _ (by omega)) ?_;refine aa (.int .i64 (i+1)) ?_;refine aw ?_;refine vU λzy Dp=>?_;exact⟨_,by omega,(i+1),(bits .or .u8 s (bits .xor .u8 (f (i).toNat) (g (i).toNat))),(λd=>zy.tmps.getD d undef),⟨rfl,by omega,by omega,Xk i s (by omega) Xp⟩,by subst Dp;kernel_rfl,gw.re (R:=([]:List av)) [] []⟩
 intro Xr;have lR:=FE Xr;refine wp_exit (fy (fy (qh (ag (au (ax ?_))))));refine aa (.int .u8 s) ?_;refine aa (.bool (s==0)) ?_;refine aa (.bool (s==0)) ?_;refine aw (ag (wp_ret ?_));refine gn rfl (fY [.tmp 4] [.bool (s==0)] (.bool (s==0)) ⟨cM,trivial⟩) ?_;exact⟨congrArg Value.bool (by unfold kq;rw[Xp,show i.toNat=n by omega]),gw.ch⟩
end Go.Proofs.YtggfpcggakghnaaGreatDoor
namespace Go.Proofs.YtggfpcggakghnaaGreatDoor
open Go Go.RowKit Go.BigFrame Sx Vx
def du (u:World):List av:=u.heap.toList.zipIdx.map λp=>⟨p.2,false,p.1⟩
theorem qO {u:World} {i:Nat} {o:Obj} (h:u.heap[i]?=some o):(⟨i,false,o⟩:av)∈du u:=by
 unfold du;rw[List.mem_map];exact⟨(o,i),by rw[List.mk_mem_zipIdx_iff_getElem?];simpa using h,rfl⟩
theorem Jw (w:World):St [] w (du w++[]) w:=by
 have:=St.given (w:=w) (w.heap.toList.zipIdx.map λp=>(p.2,p.1)) (by
  intro p hp;obtain⟨q,hq,rfl⟩:=List.mem_map.1 hp;have:=(List.mem_zipIdx_iff_getElem?.1 (show(q.1,q.2)∈w.heap.toList.zipIdx from hq));simpa using this)
 rw[List.append_nil];unfold du;rw[List.map_map]at this;exact this
structure R8 where
 n:Nat
 f:Nat->Int
 b:Nat
 c:Nat
def R8.bl (r:R8):List av:=[⟨r.b,true,.cells (dc r.n r.f r.c) 5 (0,0)⟩]
inductive CG where
 |cn (u:World)
 |row (r:R8)
instance:Bl CG:=⟨λg=>match g with|.cn u=>du u|.row r=>r.bl⟩
def kI:List V->Option (List Int)
 |[]=>some []
 |.int .u8 x::l=>(match kI l with
  |some r=>some (x::r)
  |none=>none)
 |_=>none
theorem jw (ids:List Nat):∀{l:List V} {r:List Int},kI l=some r->ab ids l=eE r.length (gT r)
 |[],r,h=>by cases h;rfl
 |v::l,r,h=>by
  unfold kI at h;split at h
  ·rename_i e;cases e
  ·rename_i x l' e;obtain⟨rfl,rfl⟩:=List.cons.inj e;split at h
   ·rename_i r' hr;cases h;have ih:=jw ids hr;simp only[ab,cl,ih,List.length_cons];unfold eE;rw[List.range_succ_eq_map,List.map_cons,List.map_map];rfl
   ·cases h
  ·cases h
def Xs (o:Nat) (f:Nat->Int):Nat->Int:=match o with
 |0=>f
 |k+1=>Ek f (k+1)
theorem Qn (o:Nat) (f:Nat->Int) (j:Nat):Xs o f j=f (o+j):=by
 cases o with
 |zero=>simp[Xs]
 |succ k=>rfl
def zq:List CG->Option (List CG×R8)
 |[]=>none
 |[.row r]=>some ([],r)
 |g::l=>(match zq l with
  |some (a,r)=>some (g::a,r)
  |none=>none)
theorem qP:∀{ch l:List CG} {r:R8},zq ch=some (l,r)->ch=l++[.row r]
 |[],l,r,h=>by cases h
 |g::t,l,r,h=>by
  unfold zq at h;split at h
  ·cases h
  ·rename_i e;obtain⟨rfl,rfl⟩:=List.cons.inj e;cases h;rfl
  ·rename_i g' t' _ e;obtain⟨rfl,rfl⟩:=List.cons.inj e;split at h
   ·rename_i a r' hr;cases h;rw[qP hr];rfl
   ·cases h
def Xt (bl:List VB) (ch:List CG) (x:V) (X:Bool->Nat->(Nat->Int)->Prop):Prop:=match x with
 |.sl i o (m+1) _=>(match bl[i]?with
  |some ⟨_,⟨_,(0,0)⟩,l⟩=>(match kI l with
   |some r=>o+(m+1)<=r.length/\X true (m+1) (Xs o (gT r))
   |none=>False)
  |_=>False)
 |.raw (.slice (some ⟨b,o,none⟩) m _)=>(match ch with
  |.cn u::_=>∃f,eS u b o m f/\X false m f
  |_=>False)
 |_=>False
theorem vh {u w w0:World} {ms:List Nat} {B:List av} (S:St ms w0 B w) (h:∀y∈du u,y∈B) {b o m:Nat} {f:Nat->Int} (h8:eS u b o m f):eS w b o m f:=λj hj=>by
 have h1:=h8 j hj;unfold World.cell? at h1⊢;cases hh:u.heap[b]?with
 |none=>simp[hh]at h1
 |some ob=>
  have:w.heap[b]?=some ob:=S.at' (h _ (qO hh));simp only[hh,this]at h1⊢;exact h1
theorem Jx {ids:List Nat} {bl:List VB} {ch:List CG} {R:List av} {ms:List Nat} {w0 w:World} (hl:ids.length=bl.length) (S:St ms w0 (lits ids ids bl++af ch R) w) {x:V} {X:Bool->Nat->(Nat->Int)->Prop} (h:Xt bl ch x X):
 ∃b o m c f sure,den ids x=.slice (some ⟨b,o,none⟩) m c/\eS w b o m f/\(sure=true->0<m)/\X sure m f:=by
 unfold Xt at h;split at h
 ·rename_i i o m c;split at h
  ·rename_i wr t l hb;split at h
   ·rename_i r hr;have ba:=(cA hl S hb).2;refine⟨_,_,_,_,_,true,rfl,λj hj=>?_,λ_=>Nat.succ_pos m,h.2⟩;rw[cell_of ba,jw ids hr,Qn];simp only[List.getElem?_toArray];exact je _ (by have:=h.1;omega)
   ·exact h.elim
  ·exact h.elim
 ·rename_i b o m c;split at h
  ·rename_i u rest;obtain⟨f,h8,hX⟩:=h;refine⟨b,o,m,c,f,false,rfl,vh S (λy hy=>?_) h8,(λe=>by cases e),hX⟩;exact List.mem_append_right _ (List.mem_append_left _ hy)
  ·exact h.elim
 ·exact h.elim
def ap8:(Operand->V)->Op->List VB->List CG->VK CG->Prop:=λe op bl ch K=>match op with
 |.call c=>(match c.callee,c.args.toList,c.argTypes.toList with
  |.builtin .append,[s,xs],[t,tx]=>(match prog.underlying t,prog.underlying tx with
   |some (.slice 5),some (.slice _)=>(match e s with
    |.raw (.slice none 0 0)=>Xt bl ch (e xs) λsure m g=>m<=1000000/\
     cond sure (∀b c,m<=c->K (.raw (.slice (some ⟨b,0,none⟩) m c)) bl (ch++[.row ⟨m,g,b,c⟩]))
      ((m=0->K (.raw (.slice none 0 0)) bl ch)/\(0<m->∀b c,m<=c->K (.raw (.slice (some ⟨b,0,none⟩) m c)) bl (ch++[.row ⟨m,g,b,c⟩])))
    |.raw (.slice (some ⟨b,0,none⟩) n c)=>(match zq ch with
     |some (l,r)=>Xt bl ch (e xs) λ_ m g=>(b=r.b/\n=r.n/\c=r.c/\n<=c/\n+m<=1000000/\0<n+m)/\∀b' c',n+m<=c'->K (.raw (.slice (some ⟨b',0,none⟩) (n+m) c')) bl (l++[.row ⟨n+m,bI n r.f g,b',c'⟩])
     |none=>False)
    |_=>False)
   |_,_=>False)
  |_,_,_=>False)
 |.makeSlice t l c=>(match prog.underlying t,e l,e c with
  |some (.slice 5),.int _ (.ofNat 0),.int _ m=>(1<=m/\m<=1000000)/\∀b,K (.raw (.slice (some ⟨b,0,none⟩) 0 m.toNat)) bl (ch++[.row ⟨0,λ_=>0,b,m.toNat⟩])
  |_,_,_=>False)
 |_=>False
theorem Xu {P:Program} {ids:List Nat} {w:World} {t el:TypeId} {n:Nat} {inf:TypeInfo} {k1 k2:IntKind} (hu:P.underlying t=some (.slice el)) (hi:P.info? el=some inf) (hz:j_ P el=some (0+1)) (h0:jo P el=some [.int .u8 0]) (h1:1<=n) (hn:n<=1000000) (hb:inf.bytes<=100):
 (Instr.makeSlice t (.int k1 ((0:Nat):Int)) (.int k2 (n:Int))).run P w=.ok (.slice (some ⟨w.heap.size,0,none⟩) 0 n) (w.alloc (.cells (dc 0 (λ_=>0) n) el)):=by
 obtain⟨v0,z1,z2⟩:=jM (P:=P) (w:=w) (ids:=ids) h0;have hv:v0.cells.size=0+1:=by rw[<-Array.length_toList,z2];rfl
 have Pw:(Array.range (n*(0+1))).map (λi=>v0.cells[i%v0.cells.size]!)=dc 0 (λ_=>0) n:=by
  apply Array.ext';rw[sW v0.cells 0 hv,z2];simp[ab,cl,eE,dc,den]
 have hm:inf.bytes*n<=100000000:=Nat.le_trans (Nat.mul_le_mul hb hn) (by decide);have e1:(decide ((n:Int)<0)||decide ((inf.bytes:Int)*(n:Int)>2^48))=false:=by
  have:(inf.bytes:Int)*(n:Int)<=100000000:=by
   have q:=Int.ofNat_le.2 hm;rw[Int.natCast_mul]at q;exact q
  rw[decide_eq_false (by omega),decide_eq_false (by omega)];rfl
 have e4:(decide ((((0:Nat):Int))<0)||decide ((inf.bytes:Int)*((0:Nat):Int)>2^48))=false:=by simp
 have e2:¬(n*inf.bytes>roomBytes):=by
  have:n*inf.bytes<=100000000:=by rw[Nat.mul_comm];exact hm
  show¬(n*inf.bytes>_);unfold roomBytes;omega
 have e3:¬n*(0+1)=0:=by omega
 simp only[Instr.makeSlice,Sem.run_bind,run_underlying hu,Result.andThen_ok,asInt,asIntOf,Sem.run_pure,qz hi,iw0 hn,iw0 (Nat.zero_le 1000000),e1,e4,Bool.false_or,askRoom,if_neg e2,Int.toNat_natCast,bu hz,if_neg e3,z1];simp only[show decide (((0:Nat):Int)<0)=false by simp,show decide (((0:Nat):Int)>(n:Int))=false by simp,Bool.or_self,Bool.false_eq_true,if_false,Sem.run_bind,Sem.run_pure,Result.andThen_ok,bu hz,if_neg e3,z1];rw[Pw];rfl
theorem Ds {ids:List Nat} {bl:List VB} {l:List CG} {B B' R:List av} {ms:List Nat} {w0 w w':World} (S:St ms w0 ((lits ids ids bl++af l [])++(B++R)) w) {n c:Nat} {f:Nat->Int} {x:Option Addr} (hr:eK 5 n f x c B') (hB:Wr B) (hc:Ch (B.map av.id) w w') (ba:∀y∈B',w'.heap[y.id]?=some y.obj/\((∃u∈B,y.id=u.id)\/w.heap.size<=y.id)) (h0:0<n):
 ∃b,x=some ⟨b,0,none⟩/\n<=c/\St ms w0 (lits ids ids bl++af (l++[.row ⟨n,f,b,c⟩]) R) w':=by
 obtain⟨b,hle,rfl,rfl⟩:=qt hr h0;refine⟨b,rfl,hle,?_⟩;have S2:=S.yE hB hc (λy hy=>(ba y hy).1) (λy hy=>(ba y hy).2) (by simp);have e:lits ids ids bl++af (l++[.row ⟨n,f,b,c⟩]) R=(lits ids ids bl++af l [])++([⟨b,true,.cells (dc n f c) 5 (0,0)⟩]++R):=by
  rw[cV,aW (af [CG.row ⟨n,f,b,c⟩] R) l,List.append_assoc];rfl
 rw[e];exact S2
theorem kZ (ids:List Nat) (bl:List VB) (l:List CG) (r:R8) (R:List av):lits ids ids bl++af (l++[.row r]) R=(lits ids ids bl++af l [])++(r.bl++R):=by
 rw[cV,aW (af [CG.row r] R) l,List.append_assoc];rfl
theorem pr (ids:List Nat) (bl:List VB) (l:List CG) (R:List av):lits ids ids bl++af l R=(lits ids ids bl++af l [])++([]++R):=by
 rw[aW R l,List.append_assoc];rfl
theorem lT (n:Nat) (f g:Nat->Int):bI 0 f g=g:=by funext j;rfl
theorem Gq {gl:Nat->Option Nat}:oA prog gl ap8:=by
 intro e op ids bl ch R ms w0 w K ρ o hg hl S cx ho h;unfold ap8 at h;split at h
 ·rename_i c;split at h
  ·rename_i s xs t tx eU a9 ju;split at h
   ·rename_i T' ht o9;obtain⟨FZ,ar,td⟩:=c;simp only at eU a9 ju;have e2:ar=#[s,xs]:=by rw[<-a9]
    have e3:td=#[t,tx]:=by rw[<-ju]
    subst eU e2 e3;have aF:(prog.info? 5).map (λi=>(i.zero.map (·.cells),i.size,i.bytes))=some (some #[.int .u8 0],1,1):=by kernel_rfl
    split at h
    ·rename_i qc;obtain⟨b,ob,m,c,f,sure,hx,h8,abf,hm,hK⟩:=Jx hl S h;obtain⟨v,w',aY,eZ,x',c',bl',rfl,mT,oC⟩:=mX (P:=prog) (ty:=o.type) (vV 5) (w:=w) (λy hy=>nomatch hy) (FM h8 o9) ht aF (by omega);rw[Nat.zero_add,lT 0]at mT;have Dt:=bP (P:=prog) (ρ:=ρ) (o:=o) ho (sv:=.slice none 0 0) (by rw[cx,qc];rfl) (by rw[cx,hx]) aY;have hK1:0<m->∀b c,m<=c->K (.raw (.slice (some ⟨b,0,none⟩) m c)) bl (ch++[.row ⟨m,f,b,c⟩]):=by
      cases sure with
      |true=>exact λ_=>hK
      |false=>exact hK.2
     have Qo:m=0->K (.raw (.slice none 0 0)) bl ch:=λh0=>by
      cases sure with
      |true=>have:=abf rfl;omega
      |false=>exact hK.1 h0
     rcases Nat.eq_zero_or_pos m with Ah|Ah
     ·have h1:=Qo Ah;subst Ah;obtain⟨i,hi,hi2⟩:=Option.map_eq_some_iff.1 aF;simp only[Prod.mk.injEq]at hi2;have ag2:=bP (P:=prog) (ρ:=ρ) (o:=o) ho (sv:=.slice none 0 0) (by rw[cx,qc];rfl) (by rw[cx,hx]) (run_append_nothing (P:=prog) w t tx o.type 5 i ht hi none 0 0 (Nat.le_refl _) _ (by rw[hi2.2.1];exact FM h8 o9));exact⟨_,[],bl,_,w,.inl (by rw[ag2];simp[den]),by simpa using hl,by simpa using S,h1⟩
     ·obtain⟨b',rfl,hle,S2⟩:=Ds (l:=ch) (B:=[]) (by rw[<-pr];exact S) mT (λy hy=>nomatch hy) (by simpa using eZ) (λy hy=>by simpa using oC y hy) Ah;exact⟨_,[],bl,_,w',.inl (by rw[Dt,Nat.zero_add];simp[den]),by simpa using hl,by simpa using S2,hK1 Ah b' c' hle⟩
    ·rename_i b n c qc;split at h
     ·rename_i l r hlr;obtain rfl:=qP hlr;obtain⟨b1,ob,m,c1,f,sure,hx,h8,abf,⟨rfl,rfl,rfl,vQ,hb,Gs⟩,hK⟩:=Jx hl S h;have S1:=S;rw[kZ]at S1;obtain⟨v,w',aY,eZ,x',c',bl',rfl,mT,oC⟩:=mX (P:=prog) (ty:=o.type) (show eK 5 r.n r.f (some ⟨r.b,0,none⟩) r.c r.bl from⟨vQ,.inr ⟨_,rfl,rfl⟩⟩) (w:=w) (λy hy=>S1.at' (by simp[hy])) (FM h8 o9) ht aF (by omega);have Dt:=bP (P:=prog) (ρ:=ρ) (o:=o) ho (sv:=.slice (some ⟨r.b,0,none⟩) r.n r.c) (by rw[cx,qc];rfl) (by rw[cx,hx]) aY;obtain⟨b',rfl,hle,S2⟩:=Ds S1 mT (Wr.cons rfl Wr.nil) eZ oC Gs;exact⟨_,[],bl,_,w',.inl (by rw[Dt];simp[den]),by simpa using hl,by simpa using S2,hK b' c' hle⟩
     ·exact h.elim
    ·exact h.elim
   ·exact h.elim
  ·exact h.elim
 ·rename_i t l c;split at h
  ·rename_i k1 k2 m hu Fx hec;obtain⟨⟨m1,m2⟩,hK⟩:=h;obtain⟨n,rfl⟩:=Int.eq_ofNat_of_zero_le (show 0<=m by omega);obtain⟨inf,wv,sP⟩:∃inf,prog.info? 5=some inf/\inf.bytes<=100:=⟨_,rfl,Nat.le_of_ble_eq_true (by kernel_rfl)⟩;have aY:=Xu (P:=prog) (ids:=ids) (w:=w) (t:=t) (el:=5) (n:=n) (inf:=inf) (k1:=k1) (k2:=k2) hu wv (by kernel_rfl) (by kernel_rfl) (by omega) (by omega) sP;rw[Int.toNat_natCast]at hK;refine⟨_,[],bl,_,w.alloc (.cells (dc 0 (λ_=>0) n) 5),.inl ?_,by simpa using hl,?_,hK w.heap.size⟩
   ·unfold execOp;have e1:Int.ofNat 0=((0:Nat):Int):=rfl;simp only[ho,cx,Fx,hec,den,Sem.run_bind,e1,aY,Result.andThen_ok,Sem.run_pure]
   ·rw[List.append_nil,kZ];rw[pr]at S;exact S.yE (λy hy=>nomatch hy) (Ch.alloc [] w _) (λy hy=>by
     obtain rfl:=List.mem_singleton.1 hy;exact heap_alloc_new w _) (λy hy=>by
     obtain rfl:=List.mem_singleton.1 hy;exact .inr (Nat.le_refl _)) (by simp[R8.bl])
  ·exact h.elim
 ·exact h.elim
end Go.Proofs.YtggfpcggakghnaaGreatDoor
