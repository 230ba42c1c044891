/- Part 11 of the proof. -/
import Derived.Test.YtggfpcggakghnaaGreatDoorProg
import Derived.Test.YtggfpcggakghnaaGreatDoorQ7
set_option linter.all false
set_option maxRecDepth 100000
set_option maxHeartbeats 4000000
open Go.Proofs.Tryz
open Go.IntKind (u8 u16 u32 u64 i64)
namespace Go.Proofs.YtggfpcggakghnaaGreatDoor
open Go Go.RowKit Go.BigFrame Sx Vx
def kJ (p:Sd.Pol) (ka:Nat->Option Addr) (kn kc:Nat->Nat):Array Value:=#[.int .i64 (p.i 0),.int .i64 (p.i 1),.int .i64 (p.i 2),.int .i64 (p.i 3),.int .i64 (p.i 4),.slice (ka 0) (kn 0) (kc 0),.slice (ka 1) (kn 1) (kc 1),.slice (ka 2) (kn 2) (kc 2),.slice (ka 3) (kn 3) (kc 3),.int .i64 (p.i 9),.int .i64 (p.i 10),.int .i64 (p.i 11),.int .i64 (p.i 12),.int .i64 (p.i 13),.int .i64 (p.i 14),.int .i64 (p.i 15),.int .i64 (p.i 16),.int .i64 (p.i 17),.int .i64 (p.i 18),.int .i64 (p.i 19),.int .i64 (p.i 20),.int .i64 (p.i 21),.int .i64 (p.i 22),.int .i64 (p.i 23),.int .i64 (p.i 24),.int .i64 (p.i 25),.int .i64 (p.i 26),.int .i64 (p.i 27),.int .i64 (p.i 28),.int .i64 (p.i 29),.int .i64 (p.i 30),.int .i64 (p.i 31),.int .i64 (p.i 32),.int .i64 (p.i 33),.int .i64 (p.i 34),.int .i64 (p.i 35),.int .i64 (p.i 36),.int .i64 (p.i 37),.int .i64 (p.i 38),.int .i64 (p.i 39),.int .i64 (p.i 40),.int .i64 (p.i 41),.int .i64 (p.i 42),.int .i64 (p.i 43),.int .i64 (p.i 44),.int .i64 (p.i 45),.int .i64 (p.i 46),.int .i64 (p.i 47),.int .i64 (p.i 48),.int .i64 (p.i 49),.int .i64 (p.i 50),.int .i64 (p.i 51),.int .i64 (p.i 52),.int .i64 (p.i 53),.int .i64 (p.i 54),.int .i64 (p.i 55)]
def AU (t:Sd.Timer):Array Value:=#[.int .i64 t.n,.int .i64 t.most]
def x4C (t:Sd.X4):Array Value:=#[.int .i64 t.a,.int .i64 t.b,.int .i64 t.c,.int .i64 t.d]
def ahQ (t:Sd.Label):Array Value:=#[.int .i64 t.mD,.int .i64 t.source,.int .i64 t.seq]
def gO (t:Sd.Tok):Array Value:=#[.int .i64 t.holder,.int .i64 t.epoch,.int .i64 t.offer,.int .i64 t.oa.n,.int .i64 t.oa.most,.int .i64 t.la.n,.int .i64 t.la.most,.bool t.bad]
def Tr (t:Sd.Point):Array Value:=#[.int .i64 t.cls,.int .i64 t.bx.a,.int .i64 t.bx.b,.int .i64 t.bx.c,.int .i64 t.bx.d,.int .i64 t.now.a,.int .i64 t.now.b,.int .i64 t.now.c,.int .i64 t.now.d,.int .i64 t.cX.mD,.int .i64 t.cX.source,.int .i64 t.cX.seq]
def XI (t:Sd.bW):Array Value:=#[.int .i64 t.kind,.int .i64 t.seq,.int .i64 t.role,.int .i64 t.bx,.int .i64 t.epoch,.int .i64 t.mode,.int .i64 t.cls,.bool t.now,.int .i64 t.x.a,.int .i64 t.x.b,.int .i64 t.x.c,.int .i64 t.x.d]
def alF (t:Sd.dS):Array Value:=#[.bool t.valid,.int .i64 t.x.a,.int .i64 t.x.b,.int .i64 t.x.c,.int .i64 t.x.d,.bool t.FQ]
def jm (t:Sd.cN):Array Value:=#[.bool t.any,.int .i64 t.high,.int .u64 t.seen]
def wJ (t:Sd.Ask):Array Value:=#[.int .i64 t.source,.int .i64 t.aV,.int .i64 t.gU.n,.int .i64 t.gU.most]
def recC (t:Sd.Rec):Array Value:=#[.int .i64 t.kind,.int .i64 t.source,.int .i64 t.seq,.int .i64 t.epoch,.int .i64 t.code,.int .i64 t.how]
theorem adk (s i:Int) (h0:0<=s) (h1:0<=i) (h2:i<=62):((Int.fdiv s (2^(min (i).toNat 64)))%2==1)=Sd.has s i:=by
 have e:min i.toNat 64=i.toNat:=by omega
 have h3:(0:Int)<=2^i.toNat:=Int.le_of_lt (Int.pow_pos (by omega));rw[e,Int.fdiv_eq_ediv_of_nonneg _ h3];simp[Sd.has,h0,h1,h2];exact Bool.eq_iff_iff.2 (by simp)
def ff (p:Sd.Pol) (ka:Nat->Option Addr) (kn kc:Nat->Nat):List V:=(List.range 56).map λo=>bif Nat.ble 5 o&&Nat.ble o 8 then .raw (.slice (ka (o-5)) (kn (o-5)) (kc (o-5)))else .int .i64 (p.i o)
def VU (n m:Int):List V:=[.int .i64 n,.int .i64 m]
def jx (t:Sd.Tok):List V:=[.int .i64 t.holder,.int .i64 t.epoch,.int .i64 t.offer,.int .i64 t.oa.n,.int .i64 t.oa.most,.int .i64 t.la.n,.int .i64 t.la.most,.bool t.bad]
def QQ (x:Sd.X4):List V:=[.int .i64 x.a,.int .i64 x.b,.int .i64 x.c,.int .i64 x.d]
def XJ (t:Sd.Label):List V:=[.int .i64 t.mD,.int .i64 t.source,.int .i64 t.seq]
def yB (t:Sd.Point):List V:=.int .i64 t.cls::(QQ t.bx++(QQ t.now++XJ t.cX))
theorem iw {x:Int} (h:-9223372036854775808<=x/\x<=9223372036854775807):i64.wrap x=x:=by simp[IntKind.wrap,IntKind.bits,IntKind.signed];omega
theorem qU {L:List QF} {n f:Nat} {xs:List V} {v:V} {args:Array Value} {x:Value} {w:World} (hL:aZ prog (λ_=>none) L) (h:jQ prog L n f xs (·=v)) (ha:args=(ao [] xs).toArray:=by kernel_rfl) (hx:x=den [] v:=by kernel_rfl) (h1:cH 0 xs=true:=by kernel_rfl) (h2:fK 0 v=true:=by kernel_rfl):
 aj prog f args w λy w1=>y=x/\Ch [] w w1:=by subst ha hx;exact ta hL n h h1 h2 [] w
theorem adl (n m:Int) (X:V->Prop):jQ prog [] 30 78 [.int .i64 n,.int .i64 m] X=cond (decide (n<m)) (X (.int .i64 (i64.wrap (n+1)))) (X (.int .i64 m)):=by kernel_rfl
theorem alG (n:Int) (m:Int) (h_n:-9223372036854775808<=n/\n<=9223372036854775807) (h_m:-9223372036854775808<=m/\m<=9223372036854775807) (w:World):
 aj prog 78 #[.int .i64 n,.int .i64 m] w λv w1=>v=.int .i64 (Sd.sat n m)/\Ch [] w w1:=by
 refine qU aZ.nil (n:=30) (xs:=[.int .i64 n,.int .i64 m]) (v:=.int .i64 (Sd.sat n m)) ?_;rw[adl];unfold Sd.sat;refine aU (λh=>?_) (λh=>?_)
 ·have h:n<m:=by simpa using h
  rw[if_pos h,iw (by omega)]
 ·rw[if_neg (by simpa using h)]
theorem QU (n m k:Int) (X:V->Prop):jQ prog [] 30 183 [.int .i64 n,.int .i64 m,.int .i64 k] X=cond (decide (n<m)) (X (.int .i64 m)) (cond (decide (n>k)) (X (.int .i64 k)) (X (.int .i64 n))):=by kernel_rfl
theorem QW (n:Int) (lo:Int) (hi:Int) (w:World):
 aj prog 183 #[.int .i64 n,.int .i64 lo,.int .i64 hi] w λv w1=>v=.int .i64 (Sd.oM n lo hi)/\Ch [] w w1:=by
 refine qU aZ.nil (n:=30) (xs:=[.int .i64 n,.int .i64 lo,.int .i64 hi]) (v:=.int .i64 (Sd.oM n lo hi)) ?_;rw[QU];unfold Sd.oM;exact aU (λh=>by rw[if_pos (by simpa using h)]) (λh=>by
  rw[if_neg (by simpa using h)];exact aU (λh=>by rw[if_pos (by simpa using h)]) (λh=>by rw[if_neg (by simpa using h)]))
def tw (a b:Int):Int:=u64.wrap (u64.wrap a-u64.wrap b)
theorem abr {a b:Int} (h0:0<=a-b) (h1:a-b<18446744073709551616):tw a b=a-b:=by unfold tw;rw[IntKind.wrap_u64,IntKind.wrap_u64,IntKind.wrap_u64];omega
theorem adm {a:Int} (h0:0<=a) (h1:a<18446744073709551616):u64.wrap a=a:=by rw[IntKind.wrap_u64];omega
theorem MM (nw t b:Int) (X:V->Prop):jQ prog [] 30 142 [.int .i64 nw,.int .i64 t,.int .i64 b] X=cond (decide (b<1)) (X (.int .i64 nw)) (cond (decide (t>=nw)) (cond (decide (tw t nw<=u64.wrap b)) (X (.int .i64 t)) (X (.int .i64 (i64.wrap (nw+b)))))
 (cond (decide (tw nw t<=u64.wrap b)) (X (.int .i64 t)) (X (.int .i64 (i64.wrap (nw-b)))))):=by kernel_rfl
theorem JH (nw:Int) (t:Int) (b:Int) (ahR:-9223372036854775808<=nw/\nw<=9223372036854775807) (h_t:-9223372036854775808<=t/\t<=9223372036854775807) (h_b:-9223372036854775808<=b/\b<=9223372036854775807) (w:World):
 aj prog 142 #[.int .i64 nw,.int .i64 t,.int .i64 b] w λv w1=>v=.int .i64 (Sd.jf nw t b)/\Ch [] w w1:=by
 refine qU aZ.nil (n:=30) (xs:=[.int .i64 nw,.int .i64 t,.int .i64 b]) (v:=.int .i64 (Sd.jf nw t b)) ?_;rw[MM];unfold Sd.jf;refine aU (λh=>by rw[if_pos (by simpa using h)]) (λh=>?_);have h1:¬b<1:=by simpa using h
 rw[if_neg h1,adm (by omega) (by omega)];refine aU (λh=>?_) (λh=>?_)
 ·have h2:nw<=t:=by simpa using h
  rw[if_pos h2,abr (by omega) (by omega)];refine aU (λh=>by rw[if_pos (by simpa using h)]) (λh=>?_);have h3:¬t-nw<=b:=by simpa using h
  rw[if_neg h3,iw (by omega)]
 ·have h2:¬nw<=t:=by simpa using h
  rw[if_neg h2,abr (by omega) (by omega)];refine aU (λh=>by rw[if_pos (by simpa using h)]) (λh=>?_);have h3:¬nw-t<=b:=by simpa using h
  rw[if_neg h3,iw (by omega)]
def hv (n:Int) (m:Nat):Int:=let a:=BitVec.ofInt i64.bits (n.fdiv (2^min m i64.bits));let b:=BitVec.ofInt i64.bits 1;i64.wrap ↑(a&&&b).toNat
theorem adn (n:Int) (m:Nat) (X:V->Prop):jQ prog [] 30 189 [.int .i64 n,.int .i64 (.ofNat m)] X=cond (decide (n<0)) (X (.bool false)) (cond (decide (Int.ofNat m>62)) (X (.bool false)) (X (.bool (hv n m==1)))):=by kernel_rfl
theorem XK (n:Int) (m:Nat) (X:V->Prop):jQ prog [] 30 189 [.int .i64 n,.int .i64 (.negSucc m)] X=cond (decide (n<0)) (X (.bool false)) (cond (decide (Int.negSucc m<0)) (X (.bool false)) False):=by kernel_rfl
theorem ahS (s:Int) (i:Int) (w:World):
 aj prog 189 #[.int .i64 s,.int .i64 i] w λv w1=>v=.bool (Sd.has s i)/\Ch [] w w1:=by
 refine qU aZ.nil (n:=30) (xs:=[.int .i64 s,.int .i64 i]) (v:=.bool (Sd.has s i)) ?_;cases i with
 |ofNat m=>
  rw[adn];refine aU (λh=>?_) (λh=>aU (λh'=>?_) λh'=>?_)
  ·have h:s<0:=by simpa using h
   congr 1;simp[Sd.has];omega
  ·have h':(m:Int)>62:=by simpa using h'
   congr 1;simp[Sd.has];omega
  ·have h:¬s<0:=by simpa using h
   have h':¬(m:Int)>62:=by simpa using h'
   have em:Int.ofNat m=(m:Int):=rfl;rw[<-adk s (.ofNat m) (by omega) (by omega) (by omega)];exact congrArg (λz:Int=>V.bool (z==1)) (fl .i64 (Int.fdiv s (2^(min m 64))) 1 2 1 (by decide) (by decide) (by decide))
 |negSucc m=>
  rw[XK];have e:Sd.has s (.negSucc m)=false:=by simp[Sd.has]
  rw[e];exact aU (λ_=>rfl) λ_=>aU (λ_=>rfl) λh=>absurd (of_decide_eq_false h) (by omega)
theorem DA (m:Int) (X:V->Prop):jQ prog [] 30 179 [.int .i64 m] X=X (.agg (VU 0 (if 0>m then 0 else m))):=by kernel_rfl
theorem nq (b:Int):Sd.Timer.start b=⟨0,if 0>b then 0 else b⟩:=by
 unfold Sd.Timer.start;congr 1;by_cases h:0>b
 ·rw[if_pos h];omega
 ·rw[if_neg h];omega
theorem ado (m:Int) (h_m:-9223372036854775808<=m/\m<=9223372036854775807) (w:World):
 aj prog 179 #[.int .i64 m] w λv w1=>v=.agg (AU (Sd.Timer.start m))/\Ch [] w w1:=by
 rw[nq];refine qU aZ.nil (n:=30) (xs:=[.int .i64 m]) (v:=.agg (VU 0 (if 0>m then 0 else m))) ?_;rw[DA]
theorem XL (t:Sd.Timer) (X:V->Prop):jQ prog [] 30 138 [.agg (VU t.n t.most)] X=cond (decide (t.n<t.most)) (X (.agg (VU (i64.wrap (t.n+1)) t.most))) (X (.agg (VU t.most t.most))):=by kernel_rfl
theorem abt (t:Sd.Timer) (abu:-9223372036854775808<=t.n/\t.n<=9223372036854775807) (DB:-9223372036854775808<=t.most/\t.most<=9223372036854775807) (w:World):
 aj prog 138 #[.agg (AU t)] w λv w1=>v=.agg (AU (Sd.Timer.step t))/\Ch [] w w1:=by
 refine qU aZ.nil (n:=30) (xs:=[.agg (VU t.n t.most)]) (v:=.agg (VU (Sd.sat t.n t.most) t.most)) ?_;rw[XL];unfold Sd.sat;refine aU (λh=>?_) (λh=>?_)
 ·have h:t.n<t.most:=by simpa using h
  rw[if_pos h,iw (by omega)]
 ·rw[if_neg (by simpa using h)]
theorem adp (t:Sd.Timer) (X:V->Prop):jQ prog [] 30 139 [.agg (VU t.n t.most)] X=X (.bool (decide (t.n>=t.most))):=by kernel_rfl
theorem ahT (t:Sd.Timer) (w:World):
 aj prog 139 #[.agg (AU t)] w λv w1=>v=.bool (Sd.Timer.due t)/\Ch [] w w1:=by
 refine qU aZ.nil (n:=30) (xs:=[.agg (VU t.n t.most)]) (v:=.bool t.due) ?_;rw[adp];rfl
theorem QX (t:Sd.Tok) (o:Int) (X:V->Prop):jQ prog [] 30 130 [.agg (jx t),.int .i64 o] X=cond (decide (o<0)) (X (.az [.agg (jx t),.int .i64 1])) (cond (decide (o>=5)) (X (.az [.agg (jx t),.int .i64 1])) (cond (o==t.holder) (X (.az [.agg (jx t),.int .i64 25]))
 (cond (decide (t.epoch>=65535)) (X (.az [.agg (jx t),.int .i64 24])) (X (.az [.agg (jx (t.pass o (i64.wrap (t.epoch+1)))),.int .i64 0]))))):=by kernel_rfl
theorem adq (t:Sd.Tok) (o:Int) (fw:-9223372036854775808<=t.epoch/\t.epoch<=9223372036854775807) (w:World):
 aj prog 130 #[.agg (gO t),.int .i64 o] w λv w1=>v=.tuple #[.agg (gO ((Sd.Tok.bz t o).1)),.int .i64 ((Sd.Tok.bz t o).2)]/\Ch [] w w1:=by
 refine qU aZ.nil (n:=30) (xs:=[.agg (jx t),.int .i64 o]) (v:=.az [.agg (jx (t.bz o).1),.int .i64 (t.bz o).2]) ?_;rw[QX];unfold Sd.Tok.bz;refine aU (λh=>by rw[if_pos (.inl (by simpa using h))]) (λh=>aU (λh'=>by rw[if_pos (.inr (by simpa using h'))]) λh'=>?_);have h1:¬(o<0\/5<=o):=by simp at h h';omega
 rw[if_neg h1];refine aU (λh=>by rw[if_pos (by simpa using h)]) (λh=>?_);rw[if_neg (by simpa using h)];refine aU (λh=>by rw[if_pos (by simpa using h)]) (λh=>?_);have h2:¬65535<=t.epoch:=by simpa using h
 rw[if_neg h2,iw (by omega)]
theorem QY (t:Sd.Tok) (X:V->Prop):jQ prog [] 30 84 [.agg (jx t)] X=cond (t.holder !=4) (cond (decide (t.epoch<65535)) (X (.agg (jx (t.pass 4 (i64.wrap (t.epoch+1)))))) (X (.agg (jx (t.pass 4 65535))))) (X (.agg (jx (t.pass 4 t.epoch)))):=by kernel_rfl
theorem adr (t:Sd.Tok) (fw:-9223372036854775808<=t.epoch/\t.epoch<=9223372036854775807) (w:World):
 aj prog 84 #[.agg (gO t)] w λv w1=>v=.agg (gO (Sd.Tok.dO t))/\Ch [] w w1:=by
 refine qU aZ.nil (n:=30) (xs:=[.agg (jx t)]) (v:=.agg (jx t.dO)) ?_;rw[QY];unfold Sd.Tok.dO Sd.sat;refine aU (λh=>?_) (λh=>by rw[if_neg (by simpa using h)]);rw[if_pos (by simpa using h)];refine aU (λh=>?_) (λh=>by rw[if_neg (by simpa using h)]);have h2:t.epoch<65535:=by simpa using h
 rw[if_pos h2,iw (by omega)]
theorem XM (t:Sd.Tok) (X:V->Prop):jQ prog [] 30 137 [.agg (jx t)] X=X (.bool (decide (t.offer>=0))):=by kernel_rfl
theorem open_ (t:Sd.Tok) (w:World):
 aj prog 137 #[.agg (gO t)] w λv w1=>v=.bool (decide (0<=t.offer))/\Ch [] w w1:=by
 refine qU aZ.nil (n:=30) (xs:=[.agg (jx t)]) (v:=.bool (decide (0<=t.offer))) ?_;rw[XM]
theorem XN (t:Sd.Tok) (X:V->Prop):jQ prog [] 30 140 [.agg (jx t)] X=X (.agg (jx t.bG)):=by kernel_rfl
theorem QZ (t:Sd.Tok) (w:World):
 aj prog 140 #[.agg (gO t)] w λv w1=>v=.agg (gO (Sd.Tok.bG t))/\Ch [] w w1:=by
 refine qU aZ.nil (n:=30) (xs:=[.agg (jx t)]) (v:=.agg (jx t.bG)) ?_;rw[XN]
def p5 (p:Sd.Pol):List V:=[.int .i64 (p.i 0),.int .i64 (p.i 1),.int .i64 (p.i 2),.int .i64 (p.i 3),.int .i64 (p.i 4)]
theorem Q0 (p:Sd.Pol) (s:Int) (X:V->Prop):jQ prog [] 30 232 [.agg (p5 p),.int .i64 s] X=cond (p.i 0==s) (X (.int .i64 0)) (cond (p.i 1==s) (X (.int .i64 1)) (cond (p.i 2==s) (X (.int .i64 2)) (cond (p.i 3==s) (X (.int .i64 3)) (cond (p.i 4==s) (X (.int .i64 4)) (X (.int .i64 (-1))))))):=by kernel_rfl
theorem GB (p:Sd.Pol) (ka:Nat->Option Addr) (kn kc:Nat->Nat) (s:Int) (w:World):
 aj prog 232 #[.agg #[.int .i64 (p.i 0),.int .i64 (p.i 1),.int .i64 (p.i 2),.int .i64 (p.i 3),.int .i64 (p.i 4)],.int .i64 s] w λv w1=>v=.int .i64 (Sd.placeOf p s)/\Ch [] w w1:=by
 refine qU aZ.nil (n:=30) (xs:=[.agg (p5 p),.int .i64 s]) (v:=.int .i64 (Sd.placeOf p s)) ?_;rw[Q0];unfold Sd.placeOf;refine aU (λh=>by rw[if_pos (by simpa using h)]) (λh=>?_);rw[if_neg (by simpa using h)];refine aU (λh=>by rw[if_pos (by simpa using h)]) (λh=>?_);rw[if_neg (by simpa using h)];refine aU (λh=>by rw[if_pos (by simpa using h)]) (λh=>?_);rw[if_neg (by simpa using h)];refine aU (λh=>by rw[if_pos (by simpa using h)]) (λh=>?_);rw[if_neg (by simpa using h)];exact aU (λh=>by rw[if_pos (by simpa using h)]) (λh=>by rw[if_neg (by simpa using h)])
theorem told {P:Program} {f:Nat} {args:Array Value} {ids:List Nat} {xs:List V} {x:Value} {v:V} {w:World} (h:aj P f args w λy w1=>y=x/\Ch [] w w1) (ha:args=(ao ids xs).toArray:=by kernel_rfl) (hv:x=den ids v:=by kernel_rfl):
 aj P f (ao ids xs).toArray w λy w1=>y=den ids v/\Ch [] w w1:=by subst ha hv;exact h
structure Hd (p:Prop):Prop where
 h:p
def aB (a:Int):Prop:=-9223372036854775808<=a/\a<=9223372036854775807
def zpl:QF:=⟨232,λargs _=>match args with
 |[.agg [.int .i64 a,.int .i64 b,.int .i64 c,.int .i64 d,.int .i64 e],.int .i64 s]=>some (True,.int .i64 (if a=s then 0 else if b=s then 1 else if c=s then 2 else if d=s then 3 else if e=s then 4 else-1))
 |_=>none⟩
def ztw:QF:=⟨142,λargs _=>match args with
 |[.int .i64 nw,.int .i64 t,.int .i64 b]=>some (aB nw/\aB t/\aB b,.int .i64 (Sd.jf nw t b))
 |_=>none⟩
def zcl:QF:=⟨183,λargs _=>match args with
 |[.int .i64 n,.int .i64 lo,.int .i64 hi]=>some (True,.int .i64 (Sd.oM n lo hi))
 |_=>none⟩
def tA:QF:=⟨189,λargs _=>match args with
 |[.int .i64 s,.int .i64 i]=>some (True,.bool (Sd.has s i))
 |_=>none⟩
def zen:QF:=⟨140,λargs _=>match args with
 |[.agg [.int .i64 a,.int .i64 b,.int .i64 c,.int .i64 d,.int .i64 e,.int .i64 f,.int .i64 g,.bool h]]=>some (True,.agg (jx (⟨a,b,c,⟨d,e⟩,⟨f,g⟩,h⟩:Sd.Tok).bG))
 |_=>none⟩
def zst:QF:=⟨179,λargs _=>match args with
 |[.int .i64 m]=>some (True,.agg (VU 0 (if 0>m then 0 else m)))
 |_=>none⟩
def zby:QF:=⟨126,λargs _=>match args with
 |[.int .i64 m,.agg [.int .i64 a,.int .i64 b,.int .i64 c,.int .i64 d]]=>some (0<=m/\m<=1000,.bool (Sd.O6 m ⟨a,b,c,d⟩))
 |_=>none⟩
theorem ads (gl:Nat->Option Nat):zpl.Ok prog gl:=by
 intro args bl p_ v_ h hp ids w _ _;unfold zpl at h;dsimp only at h;split at h
 ·rename_i a b c d e s;simp only[Option.some.injEq,Prod.mk.injEq]at h;obtain⟨rfl,rfl⟩:=h;exact told (GB ⟨λi=>match i with|0=>a|1=>b|2=>c|3=>d|_=>e,λ_=>(0,λ_=>0)⟩ (λ_=>none) (λ_=>0) (λ_=>0) s w)
 ·cases h
theorem adt (gl:Nat->Option Nat):ztw.Ok prog gl:=by
 intro args bl p_ v_ h hp ids w _ _;unfold ztw at h;dsimp only at h;split at h
 ·rename_i nw t b;simp only[Option.some.injEq,Prod.mk.injEq]at h;obtain⟨rfl,rfl⟩:=h;exact told (JH nw t b hp.1 hp.2.1 hp.2.2 w)
 ·cases h
theorem GC (gl:Nat->Option Nat):zcl.Ok prog gl:=by
 intro args bl p_ v_ h hp ids w _ _;unfold zcl at h;dsimp only at h;split at h
 ·rename_i n lo hi;simp only[Option.some.injEq,Prod.mk.injEq]at h;obtain⟨rfl,rfl⟩:=h;exact told (QW n lo hi w)
 ·cases h
theorem AV (gl:Nat->Option Nat):tA.Ok prog gl:=by
 intro args bl p_ v_ h hp ids w _ _;unfold tA at h;dsimp only at h;split at h
 ·rename_i s i;simp only[Option.some.injEq,Prod.mk.injEq]at h;obtain⟨rfl,rfl⟩:=h;exact told (ahS s i w)
 ·cases h
theorem Q1 (gl:Nat->Option Nat):zen.Ok prog gl:=by
 intro args bl p_ v_ h hp ids w _ _;unfold zen at h;dsimp only at h;split at h
 ·rename_i a b c d e f g h;simp only[Option.some.injEq,Prod.mk.injEq]at h;obtain⟨rfl,rfl⟩:=h;exact told (QZ ⟨a,b,c,⟨d,e⟩,⟨f,g⟩,h⟩ w)
 ·cases h
theorem adu (gl:Nat->Option Nat):zst.Ok prog gl:=by
 intro args bl p_ v_ h hp ids w _ _;unfold zst at h;dsimp only at h;split at h
 ·rename_i m;simp only[Option.some.injEq,Prod.mk.injEq]at h;obtain⟨rfl,rfl⟩:=h;exact ta aZ.nil 30 (by show jQ prog [] 30 179 _ _;rw[DA]) rfl rfl ids w
 ·cases h
theorem ON {q:QF} (h:q.Ok prog λ_=>none):aZ prog (λ_=>none) [q]:=aZ.cons h aZ.nil
theorem XO (p:Sd.Pol) (ka:Nat->Option Addr) (kn kc:Nat->Nat) (s:Int) (X:V->Prop):jQ prog [zpl] 30 217 [.agg (ff p ka kn kc),.int .i64 s] X=(True/\X (.int .i64 (Sd.placeOf p s))):=by kernel_rfl
theorem ahU (p:Sd.Pol) (ka:Nat->Option Addr) (kn kc:Nat->Nat) (s:Int) (w:World):
 aj prog 217 #[.agg (kJ p ka kn kc),.int .i64 s] w λv w1=>v=.int .i64 (Sd.placeOf p s)/\Ch [] w w1:=by
 refine qU (ON (ads _)) (n:=30) (xs:=[.agg (ff p ka kn kc),.int .i64 s]) (v:=.int .i64 (Sd.placeOf p s)) ?_;rw[XO];exact⟨trivial,rfl⟩
theorem XP (p:Sd.Pol) (ka:Nat->Option Addr) (kn kc:Nat->Nat) (a:Int) (b:Int) (w:World):
 aj prog 215 #[.agg (kJ p ka kn kc),.int .i64 a,.int .i64 b] w λv w1=>v=.bool (Sd.cu p a b)/\Ch [] w w1:=by
 have S0:=St.nil [] w;refine dz Tryz.func215 rfl ?_;refine au (ax ?_);refine eD S0 (λb=>.pointer (some ⟨b,0,none⟩)) (.cells (kJ p ka kn kc) 28) ?_;intro de sH i_;refine aa (.bool false) ?_;refine aw (ag (au (ax ?_)));refine bJ ?_;refine aw (ag (au ?_));refine lE 9 [⟨0,λ_=>.func (.func 232) #[] #[],λ_=>[]⟩,⟨0,λ_=>.pointer (some ⟨de,0,none⟩),λ_=>[]⟩,⟨0,λ_=>.agg #[.int .i64 (p.i 0),.int .i64 (p.i 1),.int .i64 (p.i 2),.int .i64 (p.i 3),.int .i64 (p.i 4)],λ_=>[]⟩,⟨0,λ_=>.int .i64 a,λ_=>[]⟩,⟨0,λ_=>.int .i64 (Sd.placeOf p a),λ_=>[]⟩,⟨0,λ_=>.func (.func 232) #[] #[],λ_=>[]⟩,⟨0,λ_=>.pointer (some ⟨de,0,none⟩),λ_=>[]⟩,⟨0,λ_=>.agg #[.int .i64 (p.i 0),.int .i64 (p.i 1),.int .i64 (p.i 2),.int .i64 (p.i 3),.int .i64 (p.i 4)],λ_=>[]⟩,⟨0,λ_=>.int .i64 b,λ_=>[]⟩] [[9,4,0],[9,4,2,1],[9,4,2],[9,4,3],[9,4],[9,5],[9,7,6],[9,7],[9,8],[10,0],[10,1],[10,2],[10,3],[10,4],[10,9,5],[10,9,7,6],[10,9,7],[10,9,8],[10,9],[11,0],[11,1],[11,2],[11,3],[11,4],[11,5],[11,6],[11,7],[11,8],[11,9],[11,10]] ?_ ?_
 ·refine step_cons sD ?_;refine step_cons sD ?_;refine step_cons (Zz i_ 0 de 0 5 #[.int .i64 (p.i 0),.int .i64 (p.i 1),.int .i64 (p.i 2),.int .i64 (p.i 3),.int .i64 (p.i 4)]) ?_;refine step_cons sD ?_;refine step_cons ?_ ?_
  ·intro Tq Dn Gv ag5 MC;have Xr:Tq 10=.func (.func 232) #[] #[]:=(Sp.dt (MC 0 10 (by kernel_rfl) (by kernel_rfl))).1;have lR:Tq 12=.agg #[.int .i64 (p.i 0),.int .i64 (p.i 1),.int .i64 (p.i 2),.int .i64 (p.i 3),.int .i64 (p.i 4)]:=(Sp.dt (MC 2 12 (by kernel_rfl) (by kernel_rfl))).1;have kG:Tq 13=.int .i64 a:=(Sp.dt (MC 3 13 (by kernel_rfl) (by kernel_rfl))).1;have tp:=i_.quiet Gv;refine kP ?_;refine mR [(10,.func (.func 232) #[] #[]),(12,.agg #[.int .i64 (p.i 0),.int .i64 (p.i 1),.int .i64 (p.i 2),.int .i64 (p.i 3),.int .i64 (p.i 4)]),(13,.int .i64 a)] (eu Xr (eu lR (eu kG (iy)))) ?_;have Gp:=tp.loc;refine Y.dh 232 #[.agg #[.int .i64 (p.i 0),.int .i64 (p.i 1),.int .i64 (p.i 2),.int .i64 (p.i 3),.int .i64 (p.i 4)],.int .i64 a] ?_;refine(GB p ka kn kc a _).mono ?_;rintro _ alH ⟨rfl,lV⟩;have tq:=Gp.quiet lV;exact⟨tq.ch,Sp.eO [] (all_nil)⟩
  refine step_cons sD ?_;refine step_cons sD ?_;refine step_cons (Zz i_ 0 de 0 5 #[.int .i64 (p.i 0),.int .i64 (p.i 1),.int .i64 (p.i 2),.int .i64 (p.i 3),.int .i64 (p.i 4)]) ?_;refine step_cons sD ?_;exact jK
 intro AW Gm Q2 qV;have alI:AW 0=.func (.func 232) #[] #[]:=(Sp.dt (qV 0 (by kernel_rfl))).1;have Qe:AW 1=.pointer (some ⟨de,0,none⟩):=(Sp.dt (qV 1 (by kernel_rfl))).1;have uK:AW 2=.agg #[.int .i64 (p.i 0),.int .i64 (p.i 1),.int .i64 (p.i 2),.int .i64 (p.i 3),.int .i64 (p.i 4)]:=(Sp.dt (qV 2 (by kernel_rfl))).1;have wz:AW 3=.int .i64 a:=(Sp.dt (qV 3 (by kernel_rfl))).1;have Qf:AW 4=.int .i64 (Sd.placeOf p a):=(Sp.dt (qV 4 (by kernel_rfl))).1;have tz:AW 5=.func (.func 232) #[] #[]:=(Sp.dt (qV 5 (by kernel_rfl))).1;have kH:AW 6=.pointer (some ⟨de,0,none⟩):=(Sp.dt (qV 6 (by kernel_rfl))).1;have Du:AW 7=.agg #[.int .i64 (p.i 0),.int .i64 (p.i 1),.int .i64 (p.i 2),.int .i64 (p.i 3),.int .i64 (p.i 4)]:=(Sp.dt (qV 7 (by kernel_rfl))).1;have ac1:AW 8=.int .i64 b:=(Sp.dt (qV 8 (by kernel_rfl))).1;have GD:=i_.quiet Q2;refine⟨[.func (.func 232) #[] #[],.pointer (some ⟨de,0,none⟩),.agg #[.int .i64 (p.i 0),.int .i64 (p.i 1),.int .i64 (p.i 2),.int .i64 (p.i 3),.int .i64 (p.i 4)],.int .i64 a,.int .i64 (Sd.placeOf p a),.func (.func 232) #[] #[],.pointer (some ⟨de,0,none⟩),.agg #[.int .i64 (p.i 0),.int .i64 (p.i 1),.int .i64 (p.i 2),.int .i64 (p.i 3),.int .i64 (p.i 4)],.int .i64 b],by kernel_rfl,aL alI (aL Qe (aL uK (aL wz (aL Qf (aL tz (aL kH (aL Du (aL ac1 (sO))))))))),?_⟩;refine dh 232 #[.agg #[.int .i64 (p.i 0),.int .i64 (p.i 1),.int .i64 (p.i 2),.int .i64 (p.i 3),.int .i64 (p.i 4)],.int .i64 b] ?_;refine(GB p ka kn kc b _).mono ?_;rintro _ anC ⟨rfl,uO⟩;have AL:=GD.quiet uO;refine bJ ?_;refine bJ ?_;refine aw (ag (au (ax ?_)));refine bY ?_;refine aa (.bool ((Sd.placeOf p a)!=(-1))) ?_;refine bY ?_;refine aa4 22 ((Sd.placeOf p a)!=(-1)) ?_ ?_
 ·intro lU;have uP:=abX lU;refine bY ?_;refine aa (.bool ((Sd.placeOf p b)!=(-1))) ?_;refine aa (.bool ((Sd.placeOf p b)!=(-1))) ?_;refine bY ?_;refine aa4 26 ((Sd.placeOf p b)!=(-1)) ?_ ?_
  ·intro yN;have AS:=abX yN;refine bY ?_;refine bY ?_;refine aa (.bool (decide ((Sd.placeOf p a)<(Sd.placeOf p b)))) ?_;refine aa (.bool (decide ((Sd.placeOf p a)<(Sd.placeOf p b)))) ?_;refine bJ ?_;refine aw (ag (wp_ret ?_));refine gn rfl (fY [.tmp 6] [.bool (decide ((Sd.placeOf p a)<(Sd.placeOf p b)))] (.bool (decide ((Sd.placeOf p a)<(Sd.placeOf p b)))) ⟨cM,trivial⟩) ?_;have ze:Sd.cu p a b=(decide ((Sd.placeOf p a)<(Sd.placeOf p b))):=by first|rfl|(simp[Sd.cu,lU,yN,uP,AS];done)|(simp[Sd.cu,lU,yN,uP,AS];rfl)|(simp[Sd.cu,lU,yN];simp[Sd.cu,lU,yN,uP,AS];done)|(simp[Sd.cu,lU,yN];simp[Sd.cu,lU,yN,uP,AS];rfl)|(simp[Sd.cu,lU,yN,uP,AS];omega)|(unfold Sd.cu;(repeat' split)<;>first|rfl|assumption|omega|(simp_all;done)|(simp_all;omega))
   exact⟨by(rw[ze])<;>rfl,AL.ch⟩
  intro uN;have wA:=abY uN;refine qg ?_;refine qg ?_;refine qg ?_;refine aa (.bool false) ?_;refine aa (.bool false) ?_;refine aw (ag (wp_ret ?_));refine gn rfl (fY [.tmp 6] [.bool false] (.bool false) ⟨cM,trivial⟩) ?_;have ze:Sd.cu p a b=false:=by first|rfl|(simp[Sd.cu,lU,uN,uP,wA];done)|(simp[Sd.cu,lU,uN,uP,wA];rfl)|(simp[Sd.cu,lU,uN];simp[Sd.cu,lU,uN,uP,wA];done)|(simp[Sd.cu,lU,uN];simp[Sd.cu,lU,uN,uP,wA];rfl)|(simp[Sd.cu,lU,uN,uP,wA];omega)|(unfold Sd.cu;(repeat' split)<;>first|rfl|assumption|omega|(simp_all;done)|(simp_all;omega))
  exact⟨by(rw[ze])<;>rfl,AL.ch⟩
 intro uQ;have tv:=abY uQ;refine qg ?_;refine qg ?_;refine aa (.bool false) ?_;refine aa (.bool false) ?_;refine qg ?_;refine qg ?_;refine qg ?_;refine aa (.bool false) ?_;refine aa (.bool false) ?_;refine aw (ag (wp_ret ?_));refine gn rfl (fY [.tmp 6] [.bool false] (.bool false) ⟨cM,trivial⟩) ?_;have ze:Sd.cu p a b=false:=by first|rfl|(simp[Sd.cu,uQ,tv];done)|(simp[Sd.cu,uQ,tv];rfl)|(simp[Sd.cu,uQ];simp[Sd.cu,uQ,tv];done)|(simp[Sd.cu,uQ];simp[Sd.cu,uQ,tv];rfl)|(simp[Sd.cu,uQ,tv];omega)|(unfold Sd.cu;(repeat' split)<;>first|rfl|assumption|omega|(simp_all;done)|(simp_all;omega))
 exact⟨by(rw[ze])<;>rfl,AL.ch⟩
theorem Q3 (p:Sd.Pol) (ka:Nat->Option Addr) (kn kc:Nat->Nat) (r:Int) (X:V->Prop):∀s:Nat,s<5->jQ prog [tA] 30 144 [.agg (ff p ka kn kc),.int .i64 (.ofNat s),.int .i64 r] X=cond (decide (0<=r)) (cond (decide (r<4)) (True/\X (.bool (Sd.has (p.i (9+s)) r))) (X (.bool false))) (X (.bool false))
 |0,_=>by kernel_rfl
 |1,_=>by kernel_rfl
 |2,_=>by kernel_rfl
 |3,_=>by kernel_rfl
 |4,_=>by kernel_rfl
 |n+5,h=>absurd h (by omega)
theorem zr (p:Sd.Pol) (ka:Nat->Option Addr) (kn kc:Nat->Nat) (n:Nat) (r:Int) (X:V->Prop):jQ prog [tA] 30 144 [.agg (ff p ka kn kc),.int .i64 (.ofNat (n+5)),.int .i64 r] X=X (.bool false)/\jQ prog [tA] 30 144 [.agg (ff p ka kn kc),.int .i64 (.negSucc n),.int .i64 r] X=X (.bool false):=⟨by kernel_rfl,by kernel_rfl⟩
theorem lW {n b:Int} (h:0<=n) (h2:n<b):Sd.below n b=true:=by simp[Sd.below,h,h2]
theorem fF {n b:Int} (h:n<0\/b<=n):Sd.below n b=false:=by simp[Sd.below];omega
theorem adv (p:Sd.Pol) (ka:Nat->Option Addr) (kn kc:Nat->Nat) (s:Int) (r:Int) (w:World):
 aj prog 144 #[.agg (kJ p ka kn kc),.int .i64 s,.int .i64 r] w λv w1=>v=.bool (Sd.fm p s r)/\Ch [] w w1:=by
 refine qU (ON (AV _)) (n:=30) (xs:=[.agg (ff p ka kn kc),.int .i64 s,.int .i64 r]) (v:=.bool (Sd.fm p s r)) (Hd.h ?_);unfold Sd.fm;cases s with
 |ofNat n=>
  by_cases h:n<5
  ·have e:Sd.below (Int.ofNat n) 5=true:=lW (Int.natCast_nonneg n) (by show(n:Int)<5;omega);refine⟨?_⟩;rw[Q3 p ka kn kc r _ n h,e];refine aU (λh=>aU (λh'=>?_) λh'=>?_) (λh=>?_)
   ·rw[lW (by simpa using h) (by simpa using h')];exact⟨trivial,rfl⟩
   ·rw[fF (b:=4) (.inr (by simpa using h'))];rfl
   ·rw[fF (b:=4) (.inl (by simpa using h))];rfl
  ·have q:=(zr p ka kn kc (n-5) r (·=.bool (Sd.below (Int.ofNat n) 5&&Sd.below r 4&&Sd.has (p.vX (Int.ofNat n).toNat) r))).1;rw[show n-5+5=n by omega]at q;refine⟨?_⟩;rw[q,fF (.inr (by show(5:Int)<=(n:Int);omega))];rfl
 |negSucc n=>
  refine⟨?_⟩;rw[(zr p ka kn kc n r _).2,fF (.inl (Int.negSucc_lt_zero n))];rfl
theorem XQ (p:Sd.Pol) (ka:Nat->Option Addr) (kn kc:Nat->Nat) (r:Int) (X:V->Prop):∀s:Nat,s<5->jQ prog [tA] 30 182 [.agg (ff p ka kn kc),.int .i64 (.ofNat s),.int .i64 r] X=cond (decide (0<=r)) (cond (decide (r<5)) (True/\X (.bool (Sd.has (p.i (34+s)) r))) (X (.bool false))) (X (.bool false))
 |0,_=>by kernel_rfl
 |1,_=>by kernel_rfl
 |2,_=>by kernel_rfl
 |3,_=>by kernel_rfl
 |4,_=>by kernel_rfl
 |n+5,h=>absurd h (by omega)
theorem DC (p:Sd.Pol) (ka:Nat->Option Addr) (kn kc:Nat->Nat) (n:Nat) (r:Int) (X:V->Prop):jQ prog [tA] 30 182 [.agg (ff p ka kn kc),.int .i64 (.ofNat (n+5)),.int .i64 r] X=X (.bool false)/\jQ prog [tA] 30 182 [.agg (ff p ka kn kc),.int .i64 (.negSucc n),.int .i64 r] X=X (.bool false):=⟨by kernel_rfl,by kernel_rfl⟩
theorem ahV (p:Sd.Pol) (ka:Nat->Option Addr) (kn kc:Nat->Nat) (a:Int) (b:Int) (w:World):
 aj prog 182 #[.agg (kJ p ka kn kc),.int .i64 a,.int .i64 b] w λv w1=>v=.bool (Sd.goes p a b)/\Ch [] w w1:=by
 refine qU (ON (AV _)) (n:=30) (xs:=[.agg (ff p ka kn kc),.int .i64 a,.int .i64 b]) (v:=.bool (Sd.goes p a b)) (Hd.h ?_);unfold Sd.goes;cases a with
 |ofNat n=>
  by_cases h:n<5
  ·have e:Sd.below (Int.ofNat n) 5=true:=lW (Int.natCast_nonneg n) (by show(n:Int)<5;omega);refine⟨?_⟩;rw[XQ p ka kn kc b _ n h,e];refine aU (λh=>aU (λh'=>?_) λh'=>?_) (λh=>?_)
   ·rw[lW (by simpa using h) (by simpa using h')];exact⟨trivial,rfl⟩
   ·rw[fF (b:=5) (.inr (by simpa using h'))];rfl
   ·rw[fF (b:=5) (.inl (by simpa using h))];rfl
  ·have q:=(DC p ka kn kc (n-5) b (·=.bool (Sd.below (Int.ofNat n) 5&&Sd.below b 5&&Sd.has (p.graph (Int.ofNat n).toNat) b))).1;rw[show n-5+5=n by omega]at q;refine⟨?_⟩;rw[q,fF (.inr (by show(5:Int)<=(n:Int);omega))];rfl
 |negSucc n=>
  refine⟨?_⟩;rw[(DC p ka kn kc n b _).2,fF (.inl (Int.negSucc_lt_zero n))];rfl
theorem adw (p:Sd.Pol) (ka:Nat->Option Addr) (kn kc:Nat->Nat) (c:Int) (X:V->Prop):∀m r:Nat,m<5->r<4->jQ prog [tA] 30 181 [.agg (ff p ka kn kc),.int .i64 (.ofNat m),.int .i64 (.ofNat r),.int .i64 c] X=cond (decide (0<=c)) (cond (decide (c<4)) (True/\X (.bool (Sd.has (p.i (14+4*m+r)) c))) (X (.bool false))) (X (.bool false))
 |0,0,_,_=>by kernel_rfl
 |0,1,_,_=>by kernel_rfl
 |0,2,_,_=>by kernel_rfl
 |0,3,_,_=>by kernel_rfl
 |1,0,_,_=>by kernel_rfl
 |1,1,_,_=>by kernel_rfl
 |1,2,_,_=>by kernel_rfl
 |1,3,_,_=>by kernel_rfl
 |2,0,_,_=>by kernel_rfl
 |2,1,_,_=>by kernel_rfl
 |2,2,_,_=>by kernel_rfl
 |2,3,_,_=>by kernel_rfl
 |3,0,_,_=>by kernel_rfl
 |3,1,_,_=>by kernel_rfl
 |3,2,_,_=>by kernel_rfl
 |3,3,_,_=>by kernel_rfl
 |4,0,_,_=>by kernel_rfl
 |4,1,_,_=>by kernel_rfl
 |4,2,_,_=>by kernel_rfl
 |4,3,_,_=>by kernel_rfl
 |n+5,_,h,_=>absurd h (by omega)
 |_,n+4,_,h=>absurd h (by omega)
theorem JI (p:Sd.Pol) (ka:Nat->Option Addr) (kn kc:Nat->Nat) (n:Nat) (r c:Int) (X:V->Prop):jQ prog [tA] 30 181 [.agg (ff p ka kn kc),.int .i64 (.ofNat (n+5)),.int .i64 r,.int .i64 c] X=X (.bool false)/\jQ prog [tA] 30 181 [.agg (ff p ka kn kc),.int .i64 (.negSucc n),.int .i64 r,.int .i64 c] X=X (.bool false):=⟨by kernel_rfl,by kernel_rfl⟩
theorem JJ (p:Sd.Pol) (ka:Nat->Option Addr) (kn kc:Nat->Nat) (n:Nat) (c:Int) (X:V->Prop):∀m:Nat,m<5->jQ prog [tA] 30 181 [.agg (ff p ka kn kc),.int .i64 (.ofNat m),.int .i64 (.ofNat (n+4)),.int .i64 c] X=X (.bool false)/\jQ prog [tA] 30 181 [.agg (ff p ka kn kc),.int .i64 (.ofNat m),.int .i64 (.negSucc n),.int .i64 c] X=X (.bool false)
 |0,_=>⟨by kernel_rfl,by kernel_rfl⟩
 |1,_=>⟨by kernel_rfl,by kernel_rfl⟩
 |2,_=>⟨by kernel_rfl,by kernel_rfl⟩
 |3,_=>⟨by kernel_rfl,by kernel_rfl⟩
 |4,_=>⟨by kernel_rfl,by kernel_rfl⟩
 |n+5,h=>absurd h (by omega)
theorem alJ (p:Sd.Pol) (ka:Nat->Option Addr) (kn kc:Nat->Nat) (m:Int) (r:Int) (c:Int) (w:World):
 aj prog 181 #[.agg (kJ p ka kn kc),.int .i64 m,.int .i64 r,.int .i64 c] w λv w1=>v=.bool (Sd.may p m r c)/\Ch [] w w1:=by
 refine qU (ON (AV _)) (n:=30) (xs:=[.agg (ff p ka kn kc),.int .i64 m,.int .i64 r,.int .i64 c]) (v:=.bool (Sd.may p m r c)) (Hd.h ?_);unfold Sd.may;cases m with
 |ofNat n=>
  by_cases h:n<5
  ·have e:Sd.below (Int.ofNat n) 5=true:=lW (Int.natCast_nonneg n) (by show(n:Int)<5;omega);rw[e];cases r with
   |ofNat k=>
    by_cases hk:k<4
    ·have e:Sd.below (Int.ofNat k) 4=true:=lW (Int.natCast_nonneg k) (by show(k:Int)<4;omega);refine⟨?_⟩;rw[adw p ka kn kc c _ n k h hk,e];refine aU (λh=>aU (λh'=>?_) λh'=>?_) (λh=>?_)
     ·rw[lW (by simpa using h) (by simpa using h')];exact⟨trivial,rfl⟩
     ·rw[fF (b:=4) (.inr (by simpa using h'))];rfl
     ·rw[fF (b:=4) (.inl (by simpa using h))];rfl
    ·have q:=(JJ p ka kn kc (k-4) c (·=.bool (true&&Sd.below (Int.ofNat k) 4&&Sd.below c 4&&Sd.has (p.table (Int.ofNat n).toNat (Int.ofNat k).toNat) c)) n h).1;rw[show k-4+4=k by omega]at q;refine⟨?_⟩;rw[q,fF (b:=4) (.inr (by show(4:Int)<=(k:Int);omega))];rfl
   |negSucc k=>
    refine⟨?_⟩;rw[(JJ p ka kn kc k c _ n h).2,fF (b:=4) (.inl (Int.negSucc_lt_zero k))];rfl
  ·have q:=(JI p ka kn kc (n-5) r c (·=.bool (Sd.below (Int.ofNat n) 5&&Sd.below r 4&&Sd.below c 4&&Sd.has (p.table (Int.ofNat n).toNat r.toNat) c))).1;rw[show n-5+5=n by omega]at q;refine⟨?_⟩;rw[q,fF (b:=5) (.inr (by show(5:Int)<=(n:Int);omega))];rfl
 |negSucc n=>
  refine⟨?_⟩;rw[(JI p ka kn kc n r c _).2,fF (b:=5) (.inl (Int.negSucc_lt_zero n))];rfl
theorem XR (p:Sd.Pol) (ka:Nat->Option Addr) (kn kc:Nat->Nat) (X:V->Prop):jQ prog [] 30 30 [.agg (ff p ka kn kc)] X=X (.agg (jx (Sd.Tok.new p))):=by kernel_rfl
theorem abv (p:Sd.Pol) (ka:Nat->Option Addr) (kn kc:Nat->Nat) (w:World):
 aj prog 30 #[.agg (kJ p ka kn kc)] w λv w1=>v=.agg (gO (Sd.Tok.new p))/\Ch [] w w1:=by
 refine qU aZ.nil (n:=30) (xs:=[.agg (ff p ka kn kc)]) (v:=.agg (jx (Sd.Tok.new p))) ?_;rw[XR]
def XS (t:Sd.Tok) (f:Int) (X Y:Prop):Prop:=cond (!decide (t.offer>=0)) X (cond (t.offer !=f) X Y)
theorem AX {t:Sd.Tok} {f:Int} {X Y:Prop} (h:t.offer<0\/t.offer≠f->X) (k:¬(t.offer<0\/t.offer≠f)->Y):XS t f X Y:=by
 refine aU (λa=>h (.inl (by simpa using a))) (λa=>aU (λb=>h (.inr (by simpa using b))) λb=>k ?_);simp at a b;omega
def grX (t:Sd.Tok) (o:Int) (X:V->Prop):Prop:=cond (decide (o<0)) (X (.az [.agg (jx t),.int .i64 1])) (cond (decide (o>=5)) (X (.az [.agg (jx t),.int .i64 1])) (cond (o==t.holder) (X (.az [.agg (jx t),.int .i64 25]))
 (cond (decide (t.epoch>=65535)) (X (.az [.agg (jx t),.int .i64 24])) (X (.az [.agg (jx (t.pass o (i64.wrap (t.epoch+1)))),.int .i64 0])))))
theorem adx (t:Sd.Tok) (f e:Int) (X:V->Prop):jQ prog [] 30 199 [.agg (jx t),.int .i64 f,.int .i64 e] X=XS t f (X (.az [.agg (jx t),.int .i64 28])) (cond (e !=t.epoch) (X (.az [.agg (jx t),.int .i64 21])) (grX t f X)):=by kernel_rfl
theorem ady {t:Sd.Tok} (fw:-9223372036854775808<=t.epoch/\t.epoch<=9223372036854775807) (o:Int):grX t o (·=.az [.agg (jx (t.bz o).1),.int .i64 (t.bz o).2]):=by
 unfold grX Sd.Tok.bz;refine aU (λh=>by rw[if_pos (.inl (by simpa using h))]) (λh=>aU (λh'=>by rw[if_pos (.inr (by simpa using h'))]) λh'=>?_);have h1:¬(o<0\/5<=o):=by simp at h h';omega
 rw[if_neg h1];refine aU (λh=>by rw[if_pos (by simpa using h)]) (λh=>?_);rw[if_neg (by simpa using h)];refine aU (λh=>by rw[if_pos (by simpa using h)]) (λh=>?_);have h2:¬65535<=t.epoch:=by simpa using h
 rw[if_neg h2,iw (by omega)]
theorem alK (t:Sd.Tok) (f:Int) (e:Int) (fw:-9223372036854775808<=t.epoch/\t.epoch<=9223372036854775807) (w:World):
 aj prog 199 #[.agg (gO t),.int .i64 f,.int .i64 e] w λv w1=>v=.tuple #[.agg (gO ((Sd.Tok.accept t f e).1)),.int .i64 ((Sd.Tok.accept t f e).2)]/\Ch [] w w1:=by
 refine qU aZ.nil (n:=30) (xs:=[.agg (jx t),.int .i64 f,.int .i64 e]) (v:=.az [.agg (jx (t.accept f e).1),.int .i64 (t.accept f e).2]) ?_;rw[adx];unfold Sd.Tok.accept;refine AX (λh=>by rw[if_pos h]) (λh=>?_);rw[if_neg h];refine aU (λh=>by rw[if_pos (by simpa using h)]) (λh=>?_);rw[if_neg (by simpa using h)];exact ady fw f
theorem XT (t:Sd.Tok) (f:Int) (X:V->Prop):jQ prog [zen] 30 200 [.agg (jx t),.int .i64 f] X=XS t f (X (.az [.agg (jx t),.int .i64 28])) (True/\X (.az [.agg (jx t.bG),.int .i64 0])):=by kernel_rfl
theorem ahW (t:Sd.Tok) (f:Int) (w:World):
 aj prog 200 #[.agg (gO t),.int .i64 f] w λv w1=>v=.tuple #[.agg (gO ((Sd.Tok.fJ t f).1)),.int .i64 ((Sd.Tok.fJ t f).2)]/\Ch [] w w1:=by
 refine qU (ON (Q1 _)) (n:=30) (xs:=[.agg (jx t),.int .i64 f]) (v:=.az [.agg (jx (t.fJ f).1),.int .i64 (t.fJ f).2]) ?_;rw[XT];unfold Sd.Tok.fJ;exact AX (λh=>by rw[if_pos h]) (λh=>⟨trivial,by rw[if_neg h]⟩)
theorem Q4 (t:Sd.Tok) (f:Int) (X:V->Prop):jQ prog [zen] 30 136 [.agg (jx t),.int .i64 f] X=XS t f (X (.az [.agg (jx t),.bool false])) (True/\X (.az [.agg (jx t.bG),.bool true])):=by kernel_rfl
theorem adz (t:Sd.Tok) (s:Int) (w:World):
 aj prog 136 #[.agg (gO t),.int .i64 s] w λv w1=>v=.tuple #[.agg (gO ((Sd.Tok.drop t s).1)),.bool ((Sd.Tok.drop t s).2)]/\Ch [] w w1:=by
 refine qU (ON (Q1 _)) (n:=30) (xs:=[.agg (jx t),.int .i64 s]) (v:=.az [.agg (jx (t.drop s).1),.bool (t.drop s).2]) ?_;rw[Q4];unfold Sd.Tok.drop;exact AX (λh=>by rw[if_pos h]) (λh=>⟨trivial,by rw[if_neg h]⟩)
theorem adA (t:Sd.Tok) (DD:-9223372036854775808<=t.oa.n/\t.oa.n<=9223372036854775807) (um:-9223372036854775808<=t.oa.most/\t.oa.most<=9223372036854775807) (w:World):
 aj prog 92 #[.agg (gO t)] w λv w1=>v=.tuple #[.agg (gO ((Sd.Tok.tick t).1)),.int .i64 ((Sd.Tok.tick t).2)]/\Ch [] w w1:=by
 have S0:=St.nil [] w;refine dz Tryz.func92 rfl ?_;refine au (ax ?_);refine eD S0 (λb=>.pointer (some ⟨b,0,none⟩)) (.cells (gO t) 95) ?_;intro de sH i_;refine eD i_ (λb=>.pointer (some ⟨b,0,none⟩)) (.cells #[.int .i64 0,.int .i64 0,.int .i64 0,.int .i64 0,.int .i64 0,.int .i64 0,.int .i64 0,.bool false] 95) ?_;intro iG Dn gw;refine aa (.int .i64 0) ?_;refine aw (ag (au (au (ax ?_))));refine eC gw 1 8 (gO t) de 0 ?_;refine dh 137 #[.agg (gO t)] ?_;refine(open_ t _).mono ?_;rintro _ Tp ⟨rfl,Jv⟩;have uL:=gw.quiet Jv;refine aa (.bool (!(decide (0<=t.offer)))) ?_;refine aw (ag ?_);refine jH (!(decide (0<=t.offer))) ?_ ?_
 ·intro lR;have kG:=OW lR;have AJ:=ago kG;refine au (ax ?_);refine eC uL 1 8 (gO t) de 0 ?_;refine store_ uL 0 (.agg (gO t)) iG 0 ?_;intro acY qR;refine aa (.int .i64 (-1)) ?_;refine aw (ag (wp_ret (OV ?_)));refine gn rfl (fY [.cell 2 95,.tmp 3] [.agg (gO t),.int .i64 (-1)] (.tuple #[.agg (gO t),.int .i64 (-1)]) ⟨cU qR 0 8 iG 0,cM,trivial⟩) ?_;have ze:Sd.Tok.tick t=(t,(-1)):=by first|rfl|(simp[Sd.Tok.tick,lR,kG];done)|(simp[Sd.Tok.tick,lR,kG];rfl)|(simp[Sd.Tok.tick,lR,kG];simp[Sd.Tok.tick,lR,kG];done)|(simp[Sd.Tok.tick,lR,kG];simp[Sd.Tok.tick,lR,kG];rfl)|(simp[Sd.Tok.tick,lR,kG];omega)|(unfold Sd.Tok.tick;(repeat' split)<;>first|rfl|assumption|omega|(simp_all;done)|(simp_all;omega))
  exact⟨by(rw[ze])<;>rfl,qR.ch⟩
 intro lV;have k7:=OX lV;have Mu:=agn k7;refine wp_skip (ag (au (ax ?_)));refine aa (.pointer (some ⟨de,3,none⟩)) ?_;refine eC uL 1 2 (AU t.oa) de 3 ?_;refine dh 138 #[.agg (AU t.oa)] ?_;refine(abt t.oa (by omega) (by omega) _).mono ?_;rintro _ Gm ⟨rfl,Dq⟩;have uJ:=uL.quiet Dq;refine aa (.pointer (some ⟨de,3,none⟩)) ?_;refine store_ uJ 1 (.agg (AU (Sd.Timer.step t.oa))) de 3 ?_;intro adB yM;refine aw (ag (au (au (ax ?_))));refine aa (.pointer (some ⟨de,3,none⟩)) ?_;refine eC yM 1 2 (AU (Sd.Timer.step t.oa)) de 3 ?_;refine dh 139 #[.agg (AU (Sd.Timer.step t.oa))] ?_;refine(ahT (Sd.Timer.step t.oa) _).mono ?_;rintro _ ag7 ⟨rfl,wz⟩;have py:=yM.quiet wz;refine aa (.bool (!(Sd.Timer.due (Sd.Timer.step t.oa)))) ?_;refine aw (ag ?_);refine jH (!(Sd.Timer.due (Sd.Timer.step t.oa))) ?_ ?_
 ·intro tz;have kH:=OW tz;have Du:=ago kH;refine au (ax ?_);refine eC py 1 8 #[.int .i64 t.holder,.int .i64 t.epoch,.int .i64 t.offer,.int .i64 (Sd.Timer.step t.oa).n,.int .i64 (Sd.Timer.step t.oa).most,.int .i64 t.la.n,.int .i64 t.la.most,.bool t.bad] de 0 ?_;refine store_ py 0 (.agg #[.int .i64 t.holder,.int .i64 t.epoch,.int .i64 t.offer,.int .i64 (Sd.Timer.step t.oa).n,.int .i64 (Sd.Timer.step t.oa).most,.int .i64 t.la.n,.int .i64 t.la.most,.bool t.bad]) iG 0 ?_;intro XE GD;refine aa (.int .i64 (-1)) ?_;refine aw (ag (wp_ret (OV ?_)));refine gn rfl (fY [.cell 2 95,.tmp 3] [.agg #[.int .i64 t.holder,.int .i64 t.epoch,.int .i64 t.offer,.int .i64 (Sd.Timer.step t.oa).n,.int .i64 (Sd.Timer.step t.oa).most,.int .i64 t.la.n,.int .i64 t.la.most,.bool t.bad],.int .i64 (-1)] (.tuple #[.agg #[.int .i64 t.holder,.int .i64 t.epoch,.int .i64 t.offer,.int .i64 (Sd.Timer.step t.oa).n,.int .i64 (Sd.Timer.step t.oa).most,.int .i64 t.la.n,.int .i64 t.la.most,.bool t.bad],.int .i64 (-1)]) ⟨cU GD 0 8 iG 0,cM,trivial⟩) ?_;have ze:Sd.Tok.tick t=((⟨t.holder,t.epoch,t.offer,(Sd.Timer.step t.oa),t.la,t.bad⟩:Sd.Tok),(-1)):=by first|rfl|(simp[Sd.Tok.tick,lV,k7,tz,kH];done)|(simp[Sd.Tok.tick,lV,k7,tz,kH];rfl)|(simp[Sd.Tok.tick,lV,k7,tz,kH];simp[Sd.Tok.tick,lV,k7,tz,kH];done)|(simp[Sd.Tok.tick,lV,k7,tz,kH];simp[Sd.Tok.tick,lV,k7,tz,kH];rfl)|(simp[Sd.Tok.tick,lV,k7,tz,kH];omega)|(unfold Sd.Tok.tick;(repeat' split)<;>first|rfl|assumption|omega|(simp_all;done)|(simp_all;omega))
  exact⟨by(rw[ze])<;>rfl,GD.ch⟩
 intro yL;have uO:=OX yL;have XF:=agn uO;refine wp_skip (ag (au ?_));have zD:=py.aa6 0 0 8 (b:=iG) (by kernel_rfl);refine I1 py 5 4 0 iG 0 [] (.agg (gO (Sd.Tok.bG (⟨t.holder,t.epoch,t.offer,(Sd.Timer.step t.oa),t.la,t.bad⟩:Sd.Tok)))) [.agg #[.int .i64 t.holder,.int .i64 t.epoch,.int .i64 t.offer,.int .i64 (Sd.Timer.step t.oa).n,.int .i64 (Sd.Timer.step t.oa).most,.int .i64 t.la.n,.int .i64 t.la.most,.bool t.bad],.agg (gO (Sd.Tok.bG (⟨t.holder,t.epoch,t.offer,(Sd.Timer.step t.oa),t.la,t.bad⟩:Sd.Tok))),.pointer (some ⟨de,2,none⟩),.int .i64 t.offer,undef] [[5,0],[5,1],[5,2],[5,3],[5,4]] (bZ (ZB zD 0 de 0 8 #[.int .i64 t.holder,.int .i64 t.epoch,.int .i64 t.offer,.int .i64 (Sd.Timer.step t.oa).n,.int .i64 (Sd.Timer.step t.oa).most,.int .i64 t.la.n,.int .i64 t.la.most,.bool t.bad]) (bZ (eC_ 140 #[.agg #[.int .i64 t.holder,.int .i64 t.epoch,.int .i64 t.offer,.int .i64 (Sd.Timer.step t.oa).n,.int .i64 (Sd.Timer.step t.oa).most,.int .i64 t.la.n,.int .i64 t.la.most,.bool t.bad]] (QZ (⟨t.holder,t.epoch,t.offer,(Sd.Timer.step t.oa),t.la,t.bad⟩:Sd.Tok))) (bZ NN (bZ (eL_ zD 0 de 2) (bZ (eW_ py 0 (.agg (gO (Sd.Tok.bG (⟨t.holder,t.epoch,t.offer,(Sd.Timer.step t.oa),t.la,t.bad⟩:Sd.Tok)))) iG 0) (sQ)))))) ?_;intro anD XD;refine aa (.int .i64 t.offer) ?_;refine aw (ag (wp_ret ?_));refine gn rfl (fY [.cell 2 95,.tmp 3] [.agg (gO (Sd.Tok.bG (⟨t.holder,t.epoch,t.offer,(Sd.Timer.step t.oa),t.la,t.bad⟩:Sd.Tok))),.int .i64 t.offer] (.tuple #[.agg (gO (Sd.Tok.bG (⟨t.holder,t.epoch,t.offer,(Sd.Timer.step t.oa),t.la,t.bad⟩:Sd.Tok))),.int .i64 t.offer]) ⟨cU XD 0 8 iG 0,cM,trivial⟩) ?_;have ze:Sd.Tok.tick t=((Sd.Tok.bG (⟨t.holder,t.epoch,t.offer,(Sd.Timer.step t.oa),t.la,t.bad⟩:Sd.Tok)),t.offer):=by first|rfl|(simp[Sd.Tok.tick,lV,k7,yL,uO];done)|(simp[Sd.Tok.tick,lV,k7,yL,uO];rfl)|(simp[Sd.Tok.tick,lV,k7,yL,uO];simp[Sd.Tok.tick,lV,k7,yL,uO];done)|(simp[Sd.Tok.tick,lV,k7,yL,uO];simp[Sd.Tok.tick,lV,k7,yL,uO];rfl)|(simp[Sd.Tok.tick,lV,k7,yL,uO];omega)|(unfold Sd.Tok.tick;(repeat' split)<;>first|rfl|assumption|omega|(simp_all;done)|(simp_all;omega))
 exact⟨by(rw[ze])<;>rfl,XD.ch⟩
theorem XU (p:Sd.Pol) (ka:Nat->Option Addr) (kn kc:Nat->Nat) (t:Sd.Tok) (f o:Int) (th:Bool) (X:V->Prop):jQ prog [zst] 30 198 [.agg (ff p ka kn kc),.agg (jx t),.int .i64 f,.int .i64 o,.bool th] X=
 let r:Int->Prop:=λn=>X (.az [.agg (jx t),.int .i64 n])
 cond (f !=t.holder) (r 20) (cond (decide (t.epoch>=65535)) (r 24) (cond (o==f) (r 25) (cond (decide (o<1)) (r 2) (cond (decide (o>3)) (r 2) (cond (!th) (r 2) (cond (decide (t.offer>=0)) (r 28) (True/\X (.az [.agg (jx {t with offer:=o,oa:=⟨0,if 0>p.i 44 then 0 else p.i 44⟩}),.int .i64 0])))))))):=by kernel_rfl
theorem ahX (p:Sd.Pol) (ka:Nat->Option Addr) (kn kc:Nat->Nat) (t:Sd.Tok) (f:Int) (o:Int) (th:Bool) (hp:Sd.cK p) (w:World):
 aj prog 198 #[.agg (kJ p ka kn kc),.agg (gO t),.int .i64 f,.int .i64 o,.bool th] w λv w1=>v=.tuple #[.agg (gO ((Sd.Tok.make p t f o th).1)),.int .i64 ((Sd.Tok.make p t f o th).2)]/\Ch [] w w1:=by
 refine qU (ON (adu _)) (n:=30) (xs:=[.agg (ff p ka kn kc),.agg (jx t),.int .i64 f,.int .i64 o,.bool th]) (v:=.az [.agg (jx (t.make p f o th).1),.int .i64 (t.make p f o th).2]) ?_;rw[XU];unfold Sd.Tok.make;refine aU (λh=>by rw[if_pos (by simpa using h)]) (λh=>?_);rw[if_neg (by simpa using h)];refine aU (λh=>by rw[if_pos (by simpa using h)]) (λh=>?_);rw[if_neg (by simpa using h)];refine aU (λh=>by rw[if_pos (by simpa using h)]) (λh=>?_);rw[if_neg (by simpa using h)];refine aU (λh=>by rw[if_pos (.inl (by simpa using h))]) (λh1=>?_);refine aU (λh=>by rw[if_pos (.inr (.inl (by simpa using h)))]) (λh2=>?_);refine aU (λh=>by rw[if_pos (.inr (.inr (by simpa using h)))]) (λh3=>?_);rw[if_neg (by simp at h1 h2 h3;rw[h3];simp;omega)];refine aU (λh=>by rw[if_pos (by simpa using h)]) (λh=>?_);rw[if_neg (show¬0<=t.offer by simpa using h),nq];exact⟨trivial,rfl⟩
def clX (p:Sd.Pol) (c:Nat) (n:Int):Int:=Sd.oM n (i64.wrap (0-p.i (50+c))) (p.i (50+c))
theorem XV (p:Sd.Pol) (ka:Nat->Option Addr) (kn kc:Nat->Nat) (pt:Sd.Point) (y:Sd.X4) (b:Sd.Label) (X:V->Prop):∀c:Nat,c<4->jQ prog [zcl] 30 129 [.agg (ff p ka kn kc),.agg (yB pt),.int .i64 (.ofNat c),.agg (QQ y),.agg (XJ b)] X=(True/\True/\True/\True/\X (.agg (yB ⟨.ofNat c,y.map (clX p c),pt.now,b⟩)))
 |0,_=>by kernel_rfl
 |1,_=>by kernel_rfl
 |2,_=>by kernel_rfl
 |3,_=>by kernel_rfl
 |n+4,h=>absurd h (by omega)
theorem DE (p:Sd.Pol) (ka:Nat->Option Addr) (kn kc:Nat->Nat) (pt:Sd.Point) (y:Sd.X4) (b:Sd.Label) (n:Nat) (X:V->Prop):jQ prog [zcl] 30 129 [.agg (ff p ka kn kc),.agg (yB pt),.int .i64 (.ofNat (n+4)),.agg (QQ y),.agg (XJ b)] X=cond (decide (Int.ofNat (n+4)>=4)) (X (.agg (yB ⟨.ofNat (n+4),.zero,pt.now,b⟩))) False/\
 jQ prog [zcl] 30 129 [.agg (ff p ka kn kc),.agg (yB pt),.int .i64 (.negSucc n),.agg (QQ y),.agg (XJ b)] X=cond (decide (Int.negSucc n<0)) (X (.agg (yB ⟨.negSucc n,.zero,pt.now,b⟩))) False:=⟨by kernel_rfl,by kernel_rfl⟩
theorem ahY (p:Sd.Pol) (ka:Nat->Option Addr) (kn kc:Nat->Nat) (pt:Sd.Point) (c:Int) (y:Sd.X4) (b:Sd.Label) (hp:Sd.cK p) (w:World):
 aj prog 129 #[.agg (kJ p ka kn kc),.agg (Tr pt),.int .i64 c,.agg (x4C y),.agg (ahQ b)] w λv w1=>v=.agg (Tr (Sd.Point.set p pt c y b))/\Ch [] w w1:=by
 cases c with
 |ofNat n=>
  by_cases h:n<4
  ·refine qU (ON (GC _)) (n:=30) (xs:=[.agg (ff p ka kn kc),.agg (yB pt),.int .i64 (.ofNat n),.agg (QQ y),.agg (XJ b)]) (v:=.agg (yB ⟨.ofNat n,y.map (clX p n),pt.now,b⟩)) ?_ (by kernel_rfl) ?_
   ·rw[XV p ka kn kc pt y b _ n h];exact⟨trivial,trivial,trivial,trivial,rfl⟩
   ·unfold Sd.Point.set;rw[if_neg (by show¬((n:Int)<0\/4<=(n:Int));omega)];have hm:=hp.most n h;unfold Sd.Pol.most at hm;have e:clX p n=λx=>Sd.oM x (-(p.most (Int.ofNat n).toNat)) (p.most (Int.ofNat n).toNat):=by
     funext x;unfold clX;rw[iw (by omega),Int.zero_sub];rfl
    rw[e];rfl
  ·refine qU (ON (GC _)) (n:=30) (xs:=[.agg (ff p ka kn kc),.agg (yB pt),.int .i64 (.ofNat n),.agg (QQ y),.agg (XJ b)]) (v:=.agg (yB ⟨.ofNat n,.zero,pt.now,b⟩)) ?_ (by kernel_rfl) ?_
   ·have q:=(DE p ka kn kc pt y b (n-4) (·=.agg (yB ⟨.ofNat n,.zero,pt.now,b⟩))).1;rw[show n-4+4=n by omega]at q;rw[q];exact aU (λ_=>rfl) λh=>absurd (of_decide_eq_false h) (by show¬¬(n:Int)>=4;omega)
   ·unfold Sd.Point.set;rw[if_pos (.inr (by show(4:Int)<=(n:Int);omega))];rfl
 |negSucc n=>
  refine qU (ON (GC _)) (n:=30) (xs:=[.agg (ff p ka kn kc),.agg (yB pt),.int .i64 (.negSucc n),.agg (QQ y),.agg (XJ b)]) (v:=.agg (yB ⟨.negSucc n,.zero,pt.now,b⟩)) ?_ (by kernel_rfl) ?_
  ·rw[(DE p ka kn kc pt y b n _).2];exact aU (λ_=>rfl) λh=>absurd (of_decide_eq_false h) (by have:=Int.negSucc_lt_zero n;omega)
  ·unfold Sd.Point.set;rw[if_pos (.inl (Int.negSucc_lt_zero n))];rfl
theorem XW (pt:Sd.Point) (b:Sd.Label) (X:V->Prop):jQ prog [] 30 134 [.agg (yB pt),.agg (XJ b)] X=X (.agg (yB (pt.hold b))):=by kernel_rfl
theorem ahZ (pt:Sd.Point) (b:Sd.Label) (w:World):
 aj prog 134 #[.agg (Tr pt),.agg (ahQ b)] w λv w1=>v=.agg (Tr (Sd.Point.hold pt b))/\Ch [] w w1:=by
 refine qU aZ.nil (n:=30) (xs:=[.agg (yB pt),.agg (XJ b)]) (v:=.agg (yB (pt.hold b))) ?_;rw[XW]
def V4 (a m:Int) (X:V->Prop) (Y:Prop):Prop:=cond (decide (a<i64.wrap (0-m))) (X (.bool true)) (cond (decide (a>m)) (X (.bool true)) Y)
theorem ah0 (m:Int) (y:Sd.X4) (X:V->Prop):jQ prog [] 30 126 [.int .i64 m,.agg (QQ y)] X=V4 y.a m X (V4 y.b m X (V4 y.c m X (V4 y.d m X (X (.bool false))))):=by kernel_rfl
theorem AY {a m:Int} (hm:0<=m/\m<=1000) {b:Bool} {Y:Prop} (h:a< -m\/m<a->b=true) (k:¬(a< -m\/m<a)->Y):V4 a m (·=.bool b) Y:=by
 unfold V4;rw[iw (by omega),Int.zero_sub];refine aU (λx=>by rw[h (.inl (by simpa using x))]) (λx=>aU (λz=>by rw[h (.inr (by simpa using z))]) λz=>k ?_);simp at x z;omega
theorem JK (m:Int) (y:Sd.X4) (hm:0<=m/\m<=1000) (w:World):
 aj prog 126 #[.int .i64 m,.agg (x4C y)] w λv w1=>v=.bool (Sd.O6 m y)/\Ch [] w w1:=by
 refine qU aZ.nil (n:=30) (xs:=[.int .i64 m,.agg (QQ y)]) (v:=.bool (Sd.O6 m y)) ?_;rw[ah0];unfold Sd.O6;refine AY hm (λh=>by simp[h]) λh1=>AY hm (λh=>by simp[h]) λh2=>AY hm (λh=>by simp[h]) λh3=>AY hm (λh=>by simp[h]) λh4=>?_;congr 1;simp;omega
theorem adC (gl:Nat->Option Nat):zby.Ok prog gl:=by
 intro args bl p_ v_ h hp ids w _ _;unfold zby at h;dsimp only at h;split at h
 ·rename_i m a b c d;simp only[Option.some.injEq,Prod.mk.injEq]at h;obtain⟨rfl,rfl⟩:=h;exact told (JK m ⟨a,b,c,d⟩ hp w)
 ·cases h
def smV (s:Sd.dS):List V:=.bool s.valid::(QQ s.x++[.bool s.FQ])
theorem adD (p:Sd.Pol) (ka:Nat->Option Addr) (kn kc:Nat->Nat) (r:Int) (s:Sd.dS) (X:V->Prop):jQ prog [zby] 30 80 [.agg (ff p ka kn kc),.int .i64 r,.agg (smV s)] X=
 let m:Int:=if 0>r then 0 else r
 cond (!s.valid) (X (.az [.int .i64 0,.bool false])) ((0<=p.i 47/\p.i 47<=1000)/\cond (!Sd.O6 (p.i 47) s.x) (X (.az [.int .i64 0,.bool false])) (cond (decide (m<p.i 46)) (X (.az [.int .i64 (i64.wrap (m+1)),.bool (decide (i64.wrap (m+1)>=p.i 46))])) (X (.az [.int .i64 (p.i 46),.bool (decide (p.i 46>=p.i 46))])))):=by kernel_rfl
theorem alL (p:Sd.Pol) (ka:Nat->Option Addr) (kn kc:Nat->Nat) (r:Int) (s:Sd.dS) (hp:Sd.cK p) (h_r:-9223372036854775808<=r/\r<=9223372036854775807) (w:World):
 aj prog 80 #[.agg (kJ p ka kn kc),.int .i64 r,.agg (alF s)] w λv w1=>v=.tuple #[.int .i64 ((Sd.kS p r s).1),.bool ((Sd.kS p r s).2)]/\Ch [] w w1:=by
 refine qU (ON (adC _)) (n:=30) (xs:=[.agg (ff p ka kn kc),.int .i64 r,.agg (smV s)]) (v:=.az [.int .i64 (Sd.kS p r s).1,.bool (Sd.kS p r s).2]) ?_;rw[adD];have hb:=hp.beyond;have hs:=hp.oL;unfold Sd.Pol.beyond at hb;unfold Sd.Pol.oL at hs;have em:(if 0>r then 0 else r)=max r 0:=by by_cases h:0>r<;>simp[h]<;>omega
 rw[em];unfold Sd.kS Sd.Pol.beyond Sd.Pol.oL;refine aU (λh=>by rw[if_pos (.inl (by simpa using h))]) (λh=>⟨hb,aU (λh'=>by rw[if_pos (.inr (by simpa using h'))]) λh'=>?_⟩);rw[if_neg (by simp at h h';simp[h,h'])];unfold Sd.sat;refine aU (λh=>?_) (λh=>?_)
 ·have h:max r 0<p.i 46:=by simpa using h
  rw[if_pos h,iw (by omega)]
 ·rw[if_neg (by simpa using h)]
theorem Q5 (p:Sd.Pol) (ka:Nat->Option Addr) (kn kc:Nat->Nat) (pt:Sd.Point) (X:V->Prop):jQ prog [ztw] 30 95 [.agg (ff p ka kn kc),.agg (yB pt)] X=
 let n:Sd.X4:=Sd.X4.zip (λa b=>Sd.jf a b (p.i 54)) pt.now pt.bx
 ((aB pt.now.a/\aB pt.bx.a/\aB (p.i 54))/\(aB pt.now.b/\aB pt.bx.b/\aB (p.i 54))/\(aB pt.now.c/\aB pt.bx.c/\aB (p.i 54))/\(aB pt.now.d/\aB pt.bx.d/\aB (p.i 54))/\
   cond (!(n.a==pt.now.a&&(n.b==pt.now.b&&(n.c==pt.now.c&&(n.d==pt.now.d&&true))))) (X (.agg (yB ⟨pt.cls,pt.bx,n,{pt.cX with mD:=4}⟩))) (X (.agg (yB ⟨pt.cls,pt.bx,n,pt.cX⟩)))):=by kernel_rfl
theorem adE (p:Sd.Pol) (ka:Nat->Option Addr) (kn kc:Nat->Nat) (pt:Sd.Point) (hp:Sd.cK p) (pz:-9223372036854775808<=pt.bx.a/\pt.bx.a<=9223372036854775807) (pB:-9223372036854775808<=pt.bx.b/\pt.bx.b<=9223372036854775807) (pC:-9223372036854775808<=pt.bx.c/\pt.bx.c<=9223372036854775807) (pD:-9223372036854775808<=pt.bx.d/\pt.bx.d<=9223372036854775807) (pE:-9223372036854775808<=pt.now.a/\pt.now.a<=9223372036854775807) (pF:-9223372036854775808<=pt.now.b/\pt.now.b<=9223372036854775807) (pG:-9223372036854775808<=pt.now.c/\pt.now.c<=9223372036854775807) (pH:-9223372036854775808<=pt.now.d/\pt.now.d<=9223372036854775807) (w:World):
 aj prog 95 #[.agg (kJ p ka kn kc),.agg (Tr pt)] w λv w1=>v=.agg (Tr (Sd.Point.step p pt))/\Ch [] w w1:=by
 refine qU (ON (adt _)) (n:=30) (xs:=[.agg (ff p ka kn kc),.agg (yB pt)]) (v:=.agg (yB (pt.step p))) ?_;rw[Q5];have hr:=hp.LF;unfold Sd.Pol.LF at hr;have hr:aB (p.i 54):=by unfold aB;omega
 refine⟨⟨pE,pz,hr⟩,⟨pF,pB,hr⟩,⟨pG,pC,hr⟩,⟨pH,pD,hr⟩,?_⟩;have e:Sd.Point.step p pt=⟨pt.cls,pt.bx,Sd.X4.zip (λa b=>Sd.jf a b (p.i 54)) pt.now pt.bx,if Sd.X4.zip (λa b=>Sd.jf a b (p.i 54)) pt.now pt.bx=pt.now then pt.cX else{pt.cX with mD:=4}⟩:=rfl;rw[e];generalize Sd.X4.zip (λa b=>Sd.jf a b (p.i 54)) pt.now pt.bx=n;refine aU (λh=>?_) (λh=>?_)
 ·rw[if_neg];intro h2;rw[h2]at h;simp at h
 ·rw[if_pos];rcases n with⟨n1,n2,n3,n4⟩;rcases pt with⟨q,u,⟨m1,m2,m3,m4⟩,l⟩;simp at h;simp[h]
end Go.Proofs.YtggfpcggakghnaaGreatDoor
