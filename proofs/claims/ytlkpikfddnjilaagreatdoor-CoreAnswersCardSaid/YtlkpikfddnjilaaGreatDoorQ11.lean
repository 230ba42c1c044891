/- Part 11 of the proof. -/
import Derived.Test.YtlkpikfddnjilaaGreatDoorProg
import Derived.Test.YtlkpikfddnjilaaGreatDoorQ7
set_option linter.all false
set_option maxRecDepth 100000
set_option maxHeartbeats 4000000
open Go.Proofs.Tryz
open Go.IntKind (u8 u16 u32 u64 i64)
namespace Go.Proofs.YtlkpikfddnjilaaGreatDoor
open Go Go.RowKit Go.BigFrame Sx Vx
def kq (p:Sd.Pol) (ka:Nat->Option Addr) (kn kc:Nat->Nat):Array Value:=#[.int .i64 (p.i 0),.int .i64 (p.i 1),.int .i64 (p.i 2),.int .i64 (p.i 3),.int .i64 (p.i 4),.slice (ka 0) (kn 0) (kc 0),.slice (ka 1) (kn 1) (kc 1),.slice (ka 2) (kn 2) (kc 2),.slice (ka 3) (kn 3) (kc 3),.int .i64 (p.i 9),.int .i64 (p.i 10),.int .i64 (p.i 11),.int .i64 (p.i 12),.int .i64 (p.i 13),.int .i64 (p.i 14),.int .i64 (p.i 15),.int .i64 (p.i 16),.int .i64 (p.i 17),.int .i64 (p.i 18),.int .i64 (p.i 19),.int .i64 (p.i 20),.int .i64 (p.i 21),.int .i64 (p.i 22),.int .i64 (p.i 23),.int .i64 (p.i 24),.int .i64 (p.i 25),.int .i64 (p.i 26),.int .i64 (p.i 27),.int .i64 (p.i 28),.int .i64 (p.i 29),.int .i64 (p.i 30),.int .i64 (p.i 31),.int .i64 (p.i 32),.int .i64 (p.i 33),.int .i64 (p.i 34),.int .i64 (p.i 35),.int .i64 (p.i 36),.int .i64 (p.i 37),.int .i64 (p.i 38),.int .i64 (p.i 39),.int .i64 (p.i 40),.int .i64 (p.i 41),.int .i64 (p.i 42),.int .i64 (p.i 43),.int .i64 (p.i 44),.int .i64 (p.i 45),.int .i64 (p.i 46),.int .i64 (p.i 47),.int .i64 (p.i 48),.int .i64 (p.i 49),.int .i64 (p.i 50),.int .i64 (p.i 51),.int .i64 (p.i 52),.int .i64 (p.i 53),.int .i64 (p.i 54),.int .i64 (p.i 55)]
def zU (t:Sd.Timer):Array Value:=#[.int .i64 t.n,.int .i64 t.most]
def x4C (t:Sd.X4):Array Value:=#[.int .i64 t.a,.int .i64 t.b,.int .i64 t.c,.int .i64 t.d]
def afD (t:Sd.Label):Array Value:=#[.int .i64 t.l5,.int .i64 t.source,.int .i64 t.seq]
def gn (t:Sd.Tok):Array Value:=#[.int .i64 t.holder,.int .i64 t.epoch,.int .i64 t.offer,.int .i64 t.oa.n,.int .i64 t.oa.most,.int .i64 t.la.n,.int .i64 t.la.most,.bool t.bad]
def ptC (t:Sd.Point):Array Value:=#[.int .i64 t.cls,.int .i64 t.bZ.a,.int .i64 t.bZ.b,.int .i64 t.bZ.c,.int .i64 t.bZ.d,.int .i64 t.now.a,.int .i64 t.now.b,.int .i64 t.now.c,.int .i64 t.now.d,.int .i64 t.eo.l5,.int .i64 t.eo.source,.int .i64 t.eo.seq]
def ai7 (t:Sd.dq):Array Value:=#[.bool t.valid,.int .i64 t.x.a,.int .i64 t.x.b,.int .i64 t.x.c,.int .i64 t.x.d,.bool t.ED]
def iM (t:Sd.cU):Array Value:=#[.bool t.any,.int .i64 t.high,.int .u64 t.seen]
def U7 (t:Sd.Ask):Array Value:=#[.int .i64 t.source,.int .i64 t.aU,.int .i64 t.gu.n,.int .i64 t.gu.most]
def recC (t:Sd.Rec):Array Value:=#[.int .i64 t.kind,.int .i64 t.source,.int .i64 t.seq,.int .i64 t.epoch,.int .i64 t.code,.int .i64 t.how]
theorem aa_ (s i:Int) (h0:0<=s) (h1:0<=i) (h2:i<=62):((Int.fdiv s (2^(min (i).toNat 64)))%2==1)=Sd.has s i:=by
 have e:min i.toNat 64=i.toNat:=by omega
 have h3:(0:Int)<=2^i.toNat:=Int.le_of_lt (Int.pow_pos (by omega));rw[e,Int.fdiv_eq_ediv_of_nonneg _ h3];simp[Sd.has,h0,h1,h2];exact Bool.eq_iff_iff.2 (by simp)
def eJ (p:Sd.Pol) (ka:Nat->Option Addr) (kn kc:Nat->Nat):List V:=(List.range 56).map λo=>bif Nat.ble 5 o&&Nat.ble o 8 then .raw (.slice (ka (o-5)) (kn (o-5)) (kc (o-5)))else .int .i64 (p.i o)
def Tr (n m:Int):List V:=[.int .i64 n,.int .i64 m]
def jc (t:Sd.Tok):List V:=[.int .i64 t.holder,.int .i64 t.epoch,.int .i64 t.offer,.int .i64 t.oa.n,.int .i64 t.oa.most,.int .i64 t.la.n,.int .i64 t.la.most,.bool t.bad]
def OJ (x:Sd.X4):List V:=[.int .i64 x.a,.int .i64 x.b,.int .i64 x.c,.int .i64 x.d]
def U8 (t:Sd.Label):List V:=[.int .i64 t.l5,.int .i64 t.source,.int .i64 t.seq]
def xg (t:Sd.Point):List V:=.int .i64 t.cls::(OJ t.bZ++(OJ t.now++U8 t.eo))
theorem iw {x:Int} (h:-9223372036854775808<=x/\x<=9223372036854775807):i64.wrap x=x:=by simp[IntKind.wrap,IntKind.bits,IntKind.signed];omega
theorem qt {L:List QF} {n f:Nat} {xs:List V} {v:V} {args:Array Value} {x:Value} {w:World} (hL:aW prog (λ_=>none) L) (h:jh prog L n f xs (·=v)) (ha:args=(aq [] xs).toArray:=by kernel_rfl) (hx:x=den [] v:=by kernel_rfl) (h1:cG 0 xs=true:=by kernel_rfl) (h2:fu 0 v=true:=by kernel_rfl):
 ak prog f args w λy w1=>y=x/\Ch [] w w1:=by subst ha hx;exact oQ hL n h h1 h2 [] w
theorem aba (n m:Int) (X:V->Prop):jh prog [] 30 94 [.int .i64 n,.int .i64 m] X=cond (decide (n<m)) (X (.int .i64 (i64.wrap (n+1)))) (X (.int .i64 m)):=by kernel_rfl
theorem ai8 (n:Int) (m:Int) (h_n:-9223372036854775808<=n/\n<=9223372036854775807) (h_m:-9223372036854775808<=m/\m<=9223372036854775807) (w:World):
 ak prog 94 #[.int .i64 n,.int .i64 m] w λv w1=>v=.int .i64 (Sd.sat n m)/\Ch [] w w1:=by
 refine qt aW.nil (n:=30) (xs:=[.int .i64 n,.int .i64 m]) (v:=.int .i64 (Sd.sat n m)) ?_;rw[aba];unfold Sd.sat;refine aO (λh=>?_) (λh=>?_)
 ·have h:n<m:=by simpa using h
  rw[if_pos h,iw (by omega)]
 ·rw[if_neg (by simpa using h)]
theorem OK (n m k:Int) (X:V->Prop):jh prog [] 30 192 [.int .i64 n,.int .i64 m,.int .i64 k] X=cond (decide (n<m)) (X (.int .i64 m)) (cond (decide (n>k)) (X (.int .i64 k)) (X (.int .i64 n))):=by kernel_rfl
theorem OL (n:Int) (lo:Int) (hi:Int) (w:World):
 ak prog 192 #[.int .i64 n,.int .i64 lo,.int .i64 hi] w λv w1=>v=.int .i64 (Sd.og n lo hi)/\Ch [] w w1:=by
 refine qt aW.nil (n:=30) (xs:=[.int .i64 n,.int .i64 lo,.int .i64 hi]) (v:=.int .i64 (Sd.og n lo hi)) ?_;rw[OK];unfold Sd.og;exact aO (λh=>by rw[if_pos (by simpa using h)]) (λh=>by
  rw[if_neg (by simpa using h)];exact aO (λh=>by rw[if_pos (by simpa using h)]) (λh=>by rw[if_neg (by simpa using h)]))
def tw (a b:Int):Int:=u64.wrap (u64.wrap a-u64.wrap b)
theorem YZ {a b:Int} (h0:0<=a-b) (h1:a-b<18446744073709551616):tw a b=a-b:=by unfold tw;rw[IntKind.wrap_u64,IntKind.wrap_u64,IntKind.wrap_u64];omega
theorem abb {a:Int} (h0:0<=a) (h1:a<18446744073709551616):u64.wrap a=a:=by rw[IntKind.wrap_u64];omega
theorem Kn (nw t b:Int) (X:V->Prop):jh prog [] 30 112 [.int .i64 nw,.int .i64 t,.int .i64 b] X=cond (decide (b<1)) (X (.int .i64 nw)) (cond (decide (t>=nw)) (cond (decide (tw t nw<=u64.wrap b)) (X (.int .i64 t)) (X (.int .i64 (i64.wrap (nw+b)))))
 (cond (decide (tw nw t<=u64.wrap b)) (X (.int .i64 t)) (X (.int .i64 (i64.wrap (nw-b)))))):=by kernel_rfl
theorem H7 (nw:Int) (t:Int) (b:Int) (afE:-9223372036854775808<=nw/\nw<=9223372036854775807) (h_t:-9223372036854775808<=t/\t<=9223372036854775807) (h_b:-9223372036854775808<=b/\b<=9223372036854775807) (w:World):
 ak prog 112 #[.int .i64 nw,.int .i64 t,.int .i64 b] w λv w1=>v=.int .i64 (Sd.iF nw t b)/\Ch [] w w1:=by
 refine qt aW.nil (n:=30) (xs:=[.int .i64 nw,.int .i64 t,.int .i64 b]) (v:=.int .i64 (Sd.iF nw t b)) ?_;rw[Kn];unfold Sd.iF;refine aO (λh=>by rw[if_pos (by simpa using h)]) (λh=>?_);have h1:¬b<1:=by simpa using h
 rw[if_neg h1,abb (by omega) (by omega)];refine aO (λh=>?_) (λh=>?_)
 ·have h2:nw<=t:=by simpa using h
  rw[if_pos h2,YZ (by omega) (by omega)];refine aO (λh=>by rw[if_pos (by simpa using h)]) (λh=>?_);have h3:¬t-nw<=b:=by simpa using h
  rw[if_neg h3,iw (by omega)]
 ·have h2:¬nw<=t:=by simpa using h
  rw[if_neg h2,YZ (by omega) (by omega)];refine aO (λh=>by rw[if_pos (by simpa using h)]) (λh=>?_);have h3:¬nw-t<=b:=by simpa using h
  rw[if_neg h3,iw (by omega)]
def hv (n:Int) (m:Nat):Int:=let a:=BitVec.ofInt i64.bits (n.fdiv (2^min m i64.bits));let b:=BitVec.ofInt i64.bits 1;i64.wrap ↑(a&&&b).toNat
theorem abc (n:Int) (m:Nat) (X:V->Prop):jh prog [] 30 163 [.int .i64 n,.int .i64 (.ofNat m)] X=cond (decide (n<0)) (X (.bool false)) (cond (decide (Int.ofNat m>62)) (X (.bool false)) (X (.bool (hv n m==1)))):=by kernel_rfl
theorem U9 (n:Int) (m:Nat) (X:V->Prop):jh prog [] 30 163 [.int .i64 n,.int .i64 (.negSucc m)] X=cond (decide (n<0)) (X (.bool false)) (cond (decide (Int.negSucc m<0)) (X (.bool false)) False):=by kernel_rfl
theorem afF (s:Int) (i:Int) (w:World):
 ak prog 163 #[.int .i64 s,.int .i64 i] w λv w1=>v=.bool (Sd.has s i)/\Ch [] w w1:=by
 refine qt aW.nil (n:=30) (xs:=[.int .i64 s,.int .i64 i]) (v:=.bool (Sd.has s i)) ?_;cases i with
 |ofNat m=>
  rw[abc];refine aO (λh=>?_) (λh=>aO (λh'=>?_) λh'=>?_)
  ·have h:s<0:=by simpa using h
   congr 1;simp[Sd.has];omega
  ·have h':(m:Int)>62:=by simpa using h'
   congr 1;simp[Sd.has];omega
  ·have h:¬s<0:=by simpa using h
   have h':¬(m:Int)>62:=by simpa using h'
   have em:Int.ofNat m=(m:Int):=rfl;rw[<-aa_ s (.ofNat m) (by omega) (by omega) (by omega)];exact congrArg (λz:Int=>V.bool (z==1)) (eT .i64 (Int.fdiv s (2^(min m 64))) 1 2 1 (by decide) (by decide) (by decide))
 |negSucc m=>
  rw[U9];have e:Sd.has s (.negSucc m)=false:=by simp[Sd.has]
  rw[e];exact aO (λ_=>rfl) λ_=>aO (λ_=>rfl) λh=>absurd (of_decide_eq_false h) (by omega)
theorem Cw (m:Int) (X:V->Prop):jh prog [] 30 155 [.int .i64 m] X=X (.agg (Tr 0 (if 0>m then 0 else m))):=by kernel_rfl
theorem mM (b:Int):Sd.Timer.start b=⟨0,if 0>b then 0 else b⟩:=by
 unfold Sd.Timer.start;congr 1;by_cases h:0>b
 ·rw[if_pos h];omega
 ·rw[if_neg h];omega
theorem abd (m:Int) (h_m:-9223372036854775808<=m/\m<=9223372036854775807) (w:World):
 ak prog 155 #[.int .i64 m] w λv w1=>v=.agg (zU (Sd.Timer.start m))/\Ch [] w w1:=by
 rw[mM];refine qt aW.nil (n:=30) (xs:=[.int .i64 m]) (v:=.agg (Tr 0 (if 0>m then 0 else m))) ?_;rw[Cw]
theorem U_ (t:Sd.Timer) (X:V->Prop):jh prog [] 30 107 [.agg (Tr t.n t.most)] X=cond (decide (t.n<t.most)) (X (.agg (Tr (i64.wrap (t.n+1)) t.most))) (X (.agg (Tr t.most t.most))):=by kernel_rfl
theorem Y0 (t:Sd.Timer) (Y1:-9223372036854775808<=t.n/\t.n<=9223372036854775807) (Cx:-9223372036854775808<=t.most/\t.most<=9223372036854775807) (w:World):
 ak prog 107 #[.agg (zU t)] w λv w1=>v=.agg (zU (Sd.Timer.step t))/\Ch [] w w1:=by
 refine qt aW.nil (n:=30) (xs:=[.agg (Tr t.n t.most)]) (v:=.agg (Tr (Sd.sat t.n t.most) t.most)) ?_;rw[U_];unfold Sd.sat;refine aO (λh=>?_) (λh=>?_)
 ·have h:t.n<t.most:=by simpa using h
  rw[if_pos h,iw (by omega)]
 ·rw[if_neg (by simpa using h)]
theorem abe (t:Sd.Timer) (X:V->Prop):jh prog [] 30 108 [.agg (Tr t.n t.most)] X=X (.bool (decide (t.n>=t.most))):=by kernel_rfl
theorem afG (t:Sd.Timer) (w:World):
 ak prog 108 #[.agg (zU t)] w λv w1=>v=.bool (Sd.Timer.due t)/\Ch [] w w1:=by
 refine qt aW.nil (n:=30) (xs:=[.agg (Tr t.n t.most)]) (v:=.bool t.due) ?_;rw[abe];rfl
theorem OM (t:Sd.Tok) (o:Int) (X:V->Prop):jh prog [] 30 151 [.agg (jc t),.int .i64 o] X=cond (decide (o<0)) (X (.aC [.agg (jc t),.int .i64 1])) (cond (decide (o>=5)) (X (.aC [.agg (jc t),.int .i64 1])) (cond (o==t.holder) (X (.aC [.agg (jc t),.int .i64 25]))
 (cond (decide (t.epoch>=65535)) (X (.aC [.agg (jc t),.int .i64 24])) (X (.aC [.agg (jc (t.pass o (i64.wrap (t.epoch+1)))),.int .i64 0]))))):=by kernel_rfl
theorem abf (t:Sd.Tok) (o:Int) (eZ:-9223372036854775808<=t.epoch/\t.epoch<=9223372036854775807) (w:World):
 ak prog 151 #[.agg (gn t),.int .i64 o] w λv w1=>v=.tuple #[.agg (gn ((Sd.Tok.bA t o).1)),.int .i64 ((Sd.Tok.bA t o).2)]/\Ch [] w w1:=by
 refine qt aW.nil (n:=30) (xs:=[.agg (jc t),.int .i64 o]) (v:=.aC [.agg (jc (t.bA o).1),.int .i64 (t.bA o).2]) ?_;rw[OM];unfold Sd.Tok.bA;refine aO (λh=>by rw[if_pos (.inl (by simpa using h))]) (λh=>aO (λh'=>by rw[if_pos (.inr (by simpa using h'))]) λh'=>?_);have h1:¬(o<0\/5<=o):=by simp at h h';omega
 rw[if_neg h1];refine aO (λh=>by rw[if_pos (by simpa using h)]) (λh=>?_);rw[if_neg (by simpa using h)];refine aO (λh=>by rw[if_pos (by simpa using h)]) (λh=>?_);have h2:¬65535<=t.epoch:=by simpa using h
 rw[if_neg h2,iw (by omega)]
theorem ON (t:Sd.Tok) (X:V->Prop):jh prog [] 30 100 [.agg (jc t)] X=cond (t.holder !=4) (cond (decide (t.epoch<65535)) (X (.agg (jc (t.pass 4 (i64.wrap (t.epoch+1)))))) (X (.agg (jc (t.pass 4 65535))))) (X (.agg (jc (t.pass 4 t.epoch)))):=by kernel_rfl
theorem abg (t:Sd.Tok) (eZ:-9223372036854775808<=t.epoch/\t.epoch<=9223372036854775807) (w:World):
 ak prog 100 #[.agg (gn t)] w λv w1=>v=.agg (gn (Sd.Tok.dB t))/\Ch [] w w1:=by
 refine qt aW.nil (n:=30) (xs:=[.agg (jc t)]) (v:=.agg (jc t.dB)) ?_;rw[ON];unfold Sd.Tok.dB Sd.sat;refine aO (λh=>?_) (λh=>by rw[if_neg (by simpa using h)]);rw[if_pos (by simpa using h)];refine aO (λh=>?_) (λh=>by rw[if_neg (by simpa using h)]);have h2:t.epoch<65535:=by simpa using h
 rw[if_pos h2,iw (by omega)]
theorem Va (t:Sd.Tok) (X:V->Prop):jh prog [] 30 106 [.agg (jc t)] X=X (.bool (decide (t.offer>=0))):=by kernel_rfl
theorem open_ (t:Sd.Tok) (w:World):
 ak prog 106 #[.agg (gn t)] w λv w1=>v=.bool (decide (0<=t.offer))/\Ch [] w w1:=by
 refine qt aW.nil (n:=30) (xs:=[.agg (jc t)]) (v:=.bool (decide (0<=t.offer))) ?_;rw[Va]
theorem Vb (t:Sd.Tok) (X:V->Prop):jh prog [] 30 109 [.agg (jc t)] X=X (.agg (jc t.bG)):=by kernel_rfl
theorem OO (t:Sd.Tok) (w:World):
 ak prog 109 #[.agg (gn t)] w λv w1=>v=.agg (gn (Sd.Tok.bG t))/\Ch [] w w1:=by
 refine qt aW.nil (n:=30) (xs:=[.agg (jc t)]) (v:=.agg (jc t.bG)) ?_;rw[Vb]
def p5 (p:Sd.Pol):List V:=[.int .i64 (p.i 0),.int .i64 (p.i 1),.int .i64 (p.i 2),.int .i64 (p.i 3),.int .i64 (p.i 4)]
theorem OP (p:Sd.Pol) (s:Int) (X:V->Prop):jh prog [] 30 228 [.agg (p5 p),.int .i64 s] X=cond (p.i 0==s) (X (.int .i64 0)) (cond (p.i 1==s) (X (.int .i64 1)) (cond (p.i 2==s) (X (.int .i64 2)) (cond (p.i 3==s) (X (.int .i64 3)) (cond (p.i 4==s) (X (.int .i64 4)) (X (.int .i64 (-1))))))):=by kernel_rfl
theorem Fa (p:Sd.Pol) (ka:Nat->Option Addr) (kn kc:Nat->Nat) (s:Int) (w:World):
 ak prog 228 #[.agg #[.int .i64 (p.i 0),.int .i64 (p.i 1),.int .i64 (p.i 2),.int .i64 (p.i 3),.int .i64 (p.i 4)],.int .i64 s] w λv w1=>v=.int .i64 (Sd.placeOf p s)/\Ch [] w w1:=by
 refine qt aW.nil (n:=30) (xs:=[.agg (p5 p),.int .i64 s]) (v:=.int .i64 (Sd.placeOf p s)) ?_;rw[OP];unfold Sd.placeOf;refine aO (λh=>by rw[if_pos (by simpa using h)]) (λh=>?_);rw[if_neg (by simpa using h)];refine aO (λh=>by rw[if_pos (by simpa using h)]) (λh=>?_);rw[if_neg (by simpa using h)];refine aO (λh=>by rw[if_pos (by simpa using h)]) (λh=>?_);rw[if_neg (by simpa using h)];refine aO (λh=>by rw[if_pos (by simpa using h)]) (λh=>?_);rw[if_neg (by simpa using h)];exact aO (λh=>by rw[if_pos (by simpa using h)]) (λh=>by rw[if_neg (by simpa using h)])
theorem told {P:Program} {f:Nat} {args:Array Value} {ids:List Nat} {xs:List V} {x:Value} {v:V} {w:World} (h:ak P f args w λy w1=>y=x/\Ch [] w w1) (ha:args=(aq ids xs).toArray:=by kernel_rfl) (hv:x=den ids v:=by kernel_rfl):
 ak P f (aq ids xs).toArray w λy w1=>y=den ids v/\Ch [] w w1:=by subst ha hv;exact h
structure Hd (p:Prop):Prop where
 h:p
def aB (a:Int):Prop:=-9223372036854775808<=a/\a<=9223372036854775807
def zpl:QF:=⟨228,λargs _=>match args with
 |[.agg [.int .i64 a,.int .i64 b,.int .i64 c,.int .i64 d,.int .i64 e],.int .i64 s]=>some (True,.int .i64 (if a=s then 0 else if b=s then 1 else if c=s then 2 else if d=s then 3 else if e=s then 4 else-1))
 |_=>none⟩
def ztw:QF:=⟨112,λargs _=>match args with
 |[.int .i64 nw,.int .i64 t,.int .i64 b]=>some (aB nw/\aB t/\aB b,.int .i64 (Sd.iF nw t b))
 |_=>none⟩
def zcl:QF:=⟨192,λargs _=>match args with
 |[.int .i64 n,.int .i64 lo,.int .i64 hi]=>some (True,.int .i64 (Sd.og n lo hi))
 |_=>none⟩
def si:QF:=⟨163,λargs _=>match args with
 |[.int .i64 s,.int .i64 i]=>some (True,.bool (Sd.has s i))
 |_=>none⟩
def zen:QF:=⟨109,λargs _=>match args with
 |[.agg [.int .i64 a,.int .i64 b,.int .i64 c,.int .i64 d,.int .i64 e,.int .i64 f,.int .i64 g,.bool h]]=>some (True,.agg (jc (⟨a,b,c,⟨d,e⟩,⟨f,g⟩,h⟩:Sd.Tok).bG))
 |_=>none⟩
def zst:QF:=⟨155,λargs _=>match args with
 |[.int .i64 m]=>some (True,.agg (Tr 0 (if 0>m then 0 else m)))
 |_=>none⟩
def zby:QF:=⟨147,λargs _=>match args with
 |[.int .i64 m,.agg [.int .i64 a,.int .i64 b,.int .i64 c,.int .i64 d]]=>some (0<=m/\m<=1000,.bool (Sd.MT m ⟨a,b,c,d⟩))
 |_=>none⟩
theorem abh (gl:Nat->Option Nat):zpl.Ok prog gl:=by
 intro args bl p_ v_ h hp ids w _ _;unfold zpl at h;dsimp only at h;split at h
 ·rename_i a b c d e s;simp only[Option.some.injEq,Prod.mk.injEq]at h;obtain⟨rfl,rfl⟩:=h;exact told (Fa ⟨λi=>match i with|0=>a|1=>b|2=>c|3=>d|_=>e,λ_=>(0,λ_=>0)⟩ (λ_=>none) (λ_=>0) (λ_=>0) s w)
 ·cases h
theorem abi (gl:Nat->Option Nat):ztw.Ok prog gl:=by
 intro args bl p_ v_ h hp ids w _ _;unfold ztw at h;dsimp only at h;split at h
 ·rename_i nw t b;simp only[Option.some.injEq,Prod.mk.injEq]at h;obtain⟨rfl,rfl⟩:=h;exact told (H7 nw t b hp.1 hp.2.1 hp.2.2 w)
 ·cases h
theorem Fb (gl:Nat->Option Nat):zcl.Ok prog gl:=by
 intro args bl p_ v_ h hp ids w _ _;unfold zcl at h;dsimp only at h;split at h
 ·rename_i n lo hi;simp only[Option.some.injEq,Prod.mk.injEq]at h;obtain⟨rfl,rfl⟩:=h;exact told (OL n lo hi w)
 ·cases h
theorem zV (gl:Nat->Option Nat):si.Ok prog gl:=by
 intro args bl p_ v_ h hp ids w _ _;unfold si at h;dsimp only at h;split at h
 ·rename_i s i;simp only[Option.some.injEq,Prod.mk.injEq]at h;obtain⟨rfl,rfl⟩:=h;exact told (afF s i w)
 ·cases h
theorem OQ (gl:Nat->Option Nat):zen.Ok prog gl:=by
 intro args bl p_ v_ h hp ids w _ _;unfold zen at h;dsimp only at h;split at h
 ·rename_i a b c d e f g h;simp only[Option.some.injEq,Prod.mk.injEq]at h;obtain⟨rfl,rfl⟩:=h;exact told (OO ⟨a,b,c,⟨d,e⟩,⟨f,g⟩,h⟩ w)
 ·cases h
theorem abj (gl:Nat->Option Nat):zst.Ok prog gl:=by
 intro args bl p_ v_ h hp ids w _ _;unfold zst at h;dsimp only at h;split at h
 ·rename_i m;simp only[Option.some.injEq,Prod.mk.injEq]at h;obtain⟨rfl,rfl⟩:=h;exact oQ aW.nil 30 (by show jh prog [] 30 155 _ _;rw[Cw]) rfl rfl ids w
 ·cases h
theorem Mz {q:QF} (h:q.Ok prog λ_=>none):aW prog (λ_=>none) [q]:=aW.cons h aW.nil
theorem Vc (p:Sd.Pol) (ka:Nat->Option Addr) (kn kc:Nat->Nat) (s:Int) (X:V->Prop):jh prog [zpl] 30 209 [.agg (eJ p ka kn kc),.int .i64 s] X=(True/\X (.int .i64 (Sd.placeOf p s))):=by kernel_rfl
theorem afH (p:Sd.Pol) (ka:Nat->Option Addr) (kn kc:Nat->Nat) (s:Int) (w:World):
 ak prog 209 #[.agg (kq p ka kn kc),.int .i64 s] w λv w1=>v=.int .i64 (Sd.placeOf p s)/\Ch [] w w1:=by
 refine qt (Mz (abh _)) (n:=30) (xs:=[.agg (eJ p ka kn kc),.int .i64 s]) (v:=.int .i64 (Sd.placeOf p s)) ?_;rw[Vc];exact⟨trivial,rfl⟩
theorem Vd (p:Sd.Pol) (ka:Nat->Option Addr) (kn kc:Nat->Nat) (a:Int) (b:Int) (w:World):
 ak prog 207 #[.agg (kq p ka kn kc),.int .i64 a,.int .i64 b] w λv w1=>v=.bool (Sd.b9 p a b)/\Ch [] w w1:=by
 have S0:=St.nil [] w;refine ct Tryz.func207 rfl ?_;refine ao (aw ?_);refine cq S0 (λb=>.pointer (some ⟨b,0,none⟩)) (.cells (kq p ka kn kc) 28) ?_;intro bQ lU fm;refine aa (.bool false) ?_;refine au (ae (ao (aw ?_)));refine bm ?_;refine au (ae (ao ?_));refine gY 9 [⟨0,λ_=>.func (.func 228) #[] #[],λ_=>[]⟩,⟨0,λ_=>.pointer (some ⟨bQ,0,none⟩),λ_=>[]⟩,⟨0,λ_=>.agg #[.int .i64 (p.i 0),.int .i64 (p.i 1),.int .i64 (p.i 2),.int .i64 (p.i 3),.int .i64 (p.i 4)],λ_=>[]⟩,⟨0,λ_=>.int .i64 a,λ_=>[]⟩,⟨0,λ_=>.int .i64 (Sd.placeOf p a),λ_=>[]⟩,⟨0,λ_=>.func (.func 228) #[] #[],λ_=>[]⟩,⟨0,λ_=>.pointer (some ⟨bQ,0,none⟩),λ_=>[]⟩,⟨0,λ_=>.agg #[.int .i64 (p.i 0),.int .i64 (p.i 1),.int .i64 (p.i 2),.int .i64 (p.i 3),.int .i64 (p.i 4)],λ_=>[]⟩,⟨0,λ_=>.int .i64 b,λ_=>[]⟩] [[9,4,0],[9,4,2,1],[9,4,2],[9,4,3],[9,4],[9,5],[9,7,6],[9,7],[9,8],[10,0],[10,1],[10,2],[10,3],[10,4],[10,9,5],[10,9,7,6],[10,9,7],[10,9,8],[10,9],[11,0],[11,1],[11,2],[11,3],[11,4],[11,5],[11,6],[11,7],[11,8],[11,9],[11,10]] ?_ ?_
 ·refine step_cons iA ?_;refine step_cons iA ?_;refine step_cons (TM fm 0 bQ 0 5 #[.int .i64 (p.i 0),.int .i64 (p.i 1),.int .i64 (p.i 2),.int .i64 (p.i 3),.int .i64 (p.i 4)]) ?_;refine step_cons iA ?_;refine step_cons ?_ ?_
  ·intro Ek uc se U1 nY;have J9:Ek 10=.func (.func 228) #[] #[]:=(Sp.bg (nY 0 10 (by kernel_rfl) (by kernel_rfl))).1;have jy:Ek 12=.agg #[.int .i64 (p.i 0),.int .i64 (p.i 1),.int .i64 (p.i 2),.int .i64 (p.i 3),.int .i64 (p.i 4)]:=(Sp.bg (nY 2 12 (by kernel_rfl) (by kernel_rfl))).1;have iI:Ek 13=.int .i64 a:=(Sp.bg (nY 3 13 (by kernel_rfl) (by kernel_rfl))).1;have iH:=fm.quiet se;refine jV ?_;refine kE [(10,.func (.func 228) #[] #[]),(12,.agg #[.int .i64 (p.i 0),.int .i64 (p.i 1),.int .i64 (p.i 2),.int .i64 (p.i 3),.int .i64 (p.i 4)]),(13,.int .i64 a)] (cu J9 (cu jy (cu iI (fL)))) ?_;have sd:=iH.loc;refine Y.cd 228 #[.agg #[.int .i64 (p.i 0),.int .i64 (p.i 1),.int .i64 (p.i 2),.int .i64 (p.i 3),.int .i64 (p.i 4)],.int .i64 a] ?_;refine(Fa p ka kn kc a _).mono ?_;rintro _ abk ⟨rfl,lB⟩;have mK:=sd.quiet lB;exact⟨mK.ch,Sp.da [] (all_nil)⟩
  refine step_cons iA ?_;refine step_cons iA ?_;refine step_cons (TM fm 0 bQ 0 5 #[.int .i64 (p.i 0),.int .i64 (p.i 1),.int .i64 (p.i 2),.int .i64 (p.i 3),.int .i64 (p.i 4)]) ?_;refine step_cons iA ?_;exact ez
 intro zW zI OR qu;have OD:zW 0=.func (.func 228) #[] #[]:=(Sp.bg (qu 0 (by kernel_rfl))).1;have zJ:zW 1=.pointer (some ⟨bQ,0,none⟩):=(Sp.bg (qu 1 (by kernel_rfl))).1;have tN:zW 2=.agg #[.int .i64 (p.i 0),.int .i64 (p.i 1),.int .i64 (p.i 2),.int .i64 (p.i 3),.int .i64 (p.i 4)]:=(Sp.bg (qu 2 (by kernel_rfl))).1;have vg:zW 3=.int .i64 a:=(Sp.bg (qu 3 (by kernel_rfl))).1;have N5:zW 4=.int .i64 (Sd.placeOf p a):=(Sp.bg (qu 4 (by kernel_rfl))).1;have sh:zW 5=.func (.func 228) #[] #[]:=(Sp.bg (qu 5 (by kernel_rfl))).1;have iJ:zW 6=.pointer (some ⟨bQ,0,none⟩):=(Sp.bg (qu 6 (by kernel_rfl))).1;have nX:zW 7=.agg #[.int .i64 (p.i 0),.int .i64 (p.i 1),.int .i64 (p.i 2),.int .i64 (p.i 3),.int .i64 (p.i 4)]:=(Sp.bg (qu 7 (by kernel_rfl))).1;have E6:zW 8=.int .i64 b:=(Sp.bg (qu 8 (by kernel_rfl))).1;have Fc:=fm.quiet OR;refine⟨[.func (.func 228) #[] #[],.pointer (some ⟨bQ,0,none⟩),.agg #[.int .i64 (p.i 0),.int .i64 (p.i 1),.int .i64 (p.i 2),.int .i64 (p.i 3),.int .i64 (p.i 4)],.int .i64 a,.int .i64 (Sd.placeOf p a),.func (.func 228) #[] #[],.pointer (some ⟨bQ,0,none⟩),.agg #[.int .i64 (p.i 0),.int .i64 (p.i 1),.int .i64 (p.i 2),.int .i64 (p.i 3),.int .i64 (p.i 4)],.int .i64 b],by kernel_rfl,av OD (av zJ (av tN (av vg (av N5 (av sh (av iJ (av nX (av E6 (k9))))))))),?_⟩;refine cd 228 #[.agg #[.int .i64 (p.i 0),.int .i64 (p.i 1),.int .i64 (p.i 2),.int .i64 (p.i 3),.int .i64 (p.i 4)],.int .i64 b] ?_;refine(Fa p ka kn kc b _).mono ?_;rintro _ ak0 ⟨rfl,nZ⟩;have vj:=Fc.quiet nZ;refine bm ?_;refine bm ?_;refine au (ae (ao (aw ?_)));refine bJ ?_;refine aa (.bool ((Sd.placeOf p a)!=(-1))) ?_;refine bJ ?_;refine Yr 22 ((Sd.placeOf p a)!=(-1)) ?_ ?_
 ·intro jz;have n7:=ZI jz;refine bJ ?_;refine aa (.bool ((Sd.placeOf p b)!=(-1))) ?_;refine aa (.bool ((Sd.placeOf p b)!=(-1))) ?_;refine bJ ?_;refine Yr 26 ((Sd.placeOf p b)!=(-1)) ?_ ?_
  ·intro qq;have vu:=ZI qq;refine bJ ?_;refine bJ ?_;refine aa (.bool (decide ((Sd.placeOf p a)<(Sd.placeOf p b)))) ?_;refine aa (.bool (decide ((Sd.placeOf p a)<(Sd.placeOf p b)))) ?_;refine bm ?_;refine au (ae (wp_ret ?_));refine eD rfl (ei [.tmp 6] [.bool (decide ((Sd.placeOf p a)<(Sd.placeOf p b)))] (.bool (decide ((Sd.placeOf p a)<(Sd.placeOf p b)))) ⟨bo,trivial⟩) ?_;have ze:Sd.b9 p a b=(decide ((Sd.placeOf p a)<(Sd.placeOf p b))):=by first|rfl|(simp[Sd.b9,jz,qq,n7,vu];done)|(simp[Sd.b9,jz,qq,n7,vu];rfl)|(simp[Sd.b9,jz,qq];simp[Sd.b9,jz,qq,n7,vu];done)|(simp[Sd.b9,jz,qq];simp[Sd.b9,jz,qq,n7,vu];rfl)|(simp[Sd.b9,jz,qq,n7,vu];omega)|(unfold Sd.b9;(repeat' split)<;>first|rfl|assumption|omega|(simp_all;done)|(simp_all;omega))
   exact⟨by(rw[ze])<;>rfl,vj.ch⟩
  intro qo;have r_:=ZJ qo;refine mf ?_;refine mf ?_;refine mf ?_;refine aa (.bool false) ?_;refine aa (.bool false) ?_;refine au (ae (wp_ret ?_));refine eD rfl (ei [.tmp 6] [.bool false] (.bool false) ⟨bo,trivial⟩) ?_;have ze:Sd.b9 p a b=false:=by first|rfl|(simp[Sd.b9,jz,qo,n7,r_];done)|(simp[Sd.b9,jz,qo,n7,r_];rfl)|(simp[Sd.b9,jz,qo];simp[Sd.b9,jz,qo,n7,r_];done)|(simp[Sd.b9,jz,qo];simp[Sd.b9,jz,qo,n7,r_];rfl)|(simp[Sd.b9,jz,qo,n7,r_];omega)|(unfold Sd.b9;(repeat' split)<;>first|rfl|assumption|omega|(simp_all;done)|(simp_all;omega))
  exact⟨by(rw[ze])<;>rfl,vj.ch⟩
 intro qx;have sf:=ZJ qx;refine mf ?_;refine mf ?_;refine aa (.bool false) ?_;refine aa (.bool false) ?_;refine mf ?_;refine mf ?_;refine mf ?_;refine aa (.bool false) ?_;refine aa (.bool false) ?_;refine au (ae (wp_ret ?_));refine eD rfl (ei [.tmp 6] [.bool false] (.bool false) ⟨bo,trivial⟩) ?_;have ze:Sd.b9 p a b=false:=by first|rfl|(simp[Sd.b9,qx,sf];done)|(simp[Sd.b9,qx,sf];rfl)|(simp[Sd.b9,qx];simp[Sd.b9,qx,sf];done)|(simp[Sd.b9,qx];simp[Sd.b9,qx,sf];rfl)|(simp[Sd.b9,qx,sf];omega)|(unfold Sd.b9;(repeat' split)<;>first|rfl|assumption|omega|(simp_all;done)|(simp_all;omega))
 exact⟨by(rw[ze])<;>rfl,vj.ch⟩
theorem OS (p:Sd.Pol) (ka:Nat->Option Addr) (kn kc:Nat->Nat) (r:Int) (X:V->Prop):∀s:Nat,s<5->jh prog [si] 30 127 [.agg (eJ p ka kn kc),.int .i64 (.ofNat s),.int .i64 r] X=cond (decide (0<=r)) (cond (decide (r<4)) (True/\X (.bool (Sd.has (p.i (9+s)) r))) (X (.bool false))) (X (.bool false))
 |0,_=>by kernel_rfl
 |1,_=>by kernel_rfl
 |2,_=>by kernel_rfl
 |3,_=>by kernel_rfl
 |4,_=>by kernel_rfl
 |n+5,h=>absurd h (by omega)
theorem yc (p:Sd.Pol) (ka:Nat->Option Addr) (kn kc:Nat->Nat) (n:Nat) (r:Int) (X:V->Prop):jh prog [si] 30 127 [.agg (eJ p ka kn kc),.int .i64 (.ofNat (n+5)),.int .i64 r] X=X (.bool false)/\jh prog [si] 30 127 [.agg (eJ p ka kn kc),.int .i64 (.negSucc n),.int .i64 r] X=X (.bool false):=⟨by kernel_rfl,by kernel_rfl⟩
theorem lC {n b:Int} (h:0<=n) (h2:n<b):Sd.below n b=true:=by simp[Sd.below,h,h2]
theorem fj {n b:Int} (h:n<0\/b<=n):Sd.below n b=false:=by simp[Sd.below];omega
theorem abl (p:Sd.Pol) (ka:Nat->Option Addr) (kn kc:Nat->Nat) (s:Int) (r:Int) (w:World):
 ak prog 127 #[.agg (kq p ka kn kc),.int .i64 s,.int .i64 r] w λv w1=>v=.bool (Sd.jW p s r)/\Ch [] w w1:=by
 refine qt (Mz (zV _)) (n:=30) (xs:=[.agg (eJ p ka kn kc),.int .i64 s,.int .i64 r]) (v:=.bool (Sd.jW p s r)) (Hd.h ?_);unfold Sd.jW;cases s with
 |ofNat n=>
  by_cases h:n<5
  ·have e:Sd.below (Int.ofNat n) 5=true:=lC (Int.natCast_nonneg n) (by show(n:Int)<5;omega);refine⟨?_⟩;rw[OS p ka kn kc r _ n h,e];refine aO (λh=>aO (λh'=>?_) λh'=>?_) (λh=>?_)
   ·rw[lC (by simpa using h) (by simpa using h')];exact⟨trivial,rfl⟩
   ·rw[fj (b:=4) (.inr (by simpa using h'))];rfl
   ·rw[fj (b:=4) (.inl (by simpa using h))];rfl
  ·have q:=(yc p ka kn kc (n-5) r (·=.bool (Sd.below (Int.ofNat n) 5&&Sd.below r 4&&Sd.has (p.M6 (Int.ofNat n).toNat) r))).1;rw[show n-5+5=n by omega]at q;refine⟨?_⟩;rw[q,fj (.inr (by show(5:Int)<=(n:Int);omega))];rfl
 |negSucc n=>
  refine⟨?_⟩;rw[(yc p ka kn kc n r _).2,fj (.inl (Int.negSucc_lt_zero n))];rfl
theorem Ve (p:Sd.Pol) (ka:Nat->Option Addr) (kn kc:Nat->Nat) (r:Int) (X:V->Prop):∀s:Nat,s<5->jh prog [si] 30 191 [.agg (eJ p ka kn kc),.int .i64 (.ofNat s),.int .i64 r] X=cond (decide (0<=r)) (cond (decide (r<5)) (True/\X (.bool (Sd.has (p.i (34+s)) r))) (X (.bool false))) (X (.bool false))
 |0,_=>by kernel_rfl
 |1,_=>by kernel_rfl
 |2,_=>by kernel_rfl
 |3,_=>by kernel_rfl
 |4,_=>by kernel_rfl
 |n+5,h=>absurd h (by omega)
theorem Cy (p:Sd.Pol) (ka:Nat->Option Addr) (kn kc:Nat->Nat) (n:Nat) (r:Int) (X:V->Prop):jh prog [si] 30 191 [.agg (eJ p ka kn kc),.int .i64 (.ofNat (n+5)),.int .i64 r] X=X (.bool false)/\jh prog [si] 30 191 [.agg (eJ p ka kn kc),.int .i64 (.negSucc n),.int .i64 r] X=X (.bool false):=⟨by kernel_rfl,by kernel_rfl⟩
theorem afI (p:Sd.Pol) (ka:Nat->Option Addr) (kn kc:Nat->Nat) (a:Int) (b:Int) (w:World):
 ak prog 191 #[.agg (kq p ka kn kc),.int .i64 a,.int .i64 b] w λv w1=>v=.bool (Sd.goes p a b)/\Ch [] w w1:=by
 refine qt (Mz (zV _)) (n:=30) (xs:=[.agg (eJ p ka kn kc),.int .i64 a,.int .i64 b]) (v:=.bool (Sd.goes p a b)) (Hd.h ?_);unfold Sd.goes;cases a with
 |ofNat n=>
  by_cases h:n<5
  ·have e:Sd.below (Int.ofNat n) 5=true:=lC (Int.natCast_nonneg n) (by show(n:Int)<5;omega);refine⟨?_⟩;rw[Ve p ka kn kc b _ n h,e];refine aO (λh=>aO (λh'=>?_) λh'=>?_) (λh=>?_)
   ·rw[lC (by simpa using h) (by simpa using h')];exact⟨trivial,rfl⟩
   ·rw[fj (b:=5) (.inr (by simpa using h'))];rfl
   ·rw[fj (b:=5) (.inl (by simpa using h))];rfl
  ·have q:=(Cy p ka kn kc (n-5) b (·=.bool (Sd.below (Int.ofNat n) 5&&Sd.below b 5&&Sd.has (p.graph (Int.ofNat n).toNat) b))).1;rw[show n-5+5=n by omega]at q;refine⟨?_⟩;rw[q,fj (.inr (by show(5:Int)<=(n:Int);omega))];rfl
 |negSucc n=>
  refine⟨?_⟩;rw[(Cy p ka kn kc n b _).2,fj (.inl (Int.negSucc_lt_zero n))];rfl
theorem abm (p:Sd.Pol) (ka:Nat->Option Addr) (kn kc:Nat->Nat) (c:Int) (X:V->Prop):∀m r:Nat,m<5->r<4->jh prog [si] 30 190 [.agg (eJ p ka kn kc),.int .i64 (.ofNat m),.int .i64 (.ofNat r),.int .i64 c] X=cond (decide (0<=c)) (cond (decide (c<4)) (True/\X (.bool (Sd.has (p.i (14+4*m+r)) c))) (X (.bool false))) (X (.bool false))
 |0,0,_,_=>by kernel_rfl
 |0,1,_,_=>by kernel_rfl
 |0,2,_,_=>by kernel_rfl
 |0,3,_,_=>by kernel_rfl
 |1,0,_,_=>by kernel_rfl
 |1,1,_,_=>by kernel_rfl
 |1,2,_,_=>by kernel_rfl
 |1,3,_,_=>by kernel_rfl
 |2,0,_,_=>by kernel_rfl
 |2,1,_,_=>by kernel_rfl
 |2,2,_,_=>by kernel_rfl
 |2,3,_,_=>by kernel_rfl
 |3,0,_,_=>by kernel_rfl
 |3,1,_,_=>by kernel_rfl
 |3,2,_,_=>by kernel_rfl
 |3,3,_,_=>by kernel_rfl
 |4,0,_,_=>by kernel_rfl
 |4,1,_,_=>by kernel_rfl
 |4,2,_,_=>by kernel_rfl
 |4,3,_,_=>by kernel_rfl
 |n+5,_,h,_=>absurd h (by omega)
 |_,n+4,_,h=>absurd h (by omega)
theorem H8 (p:Sd.Pol) (ka:Nat->Option Addr) (kn kc:Nat->Nat) (n:Nat) (r c:Int) (X:V->Prop):jh prog [si] 30 190 [.agg (eJ p ka kn kc),.int .i64 (.ofNat (n+5)),.int .i64 r,.int .i64 c] X=X (.bool false)/\jh prog [si] 30 190 [.agg (eJ p ka kn kc),.int .i64 (.negSucc n),.int .i64 r,.int .i64 c] X=X (.bool false):=⟨by kernel_rfl,by kernel_rfl⟩
theorem H9 (p:Sd.Pol) (ka:Nat->Option Addr) (kn kc:Nat->Nat) (n:Nat) (c:Int) (X:V->Prop):∀m:Nat,m<5->jh prog [si] 30 190 [.agg (eJ p ka kn kc),.int .i64 (.ofNat m),.int .i64 (.ofNat (n+4)),.int .i64 c] X=X (.bool false)/\jh prog [si] 30 190 [.agg (eJ p ka kn kc),.int .i64 (.ofNat m),.int .i64 (.negSucc n),.int .i64 c] X=X (.bool false)
 |0,_=>⟨by kernel_rfl,by kernel_rfl⟩
 |1,_=>⟨by kernel_rfl,by kernel_rfl⟩
 |2,_=>⟨by kernel_rfl,by kernel_rfl⟩
 |3,_=>⟨by kernel_rfl,by kernel_rfl⟩
 |4,_=>⟨by kernel_rfl,by kernel_rfl⟩
 |n+5,h=>absurd h (by omega)
theorem ai9 (p:Sd.Pol) (ka:Nat->Option Addr) (kn kc:Nat->Nat) (m:Int) (r:Int) (c:Int) (w:World):
 ak prog 190 #[.agg (kq p ka kn kc),.int .i64 m,.int .i64 r,.int .i64 c] w λv w1=>v=.bool (Sd.may p m r c)/\Ch [] w w1:=by
 refine qt (Mz (zV _)) (n:=30) (xs:=[.agg (eJ p ka kn kc),.int .i64 m,.int .i64 r,.int .i64 c]) (v:=.bool (Sd.may p m r c)) (Hd.h ?_);unfold Sd.may;cases m with
 |ofNat n=>
  by_cases h:n<5
  ·have e:Sd.below (Int.ofNat n) 5=true:=lC (Int.natCast_nonneg n) (by show(n:Int)<5;omega);rw[e];cases r with
   |ofNat k=>
    by_cases hk:k<4
    ·have e:Sd.below (Int.ofNat k) 4=true:=lC (Int.natCast_nonneg k) (by show(k:Int)<4;omega);refine⟨?_⟩;rw[abm p ka kn kc c _ n k h hk,e];refine aO (λh=>aO (λh'=>?_) λh'=>?_) (λh=>?_)
     ·rw[lC (by simpa using h) (by simpa using h')];exact⟨trivial,rfl⟩
     ·rw[fj (b:=4) (.inr (by simpa using h'))];rfl
     ·rw[fj (b:=4) (.inl (by simpa using h))];rfl
    ·have q:=(H9 p ka kn kc (k-4) c (·=.bool (true&&Sd.below (Int.ofNat k) 4&&Sd.below c 4&&Sd.has (p.table (Int.ofNat n).toNat (Int.ofNat k).toNat) c)) n h).1;rw[show k-4+4=k by omega]at q;refine⟨?_⟩;rw[q,fj (b:=4) (.inr (by show(4:Int)<=(k:Int);omega))];rfl
   |negSucc k=>
    refine⟨?_⟩;rw[(H9 p ka kn kc k c _ n h).2,fj (b:=4) (.inl (Int.negSucc_lt_zero k))];rfl
  ·have q:=(H8 p ka kn kc (n-5) r c (·=.bool (Sd.below (Int.ofNat n) 5&&Sd.below r 4&&Sd.below c 4&&Sd.has (p.table (Int.ofNat n).toNat r.toNat) c))).1;rw[show n-5+5=n by omega]at q;refine⟨?_⟩;rw[q,fj (b:=5) (.inr (by show(5:Int)<=(n:Int);omega))];rfl
 |negSucc n=>
  refine⟨?_⟩;rw[(H8 p ka kn kc n r c _).2,fj (b:=5) (.inl (Int.negSucc_lt_zero n))];rfl
theorem Vf (p:Sd.Pol) (ka:Nat->Option Addr) (kn kc:Nat->Nat) (X:V->Prop):jh prog [] 30 28 [.agg (eJ p ka kn kc)] X=X (.agg (jc (Sd.Tok.new p))):=by kernel_rfl
theorem Y2 (p:Sd.Pol) (ka:Nat->Option Addr) (kn kc:Nat->Nat) (w:World):
 ak prog 28 #[.agg (kq p ka kn kc)] w λv w1=>v=.agg (gn (Sd.Tok.new p))/\Ch [] w w1:=by
 refine qt aW.nil (n:=30) (xs:=[.agg (eJ p ka kn kc)]) (v:=.agg (jc (Sd.Tok.new p))) ?_;rw[Vf]
def Vg (t:Sd.Tok) (f:Int) (X Y:Prop):Prop:=cond (!decide (t.offer>=0)) X (cond (t.offer !=f) X Y)
theorem zX {t:Sd.Tok} {f:Int} {X Y:Prop} (h:t.offer<0\/t.offer≠f->X) (k:¬(t.offer<0\/t.offer≠f)->Y):Vg t f X Y:=by
 refine aO (λa=>h (.inl (by simpa using a))) (λa=>aO (λb=>h (.inr (by simpa using b))) λb=>k ?_);simp at a b;omega
def grX (t:Sd.Tok) (o:Int) (X:V->Prop):Prop:=cond (decide (o<0)) (X (.aC [.agg (jc t),.int .i64 1])) (cond (decide (o>=5)) (X (.aC [.agg (jc t),.int .i64 1])) (cond (o==t.holder) (X (.aC [.agg (jc t),.int .i64 25]))
 (cond (decide (t.epoch>=65535)) (X (.aC [.agg (jc t),.int .i64 24])) (X (.aC [.agg (jc (t.pass o (i64.wrap (t.epoch+1)))),.int .i64 0])))))
theorem abn (t:Sd.Tok) (f e:Int) (X:V->Prop):jh prog [] 30 178 [.agg (jc t),.int .i64 f,.int .i64 e] X=Vg t f (X (.aC [.agg (jc t),.int .i64 28])) (cond (e !=t.epoch) (X (.aC [.agg (jc t),.int .i64 21])) (grX t f X)):=by kernel_rfl
theorem abo {t:Sd.Tok} (eZ:-9223372036854775808<=t.epoch/\t.epoch<=9223372036854775807) (o:Int):grX t o (·=.aC [.agg (jc (t.bA o).1),.int .i64 (t.bA o).2]):=by
 unfold grX Sd.Tok.bA;refine aO (λh=>by rw[if_pos (.inl (by simpa using h))]) (λh=>aO (λh'=>by rw[if_pos (.inr (by simpa using h'))]) λh'=>?_);have h1:¬(o<0\/5<=o):=by simp at h h';omega
 rw[if_neg h1];refine aO (λh=>by rw[if_pos (by simpa using h)]) (λh=>?_);rw[if_neg (by simpa using h)];refine aO (λh=>by rw[if_pos (by simpa using h)]) (λh=>?_);have h2:¬65535<=t.epoch:=by simpa using h
 rw[if_neg h2,iw (by omega)]
theorem ai_ (t:Sd.Tok) (f:Int) (e:Int) (eZ:-9223372036854775808<=t.epoch/\t.epoch<=9223372036854775807) (w:World):
 ak prog 178 #[.agg (gn t),.int .i64 f,.int .i64 e] w λv w1=>v=.tuple #[.agg (gn ((Sd.Tok.accept t f e).1)),.int .i64 ((Sd.Tok.accept t f e).2)]/\Ch [] w w1:=by
 refine qt aW.nil (n:=30) (xs:=[.agg (jc t),.int .i64 f,.int .i64 e]) (v:=.aC [.agg (jc (t.accept f e).1),.int .i64 (t.accept f e).2]) ?_;rw[abn];unfold Sd.Tok.accept;refine zX (λh=>by rw[if_pos h]) (λh=>?_);rw[if_neg h];refine aO (λh=>by rw[if_pos (by simpa using h)]) (λh=>?_);rw[if_neg (by simpa using h)];exact abo eZ f
theorem Vh (t:Sd.Tok) (f:Int) (X:V->Prop):jh prog [zen] 30 179 [.agg (jc t),.int .i64 f] X=Vg t f (X (.aC [.agg (jc t),.int .i64 28])) (True/\X (.aC [.agg (jc t.bG),.int .i64 0])):=by kernel_rfl
theorem afJ (t:Sd.Tok) (f:Int) (w:World):
 ak prog 179 #[.agg (gn t),.int .i64 f] w λv w1=>v=.tuple #[.agg (gn ((Sd.Tok.fb t f).1)),.int .i64 ((Sd.Tok.fb t f).2)]/\Ch [] w w1:=by
 refine qt (Mz (OQ _)) (n:=30) (xs:=[.agg (jc t),.int .i64 f]) (v:=.aC [.agg (jc (t.fb f).1),.int .i64 (t.fb f).2]) ?_;rw[Vh];unfold Sd.Tok.fb;exact zX (λh=>by rw[if_pos h]) (λh=>⟨trivial,by rw[if_neg h]⟩)
theorem OT (t:Sd.Tok) (f:Int) (X:V->Prop):jh prog [zen] 30 105 [.agg (jc t),.int .i64 f] X=Vg t f (X (.aC [.agg (jc t),.bool false])) (True/\X (.aC [.agg (jc t.bG),.bool true])):=by kernel_rfl
theorem abp (t:Sd.Tok) (s:Int) (w:World):
 ak prog 105 #[.agg (gn t),.int .i64 s] w λv w1=>v=.tuple #[.agg (gn ((Sd.Tok.drop t s).1)),.bool ((Sd.Tok.drop t s).2)]/\Ch [] w w1:=by
 refine qt (Mz (OQ _)) (n:=30) (xs:=[.agg (jc t),.int .i64 s]) (v:=.aC [.agg (jc (t.drop s).1),.bool (t.drop s).2]) ?_;rw[OT];unfold Sd.Tok.drop;exact zX (λh=>by rw[if_pos h]) (λh=>⟨trivial,by rw[if_neg h]⟩)
theorem abq (t:Sd.Tok) (Cz:-9223372036854775808<=t.oa.n/\t.oa.n<=9223372036854775807) (tf:-9223372036854775808<=t.oa.most/\t.oa.most<=9223372036854775807) (w:World):
 ak prog 66 #[.agg (gn t)] w λv w1=>v=.tuple #[.agg (gn ((Sd.Tok.tick t).1)),.int .i64 ((Sd.Tok.tick t).2)]/\Ch [] w w1:=by
 have S0:=St.nil [] w;refine ct Tryz.func66 rfl ?_;refine ao (aw ?_);refine cq S0 (λb=>.pointer (some ⟨b,0,none⟩)) (.cells (gn t) 88) ?_;intro bQ lU fm;refine cq fm (λb=>.pointer (some ⟨b,0,none⟩)) (.cells #[.int .i64 0,.int .i64 0,.int .i64 0,.int .i64 0,.int .i64 0,.int .i64 0,.int .i64 0,.bool false] 88) ?_;intro fF uc eI;refine aa (.int .i64 0) ?_;refine au (ae (ao (ao (aw ?_))));refine c_ eI 1 8 (gn t) bQ 0 ?_;refine cd 106 #[.agg (gn t)] ?_;refine(open_ t _).mono ?_;rintro _ YL ⟨rfl,Ej⟩;have nW:=eI.quiet Ej;refine aa (.bool (!(decide (0<=t.offer)))) ?_;refine au (ae ?_);refine jl (!(decide (0<=t.offer))) ?_ ?_
 ·intro jy;have iI:=MJ jy;have rZ:=aed iI;refine ao (aw ?_);refine c_ nW 1 8 (gn t) bQ 0 ?_;refine store_ nW 0 (.agg (gn t)) fF 0 ?_;intro UY ja;refine aa (.int .i64 (-1)) ?_;refine au (ae (wp_ret (oE ?_)));refine eD rfl (ei [.cell 2 88,.tmp 3] [.agg (gn t),.int .i64 (-1)] (.tuple #[.agg (gn t),.int .i64 (-1)]) ⟨bh ja 0 8 fF 0,bo,trivial⟩) ?_;have ze:Sd.Tok.tick t=(t,(-1)):=by first|rfl|(simp[Sd.Tok.tick,jy,iI];done)|(simp[Sd.Tok.tick,jy,iI];rfl)|(simp[Sd.Tok.tick,jy,iI];simp[Sd.Tok.tick,jy,iI];done)|(simp[Sd.Tok.tick,jy,iI];simp[Sd.Tok.tick,jy,iI];rfl)|(simp[Sd.Tok.tick,jy,iI];omega)|(unfold Sd.Tok.tick;(repeat' split)<;>first|rfl|assumption|omega|(simp_all;done)|(simp_all;omega))
  exact⟨by(rw[ze])<;>rfl,ja.ch⟩
 intro lB;have jb:=MK lB;have J5:=aec jb;refine wp_skip (ae (ao (aw ?_)));refine aa (.pointer (some ⟨bQ,3,none⟩)) ?_;refine c_ nW 1 2 (zU t.oa) bQ 3 ?_;refine cd 107 #[.agg (zU t.oa)] ?_;refine(Y0 t.oa (by omega) (by omega) _).mono ?_;rintro _ zI ⟨rfl,tM⟩;have nV:=nW.quiet tM;refine aa (.pointer (some ⟨bQ,3,none⟩)) ?_;refine store_ nV 1 (.agg (zU (Sd.Timer.step t.oa))) bQ 3 ?_;intro abr xz;refine au (ae (ao (ao (aw ?_))));refine aa (.pointer (some ⟨bQ,3,none⟩)) ?_;refine c_ xz 1 2 (zU (Sd.Timer.step t.oa)) bQ 3 ?_;refine cd 108 #[.agg (zU (Sd.Timer.step t.oa))] ?_;refine(afG (Sd.Timer.step t.oa) _).mono ?_;rintro _ aeV ⟨rfl,vg⟩;have lA:=xz.quiet vg;refine aa (.bool (!(Sd.Timer.due (Sd.Timer.step t.oa)))) ?_;refine au (ae ?_);refine jl (!(Sd.Timer.due (Sd.Timer.step t.oa))) ?_ ?_
 ·intro sh;have iJ:=MJ sh;have nX:=aed iJ;refine ao (aw ?_);refine c_ lA 1 8 #[.int .i64 t.holder,.int .i64 t.epoch,.int .i64 t.offer,.int .i64 (Sd.Timer.step t.oa).n,.int .i64 (Sd.Timer.step t.oa).most,.int .i64 t.la.n,.int .i64 t.la.most,.bool t.bad] bQ 0 ?_;refine store_ lA 0 (.agg #[.int .i64 t.holder,.int .i64 t.epoch,.int .i64 t.offer,.int .i64 (Sd.Timer.step t.oa).n,.int .i64 (Sd.Timer.step t.oa).most,.int .i64 t.la.n,.int .i64 t.la.most,.bool t.bad]) fF 0 ?_;intro Ki Fc;refine aa (.int .i64 (-1)) ?_;refine au (ae (wp_ret (oE ?_)));refine eD rfl (ei [.cell 2 88,.tmp 3] [.agg #[.int .i64 t.holder,.int .i64 t.epoch,.int .i64 t.offer,.int .i64 (Sd.Timer.step t.oa).n,.int .i64 (Sd.Timer.step t.oa).most,.int .i64 t.la.n,.int .i64 t.la.most,.bool t.bad],.int .i64 (-1)] (.tuple #[.agg #[.int .i64 t.holder,.int .i64 t.epoch,.int .i64 t.offer,.int .i64 (Sd.Timer.step t.oa).n,.int .i64 (Sd.Timer.step t.oa).most,.int .i64 t.la.n,.int .i64 t.la.most,.bool t.bad],.int .i64 (-1)]) ⟨bh Fc 0 8 fF 0,bo,trivial⟩) ?_;have ze:Sd.Tok.tick t=((⟨t.holder,t.epoch,t.offer,(Sd.Timer.step t.oa),t.la,t.bad⟩:Sd.Tok),(-1)):=by first|rfl|(simp[Sd.Tok.tick,lB,jb,sh,iJ];done)|(simp[Sd.Tok.tick,lB,jb,sh,iJ];rfl)|(simp[Sd.Tok.tick,lB,jb,sh,iJ];simp[Sd.Tok.tick,lB,jb,sh,iJ];done)|(simp[Sd.Tok.tick,lB,jb,sh,iJ];simp[Sd.Tok.tick,lB,jb,sh,iJ];rfl)|(simp[Sd.Tok.tick,lB,jb,sh,iJ];omega)|(unfold Sd.Tok.tick;(repeat' split)<;>first|rfl|assumption|omega|(simp_all;done)|(simp_all;omega))
  exact⟨by(rw[ze])<;>rfl,Fc.ch⟩
 intro qn;have nZ:=MK qn;have Cs:=aec nZ;refine wp_skip (ae (ao ?_));have zD:=lA.Yv 0 0 8 (b:=fF) (by kernel_rfl);refine Hp lA 5 4 0 fF 0 [] (.agg (gn (Sd.Tok.bG (⟨t.holder,t.epoch,t.offer,(Sd.Timer.step t.oa),t.la,t.bad⟩:Sd.Tok)))) [.agg #[.int .i64 t.holder,.int .i64 t.epoch,.int .i64 t.offer,.int .i64 (Sd.Timer.step t.oa).n,.int .i64 (Sd.Timer.step t.oa).most,.int .i64 t.la.n,.int .i64 t.la.most,.bool t.bad],.agg (gn (Sd.Tok.bG (⟨t.holder,t.epoch,t.offer,(Sd.Timer.step t.oa),t.la,t.bad⟩:Sd.Tok))),.pointer (some ⟨bQ,2,none⟩),.int .i64 t.offer,undef] [[5,0],[5,1],[5,2],[5,3],[5,4]] (aJ (eN_ zD 0 bQ 0 8 #[.int .i64 t.holder,.int .i64 t.epoch,.int .i64 t.offer,.int .i64 (Sd.Timer.step t.oa).n,.int .i64 (Sd.Timer.step t.oa).most,.int .i64 t.la.n,.int .i64 t.la.most,.bool t.bad]) (aJ (eC_ 109 #[.agg #[.int .i64 t.holder,.int .i64 t.epoch,.int .i64 t.offer,.int .i64 (Sd.Timer.step t.oa).n,.int .i64 (Sd.Timer.step t.oa).most,.int .i64 t.la.n,.int .i64 t.la.most,.bool t.bad]] (OO (⟨t.holder,t.epoch,t.offer,(Sd.Timer.step t.oa),t.la,t.bad⟩:Sd.Tok))) (aJ Mr (aJ (eL_ zD 0 bQ 2) (aJ (eW_ lA 0 (.agg (gn (Sd.Tok.bG (⟨t.holder,t.epoch,t.offer,(Sd.Timer.step t.oa),t.la,t.bad⟩:Sd.Tok)))) fF 0) (nh)))))) ?_;intro aja Cr;refine aa (.int .i64 t.offer) ?_;refine au (ae (wp_ret ?_));refine eD rfl (ei [.cell 2 88,.tmp 3] [.agg (gn (Sd.Tok.bG (⟨t.holder,t.epoch,t.offer,(Sd.Timer.step t.oa),t.la,t.bad⟩:Sd.Tok))),.int .i64 t.offer] (.tuple #[.agg (gn (Sd.Tok.bG (⟨t.holder,t.epoch,t.offer,(Sd.Timer.step t.oa),t.la,t.bad⟩:Sd.Tok))),.int .i64 t.offer]) ⟨bh Cr 0 8 fF 0,bo,trivial⟩) ?_;have ze:Sd.Tok.tick t=((Sd.Tok.bG (⟨t.holder,t.epoch,t.offer,(Sd.Timer.step t.oa),t.la,t.bad⟩:Sd.Tok)),t.offer):=by first|rfl|(simp[Sd.Tok.tick,lB,jb,qn,nZ];done)|(simp[Sd.Tok.tick,lB,jb,qn,nZ];rfl)|(simp[Sd.Tok.tick,lB,jb,qn,nZ];simp[Sd.Tok.tick,lB,jb,qn,nZ];done)|(simp[Sd.Tok.tick,lB,jb,qn,nZ];simp[Sd.Tok.tick,lB,jb,qn,nZ];rfl)|(simp[Sd.Tok.tick,lB,jb,qn,nZ];omega)|(unfold Sd.Tok.tick;(repeat' split)<;>first|rfl|assumption|omega|(simp_all;done)|(simp_all;omega))
 exact⟨by(rw[ze])<;>rfl,Cr.ch⟩
theorem Vi (p:Sd.Pol) (ka:Nat->Option Addr) (kn kc:Nat->Nat) (t:Sd.Tok) (f o:Int) (th:Bool) (X:V->Prop):jh prog [zst] 30 177 [.agg (eJ p ka kn kc),.agg (jc t),.int .i64 f,.int .i64 o,.bool th] X=
 let r:Int->Prop:=λn=>X (.aC [.agg (jc t),.int .i64 n])
 cond (f !=t.holder) (r 20) (cond (decide (t.epoch>=65535)) (r 24) (cond (o==f) (r 25) (cond (decide (o<1)) (r 2) (cond (decide (o>3)) (r 2) (cond (!th) (r 2) (cond (decide (t.offer>=0)) (r 28) (True/\X (.aC [.agg (jc {t with offer:=o,oa:=⟨0,if 0>p.i 44 then 0 else p.i 44⟩}),.int .i64 0])))))))):=by kernel_rfl
theorem afK (p:Sd.Pol) (ka:Nat->Option Addr) (kn kc:Nat->Nat) (t:Sd.Tok) (f:Int) (o:Int) (th:Bool) (hp:Sd.cJ p) (w:World):
 ak prog 177 #[.agg (kq p ka kn kc),.agg (gn t),.int .i64 f,.int .i64 o,.bool th] w λv w1=>v=.tuple #[.agg (gn ((Sd.Tok.make p t f o th).1)),.int .i64 ((Sd.Tok.make p t f o th).2)]/\Ch [] w w1:=by
 refine qt (Mz (abj _)) (n:=30) (xs:=[.agg (eJ p ka kn kc),.agg (jc t),.int .i64 f,.int .i64 o,.bool th]) (v:=.aC [.agg (jc (t.make p f o th).1),.int .i64 (t.make p f o th).2]) ?_;rw[Vi];unfold Sd.Tok.make;refine aO (λh=>by rw[if_pos (by simpa using h)]) (λh=>?_);rw[if_neg (by simpa using h)];refine aO (λh=>by rw[if_pos (by simpa using h)]) (λh=>?_);rw[if_neg (by simpa using h)];refine aO (λh=>by rw[if_pos (by simpa using h)]) (λh=>?_);rw[if_neg (by simpa using h)];refine aO (λh=>by rw[if_pos (.inl (by simpa using h))]) (λh1=>?_);refine aO (λh=>by rw[if_pos (.inr (.inl (by simpa using h)))]) (λh2=>?_);refine aO (λh=>by rw[if_pos (.inr (.inr (by simpa using h)))]) (λh3=>?_);rw[if_neg (by simp at h1 h2 h3;rw[h3];simp;omega)];refine aO (λh=>by rw[if_pos (by simpa using h)]) (λh=>?_);rw[if_neg (show¬0<=t.offer by simpa using h),mM];exact⟨trivial,rfl⟩
def clX (p:Sd.Pol) (c:Nat) (n:Int):Int:=Sd.og n (i64.wrap (0-p.i (50+c))) (p.i (50+c))
theorem Vj (p:Sd.Pol) (ka:Nat->Option Addr) (kn kc:Nat->Nat) (pt:Sd.Point) (y:Sd.X4) (b:Sd.Label) (X:V->Prop):∀c:Nat,c<4->jh prog [zcl] 30 150 [.agg (eJ p ka kn kc),.agg (xg pt),.int .i64 (.ofNat c),.agg (OJ y),.agg (U8 b)] X=(True/\True/\True/\True/\X (.agg (xg ⟨.ofNat c,y.map (clX p c),pt.now,b⟩)))
 |0,_=>by kernel_rfl
 |1,_=>by kernel_rfl
 |2,_=>by kernel_rfl
 |3,_=>by kernel_rfl
 |n+4,h=>absurd h (by omega)
theorem CA (p:Sd.Pol) (ka:Nat->Option Addr) (kn kc:Nat->Nat) (pt:Sd.Point) (y:Sd.X4) (b:Sd.Label) (n:Nat) (X:V->Prop):jh prog [zcl] 30 150 [.agg (eJ p ka kn kc),.agg (xg pt),.int .i64 (.ofNat (n+4)),.agg (OJ y),.agg (U8 b)] X=cond (decide (Int.ofNat (n+4)>=4)) (X (.agg (xg ⟨.ofNat (n+4),.zero,pt.now,b⟩))) False/\
 jh prog [zcl] 30 150 [.agg (eJ p ka kn kc),.agg (xg pt),.int .i64 (.negSucc n),.agg (OJ y),.agg (U8 b)] X=cond (decide (Int.negSucc n<0)) (X (.agg (xg ⟨.negSucc n,.zero,pt.now,b⟩))) False:=⟨by kernel_rfl,by kernel_rfl⟩
theorem afL (p:Sd.Pol) (ka:Nat->Option Addr) (kn kc:Nat->Nat) (pt:Sd.Point) (c:Int) (y:Sd.X4) (b:Sd.Label) (hp:Sd.cJ p) (w:World):
 ak prog 150 #[.agg (kq p ka kn kc),.agg (ptC pt),.int .i64 c,.agg (x4C y),.agg (afD b)] w λv w1=>v=.agg (ptC (Sd.Point.set p pt c y b))/\Ch [] w w1:=by
 cases c with
 |ofNat n=>
  by_cases h:n<4
  ·refine qt (Mz (Fb _)) (n:=30) (xs:=[.agg (eJ p ka kn kc),.agg (xg pt),.int .i64 (.ofNat n),.agg (OJ y),.agg (U8 b)]) (v:=.agg (xg ⟨.ofNat n,y.map (clX p n),pt.now,b⟩)) ?_ (by kernel_rfl) ?_
   ·rw[Vj p ka kn kc pt y b _ n h];exact⟨trivial,trivial,trivial,trivial,rfl⟩
   ·unfold Sd.Point.set;rw[if_neg (by show¬((n:Int)<0\/4<=(n:Int));omega)];have hm:=hp.most n h;unfold Sd.Pol.most at hm;have e:clX p n=λx=>Sd.og x (-(p.most (Int.ofNat n).toNat)) (p.most (Int.ofNat n).toNat):=by
     funext x;unfold clX;rw[iw (by omega),Int.zero_sub];rfl
    rw[e];rfl
  ·refine qt (Mz (Fb _)) (n:=30) (xs:=[.agg (eJ p ka kn kc),.agg (xg pt),.int .i64 (.ofNat n),.agg (OJ y),.agg (U8 b)]) (v:=.agg (xg ⟨.ofNat n,.zero,pt.now,b⟩)) ?_ (by kernel_rfl) ?_
   ·have q:=(CA p ka kn kc pt y b (n-4) (·=.agg (xg ⟨.ofNat n,.zero,pt.now,b⟩))).1;rw[show n-4+4=n by omega]at q;rw[q];exact aO (λ_=>rfl) λh=>absurd (of_decide_eq_false h) (by show¬¬(n:Int)>=4;omega)
   ·unfold Sd.Point.set;rw[if_pos (.inr (by show(4:Int)<=(n:Int);omega))];rfl
 |negSucc n=>
  refine qt (Mz (Fb _)) (n:=30) (xs:=[.agg (eJ p ka kn kc),.agg (xg pt),.int .i64 (.negSucc n),.agg (OJ y),.agg (U8 b)]) (v:=.agg (xg ⟨.negSucc n,.zero,pt.now,b⟩)) ?_ (by kernel_rfl) ?_
  ·rw[(CA p ka kn kc pt y b n _).2];exact aO (λ_=>rfl) λh=>absurd (of_decide_eq_false h) (by have:=Int.negSucc_lt_zero n;omega)
  ·unfold Sd.Point.set;rw[if_pos (.inl (Int.negSucc_lt_zero n))];rfl
theorem Vk (pt:Sd.Point) (b:Sd.Label) (X:V->Prop):jh prog [] 30 154 [.agg (xg pt),.agg (U8 b)] X=X (.agg (xg (pt.hold b))):=by kernel_rfl
theorem afM (pt:Sd.Point) (b:Sd.Label) (w:World):
 ak prog 154 #[.agg (ptC pt),.agg (afD b)] w λv w1=>v=.agg (ptC (Sd.Point.hold pt b))/\Ch [] w w1:=by
 refine qt aW.nil (n:=30) (xs:=[.agg (xg pt),.agg (U8 b)]) (v:=.agg (xg (pt.hold b))) ?_;rw[Vk]
def byX (a m:Int) (X:V->Prop) (Y:Prop):Prop:=cond (decide (a<i64.wrap (0-m))) (X (.bool true)) (cond (decide (a>m)) (X (.bool true)) Y)
theorem afN (m:Int) (y:Sd.X4) (X:V->Prop):jh prog [] 30 147 [.int .i64 m,.agg (OJ y)] X=byX y.a m X (byX y.b m X (byX y.c m X (byX y.d m X (X (.bool false))))):=by kernel_rfl
theorem zY {a m:Int} (hm:0<=m/\m<=1000) {b:Bool} {Y:Prop} (h:a< -m\/m<a->b=true) (k:¬(a< -m\/m<a)->Y):byX a m (·=.bool b) Y:=by
 unfold byX;rw[iw (by omega),Int.zero_sub];refine aO (λx=>by rw[h (.inl (by simpa using x))]) (λx=>aO (λz=>by rw[h (.inr (by simpa using z))]) λz=>k ?_);simp at x z;omega
theorem H_ (m:Int) (y:Sd.X4) (hm:0<=m/\m<=1000) (w:World):
 ak prog 147 #[.int .i64 m,.agg (x4C y)] w λv w1=>v=.bool (Sd.MT m y)/\Ch [] w w1:=by
 refine qt aW.nil (n:=30) (xs:=[.int .i64 m,.agg (OJ y)]) (v:=.bool (Sd.MT m y)) ?_;rw[afN];unfold Sd.MT;refine zY hm (λh=>by simp[h]) λh1=>zY hm (λh=>by simp[h]) λh2=>zY hm (λh=>by simp[h]) λh3=>zY hm (λh=>by simp[h]) λh4=>?_;congr 1;simp;omega
theorem abt (gl:Nat->Option Nat):zby.Ok prog gl:=by
 intro args bl p_ v_ h hp ids w _ _;unfold zby at h;dsimp only at h;split at h
 ·rename_i m a b c d;simp only[Option.some.injEq,Prod.mk.injEq]at h;obtain⟨rfl,rfl⟩:=h;exact told (H_ m ⟨a,b,c,d⟩ hp w)
 ·cases h
def smV (s:Sd.dq):List V:=.bool s.valid::(OJ s.x++[.bool s.ED])
theorem abu (p:Sd.Pol) (ka:Nat->Option Addr) (kn kc:Nat->Nat) (r:Int) (s:Sd.dq) (X:V->Prop):jh prog [zby] 30 96 [.agg (eJ p ka kn kc),.int .i64 r,.agg (smV s)] X=
 let m:Int:=if 0>r then 0 else r
 cond (!s.valid) (X (.aC [.int .i64 0,.bool false])) ((0<=p.i 47/\p.i 47<=1000)/\cond (!Sd.MT (p.i 47) s.x) (X (.aC [.int .i64 0,.bool false])) (cond (decide (m<p.i 46)) (X (.aC [.int .i64 (i64.wrap (m+1)),.bool (decide (i64.wrap (m+1)>=p.i 46))])) (X (.aC [.int .i64 (p.i 46),.bool (decide (p.i 46>=p.i 46))])))):=by kernel_rfl
theorem ajb (p:Sd.Pol) (ka:Nat->Option Addr) (kn kc:Nat->Nat) (r:Int) (s:Sd.dq) (hp:Sd.cJ p) (h_r:-9223372036854775808<=r/\r<=9223372036854775807) (w:World):
 ak prog 96 #[.agg (kq p ka kn kc),.int .i64 r,.agg (ai7 s)] w λv w1=>v=.tuple #[.int .i64 ((Sd.oh p r s).1),.bool ((Sd.oh p r s).2)]/\Ch [] w w1:=by
 refine qt (Mz (abt _)) (n:=30) (xs:=[.agg (eJ p ka kn kc),.int .i64 r,.agg (smV s)]) (v:=.aC [.int .i64 (Sd.oh p r s).1,.bool (Sd.oh p r s).2]) ?_;rw[abu];have hb:=hp.beyond;have hs:=hp.oe;unfold Sd.Pol.beyond at hb;unfold Sd.Pol.oe at hs;have em:(if 0>r then 0 else r)=max r 0:=by by_cases h:0>r<;>simp[h]<;>omega
 rw[em];unfold Sd.oh Sd.Pol.beyond Sd.Pol.oe;refine aO (λh=>by rw[if_pos (.inl (by simpa using h))]) (λh=>⟨hb,aO (λh'=>by rw[if_pos (.inr (by simpa using h'))]) λh'=>?_⟩);rw[if_neg (by simp at h h';simp[h,h'])];unfold Sd.sat;refine aO (λh=>?_) (λh=>?_)
 ·have h:max r 0<p.i 46:=by simpa using h
  rw[if_pos h,iw (by omega)]
 ·rw[if_neg (by simpa using h)]
theorem OU (p:Sd.Pol) (ka:Nat->Option Addr) (kn kc:Nat->Nat) (pt:Sd.Point) (X:V->Prop):jh prog [ztw] 30 70 [.agg (eJ p ka kn kc),.agg (xg pt)] X=
 let n:Sd.X4:=Sd.X4.zip (λa b=>Sd.iF a b (p.i 54)) pt.now pt.bZ
 ((aB pt.now.a/\aB pt.bZ.a/\aB (p.i 54))/\(aB pt.now.b/\aB pt.bZ.b/\aB (p.i 54))/\(aB pt.now.c/\aB pt.bZ.c/\aB (p.i 54))/\(aB pt.now.d/\aB pt.bZ.d/\aB (p.i 54))/\
   cond (!(n.a==pt.now.a&&(n.b==pt.now.b&&(n.c==pt.now.c&&(n.d==pt.now.d&&true))))) (X (.agg (xg ⟨pt.cls,pt.bZ,n,{pt.eo with l5:=4}⟩))) (X (.agg (xg ⟨pt.cls,pt.bZ,n,pt.eo⟩)))):=by kernel_rfl
theorem abv (p:Sd.Pol) (ka:Nat->Option Addr) (kn kc:Nat->Nat) (pt:Sd.Point) (hp:Sd.cJ p) (oT:-9223372036854775808<=pt.bZ.a/\pt.bZ.a<=9223372036854775807) (oU:-9223372036854775808<=pt.bZ.b/\pt.bZ.b<=9223372036854775807) (oV:-9223372036854775808<=pt.bZ.c/\pt.bZ.c<=9223372036854775807) (oW:-9223372036854775808<=pt.bZ.d/\pt.bZ.d<=9223372036854775807) (oX:-9223372036854775808<=pt.now.a/\pt.now.a<=9223372036854775807) (oY:-9223372036854775808<=pt.now.b/\pt.now.b<=9223372036854775807) (oZ:-9223372036854775808<=pt.now.c/\pt.now.c<=9223372036854775807) (o8:-9223372036854775808<=pt.now.d/\pt.now.d<=9223372036854775807) (w:World):
 ak prog 70 #[.agg (kq p ka kn kc),.agg (ptC pt)] w λv w1=>v=.agg (ptC (Sd.Point.step p pt))/\Ch [] w w1:=by
 refine qt (Mz (abi _)) (n:=30) (xs:=[.agg (eJ p ka kn kc),.agg (xg pt)]) (v:=.agg (xg (pt.step p))) ?_;rw[OU];have hr:=hp.Jw;unfold Sd.Pol.Jw at hr;have hr:aB (p.i 54):=by unfold aB;omega
 refine⟨⟨oX,oT,hr⟩,⟨oY,oU,hr⟩,⟨oZ,oV,hr⟩,⟨o8,oW,hr⟩,?_⟩;have e:Sd.Point.step p pt=⟨pt.cls,pt.bZ,Sd.X4.zip (λa b=>Sd.iF a b (p.i 54)) pt.now pt.bZ,if Sd.X4.zip (λa b=>Sd.iF a b (p.i 54)) pt.now pt.bZ=pt.now then pt.eo else{pt.eo with l5:=4}⟩:=rfl;rw[e];generalize Sd.X4.zip (λa b=>Sd.iF a b (p.i 54)) pt.now pt.bZ=n;refine aO (λh=>?_) (λh=>?_)
 ·rw[if_neg];intro h2;rw[h2]at h;simp at h
 ·rw[if_pos];rcases n with⟨n1,n2,n3,n4⟩;rcases pt with⟨q,u,⟨m1,m2,m3,m4⟩,l⟩;simp at h;simp[h]
end Go.Proofs.YtlkpikfddnjilaaGreatDoor
