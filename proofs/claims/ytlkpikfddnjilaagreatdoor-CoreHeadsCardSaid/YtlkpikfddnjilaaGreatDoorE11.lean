/- Part 11 of the proof. -/
import Derived.Test.YtlkpikfddnjilaaGreatDoorProg
import Derived.Test.YtlkpikfddnjilaaGreatDoorE7
set_option linter.all false
set_option maxRecDepth 100000
set_option maxHeartbeats 4000000
open Go.Proofs.Tryz
open Go.IntKind (u8 u16 u32 u64 i64)
namespace Go.Proofs.YtlkpikfddnjilaaGreatDoor
open Go Go.RowKit Go.BigFrame Sx Vx
def kG (p:Sd.Pol) (ka:Nat->Option Addr) (kn kc:Nat->Nat):Array Value:=#[.int .i64 (p.i 0),.int .i64 (p.i 1),.int .i64 (p.i 2),.int .i64 (p.i 3),.int .i64 (p.i 4),.slice (ka 0) (kn 0) (kc 0),.slice (ka 1) (kn 1) (kc 1),.slice (ka 2) (kn 2) (kc 2),.slice (ka 3) (kn 3) (kc 3),.int .i64 (p.i 9),.int .i64 (p.i 10),.int .i64 (p.i 11),.int .i64 (p.i 12),.int .i64 (p.i 13),.int .i64 (p.i 14),.int .i64 (p.i 15),.int .i64 (p.i 16),.int .i64 (p.i 17),.int .i64 (p.i 18),.int .i64 (p.i 19),.int .i64 (p.i 20),.int .i64 (p.i 21),.int .i64 (p.i 22),.int .i64 (p.i 23),.int .i64 (p.i 24),.int .i64 (p.i 25),.int .i64 (p.i 26),.int .i64 (p.i 27),.int .i64 (p.i 28),.int .i64 (p.i 29),.int .i64 (p.i 30),.int .i64 (p.i 31),.int .i64 (p.i 32),.int .i64 (p.i 33),.int .i64 (p.i 34),.int .i64 (p.i 35),.int .i64 (p.i 36),.int .i64 (p.i 37),.int .i64 (p.i 38),.int .i64 (p.i 39),.int .i64 (p.i 40),.int .i64 (p.i 41),.int .i64 (p.i 42),.int .i64 (p.i 43),.int .i64 (p.i 44),.int .i64 (p.i 45),.int .i64 (p.i 46),.int .i64 (p.i 47),.int .i64 (p.i 48),.int .i64 (p.i 49),.int .i64 (p.i 50),.int .i64 (p.i 51),.int .i64 (p.i 52),.int .i64 (p.i 53),.int .i64 (p.i 54),.int .i64 (p.i 55)]
def zj (t:Sd.Timer):Array Value:=#[.int .i64 t.n,.int .i64 t.most]
def x4C (t:Sd.X4):Array Value:=#[.int .i64 t.a,.int .i64 t.b,.int .i64 t.c,.int .i64 t.d]
def adJ (t:Sd.Label):Array Value:=#[.int .i64 t.mi,.int .i64 t.source,.int .i64 t.seq]
def gC (t:Sd.Tok):Array Value:=#[.int .i64 t.holder,.int .i64 t.epoch,.int .i64 t.offer,.int .i64 t.oa.n,.int .i64 t.oa.most,.int .i64 t.la.n,.int .i64 t.la.most,.bool t.bad]
def ptC (t:Sd.Point):Array Value:=#[.int .i64 t.cls,.int .i64 t.cg.a,.int .i64 t.cg.b,.int .i64 t.cg.c,.int .i64 t.cg.d,.int .i64 t.now.a,.int .i64 t.now.b,.int .i64 t.now.c,.int .i64 t.now.d,.int .i64 t.eJ.mi,.int .i64 t.eJ.source,.int .i64 t.eJ.seq]
def agP (t:Sd.dM):Array Value:=#[.bool t.valid,.int .i64 t.x.a,.int .i64 t.x.b,.int .i64 t.x.c,.int .i64 t.x.d,.bool t.D0]
def iW (t:Sd.de):Array Value:=#[.bool t.any,.int .i64 t.high,.int .u64 t.seen]
def Tr (t:Sd.Ask):Array Value:=#[.int .i64 t.source,.int .i64 t.aU,.int .i64 t.gF.n,.int .i64 t.gF.most]
def recC (t:Sd.Rec):Array Value:=#[.int .i64 t.kind,.int .i64 t.source,.int .i64 t.seq,.int .i64 t.epoch,.int .i64 t.code,.int .i64 t.how]
theorem Zs (s i:Int) (h0:0<=s) (h1:0<=i) (h2:i<=62):((Int.fdiv s (2^(min (i).toNat 64)))%2==1)=Sd.has s i:=by
 have e:min i.toNat 64=i.toNat:=by omega
 have h3:(0:Int)<=2^i.toNat:=Int.le_of_lt (Int.pow_pos (by omega));rw[e,Int.fdiv_eq_ediv_of_nonneg _ h3];simp[Sd.has,h0,h1,h2];exact Bool.eq_iff_iff.2 (by simp)
def eS (p:Sd.Pol) (ka:Nat->Option Addr) (kn kc:Nat->Nat):List V:=(List.range 56).map λo=>bif Nat.ble 5 o&&Nat.ble o 8 then .raw (.slice (ka (o-5)) (kn (o-5)) (kc (o-5)))else .int .i64 (p.i o)
def RD (n m:Int):List V:=[.int .i64 n,.int .i64 m]
def jl (t:Sd.Tok):List V:=[.int .i64 t.holder,.int .i64 t.epoch,.int .i64 t.offer,.int .i64 t.oa.n,.int .i64 t.oa.most,.int .i64 t.la.n,.int .i64 t.la.most,.bool t.bad]
def Nm (x:Sd.X4):List V:=[.int .i64 x.a,.int .i64 x.b,.int .i64 x.c,.int .i64 x.d]
def Ts (t:Sd.Label):List V:=[.int .i64 t.mi,.int .i64 t.source,.int .i64 t.seq]
def wI (t:Sd.Point):List V:=.int .i64 t.cls::(Nm t.cg++(Nm t.now++Ts t.eJ))
theorem iw {x:Int} (h:-9223372036854775808<=x/\x<=9223372036854775807):i64.wrap x=x:=by simp[IntKind.wrap,IntKind.bits,IntKind.signed];omega
theorem qn {L:List QF} {n f:Nat} {xs:List V} {v:V} {args:Array Value} {x:Value} {w:World} (hL:aX prog (λ_=>none) L) (h:jr prog L n f xs (·=v)) (ha:args=(az [] xs).toArray:=by kernel_rfl) (hx:x=den [] v:=by kernel_rfl) (h1:cK 0 xs=true:=by kernel_rfl) (h2:fR 0 v=true:=by kernel_rfl):
 au prog f args w λy w1=>y=x/\Ch [] w w1:=by subst ha hx;exact oK hL n h h1 h2 [] w
theorem Zt (n m:Int) (X:V->Prop):jr prog [] 30 94 [.int .i64 n,.int .i64 m] X=cond (decide (n<m)) (X (.int .i64 (i64.wrap (n+1)))) (X (.int .i64 m)):=by kernel_rfl
theorem agQ (n:Int) (m:Int) (h_n:-9223372036854775808<=n/\n<=9223372036854775807) (h_m:-9223372036854775808<=m/\m<=9223372036854775807) (w:World):
 au prog 94 #[.int .i64 n,.int .i64 m] w λv w1=>v=.int .i64 (Sd.sat n m)/\Ch [] w w1:=by
 refine qn aX.nil (n:=30) (xs:=[.int .i64 n,.int .i64 m]) (v:=.int .i64 (Sd.sat n m)) ?_;rw[Zt];unfold Sd.sat;refine aS (λh=>?_) (λh=>?_)
 ·have h:n<m:=by simpa using h
  rw[if_pos h,iw (by omega)]
 ·rw[if_neg (by simpa using h)]
theorem Nn (n m k:Int) (X:V->Prop):jr prog [] 30 192 [.int .i64 n,.int .i64 m,.int .i64 k] X=cond (decide (n<m)) (X (.int .i64 m)) (cond (decide (n>k)) (X (.int .i64 k)) (X (.int .i64 n))):=by kernel_rfl
theorem No (n:Int) (lo:Int) (hi:Int) (w:World):
 au prog 192 #[.int .i64 n,.int .i64 lo,.int .i64 hi] w λv w1=>v=.int .i64 (Sd.n8 n lo hi)/\Ch [] w w1:=by
 refine qn aX.nil (n:=30) (xs:=[.int .i64 n,.int .i64 lo,.int .i64 hi]) (v:=.int .i64 (Sd.n8 n lo hi)) ?_;rw[Nn];unfold Sd.n8;exact aS (λh=>by rw[if_pos (by simpa using h)]) (λh=>by
  rw[if_neg (by simpa using h)];exact aS (λh=>by rw[if_pos (by simpa using h)]) (λh=>by rw[if_neg (by simpa using h)]))
def tw (a b:Int):Int:=u64.wrap (u64.wrap a-u64.wrap b)
theorem Xd {a b:Int} (h0:0<=a-b) (h1:a-b<18446744073709551616):tw a b=a-b:=by unfold tw;rw[IntKind.wrap_u64,IntKind.wrap_u64,IntKind.wrap_u64];omega
theorem Zu {a:Int} (h0:0<=a) (h1:a<18446744073709551616):u64.wrap a=a:=by rw[IntKind.wrap_u64];omega
theorem Jm (nw t b:Int) (X:V->Prop):jr prog [] 30 112 [.int .i64 nw,.int .i64 t,.int .i64 b] X=cond (decide (b<1)) (X (.int .i64 nw)) (cond (decide (t>=nw)) (cond (decide (tw t nw<=u64.wrap b)) (X (.int .i64 t)) (X (.int .i64 (i64.wrap (nw+b)))))
 (cond (decide (tw nw t<=u64.wrap b)) (X (.int .i64 t)) (X (.int .i64 (i64.wrap (nw-b)))))):=by kernel_rfl
theorem Hc (nw:Int) (t:Int) (b:Int) (adK:-9223372036854775808<=nw/\nw<=9223372036854775807) (h_t:-9223372036854775808<=t/\t<=9223372036854775807) (h_b:-9223372036854775808<=b/\b<=9223372036854775807) (w:World):
 au prog 112 #[.int .i64 nw,.int .i64 t,.int .i64 b] w λv w1=>v=.int .i64 (Sd.iR nw t b)/\Ch [] w w1:=by
 refine qn aX.nil (n:=30) (xs:=[.int .i64 nw,.int .i64 t,.int .i64 b]) (v:=.int .i64 (Sd.iR nw t b)) ?_;rw[Jm];unfold Sd.iR;refine aS (λh=>by rw[if_pos (by simpa using h)]) (λh=>?_);have h1:¬b<1:=by simpa using h
 rw[if_neg h1,Zu (by omega) (by omega)];refine aS (λh=>?_) (λh=>?_)
 ·have h2:nw<=t:=by simpa using h
  rw[if_pos h2,Xd (by omega) (by omega)];refine aS (λh=>by rw[if_pos (by simpa using h)]) (λh=>?_);have h3:¬t-nw<=b:=by simpa using h
  rw[if_neg h3,iw (by omega)]
 ·have h2:¬nw<=t:=by simpa using h
  rw[if_neg h2,Xd (by omega) (by omega)];refine aS (λh=>by rw[if_pos (by simpa using h)]) (λh=>?_);have h3:¬nw-t<=b:=by simpa using h
  rw[if_neg h3,iw (by omega)]
def hv (n:Int) (m:Nat):Int:=let a:=BitVec.ofInt i64.bits (n.fdiv (2^min m i64.bits));let b:=BitVec.ofInt i64.bits 1;i64.wrap ↑(a&&&b).toNat
theorem Zv (n:Int) (m:Nat) (X:V->Prop):jr prog [] 30 163 [.int .i64 n,.int .i64 (.ofNat m)] X=cond (decide (n<0)) (X (.bool false)) (cond (decide (Int.ofNat m>62)) (X (.bool false)) (X (.bool (hv n m==1)))):=by kernel_rfl
theorem Tt (n:Int) (m:Nat) (X:V->Prop):jr prog [] 30 163 [.int .i64 n,.int .i64 (.negSucc m)] X=cond (decide (n<0)) (X (.bool false)) (cond (decide (Int.negSucc m<0)) (X (.bool false)) False):=by kernel_rfl
theorem adL (s:Int) (i:Int) (w:World):
 au prog 163 #[.int .i64 s,.int .i64 i] w λv w1=>v=.bool (Sd.has s i)/\Ch [] w w1:=by
 refine qn aX.nil (n:=30) (xs:=[.int .i64 s,.int .i64 i]) (v:=.bool (Sd.has s i)) ?_;cases i with
 |ofNat m=>
  rw[Zv];refine aS (λh=>?_) (λh=>aS (λh'=>?_) λh'=>?_)
  ·have h:s<0:=by simpa using h
   congr 1;simp[Sd.has];omega
  ·have h':(m:Int)>62:=by simpa using h'
   congr 1;simp[Sd.has];omega
  ·have h:¬s<0:=by simpa using h
   have h':¬(m:Int)>62:=by simpa using h'
   have em:Int.ofNat m=(m:Int):=rfl;rw[<-Zs s (.ofNat m) (by omega) (by omega) (by omega)];exact congrArg (λz:Int=>V.bool (z==1)) (ee .i64 (Int.fdiv s (2^(min m 64))) 1 2 1 (by decide) (by decide) (by decide))
 |negSucc m=>
  rw[Tt];have e:Sd.has s (.negSucc m)=false:=by simp[Sd.has]
  rw[e];exact aS (λ_=>rfl) λ_=>aS (λ_=>rfl) λh=>absurd (of_decide_eq_false h) (by omega)
theorem BW (m:Int) (X:V->Prop):jr prog [] 30 155 [.int .i64 m] X=X (.agg (RD 0 (if 0>m then 0 else m))):=by kernel_rfl
theorem mU (b:Int):Sd.Timer.start b=⟨0,if 0>b then 0 else b⟩:=by
 unfold Sd.Timer.start;congr 1;by_cases h:0>b
 ·rw[if_pos h];omega
 ·rw[if_neg h];omega
theorem Zw (m:Int) (h_m:-9223372036854775808<=m/\m<=9223372036854775807) (w:World):
 au prog 155 #[.int .i64 m] w λv w1=>v=.agg (zj (Sd.Timer.start m))/\Ch [] w w1:=by
 rw[mU];refine qn aX.nil (n:=30) (xs:=[.int .i64 m]) (v:=.agg (RD 0 (if 0>m then 0 else m))) ?_;rw[BW]
theorem Tu (t:Sd.Timer) (X:V->Prop):jr prog [] 30 107 [.agg (RD t.n t.most)] X=cond (decide (t.n<t.most)) (X (.agg (RD (i64.wrap (t.n+1)) t.most))) (X (.agg (RD t.most t.most))):=by kernel_rfl
theorem Xe (t:Sd.Timer) (Xf:-9223372036854775808<=t.n/\t.n<=9223372036854775807) (BX:-9223372036854775808<=t.most/\t.most<=9223372036854775807) (w:World):
 au prog 107 #[.agg (zj t)] w λv w1=>v=.agg (zj (Sd.Timer.step t))/\Ch [] w w1:=by
 refine qn aX.nil (n:=30) (xs:=[.agg (RD t.n t.most)]) (v:=.agg (RD (Sd.sat t.n t.most) t.most)) ?_;rw[Tu];unfold Sd.sat;refine aS (λh=>?_) (λh=>?_)
 ·have h:t.n<t.most:=by simpa using h
  rw[if_pos h,iw (by omega)]
 ·rw[if_neg (by simpa using h)]
theorem Zx (t:Sd.Timer) (X:V->Prop):jr prog [] 30 108 [.agg (RD t.n t.most)] X=X (.bool (decide (t.n>=t.most))):=by kernel_rfl
theorem adM (t:Sd.Timer) (w:World):
 au prog 108 #[.agg (zj t)] w λv w1=>v=.bool (Sd.Timer.due t)/\Ch [] w w1:=by
 refine qn aX.nil (n:=30) (xs:=[.agg (RD t.n t.most)]) (v:=.bool t.due) ?_;rw[Zx];rfl
theorem Np (t:Sd.Tok) (o:Int) (X:V->Prop):jr prog [] 30 151 [.agg (jl t),.int .i64 o] X=cond (decide (o<0)) (X (.aI [.agg (jl t),.int .i64 1])) (cond (decide (o>=5)) (X (.aI [.agg (jl t),.int .i64 1])) (cond (o==t.holder) (X (.aI [.agg (jl t),.int .i64 25]))
 (cond (decide (t.epoch>=65535)) (X (.aI [.agg (jl t),.int .i64 24])) (X (.aI [.agg (jl (t.pass o (i64.wrap (t.epoch+1)))),.int .i64 0]))))):=by kernel_rfl
theorem Zy (t:Sd.Tok) (o:Int) (fh:-9223372036854775808<=t.epoch/\t.epoch<=9223372036854775807) (w:World):
 au prog 151 #[.agg (gC t),.int .i64 o] w λv w1=>v=.tuple #[.agg (gC ((Sd.Tok.bz t o).1)),.int .i64 ((Sd.Tok.bz t o).2)]/\Ch [] w w1:=by
 refine qn aX.nil (n:=30) (xs:=[.agg (jl t),.int .i64 o]) (v:=.aI [.agg (jl (t.bz o).1),.int .i64 (t.bz o).2]) ?_;rw[Np];unfold Sd.Tok.bz;refine aS (λh=>by rw[if_pos (.inl (by simpa using h))]) (λh=>aS (λh'=>by rw[if_pos (.inr (by simpa using h'))]) λh'=>?_);have h1:¬(o<0\/5<=o):=by simp at h h';omega
 rw[if_neg h1];refine aS (λh=>by rw[if_pos (by simpa using h)]) (λh=>?_);rw[if_neg (by simpa using h)];refine aS (λh=>by rw[if_pos (by simpa using h)]) (λh=>?_);have h2:¬65535<=t.epoch:=by simpa using h
 rw[if_neg h2,iw (by omega)]
theorem Nq (t:Sd.Tok) (X:V->Prop):jr prog [] 30 100 [.agg (jl t)] X=cond (t.holder !=4) (cond (decide (t.epoch<65535)) (X (.agg (jl (t.pass 4 (i64.wrap (t.epoch+1)))))) (X (.agg (jl (t.pass 4 65535))))) (X (.agg (jl (t.pass 4 t.epoch)))):=by kernel_rfl
theorem Zz (t:Sd.Tok) (fh:-9223372036854775808<=t.epoch/\t.epoch<=9223372036854775807) (w:World):
 au prog 100 #[.agg (gC t)] w λv w1=>v=.agg (gC (Sd.Tok.dJ t))/\Ch [] w w1:=by
 refine qn aX.nil (n:=30) (xs:=[.agg (jl t)]) (v:=.agg (jl t.dJ)) ?_;rw[Nq];unfold Sd.Tok.dJ Sd.sat;refine aS (λh=>?_) (λh=>by rw[if_neg (by simpa using h)]);rw[if_pos (by simpa using h)];refine aS (λh=>?_) (λh=>by rw[if_neg (by simpa using h)]);have h2:t.epoch<65535:=by simpa using h
 rw[if_pos h2,iw (by omega)]
theorem Tv (t:Sd.Tok) (X:V->Prop):jr prog [] 30 106 [.agg (jl t)] X=X (.bool (decide (t.offer>=0))):=by kernel_rfl
theorem open_ (t:Sd.Tok) (w:World):
 au prog 106 #[.agg (gC t)] w λv w1=>v=.bool (decide (0<=t.offer))/\Ch [] w w1:=by
 refine qn aX.nil (n:=30) (xs:=[.agg (jl t)]) (v:=.bool (decide (0<=t.offer))) ?_;rw[Tv]
theorem Tw (t:Sd.Tok) (X:V->Prop):jr prog [] 30 109 [.agg (jl t)] X=X (.agg (jl t.bG)):=by kernel_rfl
theorem Nr (t:Sd.Tok) (w:World):
 au prog 109 #[.agg (gC t)] w λv w1=>v=.agg (gC (Sd.Tok.bG t))/\Ch [] w w1:=by
 refine qn aX.nil (n:=30) (xs:=[.agg (jl t)]) (v:=.agg (jl t.bG)) ?_;rw[Tw]
def p5 (p:Sd.Pol):List V:=[.int .i64 (p.i 0),.int .i64 (p.i 1),.int .i64 (p.i 2),.int .i64 (p.i 3),.int .i64 (p.i 4)]
theorem Ns (p:Sd.Pol) (s:Int) (X:V->Prop):jr prog [] 30 228 [.agg (p5 p),.int .i64 s] X=cond (p.i 0==s) (X (.int .i64 0)) (cond (p.i 1==s) (X (.int .i64 1)) (cond (p.i 2==s) (X (.int .i64 2)) (cond (p.i 3==s) (X (.int .i64 3)) (cond (p.i 4==s) (X (.int .i64 4)) (X (.int .i64 (-1))))))):=by kernel_rfl
theorem EA (p:Sd.Pol) (ka:Nat->Option Addr) (kn kc:Nat->Nat) (s:Int) (w:World):
 au prog 228 #[.agg #[.int .i64 (p.i 0),.int .i64 (p.i 1),.int .i64 (p.i 2),.int .i64 (p.i 3),.int .i64 (p.i 4)],.int .i64 s] w λv w1=>v=.int .i64 (Sd.placeOf p s)/\Ch [] w w1:=by
 refine qn aX.nil (n:=30) (xs:=[.agg (p5 p),.int .i64 s]) (v:=.int .i64 (Sd.placeOf p s)) ?_;rw[Ns];unfold Sd.placeOf;refine aS (λh=>by rw[if_pos (by simpa using h)]) (λh=>?_);rw[if_neg (by simpa using h)];refine aS (λh=>by rw[if_pos (by simpa using h)]) (λh=>?_);rw[if_neg (by simpa using h)];refine aS (λh=>by rw[if_pos (by simpa using h)]) (λh=>?_);rw[if_neg (by simpa using h)];refine aS (λh=>by rw[if_pos (by simpa using h)]) (λh=>?_);rw[if_neg (by simpa using h)];exact aS (λh=>by rw[if_pos (by simpa using h)]) (λh=>by rw[if_neg (by simpa using h)])
theorem told {P:Program} {f:Nat} {args:Array Value} {ids:List Nat} {xs:List V} {x:Value} {v:V} {w:World} (h:au P f args w λy w1=>y=x/\Ch [] w w1) (ha:args=(az ids xs).toArray:=by kernel_rfl) (hv:x=den ids v:=by kernel_rfl):
 au P f (az ids xs).toArray w λy w1=>y=den ids v/\Ch [] w w1:=by subst ha hv;exact h
structure Hd (p:Prop):Prop where
 h:p
def aB (a:Int):Prop:=-9223372036854775808<=a/\a<=9223372036854775807
def zpl:QF:=⟨228,λargs _=>match args with
 |[.agg [.int .i64 a,.int .i64 b,.int .i64 c,.int .i64 d,.int .i64 e],.int .i64 s]=>some (True,.int .i64 (if a=s then 0 else if b=s then 1 else if c=s then 2 else if d=s then 3 else if e=s then 4 else-1))
 |_=>none⟩
def ztw:QF:=⟨112,λargs _=>match args with
 |[.int .i64 nw,.int .i64 t,.int .i64 b]=>some (aB nw/\aB t/\aB b,.int .i64 (Sd.iR nw t b))
 |_=>none⟩
def zcl:QF:=⟨192,λargs _=>match args with
 |[.int .i64 n,.int .i64 lo,.int .i64 hi]=>some (True,.int .i64 (Sd.n8 n lo hi))
 |_=>none⟩
def rT:QF:=⟨163,λargs _=>match args with
 |[.int .i64 s,.int .i64 i]=>some (True,.bool (Sd.has s i))
 |_=>none⟩
def zen:QF:=⟨109,λargs _=>match args with
 |[.agg [.int .i64 a,.int .i64 b,.int .i64 c,.int .i64 d,.int .i64 e,.int .i64 f,.int .i64 g,.bool h]]=>some (True,.agg (jl (⟨a,b,c,⟨d,e⟩,⟨f,g⟩,h⟩:Sd.Tok).bG))
 |_=>none⟩
def zst:QF:=⟨155,λargs _=>match args with
 |[.int .i64 m]=>some (True,.agg (RD 0 (if 0>m then 0 else m)))
 |_=>none⟩
def zby:QF:=⟨147,λargs _=>match args with
 |[.int .i64 m,.agg [.int .i64 a,.int .i64 b,.int .i64 c,.int .i64 d]]=>some (0<=m/\m<=1000,.bool (Sd.Li m ⟨a,b,c,d⟩))
 |_=>none⟩
theorem ZA (gl:Nat->Option Nat):zpl.Ok prog gl:=by
 intro args bl p_ v_ h hp ids w _ _;unfold zpl at h;dsimp only at h;split at h
 ·rename_i a b c d e s;simp only[Option.some.injEq,Prod.mk.injEq]at h;obtain⟨rfl,rfl⟩:=h;exact told (EA ⟨λi=>match i with|0=>a|1=>b|2=>c|3=>d|_=>e,λ_=>(0,λ_=>0)⟩ (λ_=>none) (λ_=>0) (λ_=>0) s w)
 ·cases h
theorem ZB (gl:Nat->Option Nat):ztw.Ok prog gl:=by
 intro args bl p_ v_ h hp ids w _ _;unfold ztw at h;dsimp only at h;split at h
 ·rename_i nw t b;simp only[Option.some.injEq,Prod.mk.injEq]at h;obtain⟨rfl,rfl⟩:=h;exact told (Hc nw t b hp.1 hp.2.1 hp.2.2 w)
 ·cases h
theorem EB (gl:Nat->Option Nat):zcl.Ok prog gl:=by
 intro args bl p_ v_ h hp ids w _ _;unfold zcl at h;dsimp only at h;split at h
 ·rename_i n lo hi;simp only[Option.some.injEq,Prod.mk.injEq]at h;obtain⟨rfl,rfl⟩:=h;exact told (No n lo hi w)
 ·cases h
theorem ai5 (gl:Nat->Option Nat):rT.Ok prog gl:=by
 intro args bl p_ v_ h hp ids w _ _;unfold rT at h;dsimp only at h;split at h
 ·rename_i s i;simp only[Option.some.injEq,Prod.mk.injEq]at h;obtain⟨rfl,rfl⟩:=h;exact told (adL s i w)
 ·cases h
theorem Nt (gl:Nat->Option Nat):zen.Ok prog gl:=by
 intro args bl p_ v_ h hp ids w _ _;unfold zen at h;dsimp only at h;split at h
 ·rename_i a b c d e f g h;simp only[Option.some.injEq,Prod.mk.injEq]at h;obtain⟨rfl,rfl⟩:=h;exact told (Nr ⟨a,b,c,⟨d,e⟩,⟨f,g⟩,h⟩ w)
 ·cases h
theorem ZC (gl:Nat->Option Nat):zst.Ok prog gl:=by
 intro args bl p_ v_ h hp ids w _ _;unfold zst at h;dsimp only at h;split at h
 ·rename_i m;simp only[Option.some.injEq,Prod.mk.injEq]at h;obtain⟨rfl,rfl⟩:=h;exact oK aX.nil 30 (by show jr prog [] 30 155 _ _;rw[BW]) rfl rfl ids w
 ·cases h
theorem KZ {q:QF} (h:q.Ok prog λ_=>none):aX prog (λ_=>none) [q]:=aX.cons h aX.nil
theorem Tx (p:Sd.Pol) (ka:Nat->Option Addr) (kn kc:Nat->Nat) (s:Int) (X:V->Prop):jr prog [zpl] 30 209 [.agg (eS p ka kn kc),.int .i64 s] X=(True/\X (.int .i64 (Sd.placeOf p s))):=by kernel_rfl
theorem adN (p:Sd.Pol) (ka:Nat->Option Addr) (kn kc:Nat->Nat) (s:Int) (w:World):
 au prog 209 #[.agg (kG p ka kn kc),.int .i64 s] w λv w1=>v=.int .i64 (Sd.placeOf p s)/\Ch [] w w1:=by
 refine qn (KZ (ZA _)) (n:=30) (xs:=[.agg (eS p ka kn kc),.int .i64 s]) (v:=.int .i64 (Sd.placeOf p s)) ?_;rw[Tx];exact⟨trivial,rfl⟩
theorem Tz (p:Sd.Pol) (ka:Nat->Option Addr) (kn kc:Nat->Nat) (a:Int) (b:Int) (w:World):
 au prog 207 #[.agg (kG p ka kn kc),.int .i64 a,.int .i64 b] w λv w1=>v=.bool (Sd.cp p a b)/\Ch [] w w1:=by
 have S0:=St.nil [] w;refine aZ Tryz.func207 rfl ?_;refine af (ah ?_);refine ba S0 (λb=>.pointer (some ⟨b,0,none⟩)) (.cells (kG p ka kn kc) 28) ?_;intro aQ jh ec;refine aa (.bool false) ?_;refine ag (ab (af (ah ?_)));refine av ?_;refine ag (ab (af ?_));refine iq 9 [⟨0,λ_=>.func (.func 228) #[] #[],λ_=>[]⟩,⟨0,λ_=>.pointer (some ⟨aQ,0,none⟩),λ_=>[]⟩,⟨0,λ_=>.agg #[.int .i64 (p.i 0),.int .i64 (p.i 1),.int .i64 (p.i 2),.int .i64 (p.i 3),.int .i64 (p.i 4)],λ_=>[]⟩,⟨0,λ_=>.int .i64 a,λ_=>[]⟩,⟨0,λ_=>.int .i64 (Sd.placeOf p a),λ_=>[]⟩,⟨0,λ_=>.func (.func 228) #[] #[],λ_=>[]⟩,⟨0,λ_=>.pointer (some ⟨aQ,0,none⟩),λ_=>[]⟩,⟨0,λ_=>.agg #[.int .i64 (p.i 0),.int .i64 (p.i 1),.int .i64 (p.i 2),.int .i64 (p.i 3),.int .i64 (p.i 4)],λ_=>[]⟩,⟨0,λ_=>.int .i64 b,λ_=>[]⟩] [[9,4,0],[9,4,2,1],[9,4,2],[9,4,3],[9,4],[9,5],[9,7,6],[9,7],[9,8],[10,0],[10,1],[10,2],[10,3],[10,4],[10,9,5],[10,9,7,6],[10,9,7],[10,9,8],[10,9],[11,0],[11,1],[11,2],[11,3],[11,4],[11,5],[11,6],[11,7],[11,8],[11,9],[11,10]] ?_ ?_
 ·refine step_cons iO ?_;refine step_cons iO ?_;refine step_cons (RT ec 0 aQ 0 5 #[.int .i64 (p.i 0),.int .i64 (p.i 1),.int .i64 (p.i 2),.int .i64 (p.i 3),.int .i64 (p.i 4)]) ?_;refine step_cons iO ?_;refine step_cons ?_ ?_
  ·intro DG kM rS Ti nT;have Jb:DG 10=.func (.func 228) #[] #[]:=(Sp.bm (nT 0 10 (by kernel_rfl) (by kernel_rfl))).1;have fi:DG 12=.agg #[.int .i64 (p.i 0),.int .i64 (p.i 1),.int .i64 (p.i 2),.int .i64 (p.i 3),.int .i64 (p.i 4)]:=(Sp.bm (nT 2 12 (by kernel_rfl) (by kernel_rfl))).1;have gK:DG 13=.int .i64 a:=(Sp.bm (nT 3 13 (by kernel_rfl) (by kernel_rfl))).1;have eM:=ec.quiet rS;refine j4 ?_;refine kS [(10,.func (.func 228) #[] #[]),(12,.agg #[.int .i64 (p.i 0),.int .i64 (p.i 1),.int .i64 (p.i 2),.int .i64 (p.i 3),.int .i64 (p.i 4)]),(13,.int .i64 a)] (cx Jb (cx fi (cx gK (fT)))) ?_;have jG:=eM.loc;refine Y.br 228 #[.agg #[.int .i64 (p.i 0),.int .i64 (p.i 1),.int .i64 (p.i 2),.int .i64 (p.i 3),.int .i64 (p.i 4)],.int .i64 a] ?_;refine(EA p ka kn kc a _).mono ?_;rintro _ ZD ⟨rfl,gM⟩;have mT:=jG.quiet gM;exact⟨mT.ch,Sp.dv [] (all_nil)⟩
  refine step_cons iO ?_;refine step_cons iO ?_;refine step_cons (RT ec 0 aQ 0 5 #[.int .i64 (p.i 0),.int .i64 (p.i 1),.int .i64 (p.i 2),.int .i64 (p.i 3),.int .i64 (p.i 4)]) ?_;refine step_cons iO ?_;exact eD
 intro zl qh Nu qo;have Ng:zl 0=.func (.func 228) #[] #[]:=(Sp.bm (qo 0 (by kernel_rfl))).1;have iU:zl 1=.pointer (some ⟨aQ,0,none⟩):=(Sp.bm (qo 1 (by kernel_rfl))).1;have nR:zl 2=.agg #[.int .i64 (p.i 0),.int .i64 (p.i 1),.int .i64 (p.i 2),.int .i64 (p.i 3),.int .i64 (p.i 4)]:=(Sp.bm (qo 2 (by kernel_rfl))).1;have oO:zl 3=.int .i64 a:=(Sp.bm (qo 3 (by kernel_rfl))).1;have Es:zl 4=.int .i64 (Sd.placeOf p a):=(Sp.bm (qo 4 (by kernel_rfl))).1;have oU:zl 5=.func (.func 228) #[] #[]:=(Sp.bm (qo 5 (by kernel_rfl))).1;have fD:zl 6=.pointer (some ⟨aQ,0,none⟩):=(Sp.bm (qo 6 (by kernel_rfl))).1;have iD:zl 7=.agg #[.int .i64 (p.i 0),.int .i64 (p.i 1),.int .i64 (p.i 2),.int .i64 (p.i 3),.int .i64 (p.i 4)]:=(Sp.bm (qo 7 (by kernel_rfl))).1;have QU:zl 8=.int .i64 b:=(Sp.bm (qo 8 (by kernel_rfl))).1;have EC:=ec.quiet Nu;refine⟨[.func (.func 228) #[] #[],.pointer (some ⟨aQ,0,none⟩),.agg #[.int .i64 (p.i 0),.int .i64 (p.i 1),.int .i64 (p.i 2),.int .i64 (p.i 3),.int .i64 (p.i 4)],.int .i64 a,.int .i64 (Sd.placeOf p a),.func (.func 228) #[] #[],.pointer (some ⟨aQ,0,none⟩),.agg #[.int .i64 (p.i 0),.int .i64 (p.i 1),.int .i64 (p.i 2),.int .i64 (p.i 3),.int .i64 (p.i 4)],.int .i64 b],by kernel_rfl,aA Ng (aA iU (aA nR (aA oO (aA Es (aA oU (aA fD (aA iD (aA QU (lH))))))))),?_⟩;refine br 228 #[.agg #[.int .i64 (p.i 0),.int .i64 (p.i 1),.int .i64 (p.i 2),.int .i64 (p.i 3),.int .i64 (p.i 4)],.int .i64 b] ?_;refine(EA p ka kn kc b _).mono ?_;rintro _ Nv ⟨rfl,iF⟩;have ie:=EC.quiet iF;refine av ?_;refine av ?_;refine ag (ab (af (ah ?_)));refine ay ?_;refine aa (.bool ((Sd.placeOf p a)!=(-1))) ?_;refine ay ?_;refine WA 22 ((Sd.placeOf p a)!=(-1)) ?_ ?_
 ·intro ig;have lh:=XT ig;refine ay ?_;refine aa (.bool ((Sd.placeOf p b)!=(-1))) ?_;refine aa (.bool ((Sd.placeOf p b)!=(-1))) ?_;refine ay ?_;refine WA 26 ((Sd.placeOf p b)!=(-1)) ?_ ?_
  ·intro lg;have uR:=XT lg;refine ay ?_;refine ay ?_;refine aa (.bool (decide ((Sd.placeOf p a)<(Sd.placeOf p b)))) ?_;refine aa (.bool (decide ((Sd.placeOf p a)<(Sd.placeOf p b)))) ?_;refine av ?_;refine ag (ab (wp_ret ?_));refine dk rfl (cZ [.tmp 6] [.bool (decide ((Sd.placeOf p a)<(Sd.placeOf p b)))] (.bool (decide ((Sd.placeOf p a)<(Sd.placeOf p b)))) ⟨aD,trivial⟩) ?_;have ze:Sd.cp p a b=(decide ((Sd.placeOf p a)<(Sd.placeOf p b))):=by first|rfl|(simp[Sd.cp,ig,lg,lh,uR];done)|(simp[Sd.cp,ig,lg,lh,uR];rfl)|(simp[Sd.cp,ig,lg];simp[Sd.cp,ig,lg,lh,uR];done)|(simp[Sd.cp,ig,lg];simp[Sd.cp,ig,lg,lh,uR];rfl)|(simp[Sd.cp,ig,lg,lh,uR];omega)|(unfold Sd.cp;(repeat' split)<;>first|rfl|assumption|omega|(simp_all;done)|(simp_all;omega))
   exact⟨by(rw[ze])<;>rfl,ie.ch⟩
  intro ql;have oQ:=XU ql;refine mz ?_;refine mz ?_;refine mz ?_;refine aa (.bool false) ?_;refine aa (.bool false) ?_;refine ag (ab (wp_ret ?_));refine dk rfl (cZ [.tmp 6] [.bool false] (.bool false) ⟨aD,trivial⟩) ?_;have ze:Sd.cp p a b=false:=by first|rfl|(simp[Sd.cp,ig,ql,lh,oQ];done)|(simp[Sd.cp,ig,ql,lh,oQ];rfl)|(simp[Sd.cp,ig,ql];simp[Sd.cp,ig,ql,lh,oQ];done)|(simp[Sd.cp,ig,ql];simp[Sd.cp,ig,ql,lh,oQ];rfl)|(simp[Sd.cp,ig,ql,lh,oQ];omega)|(unfold Sd.cp;(repeat' split)<;>first|rfl|assumption|omega|(simp_all;done)|(simp_all;omega))
  exact⟨by(rw[ze])<;>rfl,ie.ch⟩
 intro iG;have oS:=XU iG;refine mz ?_;refine mz ?_;refine aa (.bool false) ?_;refine aa (.bool false) ?_;refine mz ?_;refine mz ?_;refine mz ?_;refine aa (.bool false) ?_;refine aa (.bool false) ?_;refine ag (ab (wp_ret ?_));refine dk rfl (cZ [.tmp 6] [.bool false] (.bool false) ⟨aD,trivial⟩) ?_;have ze:Sd.cp p a b=false:=by first|rfl|(simp[Sd.cp,iG,oS];done)|(simp[Sd.cp,iG,oS];rfl)|(simp[Sd.cp,iG];simp[Sd.cp,iG,oS];done)|(simp[Sd.cp,iG];simp[Sd.cp,iG,oS];rfl)|(simp[Sd.cp,iG,oS];omega)|(unfold Sd.cp;(repeat' split)<;>first|rfl|assumption|omega|(simp_all;done)|(simp_all;omega))
 exact⟨by(rw[ze])<;>rfl,ie.ch⟩
theorem Nw (p:Sd.Pol) (ka:Nat->Option Addr) (kn kc:Nat->Nat) (r:Int) (X:V->Prop):∀s:Nat,s<5->jr prog [rT] 30 127 [.agg (eS p ka kn kc),.int .i64 (.ofNat s),.int .i64 r] X=cond (decide (0<=r)) (cond (decide (r<4)) (True/\X (.bool (Sd.has (p.i (9+s)) r))) (X (.bool false))) (X (.bool false))
 |0,_=>by kernel_rfl
 |1,_=>by kernel_rfl
 |2,_=>by kernel_rfl
 |3,_=>by kernel_rfl
 |4,_=>by kernel_rfl
 |n+5,h=>absurd h (by omega)
theorem xD (p:Sd.Pol) (ka:Nat->Option Addr) (kn kc:Nat->Nat) (n:Nat) (r:Int) (X:V->Prop):jr prog [rT] 30 127 [.agg (eS p ka kn kc),.int .i64 (.ofNat (n+5)),.int .i64 r] X=X (.bool false)/\jr prog [rT] 30 127 [.agg (eS p ka kn kc),.int .i64 (.negSucc n),.int .i64 r] X=X (.bool false):=⟨by kernel_rfl,by kernel_rfl⟩
theorem lT {n b:Int} (h:0<=n) (h2:n<b):Sd.below n b=true:=by simp[Sd.below,h,h2]
theorem fp {n b:Int} (h:n<0\/b<=n):Sd.below n b=false:=by simp[Sd.below];omega
theorem ZE (p:Sd.Pol) (ka:Nat->Option Addr) (kn kc:Nat->Nat) (s:Int) (r:Int) (w:World):
 au prog 127 #[.agg (kG p ka kn kc),.int .i64 s,.int .i64 r] w λv w1=>v=.bool (Sd.j6 p s r)/\Ch [] w w1:=by
 refine qn (KZ (ai5 _)) (n:=30) (xs:=[.agg (eS p ka kn kc),.int .i64 s,.int .i64 r]) (v:=.bool (Sd.j6 p s r)) (Hd.h ?_);unfold Sd.j6;cases s with
 |ofNat n=>
  by_cases h:n<5
  ·have e:Sd.below (Int.ofNat n) 5=true:=lT (Int.natCast_nonneg n) (by show(n:Int)<5;omega);refine⟨?_⟩;rw[Nw p ka kn kc r _ n h,e];refine aS (λh=>aS (λh'=>?_) λh'=>?_) (λh=>?_)
   ·rw[lT (by simpa using h) (by simpa using h')];exact⟨trivial,rfl⟩
   ·rw[fp (b:=4) (.inr (by simpa using h'))];rfl
   ·rw[fp (b:=4) (.inl (by simpa using h))];rfl
  ·have q:=(xD p ka kn kc (n-5) r (·=.bool (Sd.below (Int.ofNat n) 5&&Sd.below r 4&&Sd.has (p.Lu (Int.ofNat n).toNat) r))).1;rw[show n-5+5=n by omega]at q;refine⟨?_⟩;rw[q,fp (.inr (by show(5:Int)<=(n:Int);omega))];rfl
 |negSucc n=>
  refine⟨?_⟩;rw[(xD p ka kn kc n r _).2,fp (.inl (Int.negSucc_lt_zero n))];rfl
theorem TA (p:Sd.Pol) (ka:Nat->Option Addr) (kn kc:Nat->Nat) (r:Int) (X:V->Prop):∀s:Nat,s<5->jr prog [rT] 30 191 [.agg (eS p ka kn kc),.int .i64 (.ofNat s),.int .i64 r] X=cond (decide (0<=r)) (cond (decide (r<5)) (True/\X (.bool (Sd.has (p.i (34+s)) r))) (X (.bool false))) (X (.bool false))
 |0,_=>by kernel_rfl
 |1,_=>by kernel_rfl
 |2,_=>by kernel_rfl
 |3,_=>by kernel_rfl
 |4,_=>by kernel_rfl
 |n+5,h=>absurd h (by omega)
theorem BY (p:Sd.Pol) (ka:Nat->Option Addr) (kn kc:Nat->Nat) (n:Nat) (r:Int) (X:V->Prop):jr prog [rT] 30 191 [.agg (eS p ka kn kc),.int .i64 (.ofNat (n+5)),.int .i64 r] X=X (.bool false)/\jr prog [rT] 30 191 [.agg (eS p ka kn kc),.int .i64 (.negSucc n),.int .i64 r] X=X (.bool false):=⟨by kernel_rfl,by kernel_rfl⟩
theorem adO (p:Sd.Pol) (ka:Nat->Option Addr) (kn kc:Nat->Nat) (a:Int) (b:Int) (w:World):
 au prog 191 #[.agg (kG p ka kn kc),.int .i64 a,.int .i64 b] w λv w1=>v=.bool (Sd.goes p a b)/\Ch [] w w1:=by
 refine qn (KZ (ai5 _)) (n:=30) (xs:=[.agg (eS p ka kn kc),.int .i64 a,.int .i64 b]) (v:=.bool (Sd.goes p a b)) (Hd.h ?_);unfold Sd.goes;cases a with
 |ofNat n=>
  by_cases h:n<5
  ·have e:Sd.below (Int.ofNat n) 5=true:=lT (Int.natCast_nonneg n) (by show(n:Int)<5;omega);refine⟨?_⟩;rw[TA p ka kn kc b _ n h,e];refine aS (λh=>aS (λh'=>?_) λh'=>?_) (λh=>?_)
   ·rw[lT (by simpa using h) (by simpa using h')];exact⟨trivial,rfl⟩
   ·rw[fp (b:=5) (.inr (by simpa using h'))];rfl
   ·rw[fp (b:=5) (.inl (by simpa using h))];rfl
  ·have q:=(BY p ka kn kc (n-5) b (·=.bool (Sd.below (Int.ofNat n) 5&&Sd.below b 5&&Sd.has (p.graph (Int.ofNat n).toNat) b))).1;rw[show n-5+5=n by omega]at q;refine⟨?_⟩;rw[q,fp (.inr (by show(5:Int)<=(n:Int);omega))];rfl
 |negSucc n=>
  refine⟨?_⟩;rw[(BY p ka kn kc n b _).2,fp (.inl (Int.negSucc_lt_zero n))];rfl
theorem ZF (p:Sd.Pol) (ka:Nat->Option Addr) (kn kc:Nat->Nat) (c:Int) (X:V->Prop):∀m r:Nat,m<5->r<4->jr prog [rT] 30 190 [.agg (eS p ka kn kc),.int .i64 (.ofNat m),.int .i64 (.ofNat r),.int .i64 c] X=cond (decide (0<=c)) (cond (decide (c<4)) (True/\X (.bool (Sd.has (p.i (14+4*m+r)) c))) (X (.bool false))) (X (.bool false))
 |0,0,_,_=>by kernel_rfl
 |0,1,_,_=>by kernel_rfl
 |0,2,_,_=>by kernel_rfl
 |0,3,_,_=>by kernel_rfl
 |1,0,_,_=>by kernel_rfl
 |1,1,_,_=>by kernel_rfl
 |1,2,_,_=>by kernel_rfl
 |1,3,_,_=>by kernel_rfl
 |2,0,_,_=>by kernel_rfl
 |2,1,_,_=>by kernel_rfl
 |2,2,_,_=>by kernel_rfl
 |2,3,_,_=>by kernel_rfl
 |3,0,_,_=>by kernel_rfl
 |3,1,_,_=>by kernel_rfl
 |3,2,_,_=>by kernel_rfl
 |3,3,_,_=>by kernel_rfl
 |4,0,_,_=>by kernel_rfl
 |4,1,_,_=>by kernel_rfl
 |4,2,_,_=>by kernel_rfl
 |4,3,_,_=>by kernel_rfl
 |n+5,_,h,_=>absurd h (by omega)
 |_,n+4,_,h=>absurd h (by omega)
theorem He (p:Sd.Pol) (ka:Nat->Option Addr) (kn kc:Nat->Nat) (n:Nat) (r c:Int) (X:V->Prop):jr prog [rT] 30 190 [.agg (eS p ka kn kc),.int .i64 (.ofNat (n+5)),.int .i64 r,.int .i64 c] X=X (.bool false)/\jr prog [rT] 30 190 [.agg (eS p ka kn kc),.int .i64 (.negSucc n),.int .i64 r,.int .i64 c] X=X (.bool false):=⟨by kernel_rfl,by kernel_rfl⟩
theorem Hf (p:Sd.Pol) (ka:Nat->Option Addr) (kn kc:Nat->Nat) (n:Nat) (c:Int) (X:V->Prop):∀m:Nat,m<5->jr prog [rT] 30 190 [.agg (eS p ka kn kc),.int .i64 (.ofNat m),.int .i64 (.ofNat (n+4)),.int .i64 c] X=X (.bool false)/\jr prog [rT] 30 190 [.agg (eS p ka kn kc),.int .i64 (.ofNat m),.int .i64 (.negSucc n),.int .i64 c] X=X (.bool false)
 |0,_=>⟨by kernel_rfl,by kernel_rfl⟩
 |1,_=>⟨by kernel_rfl,by kernel_rfl⟩
 |2,_=>⟨by kernel_rfl,by kernel_rfl⟩
 |3,_=>⟨by kernel_rfl,by kernel_rfl⟩
 |4,_=>⟨by kernel_rfl,by kernel_rfl⟩
 |n+5,h=>absurd h (by omega)
theorem agR (p:Sd.Pol) (ka:Nat->Option Addr) (kn kc:Nat->Nat) (m:Int) (r:Int) (c:Int) (w:World):
 au prog 190 #[.agg (kG p ka kn kc),.int .i64 m,.int .i64 r,.int .i64 c] w λv w1=>v=.bool (Sd.may p m r c)/\Ch [] w w1:=by
 refine qn (KZ (ai5 _)) (n:=30) (xs:=[.agg (eS p ka kn kc),.int .i64 m,.int .i64 r,.int .i64 c]) (v:=.bool (Sd.may p m r c)) (Hd.h ?_);unfold Sd.may;cases m with
 |ofNat n=>
  by_cases h:n<5
  ·have e:Sd.below (Int.ofNat n) 5=true:=lT (Int.natCast_nonneg n) (by show(n:Int)<5;omega);rw[e];cases r with
   |ofNat k=>
    by_cases hk:k<4
    ·have e:Sd.below (Int.ofNat k) 4=true:=lT (Int.natCast_nonneg k) (by show(k:Int)<4;omega);refine⟨?_⟩;rw[ZF p ka kn kc c _ n k h hk,e];refine aS (λh=>aS (λh'=>?_) λh'=>?_) (λh=>?_)
     ·rw[lT (by simpa using h) (by simpa using h')];exact⟨trivial,rfl⟩
     ·rw[fp (b:=4) (.inr (by simpa using h'))];rfl
     ·rw[fp (b:=4) (.inl (by simpa using h))];rfl
    ·have q:=(Hf p ka kn kc (k-4) c (·=.bool (true&&Sd.below (Int.ofNat k) 4&&Sd.below c 4&&Sd.has (p.table (Int.ofNat n).toNat (Int.ofNat k).toNat) c)) n h).1;rw[show k-4+4=k by omega]at q;refine⟨?_⟩;rw[q,fp (b:=4) (.inr (by show(4:Int)<=(k:Int);omega))];rfl
   |negSucc k=>
    refine⟨?_⟩;rw[(Hf p ka kn kc k c _ n h).2,fp (b:=4) (.inl (Int.negSucc_lt_zero k))];rfl
  ·have q:=(He p ka kn kc (n-5) r c (·=.bool (Sd.below (Int.ofNat n) 5&&Sd.below r 4&&Sd.below c 4&&Sd.has (p.table (Int.ofNat n).toNat r.toNat) c))).1;rw[show n-5+5=n by omega]at q;refine⟨?_⟩;rw[q,fp (b:=5) (.inr (by show(5:Int)<=(n:Int);omega))];rfl
 |negSucc n=>
  refine⟨?_⟩;rw[(He p ka kn kc n r c _).2,fp (b:=5) (.inl (Int.negSucc_lt_zero n))];rfl
theorem TD (p:Sd.Pol) (ka:Nat->Option Addr) (kn kc:Nat->Nat) (X:V->Prop):jr prog [] 30 28 [.agg (eS p ka kn kc)] X=X (.agg (jl (Sd.Tok.new p))):=by kernel_rfl
theorem Xg (p:Sd.Pol) (ka:Nat->Option Addr) (kn kc:Nat->Nat) (w:World):
 au prog 28 #[.agg (kG p ka kn kc)] w λv w1=>v=.agg (gC (Sd.Tok.new p))/\Ch [] w w1:=by
 refine qn aX.nil (n:=30) (xs:=[.agg (eS p ka kn kc)]) (v:=.agg (jl (Sd.Tok.new p))) ?_;rw[TD]
def TE (t:Sd.Tok) (f:Int) (X Y:Prop):Prop:=cond (!decide (t.offer>=0)) X (cond (t.offer !=f) X Y)
theorem zm {t:Sd.Tok} {f:Int} {X Y:Prop} (h:t.offer<0\/t.offer≠f->X) (k:¬(t.offer<0\/t.offer≠f)->Y):TE t f X Y:=by
 refine aS (λa=>h (.inl (by simpa using a))) (λa=>aS (λb=>h (.inr (by simpa using b))) λb=>k ?_);simp at a b;omega
def grX (t:Sd.Tok) (o:Int) (X:V->Prop):Prop:=cond (decide (o<0)) (X (.aI [.agg (jl t),.int .i64 1])) (cond (decide (o>=5)) (X (.aI [.agg (jl t),.int .i64 1])) (cond (o==t.holder) (X (.aI [.agg (jl t),.int .i64 25]))
 (cond (decide (t.epoch>=65535)) (X (.aI [.agg (jl t),.int .i64 24])) (X (.aI [.agg (jl (t.pass o (i64.wrap (t.epoch+1)))),.int .i64 0])))))
theorem ZG (t:Sd.Tok) (f e:Int) (X:V->Prop):jr prog [] 30 178 [.agg (jl t),.int .i64 f,.int .i64 e] X=TE t f (X (.aI [.agg (jl t),.int .i64 28])) (cond (e !=t.epoch) (X (.aI [.agg (jl t),.int .i64 21])) (grX t f X)):=by kernel_rfl
theorem ZH {t:Sd.Tok} (fh:-9223372036854775808<=t.epoch/\t.epoch<=9223372036854775807) (o:Int):grX t o (·=.aI [.agg (jl (t.bz o).1),.int .i64 (t.bz o).2]):=by
 unfold grX Sd.Tok.bz;refine aS (λh=>by rw[if_pos (.inl (by simpa using h))]) (λh=>aS (λh'=>by rw[if_pos (.inr (by simpa using h'))]) λh'=>?_);have h1:¬(o<0\/5<=o):=by simp at h h';omega
 rw[if_neg h1];refine aS (λh=>by rw[if_pos (by simpa using h)]) (λh=>?_);rw[if_neg (by simpa using h)];refine aS (λh=>by rw[if_pos (by simpa using h)]) (λh=>?_);have h2:¬65535<=t.epoch:=by simpa using h
 rw[if_neg h2,iw (by omega)]
theorem agS (t:Sd.Tok) (f:Int) (e:Int) (fh:-9223372036854775808<=t.epoch/\t.epoch<=9223372036854775807) (w:World):
 au prog 178 #[.agg (gC t),.int .i64 f,.int .i64 e] w λv w1=>v=.tuple #[.agg (gC ((Sd.Tok.accept t f e).1)),.int .i64 ((Sd.Tok.accept t f e).2)]/\Ch [] w w1:=by
 refine qn aX.nil (n:=30) (xs:=[.agg (jl t),.int .i64 f,.int .i64 e]) (v:=.aI [.agg (jl (t.accept f e).1),.int .i64 (t.accept f e).2]) ?_;rw[ZG];unfold Sd.Tok.accept;refine zm (λh=>by rw[if_pos h]) (λh=>?_);rw[if_neg h];refine aS (λh=>by rw[if_pos (by simpa using h)]) (λh=>?_);rw[if_neg (by simpa using h)];exact ZH fh f
theorem TF (t:Sd.Tok) (f:Int) (X:V->Prop):jr prog [zen] 30 179 [.agg (jl t),.int .i64 f] X=TE t f (X (.aI [.agg (jl t),.int .i64 28])) (True/\X (.aI [.agg (jl t.bG),.int .i64 0])):=by kernel_rfl
theorem adP (t:Sd.Tok) (f:Int) (w:World):
 au prog 179 #[.agg (gC t),.int .i64 f] w λv w1=>v=.tuple #[.agg (gC ((Sd.Tok.ft t f).1)),.int .i64 ((Sd.Tok.ft t f).2)]/\Ch [] w w1:=by
 refine qn (KZ (Nt _)) (n:=30) (xs:=[.agg (jl t),.int .i64 f]) (v:=.aI [.agg (jl (t.ft f).1),.int .i64 (t.ft f).2]) ?_;rw[TF];unfold Sd.Tok.ft;exact zm (λh=>by rw[if_pos h]) (λh=>⟨trivial,by rw[if_neg h]⟩)
theorem Nx (t:Sd.Tok) (f:Int) (X:V->Prop):jr prog [zen] 30 105 [.agg (jl t),.int .i64 f] X=TE t f (X (.aI [.agg (jl t),.bool false])) (True/\X (.aI [.agg (jl t.bG),.bool true])):=by kernel_rfl
theorem ZI (t:Sd.Tok) (s:Int) (w:World):
 au prog 105 #[.agg (gC t),.int .i64 s] w λv w1=>v=.tuple #[.agg (gC ((Sd.Tok.drop t s).1)),.bool ((Sd.Tok.drop t s).2)]/\Ch [] w w1:=by
 refine qn (KZ (Nt _)) (n:=30) (xs:=[.agg (jl t),.int .i64 s]) (v:=.aI [.agg (jl (t.drop s).1),.bool (t.drop s).2]) ?_;rw[Nx];unfold Sd.Tok.drop;exact zm (λh=>by rw[if_pos h]) (λh=>⟨trivial,by rw[if_neg h]⟩)
theorem ZJ (t:Sd.Tok) (BZ:-9223372036854775808<=t.oa.n/\t.oa.n<=9223372036854775807) (sU:-9223372036854775808<=t.oa.most/\t.oa.most<=9223372036854775807) (w:World):
 au prog 66 #[.agg (gC t)] w λv w1=>v=.tuple #[.agg (gC ((Sd.Tok.tick t).1)),.int .i64 ((Sd.Tok.tick t).2)]/\Ch [] w w1:=by
 have S0:=St.nil [] w;refine aZ Tryz.func66 rfl ?_;refine af (ah ?_);refine ba S0 (λb=>.pointer (some ⟨b,0,none⟩)) (.cells (gC t) 88) ?_;intro aQ jh ec;refine ba ec (λb=>.pointer (some ⟨b,0,none⟩)) (.cells #[.int .i64 0,.int .i64 0,.int .i64 0,.int .i64 0,.int .i64 0,.int .i64 0,.int .i64 0,.bool false] 88) ?_;intro cY kM da;refine aa (.int .i64 0) ?_;refine ag (ab (af (af (ah ?_))));refine db da 1 8 (gC t) aQ 0 ?_;refine br 106 #[.agg (gC t)] ?_;refine(open_ t _).mono ?_;rintro _ WZ ⟨rfl,DF⟩;have mn:=da.quiet DF;refine aa (.bool (!(decide (0<=t.offer)))) ?_;refine ag (ab ?_);refine a9 (!(decide (0<=t.offer))) ?_ ?_
 ·intro fi;have gK:=K8 fi;have lR:=ack gK;refine af (ah ?_);refine db mn 1 8 (gC t) aQ 0 ?_;refine store_ mn 0 (.agg (gC t)) cY 0 ?_;intro Jd gm;refine aa (.int .i64 (-1)) ?_;refine ag (ab (wp_ret (oz ?_)));refine dk rfl (cZ [.cell 2 88,.tmp 3] [.agg (gC t),.int .i64 (-1)] (.tuple #[.agg (gC t),.int .i64 (-1)]) ⟨bh gm 0 8 cY 0,aD,trivial⟩) ?_;have ze:Sd.Tok.tick t=(t,(-1)):=by first|rfl|(simp[Sd.Tok.tick,fi,gK];done)|(simp[Sd.Tok.tick,fi,gK];rfl)|(simp[Sd.Tok.tick,fi,gK];simp[Sd.Tok.tick,fi,gK];done)|(simp[Sd.Tok.tick,fi,gK];simp[Sd.Tok.tick,fi,gK];rfl)|(simp[Sd.Tok.tick,fi,gK];omega)|(unfold Sd.Tok.tick;(repeat' split)<;>first|rfl|assumption|omega|(simp_all;done)|(simp_all;omega))
  exact⟨by(rw[ze])<;>rfl,gm.ch⟩
 intro gM;have fN:=K9 gM;have jV:=acj fN;refine wp_skip (ab (af (ah ?_)));refine aa (.pointer (some ⟨aQ,3,none⟩)) ?_;refine db mn 1 2 (zj t.oa) aQ 3 ?_;refine br 107 #[.agg (zj t.oa)] ?_;refine(Xe t.oa (by omega) (by omega) _).mono ?_;rintro _ qh ⟨rfl,qg⟩;have k_:=mn.quiet qg;refine aa (.pointer (some ⟨aQ,3,none⟩)) ?_;refine store_ k_ 1 (.agg (zj (Sd.Timer.step t.oa))) aQ 3 ?_;intro TG wW;refine ag (ab (af (af (ah ?_))));refine aa (.pointer (some ⟨aQ,3,none⟩)) ?_;refine db wW 1 2 (zj (Sd.Timer.step t.oa)) aQ 3 ?_;refine br 108 #[.agg (zj (Sd.Timer.step t.oa))] ?_;refine(adM (Sd.Timer.step t.oa) _).mono ?_;rintro _ Ev ⟨rfl,oO⟩;have gL:=wW.quiet oO;refine aa (.bool (!(Sd.Timer.due (Sd.Timer.step t.oa)))) ?_;refine ag (ab ?_);refine a9 (!(Sd.Timer.due (Sd.Timer.step t.oa))) ?_ ?_
 ·intro oU;have fD:=K8 oU;have iD:=ack fD;refine af (ah ?_);refine db gL 1 8 #[.int .i64 t.holder,.int .i64 t.epoch,.int .i64 t.offer,.int .i64 (Sd.Timer.step t.oa).n,.int .i64 (Sd.Timer.step t.oa).most,.int .i64 t.la.n,.int .i64 t.la.most,.bool t.bad] aQ 0 ?_;refine store_ gL 0 (.agg #[.int .i64 t.holder,.int .i64 t.epoch,.int .i64 t.offer,.int .i64 (Sd.Timer.step t.oa).n,.int .i64 (Sd.Timer.step t.oa).most,.int .i64 t.la.n,.int .i64 t.la.most,.bool t.bad]) cY 0 ?_;intro Ji EC;refine aa (.int .i64 (-1)) ?_;refine ag (ab (wp_ret (oz ?_)));refine dk rfl (cZ [.cell 2 88,.tmp 3] [.agg #[.int .i64 t.holder,.int .i64 t.epoch,.int .i64 t.offer,.int .i64 (Sd.Timer.step t.oa).n,.int .i64 (Sd.Timer.step t.oa).most,.int .i64 t.la.n,.int .i64 t.la.most,.bool t.bad],.int .i64 (-1)] (.tuple #[.agg #[.int .i64 t.holder,.int .i64 t.epoch,.int .i64 t.offer,.int .i64 (Sd.Timer.step t.oa).n,.int .i64 (Sd.Timer.step t.oa).most,.int .i64 t.la.n,.int .i64 t.la.most,.bool t.bad],.int .i64 (-1)]) ⟨bh EC 0 8 cY 0,aD,trivial⟩) ?_;have ze:Sd.Tok.tick t=((⟨t.holder,t.epoch,t.offer,(Sd.Timer.step t.oa),t.la,t.bad⟩:Sd.Tok),(-1)):=by first|rfl|(simp[Sd.Tok.tick,gM,fN,oU,fD];done)|(simp[Sd.Tok.tick,gM,fN,oU,fD];rfl)|(simp[Sd.Tok.tick,gM,fN,oU,fD];simp[Sd.Tok.tick,gM,fN,oU,fD];done)|(simp[Sd.Tok.tick,gM,fN,oU,fD];simp[Sd.Tok.tick,gM,fN,oU,fD];rfl)|(simp[Sd.Tok.tick,gM,fN,oU,fD];omega)|(unfold Sd.Tok.tick;(repeat' split)<;>first|rfl|assumption|omega|(simp_all;done)|(simp_all;omega))
  exact⟨by(rw[ze])<;>rfl,EC.ch⟩
 intro qk;have iF:=K9 qk;have BR:=acj iF;refine wp_skip (ab (af ?_));have zD:=gL.WG 0 0 8 (b:=cY) (by kernel_rfl);refine Gz gL 5 4 0 cY 0 [] (.agg (gC (Sd.Tok.bG (⟨t.holder,t.epoch,t.offer,(Sd.Timer.step t.oa),t.la,t.bad⟩:Sd.Tok)))) [.agg #[.int .i64 t.holder,.int .i64 t.epoch,.int .i64 t.offer,.int .i64 (Sd.Timer.step t.oa).n,.int .i64 (Sd.Timer.step t.oa).most,.int .i64 t.la.n,.int .i64 t.la.most,.bool t.bad],.agg (gC (Sd.Tok.bG (⟨t.holder,t.epoch,t.offer,(Sd.Timer.step t.oa),t.la,t.bad⟩:Sd.Tok))),.pointer (some ⟨aQ,2,none⟩),.int .i64 t.offer,undef] [[5,0],[5,1],[5,2],[5,3],[5,4]] (aL (eN_ zD 0 aQ 0 8 #[.int .i64 t.holder,.int .i64 t.epoch,.int .i64 t.offer,.int .i64 (Sd.Timer.step t.oa).n,.int .i64 (Sd.Timer.step t.oa).most,.int .i64 t.la.n,.int .i64 t.la.most,.bool t.bad]) (aL (eC_ 109 #[.agg #[.int .i64 t.holder,.int .i64 t.epoch,.int .i64 t.offer,.int .i64 (Sd.Timer.step t.oa).n,.int .i64 (Sd.Timer.step t.oa).most,.int .i64 t.la.n,.int .i64 t.la.most,.bool t.bad]] (Nr (⟨t.holder,t.epoch,t.offer,(Sd.Timer.step t.oa),t.la,t.bad⟩:Sd.Tok))) (aL KI (aL (eL_ zD 0 aQ 2) (aL (eW_ gL 0 (.agg (gC (Sd.Tok.bG (⟨t.holder,t.epoch,t.offer,(Sd.Timer.step t.oa),t.la,t.bad⟩:Sd.Tok)))) cY 0) (nk)))))) ?_;intro agT BQ;refine aa (.int .i64 t.offer) ?_;refine ag (ab (wp_ret ?_));refine dk rfl (cZ [.cell 2 88,.tmp 3] [.agg (gC (Sd.Tok.bG (⟨t.holder,t.epoch,t.offer,(Sd.Timer.step t.oa),t.la,t.bad⟩:Sd.Tok))),.int .i64 t.offer] (.tuple #[.agg (gC (Sd.Tok.bG (⟨t.holder,t.epoch,t.offer,(Sd.Timer.step t.oa),t.la,t.bad⟩:Sd.Tok))),.int .i64 t.offer]) ⟨bh BQ 0 8 cY 0,aD,trivial⟩) ?_;have ze:Sd.Tok.tick t=((Sd.Tok.bG (⟨t.holder,t.epoch,t.offer,(Sd.Timer.step t.oa),t.la,t.bad⟩:Sd.Tok)),t.offer):=by first|rfl|(simp[Sd.Tok.tick,gM,fN,qk,iF];done)|(simp[Sd.Tok.tick,gM,fN,qk,iF];rfl)|(simp[Sd.Tok.tick,gM,fN,qk,iF];simp[Sd.Tok.tick,gM,fN,qk,iF];done)|(simp[Sd.Tok.tick,gM,fN,qk,iF];simp[Sd.Tok.tick,gM,fN,qk,iF];rfl)|(simp[Sd.Tok.tick,gM,fN,qk,iF];omega)|(unfold Sd.Tok.tick;(repeat' split)<;>first|rfl|assumption|omega|(simp_all;done)|(simp_all;omega))
 exact⟨by(rw[ze])<;>rfl,BQ.ch⟩
theorem TH (p:Sd.Pol) (ka:Nat->Option Addr) (kn kc:Nat->Nat) (t:Sd.Tok) (f o:Int) (th:Bool) (X:V->Prop):jr prog [zst] 30 177 [.agg (eS p ka kn kc),.agg (jl t),.int .i64 f,.int .i64 o,.bool th] X=
 let r:Int->Prop:=λn=>X (.aI [.agg (jl t),.int .i64 n])
 cond (f !=t.holder) (r 20) (cond (decide (t.epoch>=65535)) (r 24) (cond (o==f) (r 25) (cond (decide (o<1)) (r 2) (cond (decide (o>3)) (r 2) (cond (!th) (r 2) (cond (decide (t.offer>=0)) (r 28) (True/\X (.aI [.agg (jl {t with offer:=o,oa:=⟨0,if 0>p.i 44 then 0 else p.i 44⟩}),.int .i64 0])))))))):=by kernel_rfl
theorem adQ (p:Sd.Pol) (ka:Nat->Option Addr) (kn kc:Nat->Nat) (t:Sd.Tok) (f:Int) (o:Int) (th:Bool) (hp:Sd.cP p) (w:World):
 au prog 177 #[.agg (kG p ka kn kc),.agg (gC t),.int .i64 f,.int .i64 o,.bool th] w λv w1=>v=.tuple #[.agg (gC ((Sd.Tok.make p t f o th).1)),.int .i64 ((Sd.Tok.make p t f o th).2)]/\Ch [] w w1:=by
 refine qn (KZ (ZC _)) (n:=30) (xs:=[.agg (eS p ka kn kc),.agg (jl t),.int .i64 f,.int .i64 o,.bool th]) (v:=.aI [.agg (jl (t.make p f o th).1),.int .i64 (t.make p f o th).2]) ?_;rw[TH];unfold Sd.Tok.make;refine aS (λh=>by rw[if_pos (by simpa using h)]) (λh=>?_);rw[if_neg (by simpa using h)];refine aS (λh=>by rw[if_pos (by simpa using h)]) (λh=>?_);rw[if_neg (by simpa using h)];refine aS (λh=>by rw[if_pos (by simpa using h)]) (λh=>?_);rw[if_neg (by simpa using h)];refine aS (λh=>by rw[if_pos (.inl (by simpa using h))]) (λh1=>?_);refine aS (λh=>by rw[if_pos (.inr (.inl (by simpa using h)))]) (λh2=>?_);refine aS (λh=>by rw[if_pos (.inr (.inr (by simpa using h)))]) (λh3=>?_);rw[if_neg (by simp at h1 h2 h3;rw[h3];simp;omega)];refine aS (λh=>by rw[if_pos (by simpa using h)]) (λh=>?_);rw[if_neg (show¬0<=t.offer by simpa using h),mU];exact⟨trivial,rfl⟩
def clX (p:Sd.Pol) (c:Nat) (n:Int):Int:=Sd.n8 n (i64.wrap (0-p.i (50+c))) (p.i (50+c))
theorem TI (p:Sd.Pol) (ka:Nat->Option Addr) (kn kc:Nat->Nat) (pt:Sd.Point) (y:Sd.X4) (b:Sd.Label) (X:V->Prop):∀c:Nat,c<4->jr prog [zcl] 30 150 [.agg (eS p ka kn kc),.agg (wI pt),.int .i64 (.ofNat c),.agg (Nm y),.agg (Ts b)] X=(True/\True/\True/\True/\X (.agg (wI ⟨.ofNat c,y.map (clX p c),pt.now,b⟩)))
 |0,_=>by kernel_rfl
 |1,_=>by kernel_rfl
 |2,_=>by kernel_rfl
 |3,_=>by kernel_rfl
 |n+4,h=>absurd h (by omega)
theorem B2 (p:Sd.Pol) (ka:Nat->Option Addr) (kn kc:Nat->Nat) (pt:Sd.Point) (y:Sd.X4) (b:Sd.Label) (n:Nat) (X:V->Prop):jr prog [zcl] 30 150 [.agg (eS p ka kn kc),.agg (wI pt),.int .i64 (.ofNat (n+4)),.agg (Nm y),.agg (Ts b)] X=cond (decide (Int.ofNat (n+4)>=4)) (X (.agg (wI ⟨.ofNat (n+4),.zero,pt.now,b⟩))) False/\
 jr prog [zcl] 30 150 [.agg (eS p ka kn kc),.agg (wI pt),.int .i64 (.negSucc n),.agg (Nm y),.agg (Ts b)] X=cond (decide (Int.negSucc n<0)) (X (.agg (wI ⟨.negSucc n,.zero,pt.now,b⟩))) False:=⟨by kernel_rfl,by kernel_rfl⟩
theorem adR (p:Sd.Pol) (ka:Nat->Option Addr) (kn kc:Nat->Nat) (pt:Sd.Point) (c:Int) (y:Sd.X4) (b:Sd.Label) (hp:Sd.cP p) (w:World):
 au prog 150 #[.agg (kG p ka kn kc),.agg (ptC pt),.int .i64 c,.agg (x4C y),.agg (adJ b)] w λv w1=>v=.agg (ptC (Sd.Point.set p pt c y b))/\Ch [] w w1:=by
 cases c with
 |ofNat n=>
  by_cases h:n<4
  ·refine qn (KZ (EB _)) (n:=30) (xs:=[.agg (eS p ka kn kc),.agg (wI pt),.int .i64 (.ofNat n),.agg (Nm y),.agg (Ts b)]) (v:=.agg (wI ⟨.ofNat n,y.map (clX p n),pt.now,b⟩)) ?_ (by kernel_rfl) ?_
   ·rw[TI p ka kn kc pt y b _ n h];exact⟨trivial,trivial,trivial,trivial,rfl⟩
   ·unfold Sd.Point.set;rw[if_neg (by show¬((n:Int)<0\/4<=(n:Int));omega)];have hm:=hp.most n h;unfold Sd.Pol.most at hm;have e:clX p n=λx=>Sd.n8 x (-(p.most (Int.ofNat n).toNat)) (p.most (Int.ofNat n).toNat):=by
     funext x;unfold clX;rw[iw (by omega),Int.zero_sub];rfl
    rw[e];rfl
  ·refine qn (KZ (EB _)) (n:=30) (xs:=[.agg (eS p ka kn kc),.agg (wI pt),.int .i64 (.ofNat n),.agg (Nm y),.agg (Ts b)]) (v:=.agg (wI ⟨.ofNat n,.zero,pt.now,b⟩)) ?_ (by kernel_rfl) ?_
   ·have q:=(B2 p ka kn kc pt y b (n-4) (·=.agg (wI ⟨.ofNat n,.zero,pt.now,b⟩))).1;rw[show n-4+4=n by omega]at q;rw[q];exact aS (λ_=>rfl) λh=>absurd (of_decide_eq_false h) (by show¬¬(n:Int)>=4;omega)
   ·unfold Sd.Point.set;rw[if_pos (.inr (by show(4:Int)<=(n:Int);omega))];rfl
 |negSucc n=>
  refine qn (KZ (EB _)) (n:=30) (xs:=[.agg (eS p ka kn kc),.agg (wI pt),.int .i64 (.negSucc n),.agg (Nm y),.agg (Ts b)]) (v:=.agg (wI ⟨.negSucc n,.zero,pt.now,b⟩)) ?_ (by kernel_rfl) ?_
  ·rw[(B2 p ka kn kc pt y b n _).2];exact aS (λ_=>rfl) λh=>absurd (of_decide_eq_false h) (by have:=Int.negSucc_lt_zero n;omega)
  ·unfold Sd.Point.set;rw[if_pos (.inl (Int.negSucc_lt_zero n))];rfl
theorem TJ (pt:Sd.Point) (b:Sd.Label) (X:V->Prop):jr prog [] 30 154 [.agg (wI pt),.agg (Ts b)] X=X (.agg (wI (pt.hold b))):=by kernel_rfl
theorem adS (pt:Sd.Point) (b:Sd.Label) (w:World):
 au prog 154 #[.agg (ptC pt),.agg (adJ b)] w λv w1=>v=.agg (ptC (Sd.Point.hold pt b))/\Ch [] w w1:=by
 refine qn aX.nil (n:=30) (xs:=[.agg (wI pt),.agg (Ts b)]) (v:=.agg (wI (pt.hold b))) ?_;rw[TJ]
def byX (a m:Int) (X:V->Prop) (Y:Prop):Prop:=cond (decide (a<i64.wrap (0-m))) (X (.bool true)) (cond (decide (a>m)) (X (.bool true)) Y)
theorem adT (m:Int) (y:Sd.X4) (X:V->Prop):jr prog [] 30 147 [.int .i64 m,.agg (Nm y)] X=byX y.a m X (byX y.b m X (byX y.c m X (byX y.d m X (X (.bool false))))):=by kernel_rfl
theorem zo {a m:Int} (hm:0<=m/\m<=1000) {b:Bool} {Y:Prop} (h:a< -m\/m<a->b=true) (k:¬(a< -m\/m<a)->Y):byX a m (·=.bool b) Y:=by
 unfold byX;rw[iw (by omega),Int.zero_sub];refine aS (λx=>by rw[h (.inl (by simpa using x))]) (λx=>aS (λz=>by rw[h (.inr (by simpa using z))]) λz=>k ?_);simp at x z;omega
theorem Hg (m:Int) (y:Sd.X4) (hm:0<=m/\m<=1000) (w:World):
 au prog 147 #[.int .i64 m,.agg (x4C y)] w λv w1=>v=.bool (Sd.Li m y)/\Ch [] w w1:=by
 refine qn aX.nil (n:=30) (xs:=[.int .i64 m,.agg (Nm y)]) (v:=.bool (Sd.Li m y)) ?_;rw[adT];unfold Sd.Li;refine zo hm (λh=>by simp[h]) λh1=>zo hm (λh=>by simp[h]) λh2=>zo hm (λh=>by simp[h]) λh3=>zo hm (λh=>by simp[h]) λh4=>?_;congr 1;simp;omega
theorem ZK (gl:Nat->Option Nat):zby.Ok prog gl:=by
 intro args bl p_ v_ h hp ids w _ _;unfold zby at h;dsimp only at h;split at h
 ·rename_i m a b c d;simp only[Option.some.injEq,Prod.mk.injEq]at h;obtain⟨rfl,rfl⟩:=h;exact told (Hg m ⟨a,b,c,d⟩ hp w)
 ·cases h
def smV (s:Sd.dM):List V:=.bool s.valid::(Nm s.x++[.bool s.D0])
theorem ZL (p:Sd.Pol) (ka:Nat->Option Addr) (kn kc:Nat->Nat) (r:Int) (s:Sd.dM) (X:V->Prop):jr prog [zby] 30 96 [.agg (eS p ka kn kc),.int .i64 r,.agg (smV s)] X=
 let m:Int:=if 0>r then 0 else r
 cond (!s.valid) (X (.aI [.int .i64 0,.bool false])) ((0<=p.i 47/\p.i 47<=1000)/\cond (!Sd.Li (p.i 47) s.x) (X (.aI [.int .i64 0,.bool false])) (cond (decide (m<p.i 46)) (X (.aI [.int .i64 (i64.wrap (m+1)),.bool (decide (i64.wrap (m+1)>=p.i 46))])) (X (.aI [.int .i64 (p.i 46),.bool (decide (p.i 46>=p.i 46))])))):=by kernel_rfl
theorem agU (p:Sd.Pol) (ka:Nat->Option Addr) (kn kc:Nat->Nat) (r:Int) (s:Sd.dM) (hp:Sd.cP p) (h_r:-9223372036854775808<=r/\r<=9223372036854775807) (w:World):
 au prog 96 #[.agg (kG p ka kn kc),.int .i64 r,.agg (agP s)] w λv w1=>v=.tuple #[.int .i64 ((Sd.n9 p r s).1),.bool ((Sd.n9 p r s).2)]/\Ch [] w w1:=by
 refine qn (KZ (ZK _)) (n:=30) (xs:=[.agg (eS p ka kn kc),.int .i64 r,.agg (smV s)]) (v:=.aI [.int .i64 (Sd.n9 p r s).1,.bool (Sd.n9 p r s).2]) ?_;rw[ZL];have hb:=hp.beyond;have hs:=hp.n7;unfold Sd.Pol.beyond at hb;unfold Sd.Pol.n7 at hs;have em:(if 0>r then 0 else r)=max r 0:=by by_cases h:0>r<;>simp[h]<;>omega
 rw[em];unfold Sd.n9 Sd.Pol.beyond Sd.Pol.n7;refine aS (λh=>by rw[if_pos (.inl (by simpa using h))]) (λh=>⟨hb,aS (λh'=>by rw[if_pos (.inr (by simpa using h'))]) λh'=>?_⟩);rw[if_neg (by simp at h h';simp[h,h'])];unfold Sd.sat;refine aS (λh=>?_) (λh=>?_)
 ·have h:max r 0<p.i 46:=by simpa using h
  rw[if_pos h,iw (by omega)]
 ·rw[if_neg (by simpa using h)]
theorem Ny (p:Sd.Pol) (ka:Nat->Option Addr) (kn kc:Nat->Nat) (pt:Sd.Point) (X:V->Prop):jr prog [ztw] 30 70 [.agg (eS p ka kn kc),.agg (wI pt)] X=
 let n:Sd.X4:=Sd.X4.zip (λa b=>Sd.iR a b (p.i 54)) pt.now pt.cg
 ((aB pt.now.a/\aB pt.cg.a/\aB (p.i 54))/\(aB pt.now.b/\aB pt.cg.b/\aB (p.i 54))/\(aB pt.now.c/\aB pt.cg.c/\aB (p.i 54))/\(aB pt.now.d/\aB pt.cg.d/\aB (p.i 54))/\
   cond (!(n.a==pt.now.a&&(n.b==pt.now.b&&(n.c==pt.now.c&&(n.d==pt.now.d&&true))))) (X (.agg (wI ⟨pt.cls,pt.cg,n,{pt.eJ with mi:=4}⟩))) (X (.agg (wI ⟨pt.cls,pt.cg,n,pt.eJ⟩)))):=by kernel_rfl
theorem ZM (p:Sd.Pol) (ka:Nat->Option Addr) (kn kc:Nat->Nat) (pt:Sd.Point) (hp:Sd.cP p) (oV:-9223372036854775808<=pt.cg.a/\pt.cg.a<=9223372036854775807) (oW:-9223372036854775808<=pt.cg.b/\pt.cg.b<=9223372036854775807) (oX:-9223372036854775808<=pt.cg.c/\pt.cg.c<=9223372036854775807) (oY:-9223372036854775808<=pt.cg.d/\pt.cg.d<=9223372036854775807) (oZ:-9223372036854775808<=pt.now.a/\pt.now.a<=9223372036854775807) (o8:-9223372036854775808<=pt.now.b/\pt.now.b<=9223372036854775807) (o9:-9223372036854775808<=pt.now.c/\pt.now.c<=9223372036854775807) (o_:-9223372036854775808<=pt.now.d/\pt.now.d<=9223372036854775807) (w:World):
 au prog 70 #[.agg (kG p ka kn kc),.agg (ptC pt)] w λv w1=>v=.agg (ptC (Sd.Point.step p pt))/\Ch [] w w1:=by
 refine qn (KZ (ZB _)) (n:=30) (xs:=[.agg (eS p ka kn kc),.agg (wI pt)]) (v:=.agg (wI (pt.step p))) ?_;rw[Ny];have hr:=hp.IE;unfold Sd.Pol.IE at hr;have hr:aB (p.i 54):=by unfold aB;omega
 refine⟨⟨oZ,oV,hr⟩,⟨o8,oW,hr⟩,⟨o9,oX,hr⟩,⟨o_,oY,hr⟩,?_⟩;have e:Sd.Point.step p pt=⟨pt.cls,pt.cg,Sd.X4.zip (λa b=>Sd.iR a b (p.i 54)) pt.now pt.cg,if Sd.X4.zip (λa b=>Sd.iR a b (p.i 54)) pt.now pt.cg=pt.now then pt.eJ else{pt.eJ with mi:=4}⟩:=rfl;rw[e];generalize Sd.X4.zip (λa b=>Sd.iR a b (p.i 54)) pt.now pt.cg=n;refine aS (λh=>?_) (λh=>?_)
 ·rw[if_neg];intro h2;rw[h2]at h;simp at h
 ·rw[if_pos];rcases n with⟨n1,n2,n3,n4⟩;rcases pt with⟨q,u,⟨m1,m2,m3,m4⟩,l⟩;simp at h;simp[h]
end Go.Proofs.YtlkpikfddnjilaaGreatDoor
