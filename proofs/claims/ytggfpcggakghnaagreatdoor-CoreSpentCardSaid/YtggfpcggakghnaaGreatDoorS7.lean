/- Part 7 of the proof. -/
import Derived.Test.YtggfpcggakghnaaGreatDoorRows
import Derived.Test.YtggfpcggakghnaaGreatDoorProg
import Derived.Test.YtggfpcggakghnaaGreatDoorS6
set_option linter.all false
set_option maxRecDepth 100000
set_option maxHeartbeats 4000000
open Go.Proofs.Tryz
open Go.IntKind (u8 u16 u32 u64 i64)
namespace Go.Proofs.YtggfpcggakghnaaGreatDoor
open Go Go.RowKit Go.BigFrame Sx Vx
def adT (t:Sd.Timer):List V:=[.int .i64 t.n,.int .i64 t.most]
def Ya:List V->Option Sd.Timer
 |[.int .i64 x0,.int .i64 x1]=>some ⟨x0,x1⟩
 |_=>none
theorem JS {l:List V} {t:Sd.Timer} (h:Ya l=some t):l=adT t:=by
 unfold Ya at h;split at h
 ·obtain rfl:=Option.some.inj h;rfl
 ·cases h
def x4L (t:Sd.X4):List V:=[.int .i64 t.a,.int .i64 t.b,.int .i64 t.c,.int .i64 t.d]
def x4R:List V->Option Sd.X4
 |[.int .i64 x0,.int .i64 x1,.int .i64 x2,.int .i64 x3]=>some ⟨x0,x1,x2,x3⟩
 |_=>none
theorem Rk {l:List V} {t:Sd.X4} (h:x4R l=some t):l=x4L t:=by
 unfold x4R at h;split at h
 ·obtain rfl:=Option.some.inj h;rfl
 ·cases h
def oF (t:Sd.Label):List V:=[.int .i64 t.mD,.int .i64 t.source,.int .i64 t.seq]
def Rl:List V->Option Sd.Label
 |[.int .i64 x0,.int .i64 x1,.int .i64 x2]=>some ⟨x0,x1,x2⟩
 |_=>none
theorem A6 {l:List V} {t:Sd.Label} (h:Rl l=some t):l=oF t:=by
 unfold Rl at h;split at h
 ·obtain rfl:=Option.some.inj h;rfl
 ·cases h
def cI (t:Sd.Tok):List V:=[.int .i64 t.holder,.int .i64 t.epoch,.int .i64 t.offer,.int .i64 t.oa.n,.int .i64 t.oa.most,.int .i64 t.la.n,.int .i64 t.la.most,.bool t.bad]
def kK:List V->Option Sd.Tok
 |[.int .i64 x0,.int .i64 x1,.int .i64 x2,.int .i64 x3,.int .i64 x4,.int .i64 x5,.int .i64 x6,.bool x7]=>some ⟨x0,x1,x2,⟨x3,x4⟩,⟨x5,x6⟩,x7⟩
 |_=>none
theorem fh {l:List V} {t:Sd.Tok} (h:kK l=some t):l=cI t:=by
 unfold kK at h;split at h
 ·obtain rfl:=Option.some.inj h;rfl
 ·cases h
def rK (t:Sd.Point):List V:=[.int .i64 t.cls,.int .i64 t.bx.a,.int .i64 t.bx.b,.int .i64 t.bx.c,.int .i64 t.bx.d,.int .i64 t.now.a,.int .i64 t.now.b,.int .i64 t.now.c,.int .i64 t.now.d,.int .i64 t.cX.mD,.int .i64 t.cX.source,.int .i64 t.cX.seq]
def ptR:List V->Option Sd.Point
 |[.int .i64 x0,.int .i64 x1,.int .i64 x2,.int .i64 x3,.int .i64 x4,.int .i64 x5,.int .i64 x6,.int .i64 x7,.int .i64 x8,.int .i64 x9,.int .i64 x10,.int .i64 x11]=>some ⟨x0,⟨x1,x2,x3,x4⟩,⟨x5,x6,x7,x8⟩,⟨x9,x10,x11⟩⟩
 |_=>none
theorem GS {l:List V} {t:Sd.Point} (h:ptR l=some t):l=rK t:=by
 unfold ptR at h;split at h
 ·obtain rfl:=Option.some.inj h;rfl
 ·cases h
def cw (t:Sd.bW):List V:=[.int .i64 t.kind,.int .i64 t.seq,.int .i64 t.role,.int .i64 t.bx,.int .i64 t.epoch,.int .i64 t.mode,.int .i64 t.cls,.bool t.now,.int .i64 t.x.a,.int .i64 t.x.b,.int .i64 t.x.c,.int .i64 t.x.d]
def DU:List V->Option Sd.bW
 |[.int .i64 x0,.int .i64 x1,.int .i64 x2,.int .i64 x3,.int .i64 x4,.int .i64 x5,.int .i64 x6,.bool x7,.int .i64 x8,.int .i64 x9,.int .i64 x10,.int .i64 x11]=>some ⟨x0,x1,x2,x3,x4,x5,x6,x7,⟨x8,x9,x10,x11⟩⟩
 |_=>none
theorem n8 {l:List V} {t:Sd.bW} (h:DU l=some t):l=cw t:=by
 unfold DU at h;split at h
 ·obtain rfl:=Option.some.inj h;rfl
 ·cases h
theorem DV (ids:List Nat) (t:Sd.bW):den ids (.agg (cw t))=.agg (XI t):=rfl
def ri (t:Sd.dS):List V:=[.bool t.valid,.int .i64 t.x.a,.int .i64 t.x.b,.int .i64 t.x.c,.int .i64 t.x.d,.bool t.FQ]
def M3:List V->Option Sd.dS
 |[.bool x0,.int .i64 x1,.int .i64 x2,.int .i64 x3,.int .i64 x4,.bool x5]=>some ⟨x0,⟨x1,x2,x3,x4⟩,x5⟩
 |_=>none
theorem vi {l:List V} {t:Sd.dS} (h:M3 l=some t):l=ri t:=by
 unfold M3 at h;split at h
 ·obtain rfl:=Option.some.inj h;rfl
 ·cases h
def aie (t:Sd.cN):List V:=[.bool t.any,.int .i64 t.high,.int .u64 t.seen]
def adU:List V->Option Sd.cN
 |[.bool x0,.int .i64 x1,.int .u64 x2]=>some ⟨x0,x1,x2⟩
 |_=>none
theorem Yb {l:List V} {t:Sd.cN} (h:adU l=some t):l=aie t:=by
 unfold adU at h;split at h
 ·obtain rfl:=Option.some.inj h;rfl
 ·cases h
def Rn (t:Sd.Ask):List V:=[.int .i64 t.source,.int .i64 t.aV,.int .i64 t.gU.n,.int .i64 t.gU.most]
def Yc:List V->Option Sd.Ask
 |[.int .i64 x0,.int .i64 x1,.int .i64 x2,.int .i64 x3]=>some ⟨x0,x1,⟨x2,x3⟩⟩
 |_=>none
theorem Yd {l:List V} {t:Sd.Ask} (h:Yc l=some t):l=Rn t:=by
 unfold Yc at h;split at h
 ·obtain rfl:=Option.some.inj h;rfl
 ·cases h
def Ro:QF:=⟨78,λargs _=>match args with
 |[.int .i64 n,.int .i64 m]=>some ((-9223372036854775808<=n/\n<=9223372036854775807)/\(-9223372036854775808<=m/\m<=9223372036854775807),.int .i64 (Sd.sat n m))
 |_=>none⟩
theorem Rp (gl:Nat->Option Nat):Ro.Ok prog gl:=by
 intro args bl p_ v_ h hp ids w _ _;unfold Ro at h;dsimp only at h;split at h
 ·rename_i n m;simp only[Option.some.injEq,Prod.mk.injEq]at h;obtain⟨rfl,rfl⟩:=h;obtain⟨h_n,h_m⟩:=hp;exact told (alG n m h_n h_m w)
 ·cases h
def A7:QF:=⟨183,λargs _=>match args with
 |[.int .i64 n,.int .i64 lo,.int .i64 hi]=>some (True,.int .i64 (Sd.oM n lo hi))
 |_=>none⟩
theorem GU (gl:Nat->Option Nat):A7.Ok prog gl:=by
 intro args bl p_ v_ h hp ids w _ _;unfold A7 at h;dsimp only at h;split at h
 ·rename_i n lo hi;simp only[Option.some.injEq,Prod.mk.injEq]at h;obtain⟨rfl,rfl⟩:=h;exact told (QW n lo hi w)
 ·cases h
def wR:QF:=⟨142,λargs _=>match args with
 |[.int .i64 nw,.int .i64 t,.int .i64 b]=>some ((-9223372036854775808<=nw/\nw<=9223372036854775807)/\(-9223372036854775808<=t/\t<=9223372036854775807)/\(-9223372036854775808<=b/\b<=9223372036854775807),.int .i64 (Sd.jf nw t b))
 |_=>none⟩
theorem DW (gl:Nat->Option Nat):wR.Ok prog gl:=by
 intro args bl p_ v_ h hp ids w _ _;unfold wR at h;dsimp only at h;split at h
 ·rename_i nw t b;simp only[Option.some.injEq,Prod.mk.injEq]at h;obtain⟨rfl,rfl⟩:=h;obtain⟨ahR,h_t,h_b⟩:=hp;exact told (JH nw t b ahR h_t h_b w)
 ·cases h
def Rq:QF:=⟨189,λargs _=>match args with
 |[.int .i64 s,.int .i64 i]=>some (True,.bool (Sd.has s i))
 |_=>none⟩
theorem Rr (gl:Nat->Option Nat):Rq.Ok prog gl:=by
 intro args bl p_ v_ h hp ids w _ _;unfold Rq at h;dsimp only at h;split at h
 ·rename_i s i;simp only[Option.some.injEq,Prod.mk.injEq]at h;obtain⟨rfl,rfl⟩:=h;exact told (ahS s i w)
 ·cases h
def A8:QF:=⟨179,λargs _=>match args with
 |[.int .i64 m]=>some ((-9223372036854775808<=m/\m<=9223372036854775807),.agg (adT (Sd.Timer.start m)))
 |_=>none⟩
theorem GV (gl:Nat->Option Nat):A8.Ok prog gl:=by
 intro args bl p_ v_ h hp ids w _ _;unfold A8 at h;dsimp only at h;split at h
 ·rename_i m;simp only[Option.some.injEq,Prod.mk.injEq]at h;obtain⟨rfl,rfl⟩:=h;have h_m:=hp;exact told (ado m h_m w)
 ·cases h
def GW:QF:=⟨138,λargs _=>match args with
 |[.agg oR]=>(match Ya oR with|some t=>some ((-9223372036854775808<=t.n/\t.n<=9223372036854775807)/\(-9223372036854775808<=t.most/\t.most<=9223372036854775807),.agg (adT (Sd.Timer.step t)))|none=>none)
 |_=>none⟩
theorem M4 (gl:Nat->Option Nat):GW.Ok prog gl:=by
 intro args bl p_ v_ h hp ids w _ _;unfold GW at h;dsimp only at h;split at h
 ·rename_i oR;split at h
  ·rename_i t yP;simp only[Option.some.injEq,Prod.mk.injEq]at h;obtain⟨rfl,rfl⟩:=h;obtain rfl:=JS yP;obtain⟨abu,DB⟩:=hp;exact told (abt t abu DB w)
  ·cases h
 ·cases h
def Rs:QF:=⟨139,λargs _=>match args with
 |[.agg oR]=>(match Ya oR with|some t=>some (True,.bool (Sd.Timer.due t))|none=>none)
 |_=>none⟩
theorem Rt (gl:Nat->Option Nat):Rs.Ok prog gl:=by
 intro args bl p_ v_ h hp ids w _ _;unfold Rs at h;dsimp only at h;split at h
 ·rename_i oR;split at h
  ·rename_i t yP;simp only[Option.some.injEq,Prod.mk.injEq]at h;obtain⟨rfl,rfl⟩:=h;obtain rfl:=JS yP;exact told (ahT t w)
  ·cases h
 ·cases h
def A9:QF:=⟨130,λargs _=>match args with
 |[.agg oR,.int .i64 o]=>(match kK oR with|some t=>some ((-9223372036854775808<=t.epoch/\t.epoch<=9223372036854775807),.az [.agg (cI ((Sd.Tok.bz t o).1)),.int .i64 ((Sd.Tok.bz t o).2)])|none=>none)
 |_=>none⟩
theorem GY (gl:Nat->Option Nat):A9.Ok prog gl:=by
 intro args bl p_ v_ h hp ids w _ _;unfold A9 at h;dsimp only at h;split at h
 ·rename_i oR o;split at h
  ·rename_i t yP;simp only[Option.some.injEq,Prod.mk.injEq]at h;obtain⟨rfl,rfl⟩:=h;obtain rfl:=fh yP;have fw:=hp;exact told (adq t o fw w)
  ·cases h
 ·cases h
def A_:QF:=⟨84,λargs _=>match args with
 |[.agg oR]=>(match kK oR with|some t=>some ((-9223372036854775808<=t.epoch/\t.epoch<=9223372036854775807),.agg (cI (Sd.Tok.dO t)))|none=>none)
 |_=>none⟩
theorem GZ (gl:Nat->Option Nat):A_.Ok prog gl:=by
 intro args bl p_ v_ h hp ids w _ _;unfold A_ at h;dsimp only at h;split at h
 ·rename_i oR;split at h
  ·rename_i t yP;simp only[Option.some.injEq,Prod.mk.injEq]at h;obtain⟨rfl,rfl⟩:=h;obtain rfl:=fh yP;have fw:=hp;exact told (adr t fw w)
  ·cases h
 ·cases h
def G0:QF:=⟨137,λargs _=>match args with
 |[.agg oR]=>(match kK oR with|some t=>some (True,.bool (decide (0<=t.offer)))|none=>none)
 |_=>none⟩
theorem M5 (gl:Nat->Option Nat):G0.Ok prog gl:=by
 intro args bl p_ v_ h hp ids w _ _;unfold G0 at h;dsimp only at h;split at h
 ·rename_i oR;split at h
  ·rename_i t yP;simp only[Option.some.injEq,Prod.mk.injEq]at h;obtain⟨rfl,rfl⟩:=h;obtain rfl:=fh yP;exact told (open_ t w)
  ·cases h
 ·cases h
def aaz:QF:=⟨140,λargs _=>match args with
 |[.agg oR]=>(match kK oR with|some t=>some (True,.agg (cI (Sd.Tok.bG t)))|none=>none)
 |_=>none⟩
theorem M6 (gl:Nat->Option Nat):aaz.Ok prog gl:=by
 intro args bl p_ v_ h hp ids w _ _;unfold aaz at h;dsimp only at h;split at h
 ·rename_i oR;split at h
  ·rename_i t yP;simp only[Option.some.injEq,Prod.mk.injEq]at h;obtain⟨rfl,rfl⟩:=h;obtain rfl:=fh yP;exact told (QZ t w)
  ·cases h
 ·cases h
def G2:QF:=⟨217,λargs _=>match args with
 |[.agg [.j8 p ka kn kc],.int .i64 s]=>some (True,.int .i64 (Sd.placeOf p s))
 |_=>none⟩
theorem M7 (gl:Nat->Option Nat):G2.Ok prog gl:=by
 intro args bl p_ v_ h hp ids w _ _;unfold G2 at h;dsimp only at h;split at h
 ·rename_i p ka kn kc s;simp only[Option.some.injEq,Prod.mk.injEq]at h;obtain⟨rfl,rfl⟩:=h;exact told (ahU p ka kn kc s w)
 ·cases h
def wS:QF:=⟨215,λargs _=>match args with
 |[.agg [.j8 p ka kn kc],.int .i64 a,.int .i64 b]=>some (True,.bool (Sd.cu p a b))
 |_=>none⟩
theorem DX (gl:Nat->Option Nat):wS.Ok prog gl:=by
 intro args bl p_ v_ h hp ids w _ _;unfold wS at h;dsimp only at h;split at h
 ·rename_i p ka kn kc a b;simp only[Option.some.injEq,Prod.mk.injEq]at h;obtain⟨rfl,rfl⟩:=h;exact told (XP p ka kn kc a b w)
 ·cases h
def Ba:QF:=⟨144,λargs _=>match args with
 |[.agg [.j8 p ka kn kc],.int .i64 s,.int .i64 r]=>some (True,.bool (Sd.fm p s r))
 |_=>none⟩
theorem G3 (gl:Nat->Option Nat):Ba.Ok prog gl:=by
 intro args bl p_ v_ h hp ids w _ _;unfold Ba at h;dsimp only at h;split at h
 ·rename_i p ka kn kc s r;simp only[Option.some.injEq,Prod.mk.injEq]at h;obtain⟨rfl,rfl⟩:=h;exact told (adv p ka kn kc s r w)
 ·cases h
def G4:QF:=⟨182,λargs _=>match args with
 |[.agg [.j8 p ka kn kc],.int .i64 a,.int .i64 b]=>some (True,.bool (Sd.goes p a b))
 |_=>none⟩
theorem M8 (gl:Nat->Option Nat):G4.Ok prog gl:=by
 intro args bl p_ v_ h hp ids w _ _;unfold G4 at h;dsimp only at h;split at h
 ·rename_i p ka kn kc a b;simp only[Option.some.injEq,Prod.mk.injEq]at h;obtain⟨rfl,rfl⟩:=h;exact told (ahV p ka kn kc a b w)
 ·cases h
def Ru:QF:=⟨181,λargs _=>match args with
 |[.agg [.j8 p ka kn kc],.int .i64 m,.int .i64 r,.int .i64 c]=>some (True,.bool (Sd.may p m r c))
 |_=>none⟩
theorem Rv (gl:Nat->Option Nat):Ru.Ok prog gl:=by
 intro args bl p_ v_ h hp ids w _ _;unfold Ru at h;dsimp only at h;split at h
 ·rename_i p ka kn kc m r c;simp only[Option.some.injEq,Prod.mk.injEq]at h;obtain⟨rfl,rfl⟩:=h;exact told (alJ p ka kn kc m r c w)
 ·cases h
def G5:QF:=⟨30,λargs _=>match args with
 |[.agg [.j8 p ka kn kc]]=>some (True,.agg (cI (Sd.Tok.new p)))
 |_=>none⟩
theorem M9 (gl:Nat->Option Nat):G5.Ok prog gl:=by
 intro args bl p_ v_ h hp ids w _ _;unfold G5 at h;dsimp only at h;split at h
 ·rename_i p ka kn kc;simp only[Option.some.injEq,Prod.mk.injEq]at h;obtain⟨rfl,rfl⟩:=h;exact told (abv p ka kn kc w)
 ·cases h
def Rw:QF:=⟨199,λargs _=>match args with
 |[.agg oR,.int .i64 f,.int .i64 e]=>(match kK oR with|some t=>some ((-9223372036854775808<=t.epoch/\t.epoch<=9223372036854775807),.az [.agg (cI ((Sd.Tok.accept t f e).1)),.int .i64 ((Sd.Tok.accept t f e).2)])|none=>none)
 |_=>none⟩
theorem Rx (gl:Nat->Option Nat):Rw.Ok prog gl:=by
 intro args bl p_ v_ h hp ids w _ _;unfold Rw at h;dsimp only at h;split at h
 ·rename_i oR f e;split at h
  ·rename_i t yP;simp only[Option.some.injEq,Prod.mk.injEq]at h;obtain⟨rfl,rfl⟩:=h;obtain rfl:=fh yP;have fw:=hp;exact told (alK t f e fw w)
  ·cases h
 ·cases h
def G6:QF:=⟨200,λargs _=>match args with
 |[.agg oR,.int .i64 f]=>(match kK oR with|some t=>some (True,.az [.agg (cI ((Sd.Tok.fJ t f).1)),.int .i64 ((Sd.Tok.fJ t f).2)])|none=>none)
 |_=>none⟩
theorem M_ (gl:Nat->Option Nat):G6.Ok prog gl:=by
 intro args bl p_ v_ h hp ids w _ _;unfold G6 at h;dsimp only at h;split at h
 ·rename_i oR f;split at h
  ·rename_i t yP;simp only[Option.some.injEq,Prod.mk.injEq]at h;obtain⟨rfl,rfl⟩:=h;obtain rfl:=fh yP;exact told (ahW t f w)
  ·cases h
 ·cases h
def Bb:QF:=⟨136,λargs _=>match args with
 |[.agg oR,.int .i64 s]=>(match kK oR with|some t=>some (True,.az [.agg (cI ((Sd.Tok.drop t s).1)),.bool ((Sd.Tok.drop t s).2)])|none=>none)
 |_=>none⟩
theorem G7 (gl:Nat->Option Nat):Bb.Ok prog gl:=by
 intro args bl p_ v_ h hp ids w _ _;unfold Bb at h;dsimp only at h;split at h
 ·rename_i oR s;split at h
  ·rename_i t yP;simp only[Option.some.injEq,Prod.mk.injEq]at h;obtain⟨rfl,rfl⟩:=h;obtain rfl:=fh yP;exact told (adz t s w)
  ·cases h
 ·cases h
def Bc:QF:=⟨92,λargs _=>match args with
 |[.agg oR]=>(match kK oR with|some t=>some ((-9223372036854775808<=t.oa.n/\t.oa.n<=9223372036854775807)/\(-9223372036854775808<=t.oa.most/\t.oa.most<=9223372036854775807),.az [.agg (cI ((Sd.Tok.tick t).1)),.int .i64 ((Sd.Tok.tick t).2)])|none=>none)
 |_=>none⟩
theorem G8 (gl:Nat->Option Nat):Bc.Ok prog gl:=by
 intro args bl p_ v_ h hp ids w _ _;unfold Bc at h;dsimp only at h;split at h
 ·rename_i oR;split at h
  ·rename_i t yP;simp only[Option.some.injEq,Prod.mk.injEq]at h;obtain⟨rfl,rfl⟩:=h;obtain rfl:=fh yP;obtain⟨DD,um⟩:=hp;exact told (adA t DD um w)
  ·cases h
 ·cases h
def G9:QF:=⟨198,λargs _=>match args with
 |[.agg [.j8 p ka kn kc],.agg oR,.int .i64 f,.int .i64 o,.bool th]=>(match kK oR with|some t=>some ((Sd.cK p),.az [.agg (cI ((Sd.Tok.make p t f o th).1)),.int .i64 ((Sd.Tok.make p t f o th).2)])|none=>none)
 |_=>none⟩
theorem Na (gl:Nat->Option Nat):G9.Ok prog gl:=by
 intro args bl p_ v_ h hp ids w _ _;unfold G9 at h;dsimp only at h;split at h
 ·rename_i p ka kn kc oR f o th;split at h
  ·rename_i t yP;simp only[Option.some.injEq,Prod.mk.injEq]at h;obtain⟨rfl,rfl⟩:=h;obtain rfl:=fh yP;have hp:=hp;exact told (ahX p ka kn kc t f o th hp w)
  ·cases h
 ·cases h
def G_:QF:=⟨129,λargs _=>match args with
 |[.agg [.j8 p ka kn kc],.agg DY,.int .i64 c,.agg l_y,.agg l_b]=>(match ptR DY with|some pt=>(match x4R l_y with|some y=>(match Rl l_b with|some b=>some ((Sd.cK p),.agg (rK (Sd.Point.set p pt c y b)))|none=>none)|none=>none)|none=>none)
 |_=>none⟩
theorem Nb (gl:Nat->Option Nat):G_.Ok prog gl:=by
 intro args bl p_ v_ h hp ids w _ _;unfold G_ at h;dsimp only at h;split at h
 ·rename_i p ka kn kc DY c l_y l_b;split at h
  ·rename_i pt Ry;split at h
   ·rename_i y e_y;split at h
    ·rename_i b e_b;simp only[Option.some.injEq,Prod.mk.injEq]at h;obtain⟨rfl,rfl⟩:=h;obtain rfl:=GS Ry;obtain rfl:=Rk e_y;obtain rfl:=A6 e_b;have hp:=hp;exact told (ahY p ka kn kc pt c y b hp w)
    ·cases h
   ·cases h
  ·cases h
 ·cases h
def Ha:QF:=⟨134,λargs _=>match args with
 |[.agg DY,.agg l_b]=>(match ptR DY with|some pt=>(match Rl l_b with|some b=>some (True,.agg (rK (Sd.Point.hold pt b)))|none=>none)|none=>none)
 |_=>none⟩
theorem Nc (gl:Nat->Option Nat):Ha.Ok prog gl:=by
 intro args bl p_ v_ h hp ids w _ _;unfold Ha at h;dsimp only at h;split at h
 ·rename_i DY l_b;split at h
  ·rename_i pt Ry;split at h
   ·rename_i b e_b;simp only[Option.some.injEq,Prod.mk.injEq]at h;obtain⟨rfl,rfl⟩:=h;obtain rfl:=GS Ry;obtain rfl:=A6 e_b;exact told (ahZ pt b w)
   ·cases h
  ·cases h
 ·cases h
def wT:QF:=⟨126,λargs _=>match args with
 |[.int .i64 m,.agg l_y]=>(match x4R l_y with|some y=>some ((0<=m/\m<=1000),.bool (Sd.O6 m y))|none=>none)
 |_=>none⟩
theorem DZ (gl:Nat->Option Nat):wT.Ok prog gl:=by
 intro args bl p_ v_ h hp ids w _ _;unfold wT at h;dsimp only at h;split at h
 ·rename_i m l_y;split at h
  ·rename_i y e_y;simp only[Option.some.injEq,Prod.mk.injEq]at h;obtain⟨rfl,rfl⟩:=h;obtain rfl:=Rk e_y;have hm:=hp;exact told (JK m y hm w)
  ·cases h
 ·cases h
def Rz:QF:=⟨80,λargs _=>match args with
 |[.agg [.j8 p ka kn kc],.int .i64 r,.agg l_s]=>(match M3 l_s with|some s=>some ((Sd.cK p)/\(-9223372036854775808<=r/\r<=9223372036854775807),.az [.int .i64 ((Sd.kS p r s).1),.bool ((Sd.kS p r s).2)])|none=>none)
 |_=>none⟩
theorem RA (gl:Nat->Option Nat):Rz.Ok prog gl:=by
 intro args bl p_ v_ h hp ids w _ _;unfold Rz at h;dsimp only at h;split at h
 ·rename_i p ka kn kc r l_s;split at h
  ·rename_i s e_s;simp only[Option.some.injEq,Prod.mk.injEq]at h;obtain⟨rfl,rfl⟩:=h;obtain rfl:=vi e_s;obtain⟨hp,h_r⟩:=hp;exact told (alL p ka kn kc r s hp h_r w)
  ·cases h
 ·cases h
def Be:QF:=⟨95,λargs _=>match args with
 |[.agg [.j8 p ka kn kc],.agg DY]=>(match ptR DY with|some pt=>some ((Sd.cK p)/\(-9223372036854775808<=pt.bx.a/\pt.bx.a<=9223372036854775807)/\(-9223372036854775808<=pt.bx.b/\pt.bx.b<=9223372036854775807)/\(-9223372036854775808<=pt.bx.c/\pt.bx.c<=9223372036854775807)/\(-9223372036854775808<=pt.bx.d/\pt.bx.d<=9223372036854775807)/\(-9223372036854775808<=pt.now.a/\pt.now.a<=9223372036854775807)/\(-9223372036854775808<=pt.now.b/\pt.now.b<=9223372036854775807)/\(-9223372036854775808<=pt.now.c/\pt.now.c<=9223372036854775807)/\(-9223372036854775808<=pt.now.d/\pt.now.d<=9223372036854775807),.agg (rK (Sd.Point.step p pt)))|none=>none)
 |_=>none⟩
theorem Hb (gl:Nat->Option Nat):Be.Ok prog gl:=by
 intro args bl p_ v_ h hp ids w _ _;unfold Be at h;dsimp only at h;split at h
 ·rename_i p ka kn kc DY;split at h
  ·rename_i pt Ry;simp only[Option.some.injEq,Prod.mk.injEq]at h;obtain⟨rfl,rfl⟩:=h;obtain rfl:=GS Ry;obtain⟨hp,pz,pB,pC,pD,pE,pF,pG,pH⟩:=hp;exact told (adE p ka kn kc pt hp pz pB pC pD pE pF pG pH w)
  ·cases h
 ·cases h
def QV:List QF:=[Ro,A7,wR,Rq,A8,GW,Rs,A9,A_,G0,aaz,G2,wS,Ba,G4,Ru,G5,Rw,G6,Bb,Bc,G9,G_,Ha,wT,Rz,Be]
theorem uq (gl:Nat->Option Nat):aZ prog gl QV:=(aZ.cons (Rp gl) (aZ.cons (GU gl) (aZ.cons (DW gl) (aZ.cons (Rr gl) (aZ.cons (GV gl) (aZ.cons (M4 gl) (aZ.cons (Rt gl) (aZ.cons (GY gl) (aZ.cons (GZ gl) (aZ.cons (M5 gl) (aZ.cons (M6 gl) (aZ.cons (M7 gl) (aZ.cons (DX gl) (aZ.cons (G3 gl) (aZ.cons (M8 gl) (aZ.cons (Rv gl) (aZ.cons (M9 gl) (aZ.cons (Rx gl) (aZ.cons (M_ gl) (aZ.cons (G7 gl) (aZ.cons (G8 gl) (aZ.cons (Na gl) (aZ.cons (Nb gl) (aZ.cons (Nc gl) (aZ.cons (DZ gl) (aZ.cons (RA gl) (aZ.cons (Hb gl) aZ.nil)))))))))))))))))))))))))))
def atB (args:List V) (bl:List VB):Option (Nat×Nat×Nat×Nat×(Nat->Int)):=match args with
 |[.sl i off n c]=>(match bl[i]?with
  |some b=>(match CN b.c off n with
   |some [.dC .u8 m f]=>some (i,off,n,c,f)
   |_=>none)
  |none=>none)
 |_=>none
theorem RC {args:List V} {bl:List VB} {i off n c:Nat} {f:Nat->Int} (h:atB args bl=some (i,off,n,c,f)) {ids:List Nat} {w:World} (hm:Mem ids bl w):args=[.sl i off n c]/\eS w (ids.getD i 0) off n f:=by
 unfold atB at h;split at h
 ·split at h
  ·rename_i i' ab_ n' c' b hb;split at h
   ·rename_i m g hg;simp only[Option.some.injEq,Prod.mk.injEq]at h;obtain⟨rfl,rfl,rfl,rfl,rfl⟩:=h;refine⟨rfl,?_⟩;obtain⟨h1,h2,h3⟩:=km (ids:=ids) hg;have ba:=hm.2 _ b hb;intro j hj;rw[cell_of ba];have e:(ab ids [V.dC .u8 m g])=(List.range m).map λj=>Value.int .u8 (g j):=by simp[ab,cl]
    rw[e]at h1 h2;simp at h2;have h4:=congrArg (λl=>l[j]?) h1;simp only[List.getElem?_take,List.getElem?_drop,List.getElem?_map]at h4;rw[if_pos hj]at h4;have h5:(List.range m)[j]?=some j:=by rw[List.getElem?_range (by omega)]
    rw[h5]at h4;simpa using h4
   ·cases h
  ·cases h
 ·cases h
def Hc:QF:=⟨178,λargs bl=>match atB args bl with
 |some (i,off,n,c,f)=>bif Nat.beq n 1 then some (By f,.az [.int .u64 (YQ f),.int .i64 0])else bif Nat.beq n 2 then some (By f,.az [.int .u64 (pL f),.int .i64 0])else bif Nat.beq n 4 then some (By f,.az [.int .u64 (Ka f),.int .i64 0])else none
 |none=>none⟩
def Bg:QF:=⟨177,λargs bl=>match atB args bl with
 |some (i,off,n,c,f)=>bif Nat.beq n 2 then some (By f,.az [.int .i64 (oV (pL f)),.int .i64 0])else none
 |none=>none⟩
theorem Nd (gl:Nat->Option Nat):Hc.Ok prog gl:=by
 intro args bl p v h hp ids w hg hm;unfold Hc at h;dsimp only at h;split at h
 ·rename_i i off n c f hA;obtain⟨rfl,h8⟩:=RC hA hm;cases h1:Nat.beq n 1 with
  |true=>
   rw[h1]at h;obtain rfl:=Nat.eq_of_beq_eq_true h1;simp only[cond_true,Option.some.injEq,Prod.mk.injEq]at h;obtain⟨rfl,rfl⟩:=h;exact X9 _ _ _ f hp w h8
  |false=>
   cases h2:Nat.beq n 2 with
   |true=>
    rw[h1,h2]at h;obtain rfl:=Nat.eq_of_beq_eq_true h2;simp only[cond_true,cond_false,Option.some.injEq,Prod.mk.injEq]at h;obtain⟨rfl,rfl⟩:=h;exact JR _ _ _ f hp w h8
   |false=>
    cases h4:Nat.beq n 4 with
    |true=>
     rw[h1,h2,h4]at h;obtain rfl:=Nat.eq_of_beq_eq_true h4;simp only[cond_true,cond_false,Option.some.injEq,Prod.mk.injEq]at h;obtain⟨rfl,rfl⟩:=h;exact X_ _ _ _ f hp w h8
    |false=>rw[h1,h2,h4]at h;cases h
 ·cases h
theorem He (gl:Nat->Option Nat):Bg.Ok prog gl:=by
 intro args bl p v h hp ids w hg hm;unfold Bg at h;dsimp only at h;split at h
 ·rename_i i off n c f hA;obtain⟨rfl,h8⟩:=RC hA hm;cases h2:Nat.beq n 2 with
  |true=>
   rw[h2]at h;obtain rfl:=Nat.eq_of_beq_eq_true h2;simp only[cond_true,Option.some.injEq,Prod.mk.injEq]at h;obtain⟨rfl,rfl⟩:=h;exact Rj _ _ _ f hp w h8
  |false=>rw[h2]at h;cases h
 ·cases h
def LTk:List QF:=[Hc,Bg]
def Cx:Nat->Option Nat:=λ_=>none
structure Fd where
 sz:Nat
 sg:Bool
 low:Int
 high:Int
 at_:Nat
 b:Bool
def Fd.val (d:Fd) (g:Nat->Int):Int:=bif d.sg then oV (pL g)else bif Nat.beq d.sz 1 then i64.wrap (YQ g)else bif Nat.beq d.sz 2 then i64.wrap (pL g)else i64.wrap (Ka g)
def Fd.up (d:Fd) (g:Nat->Int) (m:List V):List V:=j9 m d.at_ (bif d.b then .bool (d.val g==1)else .int .i64 (d.val g))
def pM:V:=.az [.agg [.int .i64 0,.int .i64 0,.int .i64 0,.int .i64 0,.int .i64 0,.int .i64 0,.int .i64 0,.bool false,.int .i64 0,.int .i64 0,.int .i64 0,.int .i64 0],.int .i64 13]
def Nf (n:Nat) (f:Nat->Int) (X:V->Prop):List Fd->Nat->List V->Prop
 |[],off,m=>bif Nat.beq (n-off) 0 then X (.az [.agg m,.int .i64 0])else X pM
 |d::l,off,m=>bif Nat.blt (n-off) d.sz then X pM else
  By (λj=>f (off+j))/\cond (decide (d.val (λj=>f (off+j))<d.low)) (X pM) (cond (decide (d.val (λj=>f (off+j))>d.high)) (X pM) (Nf n f X l (off+d.sz) (d.up (λj=>f (off+j)) m)))
def ig:Fd:=⟨4,false,0,4294967295,1,false⟩
def oS:Fd:=⟨1,false,0,3,2,false⟩
def rN:Fd:=⟨1,false,0,4,3,false⟩
def gf:Fd:=⟨2,false,0,65535,4,false⟩
def rj:Fd:=⟨1,false,0,4,5,false⟩
def yQ:Fd:=⟨1,false,1,3,6,false⟩
def D0:Fd:=⟨1,false,0,1,7,true⟩
def fX (i:Nat):Fd:=⟨2,true,-32768,32767,8+i,false⟩
def k9 (f:Nat->Int):Int:=i64.wrap (f 0)
def m0 (f:Nat->Int):List V:=[.int .i64 (k9 f),.int .i64 0,.int .i64 0,.int .i64 0,.int .i64 0,.int .i64 0,.int .i64 0,.bool false,.int .i64 0,.int .i64 0,.int .i64 0,.int .i64 0]
def uu:Nat->List V
 |0=>[]
 |n+1=>.bool false::.bool false::.bool false::.bool false::.bool false::uu n
def gI (n:Nat) (f:Nat->Int) (X:V->Prop):Prop:=
 let T (l:List Fd):Prop:=Nf n f X l 1 (m0 f)
 let T1:=T [oS]
 let T3:=T [ig]
 cond (k9 f==1) T1 (cond (k9 f==2) T1 (cond (k9 f==3) T3 (cond (k9 f==4) T3 (cond (k9 f==8) T3 (cond (k9 f==9) T3 (cond (k9 f==5) (T [ig,D0]) (cond (k9 f==6) (T [ig,rN]) (cond (k9 f==7) (T [ig,gf])
  (cond (k9 f==10) (T [ig,gf,rj]) (cond (k9 f==11) (∀(c:Nat) (u:List Value),7<=c->T [ig,gf,yQ,fX 0,fX 1,fX 2,fX 3]) (X pM)))))))))))
end Go.Proofs.YtggfpcggakghnaaGreatDoor
namespace Sx
open Go Go.RowKit Go.BigFrame
def aif (vs:Nat->Value) (i:Nat) (v:Value):Nat->Value:=λj=>if j=i then v else vs j
def aih (k0:Nat) (es:List Nat) (H:Nat->(Nat->Value)->World->Prop) (l:List Oper) (w0:World) (i:Nat) (v:Value) (vs:Nat->Value) (w' mN:World):Prop:=
 (i=k0->Ch es w' mN)/\(i≠k0->∃ns,Ch ns w' mN/\∀x∈ns,w0.heap.size<=x)/\H i (aif vs i v) mN/\
  ∀(j:Nat) oj,l[j]?=some oj->j≠i->gD oj i=false->H j vs w'->H j (aif vs i v) mN
def JT (P:Program) (k0:Nat) (pre:List (List Nat)) (es:List Nat) (H:Nat->(Nat->Value)->World->Prop) (lf l:List Oper) (y0:Nat->Value) (w:World) (i:Nat) (o:Oper):Prop:=
 ∀(y vs:Nat->Value) (w':World),(i=k0\/preB pre i=true->Ch [] w w')->Ch es w w'->(∀t,qj l i t=true->y t=y0 t)->
  (∀j d,gD o j=true->(l[j]?).bind (·.dst)=some d->y d=vs j/\H j vs w')->
  (fe lf o y=true->Yields P o (We y) w' λv mN=>aih k0 es H l w i v vs w' mN)/\(fe lf o y=false->aih k0 es H l w i undef vs w' w')
def rk (P:Program) (k0:Nat) (pre:List (List Nat)) (es:List Nat) (H:Nat->(Nat->Value)->World->Prop) (lf l:List Oper) (y0:Nat->Value) (w:World):Nat->List Oper->Prop
 |_,[]=>True
 |i,o::rest=>JT P k0 pre es H lf l y0 w i o/\rk P k0 pre es H lf l y0 w (i+1) rest
theorem rk.get {P:Program} {k0:Nat} {pre:List (List Nat)} {es:List Nat} {H:Nat->(Nat->Value)->World->Prop} {lf l:List Oper} {y0:Nat->Value} {w:World}:∀{k:Nat} {m:List Oper},rk P k0 pre es H lf l y0 w k m->∀(i:Nat) o,m[i]?=some o->JT P k0 pre es H lf l y0 w (k+i) o
 |_,[],_,i,o,h=>by simp at h
 |k,x::rest,⟨h1,h2⟩,0,o,h=>by obtain rfl:x=o:=by simpa using h
                              exact h1
 |k,x::rest,⟨h1,h2⟩,i+1,o,h=>by
  have:=rk.get h2 i o (by simpa using h)
  rwa [show k+1+i=k+(i+1) by omega]at this
structure anK (k0:Nat) (es:List Nat) (H:Nat->(Nat->Value)->World->Prop) (l:List Oper) (n2:Nat) (a0:Act) (w0:World) (vs:Nat->Value) (listed:Array Bool) (a:Act) (w:World):Prop where
 ls:listed.size=l.length+n2
 off:∀i,l.length<=i->i<l.length+n2->listed[i]?=some false
 size:a.tmps.size=a0.tmps.size
 defers:a.defers=a0.defers
 ch:if listed[k0]?=some true then Ch es w0 w else Ch [] w0 w
 done:∀(i:Nat) (o:Oper),l[i]?=some o->listed[i]?=some true->(∀d,o.dst=some d->fI a d=vs i)/\H i vs w
 rest:∀(t:Nat),(∀(i:Nat) (o:Oper),l[i]?=some o->o.dst=some t->listed[i]?=some false)->fI a t=fI a0 t
 back:∀(i:Nat) (o:Oper),l[i]?=some o->listed[i]?=some true->∀j,gD o j=true->listed[j]?=some true
section
variable{P:Program} {l:List Oper} {k0:Nat} {pre:List (List Nat)} {es:List Nat} {H:Nat->(Nat->Value)->World->Prop} {a0:Act} {w0:World} {Q:Exit->Act->World->Prop}
end
inductive GX where
 |v (x:Value)
 |a (obj:Obj)
 |n (cs Fy:Array Value) (T:TypeId)
 |s (j:Nat)
def GX.sp:GX->Sp
 |.v x=>s0 x
 |.a o=>sA o
 |.n cs _ T=>sA (.cells cs T (0,0))
 |.s _=>s0 undef
def GX.fin:GX->VX
 |.v x=>.v x
 |.a o=>.a o
 |.n _ Fy T=>.a (.cells Fy T (0,0))
 |.s _=>.v undef
theorem Yields.mono {P:Program} {o:Oper} {ρ:Operand->Value} {w:World} {R R':Value->World->Prop} (h:Yields P o ρ w R) (k:∀v w',R v w'->R' v w'):Yields P o ρ w R':=by
 unfold Yields at*;split at h
 ·exact k _ _ h
 ·exact k _ _ h
 ·exact Calls.mono h λe w' ⟨v,e1,e2⟩=>⟨v,e1,k _ _ e2⟩
 ·exact h.elim
section
variable{P:Program} {lf l:List Oper} {xs:List GX} {y0:Nat->Value} {w:World} {i k0:Nat} {pre:List (List Nat)} {o:Oper} {es:List Nat} {pv:Value->World->Prop}
end
def isS (i:Nat):GX->Bool
 |.s j=>Nat.beq j i
 |_=>false
section
variable{P:Program} {a0:Act} {w w0:World} {Q:Exit->Act->World->Prop} {id:Nat} {L:List Oper} {ms:List Nat} {bs:List av}
end
section
variable{P:Program} {lf l:List Oper} {sp:Nat->Sp} {xs:List GX} {y0:Nat->Value} {a0:Act} {w:World} {i k0 m:Nat} {pre:List (List Nat)} {o:Oper} {es:List Nat} {pv:Value->World->Prop}
end
section
variable{P:Program} {a0:Act} {w w0:World} {Q:Exit->Act->World->Prop} {id:Nat} {L:List Oper} {ms:List Nat}
theorem SD.dg {val:Value} {C:List av->Prop} {bl:List av} {B:Nat} {T:TypeId} (hT:∀bl',C bl'->∀x∈bl',SE x.obj≠some T) {v:Value} {w1 w2:World} {b:Nat} {c2:Array Value} (hb:w1.heap[b]?=some (.cells c2 T (0,0))) (hc:Ch [b] w1 w2) (h:SD val C bl B v w1):SD val C bl B v w2:=by
 obtain⟨h1,bl',h2,h3,h4⟩:=h;refine⟨h1,bl',h2,λy hy=>⟨?_,(h3 y hy).2⟩,h4⟩;refine(hc.block _ (fW (h3 y hy).1) ?_).trans (h3 y hy).1;intro hm;have e:y.id=b:=by simpa using hm
 have:=(h3 y hy).1;rw[e,hb]at this;exact hT bl' h2 y hy (by rw[<-Option.some.inj this];rfl)
end
end Sx
namespace Go.Proofs.YtggfpcggakghnaaGreatDoor
open Go Go.RowKit Go.BigFrame Sx
def Hf (q:Nat->Int) (ka:Nat->Option Addr) (kn kc:Nat->Nat):Array Value:=#[.int .i64 (q 0),.int .i64 (q 1),.int .i64 (q 2),.int .i64 (q 3),.int .i64 (q 4),.slice (ka 0) (kn 0) (kc 0),.slice (ka 1) (kn 1) (kc 1),.slice (ka 2) (kn 2) (kc 2),.slice (ka 3) (kn 3) (kc 3),.int .i64 (q 9),.int .i64 (q 10),.int .i64 (q 11),.int .i64 (q 12),.int .i64 (q 13),.int .i64 (q 14),.int .i64 (q 15),.int .i64 (q 16),.int .i64 (q 17),.int .i64 (q 18),.int .i64 (q 19),.int .i64 (q 20),.int .i64 (q 21),.int .i64 (q 22),.int .i64 (q 23),.int .i64 (q 24),.int .i64 (q 25),.int .i64 (q 26),.int .i64 (q 27),.int .i64 (q 28),.int .i64 (q 29),.int .i64 (q 30),.int .i64 (q 31),.int .i64 (q 32),.int .i64 (q 33),.int .i64 (q 34),.int .i64 (q 35),.int .i64 (q 36),.int .i64 (q 37),.int .i64 (q 38),.int .i64 (q 39),.int .i64 (q 40),.int .i64 (q 41),.int .i64 (q 42),.int .i64 (q 43),.int .i64 (q 44),.int .i64 (q 45),.int .i64 (q 46),.int .i64 (q 47),.int .i64 (q 48),.int .i64 (q 49),.int .i64 (q 50),.int .i64 (q 51),.int .i64 (q 52),.int .i64 (q 53),.int .i64 (q 54),.int .i64 (q 55)]
end Go.Proofs.YtggfpcggakghnaaGreatDoor
namespace Go.Proofs.YtggfpcggakghnaaGreatDoor
open Go Go.RowKit Go.BigFrame Sx Vx
def wU (lo hi n:Int):Bool:=decide (lo<=n)&&decide (n<=hi)
def tH (a b c k:Int):Bool:=k==a||(k==b||k==c)
def RD (q:Nat->Int):Bool:=q 0==0&&(q 4==4&&(tH (q 1) (q 2) (q 3) 1&&(tH (q 1) (q 2) (q 3) 2&&tH (q 1) (q 2) (q 3) 3)))
def wV (n:Nat):Bool:=decide (1<=(n:Int))&&decide ((n:Int)<=64)
def pN (n:Int):Bool:=wU 0 15 n&&n%2==0
def allI (lo hi:Int):List Int->Bool
 |[]=>true
 |x::xs=>wU lo hi x&&allI lo hi xs
def uv (kn:Nat->Nat):Bool:=wV (kn 0)&&(wV (kn 1)&&wV (kn 2))
def pO (q:Nat->Int):Bool:=pN (q 10)&&(pN (q 11)&&pN (q 12))
def RE (q:Nat->Int):Bool:=allI 0 15 [q 14,q 15,q 16,q 17]&&(allI 0 15 [q 18,q 19,q 20,q 21]&&(allI 0 15 [q 22,q 23,q 24,q 25]&&(allI 0 15 [q 26,q 27,q 28,q 29]&&allI 0 15 [q 30,q 31,q 32,q 33])))
def ee (q:Nat->Int) (kn:Nat->Nat):Int:=
 if RD q=false then 40 else if(uv kn&&wV (kn 3))=false then 41 else if(q 9==1&&(q 13==0&&pO q))=false then 42
 else if RE q=false then 43
 else if allI 0 31 [q 34,q 35,q 36,q 37,q 38]=false then 44
 else if allI 0 4 [q 39,q 40,q 41]=false then 45 else if allI 1 1000 [q 42,q 43,q 44,q 45]=false then 46 else if(wU 1 1000 (q 46)&&wU 0 1000 (q 47))=false then 47 else if allI 1 3 [q 48,q 49]=false then 48
 else if(q 50==0&&(allI 0 1000 [q 51,q 52,q 53]&&wU 1 1000 (q 54)))=false then 49 else if wU 0 65535 (q 55)=false then 50 else 0
def YR (lo hi n:Int) (X Y:Prop):Prop:=cond (decide (lo<=n)) (cond (!decide (n<=hi)) Y X) Y
def seT (n:Int) (X Y:Prop):Prop:=cond (decide (0<=n)) (cond (decide (n<=15)) (cond (!(Int.tmod n 2==0)) Y X) Y) Y
def Ye (lo hi:Int) (Y:Prop):List Int->Prop->Prop
 |[],X=>X
 |n::l,X=>YR lo hi n (Ye lo hi Y l X) Y
theorem rq {lo hi n:Int} {X Y:Prop} (h:wU lo hi n=true->X) (k:wU lo hi n=false->Y):YR lo hi n X Y:=
 aU (λa=>aU (λb=>k (by rw[wU,a];simpa using b)) λb=>h (by rw[wU,a];simpa using b)) λa=>k (by rw[wU,a];rfl)
theorem Bh {n:Int} {X Y:Prop} (h:pN n=true->X) (k:pN n=false->Y):seT n X Y:=by
 refine aU (λa=>aU (λb=>?_) λb=>k (by simp only[pN,wU,a,b];rfl)) λa=>k (by simp only[pN,wU,a];rfl);have e:Int.tmod n 2=n%2:=Int.tmod_eq_emod_of_nonneg (of_decide_eq_true a);exact aU (λc=>k (by simp only[pN,wU,a,b];rw[e]at c;simpa using c)) λc=>h (by simp only[pN,wU,a,b];rw[e]at c;simpa using c)
theorem ku {lo hi:Int} {X Y:Prop}:∀{l:List Int},(allI lo hi l=true->X)->(allI lo hi l=false->Y)->Ye lo hi Y l X
 |[],h,_=>h rfl
 |n::l,h,k=>rq (λa=>ku (λb=>h (by rw[allI,a,b];rfl)) λb=>k (by rw[allI,a,b];rfl)) λa=>k (by rw[allI,a];rfl)
def dup (X:Prop):Prop:=X/\X
theorem Bi {X:Prop} (h:X):dup X:=⟨h,h⟩
def mG (a b c d e:Int):Bool:=a==0&&(e==4&&(tH b c d 1&&(tH b c d 2&&tH b c d 3)))
def adV:QF:=⟨57,λargs _=>match args with
 |[.agg [.int .i64 a,.int .i64 b,.int .i64 c,.int .i64 d,.int .i64 e]]=>some (True,.bool (mG a b c d e))
 |_=>none⟩
def Kc (b c d k:Int) (X Y:Prop):Prop:=cond (k==b) X (cond (k==c) X (cond (k==d) X Y))
theorem Hg {b c d k:Int} {X Y:Prop} (h:tH b c d k=true->X) (n:tH b c d k=false->Y):Kc b c d k X Y:=
 aU (λa=>h (by rw[tH,a];rfl)) λa=>aU (λe=>h (by rw[tH,a,e];rfl)) λe=>aU (λf=>h (by rw[tH,a,e,f];rfl)) λf=>n (by rw[tH,a,e,f];rfl)
theorem adW (a b c d e:Int) (K:V->Prop):jQ prog [] 60 57 [.agg [.int .i64 a,.int .i64 b,.int .i64 c,.int .i64 d,.int .i64 e]] K
 =cond (a !=0) (K (.bool false)) (cond (e !=4) (K (.bool false)) (Kc b c d 1 (Kc b c d 2 (Kc b c d 3 (K (.bool true)) (K (.bool false))) (K (.bool false))) (K (.bool false)))):=by kernel_rfl
theorem Yf (a b c d e:Int) (w:World):aj prog 57 #[.agg #[.int .i64 a,.int .i64 b,.int .i64 c,.int .i64 d,.int .i64 e]] w λv w1=>v=.bool (mG a b c d e)/\Ch [] w w1:=by
 have h:cond (a !=0) ((V.bool false)=.bool (mG a b c d e)) (cond (e !=4) ((V.bool false)=.bool (mG a b c d e)) (Kc b c d 1 (Kc b c d 2 (Kc b c d 3 ((V.bool true)=.bool (mG a b c d e)) ((V.bool false)=.bool (mG a b c d e))) ((V.bool false)=.bool (mG a b c d e))) ((V.bool false)=.bool (mG a b c d e)))):=by
  refine aU (λh=>?_) λh=>aU (λg=>?_) λg=>Hg (λx=>Hg (λy=>Hg (λz=>?_) λz=>?_) λy=>?_) λx=>?_
  ·have h':(a==0)=false:=by simpa using h
   rw[mG,h'];rfl
  all_goals have h':(a==0)=true:=by simpa using h
  ·have g':(e==4)=false:=by simpa using g
   rw[mG,h',g'];rfl
  all_goals have g':(e==4)=true:=by simpa using g
  ·rw[mG,h',g',x,y,z];rfl
  ·rw[mG,h',g',x,y,z];rfl
  ·rw[mG,h',g',x,y];rfl
  ·rw[mG,h',g',x];rfl
 refine qU (L:=[]) aZ.nil (n:=60) (xs:=[.agg [.int .i64 a,.int .i64 b,.int .i64 c,.int .i64 d,.int .i64 e]]) (v:=.bool (mG a b c d e)) (Hd.h (Hd.mk ?_));rw[adW];exact h
theorem Yg (gl:Nat->Option Nat):adV.Ok prog gl:=by
 intro args bl p_ v_ h hp ids w _ _;unfold adV at h;dsimp only at h;split at h
 ·rename_i a b c d e;simp only[Option.some.injEq,Prod.mk.injEq]at h;obtain⟨rfl,rfl⟩:=h;exact told (Yf a b c d e w)
 ·cases h
def adX (q:Nat->Int) (kn:Nat->Nat) (K:V->Prop):Prop:=
 let E:=λn:Int=>K (.int .i64 n)
 cond (!(mG (q 0) (q 1) (q 2) (q 3) (q 4))) (E 40)<|Ye 1 64 (E 41) [(kn 0:Int),(kn 1:Int),(kn 2:Int),(kn 3:Int)]<|cond (q 9!=1) (E 42)<|cond (q 13!=0) (E 42)<|(λX=>seT (q 10) (seT (q 11) (seT (q 12) X (E 42)) (E 42)) (E 42))<|
 Ye 0 15 (E 43) [q 14,q 15,q 16,q 17,q 18,q 19,q 20,q 21,q 22,q 23,q 24,q 25,q 26,q 27,q 28,q 29,q 30,q 31,q 32,q 33]<|Ye 0 31 (E 44) [q 34,q 35,q 36,q 37,q 38]<|dup<|Ye 0 4 (E 45) [q 39,q 40,q 41]<|dup<|Ye 1 1000 (E 46) [q 42,q 43,q 44,q 45]<|
 (λX=>YR 1 1000 (q 46) (YR 0 1000 (q 47) X (E 47)) (E 47))<|dup<|Ye 1 3 (E 48) [q 48,q 49]<|cond (q 50!=0) (E 49)<|Ye 0 1000 (E 49) [q 51,q 52,q 53]<|YR 1 1000 (q 54) (YR 0 65535 (q 55) (E 0) (E 50)) (E 49)
def YS (n:Int):VB:=⟨true,⟨3,(0,0)⟩,[.int .i64 n]⟩
def ru:gm Empty:=λargs bl ch K=>match args with
 |[.int .i64 lo,.int .i64 hi]=>cond (dk bl.length bl) (K (.fn 104 [] [.ptr bl.length 0,.ptr (bl.length+1) 0]) (bl++[YS lo,YS hi]) ch) False
 |_=>False
theorem aii (lo hi:Int) (K:VK Empty):cJ (dR prog (λ_=>none) ([]:List (dI Empty))) 20 64 [.int .i64 lo,.int .i64 hi] [] [] K=K (.fn 104 [] [.ptr 0 0,.ptr 1 0]) [YS lo,YS hi] []:=by kernel_rfl
theorem Bj:Sound prog (λ_=>none) 64 ru:=by
 intro args ids bl ch R ms w0 w K hg hl S hc;unfold ru at hc;split at hc
 ·rename_i lo hi;cases hq:dk bl.length bl with
  |false=>rw[hq]at hc;exact hc.elim
  |true=>
   rw[hq]at hc;have hv:cJ (dR prog (λ_=>none) ([]:List (dI Empty))) 20 64 [.int .i64 lo,.int .i64 hi] [] [] (λv b c=>v=.fn 104 [] [.ptr 0 0,.ptr 1 0]/\b=[YS lo,YS hi]/\c=[]):=by rw[aii];exact⟨rfl,rfl,rfl⟩
   refine(bw (ai.nil (P:=prog) (gl:=λ_=>none)).T ai.nil.Q 20 (C:=dR prog (λ_=>none) ([]:List (dI Empty))) (ids:=[]) (bl:=[]) (ch:=[]) (R:=[]) (ms:=[]) (w0:=w) (w:=w) Gl.none rfl (St.nil [] w) hv).mono ?_;rintro x w' ⟨y,more,bl',ch',rfl,h1,S',rfl,rfl,rfl⟩
   match more,h1 with
   |[b1,b2],_=>
    have S2:=S.beside S' (bl:=[⟨b1,true,.cells #[.int .i64 lo] 3 (0,0)⟩,⟨b2,true,.cells #[.int .i64 hi] 3 (0,0)⟩]) (Wr.cons rfl (Wr.cons rfl Wr.nil));refine⟨_,[b1,b2],_,ch,?_,by simp[hl],?_,hc⟩
    ·simp only[den,ao,<-hl];simp[List.getD]
    ·rw[aI _ _ _ _ hl,aJ _ _ (by rw[hl];exact hq),List.append_assoc];refine S2.perm ?_;exact(List.perm_append_comm_assoc [_,_] (lits ids ids bl) (af ch R))
 ·exact hc.elim
theorem Hh:oP prog (λ_=>none) ⟨64,true,ru⟩:=⟨Bj,λ_ args bl ch K h=>by
 simp only at h⊢;unfold ru at h⊢;split at h
 ·cases hq:dk bl.length bl with
  |false=>rw[hq]at h;exact h.elim
  |true=>rw[hq]at h;exact⟨h,_,rfl⟩
 ·exact h.elim⟩
def LCk:List (dI Empty):=⟨64,true,ru⟩::qL Empty [adV]
theorem RF:ai prog (λ_=>none) LCk:=ai.cons Hh (f_ (aZ.cons (Yg _) aZ.nil))
def vcP (n:Nat) (f:FuncId) (args:List V) (X:V->Prop):Prop:=cJ (dR prog (λ_=>none) LCk) n f args [] [] λv _ _=>X v
theorem adY (p:Sd.Pol) (ka:Nat->Option Addr) (kn kc:Nat->Nat) (K:V->Prop):vcP 60 27 [.agg (ff p ka kn kc)] K=(True/\adX p.i kn K):=by kernel_rfl
theorem Yh (q:Nat->Int) (kn:Nat->Nat):adX q kn (·=.int .i64 (ee q kn)):=by
 have k4:allI 1 64 [(kn 0:Int),(kn 1:Int),(kn 2:Int),(kn 3:Int)]=(uv kn&&wV (kn 3)):=by simp only[allI,wU,uv,wV,Bool.and_assoc,Bool.and_true]
 have t5:allI 0 15 [q 14,q 15,q 16,q 17,q 18,q 19,q 20,q 21,q 22,q 23,q 24,q 25,q 26,q 27,q 28,q 29,q 30,q 31,q 32,q 33]=RE q:=by simp only[allI,RE,Bool.and_assoc,Bool.and_true]
 unfold adX ee;refine aU (λh=>?_) λh=>?_
 ·have h0:RD q=false:=(by simpa using h:mG (q 0) (q 1) (q 2) (q 3) (q 4)=false);rw[if_pos h0]
 have h0:RD q=true:=(by simpa using h:mG (q 0) (q 1) (q 2) (q 3) (q 4)=true);clear h;refine ku (λh1=>?_) λh1=>?_<;>rw[k4]at h1
 ·refine aU (λa=>?_) λa=>aU (λb=>?_) λb=>Bh (λc=>Bh (λd=>Bh (λe=>?_) λe=>?_) λd=>?_) λc=>?_
  ·have a':(q 9==1)=false:=by simpa using a
   simp[h0,h1,a']
  all_goals have a':(q 9==1)=true:=by simpa using a
  ·have b':(q 13==0)=false:=by simpa using b
   simp[h0,h1,a',b']
  all_goals have b':(q 13==0)=true:=by simpa using b
  ·have r:pO q=true:=by simp[pO,c,d,e]
   have h2:(q 9==1&&(q 13==0&&pO q))=true:=by rw[a',b',r];rfl
   refine ku (λh3=>?_) λh3=>?_<;>rw[t5]at h3
   ·refine ku (λh4=>Bi (ku (λh5=>Bi (ku (λh6=>rq (λh7=>rq (λh8=>Bi (ku (λh9=>aU (λu=>?_) λu=>ku (λv=>rq (λx=>rq (λy=>?_) λy=>?_) λx=>?_) λv=>?_) λh9=>?_)) λh8=>?_) λh7=>?_) λh6=>?_)) λh5=>?_)) λh4=>?_
    ·have u':(q 50==0)=false:=by simpa using u
     simp[h0,h1,h2,h3,h4,h5,h6,h7,h8,h9,u']
    iterate 4
     ·have u':(q 50==0)=true:=by simpa using u
      simp[h0,h1,h2,h3, *]
    all_goals simp[h0,h1,h2,h3, *]
   ·simp[h0,h1,h2,h3]
  all_goals simp[h0,h1,a',b',pO, *]
 ·simp[h0,h1]
theorem Ng (q:Nat->Int) (ka:Nat->Option Addr) (kn kc:Nat->Nat) (w:World):aj prog 27 #[.agg (Hf q ka kn kc)] w λv w1=>v=.int .i64 (ee q kn)/\Ch [] w w1:=by
 have h:vcP 60 27 [.agg (ff ⟨q,λ_=>(0,λ_=>0)⟩ ka kn kc)] (·=.int .i64 (ee q kn)):=by rw[adY];exact⟨trivial,Yh q kn⟩
 refine(bw RF.T RF.Q 60 (C:=dR prog (λ_=>none) LCk) (ids:=[]) (bl:=[]) (ch:=[]) (R:=[]) (ms:=[]) (w0:=w) (w:=w) Gl.none rfl (St.nil [] w) h).mono ?_;rintro x w' ⟨y,more,bl',ch',rfl,h1,S,rfl⟩;exact⟨rfl,S.ch⟩
end Go.Proofs.YtggfpcggakghnaaGreatDoor
namespace Go.Proofs.YtggfpcggakghnaaGreatDoor
open Go Go.RowKit Go.BigFrame Sx
def f3 {α:Type} (a b c:α):Nat->α:=λj=>match j with|0=>a|1=>b|_=>c
def mz (p:Sd.Pol) (ka:Nat->Option Addr) (kn kc:Nat->Nat) (t:Sd.Tok) (bq:Nat) (D:Nat->Sd.dQ) (bt:Nat) (sa be mo:Int) (mb:Sd.Label) (pt:Sd.Point) (hd:Nat->Int):Array Value:=#[.int .i64 (p.i 0),.int .i64 (p.i 1),.int .i64 (p.i 2),.int .i64 (p.i 3),.int .i64 (p.i 4),.slice (ka 0) (kn 0) (kc 0),.slice (ka 1) (kn 1) (kc 1),.slice (ka 2) (kn 2) (kc 2),.slice (ka 3) (kn 3) (kc 3),.int .i64 (p.i 9),.int .i64 (p.i 10),.int .i64 (p.i 11),.int .i64 (p.i 12),.int .i64 (p.i 13),.int .i64 (p.i 14),.int .i64 (p.i 15),.int .i64 (p.i 16),.int .i64 (p.i 17),.int .i64 (p.i 18),.int .i64 (p.i 19),.int .i64 (p.i 20),.int .i64 (p.i 21),.int .i64 (p.i 22),.int .i64 (p.i 23),.int .i64 (p.i 24),.int .i64 (p.i 25),.int .i64 (p.i 26),.int .i64 (p.i 27),.int .i64 (p.i 28),.int .i64 (p.i 29),.int .i64 (p.i 30),.int .i64 (p.i 31),.int .i64 (p.i 32),.int .i64 (p.i 33),.int .i64 (p.i 34),.int .i64 (p.i 35),.int .i64 (p.i 36),.int .i64 (p.i 37),.int .i64 (p.i 38),.int .i64 (p.i 39),.int .i64 (p.i 40),.int .i64 (p.i 41),.int .i64 (p.i 42),.int .i64 (p.i 43),.int .i64 (p.i 44),.int .i64 (p.i 45),.int .i64 (p.i 46),.int .i64 (p.i 47),.int .i64 (p.i 48),.int .i64 (p.i 49),.int .i64 (p.i 50),.int .i64 (p.i 51),.int .i64 (p.i 52),.int .i64 (p.i 53),.int .i64 (p.i 54),.int .i64 (p.i 55),.int .i64 t.holder,.int .i64 t.epoch,.int .i64 t.offer,.int .i64 t.oa.n,.int .i64 t.oa.most,.int .i64 t.la.n,.int .i64 t.la.most,.bool t.bad,.pointer (some ⟨bq,0,none⟩),.int .i64 (D 0).many,.bool (D 0).sG,.int .u8 ((D 0).ae 0),.int .u8 ((D 0).ae 1),.int .u8 ((D 0).ae 2),.int .u8 ((D 0).ae 3),.int .u8 ((D 0).ae 4),.int .u8 ((D 0).ae 5),.int .u8 ((D 0).ae 6),.int .u8 ((D 0).ae 7),.int .i64 (D 1).many,.bool (D 1).sG,.int .u8 ((D 1).ae 0),.int .u8 ((D 1).ae 1),.int .u8 ((D 1).ae 2),.int .u8 ((D 1).ae 3),.int .u8 ((D 1).ae 4),.int .u8 ((D 1).ae 5),.int .u8 ((D 1).ae 6),.int .u8 ((D 1).ae 7),.int .i64 (D 2).many,.bool (D 2).sG,.int .u8 ((D 2).ae 0),.int .u8 ((D 2).ae 1),.int .u8 ((D 2).ae 2),.int .u8 ((D 2).ae 3),.int .u8 ((D 2).ae 4),.int .u8 ((D 2).ae 5),.int .u8 ((D 2).ae 6),.int .u8 ((D 2).ae 7),.pointer (some ⟨bt,0,none⟩),.int .i64 sa,.int .i64 be,.int .i64 mo,.int .i64 mb.mD,.int .i64 mb.source,.int .i64 mb.seq,.int .i64 pt.cls,.int .i64 pt.bx.a,.int .i64 pt.bx.b,.int .i64 pt.bx.c,.int .i64 pt.bx.d,.int .i64 pt.now.a,.int .i64 pt.now.b,.int .i64 pt.now.c,.int .i64 pt.now.d,.int .i64 pt.cX.mD,.int .i64 pt.cX.source,.int .i64 pt.cX.seq,.int .u8 (hd 0),.int .u8 (hd 1),.int .u8 (hd 2),.int .u8 (hd 3),.int .u8 (hd 4),.int .u8 (hd 5),.int .u8 (hd 6),.int .u8 (hd 7),.int .u8 (hd 8),.int .u8 (hd 9),.int .u8 (hd 10),.int .u8 (hd 11),.int .u8 (hd 12),.int .u8 (hd 13),.int .u8 (hd 14),.int .u8 (hd 15),.int .u8 (hd 16),.int .u8 (hd 17),.int .u8 (hd 18),.int .u8 (hd 19),.int .u8 (hd 20),.int .u8 (hd 21),.int .u8 (hd 22),.int .u8 (hd 23),.int .u8 (hd 24),.int .u8 (hd 25),.int .u8 (hd 26),.int .u8 (hd 27),.int .u8 (hd 28),.int .u8 (hd 29),.int .u8 (hd 30),.int .u8 (hd 31)]
def jy (st:Bool×Sd.Timer) (ay:Nat->Sd.bm) (b m:Int):Array Value:=#[.bool st.1,.int .i64 st.2.n,.int .i64 st.2.most,.bool (ay 0).on,.int .i64 (ay 0).aH.n,.int .i64 (ay 0).aH.most,.int .i64 (ay 0).role,.int .u8 ((ay 0).key 0),.int .u8 ((ay 0).key 1),.int .u8 ((ay 0).key 2),.int .u8 ((ay 0).key 3),.int .u8 ((ay 0).key 4),.int .u8 ((ay 0).key 5),.int .u8 ((ay 0).key 6),.int .u8 ((ay 0).key 7),.int .u8 ((ay 0).key 8),.int .u8 ((ay 0).key 9),.int .u8 ((ay 0).key 10),.int .u8 ((ay 0).key 11),.int .u8 ((ay 0).key 12),.int .u8 ((ay 0).key 13),.int .u8 ((ay 0).key 14),.int .u8 ((ay 0).key 15),.int .u8 ((ay 0).key 16),.int .u8 ((ay 0).key 17),.int .u8 ((ay 0).key 18),.int .u8 ((ay 0).key 19),.int .u8 ((ay 0).key 20),.int .u8 ((ay 0).key 21),.int .u8 ((ay 0).key 22),.int .u8 ((ay 0).key 23),.int .u8 ((ay 0).key 24),.int .u8 ((ay 0).key 25),.int .u8 ((ay 0).key 26),.int .u8 ((ay 0).key 27),.int .u8 ((ay 0).key 28),.int .u8 ((ay 0).key 29),.int .u8 ((ay 0).key 30),.int .u8 ((ay 0).key 31),.bool (ay 0).seen.any,.int .i64 (ay 0).seen.high,.int .u64 (ay 0).seen.seen,.bool (ay 1).on,.int .i64 (ay 1).aH.n,.int .i64 (ay 1).aH.most,.int .i64 (ay 1).role,.int .u8 ((ay 1).key 0),.int .u8 ((ay 1).key 1),.int .u8 ((ay 1).key 2),.int .u8 ((ay 1).key 3),.int .u8 ((ay 1).key 4),.int .u8 ((ay 1).key 5),.int .u8 ((ay 1).key 6),.int .u8 ((ay 1).key 7),.int .u8 ((ay 1).key 8),.int .u8 ((ay 1).key 9),.int .u8 ((ay 1).key 10),.int .u8 ((ay 1).key 11),.int .u8 ((ay 1).key 12),.int .u8 ((ay 1).key 13),.int .u8 ((ay 1).key 14),.int .u8 ((ay 1).key 15),.int .u8 ((ay 1).key 16),.int .u8 ((ay 1).key 17),.int .u8 ((ay 1).key 18),.int .u8 ((ay 1).key 19),.int .u8 ((ay 1).key 20),.int .u8 ((ay 1).key 21),.int .u8 ((ay 1).key 22),.int .u8 ((ay 1).key 23),.int .u8 ((ay 1).key 24),.int .u8 ((ay 1).key 25),.int .u8 ((ay 1).key 26),.int .u8 ((ay 1).key 27),.int .u8 ((ay 1).key 28),.int .u8 ((ay 1).key 29),.int .u8 ((ay 1).key 30),.int .u8 ((ay 1).key 31),.bool (ay 1).seen.any,.int .i64 (ay 1).seen.high,.int .u64 (ay 1).seen.seen,.bool (ay 2).on,.int .i64 (ay 2).aH.n,.int .i64 (ay 2).aH.most,.int .i64 (ay 2).role,.int .u8 ((ay 2).key 0),.int .u8 ((ay 2).key 1),.int .u8 ((ay 2).key 2),.int .u8 ((ay 2).key 3),.int .u8 ((ay 2).key 4),.int .u8 ((ay 2).key 5),.int .u8 ((ay 2).key 6),.int .u8 ((ay 2).key 7),.int .u8 ((ay 2).key 8),.int .u8 ((ay 2).key 9),.int .u8 ((ay 2).key 10),.int .u8 ((ay 2).key 11),.int .u8 ((ay 2).key 12),.int .u8 ((ay 2).key 13),.int .u8 ((ay 2).key 14),.int .u8 ((ay 2).key 15),.int .u8 ((ay 2).key 16),.int .u8 ((ay 2).key 17),.int .u8 ((ay 2).key 18),.int .u8 ((ay 2).key 19),.int .u8 ((ay 2).key 20),.int .u8 ((ay 2).key 21),.int .u8 ((ay 2).key 22),.int .u8 ((ay 2).key 23),.int .u8 ((ay 2).key 24),.int .u8 ((ay 2).key 25),.int .u8 ((ay 2).key 26),.int .u8 ((ay 2).key 27),.int .u8 ((ay 2).key 28),.int .u8 ((ay 2).key 29),.int .u8 ((ay 2).key 30),.int .u8 ((ay 2).key 31),.bool (ay 2).seen.any,.int .i64 (ay 2).seen.high,.int .u64 (ay 2).seen.seen,.int .i64 b,.int .i64 m]
theorem Yi (p:Sd.Pol) (ka:Nat->Option Addr) (kn kc:Nat->Nat) (w:World):aj prog 27 #[.agg (kJ p ka kn kc)] w λv w1=>v=.int .i64 (ee p.i kn)/\Ch [] w w1:=Ng p.i ka kn kc w
theorem RG {q:Nat->Int} {kn:Nat->Nat} (h:ee q kn=0):1<=q 48/\q 48<=3:=by
 have:allI 1 3 [q 48,q 49]=true:=by
  cases e:allI 1 3 [q 48,q 49]with
  |true=>rfl
  |false=>
   exfalso;unfold ee at h
   repeat' split at h
   all_goals first|omega|(rename_i h48;simp[e]at h48)
 simp only[allI,wU,Bool.and_eq_true,decide_eq_true_eq]at this;exact this.1
theorem aij (w:World):
 aj prog 32 #[] w λv w1=>v=.agg #[.int .i64 2,.int .i64 4,.int .i64 0]/\Ch [] w w1:=by
 have S0:=St.nil [] w;refine dz Tryz.func32 rfl ?_;refine au (ax ?_);refine eD S0 (λb=>.pointer (some ⟨b,0,none⟩)) (.cells #[.int .i64 0,.int .i64 0,.int .i64 0] 44) ?_;intro de sH i_;refine aw (ag (au (ax ?_)));refine aa (.agg #[.int .i64 2,.int .i64 4,.int .i64 0]) ?_;refine store_ i_ 0 (.agg #[.int .i64 2,.int .i64 4,.int .i64 0]) de 0 ?_;intro zw4 zS5;refine aw (ag (wp_ret ?_));refine gn rfl (fY [.cell 0 44] [.agg #[.int .i64 2,.int .i64 4,.int .i64 0]] (.agg #[.int .i64 2,.int .i64 4,.int .i64 0]) ⟨cU zS5 0 3 de 0,trivial⟩) ?_;exact⟨rfl,zS5.ch⟩
theorem adZ (w:World):
 aj prog 33 #[.slice none 0 0] w λv w1=>v=.agg (ak .u8 32 (λ_=>0))/\Ch [] w w1:=by
 have S0:=St.nil [] w;refine dz Tryz.func33 rfl ?_;refine au (ax ?_);refine eD S0 (λb=>.pointer (some ⟨b,0,none⟩)) (.cells (ak .u8 32 (λ_=>0)) 37) ?_;intro de sH i_;refine aw (ag (au (ax ?_)));refine eD i_ (λb=>.pointer (some ⟨b,0,none⟩)) (.cells (ak .u8 32 (λ_=>0)) 37) ?_;intro iG Dn gw;refine aw (ag (au (au (ax ?_))));refine aa (.slice none 0 0) ?_;refine aa (.int .i64 0) ?_;refine aa (.int .i64 0) ?_;refine aw (ag (wp_block (CD 24 (au (ax ?_)))));refine aa (.bool false) ?_;refine aw (ag (au (iu ?_)));refine wp_exit (fy (fy (qh (ag (au (ax ?_))))));refine eC gw 0 32 (ak .u8 32 (λ_=>0)) iG 0 ?_;refine store_ gw 1 (.agg (ak .u8 32 (λ_=>0))) de 0 ?_;intro Tp J3;refine aw (ag (wp_ret ?_));refine gn rfl (fY [.cell 2 37] [.agg (ak .u8 32 (λ_=>0))] (.agg (ak .u8 32 (λ_=>0))) ⟨cU J3 1 32 de 0,trivial⟩) ?_;exact⟨rfl,J3.ch⟩
def oT:List Sd.Rec->List Value
 |[]=>[]
 |r::l=>(recC r).toList++oT l
theorem Nh (l:List Sd.Rec) (r:Sd.Rec):oT l++(recC r).toList=oT (l++[r]):=by
 induction l with
 |nil=>simp[oT]
 |cons a l ih=>simp[oT,ih]
theorem Yj (p:Sd.Pol) (ka:Nat->Option Addr) (kn kc:Nat->Nat) (t:Sd.Tok) (bq:Nat) (D:Nat->Sd.dQ) (bt:Nat) (sa be mo:Int) (mb:Sd.Label) (pt:Sd.Point) (hd:Nat->Int) (xs:Option Addr) (ns cs:Nat) (jc bc:Nat) (x:Option Addr) (n c:Nat) (bl:List av) (rl:List Sd.Rec) (kd so sq co ho:Int) {tG:TypeId} (w:World) {ms:List Nat} {w0:World} {bs:List av} (S0:St ms w0 ([⟨1,false,.cells (ak .u32 64 aX) tG (0,0)⟩,⟨jc,true,.cells #[.pointer (some ⟨bc,0,none⟩),.slice xs ns cs,.slice x n c] 128 (0,0)⟩,⟨bc,true,.cells (mz p ka kn kc t bq D bt sa be mo mb pt hd) 105 (0,0)⟩]++(bl++bs)) w) (hR:fa 6 75 (oT rl) x n c bl) (hn:n<=1000):
 aj prog 90 #[.pointer (some ⟨jc,0,none⟩),.int .i64 kd,.int .i64 so,.int .i64 sq,.int .i64 co,.int .i64 ho] w λv w1=>∃x1 c1 yA,v=.tuple #[]/\fa 6 75 (oT (rl++[⟨kd,so,sq,t.epoch,co,ho⟩])) x1 (n+1) c1 yA/\St ms w0 ([⟨1,false,.cells (ak .u32 64 aX) tG (0,0)⟩,⟨jc,true,.cells #[.pointer (some ⟨bc,0,none⟩),.slice xs ns cs,.slice x1 (n+1) c1] 128 (0,0)⟩,⟨bc,true,.cells (mz p ka kn kc t bq D bt sa be mo mb pt (qW hd (⟨kd,so,sq,t.epoch,co,ho⟩:Sd.Rec))) 105 (0,0)⟩]++(yA++bs)) w1:=by
 refine dz Tryz.func90 rfl ?_;refine au (ax ?_);refine aa (.int .i64 kd) ?_;refine aa (.int .i64 so) ?_;refine aa (.int .i64 sq) ?_;refine bY ?_;refine aa (.pointer (some ⟨jc,0,none⟩)) ?_;refine aa (.pointer (some ⟨jc,0,none⟩)) ?_;refine ir S0 1 (.pointer (some ⟨bc,0,none⟩)) jc 0 ?_;refine aa (.pointer (some ⟨bc,0,none⟩)) ?_;refine aa (.pointer (some ⟨bc,56,none⟩)) ?_;refine aa (.pointer (some ⟨bc,57,none⟩)) ?_;refine ir S0 2 (.int .i64 t.epoch) bc 57 ?_;refine aa (.int .i64 co) ?_;refine aa (.int .i64 ho) ?_;refine aa (.agg #[.int .i64 kd,.int .i64 so,.int .i64 sq,.int .i64 t.epoch,.int .i64 co,.int .i64 ho]) ?_;refine eD S0 (λb=>.pointer (some ⟨b,0,none⟩)) (.cells #[.int .i64 0,.int .i64 0,.int .i64 0,.int .i64 0,.int .i64 0,.int .i64 0] 75) ?_;intro de sH i_;refine store_ i_ 0 (.agg #[.int .i64 kd,.int .i64 so,.int .i64 sq,.int .i64 t.epoch,.int .i64 co,.int .i64 ho]) de 0 ?_;intro zw4 zS5;refine aw (ag (au ?_));have gw:St ms w0 ([⟨de,true,.cells #[.int .i64 kd,.int .i64 so,.int .i64 sq,.int .i64 t.epoch,.int .i64 co,.int .i64 ho] 75 (0,0)⟩,⟨1,false,.cells (ak .u32 64 aX) tG (0,0)⟩,⟨jc,true,.cells #[.pointer (some ⟨bc,0,none⟩),.slice xs ns cs,.slice x n c] 128 (0,0)⟩,⟨bc,true,.cells (mz p ka kn kc t bq D bt sa be mo mb pt hd) 105 (0,0)⟩]++(bl++bs)) zw4:=zS5.re (R:=bs) [[⟨de,true,.cells #[.int .i64 kd,.int .i64 so,.int .i64 sq,.int .i64 t.epoch,.int .i64 co,.int .i64 ho] 75 (0,0)⟩],[⟨1,false,.cells (ak .u32 64 aX) tG (0,0)⟩],[⟨jc,true,.cells #[.pointer (some ⟨bc,0,none⟩),.slice xs ns cs,.slice x n c] 128 (0,0)⟩],[⟨bc,true,.cells (mz p ka kn kc t bq D bt sa be mo mb pt hd) 105 (0,0)⟩],bl] [0,1,2,3,4];have zD7:∀w',Ch ((bl).map av.id) zw4 w'->St ms w0 ([⟨de,true,.cells #[.int .i64 kd,.int .i64 so,.int .i64 sq,.int .i64 t.epoch,.int .i64 co,.int .i64 ho] 75 (0,0)⟩,⟨1,false,.cells (ak .u32 64 aX) tG (0,0)⟩,⟨jc,true,.cells #[.pointer (some ⟨bc,0,none⟩),.slice xs ns cs,.slice x n c] 128 (0,0)⟩,⟨bc,true,.cells (mz p ka kn kc t bq D bt sa be mo mb pt hd) 105 (0,0)⟩]++bs) w':=λ_ hc=>gw.less (fa.wr hR) hc;refine agu (T':=75) gw hR 8 7 6 1 [.int .i64 kd,.int .i64 so,.int .i64 sq,.int .i64 t.epoch,.int .i64 co,.int .i64 ho] [] [.pointer (some ⟨jc,0,none⟩),.pointer (some ⟨jc,0,none⟩),.pointer (some ⟨jc,0,none⟩),.pointer (some ⟨jc,2,none⟩),.slice x n c,.agg #[.int .i64 kd,.int .i64 so,.int .i64 sq,.int .i64 t.epoch,.int .i64 co,.int .i64 ho],undef,undef] [[8,0],[8,1],[8,2],[8,3],[8,4],[8,5],[8,6],[8,7],[9,0],[9,1],[9,2],[9,3],[9,4],[9,5],[9,6],[9,7],[9,8],[10,0],[10,1],[10,2],[10,3],[10,4],[10,5],[10,6],[10,7],[10,9,8],[10,9]] (bZ NN (bZ NN (bZ NN (bZ NN (bZ (eL_ zD7 2 jc 2) (bZ (ZB zD7 0 de 0 6 #[.int .i64 kd,.int .i64 so,.int .i64 sq,.int .i64 t.epoch,.int .i64 co,.int .i64 ho]) (bZ (eB_ 1 [.int .i64 kd,.int .i64 so,.int .i64 sq,.int .i64 t.epoch,.int .i64 co,.int .i64 ho] 75) (bZ (eA_ gw hR 31 33 6 1 [.int .i64 kd,.int .i64 so,.int .i64 sq,.int .i64 t.epoch,.int .i64 co,.int .i64 ho] 48 (by omega) (by unfold maxLen;omega) (e':=75)) (sQ))))))))) ?_;intro zx8 zc9 aik anL acR oD qR;refine aa (.pointer (some ⟨jc,0,none⟩)) ?_;refine aa (.pointer (some ⟨jc,2,none⟩)) ?_;refine store_ qR 2 (.slice zx8 (n+1) zc9) jc 2 ?_;intro Mt tq;refine aw (ag ?_);refine lE 13 [⟨0,λ_=>.pointer (some ⟨jc,0,none⟩),λ_=>[]⟩,⟨0,λ_=>.pointer (some ⟨jc,0,none⟩),λ_=>[]⟩,⟨0,λ_=>.pointer (some ⟨jc,0,none⟩),λ_=>[]⟩,⟨0,λ_=>.pointer (some ⟨bc,0,none⟩),λ_=>[]⟩,⟨0,λ_=>.pointer (some ⟨jc,0,none⟩),λ_=>[]⟩,⟨0,λ_=>.pointer (some ⟨jc,0,none⟩),λ_=>[]⟩,⟨0,λ_=>.pointer (some ⟨jc,0,none⟩),λ_=>[]⟩,⟨0,λ_=>.pointer (some ⟨bc,0,none⟩),λ_=>[]⟩,⟨0,λ_=>.pointer (some ⟨bc,0,none⟩),λ_=>[]⟩,⟨0,λ_=>.pointer (some ⟨bc,114,none⟩),λ_=>[]⟩,⟨0,λ_=>.agg (ak .u8 32 hd),λ_=>[]⟩,⟨0,λ_=>.agg #[.int .i64 kd,.int .i64 so,.int .i64 sq,.int .i64 t.epoch,.int .i64 co,.int .i64 ho],λ_=>[]⟩,⟨0,λ_=>.agg (ak .u8 32 (qW hd (⟨kd,so,sq,t.epoch,co,ho⟩:Sd.Rec))),λ_=>[]⟩] [[13,0],[13,1],[13,2],[13,3],[13,4],[13,5],[13,6],[13,7],[13,8],[13,9],[13,10],[13,11],[13,12],[14,0],[14,1],[14,2],[14,3],[14,4],[14,5],[14,6],[14,7],[14,8],[14,9],[14,10],[14,11],[14,12],[14,13],[15,0],[15,1],[15,2],[15,3],[15,4],[15,5],[15,6],[15,7],[15,8],[15,9],[15,10],[15,11],[15,12],[15,14,13],[15,14]] ?_ ?_
 ·refine step_cons sD ?_;refine step_cons sD ?_;refine step_cons sD ?_;refine step_cons (qL_ tq 2 jc 0) ?_;refine step_cons sD ?_;refine step_cons sD ?_;refine step_cons sD ?_;refine step_cons (qL_ tq 2 jc 0) ?_;refine step_cons sD ?_;refine step_cons sD ?_;refine step_cons (Zz tq 3 bc 114 32 (ak .u8 32 hd)) ?_;refine step_cons (Zz tq 0 de 0 6 #[.int .i64 kd,.int .i64 so,.int .i64 sq,.int .i64 t.epoch,.int .i64 co,.int .i64 ho]) ?_;refine step_cons ?_ ?_
  ·intro ail Gm Q2 anh abx;have Qe:ail 47=.agg (ak .u8 32 hd):=(Sp.dt (abx 10 47 (by kernel_rfl) (by kernel_rfl))).1;have uK:ail 48=.agg #[.int .i64 kd,.int .i64 so,.int .i64 sq,.int .i64 t.epoch,.int .i64 co,.int .i64 ho]:=(Sp.dt (abx 11 48 (by kernel_rfl) (by kernel_rfl))).1;have AR:=tq.quiet Q2;refine kP ?_;refine mR [(47,.agg (ak .u8 32 hd)),(48,.agg #[.int .i64 kd,.int .i64 so,.int .i64 sq,.int .i64 t.epoch,.int .i64 co,.int .i64 ho])] (eu Qe (eu uK (iy))) ?_;have py:=AR.loc;refine Y.dh 66 #[.agg (ak .u8 32 hd),.agg #[.int .i64 kd,.int .i64 so,.int .i64 sq,.int .i64 t.epoch,.int .i64 co,.int .i64 ho]] ?_;refine(ah4 hd (⟨kd,so,sq,t.epoch,co,ho⟩:Sd.Rec) _ (py.at_ 1 _ rfl)).mono ?_;rintro _ agU ⟨rfl,kH⟩;have Qg:=py.quiet kH;exact⟨Qg.ch,Sp.eO [] (all_nil)⟩
  exact jK
 intro tI Xm JB k_;have XF:tI 0=.pointer (some ⟨jc,0,none⟩):=(Sp.dt (k_ 0 (by kernel_rfl))).1;have lU:tI 1=.pointer (some ⟨jc,0,none⟩):=(Sp.dt (k_ 1 (by kernel_rfl))).1;have uP:tI 2=.pointer (some ⟨jc,0,none⟩):=(Sp.dt (k_ 2 (by kernel_rfl))).1;have yN:tI 3=.pointer (some ⟨bc,0,none⟩):=(Sp.dt (k_ 3 (by kernel_rfl))).1;have AS:tI 4=.pointer (some ⟨jc,0,none⟩):=(Sp.dt (k_ 4 (by kernel_rfl))).1;have uN:tI 5=.pointer (some ⟨jc,0,none⟩):=(Sp.dt (k_ 5 (by kernel_rfl))).1;have wA:tI 6=.pointer (some ⟨jc,0,none⟩):=(Sp.dt (k_ 6 (by kernel_rfl))).1;have uQ:tI 7=.pointer (some ⟨bc,0,none⟩):=(Sp.dt (k_ 7 (by kernel_rfl))).1;have tv:tI 8=.pointer (some ⟨bc,0,none⟩):=(Sp.dt (k_ 8 (by kernel_rfl))).1;have Qw:tI 9=.pointer (some ⟨bc,114,none⟩):=(Sp.dt (k_ 9 (by kernel_rfl))).1;have Qh:tI 10=.agg (ak .u8 32 hd):=(Sp.dt (k_ 10 (by kernel_rfl))).1;have adL:tI 11=.agg #[.int .i64 kd,.int .i64 so,.int .i64 sq,.int .i64 t.epoch,.int .i64 co,.int .i64 ho]:=(Sp.dt (k_ 11 (by kernel_rfl))).1;have adM:tI 12=.agg (ak .u8 32 (qW hd (⟨kd,so,sq,t.epoch,co,ho⟩:Sd.Rec))):=(Sp.dt (k_ 12 (by kernel_rfl))).1;have Dv:=tq.quiet JB;refine⟨[.pointer (some ⟨jc,0,none⟩),.pointer (some ⟨jc,0,none⟩),.pointer (some ⟨jc,0,none⟩),.pointer (some ⟨bc,0,none⟩),.pointer (some ⟨jc,0,none⟩),.pointer (some ⟨jc,0,none⟩),.pointer (some ⟨jc,0,none⟩),.pointer (some ⟨bc,0,none⟩),.pointer (some ⟨bc,0,none⟩),.pointer (some ⟨bc,114,none⟩),.agg (ak .u8 32 hd),.agg #[.int .i64 kd,.int .i64 so,.int .i64 sq,.int .i64 t.epoch,.int .i64 co,.int .i64 ho],.agg (ak .u8 32 (qW hd (⟨kd,so,sq,t.epoch,co,ho⟩:Sd.Rec)))],by kernel_rfl,aL XF (aL lU (aL uP (aL yN (aL AS (aL uN (aL wA (aL uQ (aL tv (aL Qw (aL Qh (aL adL (aL adM (sO))))))))))))),?_⟩;refine aa (.pointer (some ⟨bc,0,none⟩)) ?_;refine aa (.pointer (some ⟨bc,114,none⟩)) ?_;refine store_ Dv 3 (.agg (ak .u8 32 (qW hd (⟨kd,so,sq,t.epoch,co,ho⟩:Sd.Rec)))) bc 114 ?_;intro alO X1;refine aw ?_;refine end_ rfl (fY [] [] (.tuple #[]) trivial) ?_;exact⟨zx8,zc9,aik,rfl,Nh rl _▸oD,X1.re (R:=bs) [[⟨de,true,.cells #[.int .i64 kd,.int .i64 so,.int .i64 sq,.int .i64 t.epoch,.int .i64 co,.int .i64 ho] 75 (0,0)⟩],[⟨1,false,.cells (ak .u32 64 aX) tG (0,0)⟩],[⟨jc,true,.cells #[.pointer (some ⟨bc,0,none⟩),.slice xs ns cs,.slice zx8 (n+1) zc9] 128 (0,0)⟩],[⟨bc,true,.cells (mz p ka kn kc t bq D bt sa be mo mb pt (qW hd (⟨kd,so,sq,t.epoch,co,ho⟩:Sd.Rec))) 105 (0,0)⟩],aik] [1,2,3,4]⟩
end Go.Proofs.YtggfpcggakghnaaGreatDoor
namespace Go.Proofs.YtggfpcggakghnaaGreatDoor
open Go Go.RowKit Go.BigFrame Sx Vx
structure One where
 a:Sd.Ask
 came:Int
def bS:List One->Prop
 |[]=>True
 |[_]=>True
 |[x,y]=>x.a.aV<y.a.aV/\¬x.a.source=y.a.source
 |[x,y,z]=>(x.a.aV<y.a.aV/\x.a.aV<z.a.aV/\¬y.a.aV=z.a.aV)/\¬x.a.source=y.a.source/\¬x.a.source=z.a.source/\¬y.a.source=z.a.source
 |_=>False
def bD:List One->List Sd.Ask
 |[]=>[]
 |[x]=>[x.a]
 |[x,y]=>[x.a,y.a]
 |[x,y,z]=>if y.a.aV<z.a.aV then[x.a,y.a,z.a]else[x.a,z.a,y.a]
 |_=>[]
def alT (t:One):Array Value:=#[.int .i64 t.a.source,.int .i64 t.a.aV,.int .i64 t.a.gU.n,.int .i64 t.a.gU.most,.int .u64 t.came]
def dY:List One->List Value
 |[]=>[]
 |e::es=>(alT e).toList++dY es
def abP:List Sd.Ask->List Value
 |[]=>[]
 |e::es=>(wJ e).toList++abP es
def QS (bq:Nat) (most:Int) (L:List Sd.Ask) (bl:List av):Prop:=∃es x c came rows,bl=⟨bq,true,.cells #[.slice x es.length c,.int .i64 most,.int .u64 came] 146 (0,0)⟩::rows/\fa 5 162 (dY es) x es.length c rows/\bS es/\bD es=L
def nu (e:One):List V:=[.int .i64 e.a.source,.int .i64 e.a.aV,.int .i64 e.a.gU.n,.int .i64 e.a.gU.most,.int .u64 e.came]
def kx (a:Sd.Ask):List V:=[.int .i64 a.source,.int .i64 a.aV,.int .i64 a.gU.n,.int .i64 a.gU.most]
def b_:List One->List V
 |[]=>[]
 |e::l=>nu e++b_ l
def dm (l:List One) (t:List Value):VB:=⟨true,⟨162,(0,0)⟩,b_ l++[.rest t]⟩
def bE (v:V) (most came:Int):VB:=⟨true,⟨146,(0,0)⟩,[v,.int .i64 most,.int .u64 came]⟩
theorem fi (ids:List Nat):∀l:List One,ab ids (b_ l)=dY l
 |[]=>rfl
 |a::l=>by rw[b_,bo,fi ids l];rfl
theorem tJ:∀l:List One,(dY l).length=l.length*5
 |[]=>rfl
 |a::l=>by simp only[dY,List.length_append,tJ l,List.length_cons,Nat.add_mul];show 5+_=_;omega
def qe (n:Nat) (f:FuncId) (args:List V) (bl:List VB) (K:VK Empty):Prop:=cJ (mL prog (λ_=>none) ([]:List (dI Empty)) (P1 prog) vg) n f args bl [] K
theorem n9 {n f n0:Nat} {args:List V} {bl:List VB} {K:VK Empty} (h:qe n f args bl (cP n0 K)) {ids:List Nat} (hl:ids.length=bl.length) (hn:n0<=ids.length) {bs:List av} {ms:List Nat} {w0 w:World} (S:St ms w0 (lits ids ids bl++bs) w):
 aj prog f (ao ids args).toArray w λv w1=>∃x more b,v=den (ids.take n0++more) x/\(ids.take n0++more).length=b.length/\St ms w0 (lits (ids.take n0++more) (ids.take n0++more) b++bs) w1/\K x b []:=by
 refine(bw (ai.nil (G:=Empty) (P:=prog) (gl:=λ_=>none)).T (ai.nil (G:=Empty) (P:=prog) (gl:=λ_=>none)).Q n (C:=mL prog (λ_=>none) ([]:List (dI Empty)) (P1 prog) vg) (ids:=ids) (bl:=bl) (ch:=[]) (R:=bs) Gl.none hl S h).mono ?_;rintro v w' ⟨y,more,bl',ch',rfl,h1,S',hK⟩
 match ch',S',hK with
 |[],S',hK=>
  obtain⟨v2,aP,bl2,e,gx,S2,hK⟩:=c9 (n0:=n0) h1 (by simp;omega) S' hK;rw[List.take_append_of_le_length hn]at e gx S2;exact⟨v2,aP,bl2,e,gx,S2,hK⟩
 |e::_,_,_=>nomatch e
def KP (most:Int) (y:V) (M:List Sd.Ask):VK Empty:=λx b _=>x=y/\∃es cm,bS es/\bD es=M/\((es=[]/\b=[bE (.raw (.slice none 0 0)) most cm])\/∃c t,b=[bE (.sl 1 0 es.length c) most cm,⟨true,⟨162,(0,0)⟩,b_ es++t⟩]/\cH 0 t=true/\es.length<=c/\eL (b_ es++t)=c*5)
theorem RH {f:Nat} {ar:List V} {most came:Int} {y:V} {M:List Sd.Ask} {es:List One} {x:Option Addr} {c bq:Nat} {rows bs:List av} {ms:List Nat} {w0 w:World} (hy:fK 0 y=true) (hr:fa 5 162 (dY es) x es.length c rows)
 (hz:es=[]->qe 90 f (.ptr 0 0::ar) [bE (.raw (.slice none 0 0)) most came] (cP 1 (KP most y M)))
 (h:∀t,es.length<=c->eL (b_ es++[.rest t])=c*5->qe 90 f (.ptr 0 0::ar) [bE (.sl 1 0 es.length c) most came,dm es t] (cP 1 (KP most y M)))
 (has:∀ids,ao ids ar=ao [] ar) (S:St ms w0 (⟨bq,true,.cells #[.slice x es.length c,.int .i64 most,.int .u64 came] 146 (0,0)⟩::(rows++bs)) w):
 aj prog f (#[.pointer (some ⟨bq,0,none⟩)]++(ao [] ar).toArray) w λv w1=>∃bl',v=den [] y/\QS bq most M bl'/\St ms w0 (bl'++bs) w1:=by
 have fin:∀ids:List Nat,(∃r,ids=bq::r)->aj prog f (ao ids (.ptr 0 0::ar)).toArray w (λv w1=>∃x more b,v=den (ids.take 1++more) x/\(ids.take 1++more).length=b.length/\St ms w0 (lits (ids.take 1++more) (ids.take 1++more) b++bs) w1/\KP most y M x b [])->
  aj prog f (#[.pointer (some ⟨bq,0,none⟩)]++(ao [] ar).toArray) w λv w1=>∃bl',v=den [] y/\QS bq most M bl'/\St ms w0 (bl'++bs) w1:=by
  rintro ids ⟨r,rfl⟩ hg;have e0:(ao (bq::r) (.ptr 0 0::ar)).toArray=#[.pointer (some ⟨bq,0,none⟩)]++(ao [] ar).toArray:=by
   apply Array.ext';simp only[ao,den,has,Array.toList_append];rfl
  rw[e0]at hg;refine hg.mono ?_;rintro v w1 ⟨v2,more,b,rfl,hl,S1,rfl,O5,cm,hH,hA,hb⟩;simp only[List.take_succ_cons,List.take_zero,List.singleton_append]at hl S1⊢;have ey:den (bq::more) v2=den [] v2:=bC (ids:=[]) (more:=bq::more) v2 hy;rcases hb with⟨rfl,rfl⟩|⟨c',t,rfl,ht,hc,hs⟩
  ·obtain rfl:more=[]:=by simpa using hl
   exact⟨_,ey,⟨[],none,0,cm,[],rfl,iO _ _,hH,hA⟩,S1⟩
  ·match more,hl with
   |[b2],_=>
    have e1:ab [bq,b2] (b_ O5++t)=dY O5++ab [] t:=by
     rw[bo,fi];exact congrArg _ (bU (ids:=[]) (more:=[bq,b2]) t ht)
    have e2:lits [bq,b2] [bq,b2] [bE (.sl 1 0 O5.length c') most cm,⟨true,⟨162,(0,0)⟩,b_ O5++t⟩]=⟨bq,true,.cells #[.slice (some ⟨b2,0,none⟩) O5.length c',.int .i64 most,.int .u64 cm] 146 (0,0)⟩::[⟨b2,true,.cells (dY O5++ab [] t).toArray 162 (0,0)⟩]:=by
     rw[<-e1];rfl
    rw[e2]at S1;refine⟨_,ey,⟨O5,some ⟨b2,0,none⟩,c',cm,_,rfl,⟨tJ O5,hc,.inr ⟨b2,ab [] t,rfl,rfl,?_⟩⟩,hH,hA⟩,S1⟩;rw[<-e1,cL,hs]
 obtain⟨_,hle,j7⟩:=hr;rcases j7 with⟨rfl,h0,rfl,rfl⟩|⟨b,t,rfl,rfl,hlen⟩
 ·obtain rfl:es=[]:=List.eq_nil_of_length_eq_zero h0;exact fin [bq] ⟨[],rfl⟩ (n9 (hz rfl) rfl (by simp) S)
 ·have e3:lits [bq,b] [bq,b] [bE (.sl 1 0 es.length c) most came,dm es t]=⟨bq,true,.cells #[.slice (some ⟨b,0,none⟩) es.length c,.int .i64 most,.int .u64 came] 146 (0,0)⟩::[⟨b,true,.cells (dY es++t).toArray 162 (0,0)⟩]:=by
   simp only[lits,aE,dm,bo,fi,ab,cl,List.append_nil];rfl
  refine fin [bq,b] ⟨[b],rfl⟩ (n9 (h t hle ?_) rfl (by simp) (by rw[e3];exact S));rw[<-cL (ids:=[]),bo,fi];simpa[ab,cl]using hlen
def zA (a b:One) (X Y:Prop):Prop:=cond (a.a.aV !=b.a.aV) (cond (decide (a.a.aV<b.a.aV)) X Y) (cond (decide (a.came<b.came)) X Y)
def uw (a b:One) (X Y:Prop):Prop:=cond (a.a.aV !=b.a.aV) (cond (!decide (a.a.aV<b.a.aV)) Y X) (cond (!decide (a.came<b.came)) Y X)
def wW (s:Int) (RI:Nat->Prop) (RJ:Prop):List One->Nat->Prop
 |[],_=>RJ
 |e::l,i=>cond (e.a.source==s) (RI i) (wW s RI RJ l (i+1))
def rmP (k:List One->Prop):List One->Nat->Prop
 |[a,b],0=>k [b,a]
 |[a,b,c],0=>uw b c (k [b,c,a]) (k [c,b,a])
 |[a,b,c],1=>uw c a (k [c,a,b]) (k [a,c,b])
 |l,_=>k l
def D4 (es:List One) (s:Int) (k:Bool->List One->Nat->Prop):Prop:=wW s (λi=>rmP (λl=>k true l (es.length-1)) es i) (k false es es.length) es 0
theorem vj {a b:One} {X Y:Prop} (hr:¬a.a.aV=b.a.aV) (h1:a.a.aV<b.a.aV->X) (h2:b.a.aV<a.a.aV->Y):zA a b X Y:=by
 unfold zA;have e:(a.a.aV !=b.a.aV)=true:=by simpa using hr
 rw[e,cond_true];exact aU (λh=>h1 (of_decide_eq_true h)) λh=>h2 (by have:=of_decide_eq_false h;omega)
theorem rv {a b:One} {X Y:Prop} (hr:¬a.a.aV=b.a.aV) (h1:a.a.aV<b.a.aV->X) (h2:b.a.aV<a.a.aV->Y):uw a b X Y:=by
 unfold uw;have e:(a.a.aV !=b.a.aV)=true:=by simpa using hr
 rw[e,cond_true];exact aU (λh=>h2 (by have:¬a.a.aV<b.a.aV:=by simpa using h
                                      omega)) λh=>h1 (by simpa using h)
theorem RK (s:Int) {k:Bool->List One->Nat->Prop}:∀{es:List One},bS es->(∀b l m,b=Sd.Q.waits (bD es) s->l.length=es.length->bS (l.take m)->bD (l.take m)=Sd.Q.drop (bD es) s->m<=es.length->k b l m)->D4 es s k
 |[],hH,h=>h _ [] 0 rfl rfl trivial rfl (by simp)
 |[a],hH,h=>by
  simp only[D4,wW,rmP];refine aU (λh1=>h _ _ _ ?_ rfl ?_ ?_ ?_) (λh1=>h _ _ _ ?_ rfl ?_ ?_ ?_)<;>simp at h1<;>simp[bD,bS,Sd.Q.drop,Sd.Q.waits,h1]
 |[a,b],hH,h=>by
  simp only[D4,wW,rmP];obtain⟨hr,hs⟩:=hH;have uZ:¬b.a.source=a.a.source:=λh=>hs h.symm;refine aU (λh1=>?_) (λh1=>aU (λh2=>?_) (λh2=>?_));all_goals
   refine h _ _ _ ?_ rfl ?_ ?_ ?_<;>clear h;all_goals (simp only[beq_iff_eq,beq_eq_false_iff_ne,ne_eq]at*;subst_vars;simp[bD,bS,Sd.Q.drop,Sd.Q.waits, *])
 |[a,b,c],hH,h=>by
  simp only[D4,wW,rmP];obtain⟨⟨r1,r2,r3⟩,s1,s2,s3⟩:=hH;have s1':¬b.a.source=a.a.source:=λh=>s1 h.symm;have s2':¬c.a.source=a.a.source:=λh=>s2 h.symm;have s3':¬c.a.source=b.a.source:=λh=>s3 h.symm;have r4:b.a.aV<c.a.aV\/c.a.aV<b.a.aV:=by omega
  refine aU (λh1=>rv r3 (λh4=>?_) (λh4=>?_)) (λh1=>aU (λh2=>rv (by omega) (λh4=>absurd h4 (by omega)) (λh4=>?_)) (λh2=>aU (λh3=>?_) (λh3=>?_)));all_goals
   refine h _ _ _ ?_ rfl ?_ ?_ ?_<;>clear h;all_goals (rcases r4 with r4|r4<;>have r5:=Int.lt_asymm r4<;>simp only[beq_iff_eq,beq_eq_false_iff_ne,ne_eq]at*<;>subst_vars<;>simp[bD,bS,Sd.Q.drop,Sd.Q.waits, *]<;>omega)
 |_::_::_::_::_,hH,_=>absurd hH (by simp[bS])
def aby (x:One) (k:List One->Prop):List One->Prop
 |[]=>k [x]
 |[a]=>uw x a (k [x,a]) (k [a,x])
 |[a,b]=>uw x a (k [x,b,a]) (k [a,b,x])
 |[a,b,c]=>uw x b (uw x a (k [x,a,c,b]) (k [a,x,c,b])) (k [a,b,c,x])
 |_=>False
theorem RL (x:One) {k:List One->Prop}:∀{es:List One},bS es->es.length<3->(∀e∈bD es,¬e.source=x.a.source/\¬e.aV=x.a.aV)->(∀l,l.length=es.length+1->bS l->bD l=Sd.Q.insert (bD es) x.a->k l)->aby x k es
 |[],hH,_,_,h=>h _ rfl trivial rfl
 |[a],hH,_,hr,h=>by
  obtain⟨h1,h2⟩:=hr a.a (by simp[bD]);have h1':¬x.a.source=a.a.source:=λh=>h1 h.symm;refine rv (by omega) (λh4=>h _ rfl ?_ ?_) (λh4=>h _ rfl ?_ ?_)<;>clear h<;>have h5:=Int.lt_asymm h4<;>have h6:=Int.le_of_lt h4<;>have h7:=Int.not_le.2 h4<;>simp[bD,bS,Sd.Q.insert,List.takeWhile,List.dropWhile, *]
 |[a,b],hH,_,hr,h=>by
  obtain⟨r1,s1⟩:=hH;obtain⟨h1,h2⟩:=hr a.a (by simp[bD]);obtain⟨g1,g2⟩:=hr b.a (by simp[bD]);have h1':¬x.a.source=a.a.source:=λh=>h1 h.symm;have g1':¬x.a.source=b.a.source:=λh=>g1 h.symm;have s1':¬b.a.source=a.a.source:=λh=>s1 h.symm;have r4:b.a.aV<x.a.aV\/x.a.aV<b.a.aV:=by omega
  refine rv (by omega) (λh4=>h _ rfl ?_ ?_) (λh4=>h _ rfl ?_ ?_)<;>clear h hr<;>rcases r4 with r4|r4<;>have r5:=Int.lt_asymm r4<;>have r6:=Int.le_of_lt r4<;>have r7:=Int.not_le.2 r4<;>have h5:=Int.lt_asymm h4<;>have h6:=Int.le_of_lt h4<;>have h7:=Int.not_le.2 h4<;>have r8:=Int.lt_asymm r1<;>
   simp[bD,bS,Sd.Q.insert,List.takeWhile,List.dropWhile, *]<;>omega
 |_::_::_::_,_,hl,_,_=>absurd hl (by simp)
def abz (k:List One->Prop):List One->Prop
 |[a,b]=>zA b a (k [b,a]) (k [a,b])
 |[a,b,c]=>zA b a (S b a c) (S a b c)
 |l=>k l
where S (p q c:One):Prop:=zA c q (zA c p (k [c,p,q]) (k [p,c,q])) (k [p,q,c])
theorem RM {k:List One->Prop}:∀{es:List One},bS es->(∀l,l.map (·.a)=bD es->l.length=es.length->k l)->abz k es
 |[],hH,h=>h _ rfl rfl
 |[a],hH,h=>h _ rfl rfl
 |[a,b],hH,h=>vj (by obtain⟨r,_⟩:=hH;omega) (λh4=>absurd h4 (by obtain⟨r,_⟩:=hH;omega)) λ_=>h _ rfl rfl
 |[a,b,c],hH,h=>by
  obtain⟨⟨r1,r2,r3⟩,_⟩:=hH;refine vj (by omega) (λh4=>absurd h4 (by omega)) λ_=>vj (by omega) (λh4=>vj (by omega) (λh5=>absurd h5 (by omega)) λ_=>h _ ?_ rfl) λh4=>h _ ?_ rfl
  ·simp[bD,Int.lt_asymm h4]
  ·simp[bD,h4]
 |_::_::_::_::_,hH,_=>absurd hH (by simp[bS])
theorem D5 {most cm:Int} {y:V} {M:List Sd.Ask} {l:List One} {m c:Nat} {t:List Value} (hm:m<=l.length) (hc:l.length<=c) (hs:eL (b_ l++[.rest t])=c*5) (hH:bS (l.take m)) (hA:bD (l.take m)=M):KP most y M y [bE (.sl 1 0 m c) most cm,dm l t] []:=by
 have e1:(l.take m).length=m:=by rw[List.length_take];omega
 have e2:∀a b:List One,b_ (a++b)=b_ a++b_ b:=λa b=>by
  induction a with
  |nil=>rfl
  |cons x a ih=>simp only[List.cons_append,b_,ih,List.append_assoc]
 have e3:b_ l++[.rest t]=b_ (l.take m)++(b_ (l.drop m)++[.rest t]):=by
  rw[<-List.append_assoc,<-e2,List.take_append_drop]
 have e4:∀l:List One,cH 0 (b_ l++[.rest t])=true:=λl=>by
  induction l with
  |nil=>rfl
  |cons x l ih=>simp only[b_,nu,List.cons_append,List.nil_append,cH,ih];rfl
 refine⟨rfl,l.take m,cm,hH,hA,.inr ⟨c,b_ (l.drop m)++[.rest t],?_,e4 _,by omega,by rw[<-e3];exact hs⟩⟩;rw[e1,<-e3];rfl
theorem g_ (t:List Value):∀l:List One,eL (b_ l++[.rest t])=l.length*5+t.length
 |[]=>by simp[b_,eL,szV]
 |e::l=>by
  have:=g_ t l;simp only[b_,nu,List.cons_append,List.nil_append,eL,szV,this,List.length_cons];omega
section
variable(e0 e1 e2:One) (n c:Nat) (t:List Value) (most came s:Int) (K:VK Empty)
def dK (l:List One):Prop:=D4 l s λr l m=>K (.bool r) [bE (.sl 1 0 m c) most came,dm l t] []
theorem ad0:qe 90 86 [.ptr 0 0,.int .i64 s] [bE (.raw (.slice none 0 0)) most came] (cP 1 K)=K (.bool false) [bE (.raw (.slice none 0 0)) most came] []:=by kernel_rfl
theorem ad1:qe 90 86 [.ptr 0 0,.int .i64 s] [bE (.sl 1 0 0 c) most came,dm [] t] (cP 1 K)=dK c t most came s K []:=by kernel_rfl
theorem ad2:qe 90 86 [.ptr 0 0,.int .i64 s] [bE (.sl 1 0 [e0].length (c+[e0].length)) most came,dm [e0] t] (cP 1 K)=dK (c+[e0].length) t most came s K [e0]:=by kernel_rfl
theorem ad3:qe 90 86 [.ptr 0 0,.int .i64 s] [bE (.sl 1 0 [e0,e1].length (c+[e0,e1].length)) most came,dm [e0,e1] t] (cP 1 K)=dK (c+[e0,e1].length) t most came s K [e0,e1]:=by kernel_rfl
theorem ad4:qe 90 86 [.ptr 0 0,.int .i64 s] [bE (.sl 1 0 [e0,e1,e2].length (c+[e0,e1,e2].length)) most came,dm [e0,e1,e2] t] (cP 1 K)=dK (c+[e0,e1,e2].length) t most came s K [e0,e1,e2]:=by kernel_rfl
end
theorem RN {c:Nat} {t:List Value} {most came s:Int} {K:VK Empty}:∀{es:List One},bS es->dK (c+es.length) t most came s K es->Hd (qe 90 86 [.ptr 0 0,.int .i64 s] [bE (.sl 1 0 es.length (c+es.length)) most came,dm es t] (cP 1 K))
 |[],_,h=>⟨by rw[List.length_nil,ad1];exact h⟩
 |[e0],_,h=>⟨by rw[ad2];exact h⟩
 |[e0,e1],_,h=>⟨by rw[ad3];exact h⟩
 |[e0,e1,e2],_,h=>⟨by rw[ad4];exact h⟩
 |_::_::_::_::_,hH,_=>absurd hH (by simp[bS])
theorem Yk {es:List One} (hH:bS es) {most came s:Int} {c:Nat} {t:List Value} (hc:es.length<=c) (hs:eL (b_ es++[.rest t])=c*5):dK c t most came s (KP most (.bool (Sd.Q.waits (bD es) s)) (Sd.Q.drop (bD es) s)) es:=
 RK s hH λb l m hb hl h1 h2 hm=>by
  subst hb;exact D5 (by omega) (by omega) (by rw[<-hs,g_,g_,hl]) h1 h2
theorem ad5 {bq:Nat} {most:Int} {L:List Sd.Ask} {bl bs:List av} {ms:List Nat} {w0 w:World} (s:Int) (hQ:QS bq most L bl) (S0:St ms w0 (bl++bs) w):
 aj prog 86 #[.pointer (some ⟨bq,0,none⟩),.int .i64 s] w λv w1=>∃bl',v=.bool (Sd.Q.waits L s)/\QS bq most (Sd.Q.drop L s) bl'/\St ms w0 (bl'++bs) w1:=by
 obtain⟨es,x,c,came,rows,rfl,hr,hH,rfl⟩:=hQ;refine RH (f:=86) (ar:=[.int .i64 s]) (y:=.bool (Sd.Q.waits (bD es) s)) rfl hr (λh0=>?_) (λt hc hs=>?_) (λ_=>rfl) S0
 ·subst h0;rw[ad0];exact⟨rfl,[],came,trivial,rfl,.inl ⟨rfl,rfl⟩⟩
 ·have h:=Yk hH (most:=most) (came:=came) (s:=s) hc hs;obtain⟨d,hd⟩:∃d,c=d+es.length:=⟨c-es.length,by omega⟩;rw[hd]at h⊢;exact(RN hH h).h
section
variable(e0 e1 e2:One) (a:Sd.Ask) (c:Nat) (t:List Value) (most came:Int) (K:VK Empty)
def pK (es:List One) (n c':Nat) (u:List Value):Prop:=aby ⟨a,came⟩ (λl=>K (.int .i64 0) [bE (.sl 1 0 n c') most (u64.wrap (came+1)),dm l u] []) es
def pX (es:List One):Prop:=wW a.source (λ_=>K (.int .i64 27) [bE (.sl 1 0 es.length c) most came,dm es t] []) (cond (decide ((es.length:Int)>=most)) (K (.int .i64 3) [bE (.sl 1 0 es.length c) most came,dm es t] [])
 ((es.length<=c/\eL (b_ es++[.rest t])=c*5)/\(∀(c':Nat) (u:List Value),es.length+1<=c'->eL (b_ (es++[⟨a,came⟩])++[.rest u])=c'*5->pK a most came K es (es.length+1) c' u)/\
   (∀(c':Nat) (u:List Value),es.length+1<=c'->eL (b_ (es++[⟨a,came⟩])++[.rest u])=c'*5->pK a most came K es (es.length+1) c' u))) es 0
theorem ad6:qe 90 216 [.ptr 0 0,.agg (kx a)] [bE (.raw (.slice none 0 0)) most came] (cP 1 K)=cond (decide ((0:Int)>=most)) (K (.int .i64 3) [bE (.raw (.slice none 0 0)) most came] [])
 (∀(c':Nat) (u:List Value),1<=c'->eL (b_ [⟨a,came⟩]++[.rest u])=c'*5->pK a most came K [] 1 c' u):=by kernel_rfl
theorem ad7:qe 90 216 [.ptr 0 0,.agg (kx a)] [bE (.sl 1 0 0 0) most came,dm [] t] (cP 1 K)=cond (decide ((0:Int)>=most)) (K (.int .i64 3) [bE (.sl 1 0 0 0) most came,dm [] t] [])
 (∀(c':Nat) (u:List Value),1<=c'->eL (b_ [⟨a,came⟩]++[.rest u])=c'*5->pK a most came K [] 1 c' u):=by kernel_rfl
theorem ad8:qe 90 216 [.ptr 0 0,.agg (kx a)] [bE (.sl 1 0 0 (c+1)) most came,dm [] t] (cP 1 K)=pX a (c+1) t most came K []:=by kernel_rfl
theorem ad9:qe 90 216 [.ptr 0 0,.agg (kx a)] [bE (.sl 1 0 [e0].length c) most came,dm [e0] t] (cP 1 K)=pX a c t most came K [e0]:=by kernel_rfl
theorem ad_:qe 90 216 [.ptr 0 0,.agg (kx a)] [bE (.sl 1 0 [e0,e1].length c) most came,dm [e0,e1] t] (cP 1 K)=pX a c t most came K [e0,e1]:=by kernel_rfl
theorem aea:qe 90 216 [.ptr 0 0,.agg (kx a)] [bE (.sl 1 0 [e0,e1,e2].length c) most came,dm [e0,e1,e2] t] (cP 1 K)=pX a c t most came K [e0,e1,e2]:=by kernel_rfl
end
def KS (n:Nat) (B:List VB) (M:List Sd.Ask):VK Empty:=λx b _=>∃l c u,x=.sl 2 0 n c/\b=B++[dm l u]/\l.map (·.a)=M/\l.length=n/\n<=c/\eL (b_ l++[.rest u])=c*5
section
variable(e0 e1 e2:One) (c:Nat) (t:List Value) (most came:Int) (K:VK Empty)
def sX (es:List One):Prop:=∀(c':Nat) (u:List Value),es.length<=c'->eL (b_ es++[.rest u])=c'*5->abz (λl=>K (.sl 2 0 es.length c') [bE (.sl 1 0 es.length c) most came,dm es t,dm l u] []) es
theorem aim:qe 90 68 [.ptr 0 0] [bE (.raw (.slice none 0 0)) most came] (cP 1 K)=K (.raw (.slice none 0 0)) [bE (.raw (.slice none 0 0)) most came] []:=by kernel_rfl
theorem ain:qe 90 68 [.ptr 0 0] [bE (.sl 1 0 0 c) most came,dm [] t] (cP 2 K)=K (.sl 2 0 0 0) [bE (.sl 1 0 0 c) most came,dm [] t,⟨true,⟨162,(0,0)⟩,[]⟩] []:=by kernel_rfl
theorem aio:qe 90 68 [.ptr 0 0] [bE (.sl 1 0 [e0].length (c+[e0].length)) most came,dm [e0] t] (cP 2 K)=sX (c+[e0].length) t most came K [e0]:=by kernel_rfl
theorem aip:qe 90 68 [.ptr 0 0] [bE (.sl 1 0 [e0,e1].length (c+[e0,e1].length)) most came,dm [e0,e1] t] (cP 2 K)=sX (c+[e0,e1].length) t most came K [e0,e1]:=by kernel_rfl
theorem aiq:qe 90 68 [.ptr 0 0] [bE (.sl 1 0 [e0,e1,e2].length (c+[e0,e1,e2].length)) most came,dm [e0,e1,e2] t] (cP 2 K)=sX (c+[e0,e1,e2].length) t most came K [e0,e1,e2]:=by kernel_rfl
def Cy (b:VB):VB:=⟨false,b.ty,b.c⟩
def gb:List Sd.Ask->Sd.Ask×Int
 |[]=>(⟨0,0,⟨0,0⟩⟩,2)
 |a::_=>(a,0)
def hV (l:List Sd.Ask):V:=.az [.agg (kx (gb l).1),.int .i64 (gb l).2]
theorem aeb:qe 30 213 [.ptr 0 0] [Cy (bE (.raw (.slice none 0 0)) most came)] (cP 0 K)=K (hV []) [] []:=by kernel_rfl
theorem aec:qe 30 213 [.ptr 0 0] [Cy (bE (.sl 1 0 0 c) most came),Cy (dm [] t)] (cP 0 K)=K (hV []) [] []:=by kernel_rfl
theorem aed:qe 30 213 [.ptr 0 0] [Cy (bE (.sl 1 0 [e0].length c) most came),Cy (dm [e0] t)] (cP 0 K)=K (hV [e0.a]) [] []:=by kernel_rfl
theorem aee:qe 30 213 [.ptr 0 0] [Cy (bE (.sl 1 0 [e0,e1].length c) most came),Cy (dm [e0,e1] t)] (cP 0 K)=K (hV [e0.a]) [] []:=by kernel_rfl
theorem aef:qe 30 213 [.ptr 0 0] [Cy (bE (.sl 1 0 [e0,e1,e2].length c) most came),Cy (dm [e0,e1,e2] t)] (cP 0 K)=K (hV [e0.a]) [] []:=by kernel_rfl
end
def RO (n:Nat) (es:List One) (k0:Option Addr->Nat->Prop) (k:Nat->List One->List Value->Prop):Prop:=match n with
 |0=>∀(x:Option Addr) (c:Nat),k0 x c
 |1=>∀(a:One) (c:Nat) (t:List Value),[a.a]=bD es->k c [a] t
 |2=>∀(a b:One) (c:Nat) (t:List Value),[a.a,b.a]=bD es->k c [a,b] t
 |3=>∀(a b d:One) (c:Nat) (t:List Value),[a.a,b.a,d.a]=bD es->k c [a,b,d] t
 |_=>False
def vl (n:Nat) (es:List One) (most came:Int):gm aC:=λargs bl ch K=>match args,bl,ch with
 |[.ptr 0 0],[b],[g1,g2,g]=>(b=bE g.v most came/\g.T=162/\g.z=5/\g.os=dY es/\g.n=es.length/\es.length=n/\bS es)/\RO n es (λx c=>K (.raw (.slice x 0 c)) bl ch) (λc l t=>K (.sl 1 0 n c) (bl++[dm l t]) ch)
 |_,_,_=>False
def apps (r:aC) (news:List Value) (k:aC->Prop):Prop:=(r.v=r.v/\r.n+1<=1000000)/\∀(xa:Option Addr) (c:Nat) (bk:List av) (h:fa r.z r.T (r.os++news) xa (r.n+1) c bk),k ⟨r.T,r.z,r.os++news,xa,r.n+1,c,bk,h⟩
def Yl (g:aC) (T z:Nat) (os:List Value) (n:Nat):Prop:=g.T=T/\g.z=z/\g.os=os/\g.n=n
theorem tK:∀a b:List Sd.Ask,abP (a++b)=abP a++abP b
 |[],b=>rfl
 |x::a,b=>by simp only[List.cons_append,abP,tK a b,List.append_assoc]
theorem Bm {r:aC} {news:List Value} {k:aC->Prop} {T z n:Nat} {os:List Value} (h:Yl r T z os n) (hn:n<100) (hk:∀r',Yl r' T z (os++news) (n+1)->k r'):apps r news k:=by
 obtain⟨rfl,rfl,rfl,rfl⟩:=h;exact⟨⟨rfl,by omega⟩,λxa c bk hh=>hk _ ⟨rfl,rfl,rfl,rfl⟩⟩
theorem wY {es:List One} (h:bS es):(bD es).length=es.length/\es.length<=3:=by
 match es,h with
 |[],_=>simp[bD]
 |[x],_=>simp[bD]
 |[x,y],h=>simp[bD]
 |[x,y,z],h=>simp only[bD];split<;>simp
 |_::_::_::_::_,h=>exact absurd h (by simp[bS])
theorem Ym {n:Nat} {es l:List One} {k0:Option Addr->Nat->Prop} {k:Nat->List One->List Value->Prop} (h:RO n es k0 k) (hl:l.length=n) (hm:l.map (·.a)=bD es):(n=0->∀x c,k0 x c)/\(0<n->∀c t,k c l t):=by
 match l,n,hl with
 |[],0,_=>exact⟨λ_=>h,λh=>by omega⟩
 |[a],1,_=>exact⟨λh=>by omega,λ_ c t=>h a c t hm⟩
 |[a,b],2,_=>exact⟨λh=>by omega,λ_ c t=>h a b c t hm⟩
 |[a,b,d],3,_=>exact⟨λh=>by omega,λ_ c t=>h a b d c t hm⟩
 |_::_::_::_::_,n+4,_=>exact h.elim
theorem JU {n:Nat} {es:List One} {k0:Option Addr->Nat->Prop} {k:Nat->List One->List Value->Prop} (hn:n<=3) (h0:n=0->∀x c,k0 x c) (h:∀l c t,l.map (·.a)=bD es->l.length=n->k c l t):RO n es k0 k:=by
 match n,hn with
 |0,_=>exact h0 rfl
 |1,_=>exact λa c t hm=>h [a] c t hm rfl
 |2,_=>exact λa b c t hm=>h [a,b] c t hm rfl
 |3,_=>exact λa b d c t hm=>h [a,b,d] c t hm rfl
theorem Yn {c:Nat} {t:List Value} {most came:Int} {K:VK Empty}:∀{es:List One},bS es->0<es.length->sX (c+es.length) t most came K es->Hd (qe 90 68 [.ptr 0 0] [bE (.sl 1 0 es.length (c+es.length)) most came,dm es t] (cP 2 K))
 |[],_,h0,_=>absurd h0 (by simp)
 |[e0],_,_,h=>⟨by rw[aio];exact h⟩
 |[e0,e1],_,_,h=>⟨by rw[aip];exact h⟩
 |[e0,e1,e2],_,_,h=>⟨by rw[aiq];exact h⟩
 |_::_::_::_::_,hH,_,_=>absurd hH (by simp[bS])
theorem RP {es:List One} {x:Option Addr} {c bq:Nat} {most came:Int} {rows bs:List av} {ms:List Nat} {w0 w:World} (j7:fa 5 162 (dY es) x es.length c rows) (hH:bS es)
 (S0:St ms w0 (⟨bq,true,.cells #[.slice x es.length c,.int .i64 most,.int .u64 came] 146 (0,0)⟩::(rows++bs)) w):
 aj prog 68 #[.pointer (some ⟨bq,0,none⟩)] w λv w1=>∃l xr cr rw,v=.slice xr es.length cr/\l.map (·.a)=bD es/\l.length=es.length/\(es.length=0\/fa 5 162 (dY l) xr es.length cr rw)/\St ms w0 (rw++(⟨bq,true,.cells #[.slice x es.length c,.int .i64 most,.int .u64 came] 146 (0,0)⟩::(rows++bs))) w1:=by
 obtain⟨_,hle,j7⟩:=j7;rcases j7 with⟨rfl,h0,rfl,rfl⟩|⟨b,t,rfl,rfl,hlen⟩
 ·obtain rfl:es=[]:=List.eq_nil_of_length_eq_zero h0;refine(n9 (f:=68) (n:=90) (args:=[.ptr 0 0]) (n0:=1) (K:=λx b _=>x=.raw (.slice none 0 0)/\b=[bE (.raw (.slice none 0 0)) most came]) (ids:=[bq]) (bl:=[bE (.raw (.slice none 0 0)) most came]) (by rw[aim];exact⟨rfl,rfl⟩) rfl (by simp) S0).mono ?_;rintro v w1 ⟨x,more,b,rfl,hl,S1,rfl,rfl⟩;obtain rfl:more=[]:=by simpa using hl
  exact⟨[],none,0,[],rfl,rfl,rfl,.inl rfl,S1⟩
 ·have e3:lits [bq,b] [bq,b] [bE (.sl 1 0 es.length c) most came,dm es t]=⟨bq,true,.cells #[.slice (some ⟨b,0,none⟩) es.length c,.int .i64 most,.int .u64 came] 146 (0,0)⟩::[⟨b,true,.cells (dY es++t).toArray 162 (0,0)⟩]:=by
   simp only[lits,aE,dm,bo,fi,ab,cl,List.append_nil];rfl
  have S1:St ms w0 (lits [bq,b] [bq,b] [bE (.sl 1 0 es.length c) most came,dm es t]++bs) w:=by rw[e3];exact S0
  rcases Nat.eq_zero_or_pos es.length with h0|h0
  ·obtain rfl:es=[]:=List.eq_nil_of_length_eq_zero h0;refine(n9 (f:=68) (n:=90) (args:=[.ptr 0 0]) (n0:=2) (K:=λx b _=>x=.sl 2 0 0 0/\b=[bE (.sl 1 0 0 c) most came,dm [] t,⟨true,⟨162,(0,0)⟩,[]⟩]) (ids:=[bq,b]) (by rw[show([]:List One).length=0 from rfl,ain];exact⟨rfl,rfl⟩) rfl (by simp) S1).mono ?_;rintro v w1 ⟨x,more,bl',rfl,hl,S2,rfl,rfl⟩
   match more,hl with
   |[b2],_=>
    refine⟨[],some ⟨b2,0,none⟩,0,[],rfl,rfl,rfl,.inl rfl,?_⟩;have e5:lits [bq,b,b2] [bq,b,b2] [bE (.sl 1 0 0 c) most came,dm [] t,⟨true,⟨162,(0,0)⟩,[]⟩]=[⟨bq,true,.cells #[.slice (some ⟨b,0,none⟩) 0 c,.int .i64 most,.int .u64 came] 146 (0,0)⟩,⟨b,true,.cells (dY []++t).toArray 162 (0,0)⟩]++[⟨b2,true,.cells #[] 162 (0,0)⟩]:=by
     simp only[List.cons_append,List.nil_append,lits,aE,dm,b_,dY,ab,cl,List.append_nil];rfl
    have e4:([bq,b].take 2++[b2]:List Nat)=[bq,b,b2]:=rfl;rw[e4,e5]at S2;have:=S2.sub (List.Sublist.append_right (List.sublist_append_left [_,_] _) bs);exact this
  ·have fU:qe 90 68 [.ptr 0 0] [bE (.sl 1 0 es.length c) most came,dm es t] (cP 2 (KS es.length [bE (.sl 1 0 es.length c) most came,dm es t] (bD es))):=by
    have h:sX c t most came (KS es.length [bE (.sl 1 0 es.length c) most came,dm es t] (bD es)) es:=λc' u h1 h2=>RM hH λl hm hl=>⟨l,c',u,rfl,rfl,hm,hl,h1,by rw[<-h2,g_,g_,hl]⟩;clear hlen e3 S0 S1;obtain⟨d,hd⟩:∃d,c=d+es.length:=⟨c-es.length,by omega⟩;rw[hd]at h⊢;exact(Yn hH h0 h).h
   refine(n9 fU (ids:=[bq,b]) rfl (by simp) S1).mono ?_;rintro v w1 ⟨x,more,bl',rfl,hl,S2,l,c',u,rfl,rfl,hm,hll,Tt,iM⟩
   match more,hl with
   |[b2],_=>
    have e4:([bq,b].take 2++[b2]:List Nat)=[bq,b,b2]:=rfl;have e5:lits [bq,b,b2] [bq,b,b2] ([bE (.sl 1 0 es.length c) most came,dm es t]++[dm l u])=⟨bq,true,.cells #[.slice (some ⟨b,0,none⟩) es.length c,.int .i64 most,.int .u64 came] 146 (0,0)⟩::⟨b,true,.cells (dY es++t).toArray 162 (0,0)⟩::[⟨b2,true,.cells (dY l++u).toArray 162 (0,0)⟩]:=by
     simp only[List.cons_append,List.nil_append,lits,aE,dm,bo,fi,ab,cl,List.append_nil];rfl
    rw[e4,e5]at S2;refine⟨l,some ⟨b2,0,none⟩,c',[⟨b2,true,.cells (dY l++u).toArray 162 (0,0)⟩],rfl,hm,hll,.inr ⟨by rw[tJ,hll],Tt,.inr ⟨b2,u,rfl,rfl,?_⟩⟩,?_⟩
    ·rw[<-iM,<-cL (ids:=[]),bo,fi];simp[ab,cl]
    ·exact S2.perm ((List.Perm.append_right bs (List.perm_append_comm (l₁:=[_,_]) (l₂:=[_]))))
theorem ry (n:Nat) (es:List One) (most came:Int):Sound prog (λ_=>none) 68 (vl n es most came):=by
 intro args ids bl ch R ms w0 w K hg hl S hc;unfold vl at hc;split at hc
 ·rename_i b g1 g2 g;obtain⟨⟨rfl,hT,hz,rO,hn,rfl,hH⟩,hK⟩:=hc
  match ids,hl with
  |[i],_=>
   have e1:lits [i] [i] [bE g.v most came]=[⟨i,true,.cells #[.slice g.x g.n g.c,.int .i64 most,.int .u64 came] 146 (0,0)⟩]:=rfl;have p1:∀(q:av) (A B D:List av),(([q]:List av)++(A++(B++(D++R)))).Perm (q::(D++(A++(B++R)))):=by
    intro q A B D;refine List.Perm.cons q ?_;have:=List.perm_append_comm_assoc (A++B) D R;simpa[List.append_assoc]using this
   rw[e1]at S;have S1:=S.perm (p1 _ g1.bl g2.bl g.bl);have hr:=g.h;rw[hT,hz,rO,hn]at hr;rw[hn]at S1;refine(RP hr hH S1).mono ?_;rintro v w1 ⟨l,xr,cr,rw_,rfl,hm,hll,j7,S2⟩;obtain⟨k0,k1⟩:=Ym hK hll hm;rcases Nat.eq_zero_or_pos es.length with h0|h0
   ·refine⟨_,[],_,_,?_,rfl,?_,k0 h0 xr cr⟩
    ·simp only[den];rw[h0]
    ·have S3:=S2.sub (List.sublist_append_right rw_ _);rw[<-hn]at S3;have S4:=S3.perm (p1 _ g1.bl g2.bl g.bl).symm;exact S4
   ·rcases j7 with h|h
    ·omega
    ·obtain⟨_,_,h3⟩:=h;rcases h3 with⟨_,hz,_⟩|⟨b,t,hx,hbl,_⟩
     ·omega
     ·refine⟨_,[b],_,_,?_,rfl,?_,k1 h0 cr t⟩
      ·simp only[den];rw[hx];rfl
      ·rw[hbl,<-hn]at S2;have e2:lits ([i]++[b]) ([i]++[b]) ([bE g.v most came]++[dm l t])=[⟨i,true,.cells #[.slice g.x g.n g.c,.int .i64 most,.int .u64 came] 146 (0,0)⟩]++[⟨b,true,.cells (dY l++t).toArray 162 (0,0)⟩]:=by
        simp only[List.singleton_append,lits,aE,dm,bo,fi,ab,cl,List.append_nil];rfl
       rw[e2];refine S2.perm ?_;refine(List.Perm.append_left _ (p1 _ g1.bl g2.bl g.bl).symm).trans ?_;rw[List.append_assoc];exact List.perm_append_comm_assoc _ _ _
 ·exact hc.elim
theorem wZ {es:List One} (h:bS es) (x:Sd.Ask):x∈bD es↔∃e∈es,e.a=x:=by
 match es,h with
 |[],_=>simp[bD]
 |[a],_=>simp[bD,eq_comm]
 |[a,b],_=>simp[bD,eq_comm]
 |[a,b,d],_=>
  simp only[bD];split<;>simp[eq_comm];exact or_congr_right or_comm
 |_::_::_::_::_,h=>exact absurd h (by simp[bS])
theorem D6 {s:Int} {RI:Nat->Prop} {RJ:Prop}:∀{es:List One} {i:Nat},((∃e∈es,e.a.source=s)->∀i,RI i)->((∀e∈es,¬e.a.source=s)->RJ)->wW s RI RJ es i
 |[],_,_,h2=>h2 (by simp)
 |e::l,i,h1,h2=>aU (λh=>h1 ⟨e,by simp,by simpa using h⟩ i) λh=>D6 (λ⟨x,hx,hs⟩=>h1 ⟨x,by simp[hx],hs⟩) λhl=>h2 λx hx=>by
  rcases List.mem_cons.1 hx with rfl|hx
  ·simpa using h
  ·exact hl x hx
theorem Yo {es:List One} (hH:bS es) {a:Sd.Ask} {most came:Int} {c:Nat} {t:List Value} (hm:most<=3) (hr:∀e∈bD es,e.source=a.source\/¬e.aV=a.aV) (hc:es.length<=c) (hs:eL (b_ es++[.rest t])=c*5):
 pX a c t most came (KP most (.int .i64 (Sd.Q.push most (bD es) a).2) (Sd.Q.push most (bD es) a).1) es:=by
 obtain⟨hal,Fx⟩:=wY hH;have same:∀k:Int,Sd.Q.push most (bD es) a=(bD es,k)->KP most (.int .i64 (Sd.Q.push most (bD es) a).2) (Sd.Q.push most (bD es) a).1 (.int .i64 k) [bE (.sl 1 0 es.length c) most came,dm es t] []:=λk hk=>by
  rw[hk];exact D5 (Nat.le_refl _) hc hs (by rw[List.take_length];exact hH) (by rw[List.take_length])
 refine D6 (λ⟨e,he,hse⟩ _=>same 27 ?_) λOJ=>aU (λh=>same 3 ?_) λh=>?_
 ·have:Sd.Q.waits (bD es) a.source=true:=List.any_eq_true.2 ⟨e.a,(wZ hH _).2 ⟨e,he,rfl⟩,by simpa using hse⟩;simp[Sd.Q.push,this]
 all_goals
  have hw:Sd.Q.waits (bD es) a.source=false:=List.any_eq_false.2 λx hx=>by
   obtain⟨e,he,rfl⟩:=(wZ hH _).1 hx;simpa using OJ e he
 ·have h':most<=((bD es).length:Int):=by rw[hal];exact of_decide_eq_true h
  simp[Sd.Q.push,hw,h']
 ·have h':¬most<=(es.length:Int):=of_decide_eq_false h;have e1:Sd.Q.push most (bD es) a=(Sd.Q.insert (bD es) a,0):=by simp[Sd.Q.push,hw,hal,h']
  rw[e1];have X:∀(c':Nat) (u:List Value),es.length+1<=c'->eL (b_ (es++[⟨a,came⟩])++[.rest u])=c'*5->pK a most came (KP most (.int .i64 0) (Sd.Q.insert (bD es) a)) es (es.length+1) c' u:=λc' u h1 h2=>by
   refine RL ⟨a,came⟩ hH (by omega) (λe he=>?_) λl hl hH' hA'=>?_
   ·obtain⟨x,hx,rfl⟩:=(wZ hH _).1 he;exact⟨OJ x hx,(hr _ he).resolve_left (OJ x hx)⟩
   ·exact D5 (by omega) (by omega) (by rw[<-h2,g_,g_,hl,List.length_append];rfl) (by rw[<-hl,List.take_length];exact hH') (by rw[<-hl,List.take_length];exact hA')
  exact⟨⟨hc,hs⟩,X,X⟩
theorem D7 {a:Sd.Ask} {most came:Int} (t:List Value) {B:List VB} (hB:B=[bE (.raw (.slice none 0 0)) most came]\/B=[bE (.sl 1 0 0 0) most came,dm [] t]/\t.length=0):
 cond (decide ((0:Int)>=most)) (KP most (.int .i64 (Sd.Q.push most (bD []) a).2) (Sd.Q.push most (bD []) a).1 (.int .i64 3) B [])
  (∀(c':Nat) (u:List Value),1<=c'->eL (b_ [⟨a,came⟩]++[.rest u])=c'*5->pK a most came (KP most (.int .i64 (Sd.Q.push most (bD []) a).2) (Sd.Q.push most (bD []) a).1) [] 1 c' u):=by
 refine aU (λh=>?_) λh c' u h1 h2=>?_
 ·have h':most<=0:=of_decide_eq_true h;have e1:Sd.Q.push most (bD []) a=([],3):=by simp[Sd.Q.push,Sd.Q.waits,bD,h']
  rw[e1];rcases hB with rfl|⟨rfl,ht⟩
  ·exact⟨rfl,[],came,trivial,rfl,.inl ⟨rfl,rfl⟩⟩
  ·exact D5 (l:=[]) (Nat.le_refl _) (Nat.le_refl _) (by rw[g_,ht];rfl) trivial rfl
 ·have h':¬most<=0:=of_decide_eq_false h;have e1:Sd.Q.push most (bD []) a=([a],0):=by simp[Sd.Q.push,Sd.Q.waits,Sd.Q.insert,bD,h']
  rw[e1];exact D5 (l:=[⟨a,came⟩]) (m:=1) (Nat.le_refl _) h1 h2 trivial rfl
theorem RQ {a:Sd.Ask} {t:List Value} {most came:Int} {K:VK Empty}:∀{es:List One} {c:Nat},bS es->0<es.length+c->pX a c t most came K es->Hd (qe 90 216 [.ptr 0 0,.agg (kx a)] [bE (.sl 1 0 es.length c) most came,dm es t] (cP 1 K))
 |[],0,_,h0,_=>absurd h0 (by simp)
 |[],c+1,_,_,h=>⟨by rw[List.length_nil,ad8];exact h⟩
 |[e0],_,_,_,h=>⟨by rw[ad9];exact h⟩
 |[e0,e1],_,_,_,h=>⟨by rw[ad_];exact h⟩
 |[e0,e1,e2],_,_,_,h=>⟨by rw[aea];exact h⟩
 |_::_::_::_::_,_,hH,_,_=>absurd hH (by simp[bS])
theorem aeg {bq:Nat} {most:Int} {L:List Sd.Ask} {bl bs:List av} {ms:List Nat} {w0 w:World} (a:Sd.Ask) (hQ:QS bq most L bl) (hm:most<=3) (hr:∀e∈L,e.source=a.source\/¬e.aV=a.aV) (S0:St ms w0 (bl++bs) w):
 aj prog 216 #[.pointer (some ⟨bq,0,none⟩),.agg (wJ a)] w λv w1=>∃bl',v=.int .i64 (Sd.Q.push most L a).2/\QS bq most (Sd.Q.push most L a).1 bl'/\St ms w0 (bl'++bs) w1:=by
 obtain⟨es,x,c,came,rows,rfl,mT,hH,rfl⟩:=hQ;refine RH (f:=216) (ar:=[.agg (kx a)]) (y:=.int .i64 (Sd.Q.push most (bD es) a).2) rfl mT (λh0=>?_) (λt hc hs=>?_) (λ_=>rfl) S0
 ·subst h0;rw[ad6];exact D7 [] (.inl rfl)
 ·rcases Nat.eq_zero_or_pos (es.length+c)with h0|h0
  ·obtain rfl:es=[]:=List.eq_nil_of_length_eq_zero (by omega);obtain rfl:c=0:=by simpa using h0
   rw[List.length_nil,ad7];exact D7 t (.inr ⟨rfl,by rw[g_]at hs;simpa using hs⟩)
  ·exact(RQ hH h0 (Yo hH (came:=came) hm hr hc hs)).h
theorem RR {c:Nat} {t:List Value} {most came:Int} {K:VK Empty}:∀{es:List One},bS es->K (hV (bD es)) [] []->Hd (qe 30 213 [.ptr 0 0] [Cy (bE (.sl 1 0 es.length c) most came),Cy (dm es t)] (cP 0 K))
 |[],_,h=>⟨by rw[List.length_nil,aec];exact h⟩
 |[e0],_,h=>⟨by rw[aed];exact h⟩
 |[e0,e1],_,h=>⟨by rw[aee];exact h⟩
 |[e0,e1,e2],_,h=>⟨by
  have e:hV (bD [e0,e1,e2])=hV [e0.a]:=by simp only[bD];split<;>rfl
  rw[e]at h;rw[aef];exact h⟩
 |_::_::_::_::_,hH,_=>absurd hH (by simp[bS])
theorem aeh {bq:Nat} {most:Int} {L:List Sd.Ask} {bl bs:List av} {ms:List Nat} {w0 w:World} (hQ:QS bq most L bl) (S0:St ms w0 (bl++bs) w):
 aj prog 213 #[.pointer (some ⟨bq,0,none⟩)] w λv w1=>v=.tuple #[.agg (wJ (gb L).1),.int .i64 (gb L).2]/\Ch [] w w1:=by
 obtain⟨es,x,c,came,rows,rfl,⟨_,hle,j7⟩,hH,rfl⟩:=hQ;have hq:=S0.at' (x:=⟨bq,true,.cells #[.slice x es.length c,.int .i64 most,.int .u64 came] 146 (0,0)⟩) (by simp);have fin:∀{ids:List Nat} {bl:List VB},(∃r,ids=bq::r)->ids.length=bl.length->qe 30 213 [.ptr 0 0] bl (cP 0 λv b _=>v=hV (bD es))->St [] w (lits ids ids bl++[]) w->aj prog 213 #[.pointer (some ⟨bq,0,none⟩)] w λv w1=>v=.tuple #[.agg (wJ (gb (bD es)).1),.int .i64 (gb (bD es)).2]/\Ch [] w w1:=by
  rintro ids bl ⟨r,rfl⟩ hl h S;refine(n9 h hl (by simp) S).mono ?_;rintro v w1 ⟨v2,more,b,rfl,_,S1,rfl⟩;exact⟨rfl,S1.ch⟩
 rcases j7 with⟨rfl,h0,rfl,rfl⟩|⟨b,t,rfl,rfl,hlen⟩
 ·obtain rfl:es=[]:=List.eq_nil_of_length_eq_zero h0;exact fin (ids:=[bq]) (bl:=[Cy (bE (.raw (.slice none 0 0)) most came)]) ⟨[],rfl⟩ rfl (by rw[aeb];rfl) (St.given [(bq,_)] (by intro p hp;simp only[List.mem_singleton]at hp;subst hp;exact hq))
 ·have hb:=S0.at' (x:=⟨b,true,.cells (dY es++t).toArray 162 (0,0)⟩) (by simp);have e3:ab [bq,b] (b_ es++[.rest t])=dY es++t:=by rw[bo,fi];simp[ab,cl]
  have S:St [] w (lits [bq,b] [bq,b] [Cy (bE (.sl 1 0 es.length c) most came),Cy (dm es t)]++[]) w:=
   St.given [(bq,.cells (ab [bq,b] [.sl 1 0 es.length c,.int .i64 most,.int .u64 came]).toArray 146 (0,0)),(b,.cells (ab [bq,b] (b_ es++[.rest t])).toArray 162 (0,0))] (by
    intro p hp;simp only[List.mem_cons,List.not_mem_nil,or_false]at hp;rcases hp with rfl|rfl
    ·exact hq
    ·rw[e3];exact hb)
  exact fin ⟨[b],rfl⟩ rfl (RR hH rfl).h S
def ltX (most came:Int) (gq g2:aC) (K:VK aC):List One->List VB->aC->Prop
 |[],j,g1=>K g1.v (bE gq.v most came::j) [g1,g2,gq]
 |e::l,j,g1=>apps g1 (ab [] (kx e.a)) λg1=>ltX most came gq g2 K l (j++[⟨true,⟨162,(0,0)⟩,nu e⟩,⟨true,⟨112,(0,0)⟩,kx e.a⟩]) g1
def ltA (n:Nat) (most came:Int) (gq:aC) (es:List One) (K:VK aC):Prop:=
 (bE gq.v most came=bE gq.v most came/\gq.T=162/\gq.z=5/\gq.os=dY es/\gq.n=es.length/\es.length=n/\bS es)/\RO n es (λx c=>ltX most came gq (.nil 162 5) K [] [] (.nil 112 4)) (λc l t=>ltX most came gq (.nil 162 5) K l [dm l t] (.nil 112 4))
section
variable(most came:Int) (gq:aC) (es:List One) (K:VK aC)
abbrev LL (n:Nat) (es:List One) (most came:Int):List (dI aC):=[⟨68,false,vl n es most came⟩]
theorem aei:cJ (Cw prog (λ_=>none) (LL 0 es most came)) 60 39 [.ptr 0 0] [bE gq.v most came] [.nil 112 4,.nil 162 5,gq] K=ltA 0 most came gq es K:=by kernel_rfl
theorem aej:cJ (Cw prog (λ_=>none) (LL 1 es most came)) 60 39 [.ptr 0 0] [bE gq.v most came] [.nil 112 4,.nil 162 5,gq] K=ltA 1 most came gq es K:=by kernel_rfl
theorem aek:cJ (Cw prog (λ_=>none) (LL 2 es most came)) 60 39 [.ptr 0 0] [bE gq.v most came] [.nil 112 4,.nil 162 5,gq] K=ltA 2 most came gq es K:=by kernel_rfl
theorem ael:cJ (Cw prog (λ_=>none) (LL 3 es most came)) 60 39 [.ptr 0 0] [bE gq.v most came] [.nil 112 4,.nil 162 5,gq] K=ltA 3 most came gq es K:=by kernel_rfl
end
def KL (most came:Int) (gq g2:aC) (M:List Sd.Ask):VK aC:=λv bl ch=>∃(j:List VB) (g1:aC),v=g1.v/\bl=bE gq.v most came::j/\ch=[g1,g2,gq]/\Yl g1 112 4 (abP M) M.length
theorem Hj (most came:Int) (gq g2:aC) {M:List Sd.Ask}:∀(l:List One) (j:List VB) (g1:aC) (G:List Sd.Ask),Yl g1 112 4 (abP G) G.length->G.length+l.length<100->G++l.map (·.a)=M->ltX most came gq g2 (KL most came gq g2 M) l j g1
 |[],j,g1,G,h1,_,hM=>⟨j,g1,rfl,rfl,rfl,by rw[<-hM];simpa using h1⟩
 |e::l,j,g1,G,h1,l1,hM=>by
  simp only[List.length_cons]at l1;exact Bm h1 (by omega) λr' hr=>Hj most came gq g2 l _ r' (G++[e.a]) (by rw[tK,List.length_append];exact hr) (by simp;omega) (by rw[<-hM];simp)
theorem aem {bq:Nat} {most:Int} {L:List Sd.Ask} {bl bs:List av} {ms:List Nat} {w0 w:World} (hQ:QS bq most L bl) (S0:St ms w0 (bl++bs) w):
 aj prog 39 #[.pointer (some ⟨bq,0,none⟩)] w λv w1=>∃x c1 rows,v=.slice x L.length c1/\fa 4 112 (abP L) x L.length c1 rows/\St ms w0 (rows++(bl++bs)) w1:=by
 obtain⟨es,x,c,came,rows,rfl,hr,hH,rfl⟩:=hQ;obtain⟨hal,Fx⟩:=wY hH
 let gq:aC:=⟨162,5,dY es,x,es.length,c,rows,hr⟩
 have S1:St ms w0 (lits [bq] [bq] [bE gq.v most came]++af [aC.nil 112 4,.nil 162 5,gq] bs) w:=by simpa[lits,af,Bl.B,aC.nil,gq,aE,bE,aC.v,ab,cl,den]using S0
 have hA:ltA es.length most came gq es (KL most came gq (.nil 162 5) (bD es)):=
  ⟨⟨rfl,rfl,rfl,rfl,rfl,rfl,hH⟩,JU Fx (λh0 x c=>Hj most came gq _ [] [] _ [] ⟨rfl,rfl,rfl,rfl⟩ (by simp) (by rw[List.eq_nil_of_length_eq_zero h0];rfl)) (λl c t hm hl=>Hj most came gq _ l _ _ [] ⟨rfl,rfl,rfl,rfl⟩ (by simp;omega) (by simpa using hm))⟩
 have fU:cJ (Cw prog (λ_=>none) (LL es.length es most came)) 60 39 [.ptr 0 0] [bE gq.v most came] [.nil 112 4,.nil 162 5,gq] (KL most came gq (.nil 162 5) (bD es)):=by
  rcases(by omega:es.length=0\/es.length=1\/es.length=2\/es.length=3)with h|h|h|h<;>rw[h]at hA⊢
  ·rw[aei];exact hA
  ·rw[aej];exact hA
  ·rw[aek];exact hA
  ·rw[ael];exact hA
 have di:ai prog (λ_=>none) (LL es.length es most came):=ai.cons ⟨ry _ es most came,λe=>by cases e⟩ ai.nil;refine(bw di.TR di.QR 60 (C:=Cw prog (λ_=>none) (LL es.length es most came)) (args:=[.ptr 0 0]) (λg i h=>by cases h) rfl S1 fU).mono ?_;rintro _ w' ⟨xx,more,bl',ch',rfl,D8,S3,j,g1,rfl,rfl,rfl,t1,t2,t3,t4⟩;have vm:=g1.h;rw[t1,t2,t3,t4]at vm;refine⟨g1.x,g1.c,g1.bl,by simp only[aC.v,den];rw[t4],vm,?_⟩;have e1:lits ([bq]++more) ([bq]++more) (bE gq.v most came::j)=⟨bq,true,.cells #[.slice x es.length c,.int .i64 most,.int .u64 came] 146 (0,0)⟩::lits ([bq]++more) more j:=rfl;rw[e1]at S3;have S4:=S3.sub (bs':=⟨bq,true,.cells #[.slice x es.length c,.int .i64 most,.int .u64 came] 146 (0,0)⟩::(g1.bl++(rows++bs))) (by
  rw[List.cons_append];exact List.Sublist.cons_cons _ (List.sublist_append_right _ _))
 exact S4.perm List.perm_middle.symm
structure LK where
 ka:Nat->Option Addr
 kn:Nat->Nat
 kc:Nat->Nat
 kf:Nat->Nat->Int
 bq:Nat
 tg:TypeId
 tc:TypeId
 most:Int
 px:Option Addr
 pn:Nat
 pc:Nat
 pf:Sd.Byt
structure FD where
 k:LK
 q:List Sd.Ask
 sent:List (Int×Sd.Reply)
 recs:List Sd.Rec
inductive w5 (fr:Sd.Reply->Nat×Sd.Byt):List (Int×Sd.Reply)->List Value->List av->Prop
 |nil:w5 fr [] [] []
 |snoc {l olds bl} (h:w5 fr l olds bl) (k:Int) (r:Sd.Reply) (x:Option Addr) (c:Nat) (b:List av) (hb:eK 5 (fr r).1 (fr r).2 x c b):w5 fr (l++[(k,r)]) (olds++[.int .i64 k,.slice x (fr r).1 c]) (bl++b)
structure bN (fr:Sd.Reply->Nat×Sd.Byt) (d:FD) where
 xs:Option Addr
 cs:Nat
 xr:Option Addr
 cr:Nat
 Bq:List av
 Br:List av
 Bs:List av
 Bf:List av
 Bk:List av
 so:List Value
 hq:QS d.k.bq d.k.most d.q Bq
 hr:fa 6 75 (oT d.recs) xr d.recs.length cr Br
 hs:fa 2 85 so xs d.sent.length cs Bs
 hf:w5 fr d.sent so Bf
 hk:∃b0 b1 b2 b3 b4,Bk=b0++(b1++(b2++(b3++b4)))/\eK 5 (d.k.kn 0) (d.k.kf 0) (d.k.ka 0) (d.k.kc 0) b0/\eK 5 (d.k.kn 1) (d.k.kf 1) (d.k.ka 1) (d.k.kc 1) b1/\eK 5 (d.k.kn 2) (d.k.kf 2) (d.k.ka 2) (d.k.kc 2) b2/\eK 5 (d.k.kn 3) (d.k.kf 3) (d.k.ka 3) (d.k.kc 3) b3/\eK 5 d.k.pn d.k.pf d.k.px d.k.pc b4
variable{fr:Sd.Reply->Nat×Sd.Byt}
def bN.B {d:FD} (F:bN fr d):List av:=F.Br++(F.Bs++(F.Bf++(F.Bq++F.Bk)))
def bN.vs {d:FD} (F:bN fr d):Value:=.slice F.xs d.sent.length F.cs
def bN.vr {d:FD} (F:bN fr d):Value:=.slice F.xr d.recs.length F.cr
structure Gh (fr:Sd.Reply->Nat×Sd.Byt) where
 d:FD
 dx:Nat->Sd.dQ
 sx:Nat->Sd.bm
 F:bN fr d
instance:Bl (Gh fr):=⟨λg=>g.F.B⟩
def r3 {α:Type} (a b c:α) (f:Nat->α):Nat->α:=λj=>match j with|0=>a|1=>b|2=>c|j+3=>f (j+3)
theorem vn {α:Type} (f:Nat->α):r3 (f 0) (f 1) (f 2) f=f:=by funext j;match j with|0=>rfl|1=>rfl|2=>rfl|j+3=>rfl
structure CC where
 p:Sd.Pol
 ka:Nat->Option Addr
 kn:Nat->Nat
 kc:Nat->Nat
 t:Sd.Tok
 vq:Value
 d0:Sd.dQ
 d1:Sd.dQ
 d2:Sd.dQ
 it:Nat
 sa:Int
 be:Int
 mo:Int
 mb:Sd.Label
 pt:Sd.Point
 hd:Nat->Int
def zB (x:CC):List V:=[.j8 x.p x.ka x.kn x.kc,.int .i64 x.t.holder,.int .i64 x.t.epoch,.int .i64 x.t.offer,.int .i64 x.t.oa.n,.int .i64 x.t.oa.most,.int .i64 x.t.la.n,.int .i64 x.t.la.most,.bool x.t.bad,.raw x.vq,
 .int .i64 x.d0.many,.bool x.d0.sG,.dC .u8 8 x.d0.ae,.int .i64 x.d1.many,.bool x.d1.sG,.dC .u8 8 x.d1.ae,.int .i64 x.d2.many,.bool x.d2.sG,.dC .u8 8 x.d2.ae,.ptr x.it 0,.int .i64 x.sa,.int .i64 x.be,.int .i64 x.mo,
 .int .i64 x.mb.mD,.int .i64 x.mb.source,.int .i64 x.mb.seq,.int .i64 x.pt.cls,.int .i64 x.pt.bx.a,.int .i64 x.pt.bx.b,.int .i64 x.pt.bx.c,.int .i64 x.pt.bx.d,.int .i64 x.pt.now.a,.int .i64 x.pt.now.b,.int .i64 x.pt.now.c,.int .i64 x.pt.now.d,
 .int .i64 x.pt.cX.mD,.int .i64 x.pt.cX.source,.int .i64 x.pt.cX.seq,.dC .u8 32 x.hd]
def w6:List V->Option CC
 |.j8 p ka kn kc::.int .i64 t1::.int .i64 t2::.int .i64 t3::.int .i64 t4::.int .i64 t5::.int .i64 t6::.int .i64 t7::.bool t8::.raw vq::.int .i64 a1::.bool a2::.dC .u8 8 a3::.int .i64 b1::.bool b2::.dC .u8 8 b3::.int .i64 c1::.bool c2::.dC .u8 8 c3::.ptr it 0::.int .i64 sa::.int .i64 be::.int .i64 mo::.int .i64 l1::.int .i64 l2::.int .i64 l3::.int .i64 p1::.int .i64 p2::.int .i64 p3::.int .i64 p4::.int .i64 p5::.int .i64 p6::.int .i64 p7::.int .i64 p8::.int .i64 p9::.int .i64 q1::.int .i64 q2::.int .i64 q3::.dC .u8 32 hd::[]=>some ⟨p,ka,kn,kc,⟨t1,t2,t3,⟨t4,t5⟩,⟨t6,t7⟩,t8⟩,vq,⟨a1,a2,a3⟩,⟨b1,b2,b3⟩,⟨c1,c2,c3⟩,it,sa,be,mo,⟨l1,l2,l3⟩,⟨p1,⟨p2,p3,p4,p5⟩,⟨p6,p7,p8,p9⟩,⟨q1,q2,q3⟩⟩,hd⟩
 |_=>none
theorem nv {l:List V} {x:CC} (h:w6 l=some x):l=zB x:=by
 unfold w6 at h;split at h
 ·obtain rfl:=Option.some.inj h;rfl
 ·cases h
structure TC where
 s1:Bool
 sn:Int
 sm:Int
 s0:Sd.bm
 sa:Sd.bm
 sb:Sd.bm
 b:Int
 m:Int
def tL (x:Sd.bm):List V:=[.bool x.on,.int .i64 x.aH.n,.int .i64 x.aH.most,.int .i64 x.role,.dC .u8 32 x.key,.bool x.seen.any,.int .i64 x.seen.high,.int .u64 x.seen.seen]
def cd (x:TC):List V:=.bool x.s1::.int .i64 x.sn::.int .i64 x.sm::(tL x.s0++(tL x.sa++(tL x.sb++[.int .i64 x.b,.int .i64 x.m])))
def uR:List V->Option TC
 |[.bool s1,.int .i64 sn,.int .i64 sm,.bool a1,.int .i64 a2,.int .i64 a3,.int .i64 a4,.dC .u8 32 a5,.bool a6,.int .i64 a7,.int .u64 a8,.bool b1,.int .i64 b2,.int .i64 b3,.int .i64 b4,.dC .u8 32 b5,.bool b6,.int .i64 b7,.int .u64 b8,
  .bool c1,.int .i64 c2,.int .i64 c3,.int .i64 c4,.dC .u8 32 c5,.bool c6,.int .i64 c7,.int .u64 c8,.int .i64 b,.int .i64 m]=>some ⟨s1,sn,sm,⟨a1,⟨a2,a3⟩,a4,a5,⟨a6,a7,a8⟩⟩,⟨b1,⟨b2,b3⟩,b4,b5,⟨b6,b7,b8⟩⟩,⟨c1,⟨c2,c3⟩,c4,c5,⟨c6,c7,c8⟩⟩,b,m⟩
 |_=>none
theorem jz {l:List V} {x:TC} (h:uR l=some x):l=cd x:=by
 unfold uR at h;split at h
 ·obtain rfl:=Option.some.inj h;rfl
 ·cases h
def lP (x:CC) (y:TC) (d:FD) (dx:Nat->Sd.dQ) (sx:Nat->Sd.bm):Sd.Scene:=
 ⟨⟨x.p,x.t,d.q,r3 x.d0 x.d1 x.d2 dx,⟨(y.s1,⟨y.sn,y.sm⟩),r3 y.s0 y.sa y.sb sx⟩,x.sa,x.be,x.mo,x.mb,x.pt,x.hd⟩,d.sent,d.recs⟩
def Cz (k:LK) (it:Nat) (s:Sd.Scene):CC:=⟨s.c.p,k.ka,k.kn,k.kc,s.c.t,.pointer (some ⟨k.bq,0,none⟩),s.c.doors 0,s.c.doors 1,s.c.doors 2,it,s.c.samples,s.c.beyond,s.c.mode,s.c.bj,s.c.pt,s.c.head⟩
def VV (s:Sd.Scene):TC:=⟨s.c.tab.aA.1,s.c.tab.aA.2.n,s.c.tab.aA.2.most,s.c.tab.ay 0,s.c.tab.ay 1,s.c.tab.ay 2,s.c.p.bh,s.c.p.aR⟩
def bA (k:LK) (s:Sd.Scene):FD:=⟨k,s.c.q,s.sent,s.recs⟩
def aG (k:LK):VB:=⟨false,k.tg,[.dC .u32 64 aX]⟩
def iA (k:LK):VB:=⟨false,k.tc,[.bool false,.bool false,.bool false,.bool false,.bool false,.bool false,.bool false,.bool false,.bool false,.bool false,.bool true,.bool true]⟩
def w7 (ic:Nat) {d:FD} (F:bN fr d):VB:=⟨true,⟨128,(0,0)⟩,[.ptr ic 0,.raw F.vs,.raw F.vr]⟩
def ew (k:LK) (it:Nat) (s:Sd.Scene):VB:=⟨true,⟨105,(0,0)⟩,zB (Cz k it s)⟩
def gP (s:Sd.Scene):VB:=⟨true,⟨157,(0,0)⟩,cd (VV s)⟩
def cS (k:LK) (s:Sd.Scene) (F:bN fr (bA k s)):List VB:=[aG k,iA k,w7 3 F,ew k 4 s,gP s]
def cB (k:LK) (s:Sd.Scene) (F:bN fr (bA k s)):Gh fr:=⟨bA k s,s.c.doors,s.c.tab.ay,F⟩
def gS:Nat->Option Nat
 |1=>some 0
 |0=>some 1
 |_=>none
abbrev SK (fr:Sd.Reply->Nat×Sd.Byt) (k:LK):=V->(s:Sd.Scene)->bN fr (bA k s)->Prop
abbrev SM (fr:Sd.Reply->Nat×Sd.Byt):=List V->(k:LK)->(s:Sd.Scene)->bN fr (bA k s)->SK fr k->Prop
def Bn (bl:List VB) (is ic it:Nat) (k:LK) (s:Sd.Scene) (F:bN fr (bA k s)):List VB:=((bl.set is (w7 ic F)).set ic (ew k it s)).set it (gP s)
def pP (M:SM fr):gm (Gh fr):=λargs bl ch K=>match args,ch with
 |.ptr is 0::ar,g::rest=>(match bl[is]?with
  |some ⟨true,⟨128,(0,0)⟩,[.ptr ic 0,.raw vs,.raw vr]⟩=>(match bl[ic]?with
   |some ⟨true,⟨105,(0,0)⟩,cc⟩=>(match w6 cc with
    |some x=>(match bl[x.it]?with
     |some ⟨true,⟨157,(0,0)⟩,tc⟩=>(match uR tc with
      |some y=>cond (cH 0 ar&&(Nat.blt 1 is&&(Nat.blt 1 ic&&(Nat.blt 1 x.it&&(!(Nat.beq is ic)&&(!(Nat.beq is x.it)&&!(Nat.beq ic x.it)))))))
       ((vs=g.F.vs/\vr=g.F.vr/\bl[0]?=some (aG g.d.k)/\bl[1]?=some (iA g.d.k)/\x=Cz g.d.k x.it (lP x y g.d g.dx g.sx)/\y.b=x.p.bh/\y.m=x.p.aR/\x.p.queue=g.d.k.most)/\
         M ar g.d.k (lP x y g.d g.dx g.sx) g.F λv s' F'=>K v (Bn bl is ic x.it g.d.k s' F') (cB g.d.k s' F'::rest)) False
      |none=>False)
     |_=>False)
    |none=>False)
   |_=>False)
  |_=>False)
 |_,_=>False
end Go.Proofs.YtggfpcggakghnaaGreatDoor
