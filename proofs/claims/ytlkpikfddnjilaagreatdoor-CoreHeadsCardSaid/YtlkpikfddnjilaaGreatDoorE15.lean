/- Part 15 of the proof. -/
import Derived.Test.YtlkpikfddnjilaaGreatDoorRows
import Derived.Test.YtlkpikfddnjilaaGreatDoorE14
set_option linter.all false
set_option maxRecDepth 100000
set_option maxHeartbeats 4000000
open Go.Proofs.Tryz
open Go.IntKind (u8 u16 u32 u64 i64)
namespace Go.Proofs.YtlkpikfddnjilaaGreatDoor
open Go Go.RowKit Go.BigFrame Sx Vx
def Z7 (t:Sd.Timer):List V:=[.int .i64 t.n,.int .i64 t.most]
def T5:List V->Option Sd.Timer
 |[.int .i64 x0,.int .i64 x1]=>some ⟨x0,x1⟩
 |_=>none
theorem Hn {l:List V} {t:Sd.Timer} (h:T5 l=some t):l=Z7 t:=by
 unfold T5 at h;split at h
 ·obtain rfl:=Option.some.inj h;rfl
 ·cases h
def x4L (t:Sd.X4):List V:=[.int .i64 t.a,.int .i64 t.b,.int .i64 t.c,.int .i64 t.d]
def x4R:List V->Option Sd.X4
 |[.int .i64 x0,.int .i64 x1,.int .i64 x2,.int .i64 x3]=>some ⟨x0,x1,x2,x3⟩
 |_=>none
theorem NR {l:List V} {t:Sd.X4} (h:x4R l=some t):l=x4L t:=by
 unfold x4R at h;split at h
 ·obtain rfl:=Option.some.inj h;rfl
 ·cases h
def mr (t:Sd.Label):List V:=[.int .i64 t.mi,.int .i64 t.source,.int .i64 t.seq]
def NS:List V->Option Sd.Label
 |[.int .i64 x0,.int .i64 x1,.int .i64 x2]=>some ⟨x0,x1,x2⟩
 |_=>none
theorem zG {l:List V} {t:Sd.Label} (h:NS l=some t):l=mr t:=by
 unfold NS at h;split at h
 ·obtain rfl:=Option.some.inj h;rfl
 ·cases h
def cI (t:Sd.Tok):List V:=[.int .i64 t.holder,.int .i64 t.epoch,.int .i64 t.offer,.int .i64 t.oa.n,.int .i64 t.oa.most,.int .i64 t.la.n,.int .i64 t.la.most,.bool t.bad]
def kI:List V->Option Sd.Tok
 |[.int .i64 x0,.int .i64 x1,.int .i64 x2,.int .i64 x3,.int .i64 x4,.int .i64 x5,.int .i64 x6,.bool x7]=>some ⟨x0,x1,x2,⟨x3,x4⟩,⟨x5,x6⟩,x7⟩
 |_=>none
theorem eV {l:List V} {t:Sd.Tok} (h:kI l=some t):l=cI t:=by
 unfold kI at h;split at h
 ·obtain rfl:=Option.some.inj h;rfl
 ·cases h
def RE (t:Sd.Point):List V:=[.int .i64 t.cls,.int .i64 t.cg.a,.int .i64 t.cg.b,.int .i64 t.cg.c,.int .i64 t.cg.d,.int .i64 t.now.a,.int .i64 t.now.b,.int .i64 t.now.c,.int .i64 t.now.d,.int .i64 t.eJ.mi,.int .i64 t.eJ.source,.int .i64 t.eJ.seq]
def ptR:List V->Option Sd.Point
 |[.int .i64 x0,.int .i64 x1,.int .i64 x2,.int .i64 x3,.int .i64 x4,.int .i64 x5,.int .i64 x6,.int .i64 x7,.int .i64 x8,.int .i64 x9,.int .i64 x10,.int .i64 x11]=>some ⟨x0,⟨x1,x2,x3,x4⟩,⟨x5,x6,x7,x8⟩,⟨x9,x10,x11⟩⟩
 |_=>none
theorem EP {l:List V} {t:Sd.Point} (h:ptR l=some t):l=RE t:=by
 unfold ptR at h;split at h
 ·obtain rfl:=Option.some.inj h;rfl
 ·cases h
def cC (t:Sd.dw):List V:=[.int .i64 t.kind,.int .i64 t.seq,.int .i64 t.role,.int .i64 t.cg,.int .i64 t.epoch,.int .i64 t.mode,.int .i64 t.cls,.bool t.now,.int .i64 t.x.a,.int .i64 t.x.b,.int .i64 t.x.c,.int .i64 t.x.d]
def Jx:List V->Option Sd.dw
 |[.int .i64 x0,.int .i64 x1,.int .i64 x2,.int .i64 x3,.int .i64 x4,.int .i64 x5,.int .i64 x6,.bool x7,.int .i64 x8,.int .i64 x9,.int .i64 x10,.int .i64 x11]=>some ⟨x0,x1,x2,x3,x4,x5,x6,x7,⟨x8,x9,x10,x11⟩⟩
 |_=>none
theorem tM {l:List V} {t:Sd.dw} (h:Jx l=some t):l=cC t:=by
 unfold Jx at h;split at h
 ·obtain rfl:=Option.some.inj h;rfl
 ·cases h
def pg (t:Sd.dM):List V:=[.bool t.valid,.int .i64 t.x.a,.int .i64 t.x.b,.int .i64 t.x.c,.int .i64 t.x.d,.bool t.D0]
def Jy:List V->Option Sd.dM
 |[.bool x0,.int .i64 x1,.int .i64 x2,.int .i64 x3,.int .i64 x4,.bool x5]=>some ⟨x0,⟨x1,x2,x3,x4⟩,x5⟩
 |_=>none
theorem tN {l:List V} {t:Sd.dM} (h:Jy l=some t):l=pg t:=by
 unfold Jy at h;split at h
 ·obtain rfl:=Option.some.inj h;rfl
 ·cases h
def ad_ (t:Sd.de):List V:=[.bool t.any,.int .i64 t.high,.int .u64 t.seen]
def Z8:List V->Option Sd.de
 |[.bool x0,.int .i64 x1,.int .u64 x2]=>some ⟨x0,x1,x2⟩
 |_=>none
theorem T6 {l:List V} {t:Sd.de} (h:Z8 l=some t):l=ad_ t:=by
 unfold Z8 at h;split at h
 ·obtain rfl:=Option.some.inj h;rfl
 ·cases h
def NT (t:Sd.Ask):List V:=[.int .i64 t.source,.int .i64 t.aU,.int .i64 t.gF.n,.int .i64 t.gF.most]
def T7:List V->Option Sd.Ask
 |[.int .i64 x0,.int .i64 x1,.int .i64 x2,.int .i64 x3]=>some ⟨x0,x1,⟨x2,x3⟩⟩
 |_=>none
theorem T8 {l:List V} {t:Sd.Ask} (h:T7 l=some t):l=NT t:=by
 unfold T7 at h;split at h
 ·obtain rfl:=Option.some.inj h;rfl
 ·cases h
def NU:QF:=⟨94,λargs _=>match args with
 |[.int .i64 n,.int .i64 m]=>some ((-9223372036854775808<=n/\n<=9223372036854775807)/\(-9223372036854775808<=m/\m<=9223372036854775807),.int .i64 (Sd.sat n m))
 |_=>none⟩
theorem NV (gl:Nat->Option Nat):NU.Ok prog gl:=by
 intro args bl p_ v_ h hp ids w _ _;unfold NU at h;dsimp only at h;split at h
 ·rename_i n m;simp only[Option.some.injEq,Prod.mk.injEq]at h;obtain⟨rfl,rfl⟩:=h;obtain⟨h_n,h_m⟩:=hp;exact told (agQ n m h_n h_m w)
 ·cases h
def zH:QF:=⟨192,λargs _=>match args with
 |[.int .i64 n,.int .i64 lo,.int .i64 hi]=>some (True,.int .i64 (Sd.n8 n lo hi))
 |_=>none⟩
theorem ER (gl:Nat->Option Nat):zH.Ok prog gl:=by
 intro args bl p_ v_ h hp ids w _ _;unfold zH at h;dsimp only at h;split at h
 ·rename_i n lo hi;simp only[Option.some.injEq,Prod.mk.injEq]at h;obtain⟨rfl,rfl⟩:=h;exact told (No n lo hi w)
 ·cases h
def u9:QF:=⟨112,λargs _=>match args with
 |[.int .i64 nw,.int .i64 t,.int .i64 b]=>some ((-9223372036854775808<=nw/\nw<=9223372036854775807)/\(-9223372036854775808<=t/\t<=9223372036854775807)/\(-9223372036854775808<=b/\b<=9223372036854775807),.int .i64 (Sd.iR nw t b))
 |_=>none⟩
theorem Cf (gl:Nat->Option Nat):u9.Ok prog gl:=by
 intro args bl p_ v_ h hp ids w _ _;unfold u9 at h;dsimp only at h;split at h
 ·rename_i nw t b;simp only[Option.some.injEq,Prod.mk.injEq]at h;obtain⟨rfl,rfl⟩:=h;obtain⟨adK,h_t,h_b⟩:=hp;exact told (Hc nw t b adK h_t h_b w)
 ·cases h
def NW:QF:=⟨163,λargs _=>match args with
 |[.int .i64 s,.int .i64 i]=>some (True,.bool (Sd.has s i))
 |_=>none⟩
theorem NX (gl:Nat->Option Nat):NW.Ok prog gl:=by
 intro args bl p_ v_ h hp ids w _ _;unfold NW at h;dsimp only at h;split at h
 ·rename_i s i;simp only[Option.some.injEq,Prod.mk.injEq]at h;obtain⟨rfl,rfl⟩:=h;exact told (adL s i w)
 ·cases h
def zI:QF:=⟨155,λargs _=>match args with
 |[.int .i64 m]=>some ((-9223372036854775808<=m/\m<=9223372036854775807),.agg (Z7 (Sd.Timer.start m)))
 |_=>none⟩
theorem ES (gl:Nat->Option Nat):zI.Ok prog gl:=by
 intro args bl p_ v_ h hp ids w _ _;unfold zI at h;dsimp only at h;split at h
 ·rename_i m;simp only[Option.some.injEq,Prod.mk.injEq]at h;obtain⟨rfl,rfl⟩:=h;have h_m:=hp;exact told (Zw m h_m w)
 ·cases h
def ET:QF:=⟨107,λargs _=>match args with
 |[.agg og]=>(match T5 og with|some t=>some ((-9223372036854775808<=t.n/\t.n<=9223372036854775807)/\(-9223372036854775808<=t.most/\t.most<=9223372036854775807),.agg (Z7 (Sd.Timer.step t)))|none=>none)
 |_=>none⟩
theorem Jz (gl:Nat->Option Nat):ET.Ok prog gl:=by
 intro args bl p_ v_ h hp ids w _ _;unfold ET at h;dsimp only at h;split at h
 ·rename_i og;split at h
  ·rename_i t w6;simp only[Option.some.injEq,Prod.mk.injEq]at h;obtain⟨rfl,rfl⟩:=h;obtain rfl:=Hn w6;obtain⟨Xf,BX⟩:=hp;exact told (Xe t Xf BX w)
  ·cases h
 ·cases h
def NY:QF:=⟨108,λargs _=>match args with
 |[.agg og]=>(match T5 og with|some t=>some (True,.bool (Sd.Timer.due t))|none=>none)
 |_=>none⟩
theorem NZ (gl:Nat->Option Nat):NY.Ok prog gl:=by
 intro args bl p_ v_ h hp ids w _ _;unfold NY at h;dsimp only at h;split at h
 ·rename_i og;split at h
  ·rename_i t w6;simp only[Option.some.injEq,Prod.mk.injEq]at h;obtain⟨rfl,rfl⟩:=h;obtain rfl:=Hn w6;exact told (adM t w)
  ·cases h
 ·cases h
def zJ:QF:=⟨151,λargs _=>match args with
 |[.agg og,.int .i64 o]=>(match kI og with|some t=>some ((-9223372036854775808<=t.epoch/\t.epoch<=9223372036854775807),.aI [.agg (cI ((Sd.Tok.bz t o).1)),.int .i64 ((Sd.Tok.bz t o).2)])|none=>none)
 |_=>none⟩
theorem EU (gl:Nat->Option Nat):zJ.Ok prog gl:=by
 intro args bl p_ v_ h hp ids w _ _;unfold zJ at h;dsimp only at h;split at h
 ·rename_i og o;split at h
  ·rename_i t w6;simp only[Option.some.injEq,Prod.mk.injEq]at h;obtain⟨rfl,rfl⟩:=h;obtain rfl:=eV w6;have fh:=hp;exact told (Zy t o fh w)
  ·cases h
 ·cases h
def zK:QF:=⟨100,λargs _=>match args with
 |[.agg og]=>(match kI og with|some t=>some ((-9223372036854775808<=t.epoch/\t.epoch<=9223372036854775807),.agg (cI (Sd.Tok.dJ t)))|none=>none)
 |_=>none⟩
theorem EV (gl:Nat->Option Nat):zK.Ok prog gl:=by
 intro args bl p_ v_ h hp ids w _ _;unfold zK at h;dsimp only at h;split at h
 ·rename_i og;split at h
  ·rename_i t w6;simp only[Option.some.injEq,Prod.mk.injEq]at h;obtain⟨rfl,rfl⟩:=h;obtain rfl:=eV w6;have fh:=hp;exact told (Zz t fh w)
  ·cases h
 ·cases h
def EW:QF:=⟨106,λargs _=>match args with
 |[.agg og]=>(match kI og with|some t=>some (True,.bool (decide (0<=t.offer)))|none=>none)
 |_=>none⟩
theorem JA (gl:Nat->Option Nat):EW.Ok prog gl:=by
 intro args bl p_ v_ h hp ids w _ _;unfold EW at h;dsimp only at h;split at h
 ·rename_i og;split at h
  ·rename_i t w6;simp only[Option.some.injEq,Prod.mk.injEq]at h;obtain⟨rfl,rfl⟩:=h;obtain rfl:=eV w6;exact told (open_ t w)
  ·cases h
 ·cases h
def EX:QF:=⟨109,λargs _=>match args with
 |[.agg og]=>(match kI og with|some t=>some (True,.agg (cI (Sd.Tok.bG t)))|none=>none)
 |_=>none⟩
theorem JB (gl:Nat->Option Nat):EX.Ok prog gl:=by
 intro args bl p_ v_ h hp ids w _ _;unfold EX at h;dsimp only at h;split at h
 ·rename_i og;split at h
  ·rename_i t w6;simp only[Option.some.injEq,Prod.mk.injEq]at h;obtain⟨rfl,rfl⟩:=h;obtain rfl:=eV w6;exact told (Nr t w)
  ·cases h
 ·cases h
def EY:QF:=⟨209,λargs _=>match args with
 |[.agg [.jS p ka kn kc],.int .i64 s]=>some (True,.int .i64 (Sd.placeOf p s))
 |_=>none⟩
theorem JC (gl:Nat->Option Nat):EY.Ok prog gl:=by
 intro args bl p_ v_ h hp ids w _ _;unfold EY at h;dsimp only at h;split at h
 ·rename_i p ka kn kc s;simp only[Option.some.injEq,Prod.mk.injEq]at h;obtain⟨rfl,rfl⟩:=h;exact told (adN p ka kn kc s w)
 ·cases h
def u_:QF:=⟨207,λargs _=>match args with
 |[.agg [.jS p ka kn kc],.int .i64 a,.int .i64 b]=>some (True,.bool (Sd.cp p a b))
 |_=>none⟩
theorem Cg (gl:Nat->Option Nat):u_.Ok prog gl:=by
 intro args bl p_ v_ h hp ids w _ _;unfold u_ at h;dsimp only at h;split at h
 ·rename_i p ka kn kc a b;simp only[Option.some.injEq,Prod.mk.injEq]at h;obtain⟨rfl,rfl⟩:=h;exact told (Tz p ka kn kc a b w)
 ·cases h
def zL:QF:=⟨127,λargs _=>match args with
 |[.agg [.jS p ka kn kc],.int .i64 s,.int .i64 r]=>some (True,.bool (Sd.j6 p s r))
 |_=>none⟩
theorem EZ (gl:Nat->Option Nat):zL.Ok prog gl:=by
 intro args bl p_ v_ h hp ids w _ _;unfold zL at h;dsimp only at h;split at h
 ·rename_i p ka kn kc s r;simp only[Option.some.injEq,Prod.mk.injEq]at h;obtain⟨rfl,rfl⟩:=h;exact told (ZE p ka kn kc s r w)
 ·cases h
def E0:QF:=⟨191,λargs _=>match args with
 |[.agg [.jS p ka kn kc],.int .i64 a,.int .i64 b]=>some (True,.bool (Sd.goes p a b))
 |_=>none⟩
theorem JD (gl:Nat->Option Nat):E0.Ok prog gl:=by
 intro args bl p_ v_ h hp ids w _ _;unfold E0 at h;dsimp only at h;split at h
 ·rename_i p ka kn kc a b;simp only[Option.some.injEq,Prod.mk.injEq]at h;obtain⟨rfl,rfl⟩:=h;exact told (adO p ka kn kc a b w)
 ·cases h
def N0:QF:=⟨190,λargs _=>match args with
 |[.agg [.jS p ka kn kc],.int .i64 m,.int .i64 r,.int .i64 c]=>some (True,.bool (Sd.may p m r c))
 |_=>none⟩
theorem N1 (gl:Nat->Option Nat):N0.Ok prog gl:=by
 intro args bl p_ v_ h hp ids w _ _;unfold N0 at h;dsimp only at h;split at h
 ·rename_i p ka kn kc m r c;simp only[Option.some.injEq,Prod.mk.injEq]at h;obtain⟨rfl,rfl⟩:=h;exact told (agR p ka kn kc m r c w)
 ·cases h
def E1:QF:=⟨28,λargs _=>match args with
 |[.agg [.jS p ka kn kc]]=>some (True,.agg (cI (Sd.Tok.new p)))
 |_=>none⟩
theorem JE (gl:Nat->Option Nat):E1.Ok prog gl:=by
 intro args bl p_ v_ h hp ids w _ _;unfold E1 at h;dsimp only at h;split at h
 ·rename_i p ka kn kc;simp only[Option.some.injEq,Prod.mk.injEq]at h;obtain⟨rfl,rfl⟩:=h;exact told (Xg p ka kn kc w)
 ·cases h
def N2:QF:=⟨178,λargs _=>match args with
 |[.agg og,.int .i64 f,.int .i64 e]=>(match kI og with|some t=>some ((-9223372036854775808<=t.epoch/\t.epoch<=9223372036854775807),.aI [.agg (cI ((Sd.Tok.accept t f e).1)),.int .i64 ((Sd.Tok.accept t f e).2)])|none=>none)
 |_=>none⟩
theorem N3 (gl:Nat->Option Nat):N2.Ok prog gl:=by
 intro args bl p_ v_ h hp ids w _ _;unfold N2 at h;dsimp only at h;split at h
 ·rename_i og f e;split at h
  ·rename_i t w6;simp only[Option.some.injEq,Prod.mk.injEq]at h;obtain⟨rfl,rfl⟩:=h;obtain rfl:=eV w6;have fh:=hp;exact told (agS t f e fh w)
  ·cases h
 ·cases h
def E2:QF:=⟨179,λargs _=>match args with
 |[.agg og,.int .i64 f]=>(match kI og with|some t=>some (True,.aI [.agg (cI ((Sd.Tok.ft t f).1)),.int .i64 ((Sd.Tok.ft t f).2)])|none=>none)
 |_=>none⟩
theorem JF (gl:Nat->Option Nat):E2.Ok prog gl:=by
 intro args bl p_ v_ h hp ids w _ _;unfold E2 at h;dsimp only at h;split at h
 ·rename_i og f;split at h
  ·rename_i t w6;simp only[Option.some.injEq,Prod.mk.injEq]at h;obtain⟨rfl,rfl⟩:=h;obtain rfl:=eV w6;exact told (adP t f w)
  ·cases h
 ·cases h
def zM:QF:=⟨105,λargs _=>match args with
 |[.agg og,.int .i64 s]=>(match kI og with|some t=>some (True,.aI [.agg (cI ((Sd.Tok.drop t s).1)),.bool ((Sd.Tok.drop t s).2)])|none=>none)
 |_=>none⟩
theorem E3 (gl:Nat->Option Nat):zM.Ok prog gl:=by
 intro args bl p_ v_ h hp ids w _ _;unfold zM at h;dsimp only at h;split at h
 ·rename_i og s;split at h
  ·rename_i t w6;simp only[Option.some.injEq,Prod.mk.injEq]at h;obtain⟨rfl,rfl⟩:=h;obtain rfl:=eV w6;exact told (ZI t s w)
  ·cases h
 ·cases h
def zN:QF:=⟨66,λargs _=>match args with
 |[.agg og]=>(match kI og with|some t=>some ((-9223372036854775808<=t.oa.n/\t.oa.n<=9223372036854775807)/\(-9223372036854775808<=t.oa.most/\t.oa.most<=9223372036854775807),.aI [.agg (cI ((Sd.Tok.tick t).1)),.int .i64 ((Sd.Tok.tick t).2)])|none=>none)
 |_=>none⟩
theorem E4 (gl:Nat->Option Nat):zN.Ok prog gl:=by
 intro args bl p_ v_ h hp ids w _ _;unfold zN at h;dsimp only at h;split at h
 ·rename_i og;split at h
  ·rename_i t w6;simp only[Option.some.injEq,Prod.mk.injEq]at h;obtain⟨rfl,rfl⟩:=h;obtain rfl:=eV w6;obtain⟨BZ,sU⟩:=hp;exact told (ZJ t BZ sU w)
  ·cases h
 ·cases h
def E5:QF:=⟨177,λargs _=>match args with
 |[.agg [.jS p ka kn kc],.agg og,.int .i64 f,.int .i64 o,.bool th]=>(match kI og with|some t=>some ((Sd.cP p),.aI [.agg (cI ((Sd.Tok.make p t f o th).1)),.int .i64 ((Sd.Tok.make p t f o th).2)])|none=>none)
 |_=>none⟩
theorem JG (gl:Nat->Option Nat):E5.Ok prog gl:=by
 intro args bl p_ v_ h hp ids w _ _;unfold E5 at h;dsimp only at h;split at h
 ·rename_i p ka kn kc og f o th;split at h
  ·rename_i t w6;simp only[Option.some.injEq,Prod.mk.injEq]at h;obtain⟨rfl,rfl⟩:=h;obtain rfl:=eV w6;have hp:=hp;exact told (adQ p ka kn kc t f o th hp w)
  ·cases h
 ·cases h
def E6:QF:=⟨150,λargs _=>match args with
 |[.agg [.jS p ka kn kc],.agg Ci,.int .i64 c,.agg l_y,.agg l_b]=>(match ptR Ci with|some pt=>(match x4R l_y with|some y=>(match NS l_b with|some b=>some ((Sd.cP p),.agg (RE (Sd.Point.set p pt c y b)))|none=>none)|none=>none)|none=>none)
 |_=>none⟩
theorem JH (gl:Nat->Option Nat):E6.Ok prog gl:=by
 intro args bl p_ v_ h hp ids w _ _;unfold E6 at h;dsimp only at h;split at h
 ·rename_i p ka kn kc Ci c l_y l_b;split at h
  ·rename_i pt N5;split at h
   ·rename_i y e_y;split at h
    ·rename_i b e_b;simp only[Option.some.injEq,Prod.mk.injEq]at h;obtain⟨rfl,rfl⟩:=h;obtain rfl:=EP N5;obtain rfl:=NR e_y;obtain rfl:=zG e_b;have hp:=hp;exact told (adR p ka kn kc pt c y b hp w)
    ·cases h
   ·cases h
  ·cases h
 ·cases h
def E7:QF:=⟨154,λargs _=>match args with
 |[.agg Ci,.agg l_b]=>(match ptR Ci with|some pt=>(match NS l_b with|some b=>some (True,.agg (RE (Sd.Point.hold pt b)))|none=>none)|none=>none)
 |_=>none⟩
theorem JI (gl:Nat->Option Nat):E7.Ok prog gl:=by
 intro args bl p_ v_ h hp ids w _ _;unfold E7 at h;dsimp only at h;split at h
 ·rename_i Ci l_b;split at h
  ·rename_i pt N5;split at h
   ·rename_i b e_b;simp only[Option.some.injEq,Prod.mk.injEq]at h;obtain⟨rfl,rfl⟩:=h;obtain rfl:=EP N5;obtain rfl:=zG e_b;exact told (adS pt b w)
   ·cases h
  ·cases h
 ·cases h
def va:QF:=⟨147,λargs _=>match args with
 |[.int .i64 m,.agg l_y]=>(match x4R l_y with|some y=>some ((0<=m/\m<=1000),.bool (Sd.Li m y))|none=>none)
 |_=>none⟩
theorem Cj (gl:Nat->Option Nat):va.Ok prog gl:=by
 intro args bl p_ v_ h hp ids w _ _;unfold va at h;dsimp only at h;split at h
 ·rename_i m l_y;split at h
  ·rename_i y e_y;simp only[Option.some.injEq,Prod.mk.injEq]at h;obtain⟨rfl,rfl⟩:=h;obtain rfl:=NR e_y;have hm:=hp;exact told (Hg m y hm w)
  ·cases h
 ·cases h
def N6:QF:=⟨96,λargs _=>match args with
 |[.agg [.jS p ka kn kc],.int .i64 r,.agg l_s]=>(match Jy l_s with|some s=>some ((Sd.cP p)/\(-9223372036854775808<=r/\r<=9223372036854775807),.aI [.int .i64 ((Sd.n9 p r s).1),.bool ((Sd.n9 p r s).2)])|none=>none)
 |_=>none⟩
theorem N7 (gl:Nat->Option Nat):N6.Ok prog gl:=by
 intro args bl p_ v_ h hp ids w _ _;unfold N6 at h;dsimp only at h;split at h
 ·rename_i p ka kn kc r l_s;split at h
  ·rename_i s e_s;simp only[Option.some.injEq,Prod.mk.injEq]at h;obtain⟨rfl,rfl⟩:=h;obtain rfl:=tN e_s;obtain⟨hp,h_r⟩:=hp;exact told (agU p ka kn kc r s hp h_r w)
  ·cases h
 ·cases h
def zO:QF:=⟨70,λargs _=>match args with
 |[.agg [.jS p ka kn kc],.agg Ci]=>(match ptR Ci with|some pt=>some ((Sd.cP p)/\(-9223372036854775808<=pt.cg.a/\pt.cg.a<=9223372036854775807)/\(-9223372036854775808<=pt.cg.b/\pt.cg.b<=9223372036854775807)/\(-9223372036854775808<=pt.cg.c/\pt.cg.c<=9223372036854775807)/\(-9223372036854775808<=pt.cg.d/\pt.cg.d<=9223372036854775807)/\(-9223372036854775808<=pt.now.a/\pt.now.a<=9223372036854775807)/\(-9223372036854775808<=pt.now.b/\pt.now.b<=9223372036854775807)/\(-9223372036854775808<=pt.now.c/\pt.now.c<=9223372036854775807)/\(-9223372036854775808<=pt.now.d/\pt.now.d<=9223372036854775807),.agg (RE (Sd.Point.step p pt)))|none=>none)
 |_=>none⟩
theorem E8 (gl:Nat->Option Nat):zO.Ok prog gl:=by
 intro args bl p_ v_ h hp ids w _ _;unfold zO at h;dsimp only at h;split at h
 ·rename_i p ka kn kc Ci;split at h
  ·rename_i pt N5;simp only[Option.some.injEq,Prod.mk.injEq]at h;obtain⟨rfl,rfl⟩:=h;obtain rfl:=EP N5;obtain⟨hp,oV,oW,oX,oY,oZ,o8,o9,o_⟩:=hp;exact told (ZM p ka kn kc pt hp oV oW oX oY oZ o8 o9 o_ w)
  ·cases h
 ·cases h
def QV:List QF:=[NU,zH,u9,NW,zI,ET,NY,zJ,zK,EW,EX,EY,u_,zL,E0,N0,E1,N2,E2,zM,zN,E5,E6,E7,va,N6,zO]
theorem sW (gl:Nat->Option Nat):aX prog gl QV:=(aX.cons (NV gl) (aX.cons (ER gl) (aX.cons (Cf gl) (aX.cons (NX gl) (aX.cons (ES gl) (aX.cons (Jz gl) (aX.cons (NZ gl) (aX.cons (EU gl) (aX.cons (EV gl) (aX.cons (JA gl) (aX.cons (JB gl) (aX.cons (JC gl) (aX.cons (Cg gl) (aX.cons (EZ gl) (aX.cons (JD gl) (aX.cons (N1 gl) (aX.cons (JE gl) (aX.cons (N3 gl) (aX.cons (JF gl) (aX.cons (E3 gl) (aX.cons (E4 gl) (aX.cons (JG gl) (aX.cons (JH gl) (aX.cons (JI gl) (aX.cons (Cj gl) (aX.cons (N7 gl) (aX.cons (E8 gl) aX.nil)))))))))))))))))))))))))))
def atB (args:List V) (bl:List VB):Option (Nat×Nat×Nat×Nat×(Nat->Int)):=match args with
 |[.sl i off n c]=>(match bl[i]?with
  |some b=>(match A1 b.c off n with
   |some [.ew .u8 m f]=>some (i,off,n,c,f)
   |_=>none)
  |none=>none)
 |_=>none
theorem N9 {args:List V} {bl:List VB} {i off n c:Nat} {f:Nat->Int} (h:atB args bl=some (i,off,n,c,f)) {ids:List Nat} {w:World} (hm:Mem ids bl w):args=[.sl i off n c]/\fK w (ids.getD i 0) off n f:=by
 unfold atB at h;split at h
 ·split at h
  ·rename_i i' Yd n' c' b hb;split at h
   ·rename_i m g hg;simp only[Option.some.injEq,Prod.mk.injEq]at h;obtain⟨rfl,rfl,rfl,rfl,rfl⟩:=h;refine⟨rfl,?_⟩;obtain⟨h1,h2,h3⟩:=j8 (ids:=ids) hg;have cD:=hm.2 _ b hb;intro j hj;rw[cell_of cD];have e:(ai ids [V.ew .u8 m g])=(List.range m).map λj=>Value.int .u8 (g j):=by simp[ai,cl]
    rw[e]at h1 h2;simp at h2;have h4:=congrArg (λl=>l[j]?) h1;simp only[List.getElem?_take,List.getElem?_drop,List.getElem?_map]at h4;rw[if_pos hj]at h4;have h5:(List.range m)[j]?=some j:=by rw[List.getElem?_range (by omega)]
    rw[h5]at h4;simpa using h4
   ·cases h
  ·cases h
 ·cases h
def E9:QF:=⟨125,λargs bl=>match atB args bl with
 |some (i,off,n,c,f)=>bif Nat.beq n 1 then some (By f,.aI [.int .u64 (tk1 f),.int .i64 0])else bif Nat.beq n 2 then some (By f,.aI [.int .u64 (pd f),.int .i64 0])else bif Nat.beq n 4 then some (By f,.aI [.int .u64 (Z4 f),.int .i64 0])else none
 |none=>none⟩
def zP:QF:=⟨124,λargs bl=>match atB args bl with
 |some (i,off,n,c,f)=>bif Nat.beq n 2 then some (By f,.aI [.int .i64 (Xj (pd f)),.int .i64 0])else none
 |none=>none⟩
theorem JJ (gl:Nat->Option Nat):E9.Ok prog gl:=by
 intro args bl p v h hp ids w hg hm;unfold E9 at h;dsimp only at h;split at h
 ·rename_i i off n c f hA;obtain⟨rfl,h8⟩:=N9 hA hm;cases h1:Nat.beq n 1 with
  |true=>
   rw[h1]at h;obtain rfl:=Nat.eq_of_beq_eq_true h1;simp only[cond_true,Option.some.injEq,Prod.mk.injEq]at h;obtain⟨rfl,rfl⟩:=h;exact T2 _ _ _ f hp w h8
  |false=>
   cases h2:Nat.beq n 2 with
   |true=>
    rw[h1,h2]at h;obtain rfl:=Nat.eq_of_beq_eq_true h2;simp only[cond_true,cond_false,Option.some.injEq,Prod.mk.injEq]at h;obtain⟨rfl,rfl⟩:=h;exact Hm _ _ _ f hp w h8
   |false=>
    cases h4:Nat.beq n 4 with
    |true=>
     rw[h1,h2,h4]at h;obtain rfl:=Nat.eq_of_beq_eq_true h4;simp only[cond_true,cond_false,Option.some.injEq,Prod.mk.injEq]at h;obtain⟨rfl,rfl⟩:=h;exact T4 _ _ _ f hp w h8
    |false=>rw[h1,h2,h4]at h;cases h
 ·cases h
theorem E_ (gl:Nat->Option Nat):zP.Ok prog gl:=by
 intro args bl p v h hp ids w hg hm;unfold zP at h;dsimp only at h;split at h
 ·rename_i i off n c f hA;obtain⟨rfl,h8⟩:=N9 hA hm;cases h2:Nat.beq n 2 with
  |true=>
   rw[h2]at h;obtain rfl:=Nat.eq_of_beq_eq_true h2;simp only[cond_true,Option.some.injEq,Prod.mk.injEq]at h;obtain⟨rfl,rfl⟩:=h;exact NQ _ _ _ f hp w h8
  |false=>rw[h2]at h;cases h
 ·cases h
def LTk:List QF:=[E9,zP]
def AU:Nat->Option Nat:=λ_=>none
structure Fd where
 sz:Nat
 sg:Bool
 low:Int
 high:Int
 at_:Nat
 b:Bool
def Fd.val (d:Fd) (g:Nat->Int):Int:=bif d.sg then Xj (pd g)else bif Nat.beq d.sz 1 then i64.wrap (tk1 g)else bif Nat.beq d.sz 2 then i64.wrap (pd g)else i64.wrap (Z4 g)
def Fd.up (d:Fd) (g:Nat->Int) (m:List V):List V:=jT m d.at_ (bif d.b then .bool (d.val g==1)else .int .i64 (d.val g))
def ph:V:=.aI [.agg [.int .i64 0,.int .i64 0,.int .i64 0,.int .i64 0,.int .i64 0,.int .i64 0,.int .i64 0,.bool false,.int .i64 0,.int .i64 0,.int .i64 0,.int .i64 0],.int .i64 13]
def JK (n:Nat) (f:Nat->Int) (X:V->Prop):List Fd->Nat->List V->Prop
 |[],off,m=>bif Nat.beq (n-off) 0 then X (.aI [.agg m,.int .i64 0])else X ph
 |d::l,off,m=>bif Nat.blt (n-off) d.sz then X ph else
  By (λj=>f (off+j))/\cond (decide (d.val (λj=>f (off+j))<d.low)) (X ph) (cond (decide (d.val (λj=>f (off+j))>d.high)) (X ph) (JK n f X l (off+d.sz) (d.up (λj=>f (off+j)) m)))
def iX:Fd:=⟨4,false,0,4294967295,1,false⟩
def vb:Fd:=⟨1,false,0,3,2,false⟩
def fTo:Fd:=⟨1,false,0,4,3,false⟩
def il:Fd:=⟨2,false,0,65535,4,false⟩
def xI:Fd:=⟨1,false,0,4,5,false⟩
def w7:Fd:=⟨1,false,1,3,6,false⟩
def JL:Fd:=⟨1,false,0,1,7,true⟩
def fX (i:Nat):Fd:=⟨2,true,-32768,32767,8+i,false⟩
def ln (f:Nat->Int):Int:=i64.wrap (f 0)
def m0 (f:Nat->Int):List V:=[.int .i64 (ln f),.int .i64 0,.int .i64 0,.int .i64 0,.int .i64 0,.int .i64 0,.int .i64 0,.bool false,.int .i64 0,.int .i64 0,.int .i64 0,.int .i64 0]
def sY:Nat->List V
 |0=>[]
 |n+1=>.bool false::.bool false::.bool false::.bool false::.bool false::sY n
def gx (n:Nat) (f:Nat->Int) (X:V->Prop):Prop:=
 let T (l:List Fd):Prop:=JK n f X l 1 (m0 f)
 let T1:=T [vb]
 let T3:=T [iX]
 cond (ln f==1) T1 (cond (ln f==2) T1 (cond (ln f==3) T3 (cond (ln f==4) T3 (cond (ln f==8) T3 (cond (ln f==9) T3 (cond (ln f==5) (T [iX,JL]) (cond (ln f==6) (T [iX,fTo]) (cond (ln f==7) (T [iX,il])
  (cond (ln f==10) (T [iX,il,xI]) (cond (ln f==11) (∀(c:Nat) (u:List Value),7<=c->T [iX,il,w7,fX 0,fX 1,fX 2,fX 3]) (X ph)))))))))))
end Go.Proofs.YtlkpikfddnjilaaGreatDoor
namespace Sx
open Go Go.RowKit Go.BigFrame
def aea (vs:Nat->Value) (i:Nat) (v:Value):Nat->Value:=λj=>if j=i then v else vs j
def aeb (k0:Nat) (es:List Nat) (H:Nat->(Nat->Value)->World->Prop) (l:List Oper) (w0:World) (i:Nat) (v:Value) (vs:Nat->Value) (w' mB:World):Prop:=
 (i=k0->Ch es w' mB)/\(i≠k0->∃ns,Ch ns w' mB/\∀x∈ns,w0.heap.size<=x)/\H i (aea vs i v) mB/\
  ∀(j:Nat) oj,l[j]?=some oj->j≠i->fP oj i=false->H j vs w'->H j (aea vs i v) mB
def Ho (P:Program) (k0:Nat) (pre:List (List Nat)) (es:List Nat) (H:Nat->(Nat->Value)->World->Prop) (lf l:List Oper) (y0:Nat->Value) (w:World) (i:Nat) (o:Oper):Prop:=
 ∀(y vs:Nat->Value) (w':World),(i=k0\/preB pre i=true->Ch [] w w')->Ch es w w'->(∀t,pI l i t=true->y t=y0 t)->
  (∀j d,fP o j=true->(l[j]?).bind (·.dst)=some d->y d=vs j/\H j vs w')->
  (dz lf o y=true->Yields P o (Lc y) w' λv mB=>aeb k0 es H l w i v vs w' mB)/\(dz lf o y=false->aeb k0 es H l w i undef vs w' w')
def qA (P:Program) (k0:Nat) (pre:List (List Nat)) (es:List Nat) (H:Nat->(Nat->Value)->World->Prop) (lf l:List Oper) (y0:Nat->Value) (w:World):Nat->List Oper->Prop
 |_,[]=>True
 |i,o::rest=>Ho P k0 pre es H lf l y0 w i o/\qA P k0 pre es H lf l y0 w (i+1) rest
theorem qA.get {P:Program} {k0:Nat} {pre:List (List Nat)} {es:List Nat} {H:Nat->(Nat->Value)->World->Prop} {lf l:List Oper} {y0:Nat->Value} {w:World}:∀{k:Nat} {m:List Oper},qA P k0 pre es H lf l y0 w k m->∀(i:Nat) o,m[i]?=some o->Ho P k0 pre es H lf l y0 w (k+i) o
 |_,[],_,i,o,h=>by simp at h
 |k,x::rest,⟨h1,h2⟩,0,o,h=>by obtain rfl:x=o:=by simpa using h
                              exact h1
 |k,x::rest,⟨h1,h2⟩,i+1,o,h=>by
  have:=qA.get h2 i o (by simpa using h)
  rwa [show k+1+i=k+(i+1) by omega]at this
structure aiW (k0:Nat) (es:List Nat) (H:Nat->(Nat->Value)->World->Prop) (l:List Oper) (n2:Nat) (a0:Act) (w0:World) (vs:Nat->Value) (listed:Array Bool) (a:Act) (w:World):Prop where
 ls:listed.size=l.length+n2
 off:∀i,l.length<=i->i<l.length+n2->listed[i]?=some false
 size:a.tmps.size=a0.tmps.size
 defers:a.defers=a0.defers
 ch:if listed[k0]?=some true then Ch es w0 w else Ch [] w0 w
 done:∀(i:Nat) (o:Oper),l[i]?=some o->listed[i]?=some true->(∀d,o.dst=some d->fg a d=vs i)/\H i vs w
 rest:∀(t:Nat),(∀(i:Nat) (o:Oper),l[i]?=some o->o.dst=some t->listed[i]?=some false)->fg a t=fg a0 t
 back:∀(i:Nat) (o:Oper),l[i]?=some o->listed[i]?=some true->∀j,fP o j=true->listed[j]?=some true
section
variable{P:Program} {l:List Oper} {k0:Nat} {pre:List (List Nat)} {es:List Nat} {H:Nat->(Nat->Value)->World->Prop} {a0:Act} {w0:World} {Q:Exit->Act->World->Prop}
end
inductive GX where
 |v (x:Value)
 |a (obj:Obj)
 |n (cs DH:Array Value) (T:TypeId)
 |s (j:Nat)
def GX.sp:GX->Sp
 |.v x=>s0 x
 |.a o=>sA o
 |.n cs _ T=>sA (.cells cs T (0,0))
 |.s _=>s0 undef
def GX.fin:GX->VX
 |.v x=>.v x
 |.a o=>.a o
 |.n _ DH T=>.a (.cells DH T (0,0))
 |.s _=>.v undef
theorem Yields.mono {P:Program} {o:Oper} {ρ:Operand->Value} {w:World} {R R':Value->World->Prop} (h:Yields P o ρ w R) (k:∀v w',R v w'->R' v w'):Yields P o ρ w R':=by
 unfold Yields at*;split at h
 ·exact k _ _ h
 ·exact k _ _ h
 ·exact Calls.mono h λe w' ⟨v,e1,e2⟩=>⟨v,e1,k _ _ e2⟩
 ·exact h.elim
section
variable{P:Program} {lf l:List Oper} {xs:List GX} {y0:Nat->Value} {w:World} {i k0:Nat} {pre:List (List Nat)} {o:Oper} {es:List Nat} {pv:Value->World->Prop}
end
def isS (i:Nat):GX->Bool
 |.s j=>Nat.beq j i
 |_=>false
section
variable{P:Program} {a0:Act} {w w0:World} {Q:Exit->Act->World->Prop} {id:Nat} {L:List Oper} {ms:List Nat} {bs:List aC}
end
section
variable{P:Program} {lf l:List Oper} {sp:Nat->Sp} {xs:List GX} {y0:Nat->Value} {a0:Act} {w:World} {i k0 m:Nat} {pre:List (List Nat)} {o:Oper} {es:List Nat} {pv:Value->World->Prop}
end
section
variable{P:Program} {a0:Act} {w w0:World} {Q:Exit->Act->World->Prop} {id:Nat} {L:List Oper} {ms:List Nat}
theorem pvC.dq {val:Value} {C:List aC->Prop} {bl:List aC} {B:Nat} {T:TypeId} (hT:∀bl',C bl'->∀x∈bl',tyO x.obj≠some T) {v:Value} {w1 w2:World} {b:Nat} {c2:Array Value} (hb:w1.heap[b]?=some (.cells c2 T (0,0))) (hc:Ch [b] w1 w2) (h:pvC val C bl B v w1):pvC val C bl B v w2:=by
 obtain⟨h1,bl',h2,h3,h4⟩:=h;refine⟨h1,bl',h2,λy hy=>⟨?_,(h3 y hy).2⟩,h4⟩;refine(hc.block _ (fl (h3 y hy).1) ?_).trans (h3 y hy).1;intro hm;have e:y.id=b:=by simpa using hm
 have:=(h3 y hy).1;rw[e,hb]at this;exact hT bl' h2 y hy (by rw[<-Option.some.inj this];rfl)
end
end Sx
namespace Go.Proofs.YtlkpikfddnjilaaGreatDoor
open Go Go.RowKit Go.BigFrame Sx
def Fa (q:Nat->Int) (ka:Nat->Option Addr) (kn kc:Nat->Nat):Array Value:=#[.int .i64 (q 0),.int .i64 (q 1),.int .i64 (q 2),.int .i64 (q 3),.int .i64 (q 4),.slice (ka 0) (kn 0) (kc 0),.slice (ka 1) (kn 1) (kc 1),.slice (ka 2) (kn 2) (kc 2),.slice (ka 3) (kn 3) (kc 3),.int .i64 (q 9),.int .i64 (q 10),.int .i64 (q 11),.int .i64 (q 12),.int .i64 (q 13),.int .i64 (q 14),.int .i64 (q 15),.int .i64 (q 16),.int .i64 (q 17),.int .i64 (q 18),.int .i64 (q 19),.int .i64 (q 20),.int .i64 (q 21),.int .i64 (q 22),.int .i64 (q 23),.int .i64 (q 24),.int .i64 (q 25),.int .i64 (q 26),.int .i64 (q 27),.int .i64 (q 28),.int .i64 (q 29),.int .i64 (q 30),.int .i64 (q 31),.int .i64 (q 32),.int .i64 (q 33),.int .i64 (q 34),.int .i64 (q 35),.int .i64 (q 36),.int .i64 (q 37),.int .i64 (q 38),.int .i64 (q 39),.int .i64 (q 40),.int .i64 (q 41),.int .i64 (q 42),.int .i64 (q 43),.int .i64 (q 44),.int .i64 (q 45),.int .i64 (q 46),.int .i64 (q 47),.int .i64 (q 48),.int .i64 (q 49),.int .i64 (q 50),.int .i64 (q 51),.int .i64 (q 52),.int .i64 (q 53),.int .i64 (q 54),.int .i64 (q 55)]
end Go.Proofs.YtlkpikfddnjilaaGreatDoor
namespace Go.Proofs.YtlkpikfddnjilaaGreatDoor
open Go Go.RowKit Go.BigFrame Sx Vx
def vd (lo hi n:Int):Bool:=decide (lo<=n)&&decide (n<=hi)
def rX (a b c k:Int):Bool:=k==a||(k==b||k==c)
def N_ (q:Nat->Int):Bool:=q 0==0&&(q 4==4&&(rX (q 1) (q 2) (q 3) 1&&(rX (q 1) (q 2) (q 3) 2&&rX (q 1) (q 2) (q 3) 3)))
def ve (n:Nat):Bool:=decide (1<=(n:Int))&&decide ((n:Int)<=64)
def qB (n:Int):Bool:=vd 0 15 n&&n%2==0
def allI (lo hi:Int):List Int->Bool
 |[]=>true
 |x::xs=>vd lo hi x&&allI lo hi xs
def sZ (kn:Nat->Nat):Bool:=ve (kn 0)&&(ve (kn 1)&&ve (kn 2))
def pj (q:Nat->Int):Bool:=qB (q 10)&&(qB (q 11)&&qB (q 12))
def Oa (q:Nat->Int):Bool:=allI 0 15 [q 14,q 15,q 16,q 17]&&(allI 0 15 [q 18,q 19,q 20,q 21]&&(allI 0 15 [q 22,q 23,q 24,q 25]&&(allI 0 15 [q 26,q 27,q 28,q 29]&&allI 0 15 [q 30,q 31,q 32,q 33])))
def eh (q:Nat->Int) (kn:Nat->Nat):Int:=
 if N_ q=false then 40 else if(sZ kn&&ve (kn 3))=false then 41 else if(q 9==1&&(q 13==0&&pj q))=false then 42
 else if Oa q=false then 43
 else if allI 0 31 [q 34,q 35,q 36,q 37,q 38]=false then 44
 else if allI 0 4 [q 39,q 40,q 41]=false then 45 else if allI 1 1000 [q 42,q 43,q 44,q 45]=false then 46 else if(vd 1 1000 (q 46)&&vd 0 1000 (q 47))=false then 47 else if allI 1 3 [q 48,q 49]=false then 48
 else if(q 50==0&&(allI 0 1000 [q 51,q 52,q 53]&&vd 1 1000 (q 54)))=false then 49 else if vd 0 65535 (q 55)=false then 50 else 0
def inT (lo hi n:Int) (X Y:Prop):Prop:=cond (decide (lo<=n)) (cond (!decide (n<=hi)) Y X) Y
def seT (n:Int) (X Y:Prop):Prop:=cond (decide (0<=n)) (cond (decide (n<=15)) (cond (!(Int.tmod n 2==0)) Y X) Y) Y
def T9 (lo hi:Int) (Y:Prop):List Int->Prop->Prop
 |[],X=>X
 |n::l,X=>inT lo hi n (T9 lo hi Y l X) Y
theorem qD {lo hi n:Int} {X Y:Prop} (h:vd lo hi n=true->X) (k:vd lo hi n=false->Y):inT lo hi n X Y:=
 aS (λa=>aS (λb=>k (by rw[vd,a];simpa using b)) λb=>h (by rw[vd,a];simpa using b)) λa=>k (by rw[vd,a];rfl)
theorem zQ {n:Int} {X Y:Prop} (h:qB n=true->X) (k:qB n=false->Y):seT n X Y:=by
 refine aS (λa=>aS (λb=>?_) λb=>k (by simp only[qB,vd,a,b];rfl)) λa=>k (by simp only[qB,vd,a];rfl);have e:Int.tmod n 2=n%2:=Int.tmod_eq_emod_of_nonneg (of_decide_eq_true a);exact aS (λc=>k (by simp only[qB,vd,a,b];rw[e]at c;simpa using c)) λc=>h (by simp only[qB,vd,a,b];rw[e]at c;simpa using c)
theorem ki {lo hi:Int} {X Y:Prop}:∀{l:List Int},(allI lo hi l=true->X)->(allI lo hi l=false->Y)->T9 lo hi Y l X
 |[],h,_=>h rfl
 |n::l,h,k=>qD (λa=>ki (λb=>h (by rw[allI,a,b];rfl)) λb=>k (by rw[allI,a,b];rfl)) λa=>k (by rw[allI,a];rfl)
def dup (X:Prop):Prop:=X/\X
theorem zR {X:Prop} (h:X):dup X:=⟨h,h⟩
def mu (a b c d e:Int):Bool:=a==0&&(e==4&&(rX b c d 1&&(rX b c d 2&&rX b c d 3)))
def Z9:QF:=⟨50,λargs _=>match args with
 |[.agg [.int .i64 a,.int .i64 b,.int .i64 c,.int .i64 d,.int .i64 e]]=>some (True,.bool (mu a b c d e))
 |_=>none⟩
def Z_ (b c d k:Int) (X Y:Prop):Prop:=cond (k==b) X (cond (k==c) X (cond (k==d) X Y))
theorem Fb {b c d k:Int} {X Y:Prop} (h:rX b c d k=true->X) (n:rX b c d k=false->Y):Z_ b c d k X Y:=
 aS (λa=>h (by rw[rX,a];rfl)) λa=>aS (λe=>h (by rw[rX,a,e];rfl)) λe=>aS (λf=>h (by rw[rX,a,e,f];rfl)) λf=>n (by rw[rX,a,e,f];rfl)
theorem aaa (a b c d e:Int) (K:V->Prop):jr prog [] 60 50 [.agg [.int .i64 a,.int .i64 b,.int .i64 c,.int .i64 d,.int .i64 e]] K
 =cond (a !=0) (K (.bool false)) (cond (e !=4) (K (.bool false)) (Z_ b c d 1 (Z_ b c d 2 (Z_ b c d 3 (K (.bool true)) (K (.bool false))) (K (.bool false))) (K (.bool false)))):=by kernel_rfl
theorem T_ (a b c d e:Int) (w:World):au prog 50 #[.agg #[.int .i64 a,.int .i64 b,.int .i64 c,.int .i64 d,.int .i64 e]] w λv w1=>v=.bool (mu a b c d e)/\Ch [] w w1:=by
 have h:cond (a !=0) ((V.bool false)=.bool (mu a b c d e)) (cond (e !=4) ((V.bool false)=.bool (mu a b c d e)) (Z_ b c d 1 (Z_ b c d 2 (Z_ b c d 3 ((V.bool true)=.bool (mu a b c d e)) ((V.bool false)=.bool (mu a b c d e))) ((V.bool false)=.bool (mu a b c d e))) ((V.bool false)=.bool (mu a b c d e)))):=by
  refine aS (λh=>?_) λh=>aS (λg=>?_) λg=>Fb (λx=>Fb (λy=>Fb (λz=>?_) λz=>?_) λy=>?_) λx=>?_
  ·have h':(a==0)=false:=by simpa using h
   rw[mu,h'];rfl
  all_goals have h':(a==0)=true:=by simpa using h
  ·have g':(e==4)=false:=by simpa using g
   rw[mu,h',g'];rfl
  all_goals have g':(e==4)=true:=by simpa using g
  ·rw[mu,h',g',x,y,z];rfl
  ·rw[mu,h',g',x,y,z];rfl
  ·rw[mu,h',g',x,y];rfl
  ·rw[mu,h',g',x];rfl
 refine qn (L:=[]) aX.nil (n:=60) (xs:=[.agg [.int .i64 a,.int .i64 b,.int .i64 c,.int .i64 d,.int .i64 e]]) (v:=.bool (mu a b c d e)) (Hd.h (Hd.mk ?_));rw[aaa];exact h
theorem Ua (gl:Nat->Option Nat):Z9.Ok prog gl:=by
 intro args bl p_ v_ h hp ids w _ _;unfold Z9 at h;dsimp only at h;split at h
 ·rename_i a b c d e;simp only[Option.some.injEq,Prod.mk.injEq]at h;obtain⟨rfl,rfl⟩:=h;exact told (T_ a b c d e w)
 ·cases h
def aab (q:Nat->Int) (kn:Nat->Nat) (K:V->Prop):Prop:=
 let E:=λn:Int=>K (.int .i64 n)
 cond (!(mu (q 0) (q 1) (q 2) (q 3) (q 4))) (E 40)<|T9 1 64 (E 41) [(kn 0:Int),(kn 1:Int),(kn 2:Int),(kn 3:Int)]<|cond (q 9!=1) (E 42)<|cond (q 13!=0) (E 42)<|(λX=>seT (q 10) (seT (q 11) (seT (q 12) X (E 42)) (E 42)) (E 42))<|
 T9 0 15 (E 43) [q 14,q 15,q 16,q 17,q 18,q 19,q 20,q 21,q 22,q 23,q 24,q 25,q 26,q 27,q 28,q 29,q 30,q 31,q 32,q 33]<|T9 0 31 (E 44) [q 34,q 35,q 36,q 37,q 38]<|dup<|T9 0 4 (E 45) [q 39,q 40,q 41]<|dup<|T9 1 1000 (E 46) [q 42,q 43,q 44,q 45]<|
 (λX=>inT 1 1000 (q 46) (inT 0 1000 (q 47) X (E 47)) (E 47))<|dup<|T9 1 3 (E 48) [q 48,q 49]<|cond (q 50!=0) (E 49)<|T9 0 1000 (E 49) [q 51,q 52,q 53]<|inT 1 1000 (q 54) (inT 0 65535 (q 55) (E 0) (E 50)) (E 49)
def wiB (n:Int):VB:=⟨true,⟨3,(0,0)⟩,[.int .i64 n]⟩
def qF:jq Empty:=λargs bl ch K=>match args with
 |[.int .i64 lo,.int .i64 hi]=>cond (ez bl.length bl) (K (.fn 91 [] [.ptr bl.length 0,.ptr (bl.length+1) 0]) (bl++[wiB lo,wiB hi]) ch) False
 |_=>False
theorem aec (lo hi:Int) (K:VK Empty):c_ (dQ prog (λ_=>none) ([]:List (eG Empty))) 20 57 [.int .i64 lo,.int .i64 hi] [] [] K=K (.fn 91 [] [.ptr 0 0,.ptr 1 0]) [wiB lo,wiB hi] []:=by kernel_rfl
theorem zT:Sound prog (λ_=>none) 57 qF:=by
 intro args ids bl ch R ms w0 w K hg hl S hc;unfold qF at hc;split at hc
 ·rename_i lo hi;cases hq:ez bl.length bl with
  |false=>rw[hq]at hc;exact hc.elim
  |true=>
   rw[hq]at hc;have hv:c_ (dQ prog (λ_=>none) ([]:List (eG Empty))) 20 57 [.int .i64 lo,.int .i64 hi] [] [] (λv b c=>v=.fn 91 [] [.ptr 0 0,.ptr 1 0]/\b=[wiB lo,wiB hi]/\c=[]):=by rw[aec];exact⟨rfl,rfl,rfl⟩
   refine(bW (ao.nil (P:=prog) (gl:=λ_=>none)).T ao.nil.Q 20 (C:=dQ prog (λ_=>none) ([]:List (eG Empty))) (ids:=[]) (bl:=[]) (ch:=[]) (R:=[]) (ms:=[]) (w0:=w) (w:=w) Gl.none rfl (St.nil [] w) hv).mono ?_;rintro x w' ⟨y,more,bl',ch',rfl,h1,S',rfl,rfl,rfl⟩
   match more,h1 with
   |[b1,b2],_=>
    have S2:=S.beside S' (bl:=[⟨b1,true,.cells #[.int .i64 lo] 3 (0,0)⟩,⟨b2,true,.cells #[.int .i64 hi] 3 (0,0)⟩]) (Wr.cons rfl (Wr.cons rfl Wr.nil));refine⟨_,[b1,b2],_,ch,?_,by simp[hl],?_,hc⟩
    ·simp only[den,az,<-hl];simp[List.getD]
    ·rw[aY _ _ _ _ hl,a_ _ _ (by rw[hl];exact hq),List.append_assoc];refine S2.perm ?_;exact(List.perm_append_comm_assoc [_,_] (lits ids ids bl) (ak ch R))
 ·exact hc.elim
theorem Fc:oc prog (λ_=>none) ⟨57,true,qF⟩:=⟨zT,λ_ args bl ch K h=>by
 simp only at h⊢;unfold qF at h⊢;split at h
 ·cases hq:ez bl.length bl with
  |false=>rw[hq]at h;exact h.elim
  |true=>rw[hq]at h;exact⟨h,_,rfl⟩
 ·exact h.elim⟩
def LCk:List (eG Empty):=⟨57,true,qF⟩::qL Empty [Z9]
theorem Ob:ao prog (λ_=>none) LCk:=ao.cons Fc (fZ (aX.cons (Ua _) aX.nil))
def vcP (n f:Nat) (args:List V) (X:V->Prop):Prop:=c_ (dQ prog (λ_=>none) LCk) n f args [] [] λv _ _=>X v
theorem aac (p:Sd.Pol) (ka:Nat->Option Addr) (kn kc:Nat->Nat) (K:V->Prop):vcP 60 25 [.agg (eS p ka kn kc)] K=(True/\aab p.i kn K):=by kernel_rfl
theorem Ub (q:Nat->Int) (kn:Nat->Nat):aab q kn (·=.int .i64 (eh q kn)):=by
 have k4:allI 1 64 [(kn 0:Int),(kn 1:Int),(kn 2:Int),(kn 3:Int)]=(sZ kn&&ve (kn 3)):=by simp only[allI,vd,sZ,ve,Bool.and_assoc,Bool.and_true]
 have t5:allI 0 15 [q 14,q 15,q 16,q 17,q 18,q 19,q 20,q 21,q 22,q 23,q 24,q 25,q 26,q 27,q 28,q 29,q 30,q 31,q 32,q 33]=Oa q:=by simp only[allI,Oa,Bool.and_assoc,Bool.and_true]
 unfold aab eh;refine aS (λh=>?_) λh=>?_
 ·have h0:N_ q=false:=(by simpa using h:mu (q 0) (q 1) (q 2) (q 3) (q 4)=false);rw[if_pos h0]
 have h0:N_ q=true:=(by simpa using h:mu (q 0) (q 1) (q 2) (q 3) (q 4)=true);clear h;refine ki (λh1=>?_) λh1=>?_<;>rw[k4]at h1
 ·refine aS (λa=>?_) λa=>aS (λb=>?_) λb=>zQ (λc=>zQ (λd=>zQ (λe=>?_) λe=>?_) λd=>?_) λc=>?_
  ·have a':(q 9==1)=false:=by simpa using a
   simp[h0,h1,a']
  all_goals have a':(q 9==1)=true:=by simpa using a
  ·have b':(q 13==0)=false:=by simpa using b
   simp[h0,h1,a',b']
  all_goals have b':(q 13==0)=true:=by simpa using b
  ·have r:pj q=true:=by simp[pj,c,d,e]
   have h2:(q 9==1&&(q 13==0&&pj q))=true:=by rw[a',b',r];rfl
   refine ki (λh3=>?_) λh3=>?_<;>rw[t5]at h3
   ·refine ki (λh4=>zR (ki (λh5=>zR (ki (λh6=>qD (λh7=>qD (λh8=>zR (ki (λh9=>aS (λu=>?_) λu=>ki (λv=>qD (λx=>qD (λy=>?_) λy=>?_) λx=>?_) λv=>?_) λh9=>?_)) λh8=>?_) λh7=>?_) λh6=>?_)) λh5=>?_)) λh4=>?_
    ·have u':(q 50==0)=false:=by simpa using u
     simp[h0,h1,h2,h3,h4,h5,h6,h7,h8,h9,u']
    iterate 4
     ·have u':(q 50==0)=true:=by simpa using u
      simp[h0,h1,h2,h3, *]
    all_goals simp[h0,h1,h2,h3, *]
   ·simp[h0,h1,h2,h3]
  all_goals simp[h0,h1,a',b',pj, *]
 ·simp[h0,h1]
theorem JM (q:Nat->Int) (ka:Nat->Option Addr) (kn kc:Nat->Nat) (w:World):au prog 25 #[.agg (Fa q ka kn kc)] w λv w1=>v=.int .i64 (eh q kn)/\Ch [] w w1:=by
 have h:vcP 60 25 [.agg (eS ⟨q,λ_=>(0,λ_=>0)⟩ ka kn kc)] (·=.int .i64 (eh q kn)):=by rw[aac];exact⟨trivial,Ub q kn⟩
 refine(bW Ob.T Ob.Q 60 (C:=dQ prog (λ_=>none) LCk) (ids:=[]) (bl:=[]) (ch:=[]) (R:=[]) (ms:=[]) (w0:=w) (w:=w) Gl.none rfl (St.nil [] w) h).mono ?_;rintro x w' ⟨y,more,bl',ch',rfl,h1,S,rfl⟩;exact⟨rfl,S.ch⟩
end Go.Proofs.YtlkpikfddnjilaaGreatDoor
namespace Go.Proofs.YtlkpikfddnjilaaGreatDoor
open Go Go.RowKit Go.BigFrame Sx
def f3 {α:Type} (a b c:α):Nat->α:=λj=>match j with|0=>a|1=>b|_=>c
def mf (p:Sd.Pol) (ka:Nat->Option Addr) (kn kc:Nat->Nat) (t:Sd.Tok) (bq:Nat) (D:Nat->Sd.dX) (bt:Nat) (sa be mo:Int) (mb:Sd.Label) (pt:Sd.Point) (hd:Nat->Int):Array Value:=#[.int .i64 (p.i 0),.int .i64 (p.i 1),.int .i64 (p.i 2),.int .i64 (p.i 3),.int .i64 (p.i 4),.slice (ka 0) (kn 0) (kc 0),.slice (ka 1) (kn 1) (kc 1),.slice (ka 2) (kn 2) (kc 2),.slice (ka 3) (kn 3) (kc 3),.int .i64 (p.i 9),.int .i64 (p.i 10),.int .i64 (p.i 11),.int .i64 (p.i 12),.int .i64 (p.i 13),.int .i64 (p.i 14),.int .i64 (p.i 15),.int .i64 (p.i 16),.int .i64 (p.i 17),.int .i64 (p.i 18),.int .i64 (p.i 19),.int .i64 (p.i 20),.int .i64 (p.i 21),.int .i64 (p.i 22),.int .i64 (p.i 23),.int .i64 (p.i 24),.int .i64 (p.i 25),.int .i64 (p.i 26),.int .i64 (p.i 27),.int .i64 (p.i 28),.int .i64 (p.i 29),.int .i64 (p.i 30),.int .i64 (p.i 31),.int .i64 (p.i 32),.int .i64 (p.i 33),.int .i64 (p.i 34),.int .i64 (p.i 35),.int .i64 (p.i 36),.int .i64 (p.i 37),.int .i64 (p.i 38),.int .i64 (p.i 39),.int .i64 (p.i 40),.int .i64 (p.i 41),.int .i64 (p.i 42),.int .i64 (p.i 43),.int .i64 (p.i 44),.int .i64 (p.i 45),.int .i64 (p.i 46),.int .i64 (p.i 47),.int .i64 (p.i 48),.int .i64 (p.i 49),.int .i64 (p.i 50),.int .i64 (p.i 51),.int .i64 (p.i 52),.int .i64 (p.i 53),.int .i64 (p.i 54),.int .i64 (p.i 55),.int .i64 t.holder,.int .i64 t.epoch,.int .i64 t.offer,.int .i64 t.oa.n,.int .i64 t.oa.most,.int .i64 t.la.n,.int .i64 t.la.most,.bool t.bad,.pointer (some ⟨bq,0,none⟩),.int .i64 (D 0).many,.bool (D 0).kL,.int .u8 ((D 0).ae 0),.int .u8 ((D 0).ae 1),.int .u8 ((D 0).ae 2),.int .u8 ((D 0).ae 3),.int .u8 ((D 0).ae 4),.int .u8 ((D 0).ae 5),.int .u8 ((D 0).ae 6),.int .u8 ((D 0).ae 7),.int .i64 (D 1).many,.bool (D 1).kL,.int .u8 ((D 1).ae 0),.int .u8 ((D 1).ae 1),.int .u8 ((D 1).ae 2),.int .u8 ((D 1).ae 3),.int .u8 ((D 1).ae 4),.int .u8 ((D 1).ae 5),.int .u8 ((D 1).ae 6),.int .u8 ((D 1).ae 7),.int .i64 (D 2).many,.bool (D 2).kL,.int .u8 ((D 2).ae 0),.int .u8 ((D 2).ae 1),.int .u8 ((D 2).ae 2),.int .u8 ((D 2).ae 3),.int .u8 ((D 2).ae 4),.int .u8 ((D 2).ae 5),.int .u8 ((D 2).ae 6),.int .u8 ((D 2).ae 7),.pointer (some ⟨bt,0,none⟩),.int .i64 sa,.int .i64 be,.int .i64 mo,.int .i64 mb.mi,.int .i64 mb.source,.int .i64 mb.seq,.int .i64 pt.cls,.int .i64 pt.cg.a,.int .i64 pt.cg.b,.int .i64 pt.cg.c,.int .i64 pt.cg.d,.int .i64 pt.now.a,.int .i64 pt.now.b,.int .i64 pt.now.c,.int .i64 pt.now.d,.int .i64 pt.eJ.mi,.int .i64 pt.eJ.source,.int .i64 pt.eJ.seq,.int .u8 (hd 0),.int .u8 (hd 1),.int .u8 (hd 2),.int .u8 (hd 3),.int .u8 (hd 4),.int .u8 (hd 5),.int .u8 (hd 6),.int .u8 (hd 7),.int .u8 (hd 8),.int .u8 (hd 9),.int .u8 (hd 10),.int .u8 (hd 11),.int .u8 (hd 12),.int .u8 (hd 13),.int .u8 (hd 14),.int .u8 (hd 15),.int .u8 (hd 16),.int .u8 (hd 17),.int .u8 (hd 18),.int .u8 (hd 19),.int .u8 (hd 20),.int .u8 (hd 21),.int .u8 (hd 22),.int .u8 (hd 23),.int .u8 (hd 24),.int .u8 (hd 25),.int .u8 (hd 26),.int .u8 (hd 27),.int .u8 (hd 28),.int .u8 (hd 29),.int .u8 (hd 30),.int .u8 (hd 31)]
def jm (st:Bool×Sd.Timer) (aE:Nat->Sd.bu) (b m:Int):Array Value:=#[.bool st.1,.int .i64 st.2.n,.int .i64 st.2.most,.bool (aE 0).on,.int .i64 (aE 0).aP.n,.int .i64 (aE 0).aP.most,.int .i64 (aE 0).role,.int .u8 ((aE 0).key 0),.int .u8 ((aE 0).key 1),.int .u8 ((aE 0).key 2),.int .u8 ((aE 0).key 3),.int .u8 ((aE 0).key 4),.int .u8 ((aE 0).key 5),.int .u8 ((aE 0).key 6),.int .u8 ((aE 0).key 7),.int .u8 ((aE 0).key 8),.int .u8 ((aE 0).key 9),.int .u8 ((aE 0).key 10),.int .u8 ((aE 0).key 11),.int .u8 ((aE 0).key 12),.int .u8 ((aE 0).key 13),.int .u8 ((aE 0).key 14),.int .u8 ((aE 0).key 15),.int .u8 ((aE 0).key 16),.int .u8 ((aE 0).key 17),.int .u8 ((aE 0).key 18),.int .u8 ((aE 0).key 19),.int .u8 ((aE 0).key 20),.int .u8 ((aE 0).key 21),.int .u8 ((aE 0).key 22),.int .u8 ((aE 0).key 23),.int .u8 ((aE 0).key 24),.int .u8 ((aE 0).key 25),.int .u8 ((aE 0).key 26),.int .u8 ((aE 0).key 27),.int .u8 ((aE 0).key 28),.int .u8 ((aE 0).key 29),.int .u8 ((aE 0).key 30),.int .u8 ((aE 0).key 31),.bool (aE 0).seen.any,.int .i64 (aE 0).seen.high,.int .u64 (aE 0).seen.seen,.bool (aE 1).on,.int .i64 (aE 1).aP.n,.int .i64 (aE 1).aP.most,.int .i64 (aE 1).role,.int .u8 ((aE 1).key 0),.int .u8 ((aE 1).key 1),.int .u8 ((aE 1).key 2),.int .u8 ((aE 1).key 3),.int .u8 ((aE 1).key 4),.int .u8 ((aE 1).key 5),.int .u8 ((aE 1).key 6),.int .u8 ((aE 1).key 7),.int .u8 ((aE 1).key 8),.int .u8 ((aE 1).key 9),.int .u8 ((aE 1).key 10),.int .u8 ((aE 1).key 11),.int .u8 ((aE 1).key 12),.int .u8 ((aE 1).key 13),.int .u8 ((aE 1).key 14),.int .u8 ((aE 1).key 15),.int .u8 ((aE 1).key 16),.int .u8 ((aE 1).key 17),.int .u8 ((aE 1).key 18),.int .u8 ((aE 1).key 19),.int .u8 ((aE 1).key 20),.int .u8 ((aE 1).key 21),.int .u8 ((aE 1).key 22),.int .u8 ((aE 1).key 23),.int .u8 ((aE 1).key 24),.int .u8 ((aE 1).key 25),.int .u8 ((aE 1).key 26),.int .u8 ((aE 1).key 27),.int .u8 ((aE 1).key 28),.int .u8 ((aE 1).key 29),.int .u8 ((aE 1).key 30),.int .u8 ((aE 1).key 31),.bool (aE 1).seen.any,.int .i64 (aE 1).seen.high,.int .u64 (aE 1).seen.seen,.bool (aE 2).on,.int .i64 (aE 2).aP.n,.int .i64 (aE 2).aP.most,.int .i64 (aE 2).role,.int .u8 ((aE 2).key 0),.int .u8 ((aE 2).key 1),.int .u8 ((aE 2).key 2),.int .u8 ((aE 2).key 3),.int .u8 ((aE 2).key 4),.int .u8 ((aE 2).key 5),.int .u8 ((aE 2).key 6),.int .u8 ((aE 2).key 7),.int .u8 ((aE 2).key 8),.int .u8 ((aE 2).key 9),.int .u8 ((aE 2).key 10),.int .u8 ((aE 2).key 11),.int .u8 ((aE 2).key 12),.int .u8 ((aE 2).key 13),.int .u8 ((aE 2).key 14),.int .u8 ((aE 2).key 15),.int .u8 ((aE 2).key 16),.int .u8 ((aE 2).key 17),.int .u8 ((aE 2).key 18),.int .u8 ((aE 2).key 19),.int .u8 ((aE 2).key 20),.int .u8 ((aE 2).key 21),.int .u8 ((aE 2).key 22),.int .u8 ((aE 2).key 23),.int .u8 ((aE 2).key 24),.int .u8 ((aE 2).key 25),.int .u8 ((aE 2).key 26),.int .u8 ((aE 2).key 27),.int .u8 ((aE 2).key 28),.int .u8 ((aE 2).key 29),.int .u8 ((aE 2).key 30),.int .u8 ((aE 2).key 31),.bool (aE 2).seen.any,.int .i64 (aE 2).seen.high,.int .u64 (aE 2).seen.seen,.int .i64 b,.int .i64 m]
theorem Uc (p:Sd.Pol) (ka:Nat->Option Addr) (kn kc:Nat->Nat) (w:World):au prog 25 #[.agg (kG p ka kn kc)] w λv w1=>v=.int .i64 (eh p.i kn)/\Ch [] w w1:=JM p.i ka kn kc w
theorem Oc {q:Nat->Int} {kn:Nat->Nat} (h:eh q kn=0):1<=q 48/\q 48<=3:=by
 have:allI 1 3 [q 48,q 49]=true:=by
  cases e:allI 1 3 [q 48,q 49]with
  |true=>rfl
  |false=>
   exfalso;unfold eh at h
   repeat' split at h
   all_goals first|omega|(rename_i h48;simp[e]at h48)
 simp only[allI,vd,Bool.and_eq_true,decide_eq_true_eq]at this;exact this.1
theorem aed (w:World):
 au prog 30 #[] w λv w1=>v=.agg #[.int .i64 2,.int .i64 4,.int .i64 0]/\Ch [] w w1:=by
 have S0:=St.nil [] w;refine aZ Tryz.func30 rfl ?_;refine af (ah ?_);refine ba S0 (λb=>.pointer (some ⟨b,0,none⟩)) (.cells #[.int .i64 0,.int .i64 0,.int .i64 0] 38) ?_;intro aQ jh ec;refine ag (ab (af (ah ?_)));refine aa (.agg #[.int .i64 2,.int .i64 4,.int .i64 0]) ?_;refine store_ ec 0 (.agg #[.int .i64 2,.int .i64 4,.int .i64 0]) aQ 0 ?_;intro S_ KY;refine ag (ab (wp_ret ?_));refine dk rfl (cZ [.cell 0 38] [.agg #[.int .i64 2,.int .i64 4,.int .i64 0]] (.agg #[.int .i64 2,.int .i64 4,.int .i64 0]) ⟨bh KY 0 3 aQ 0,trivial⟩) ?_;exact⟨rfl,KY.ch⟩
theorem aad (w:World):
 au prog 19 #[.slice none 0 0] w λv w1=>v=.agg (aj .u8 32 (λ_=>0))/\Ch [] w w1:=by
 have S0:=St.nil [] w;refine aZ Tryz.func19 rfl ?_;refine af (ah ?_);refine ba S0 (λb=>.pointer (some ⟨b,0,none⟩)) (.cells (aj .u8 32 (λ_=>0)) 50) ?_;intro aQ jh ec;refine ag (ab (af (ah ?_)));refine ba ec (λb=>.pointer (some ⟨b,0,none⟩)) (.cells (aj .u8 32 (λ_=>0)) 50) ?_;intro cY kM da;refine ag (ab (af (af (ah ?_))));refine aa (.slice none 0 0) ?_;refine aa (.int .i64 0) ?_;refine aa (.int .i64 0) ?_;refine ag (ab (wp_block (kO 24 (af (ah ?_)))));refine aa (.bool false) ?_;refine ag (ab (af (cS ?_)));refine wp_exit (cv (cv (iy (ab (af (ah ?_))))));refine db da 0 32 (aj .u8 32 (λ_=>0)) cY 0 ?_;refine store_ da 1 (.agg (aj .u8 32 (λ_=>0))) aQ 0 ?_;intro WZ AT;refine ag (ab (wp_ret ?_));refine dk rfl (cZ [.cell 2 50] [.agg (aj .u8 32 (λ_=>0))] (.agg (aj .u8 32 (λ_=>0))) ⟨bh AT 1 32 aQ 0,trivial⟩) ?_;exact⟨rfl,AT.ch⟩
def oh:List Sd.Rec->List Value
 |[]=>[]
 |r::l=>(recC r).toList++oh l
theorem JN (l:List Sd.Rec) (r:Sd.Rec):oh l++(recC r).toList=oh (l++[r]):=by
 induction l with
 |nil=>simp[oh]
 |cons a l ih=>simp[oh,ih]
theorem Ud (p:Sd.Pol) (ka:Nat->Option Addr) (kn kc:Nat->Nat) (t:Sd.Tok) (bq:Nat) (D:Nat->Sd.dX) (bt:Nat) (sa be mo:Int) (mb:Sd.Label) (pt:Sd.Point) (hd:Nat->Int) (xs:Option Addr) (ns cs:Nat) (iP bc:Nat) (x:Option Addr) (n c:Nat) (bl:List aC) (rl:List Sd.Rec) (kd so sq co ho:Int) {tG:TypeId} (w:World) {ms:List Nat} {w0:World} {bs:List aC} (S0:St ms w0 ([⟨(0),false,.cells (aj .u32 64 aT) tG (0,0)⟩,⟨iP,true,.cells #[.pointer (some ⟨bc,0,none⟩),.slice xs ns cs,.slice x n c] 108 (0,0)⟩,⟨bc,true,.cells (mf p ka kn kc t bq D bt sa be mo mb pt hd) 97 (0,0)⟩]++(bl++bs)) w) (hR:eO 6 65 (oh rl) x n c bl) (hn:n<=1000):
 au prog 64 #[.pointer (some ⟨iP,0,none⟩),.int .i64 kd,.int .i64 so,.int .i64 sq,.int .i64 co,.int .i64 ho] w λv w1=>∃x1 c1 wG,v=.tuple #[]/\eO 6 65 (oh (rl++[⟨kd,so,sq,t.epoch,co,ho⟩])) x1 (n+1) c1 wG/\St ms w0 ([⟨(0),false,.cells (aj .u32 64 aT) tG (0,0)⟩,⟨iP,true,.cells #[.pointer (some ⟨bc,0,none⟩),.slice xs ns cs,.slice x1 (n+1) c1] 108 (0,0)⟩,⟨bc,true,.cells (mf p ka kn kc t bq D bt sa be mo mb pt (qq hd (⟨kd,so,sq,t.epoch,co,ho⟩:Sd.Rec))) 97 (0,0)⟩]++(wG++bs)) w1:=by
 refine aZ Tryz.func64 rfl ?_;refine af (ah ?_);refine aa (.int .i64 kd) ?_;refine aa (.int .i64 so) ?_;refine aa (.int .i64 sq) ?_;refine ay ?_;refine aa (.pointer (some ⟨iP,0,none⟩)) ?_;refine aa (.pointer (some ⟨iP,0,none⟩)) ?_;refine aH S0 1 (.pointer (some ⟨bc,0,none⟩)) iP 0 ?_;refine aa (.pointer (some ⟨bc,0,none⟩)) ?_;refine aa (.pointer (some ⟨bc,56,none⟩)) ?_;refine aa (.pointer (some ⟨bc,57,none⟩)) ?_;refine aH S0 2 (.int .i64 t.epoch) bc 57 ?_;refine aa (.int .i64 co) ?_;refine aa (.int .i64 ho) ?_;refine aa (.agg #[.int .i64 kd,.int .i64 so,.int .i64 sq,.int .i64 t.epoch,.int .i64 co,.int .i64 ho]) ?_;refine ba S0 (λb=>.pointer (some ⟨b,0,none⟩)) (.cells #[.int .i64 0,.int .i64 0,.int .i64 0,.int .i64 0,.int .i64 0,.int .i64 0] 65) ?_;intro aQ jh ec;refine store_ ec 0 (.agg #[.int .i64 kd,.int .i64 so,.int .i64 sq,.int .i64 t.epoch,.int .i64 co,.int .i64 ho]) aQ 0 ?_;intro S_ KY;refine ag (ab (af ?_));have da:St ms w0 ([⟨aQ,true,.cells #[.int .i64 kd,.int .i64 so,.int .i64 sq,.int .i64 t.epoch,.int .i64 co,.int .i64 ho] 65 (0,0)⟩,⟨(0),false,.cells (aj .u32 64 aT) tG (0,0)⟩,⟨iP,true,.cells #[.pointer (some ⟨bc,0,none⟩),.slice xs ns cs,.slice x n c] 108 (0,0)⟩,⟨bc,true,.cells (mf p ka kn kc t bq D bt sa be mo mb pt hd) 97 (0,0)⟩]++(bl++bs)) S_:=KY.re (R:=bs) [[⟨aQ,true,.cells #[.int .i64 kd,.int .i64 so,.int .i64 sq,.int .i64 t.epoch,.int .i64 co,.int .i64 ho] 65 (0,0)⟩],[⟨(0),false,.cells (aj .u32 64 aT) tG (0,0)⟩],[⟨iP,true,.cells #[.pointer (some ⟨bc,0,none⟩),.slice xs ns cs,.slice x n c] 108 (0,0)⟩],[⟨bc,true,.cells (mf p ka kn kc t bq D bt sa be mo mb pt hd) 97 (0,0)⟩],bl] [0,1,2,3,4];have zD7:∀w',Ch ((bl).map aC.id) S_ w'->St ms w0 ([⟨aQ,true,.cells #[.int .i64 kd,.int .i64 so,.int .i64 sq,.int .i64 t.epoch,.int .i64 co,.int .i64 ho] 65 (0,0)⟩,⟨(0),false,.cells (aj .u32 64 aT) tG (0,0)⟩,⟨iP,true,.cells #[.pointer (some ⟨bc,0,none⟩),.slice xs ns cs,.slice x n c] 108 (0,0)⟩,⟨bc,true,.cells (mf p ka kn kc t bq D bt sa be mo mb pt hd) 97 (0,0)⟩]++bs) w':=λ_ hc=>da.less (eO.wr hR) hc;refine acq (T':=65) da hR 8 7 6 1 [.int .i64 kd,.int .i64 so,.int .i64 sq,.int .i64 t.epoch,.int .i64 co,.int .i64 ho] [] [.pointer (some ⟨iP,0,none⟩),.pointer (some ⟨iP,0,none⟩),.pointer (some ⟨iP,0,none⟩),.pointer (some ⟨iP,2,none⟩),.slice x n c,.agg #[.int .i64 kd,.int .i64 so,.int .i64 sq,.int .i64 t.epoch,.int .i64 co,.int .i64 ho],undef,undef] [[8,0],[8,1],[8,2],[8,3],[8,4],[8,5],[8,6],[8,7],[9,0],[9,1],[9,2],[9,3],[9,4],[9,5],[9,6],[9,7],[9,8],[10,0],[10,1],[10,2],[10,3],[10,4],[10,5],[10,6],[10,7],[10,9,8],[10,9]] (aL KI (aL KI (aL KI (aL KI (aL (eL_ zD7 2 iP 2) (aL (eN_ zD7 0 aQ 0 6 #[.int .i64 kd,.int .i64 so,.int .i64 sq,.int .i64 t.epoch,.int .i64 co,.int .i64 ho]) (aL (eB_ 1 [.int .i64 kd,.int .i64 so,.int .i64 sq,.int .i64 t.epoch,.int .i64 co,.int .i64 ho] 65) (aL (eA_ da hR 31 33 6 1 [.int .i64 kd,.int .i64 so,.int .i64 sq,.int .i64 t.epoch,.int .i64 co,.int .i64 ho] 48 (by omega) (by unfold maxLen;omega) (e':=65)) (nk))))))))) ?_;intro Xh uV aee aiX Y6 nQ gm;refine aa (.pointer (some ⟨iP,0,none⟩)) ?_;refine aa (.pointer (some ⟨iP,2,none⟩)) ?_;refine store_ gm 2 (.slice Xh (n+1) uV) iP 2 ?_;intro y9 mT;refine ag (ab ?_);refine iq 13 [⟨0,λ_=>.pointer (some ⟨iP,0,none⟩),λ_=>[]⟩,⟨0,λ_=>.pointer (some ⟨iP,0,none⟩),λ_=>[]⟩,⟨0,λ_=>.pointer (some ⟨iP,0,none⟩),λ_=>[]⟩,⟨0,λ_=>.pointer (some ⟨bc,0,none⟩),λ_=>[]⟩,⟨0,λ_=>.pointer (some ⟨iP,0,none⟩),λ_=>[]⟩,⟨0,λ_=>.pointer (some ⟨iP,0,none⟩),λ_=>[]⟩,⟨0,λ_=>.pointer (some ⟨iP,0,none⟩),λ_=>[]⟩,⟨0,λ_=>.pointer (some ⟨bc,0,none⟩),λ_=>[]⟩,⟨0,λ_=>.pointer (some ⟨bc,0,none⟩),λ_=>[]⟩,⟨0,λ_=>.pointer (some ⟨bc,114,none⟩),λ_=>[]⟩,⟨0,λ_=>.agg (aj .u8 32 hd),λ_=>[]⟩,⟨0,λ_=>.agg #[.int .i64 kd,.int .i64 so,.int .i64 sq,.int .i64 t.epoch,.int .i64 co,.int .i64 ho],λ_=>[]⟩,⟨0,λ_=>.agg (aj .u8 32 (qq hd (⟨kd,so,sq,t.epoch,co,ho⟩:Sd.Rec))),λ_=>[]⟩] [[13,0],[13,1],[13,2],[13,3],[13,4],[13,5],[13,6],[13,7],[13,8],[13,9],[13,10],[13,11],[13,12],[14,0],[14,1],[14,2],[14,3],[14,4],[14,5],[14,6],[14,7],[14,8],[14,9],[14,10],[14,11],[14,12],[14,13],[15,0],[15,1],[15,2],[15,3],[15,4],[15,5],[15,6],[15,7],[15,8],[15,9],[15,10],[15,11],[15,12],[15,14,13],[15,14]] ?_ ?_
 ·refine step_cons iO ?_;refine step_cons iO ?_;refine step_cons iO ?_;refine step_cons (qL_ mT 2 iP 0) ?_;refine step_cons iO ?_;refine step_cons iO ?_;refine step_cons iO ?_;refine step_cons (qL_ mT 2 iP 0) ?_;refine step_cons iO ?_;refine step_cons iO ?_;refine step_cons (RT mT 3 bc 114 32 (aj .u8 32 hd)) ?_;refine step_cons (RT mT 0 aQ 0 6 #[.int .i64 kd,.int .i64 so,.int .i64 sq,.int .i64 t.epoch,.int .i64 co,.int .i64 ho]) ?_;refine step_cons ?_ ?_
  ·intro aef qh Nu ail Xk;have iU:aef 47=.agg (aj .u8 32 hd):=(Sp.bm (Xk 10 47 (by kernel_rfl) (by kernel_rfl))).1;have nR:aef 48=.agg #[.int .i64 kd,.int .i64 so,.int .i64 sq,.int .i64 t.epoch,.int .i64 co,.int .i64 ho]:=(Sp.bm (Xk 11 48 (by kernel_rfl) (by kernel_rfl))).1;have jk:=mT.quiet Nu;refine j4 ?_;refine kS [(47,.agg (aj .u8 32 hd)),(48,.agg #[.int .i64 kd,.int .i64 so,.int .i64 sq,.int .i64 t.epoch,.int .i64 co,.int .i64 ho])] (cx iU (cx nR (fT))) ?_;have gL:=jk.loc;refine Y.br 42 #[.agg (aj .u8 32 hd),.agg #[.int .i64 kd,.int .i64 so,.int .i64 sq,.int .i64 t.epoch,.int .i64 co,.int .i64 ho]] ?_;refine(adY hd (⟨kd,so,sq,t.epoch,co,ho⟩:Sd.Rec) _ (gL.at_ 1 _ rfl)).mono ?_;rintro _ S8 ⟨rfl,fD⟩;have Et:=gL.quiet fD;exact⟨Et.ch,Sp.dv [] (all_nil)⟩
  exact eD
 intro rY BM G_ lq;have BR:rY 0=.pointer (some ⟨iP,0,none⟩):=(Sp.bm (lq 0 (by kernel_rfl))).1;have ig:rY 1=.pointer (some ⟨iP,0,none⟩):=(Sp.bm (lq 1 (by kernel_rfl))).1;have lh:rY 2=.pointer (some ⟨iP,0,none⟩):=(Sp.bm (lq 2 (by kernel_rfl))).1;have lg:rY 3=.pointer (some ⟨bc,0,none⟩):=(Sp.bm (lq 3 (by kernel_rfl))).1;have uR:rY 4=.pointer (some ⟨iP,0,none⟩):=(Sp.bm (lq 4 (by kernel_rfl))).1;have ql:rY 5=.pointer (some ⟨iP,0,none⟩):=(Sp.bm (lq 5 (by kernel_rfl))).1;have oQ:rY 6=.pointer (some ⟨iP,0,none⟩):=(Sp.bm (lq 6 (by kernel_rfl))).1;have iG:rY 7=.pointer (some ⟨bc,0,none⟩):=(Sp.bm (lq 7 (by kernel_rfl))).1;have oS:rY 8=.pointer (some ⟨bc,0,none⟩):=(Sp.bm (lq 8 (by kernel_rfl))).1;have M1:rY 9=.pointer (some ⟨bc,114,none⟩):=(Sp.bm (lq 9 (by kernel_rfl))).1;have y_:rY 10=.agg (aj .u8 32 hd):=(Sp.bm (lq 10 (by kernel_rfl))).1;have NI:rY 11=.agg #[.int .i64 kd,.int .i64 so,.int .i64 sq,.int .i64 t.epoch,.int .i64 co,.int .i64 ho]:=(Sp.bm (lq 11 (by kernel_rfl))).1;have rU:rY 12=.agg (aj .u8 32 (qq hd (⟨kd,so,sq,t.epoch,co,ho⟩:Sd.Rec))):=(Sp.bm (lq 12 (by kernel_rfl))).1;have BU:=mT.quiet G_;refine⟨[.pointer (some ⟨iP,0,none⟩),.pointer (some ⟨iP,0,none⟩),.pointer (some ⟨iP,0,none⟩),.pointer (some ⟨bc,0,none⟩),.pointer (some ⟨iP,0,none⟩),.pointer (some ⟨iP,0,none⟩),.pointer (some ⟨iP,0,none⟩),.pointer (some ⟨bc,0,none⟩),.pointer (some ⟨bc,0,none⟩),.pointer (some ⟨bc,114,none⟩),.agg (aj .u8 32 hd),.agg #[.int .i64 kd,.int .i64 so,.int .i64 sq,.int .i64 t.epoch,.int .i64 co,.int .i64 ho],.agg (aj .u8 32 (qq hd (⟨kd,so,sq,t.epoch,co,ho⟩:Sd.Rec)))],by kernel_rfl,aA BR (aA ig (aA lh (aA lg (aA uR (aA ql (aA oQ (aA iG (aA oS (aA M1 (aA y_ (aA NI (aA rU (lH))))))))))))),?_⟩;refine aa (.pointer (some ⟨bc,0,none⟩)) ?_;refine aa (.pointer (some ⟨bc,114,none⟩)) ?_;refine store_ BU 3 (.agg (aj .u8 32 (qq hd (⟨kd,so,sq,t.epoch,co,ho⟩:Sd.Rec)))) bc 114 ?_;intro ad0 TU;refine ag ?_;refine end_ rfl (cZ [] [] (.tuple #[]) trivial) ?_;exact⟨Xh,uV,aee,rfl,JN rl _▸nQ,TU.re (R:=bs) [[⟨aQ,true,.cells #[.int .i64 kd,.int .i64 so,.int .i64 sq,.int .i64 t.epoch,.int .i64 co,.int .i64 ho] 65 (0,0)⟩],[⟨(0),false,.cells (aj .u32 64 aT) tG (0,0)⟩],[⟨iP,true,.cells #[.pointer (some ⟨bc,0,none⟩),.slice xs ns cs,.slice Xh (n+1) uV] 108 (0,0)⟩],[⟨bc,true,.cells (mf p ka kn kc t bq D bt sa be mo mb pt (qq hd (⟨kd,so,sq,t.epoch,co,ho⟩:Sd.Rec))) 97 (0,0)⟩],aee] [1,2,3,4]⟩
end Go.Proofs.YtlkpikfddnjilaaGreatDoor
