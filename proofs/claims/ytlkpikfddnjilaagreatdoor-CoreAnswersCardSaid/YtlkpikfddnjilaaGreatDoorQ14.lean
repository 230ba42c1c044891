/- Part 14 of the proof. -/
import Derived.Test.YtlkpikfddnjilaaGreatDoorRows
import Derived.Test.YtlkpikfddnjilaaGreatDoorQ13
set_option linter.all false
set_option maxRecDepth 100000
set_option maxHeartbeats 4000000
open Go.Proofs.Tryz
open Go.IntKind (u8 u16 u32 u64 i64)
namespace Go.Proofs.YtlkpikfddnjilaaGreatDoor
open Go Go.RowKit Go.BigFrame Sx Vx
def abJ (t:Sd.Timer):List V:=[.int .i64 t.n,.int .i64 t.most]
def Vy:List V->Option Sd.Timer
 |[.int .i64 x0,.int .i64 x1]=>some ⟨x0,x1⟩
 |_=>none
theorem Ig {l:List V} {t:Sd.Timer} (h:Vy l=some t):l=abJ t:=by
 unfold Vy at h;split at h
 ·obtain rfl:=Option.some.inj h;rfl
 ·cases h
def x4L (t:Sd.X4):List V:=[.int .i64 t.a,.int .i64 t.b,.int .i64 t.c,.int .i64 t.d]
def x4R:List V->Option Sd.X4
 |[.int .i64 x0,.int .i64 x1,.int .i64 x2,.int .i64 x3]=>some ⟨x0,x1,x2,x3⟩
 |_=>none
theorem O9 {l:List V} {t:Sd.X4} (h:x4R l=some t):l=x4L t:=by
 unfold x4R at h;split at h
 ·obtain rfl:=Option.some.inj h;rfl
 ·cases h
def l9 (t:Sd.Label):List V:=[.int .i64 t.l5,.int .i64 t.source,.int .i64 t.seq]
def O_:List V->Option Sd.Label
 |[.int .i64 x0,.int .i64 x1,.int .i64 x2]=>some ⟨x0,x1,x2⟩
 |_=>none
theorem Ae {l:List V} {t:Sd.Label} (h:O_ l=some t):l=l9 t:=by
 unfold O_ at h;split at h
 ·obtain rfl:=Option.some.inj h;rfl
 ·cases h
def cE (t:Sd.Tok):List V:=[.int .i64 t.holder,.int .i64 t.epoch,.int .i64 t.offer,.int .i64 t.oa.n,.int .i64 t.oa.most,.int .i64 t.la.n,.int .i64 t.la.most,.bool t.bad]
def kr:List V->Option Sd.Tok
 |[.int .i64 x0,.int .i64 x1,.int .i64 x2,.int .i64 x3,.int .i64 x4,.int .i64 x5,.int .i64 x6,.bool x7]=>some ⟨x0,x1,x2,⟨x3,x4⟩,⟨x5,x6⟩,x7⟩
 |_=>none
theorem eL {l:List V} {t:Sd.Tok} (h:kr l=some t):l=cE t:=by
 unfold kr at h;split at h
 ·obtain rfl:=Option.some.inj h;rfl
 ·cases h
def Ts (t:Sd.Point):List V:=[.int .i64 t.cls,.int .i64 t.bZ.a,.int .i64 t.bZ.b,.int .i64 t.bZ.c,.int .i64 t.bZ.d,.int .i64 t.now.a,.int .i64 t.now.b,.int .i64 t.now.c,.int .i64 t.now.d,.int .i64 t.eo.l5,.int .i64 t.eo.source,.int .i64 t.eo.seq]
def ptR:List V->Option Sd.Point
 |[.int .i64 x0,.int .i64 x1,.int .i64 x2,.int .i64 x3,.int .i64 x4,.int .i64 x5,.int .i64 x6,.int .i64 x7,.int .i64 x8,.int .i64 x9,.int .i64 x10,.int .i64 x11]=>some ⟨x0,⟨x1,x2,x3,x4⟩,⟨x5,x6,x7,x8⟩,⟨x9,x10,x11⟩⟩
 |_=>none
theorem Ft {l:List V} {t:Sd.Point} (h:ptR l=some t):l=Ts t:=by
 unfold ptR at h;split at h
 ·obtain rfl:=Option.some.inj h;rfl
 ·cases h
def cB (t:Sd.db):List V:=[.int .i64 t.kind,.int .i64 t.seq,.int .i64 t.role,.int .i64 t.bZ,.int .i64 t.epoch,.int .i64 t.mode,.int .i64 t.cls,.bool t.now,.int .i64 t.x.a,.int .i64 t.x.b,.int .i64 t.x.c,.int .i64 t.x.d]
def KB:List V->Option Sd.db
 |[.int .i64 x0,.int .i64 x1,.int .i64 x2,.int .i64 x3,.int .i64 x4,.int .i64 x5,.int .i64 x6,.bool x7,.int .i64 x8,.int .i64 x9,.int .i64 x10,.int .i64 x11]=>some ⟨x0,x1,x2,x3,x4,x5,x6,x7,⟨x8,x9,x10,x11⟩⟩
 |_=>none
theorem ud {l:List V} {t:Sd.db} (h:KB l=some t):l=cB t:=by
 unfold KB at h;split at h
 ·obtain rfl:=Option.some.inj h;rfl
 ·cases h
def pd (t:Sd.dq):List V:=[.bool t.valid,.int .i64 t.x.a,.int .i64 t.x.b,.int .i64 t.x.c,.int .i64 t.x.d,.bool t.ED]
def KC:List V->Option Sd.dq
 |[.bool x0,.int .i64 x1,.int .i64 x2,.int .i64 x3,.int .i64 x4,.bool x5]=>some ⟨x0,⟨x1,x2,x3,x4⟩,x5⟩
 |_=>none
theorem ue {l:List V} {t:Sd.dq} (h:KC l=some t):l=pd t:=by
 unfold KC at h;split at h
 ·obtain rfl:=Option.some.inj h;rfl
 ·cases h
def af5 (t:Sd.cU):List V:=[.bool t.any,.int .i64 t.high,.int .u64 t.seen]
def abK:List V->Option Sd.cU
 |[.bool x0,.int .i64 x1,.int .u64 x2]=>some ⟨x0,x1,x2⟩
 |_=>none
theorem Vz {l:List V} {t:Sd.cU} (h:abK l=some t):l=af5 t:=by
 unfold abK at h;split at h
 ·obtain rfl:=Option.some.inj h;rfl
 ·cases h
def Pa (t:Sd.Ask):List V:=[.int .i64 t.source,.int .i64 t.aU,.int .i64 t.gu.n,.int .i64 t.gu.most]
def VA:List V->Option Sd.Ask
 |[.int .i64 x0,.int .i64 x1,.int .i64 x2,.int .i64 x3]=>some ⟨x0,x1,⟨x2,x3⟩⟩
 |_=>none
theorem VC {l:List V} {t:Sd.Ask} (h:VA l=some t):l=Pa t:=by
 unfold VA at h;split at h
 ·obtain rfl:=Option.some.inj h;rfl
 ·cases h
def Pb:QF:=⟨94,λargs _=>match args with
 |[.int .i64 n,.int .i64 m]=>some ((-9223372036854775808<=n/\n<=9223372036854775807)/\(-9223372036854775808<=m/\m<=9223372036854775807),.int .i64 (Sd.sat n m))
 |_=>none⟩
theorem Pc (gl:Nat->Option Nat):Pb.Ok prog gl:=by
 intro args bl p_ v_ h hp ids w _ _;unfold Pb at h;dsimp only at h;split at h
 ·rename_i n m;simp only[Option.some.injEq,Prod.mk.injEq]at h;obtain⟨rfl,rfl⟩:=h;obtain⟨h_n,h_m⟩:=hp;exact told (ai8 n m h_n h_m w)
 ·cases h
def Af:QF:=⟨192,λargs _=>match args with
 |[.int .i64 n,.int .i64 lo,.int .i64 hi]=>some (True,.int .i64 (Sd.og n lo hi))
 |_=>none⟩
theorem Fu (gl:Nat->Option Nat):Af.Ok prog gl:=by
 intro args bl p_ v_ h hp ids w _ _;unfold Af at h;dsimp only at h;split at h
 ·rename_i n lo hi;simp only[Option.some.injEq,Prod.mk.injEq]at h;obtain⟨rfl,rfl⟩:=h;exact told (OL n lo hi w)
 ·cases h
def vF:QF:=⟨112,λargs _=>match args with
 |[.int .i64 nw,.int .i64 t,.int .i64 b]=>some ((-9223372036854775808<=nw/\nw<=9223372036854775807)/\(-9223372036854775808<=t/\t<=9223372036854775807)/\(-9223372036854775808<=b/\b<=9223372036854775807),.int .i64 (Sd.iF nw t b))
 |_=>none⟩
theorem CO (gl:Nat->Option Nat):vF.Ok prog gl:=by
 intro args bl p_ v_ h hp ids w _ _;unfold vF at h;dsimp only at h;split at h
 ·rename_i nw t b;simp only[Option.some.injEq,Prod.mk.injEq]at h;obtain⟨rfl,rfl⟩:=h;obtain⟨afE,h_t,h_b⟩:=hp;exact told (H7 nw t b afE h_t h_b w)
 ·cases h
def Pd:QF:=⟨163,λargs _=>match args with
 |[.int .i64 s,.int .i64 i]=>some (True,.bool (Sd.has s i))
 |_=>none⟩
theorem Pe (gl:Nat->Option Nat):Pd.Ok prog gl:=by
 intro args bl p_ v_ h hp ids w _ _;unfold Pd at h;dsimp only at h;split at h
 ·rename_i s i;simp only[Option.some.injEq,Prod.mk.injEq]at h;obtain⟨rfl,rfl⟩:=h;exact told (afF s i w)
 ·cases h
def Ag:QF:=⟨155,λargs _=>match args with
 |[.int .i64 m]=>some ((-9223372036854775808<=m/\m<=9223372036854775807),.agg (abJ (Sd.Timer.start m)))
 |_=>none⟩
theorem Fv (gl:Nat->Option Nat):Ag.Ok prog gl:=by
 intro args bl p_ v_ h hp ids w _ _;unfold Ag at h;dsimp only at h;split at h
 ·rename_i m;simp only[Option.some.injEq,Prod.mk.injEq]at h;obtain⟨rfl,rfl⟩:=h;have h_m:=hp;exact told (abd m h_m w)
 ·cases h
def Fw:QF:=⟨107,λargs _=>match args with
 |[.agg ov]=>(match Vy ov with|some t=>some ((-9223372036854775808<=t.n/\t.n<=9223372036854775807)/\(-9223372036854775808<=t.most/\t.most<=9223372036854775807),.agg (abJ (Sd.Timer.step t)))|none=>none)
 |_=>none⟩
theorem KD (gl:Nat->Option Nat):Fw.Ok prog gl:=by
 intro args bl p_ v_ h hp ids w _ _;unfold Fw at h;dsimp only at h;split at h
 ·rename_i ov;split at h
  ·rename_i t xB;simp only[Option.some.injEq,Prod.mk.injEq]at h;obtain⟨rfl,rfl⟩:=h;obtain rfl:=Ig xB;obtain⟨Y1,Cx⟩:=hp;exact told (Y0 t Y1 Cx w)
  ·cases h
 ·cases h
def Pf:QF:=⟨108,λargs _=>match args with
 |[.agg ov]=>(match Vy ov with|some t=>some (True,.bool (Sd.Timer.due t))|none=>none)
 |_=>none⟩
theorem Pg (gl:Nat->Option Nat):Pf.Ok prog gl:=by
 intro args bl p_ v_ h hp ids w _ _;unfold Pf at h;dsimp only at h;split at h
 ·rename_i ov;split at h
  ·rename_i t xB;simp only[Option.some.injEq,Prod.mk.injEq]at h;obtain⟨rfl,rfl⟩:=h;obtain rfl:=Ig xB;exact told (afG t w)
  ·cases h
 ·cases h
def Ah:QF:=⟨151,λargs _=>match args with
 |[.agg ov,.int .i64 o]=>(match kr ov with|some t=>some ((-9223372036854775808<=t.epoch/\t.epoch<=9223372036854775807),.aC [.agg (cE ((Sd.Tok.bA t o).1)),.int .i64 ((Sd.Tok.bA t o).2)])|none=>none)
 |_=>none⟩
theorem Fx (gl:Nat->Option Nat):Ah.Ok prog gl:=by
 intro args bl p_ v_ h hp ids w _ _;unfold Ah at h;dsimp only at h;split at h
 ·rename_i ov o;split at h
  ·rename_i t xB;simp only[Option.some.injEq,Prod.mk.injEq]at h;obtain⟨rfl,rfl⟩:=h;obtain rfl:=eL xB;have eZ:=hp;exact told (abf t o eZ w)
  ·cases h
 ·cases h
def Ai:QF:=⟨100,λargs _=>match args with
 |[.agg ov]=>(match kr ov with|some t=>some ((-9223372036854775808<=t.epoch/\t.epoch<=9223372036854775807),.agg (cE (Sd.Tok.dB t)))|none=>none)
 |_=>none⟩
theorem Fy (gl:Nat->Option Nat):Ai.Ok prog gl:=by
 intro args bl p_ v_ h hp ids w _ _;unfold Ai at h;dsimp only at h;split at h
 ·rename_i ov;split at h
  ·rename_i t xB;simp only[Option.some.injEq,Prod.mk.injEq]at h;obtain⟨rfl,rfl⟩:=h;obtain rfl:=eL xB;have eZ:=hp;exact told (abg t eZ w)
  ·cases h
 ·cases h
def Fz:QF:=⟨106,λargs _=>match args with
 |[.agg ov]=>(match kr ov with|some t=>some (True,.bool (decide (0<=t.offer)))|none=>none)
 |_=>none⟩
theorem KE (gl:Nat->Option Nat):Fz.Ok prog gl:=by
 intro args bl p_ v_ h hp ids w _ _;unfold Fz at h;dsimp only at h;split at h
 ·rename_i ov;split at h
  ·rename_i t xB;simp only[Option.some.injEq,Prod.mk.injEq]at h;obtain⟨rfl,rfl⟩:=h;obtain rfl:=eL xB;exact told (open_ t w)
  ·cases h
 ·cases h
def FA:QF:=⟨109,λargs _=>match args with
 |[.agg ov]=>(match kr ov with|some t=>some (True,.agg (cE (Sd.Tok.bG t)))|none=>none)
 |_=>none⟩
theorem KG (gl:Nat->Option Nat):FA.Ok prog gl:=by
 intro args bl p_ v_ h hp ids w _ _;unfold FA at h;dsimp only at h;split at h
 ·rename_i ov;split at h
  ·rename_i t xB;simp only[Option.some.injEq,Prod.mk.injEq]at h;obtain⟨rfl,rfl⟩:=h;obtain rfl:=eL xB;exact told (OO t w)
  ·cases h
 ·cases h
def FB:QF:=⟨209,λargs _=>match args with
 |[.agg [.jN p ka kn kc],.int .i64 s]=>some (True,.int .i64 (Sd.placeOf p s))
 |_=>none⟩
theorem KH (gl:Nat->Option Nat):FB.Ok prog gl:=by
 intro args bl p_ v_ h hp ids w _ _;unfold FB at h;dsimp only at h;split at h
 ·rename_i p ka kn kc s;simp only[Option.some.injEq,Prod.mk.injEq]at h;obtain⟨rfl,rfl⟩:=h;exact told (afH p ka kn kc s w)
 ·cases h
def vG:QF:=⟨207,λargs _=>match args with
 |[.agg [.jN p ka kn kc],.int .i64 a,.int .i64 b]=>some (True,.bool (Sd.b9 p a b))
 |_=>none⟩
theorem CP (gl:Nat->Option Nat):vG.Ok prog gl:=by
 intro args bl p_ v_ h hp ids w _ _;unfold vG at h;dsimp only at h;split at h
 ·rename_i p ka kn kc a b;simp only[Option.some.injEq,Prod.mk.injEq]at h;obtain⟨rfl,rfl⟩:=h;exact told (Vd p ka kn kc a b w)
 ·cases h
def Aj:QF:=⟨127,λargs _=>match args with
 |[.agg [.jN p ka kn kc],.int .i64 s,.int .i64 r]=>some (True,.bool (Sd.jW p s r))
 |_=>none⟩
theorem FC (gl:Nat->Option Nat):Aj.Ok prog gl:=by
 intro args bl p_ v_ h hp ids w _ _;unfold Aj at h;dsimp only at h;split at h
 ·rename_i p ka kn kc s r;simp only[Option.some.injEq,Prod.mk.injEq]at h;obtain⟨rfl,rfl⟩:=h;exact told (abl p ka kn kc s r w)
 ·cases h
def FE:QF:=⟨191,λargs _=>match args with
 |[.agg [.jN p ka kn kc],.int .i64 a,.int .i64 b]=>some (True,.bool (Sd.goes p a b))
 |_=>none⟩
theorem KI (gl:Nat->Option Nat):FE.Ok prog gl:=by
 intro args bl p_ v_ h hp ids w _ _;unfold FE at h;dsimp only at h;split at h
 ·rename_i p ka kn kc a b;simp only[Option.some.injEq,Prod.mk.injEq]at h;obtain⟨rfl,rfl⟩:=h;exact told (afI p ka kn kc a b w)
 ·cases h
def Ph:QF:=⟨190,λargs _=>match args with
 |[.agg [.jN p ka kn kc],.int .i64 m,.int .i64 r,.int .i64 c]=>some (True,.bool (Sd.may p m r c))
 |_=>none⟩
theorem Pj (gl:Nat->Option Nat):Ph.Ok prog gl:=by
 intro args bl p_ v_ h hp ids w _ _;unfold Ph at h;dsimp only at h;split at h
 ·rename_i p ka kn kc m r c;simp only[Option.some.injEq,Prod.mk.injEq]at h;obtain⟨rfl,rfl⟩:=h;exact told (ai9 p ka kn kc m r c w)
 ·cases h
def FF:QF:=⟨28,λargs _=>match args with
 |[.agg [.jN p ka kn kc]]=>some (True,.agg (cE (Sd.Tok.new p)))
 |_=>none⟩
theorem KJ (gl:Nat->Option Nat):FF.Ok prog gl:=by
 intro args bl p_ v_ h hp ids w _ _;unfold FF at h;dsimp only at h;split at h
 ·rename_i p ka kn kc;simp only[Option.some.injEq,Prod.mk.injEq]at h;obtain⟨rfl,rfl⟩:=h;exact told (Y2 p ka kn kc w)
 ·cases h
def Pk:QF:=⟨178,λargs _=>match args with
 |[.agg ov,.int .i64 f,.int .i64 e]=>(match kr ov with|some t=>some ((-9223372036854775808<=t.epoch/\t.epoch<=9223372036854775807),.aC [.agg (cE ((Sd.Tok.accept t f e).1)),.int .i64 ((Sd.Tok.accept t f e).2)])|none=>none)
 |_=>none⟩
theorem Pm (gl:Nat->Option Nat):Pk.Ok prog gl:=by
 intro args bl p_ v_ h hp ids w _ _;unfold Pk at h;dsimp only at h;split at h
 ·rename_i ov f e;split at h
  ·rename_i t xB;simp only[Option.some.injEq,Prod.mk.injEq]at h;obtain⟨rfl,rfl⟩:=h;obtain rfl:=eL xB;have eZ:=hp;exact told (ai_ t f e eZ w)
  ·cases h
 ·cases h
def FG:QF:=⟨179,λargs _=>match args with
 |[.agg ov,.int .i64 f]=>(match kr ov with|some t=>some (True,.aC [.agg (cE ((Sd.Tok.fb t f).1)),.int .i64 ((Sd.Tok.fb t f).2)])|none=>none)
 |_=>none⟩
theorem KM (gl:Nat->Option Nat):FG.Ok prog gl:=by
 intro args bl p_ v_ h hp ids w _ _;unfold FG at h;dsimp only at h;split at h
 ·rename_i ov f;split at h
  ·rename_i t xB;simp only[Option.some.injEq,Prod.mk.injEq]at h;obtain⟨rfl,rfl⟩:=h;obtain rfl:=eL xB;exact told (afJ t f w)
  ·cases h
 ·cases h
def Ak:QF:=⟨105,λargs _=>match args with
 |[.agg ov,.int .i64 s]=>(match kr ov with|some t=>some (True,.aC [.agg (cE ((Sd.Tok.drop t s).1)),.bool ((Sd.Tok.drop t s).2)])|none=>none)
 |_=>none⟩
theorem FH (gl:Nat->Option Nat):Ak.Ok prog gl:=by
 intro args bl p_ v_ h hp ids w _ _;unfold Ak at h;dsimp only at h;split at h
 ·rename_i ov s;split at h
  ·rename_i t xB;simp only[Option.some.injEq,Prod.mk.injEq]at h;obtain⟨rfl,rfl⟩:=h;obtain rfl:=eL xB;exact told (abp t s w)
  ·cases h
 ·cases h
def Al:QF:=⟨66,λargs _=>match args with
 |[.agg ov]=>(match kr ov with|some t=>some ((-9223372036854775808<=t.oa.n/\t.oa.n<=9223372036854775807)/\(-9223372036854775808<=t.oa.most/\t.oa.most<=9223372036854775807),.aC [.agg (cE ((Sd.Tok.tick t).1)),.int .i64 ((Sd.Tok.tick t).2)])|none=>none)
 |_=>none⟩
theorem FI (gl:Nat->Option Nat):Al.Ok prog gl:=by
 intro args bl p_ v_ h hp ids w _ _;unfold Al at h;dsimp only at h;split at h
 ·rename_i ov;split at h
  ·rename_i t xB;simp only[Option.some.injEq,Prod.mk.injEq]at h;obtain⟨rfl,rfl⟩:=h;obtain rfl:=eL xB;obtain⟨Cz,tf⟩:=hp;exact told (abq t Cz tf w)
  ·cases h
 ·cases h
def FJ:QF:=⟨177,λargs _=>match args with
 |[.agg [.jN p ka kn kc],.agg ov,.int .i64 f,.int .i64 o,.bool th]=>(match kr ov with|some t=>some ((Sd.cJ p),.aC [.agg (cE ((Sd.Tok.make p t f o th).1)),.int .i64 ((Sd.Tok.make p t f o th).2)])|none=>none)
 |_=>none⟩
theorem KO (gl:Nat->Option Nat):FJ.Ok prog gl:=by
 intro args bl p_ v_ h hp ids w _ _;unfold FJ at h;dsimp only at h;split at h
 ·rename_i p ka kn kc ov f o th;split at h
  ·rename_i t xB;simp only[Option.some.injEq,Prod.mk.injEq]at h;obtain⟨rfl,rfl⟩:=h;obtain rfl:=eL xB;have hp:=hp;exact told (afK p ka kn kc t f o th hp w)
  ·cases h
 ·cases h
def FK:QF:=⟨150,λargs _=>match args with
 |[.agg [.jN p ka kn kc],.agg CQ,.int .i64 c,.agg l_y,.agg l_b]=>(match ptR CQ with|some pt=>(match x4R l_y with|some y=>(match O_ l_b with|some b=>some ((Sd.cJ p),.agg (Ts (Sd.Point.set p pt c y b)))|none=>none)|none=>none)|none=>none)
 |_=>none⟩
theorem KR (gl:Nat->Option Nat):FK.Ok prog gl:=by
 intro args bl p_ v_ h hp ids w _ _;unfold FK at h;dsimp only at h;split at h
 ·rename_i p ka kn kc CQ c l_y l_b;split at h
  ·rename_i pt Pn;split at h
   ·rename_i y e_y;split at h
    ·rename_i b e_b;simp only[Option.some.injEq,Prod.mk.injEq]at h;obtain⟨rfl,rfl⟩:=h;obtain rfl:=Ft Pn;obtain rfl:=O9 e_y;obtain rfl:=Ae e_b;have hp:=hp;exact told (afL p ka kn kc pt c y b hp w)
    ·cases h
   ·cases h
  ·cases h
 ·cases h
def FL:QF:=⟨154,λargs _=>match args with
 |[.agg CQ,.agg l_b]=>(match ptR CQ with|some pt=>(match O_ l_b with|some b=>some (True,.agg (Ts (Sd.Point.hold pt b)))|none=>none)|none=>none)
 |_=>none⟩
theorem KU (gl:Nat->Option Nat):FL.Ok prog gl:=by
 intro args bl p_ v_ h hp ids w _ _;unfold FL at h;dsimp only at h;split at h
 ·rename_i CQ l_b;split at h
  ·rename_i pt Pn;split at h
   ·rename_i b e_b;simp only[Option.some.injEq,Prod.mk.injEq]at h;obtain⟨rfl,rfl⟩:=h;obtain rfl:=Ft Pn;obtain rfl:=Ae e_b;exact told (afM pt b w)
   ·cases h
  ·cases h
 ·cases h
def vH:QF:=⟨147,λargs _=>match args with
 |[.int .i64 m,.agg l_y]=>(match x4R l_y with|some y=>some ((0<=m/\m<=1000),.bool (Sd.MT m y))|none=>none)
 |_=>none⟩
theorem CR (gl:Nat->Option Nat):vH.Ok prog gl:=by
 intro args bl p_ v_ h hp ids w _ _;unfold vH at h;dsimp only at h;split at h
 ·rename_i m l_y;split at h
  ·rename_i y e_y;simp only[Option.some.injEq,Prod.mk.injEq]at h;obtain⟨rfl,rfl⟩:=h;obtain rfl:=O9 e_y;have hm:=hp;exact told (H_ m y hm w)
  ·cases h
 ·cases h
def Po:QF:=⟨96,λargs _=>match args with
 |[.agg [.jN p ka kn kc],.int .i64 r,.agg l_s]=>(match KC l_s with|some s=>some ((Sd.cJ p)/\(-9223372036854775808<=r/\r<=9223372036854775807),.aC [.int .i64 ((Sd.oh p r s).1),.bool ((Sd.oh p r s).2)])|none=>none)
 |_=>none⟩
theorem Pp (gl:Nat->Option Nat):Po.Ok prog gl:=by
 intro args bl p_ v_ h hp ids w _ _;unfold Po at h;dsimp only at h;split at h
 ·rename_i p ka kn kc r l_s;split at h
  ·rename_i s e_s;simp only[Option.some.injEq,Prod.mk.injEq]at h;obtain⟨rfl,rfl⟩:=h;obtain rfl:=ue e_s;obtain⟨hp,h_r⟩:=hp;exact told (ajb p ka kn kc r s hp h_r w)
  ·cases h
 ·cases h
def Am:QF:=⟨70,λargs _=>match args with
 |[.agg [.jN p ka kn kc],.agg CQ]=>(match ptR CQ with|some pt=>some ((Sd.cJ p)/\(-9223372036854775808<=pt.bZ.a/\pt.bZ.a<=9223372036854775807)/\(-9223372036854775808<=pt.bZ.b/\pt.bZ.b<=9223372036854775807)/\(-9223372036854775808<=pt.bZ.c/\pt.bZ.c<=9223372036854775807)/\(-9223372036854775808<=pt.bZ.d/\pt.bZ.d<=9223372036854775807)/\(-9223372036854775808<=pt.now.a/\pt.now.a<=9223372036854775807)/\(-9223372036854775808<=pt.now.b/\pt.now.b<=9223372036854775807)/\(-9223372036854775808<=pt.now.c/\pt.now.c<=9223372036854775807)/\(-9223372036854775808<=pt.now.d/\pt.now.d<=9223372036854775807),.agg (Ts (Sd.Point.step p pt)))|none=>none)
 |_=>none⟩
theorem FM (gl:Nat->Option Nat):Am.Ok prog gl:=by
 intro args bl p_ v_ h hp ids w _ _;unfold Am at h;dsimp only at h;split at h
 ·rename_i p ka kn kc CQ;split at h
  ·rename_i pt Pn;simp only[Option.some.injEq,Prod.mk.injEq]at h;obtain⟨rfl,rfl⟩:=h;obtain rfl:=Ft Pn;obtain⟨hp,oT,oU,oV,oW,oX,oY,oZ,o8⟩:=hp;exact told (abv p ka kn kc pt hp oT oU oV oW oX oY oZ o8 w)
  ·cases h
 ·cases h
def QV:List QF:=[Pb,Af,vF,Pd,Ag,Fw,Pf,Ah,Ai,Fz,FA,FB,vG,Aj,FE,Ph,FF,Pk,FG,Ak,Al,FJ,FK,FL,vH,Po,Am]
theorem tm (gl:Nat->Option Nat):aW prog gl QV:=(aW.cons (Pc gl) (aW.cons (Fu gl) (aW.cons (CO gl) (aW.cons (Pe gl) (aW.cons (Fv gl) (aW.cons (KD gl) (aW.cons (Pg gl) (aW.cons (Fx gl) (aW.cons (Fy gl) (aW.cons (KE gl) (aW.cons (KG gl) (aW.cons (KH gl) (aW.cons (CP gl) (aW.cons (FC gl) (aW.cons (KI gl) (aW.cons (Pj gl) (aW.cons (KJ gl) (aW.cons (Pm gl) (aW.cons (KM gl) (aW.cons (FH gl) (aW.cons (FI gl) (aW.cons (KO gl) (aW.cons (KR gl) (aW.cons (KU gl) (aW.cons (CR gl) (aW.cons (Pp gl) (aW.cons (FM gl) aW.nil)))))))))))))))))))))))))))
def atB (args:List V) (bl:List VB):Option (Nat×Nat×Nat×Nat×(Nat->Int)):=match args with
 |[.sl i off n c]=>(match bl[i]?with
  |some b=>(match BG b.c off n with
   |some [.dS .u8 m f]=>some (i,off,n,c,f)
   |_=>none)
  |none=>none)
 |_=>none
theorem Pq {args:List V} {bl:List VB} {i off n c:Nat} {f:Nat->Int} (h:atB args bl=some (i,off,n,c,f)) {ids:List Nat} {w:World} (hm:Mem ids bl w):args=[.sl i off n c]/\fl w (ids.getD i 0) off n f:=by
 unfold atB at h;split at h
 ·split at h
  ·rename_i i' Z3 n' c' b hb;split at h
   ·rename_i m g hg;simp only[Option.some.injEq,Prod.mk.injEq]at h;obtain⟨rfl,rfl,rfl,rfl,rfl⟩:=h;refine⟨rfl,?_⟩;obtain⟨h1,h2,h3⟩:=jY (ids:=ids) hg;have bD:=hm.2 _ b hb;intro j hj;rw[cell_of bD];have e:(af ids [V.dS .u8 m g])=(List.range m).map λj=>Value.int .u8 (g j):=by simp[af,cl]
    rw[e]at h1 h2;simp at h2;have h4:=congrArg (λl=>l[j]?) h1;simp only[List.getElem?_take,List.getElem?_drop,List.getElem?_map]at h4;rw[if_pos hj]at h4;have h5:(List.range m)[j]?=some j:=by rw[List.getElem?_range (by omega)]
    rw[h5]at h4;simpa using h4
   ·cases h
  ·cases h
 ·cases h
def FN:QF:=⟨125,λargs bl=>match atB args bl with
 |some (i,off,n,c,f)=>bif Nat.beq n 1 then some (By f,.aC [.int .u64 (tk1 f),.int .i64 0])else bif Nat.beq n 2 then some (By f,.aC [.int .u64 (pa f),.int .i64 0])else bif Nat.beq n 4 then some (By f,.aC [.int .u64 (tk4 f),.int .i64 0])else none
 |none=>none⟩
def An:QF:=⟨124,λargs bl=>match atB args bl with
 |some (i,off,n,c,f)=>bif Nat.beq n 2 then some (By f,.aC [.int .i64 (Y4 (pa f)),.int .i64 0])else none
 |none=>none⟩
theorem KV (gl:Nat->Option Nat):FN.Ok prog gl:=by
 intro args bl p v h hp ids w hg hm;unfold FN at h;dsimp only at h;split at h
 ·rename_i i off n c f hA;obtain⟨rfl,h8⟩:=Pq hA hm;cases h1:Nat.beq n 1 with
  |true=>
   rw[h1]at h;obtain rfl:=Nat.eq_of_beq_eq_true h1;simp only[cond_true,Option.some.injEq,Prod.mk.injEq]at h;obtain⟨rfl,rfl⟩:=h;exact Vv _ _ _ f hp w h8
  |false=>
   cases h2:Nat.beq n 2 with
   |true=>
    rw[h1,h2]at h;obtain rfl:=Nat.eq_of_beq_eq_true h2;simp only[cond_true,cond_false,Option.some.injEq,Prod.mk.injEq]at h;obtain⟨rfl,rfl⟩:=h;exact Ie _ _ _ f hp w h8
   |false=>
    cases h4:Nat.beq n 4 with
    |true=>
     rw[h1,h2,h4]at h;obtain rfl:=Nat.eq_of_beq_eq_true h4;simp only[cond_true,cond_false,Option.some.injEq,Prod.mk.injEq]at h;obtain⟨rfl,rfl⟩:=h;exact Vw _ _ _ f hp w h8
    |false=>rw[h1,h2,h4]at h;cases h
 ·cases h
theorem FO (gl:Nat->Option Nat):An.Ok prog gl:=by
 intro args bl p v h hp ids w hg hm;unfold An at h;dsimp only at h;split at h
 ·rename_i i off n c f hA;obtain⟨rfl,h8⟩:=Pq hA hm;cases h2:Nat.beq n 2 with
  |true=>
   rw[h2]at h;obtain rfl:=Nat.eq_of_beq_eq_true h2;simp only[cond_true,Option.some.injEq,Prod.mk.injEq]at h;obtain⟨rfl,rfl⟩:=h;exact O8 _ _ _ f hp w h8
  |false=>rw[h2]at h;cases h
 ·cases h
def LTk:List QF:=[FN,An]
def Bv:Nat->Option Nat:=λ_=>none
structure Fd where
 sz:Nat
 sg:Bool
 low:Int
 high:Int
 at_:Nat
 b:Bool
def Fd.val (d:Fd) (g:Nat->Int):Int:=bif d.sg then Y4 (pa g)else bif Nat.beq d.sz 1 then i64.wrap (tk1 g)else bif Nat.beq d.sz 2 then i64.wrap (pa g)else i64.wrap (tk4 g)
def Fd.up (d:Fd) (g:Nat->Int) (m:List V):List V:=jO m d.at_ (bif d.b then .bool (d.val g==1)else .int .i64 (d.val g))
def pg:V:=.aC [.agg [.int .i64 0,.int .i64 0,.int .i64 0,.int .i64 0,.int .i64 0,.int .i64 0,.int .i64 0,.bool false,.int .i64 0,.int .i64 0,.int .i64 0,.int .i64 0],.int .i64 13]
def KW (n:Nat) (f:Nat->Int) (X:V->Prop):List Fd->Nat->List V->Prop
 |[],off,m=>bif Nat.beq (n-off) 0 then X (.aC [.agg m,.int .i64 0])else X pg
 |d::l,off,m=>bif Nat.blt (n-off) d.sz then X pg else
  By (λj=>f (off+j))/\cond (decide (d.val (λj=>f (off+j))<d.low)) (X pg) (cond (decide (d.val (λj=>f (off+j))>d.high)) (X pg) (KW n f X l (off+d.sz) (d.up (λj=>f (off+j)) m)))
def iO:Fd:=⟨4,false,0,4294967295,1,false⟩
def vI:Fd:=⟨1,false,0,3,2,false⟩
def fTo:Fd:=⟨1,false,0,4,3,false⟩
def gW:Fd:=⟨2,false,0,65535,4,false⟩
def yi:Fd:=⟨1,false,0,4,5,false⟩
def xC:Fd:=⟨1,false,1,3,6,false⟩
def KX:Fd:=⟨1,false,0,1,7,true⟩
def fX (i:Nat):Fd:=⟨2,true,-32768,32767,8+i,false⟩
def kN (f:Nat->Int):Int:=i64.wrap (f 0)
def m0 (f:Nat->Int):List V:=[.int .i64 (kN f),.int .i64 0,.int .i64 0,.int .i64 0,.int .i64 0,.int .i64 0,.int .i64 0,.bool false,.int .i64 0,.int .i64 0,.int .i64 0,.int .i64 0]
def tn:Nat->List V
 |0=>[]
 |n+1=>.bool false::.bool false::.bool false::.bool false::.bool false::tn n
def gf (n:Nat) (f:Nat->Int) (X:V->Prop):Prop:=
 let T (l:List Fd):Prop:=KW n f X l 1 (m0 f)
 let T1:=T [vI]
 let T3:=T [iO]
 cond (kN f==1) T1 (cond (kN f==2) T1 (cond (kN f==3) T3 (cond (kN f==4) T3 (cond (kN f==8) T3 (cond (kN f==9) T3 (cond (kN f==5) (T [iO,KX]) (cond (kN f==6) (T [iO,fTo]) (cond (kN f==7) (T [iO,gW])
  (cond (kN f==10) (T [iO,gW,yi]) (cond (kN f==11) (∀(c:Nat) (u:List Value),7<=c->T [iO,gW,xC,fX 0,fX 1,fX 2,fX 3]) (X pg)))))))))))
end Go.Proofs.YtlkpikfddnjilaaGreatDoor
namespace Sx
open Go Go.RowKit Go.BigFrame
def af6 (vs:Nat->Value) (i:Nat) (v:Value):Nat->Value:=λj=>if j=i then v else vs j
def af7 (k0:Nat) (es:List Nat) (H:Nat->(Nat->Value)->World->Prop) (l:List Oper) (w0:World) (i:Nat) (v:Value) (vs:Nat->Value) (w' mh:World):Prop:=
 (i=k0->Ch es w' mh)/\(i≠k0->∃ns,Ch ns w' mh/\∀x∈ns,w0.heap.size<=x)/\H i (af6 vs i v) mh/\
  ∀(j:Nat) oj,l[j]?=some oj->j≠i->fH oj i=false->H j vs w'->H j (af6 vs i v) mh
def Ih (P:Program) (k0:Nat) (pre:List (List Nat)) (es:List Nat) (H:Nat->(Nat->Value)->World->Prop) (lf l:List Oper) (y0:Nat->Value) (w:World) (i:Nat) (o:Oper):Prop:=
 ∀(y vs:Nat->Value) (w':World),(i=k0\/preB pre i=true->Ch [] w w')->Ch es w w'->(∀t,pO l i t=true->y t=y0 t)->
  (∀j d,fH o j=true->(l[j]?).bind (·.dst)=some d->y d=vs j/\H j vs w')->
  (dk lf o y=true->Yields P o (MO y) w' λv mh=>af7 k0 es H l w i v vs w' mh)/\(dk lf o y=false->af7 k0 es H l w i undef vs w' w')
def qG (P:Program) (k0:Nat) (pre:List (List Nat)) (es:List Nat) (H:Nat->(Nat->Value)->World->Prop) (lf l:List Oper) (y0:Nat->Value) (w:World):Nat->List Oper->Prop
 |_,[]=>True
 |i,o::rest=>Ih P k0 pre es H lf l y0 w i o/\qG P k0 pre es H lf l y0 w (i+1) rest
theorem qG.get {P:Program} {k0:Nat} {pre:List (List Nat)} {es:List Nat} {H:Nat->(Nat->Value)->World->Prop} {lf l:List Oper} {y0:Nat->Value} {w:World}:∀{k:Nat} {m:List Oper},qG P k0 pre es H lf l y0 w k m->∀(i:Nat) o,m[i]?=some o->Ih P k0 pre es H lf l y0 w (k+i) o
 |_,[],_,i,o,h=>by simp at h
 |k,x::rest,⟨h1,h2⟩,0,o,h=>by obtain rfl:x=o:=by simpa using h
                              exact h1
 |k,x::rest,⟨h1,h2⟩,i+1,o,h=>by
  have:=qG.get h2 i o (by simpa using h)
  rwa [show k+1+i=k+(i+1) by omega]at this
structure ak9 (k0:Nat) (es:List Nat) (H:Nat->(Nat->Value)->World->Prop) (l:List Oper) (n2:Nat) (a0:Act) (w0:World) (vs:Nat->Value) (listed:Array Bool) (a:Act) (w:World):Prop where
 ls:listed.size=l.length+n2
 off:∀i,l.length<=i->i<l.length+n2->listed[i]?=some false
 size:a.tmps.size=a0.tmps.size
 defers:a.defers=a0.defers
 ch:if listed[k0]?=some true then Ch es w0 w else Ch [] w0 w
 done:∀(i:Nat) (o:Oper),l[i]?=some o->listed[i]?=some true->(∀d,o.dst=some d->eY a d=vs i)/\H i vs w
 rest:∀(t:Nat),(∀(i:Nat) (o:Oper),l[i]?=some o->o.dst=some t->listed[i]?=some false)->eY a t=eY a0 t
 back:∀(i:Nat) (o:Oper),l[i]?=some o->listed[i]?=some true->∀j,fH o j=true->listed[j]?=some true
section
variable{P:Program} {l:List Oper} {k0:Nat} {pre:List (List Nat)} {es:List Nat} {H:Nat->(Nat->Value)->World->Prop} {a0:Act} {w0:World} {Q:Exit->Act->World->Prop}
end
inductive GX where
 |v (x:Value)
 |a (obj:Obj)
 |n (cs El:Array Value) (T:TypeId)
 |s (j:Nat)
def GX.sp:GX->Sp
 |.v x=>s0 x
 |.a o=>sA o
 |.n cs _ T=>sA (.cells cs T (0,0))
 |.s _=>s0 undef
def GX.fin:GX->VX
 |.v x=>.v x
 |.a o=>.a o
 |.n _ El T=>.a (.cells El T (0,0))
 |.s _=>.v undef
theorem Yields.mono {P:Program} {o:Oper} {ρ:Operand->Value} {w:World} {R R':Value->World->Prop} (h:Yields P o ρ w R) (k:∀v w',R v w'->R' v w'):Yields P o ρ w R':=by
 unfold Yields at*;split at h
 ·exact k _ _ h
 ·exact k _ _ h
 ·exact Calls.mono h λe w' ⟨v,e1,e2⟩=>⟨v,e1,k _ _ e2⟩
 ·exact h.elim
section
variable{P:Program} {lf l:List Oper} {xs:List GX} {y0:Nat->Value} {w:World} {i k0:Nat} {pre:List (List Nat)} {o:Oper} {es:List Nat} {pv:Value->World->Prop}
end
def isS (i:Nat):GX->Bool
 |.s j=>Nat.beq j i
 |_=>false
section
variable{P:Program} {a0:Act} {w w0:World} {Q:Exit->Act->World->Prop} {id:Nat} {L:List Oper} {ms:List Nat} {bs:List ax}
end
section
variable{P:Program} {lf l:List Oper} {sp:Nat->Sp} {xs:List GX} {y0:Nat->Value} {a0:Act} {w:World} {i k0 m:Nat} {pre:List (List Nat)} {o:Oper} {es:List Nat} {pv:Value->World->Prop}
end
section
variable{P:Program} {a0:Act} {w w0:World} {Q:Exit->Act->World->Prop} {id:Nat} {L:List Oper} {ms:List Nat}
theorem pvC.cZ {val:Value} {C:List ax->Prop} {bl:List ax} {B:Nat} {T:TypeId} (hT:∀bl',C bl'->∀x∈bl',tyO x.obj≠some T) {v:Value} {w1 w2:World} {b:Nat} {c2:Array Value} (hb:w1.heap[b]?=some (.cells c2 T (0,0))) (hc:Ch [b] w1 w2) (h:pvC val C bl B v w1):pvC val C bl B v w2:=by
 obtain⟨h1,bl',h2,h3,h4⟩:=h;refine⟨h1,bl',h2,λy hy=>⟨?_,(h3 y hy).2⟩,h4⟩;refine(hc.block _ (fg (h3 y hy).1) ?_).trans (h3 y hy).1;intro hm;have e:y.id=b:=by simpa using hm
 have:=(h3 y hy).1;rw[e,hb]at this;exact hT bl' h2 y hy (by rw[<-Option.some.inj this];rfl)
end
end Sx
namespace Go.Proofs.YtlkpikfddnjilaaGreatDoor
open Go Go.RowKit Go.BigFrame Sx
def FP (q:Nat->Int) (ka:Nat->Option Addr) (kn kc:Nat->Nat):Array Value:=#[.int .i64 (q 0),.int .i64 (q 1),.int .i64 (q 2),.int .i64 (q 3),.int .i64 (q 4),.slice (ka 0) (kn 0) (kc 0),.slice (ka 1) (kn 1) (kc 1),.slice (ka 2) (kn 2) (kc 2),.slice (ka 3) (kn 3) (kc 3),.int .i64 (q 9),.int .i64 (q 10),.int .i64 (q 11),.int .i64 (q 12),.int .i64 (q 13),.int .i64 (q 14),.int .i64 (q 15),.int .i64 (q 16),.int .i64 (q 17),.int .i64 (q 18),.int .i64 (q 19),.int .i64 (q 20),.int .i64 (q 21),.int .i64 (q 22),.int .i64 (q 23),.int .i64 (q 24),.int .i64 (q 25),.int .i64 (q 26),.int .i64 (q 27),.int .i64 (q 28),.int .i64 (q 29),.int .i64 (q 30),.int .i64 (q 31),.int .i64 (q 32),.int .i64 (q 33),.int .i64 (q 34),.int .i64 (q 35),.int .i64 (q 36),.int .i64 (q 37),.int .i64 (q 38),.int .i64 (q 39),.int .i64 (q 40),.int .i64 (q 41),.int .i64 (q 42),.int .i64 (q 43),.int .i64 (q 44),.int .i64 (q 45),.int .i64 (q 46),.int .i64 (q 47),.int .i64 (q 48),.int .i64 (q 49),.int .i64 (q 50),.int .i64 (q 51),.int .i64 (q 52),.int .i64 (q 53),.int .i64 (q 54),.int .i64 (q 55)]
end Go.Proofs.YtlkpikfddnjilaaGreatDoor
namespace Go.Proofs.YtlkpikfddnjilaaGreatDoor
open Go Go.RowKit Go.BigFrame Sx Vx
def vJ (lo hi n:Int):Bool:=decide (lo<=n)&&decide (n<=hi)
def sw (a b c k:Int):Bool:=k==a||(k==b||k==c)
def Pr (q:Nat->Int):Bool:=q 0==0&&(q 4==4&&(sw (q 1) (q 2) (q 3) 1&&(sw (q 1) (q 2) (q 3) 2&&sw (q 1) (q 2) (q 3) 3)))
def vK (n:Nat):Bool:=decide (1<=(n:Int))&&decide ((n:Int)<=64)
def qH (n:Int):Bool:=vJ 0 15 n&&n%2==0
def allI (lo hi:Int):List Int->Bool
 |[]=>true
 |x::xs=>vJ lo hi x&&allI lo hi xs
def tp (kn:Nat->Nat):Bool:=vK (kn 0)&&(vK (kn 1)&&vK (kn 2))
def ph (q:Nat->Int):Bool:=qH (q 10)&&(qH (q 11)&&qH (q 12))
def Ps (q:Nat->Int):Bool:=allI 0 15 [q 14,q 15,q 16,q 17]&&(allI 0 15 [q 18,q 19,q 20,q 21]&&(allI 0 15 [q 22,q 23,q 24,q 25]&&(allI 0 15 [q 26,q 27,q 28,q 29]&&allI 0 15 [q 30,q 31,q 32,q 33])))
def eb (q:Nat->Int) (kn:Nat->Nat):Int:=
 if Pr q=false then 40 else if(tp kn&&vK (kn 3))=false then 41 else if(q 9==1&&(q 13==0&&ph q))=false then 42
 else if Ps q=false then 43
 else if allI 0 31 [q 34,q 35,q 36,q 37,q 38]=false then 44
 else if allI 0 4 [q 39,q 40,q 41]=false then 45 else if allI 1 1000 [q 42,q 43,q 44,q 45]=false then 46 else if(vJ 1 1000 (q 46)&&vJ 0 1000 (q 47))=false then 47 else if allI 1 3 [q 48,q 49]=false then 48
 else if(q 50==0&&(allI 0 1000 [q 51,q 52,q 53]&&vJ 1 1000 (q 54)))=false then 49 else if vJ 0 65535 (q 55)=false then 50 else 0
def inT (lo hi n:Int) (X Y:Prop):Prop:=cond (decide (lo<=n)) (cond (!decide (n<=hi)) Y X) Y
def seT (n:Int) (X Y:Prop):Prop:=cond (decide (0<=n)) (cond (decide (n<=15)) (cond (!(Int.tmod n 2==0)) Y X) Y) Y
def VD (lo hi:Int) (Y:Prop):List Int->Prop->Prop
 |[],X=>X
 |n::l,X=>inT lo hi n (VD lo hi Y l X) Y
theorem qI {lo hi n:Int} {X Y:Prop} (h:vJ lo hi n=true->X) (k:vJ lo hi n=false->Y):inT lo hi n X Y:=
 aO (λa=>aO (λb=>k (by rw[vJ,a];simpa using b)) λb=>h (by rw[vJ,a];simpa using b)) λa=>k (by rw[vJ,a];rfl)
theorem Ao {n:Int} {X Y:Prop} (h:qH n=true->X) (k:qH n=false->Y):seT n X Y:=by
 refine aO (λa=>aO (λb=>?_) λb=>k (by simp only[qH,vJ,a,b];rfl)) λa=>k (by simp only[qH,vJ,a];rfl);have e:Int.tmod n 2=n%2:=Int.tmod_eq_emod_of_nonneg (of_decide_eq_true a);exact aO (λc=>k (by simp only[qH,vJ,a,b];rw[e]at c;simpa using c)) λc=>h (by simp only[qH,vJ,a,b];rw[e]at c;simpa using c)
theorem j5 {lo hi:Int} {X Y:Prop}:∀{l:List Int},(allI lo hi l=true->X)->(allI lo hi l=false->Y)->VD lo hi Y l X
 |[],h,_=>h rfl
 |n::l,h,k=>qI (λa=>j5 (λb=>h (by rw[allI,a,b];rfl)) λb=>k (by rw[allI,a,b];rfl)) λa=>k (by rw[allI,a];rfl)
def dup (X:Prop):Prop:=X/\X
theorem Ap {X:Prop} (h:X):dup X:=⟨h,h⟩
def l_ (a b c d e:Int):Bool:=a==0&&(e==4&&(sw b c d 1&&(sw b c d 2&&sw b c d 3)))
def abL:QF:=⟨50,λargs _=>match args with
 |[.agg [.int .i64 a,.int .i64 b,.int .i64 c,.int .i64 d,.int .i64 e]]=>some (True,.bool (l_ a b c d e))
 |_=>none⟩
def c3T (b c d k:Int) (X Y:Prop):Prop:=cond (k==b) X (cond (k==c) X (cond (k==d) X Y))
theorem FQ {b c d k:Int} {X Y:Prop} (h:sw b c d k=true->X) (n:sw b c d k=false->Y):c3T b c d k X Y:=
 aO (λa=>h (by rw[sw,a];rfl)) λa=>aO (λe=>h (by rw[sw,a,e];rfl)) λe=>aO (λf=>h (by rw[sw,a,e,f];rfl)) λf=>n (by rw[sw,a,e,f];rfl)
theorem abM (a b c d e:Int) (K:V->Prop):jh prog [] 60 50 [.agg [.int .i64 a,.int .i64 b,.int .i64 c,.int .i64 d,.int .i64 e]] K
 =cond (a !=0) (K (.bool false)) (cond (e !=4) (K (.bool false)) (c3T b c d 1 (c3T b c d 2 (c3T b c d 3 (K (.bool true)) (K (.bool false))) (K (.bool false))) (K (.bool false)))):=by kernel_rfl
theorem VE (a b c d e:Int) (w:World):ak prog 50 #[.agg #[.int .i64 a,.int .i64 b,.int .i64 c,.int .i64 d,.int .i64 e]] w λv w1=>v=.bool (l_ a b c d e)/\Ch [] w w1:=by
 have h:cond (a !=0) ((V.bool false)=.bool (l_ a b c d e)) (cond (e !=4) ((V.bool false)=.bool (l_ a b c d e)) (c3T b c d 1 (c3T b c d 2 (c3T b c d 3 ((V.bool true)=.bool (l_ a b c d e)) ((V.bool false)=.bool (l_ a b c d e))) ((V.bool false)=.bool (l_ a b c d e))) ((V.bool false)=.bool (l_ a b c d e)))):=by
  refine aO (λh=>?_) λh=>aO (λg=>?_) λg=>FQ (λx=>FQ (λy=>FQ (λz=>?_) λz=>?_) λy=>?_) λx=>?_
  ·have h':(a==0)=false:=by simpa using h
   rw[l_,h'];rfl
  all_goals have h':(a==0)=true:=by simpa using h
  ·have g':(e==4)=false:=by simpa using g
   rw[l_,h',g'];rfl
  all_goals have g':(e==4)=true:=by simpa using g
  ·rw[l_,h',g',x,y,z];rfl
  ·rw[l_,h',g',x,y,z];rfl
  ·rw[l_,h',g',x,y];rfl
  ·rw[l_,h',g',x];rfl
 refine qt (L:=[]) aW.nil (n:=60) (xs:=[.agg [.int .i64 a,.int .i64 b,.int .i64 c,.int .i64 d,.int .i64 e]]) (v:=.bool (l_ a b c d e)) (Hd.h (Hd.mk ?_));rw[abM];exact h
theorem VF (gl:Nat->Option Nat):abL.Ok prog gl:=by
 intro args bl p_ v_ h hp ids w _ _;unfold abL at h;dsimp only at h;split at h
 ·rename_i a b c d e;simp only[Option.some.injEq,Prod.mk.injEq]at h;obtain⟨rfl,rfl⟩:=h;exact told (VE a b c d e w)
 ·cases h
def abN (q:Nat->Int) (kn:Nat->Nat) (K:V->Prop):Prop:=
 let E:=λn:Int=>K (.int .i64 n)
 cond (!(l_ (q 0) (q 1) (q 2) (q 3) (q 4))) (E 40)<|VD 1 64 (E 41) [(kn 0:Int),(kn 1:Int),(kn 2:Int),(kn 3:Int)]<|cond (q 9!=1) (E 42)<|cond (q 13!=0) (E 42)<|(λX=>seT (q 10) (seT (q 11) (seT (q 12) X (E 42)) (E 42)) (E 42))<|
 VD 0 15 (E 43) [q 14,q 15,q 16,q 17,q 18,q 19,q 20,q 21,q 22,q 23,q 24,q 25,q 26,q 27,q 28,q 29,q 30,q 31,q 32,q 33]<|VD 0 31 (E 44) [q 34,q 35,q 36,q 37,q 38]<|dup<|VD 0 4 (E 45) [q 39,q 40,q 41]<|dup<|VD 1 1000 (E 46) [q 42,q 43,q 44,q 45]<|
 (λX=>inT 1 1000 (q 46) (inT 0 1000 (q 47) X (E 47)) (E 47))<|dup<|VD 1 3 (E 48) [q 48,q 49]<|cond (q 50!=0) (E 49)<|VD 0 1000 (E 49) [q 51,q 52,q 53]<|inT 1 1000 (q 54) (inT 0 65535 (q 55) (E 0) (E 50)) (E 49)
def wiB (n:Int):VB:=⟨true,⟨3,(0,0)⟩,[.int .i64 n]⟩
def qJ:gZ Empty:=λargs bl ch K=>match args with
 |[.int .i64 lo,.int .i64 hi]=>cond (dE bl.length bl) (K (.fn 91 [] [.ptr bl.length 0,.ptr (bl.length+1) 0]) (bl++[wiB lo,wiB hi]) ch) False
 |_=>False
theorem af8 (lo hi:Int) (K:VK Empty):cI (dw prog (λ_=>none) ([]:List (dF Empty))) 20 57 [.int .i64 lo,.int .i64 hi] [] [] K=K (.fn 91 [] [.ptr 0 0,.ptr 1 0]) [wiB lo,wiB hi] []:=by kernel_rfl
theorem Aq:Sound prog (λ_=>none) 57 qJ:=by
 intro args ids bl ch R ms w0 w K hg hl S hc;unfold qJ at hc;split at hc
 ·rename_i lo hi;cases hq:dE bl.length bl with
  |false=>rw[hq]at hc;exact hc.elim
  |true=>
   rw[hq]at hc;have hv:cI (dw prog (λ_=>none) ([]:List (dF Empty))) 20 57 [.int .i64 lo,.int .i64 hi] [] [] (λv b c=>v=.fn 91 [] [.ptr 0 0,.ptr 1 0]/\b=[wiB lo,wiB hi]/\c=[]):=by rw[af8];exact⟨rfl,rfl,rfl⟩
   refine(bw (ah.nil (P:=prog) (gl:=λ_=>none)).T ah.nil.Q 20 (C:=dw prog (λ_=>none) ([]:List (dF Empty))) (ids:=[]) (bl:=[]) (ch:=[]) (R:=[]) (ms:=[]) (w0:=w) (w:=w) Gl.none rfl (St.nil [] w) hv).mono ?_;rintro x w' ⟨y,more,bl',ch',rfl,h1,S',rfl,rfl,rfl⟩
   match more,h1 with
   |[b1,b2],_=>
    have S2:=S.beside S' (bl:=[⟨b1,true,.cells #[.int .i64 lo] 3 (0,0)⟩,⟨b2,true,.cells #[.int .i64 hi] 3 (0,0)⟩]) (Wr.cons rfl (Wr.cons rfl Wr.nil));refine⟨_,[b1,b2],_,ch,?_,by simp[hl],?_,hc⟩
    ·simp only[den,aq,<-hl];simp[List.getD]
    ·rw[aQ _ _ _ _ hl,aR _ _ (by rw[hl];exact hq),List.append_assoc];refine S2.perm ?_;exact(List.perm_append_comm_assoc [_,_] (lits ids ids bl) (ag ch R))
 ·exact hc.elim
theorem FR:oq prog (λ_=>none) ⟨57,true,qJ⟩:=⟨Aq,λ_ args bl ch K h=>by
 simp only at h⊢;unfold qJ at h⊢;split at h
 ·cases hq:dE bl.length bl with
  |false=>rw[hq]at h;exact h.elim
  |true=>rw[hq]at h;exact⟨h,_,rfl⟩
 ·exact h.elim⟩
def LCk:List (dF Empty):=⟨57,true,qJ⟩::qL Empty [abL]
theorem Pt:ah prog (λ_=>none) LCk:=ah.cons FR (fJ (aW.cons (VF _) aW.nil))
def vcP (n:Nat) (f:FuncId) (args:List V) (X:V->Prop):Prop:=cI (dw prog (λ_=>none) LCk) n f args [] [] λv _ _=>X v
theorem abO (p:Sd.Pol) (ka:Nat->Option Addr) (kn kc:Nat->Nat) (K:V->Prop):vcP 60 25 [.agg (eJ p ka kn kc)] K=(True/\abN p.i kn K):=by kernel_rfl
theorem VG (q:Nat->Int) (kn:Nat->Nat):abN q kn (·=.int .i64 (eb q kn)):=by
 have k4:allI 1 64 [(kn 0:Int),(kn 1:Int),(kn 2:Int),(kn 3:Int)]=(tp kn&&vK (kn 3)):=by simp only[allI,vJ,tp,vK,Bool.and_assoc,Bool.and_true]
 have t5:allI 0 15 [q 14,q 15,q 16,q 17,q 18,q 19,q 20,q 21,q 22,q 23,q 24,q 25,q 26,q 27,q 28,q 29,q 30,q 31,q 32,q 33]=Ps q:=by simp only[allI,Ps,Bool.and_assoc,Bool.and_true]
 unfold abN eb;refine aO (λh=>?_) λh=>?_
 ·have h0:Pr q=false:=(by simpa using h:l_ (q 0) (q 1) (q 2) (q 3) (q 4)=false);rw[if_pos h0]
 have h0:Pr q=true:=(by simpa using h:l_ (q 0) (q 1) (q 2) (q 3) (q 4)=true);clear h;refine j5 (λh1=>?_) λh1=>?_<;>rw[k4]at h1
 ·refine aO (λa=>?_) λa=>aO (λb=>?_) λb=>Ao (λc=>Ao (λd=>Ao (λe=>?_) λe=>?_) λd=>?_) λc=>?_
  ·have a':(q 9==1)=false:=by simpa using a
   simp[h0,h1,a']
  all_goals have a':(q 9==1)=true:=by simpa using a
  ·have b':(q 13==0)=false:=by simpa using b
   simp[h0,h1,a',b']
  all_goals have b':(q 13==0)=true:=by simpa using b
  ·have r:ph q=true:=by simp[ph,c,d,e]
   have h2:(q 9==1&&(q 13==0&&ph q))=true:=by rw[a',b',r];rfl
   refine j5 (λh3=>?_) λh3=>?_<;>rw[t5]at h3
   ·refine j5 (λh4=>Ap (j5 (λh5=>Ap (j5 (λh6=>qI (λh7=>qI (λh8=>Ap (j5 (λh9=>aO (λu=>?_) λu=>j5 (λv=>qI (λx=>qI (λy=>?_) λy=>?_) λx=>?_) λv=>?_) λh9=>?_)) λh8=>?_) λh7=>?_) λh6=>?_)) λh5=>?_)) λh4=>?_
    ·have u':(q 50==0)=false:=by simpa using u
     simp[h0,h1,h2,h3,h4,h5,h6,h7,h8,h9,u']
    iterate 4
     ·have u':(q 50==0)=true:=by simpa using u
      simp[h0,h1,h2,h3, *]
    all_goals simp[h0,h1,h2,h3, *]
   ·simp[h0,h1,h2,h3]
  all_goals simp[h0,h1,a',b',ph, *]
 ·simp[h0,h1]
theorem KY (q:Nat->Int) (ka:Nat->Option Addr) (kn kc:Nat->Nat) (w:World):ak prog 25 #[.agg (FP q ka kn kc)] w λv w1=>v=.int .i64 (eb q kn)/\Ch [] w w1:=by
 have h:vcP 60 25 [.agg (eJ ⟨q,λ_=>(0,λ_=>0)⟩ ka kn kc)] (·=.int .i64 (eb q kn)):=by rw[abO];exact⟨trivial,VG q kn⟩
 refine(bw Pt.T Pt.Q 60 (C:=dw prog (λ_=>none) LCk) (ids:=[]) (bl:=[]) (ch:=[]) (R:=[]) (ms:=[]) (w0:=w) (w:=w) Gl.none rfl (St.nil [] w) h).mono ?_;rintro x w' ⟨y,more,bl',ch',rfl,h1,S,rfl⟩;exact⟨rfl,S.ch⟩
end Go.Proofs.YtlkpikfddnjilaaGreatDoor
namespace Go.Proofs.YtlkpikfddnjilaaGreatDoor
open Go Go.RowKit Go.BigFrame Sx
def f3 {α:Type} (a b c:α):Nat->α:=λj=>match j with|0=>a|1=>b|_=>c
def lW (p:Sd.Pol) (ka:Nat->Option Addr) (kn kc:Nat->Nat) (t:Sd.Tok) (bq:Nat) (D:Nat->Sd.dR) (bt:Nat) (sa be mo:Int) (mb:Sd.Label) (pt:Sd.Point) (hd:Nat->Int):Array Value:=#[.int .i64 (p.i 0),.int .i64 (p.i 1),.int .i64 (p.i 2),.int .i64 (p.i 3),.int .i64 (p.i 4),.slice (ka 0) (kn 0) (kc 0),.slice (ka 1) (kn 1) (kc 1),.slice (ka 2) (kn 2) (kc 2),.slice (ka 3) (kn 3) (kc 3),.int .i64 (p.i 9),.int .i64 (p.i 10),.int .i64 (p.i 11),.int .i64 (p.i 12),.int .i64 (p.i 13),.int .i64 (p.i 14),.int .i64 (p.i 15),.int .i64 (p.i 16),.int .i64 (p.i 17),.int .i64 (p.i 18),.int .i64 (p.i 19),.int .i64 (p.i 20),.int .i64 (p.i 21),.int .i64 (p.i 22),.int .i64 (p.i 23),.int .i64 (p.i 24),.int .i64 (p.i 25),.int .i64 (p.i 26),.int .i64 (p.i 27),.int .i64 (p.i 28),.int .i64 (p.i 29),.int .i64 (p.i 30),.int .i64 (p.i 31),.int .i64 (p.i 32),.int .i64 (p.i 33),.int .i64 (p.i 34),.int .i64 (p.i 35),.int .i64 (p.i 36),.int .i64 (p.i 37),.int .i64 (p.i 38),.int .i64 (p.i 39),.int .i64 (p.i 40),.int .i64 (p.i 41),.int .i64 (p.i 42),.int .i64 (p.i 43),.int .i64 (p.i 44),.int .i64 (p.i 45),.int .i64 (p.i 46),.int .i64 (p.i 47),.int .i64 (p.i 48),.int .i64 (p.i 49),.int .i64 (p.i 50),.int .i64 (p.i 51),.int .i64 (p.i 52),.int .i64 (p.i 53),.int .i64 (p.i 54),.int .i64 (p.i 55),.int .i64 t.holder,.int .i64 t.epoch,.int .i64 t.offer,.int .i64 t.oa.n,.int .i64 t.oa.most,.int .i64 t.la.n,.int .i64 t.la.most,.bool t.bad,.pointer (some ⟨bq,0,none⟩),.int .i64 (D 0).many,.bool (D 0).kz,.int .u8 ((D 0).ab 0),.int .u8 ((D 0).ab 1),.int .u8 ((D 0).ab 2),.int .u8 ((D 0).ab 3),.int .u8 ((D 0).ab 4),.int .u8 ((D 0).ab 5),.int .u8 ((D 0).ab 6),.int .u8 ((D 0).ab 7),.int .i64 (D 1).many,.bool (D 1).kz,.int .u8 ((D 1).ab 0),.int .u8 ((D 1).ab 1),.int .u8 ((D 1).ab 2),.int .u8 ((D 1).ab 3),.int .u8 ((D 1).ab 4),.int .u8 ((D 1).ab 5),.int .u8 ((D 1).ab 6),.int .u8 ((D 1).ab 7),.int .i64 (D 2).many,.bool (D 2).kz,.int .u8 ((D 2).ab 0),.int .u8 ((D 2).ab 1),.int .u8 ((D 2).ab 2),.int .u8 ((D 2).ab 3),.int .u8 ((D 2).ab 4),.int .u8 ((D 2).ab 5),.int .u8 ((D 2).ab 6),.int .u8 ((D 2).ab 7),.pointer (some ⟨bt,0,none⟩),.int .i64 sa,.int .i64 be,.int .i64 mo,.int .i64 mb.l5,.int .i64 mb.source,.int .i64 mb.seq,.int .i64 pt.cls,.int .i64 pt.bZ.a,.int .i64 pt.bZ.b,.int .i64 pt.bZ.c,.int .i64 pt.bZ.d,.int .i64 pt.now.a,.int .i64 pt.now.b,.int .i64 pt.now.c,.int .i64 pt.now.d,.int .i64 pt.eo.l5,.int .i64 pt.eo.source,.int .i64 pt.eo.seq,.int .u8 (hd 0),.int .u8 (hd 1),.int .u8 (hd 2),.int .u8 (hd 3),.int .u8 (hd 4),.int .u8 (hd 5),.int .u8 (hd 6),.int .u8 (hd 7),.int .u8 (hd 8),.int .u8 (hd 9),.int .u8 (hd 10),.int .u8 (hd 11),.int .u8 (hd 12),.int .u8 (hd 13),.int .u8 (hd 14),.int .u8 (hd 15),.int .u8 (hd 16),.int .u8 (hd 17),.int .u8 (hd 18),.int .u8 (hd 19),.int .u8 (hd 20),.int .u8 (hd 21),.int .u8 (hd 22),.int .u8 (hd 23),.int .u8 (hd 24),.int .u8 (hd 25),.int .u8 (hd 26),.int .u8 (hd 27),.int .u8 (hd 28),.int .u8 (hd 29),.int .u8 (hd 30),.int .u8 (hd 31)]
def jd (st:Bool×Sd.Timer) (az:Nat->Sd.br) (b m:Int):Array Value:=#[.bool st.1,.int .i64 st.2.n,.int .i64 st.2.most,.bool (az 0).on,.int .i64 (az 0).aN.n,.int .i64 (az 0).aN.most,.int .i64 (az 0).role,.int .u8 ((az 0).key 0),.int .u8 ((az 0).key 1),.int .u8 ((az 0).key 2),.int .u8 ((az 0).key 3),.int .u8 ((az 0).key 4),.int .u8 ((az 0).key 5),.int .u8 ((az 0).key 6),.int .u8 ((az 0).key 7),.int .u8 ((az 0).key 8),.int .u8 ((az 0).key 9),.int .u8 ((az 0).key 10),.int .u8 ((az 0).key 11),.int .u8 ((az 0).key 12),.int .u8 ((az 0).key 13),.int .u8 ((az 0).key 14),.int .u8 ((az 0).key 15),.int .u8 ((az 0).key 16),.int .u8 ((az 0).key 17),.int .u8 ((az 0).key 18),.int .u8 ((az 0).key 19),.int .u8 ((az 0).key 20),.int .u8 ((az 0).key 21),.int .u8 ((az 0).key 22),.int .u8 ((az 0).key 23),.int .u8 ((az 0).key 24),.int .u8 ((az 0).key 25),.int .u8 ((az 0).key 26),.int .u8 ((az 0).key 27),.int .u8 ((az 0).key 28),.int .u8 ((az 0).key 29),.int .u8 ((az 0).key 30),.int .u8 ((az 0).key 31),.bool (az 0).seen.any,.int .i64 (az 0).seen.high,.int .u64 (az 0).seen.seen,.bool (az 1).on,.int .i64 (az 1).aN.n,.int .i64 (az 1).aN.most,.int .i64 (az 1).role,.int .u8 ((az 1).key 0),.int .u8 ((az 1).key 1),.int .u8 ((az 1).key 2),.int .u8 ((az 1).key 3),.int .u8 ((az 1).key 4),.int .u8 ((az 1).key 5),.int .u8 ((az 1).key 6),.int .u8 ((az 1).key 7),.int .u8 ((az 1).key 8),.int .u8 ((az 1).key 9),.int .u8 ((az 1).key 10),.int .u8 ((az 1).key 11),.int .u8 ((az 1).key 12),.int .u8 ((az 1).key 13),.int .u8 ((az 1).key 14),.int .u8 ((az 1).key 15),.int .u8 ((az 1).key 16),.int .u8 ((az 1).key 17),.int .u8 ((az 1).key 18),.int .u8 ((az 1).key 19),.int .u8 ((az 1).key 20),.int .u8 ((az 1).key 21),.int .u8 ((az 1).key 22),.int .u8 ((az 1).key 23),.int .u8 ((az 1).key 24),.int .u8 ((az 1).key 25),.int .u8 ((az 1).key 26),.int .u8 ((az 1).key 27),.int .u8 ((az 1).key 28),.int .u8 ((az 1).key 29),.int .u8 ((az 1).key 30),.int .u8 ((az 1).key 31),.bool (az 1).seen.any,.int .i64 (az 1).seen.high,.int .u64 (az 1).seen.seen,.bool (az 2).on,.int .i64 (az 2).aN.n,.int .i64 (az 2).aN.most,.int .i64 (az 2).role,.int .u8 ((az 2).key 0),.int .u8 ((az 2).key 1),.int .u8 ((az 2).key 2),.int .u8 ((az 2).key 3),.int .u8 ((az 2).key 4),.int .u8 ((az 2).key 5),.int .u8 ((az 2).key 6),.int .u8 ((az 2).key 7),.int .u8 ((az 2).key 8),.int .u8 ((az 2).key 9),.int .u8 ((az 2).key 10),.int .u8 ((az 2).key 11),.int .u8 ((az 2).key 12),.int .u8 ((az 2).key 13),.int .u8 ((az 2).key 14),.int .u8 ((az 2).key 15),.int .u8 ((az 2).key 16),.int .u8 ((az 2).key 17),.int .u8 ((az 2).key 18),.int .u8 ((az 2).key 19),.int .u8 ((az 2).key 20),.int .u8 ((az 2).key 21),.int .u8 ((az 2).key 22),.int .u8 ((az 2).key 23),.int .u8 ((az 2).key 24),.int .u8 ((az 2).key 25),.int .u8 ((az 2).key 26),.int .u8 ((az 2).key 27),.int .u8 ((az 2).key 28),.int .u8 ((az 2).key 29),.int .u8 ((az 2).key 30),.int .u8 ((az 2).key 31),.bool (az 2).seen.any,.int .i64 (az 2).seen.high,.int .u64 (az 2).seen.seen,.int .i64 b,.int .i64 m]
theorem VH (p:Sd.Pol) (ka:Nat->Option Addr) (kn kc:Nat->Nat) (w:World):ak prog 25 #[.agg (kq p ka kn kc)] w λv w1=>v=.int .i64 (eb p.i kn)/\Ch [] w w1:=KY p.i ka kn kc w
theorem Pu {q:Nat->Int} {kn:Nat->Nat} (h:eb q kn=0):1<=q 48/\q 48<=3:=by
 have:allI 1 3 [q 48,q 49]=true:=by
  cases e:allI 1 3 [q 48,q 49]with
  |true=>rfl
  |false=>
   exfalso;unfold eb at h
   repeat' split at h
   all_goals first|omega|(rename_i h48;simp[e]at h48)
 simp only[allI,vJ,Bool.and_eq_true,decide_eq_true_eq]at this;exact this.1
theorem af9 (w:World):
 ak prog 30 #[] w λv w1=>v=.agg #[.int .i64 2,.int .i64 4,.int .i64 0]/\Ch [] w w1:=by
 have S0:=St.nil [] w;refine ct Tryz.func30 rfl ?_;refine ao (aw ?_);refine cq S0 (λb=>.pointer (some ⟨b,0,none⟩)) (.cells #[.int .i64 0,.int .i64 0,.int .i64 0] 38) ?_;intro bQ lU fm;refine au (ae (ao (aw ?_)));refine aa (.agg #[.int .i64 2,.int .i64 4,.int .i64 0]) ?_;refine store_ fm 0 (.agg #[.int .i64 2,.int .i64 4,.int .i64 0]) bQ 0 ?_;intro zw4 zS5;refine au (ae (wp_ret ?_));refine eD rfl (ei [.cell 0 38] [.agg #[.int .i64 2,.int .i64 4,.int .i64 0]] (.agg #[.int .i64 2,.int .i64 4,.int .i64 0]) ⟨bh zS5 0 3 bQ 0,trivial⟩) ?_;exact⟨rfl,zS5.ch⟩
theorem abP (w:World):
 ak prog 19 #[.slice none 0 0] w λv w1=>v=.agg (ai .u8 32 (λ_=>0))/\Ch [] w w1:=by
 have S0:=St.nil [] w;refine ct Tryz.func19 rfl ?_;refine ao (aw ?_);refine cq S0 (λb=>.pointer (some ⟨b,0,none⟩)) (.cells (ai .u8 32 (λ_=>0)) 50) ?_;intro bQ lU fm;refine au (ae (ao (aw ?_)));refine cq fm (λb=>.pointer (some ⟨b,0,none⟩)) (.cells (ai .u8 32 (λ_=>0)) 50) ?_;intro fF uc eI;refine au (ae (ao (ao (aw ?_))));refine aa (.slice none 0 0) ?_;refine aa (.int .i64 0) ?_;refine aa (.int .i64 0) ?_;refine au (ae (wp_block (Bx 24 (ao (aw ?_)))));refine aa (.bool false) ?_;refine au (ae (ao (gv ?_)));refine wp_exit (fa (fa (pM (ae (ao (aw ?_))))));refine c_ eI 0 32 (ai .u8 32 (λ_=>0)) fF 0 ?_;refine store_ eI 1 (.agg (ai .u8 32 (λ_=>0))) bQ 0 ?_;intro YL Tp;refine au (ae (wp_ret ?_));refine eD rfl (ei [.cell 2 50] [.agg (ai .u8 32 (λ_=>0))] (.agg (ai .u8 32 (λ_=>0))) ⟨bh Tp 1 32 bQ 0,trivial⟩) ?_;exact⟨rfl,Tp.ch⟩
def mP:List Sd.Rec->List Value
 |[]=>[]
 |r::l=>(recC r).toList++mP l
theorem KZ (l:List Sd.Rec) (r:Sd.Rec):mP l++(recC r).toList=mP (l++[r]):=by
 induction l with
 |nil=>simp[mP]
 |cons a l ih=>simp[mP,ih]
theorem VI (p:Sd.Pol) (ka:Nat->Option Addr) (kn kc:Nat->Nat) (t:Sd.Tok) (bq:Nat) (D:Nat->Sd.dR) (bt:Nat) (sa be mo:Int) (mb:Sd.Label) (pt:Sd.Point) (hd:Nat->Int) (xs:Option Addr) (ns cs:Nat) (iB bc:Nat) (x:Option Addr) (n c:Nat) (bl:List ax) (rl:List Sd.Rec) (kd so sq co ho:Int) {tG:TypeId} (w:World) {ms:List Nat} {w0:World} {bs:List ax} (S0:St ms w0 ([⟨(0),false,.cells (ai .u32 64 aT) tG (0,0)⟩,⟨iB,true,.cells #[.pointer (some ⟨bc,0,none⟩),.slice xs ns cs,.slice x n c] 108 (0,0)⟩,⟨bc,true,.cells (lW p ka kn kc t bq D bt sa be mo mb pt hd) 97 (0,0)⟩]++(bl++bs)) w) (hR:eH 6 65 (mP rl) x n c bl) (hn:n<=1000):
 ak prog 64 #[.pointer (some ⟨iB,0,none⟩),.int .i64 kd,.int .i64 so,.int .i64 sq,.int .i64 co,.int .i64 ho] w λv w1=>∃x1 c1 xf,v=.tuple #[]/\eH 6 65 (mP (rl++[⟨kd,so,sq,t.epoch,co,ho⟩])) x1 (n+1) c1 xf/\St ms w0 ([⟨(0),false,.cells (ai .u32 64 aT) tG (0,0)⟩,⟨iB,true,.cells #[.pointer (some ⟨bc,0,none⟩),.slice xs ns cs,.slice x1 (n+1) c1] 108 (0,0)⟩,⟨bc,true,.cells (lW p ka kn kc t bq D bt sa be mo mb pt (qy hd (⟨kd,so,sq,t.epoch,co,ho⟩:Sd.Rec))) 97 (0,0)⟩]++(xf++bs)) w1:=by
 refine ct Tryz.func64 rfl ?_;refine ao (aw ?_);refine aa (.int .i64 kd) ?_;refine aa (.int .i64 so) ?_;refine aa (.int .i64 sq) ?_;refine bJ ?_;refine aa (.pointer (some ⟨iB,0,none⟩)) ?_;refine aa (.pointer (some ⟨iB,0,none⟩)) ?_;refine eh S0 1 (.pointer (some ⟨bc,0,none⟩)) iB 0 ?_;refine aa (.pointer (some ⟨bc,0,none⟩)) ?_;refine aa (.pointer (some ⟨bc,56,none⟩)) ?_;refine aa (.pointer (some ⟨bc,57,none⟩)) ?_;refine eh S0 2 (.int .i64 t.epoch) bc 57 ?_;refine aa (.int .i64 co) ?_;refine aa (.int .i64 ho) ?_;refine aa (.agg #[.int .i64 kd,.int .i64 so,.int .i64 sq,.int .i64 t.epoch,.int .i64 co,.int .i64 ho]) ?_;refine cq S0 (λb=>.pointer (some ⟨b,0,none⟩)) (.cells #[.int .i64 0,.int .i64 0,.int .i64 0,.int .i64 0,.int .i64 0,.int .i64 0] 65) ?_;intro bQ lU fm;refine store_ fm 0 (.agg #[.int .i64 kd,.int .i64 so,.int .i64 sq,.int .i64 t.epoch,.int .i64 co,.int .i64 ho]) bQ 0 ?_;intro zw4 zS5;refine au (ae (ao ?_));have eI:St ms w0 ([⟨bQ,true,.cells #[.int .i64 kd,.int .i64 so,.int .i64 sq,.int .i64 t.epoch,.int .i64 co,.int .i64 ho] 65 (0,0)⟩,⟨(0),false,.cells (ai .u32 64 aT) tG (0,0)⟩,⟨iB,true,.cells #[.pointer (some ⟨bc,0,none⟩),.slice xs ns cs,.slice x n c] 108 (0,0)⟩,⟨bc,true,.cells (lW p ka kn kc t bq D bt sa be mo mb pt hd) 97 (0,0)⟩]++(bl++bs)) zw4:=zS5.re (R:=bs) [[⟨bQ,true,.cells #[.int .i64 kd,.int .i64 so,.int .i64 sq,.int .i64 t.epoch,.int .i64 co,.int .i64 ho] 65 (0,0)⟩],[⟨(0),false,.cells (ai .u32 64 aT) tG (0,0)⟩],[⟨iB,true,.cells #[.pointer (some ⟨bc,0,none⟩),.slice xs ns cs,.slice x n c] 108 (0,0)⟩],[⟨bc,true,.cells (lW p ka kn kc t bq D bt sa be mo mb pt hd) 97 (0,0)⟩],bl] [0,1,2,3,4];have zD7:∀w',Ch ((bl).map ax.id) zw4 w'->St ms w0 ([⟨bQ,true,.cells #[.int .i64 kd,.int .i64 so,.int .i64 sq,.int .i64 t.epoch,.int .i64 co,.int .i64 ho] 65 (0,0)⟩,⟨(0),false,.cells (ai .u32 64 aT) tG (0,0)⟩,⟨iB,true,.cells #[.pointer (some ⟨bc,0,none⟩),.slice xs ns cs,.slice x n c] 108 (0,0)⟩,⟨bc,true,.cells (lW p ka kn kc t bq D bt sa be mo mb pt hd) 97 (0,0)⟩]++bs) w':=λ_ hc=>eI.less (eH.wr hR) hc;refine aei (T':=65) eI hR 8 7 6 1 [.int .i64 kd,.int .i64 so,.int .i64 sq,.int .i64 t.epoch,.int .i64 co,.int .i64 ho] [] [.pointer (some ⟨iB,0,none⟩),.pointer (some ⟨iB,0,none⟩),.pointer (some ⟨iB,0,none⟩),.pointer (some ⟨iB,2,none⟩),.slice x n c,.agg #[.int .i64 kd,.int .i64 so,.int .i64 sq,.int .i64 t.epoch,.int .i64 co,.int .i64 ho],undef,undef] [[8,0],[8,1],[8,2],[8,3],[8,4],[8,5],[8,6],[8,7],[9,0],[9,1],[9,2],[9,3],[9,4],[9,5],[9,6],[9,7],[9,8],[10,0],[10,1],[10,2],[10,3],[10,4],[10,5],[10,6],[10,7],[10,9,8],[10,9]] (aJ Mr (aJ Mr (aJ Mr (aJ Mr (aJ (eL_ zD7 2 iB 2) (aJ (eN_ zD7 0 bQ 0 6 #[.int .i64 kd,.int .i64 so,.int .i64 sq,.int .i64 t.epoch,.int .i64 co,.int .i64 ho]) (aJ (eB_ 1 [.int .i64 kd,.int .i64 so,.int .i64 sq,.int .i64 t.epoch,.int .i64 co,.int .i64 ho] 65) (aJ (eA_ eI hR 31 33 6 1 [.int .i64 kd,.int .i64 so,.int .i64 sq,.int .i64 t.epoch,.int .i64 co,.int .i64 ho] 48 (by omega) (by unfold maxLen;omega) (e':=65)) (nh))))))))) ?_;intro zx8 zc9 af_ ak_ aaI nU ja;refine aa (.pointer (some ⟨iB,0,none⟩)) ?_;refine aa (.pointer (some ⟨iB,2,none⟩)) ?_;refine store_ ja 2 (.slice zx8 (n+1) zc9) iB 2 ?_;intro zH mK;refine au (ae ?_);refine gY 13 [⟨0,λ_=>.pointer (some ⟨iB,0,none⟩),λ_=>[]⟩,⟨0,λ_=>.pointer (some ⟨iB,0,none⟩),λ_=>[]⟩,⟨0,λ_=>.pointer (some ⟨iB,0,none⟩),λ_=>[]⟩,⟨0,λ_=>.pointer (some ⟨bc,0,none⟩),λ_=>[]⟩,⟨0,λ_=>.pointer (some ⟨iB,0,none⟩),λ_=>[]⟩,⟨0,λ_=>.pointer (some ⟨iB,0,none⟩),λ_=>[]⟩,⟨0,λ_=>.pointer (some ⟨iB,0,none⟩),λ_=>[]⟩,⟨0,λ_=>.pointer (some ⟨bc,0,none⟩),λ_=>[]⟩,⟨0,λ_=>.pointer (some ⟨bc,0,none⟩),λ_=>[]⟩,⟨0,λ_=>.pointer (some ⟨bc,114,none⟩),λ_=>[]⟩,⟨0,λ_=>.agg (ai .u8 32 hd),λ_=>[]⟩,⟨0,λ_=>.agg #[.int .i64 kd,.int .i64 so,.int .i64 sq,.int .i64 t.epoch,.int .i64 co,.int .i64 ho],λ_=>[]⟩,⟨0,λ_=>.agg (ai .u8 32 (qy hd (⟨kd,so,sq,t.epoch,co,ho⟩:Sd.Rec))),λ_=>[]⟩] [[13,0],[13,1],[13,2],[13,3],[13,4],[13,5],[13,6],[13,7],[13,8],[13,9],[13,10],[13,11],[13,12],[14,0],[14,1],[14,2],[14,3],[14,4],[14,5],[14,6],[14,7],[14,8],[14,9],[14,10],[14,11],[14,12],[14,13],[15,0],[15,1],[15,2],[15,3],[15,4],[15,5],[15,6],[15,7],[15,8],[15,9],[15,10],[15,11],[15,12],[15,14,13],[15,14]] ?_ ?_
 ·refine step_cons iA ?_;refine step_cons iA ?_;refine step_cons iA ?_;refine step_cons (qL_ mK 2 iB 0) ?_;refine step_cons iA ?_;refine step_cons iA ?_;refine step_cons iA ?_;refine step_cons (qL_ mK 2 iB 0) ?_;refine step_cons iA ?_;refine step_cons iA ?_;refine step_cons (TM mK 3 bc 114 32 (ai .u8 32 hd)) ?_;refine step_cons (TM mK 0 bQ 0 6 #[.int .i64 kd,.int .i64 so,.int .i64 sq,.int .i64 t.epoch,.int .i64 co,.int .i64 ho]) ?_;refine step_cons ?_ ?_
  ·intro aga zI OR akH Y5;have zJ:aga 47=.agg (ai .u8 32 hd):=(Sp.bg (Y5 10 47 (by kernel_rfl) (by kernel_rfl))).1;have tN:aga 48=.agg #[.int .i64 kd,.int .i64 so,.int .i64 sq,.int .i64 t.epoch,.int .i64 co,.int .i64 ho]:=(Sp.bg (Y5 11 48 (by kernel_rfl) (by kernel_rfl))).1;have zQ:=mK.quiet OR;refine jV ?_;refine kE [(47,.agg (ai .u8 32 hd)),(48,.agg #[.int .i64 kd,.int .i64 so,.int .i64 sq,.int .i64 t.epoch,.int .i64 co,.int .i64 ho])] (cu zJ (cu tN (fL))) ?_;have lA:=zQ.loc;refine Y.cd 42 #[.agg (ai .u8 32 hd),.agg #[.int .i64 kd,.int .i64 so,.int .i64 sq,.int .i64 t.epoch,.int .i64 co,.int .i64 ho]] ?_;refine(afR hd (⟨kd,so,sq,t.epoch,co,ho⟩:Sd.Rec) _ (lA.at_ 1 _ rfl)).mono ?_;rintro _ UJ ⟨rfl,iJ⟩;have N6:=lA.quiet iJ;exact⟨N6.ch,Sp.da [] (all_nil)⟩
  exact ez
 intro sD UK H4 kO;have Cs:sD 0=.pointer (some ⟨iB,0,none⟩):=(Sp.bg (kO 0 (by kernel_rfl))).1;have jz:sD 1=.pointer (some ⟨iB,0,none⟩):=(Sp.bg (kO 1 (by kernel_rfl))).1;have n7:sD 2=.pointer (some ⟨iB,0,none⟩):=(Sp.bg (kO 2 (by kernel_rfl))).1;have qq:sD 3=.pointer (some ⟨bc,0,none⟩):=(Sp.bg (kO 3 (by kernel_rfl))).1;have vu:sD 4=.pointer (some ⟨iB,0,none⟩):=(Sp.bg (kO 4 (by kernel_rfl))).1;have qo:sD 5=.pointer (some ⟨iB,0,none⟩):=(Sp.bg (kO 5 (by kernel_rfl))).1;have r_:sD 6=.pointer (some ⟨iB,0,none⟩):=(Sp.bg (kO 6 (by kernel_rfl))).1;have qx:sD 7=.pointer (some ⟨bc,0,none⟩):=(Sp.bg (kO 7 (by kernel_rfl))).1;have sf:sD 8=.pointer (some ⟨bc,0,none⟩):=(Sp.bg (kO 8 (by kernel_rfl))).1;have Om:sD 9=.pointer (some ⟨bc,114,none⟩):=(Sp.bg (kO 9 (by kernel_rfl))).1;have zL:sD 10=.agg (ai .u8 32 hd):=(Sp.bg (kO 10 (by kernel_rfl))).1;have O1:sD 11=.agg #[.int .i64 kd,.int .i64 so,.int .i64 sq,.int .i64 t.epoch,.int .i64 co,.int .i64 ho]:=(Sp.bg (kO 11 (by kernel_rfl))).1;have abC:sD 12=.agg (ai .u8 32 (qy hd (⟨kd,so,sq,t.epoch,co,ho⟩:Sd.Rec))):=(Sp.bg (kO 12 (by kernel_rfl))).1;have Cu:=mK.quiet H4;refine⟨[.pointer (some ⟨iB,0,none⟩),.pointer (some ⟨iB,0,none⟩),.pointer (some ⟨iB,0,none⟩),.pointer (some ⟨bc,0,none⟩),.pointer (some ⟨iB,0,none⟩),.pointer (some ⟨iB,0,none⟩),.pointer (some ⟨iB,0,none⟩),.pointer (some ⟨bc,0,none⟩),.pointer (some ⟨bc,0,none⟩),.pointer (some ⟨bc,114,none⟩),.agg (ai .u8 32 hd),.agg #[.int .i64 kd,.int .i64 so,.int .i64 sq,.int .i64 t.epoch,.int .i64 co,.int .i64 ho],.agg (ai .u8 32 (qy hd (⟨kd,so,sq,t.epoch,co,ho⟩:Sd.Rec)))],by kernel_rfl,av Cs (av jz (av n7 (av qq (av vu (av qo (av r_ (av qx (av sf (av Om (av zL (av O1 (av abC (k9))))))))))))),?_⟩;refine aa (.pointer (some ⟨bc,0,none⟩)) ?_;refine aa (.pointer (some ⟨bc,114,none⟩)) ?_;refine store_ Cu 3 (.agg (ai .u8 32 (qy hd (⟨kd,so,sq,t.epoch,co,ho⟩:Sd.Rec)))) bc 114 ?_;intro afT Vo;refine au ?_;refine end_ rfl (ei [] [] (.tuple #[]) trivial) ?_;exact⟨zx8,zc9,af_,rfl,KZ rl _▸nU,Vo.re (R:=bs) [[⟨bQ,true,.cells #[.int .i64 kd,.int .i64 so,.int .i64 sq,.int .i64 t.epoch,.int .i64 co,.int .i64 ho] 65 (0,0)⟩],[⟨(0),false,.cells (ai .u32 64 aT) tG (0,0)⟩],[⟨iB,true,.cells #[.pointer (some ⟨bc,0,none⟩),.slice xs ns cs,.slice zx8 (n+1) zc9] 108 (0,0)⟩],[⟨bc,true,.cells (lW p ka kn kc t bq D bt sa be mo mb pt (qy hd (⟨kd,so,sq,t.epoch,co,ho⟩:Sd.Rec))) 97 (0,0)⟩],af_] [1,2,3,4]⟩
end Go.Proofs.YtlkpikfddnjilaaGreatDoor
