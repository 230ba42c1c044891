/- Part 3 of the proof. -/
import Derived.Test.YtddcipamdggcnaaGreatDoorRows
import Derived.Test.YtddcipamdggcnaaGreatDoorProg
import Derived.Test.YtddcipamdggcnaaGreatDoorM2
set_option linter.all false
set_option maxRecDepth 100000
set_option maxHeartbeats 4000000
noncomputable section
open Go.Proofs.Tryz
open Go.IntKind (u8 u16 u32 u64 i64)
open Array renaming toList_append->Gt,ext'->fD
open Bool renaming true->af,false->ag,and_eq_true->bD,not_eq_true'->n7
open Go renaming Program->aG,Addr->aI,TypeId->aM,Value->ai,World->aj,Oper->aw,Operand->bg,Exit->dE,FuncId->fl,wp_ret->gC,wp_block->kx
open Go.Value renaming int->fI
open Int renaming lt_asymm->KI,ofNat->dG
open List renaming any_eq_true->A9,getElem?_drop->Gu,length_nil->Kz,getElem?_take->PQ,take_zero->PS,take_length->PT,length_singleton->YD,append_assoc->bW,range->bo,mem_cons->cF,append_nil->cT,countP_append->dZ,length_append->fL,nil_append->fQ,cons_append->fm,map_cons->gb,getD->gd,take_append_drop->jH,getElem?_map->jW,getElem?_eq_getElem->jY,mem_singleton->jZ,length_cons->jf,getElem?_eq_none->ju,sublist_append_right->kG,perm_middle->kH,eq_nil_of_length_eq_zero->lz,Perm->mE,map_congr_left->ni,getElem?_range->pQ,perm_append_comm_assoc->qR,not_mem_nil->qS,map_append->tX,getElem?_append_right->vg,singleton_append->wJ,length_take->zr,ext_getElem?->zv
open List.Perm renaming swap->Bb,append_right->Bc,append_left->j4,cons->vh,trans->wK
open List.Sublist renaming append_right->YF,append_left->mD,cons_cons->wL
open List.cons renaming inj->wI
open Nat renaming beq->aA,lt_or_ge->c9,le_refl->cY,eq_of_beq_eq_true->ck,blt->db,blt_eq->jt,add_zero->lA,add_mul->n9,eq_zero_or_pos->tU,beq_refl->tW,add_assoc->tY
open Option renaming some->aa,none->ae
open Option.some renaming injEq->aW,inj->cG
open Prod.mk renaming injEq->bC
namespace Go.Proofs.YtddcipamdggcnaaGreatDoor
section
open Go Go.RowKit Go.BigFrame Sx Vx
def T8 (t:Sd.Timer):List V:=[.int .i64 t.n,.int .i64 t.most]
def MX:List V->Option Sd.Timer
 |[.int .i64 x0,.int .i64 x1]=>aa ⟨x0,x1⟩
 |_=>ae
def acz {l:List V} {t:Sd.Timer} (h:MX l=aa t):l=T8 t:=by
 unfold MX at h;split at h
 ·obtain rfl:=cG h;rfl
 ·cases h
def x4L (t:Sd.X4):List V:=[.int .i64 t.a,.int .i64 t.b,.int .i64 t.c,.int .i64 t.d]
def MY:List V->Option Sd.X4
 |[.int .i64 x0,.int .i64 x1,.int .i64 x2,.int .i64 x3]=>aa ⟨x0,x1,x2,x3⟩
 |_=>ae
def acA {l:List V} {t:Sd.X4} (h:MY l=aa t):l=x4L t:=by
 unfold MY at h;split at h
 ·obtain rfl:=cG h;rfl
 ·cases h
def nN (t:Sd.Label):List V:=[.int .i64 t.mQ,.int .i64 t.source,.int .i64 t.seq]
def Ir:List V->Option Sd.Label
 |[.int .i64 x0,.int .i64 x1,.int .i64 x2]=>aa ⟨x0,x1,x2⟩
 |_=>ae
def T9 {l:List V} {t:Sd.Label} (h:Ir l=aa t):l=nN t:=by
 unfold Ir at h;split at h
 ·obtain rfl:=cG h;rfl
 ·cases h
def dm (t:Sd.Tok):List V:=[.int .i64 t.aF,.int .i64 t.an,.int .i64 t.offer,.int .i64 t.oa.n,.int .i64 t.oa.most,.int .i64 t.la.n,.int .i64 t.la.most,.bool t.bad]
def lj:List V->Option Sd.Tok
 |[.int .i64 x0,.int .i64 x1,.int .i64 x2,.int .i64 x3,.int .i64 x4,.int .i64 x5,.int .i64 x6,.bool x7]=>aa ⟨x0,x1,x2,⟨x3,x4⟩,⟨x5,x6⟩,x7⟩
 |_=>ae
def pz {l:List V} {t:Sd.Tok} (h:lj l=aa t):l=dm t:=by
 unfold lj at h;split at h
 ·obtain rfl:=cG h;rfl
 ·cases h
def yq (t:Sd.fj):List V:=[.int .i64 t.cls,.int .i64 t.bh.a,.int .i64 t.bh.b,.int .i64 t.bh.c,.int .i64 t.bh.d,.int .i64 t.now.a,.int .i64 t.now.b,.int .i64 t.now.c,.int .i64 t.now.d,.int .i64 t.cd.mQ,.int .i64 t.cd.source,.int .i64 t.cd.seq]
def Is:List V->Option Sd.fj
 |[.int .i64 x0,.int .i64 x1,.int .i64 x2,.int .i64 x3,.int .i64 x4,.int .i64 x5,.int .i64 x6,.int .i64 x7,.int .i64 x8,.int .i64 x9,.int .i64 T_,.int .i64 Ua]=>aa ⟨x0,⟨x1,x2,x3,x4⟩,⟨x5,x6,x7,x8⟩,⟨x9,T_,Ua⟩⟩
 |_=>ae
def Ub {l:List V} {t:Sd.fj} (h:Is l=aa t):l=yq t:=by
 unfold Is at h;split at h
 ·obtain rfl:=cG h;rfl
 ·cases h
def dg (t:Sd.bQ):List V:=[.int .i64 t.kind,.int .i64 t.seq,.int .i64 t.role,.int .i64 t.bh,.int .i64 t.an,.int .i64 t.mode,.int .i64 t.cls,.bool t.now,.int .i64 t.x.a,.int .i64 t.x.b,.int .i64 t.x.c,.int .i64 t.x.d]
def E2:List V->Option Sd.bQ
 |[.int .i64 x0,.int .i64 x1,.int .i64 x2,.int .i64 x3,.int .i64 x4,.int .i64 x5,.int .i64 x6,.bool x7,.int .i64 x8,.int .i64 x9,.int .i64 T_,.int .i64 Ua]=>aa ⟨x0,x1,x2,x3,x4,x5,x6,x7,⟨x8,x9,T_,Ua⟩⟩
 |_=>ae
def MZ {l:List V} {t:Sd.bQ} (h:E2 l=aa t):l=dg t:=by
 unfold E2 at h;split at h
 ·obtain rfl:=cG h;rfl
 ·cases h
def ql (t:Sd.ft):List V:=[.bool t.valid,.int .i64 t.x.a,.int .i64 t.x.b,.int .i64 t.x.c,.int .i64 t.x.d,.bool t.pW]
def E3:List V->Option Sd.ft
 |[.bool x0,.int .i64 x1,.int .i64 x2,.int .i64 x3,.int .i64 x4,.bool x5]=>aa ⟨x0,⟨x1,x2,x3,x4⟩,x5⟩
 |_=>ae
def M0 {l:List V} {t:Sd.ft} (h:E3 l=aa t):l=ql t:=by
 unfold E3 at h;split at h
 ·obtain rfl:=cG h;rfl
 ·cases h
def acB (t:Sd.jh):List V:=[.bool t.any,.int .i64 t.high,.int .u64 t.seen]
def Uc:List V->Option Sd.jh
 |[.bool x0,.int .i64 x1,.int .u64 x2]=>aa ⟨x0,x1,x2⟩
 |_=>ae
def amW {l:List V} {t:Sd.jh} (h:Uc l=aa t):l=acB t:=by
 unfold Uc at h;split at h
 ·obtain rfl:=cG h;rfl
 ·cases h
def Iu (t:Sd.Ask):List V:=[.int .i64 t.source,.int .i64 t.bU,.int .i64 t.dy.n,.int .i64 t.dy.most]
def M1:List V->Option Sd.Ask
 |[.int .i64 x0,.int .i64 x1,.int .i64 x2,.int .i64 x3]=>aa ⟨x0,x1,⟨x2,x3⟩⟩
 |_=>ae
def amX {l:List V} {t:Sd.Ask} (h:M1 l=aa t):l=Iu t:=by
 unfold M1 at h;split at h
 ·obtain rfl:=cG h;rfl
 ·cases h
def Ud:QF:=⟨95,λargs _=>match args with
 |[.int .i64 n,.int .i64 m]=>aa ((-9223372036854775808<=n/\n<=9223372036854775807)/\(-9223372036854775808<=m/\m<=9223372036854775807),.int .i64 (Sd.sat n m))
 |_=>ae⟩
def amY (gl:Nat->Option Nat):Ud.Ok prog gl:=by
 intro args bl p_ v_ h hp ids w _ _;unfold Ud at h;dsimp only at h;split at h
 ·rename_i n m;simp only[aW,bC]at h;obtain⟨rfl,rfl⟩:=h;obtain⟨h_n,H4⟩:=hp;exact told (akT n m h_n H4 w)
 ·cases h
def Ue:QF:=⟨184,λargs _=>match args with
 |[.int .i64 n,.int .i64 lo,.int .i64 hi]=>aa (True,.int .i64 (Sd.vA n lo hi))
 |_=>ae⟩
def amZ (gl:Nat->Option Nat):Ue.Ok prog gl:=by
 intro args bl p_ v_ h hp ids w _ _;unfold Ue at h;dsimp only at h;split at h
 ·rename_i n lo hi;simp only[aW,bC]at h;obtain⟨rfl,rfl⟩:=h;exact told (abO n lo hi w)
 ·cases h
def Uf:QF:=⟨154,λargs _=>match args with
 |[.int .i64 nw,.int .i64 t,.int .i64 b]=>aa ((-9223372036854775808<=nw/\nw<=9223372036854775807)/\(-9223372036854775808<=t/\t<=9223372036854775807)/\(-9223372036854775808<=b/\b<=9223372036854775807),.int .i64 (Sd.sU nw t b))
 |_=>ae⟩
def am0 (gl:Nat->Option Nat):Uf.Ok prog gl:=by
 intro args bl p_ v_ h hp ids w _ _;unfold Uf at h;dsimp only at h;split at h
 ·rename_i nw t b;simp only[aW,bC]at h;obtain⟨rfl,rfl⟩:=h;obtain⟨abR,h_t,h_b⟩:=hp;exact told (abQ nw t b abR h_t h_b w)
 ·cases h
def Ug:QF:=⟨163,λargs _=>match args with
 |[.int .i64 s,.int .i64 i]=>aa (True,.bool (Sd.has s i))
 |_=>ae⟩
def am1 (gl:Nat->Option Nat):Ug.Ok prog gl:=by
 intro args bl p_ v_ h hp ids w _ _;unfold Ug at h;dsimp only at h;split at h
 ·rename_i s i;simp only[aW,bC]at h;obtain⟨rfl,rfl⟩:=h;exact told (abS s i w)
 ·cases h
def Uh:QF:=⟨174,λargs _=>match args with
 |[.int .i64 m]=>aa ((-9223372036854775808<=m/\m<=9223372036854775807),.agg (T8 (Sd.Timer.start m)))
 |_=>ae⟩
def am2 (gl:Nat->Option Nat):Uh.Ok prog gl:=by
 intro args bl p_ v_ h hp ids w _ _;unfold Uh at h;dsimp only at h;split at h
 ·rename_i m;simp only[aW,bC]at h;obtain⟨rfl,rfl⟩:=h;have H4:=hp;exact told (akZ m H4 w)
 ·cases h
def Ui:QF:=⟨150,λargs _=>match args with
 |[.agg hY]=>(match MX hY with|some t=>aa ((-9223372036854775808<=t.n/\t.n<=9223372036854775807)/\(-9223372036854775808<=t.most/\t.most<=9223372036854775807),.agg (T8 (Sd.Timer.step t)))|none=>ae)
 |_=>ae⟩
def am3 (gl:Nat->Option Nat):Ui.Ok prog gl:=by
 intro args bl p_ v_ h hp ids w _ _;unfold Ui at h;dsimp only at h;split at h
 ·rename_i hY;split at h
  ·rename_i t ll;simp only[aW,bC]at h;obtain⟨rfl,rfl⟩:=h;obtain rfl:=acz ll;obtain⟨abV,abW⟩:=hp;exact told (abU t abV abW w)
  ·cases h
 ·cases h
def Uj:QF:=⟨151,λargs _=>match args with
 |[.agg hY]=>(match MX hY with|some t=>aa (True,.bool (Sd.Timer.due t))|none=>ae)
 |_=>ae⟩
def am4 (gl:Nat->Option Nat):Uj.Ok prog gl:=by
 intro args bl p_ v_ h hp ids w _ _;unfold Uj at h;dsimp only at h;split at h
 ·rename_i hY;split at h
  ·rename_i t ll;simp only[aW,bC]at h;obtain⟨rfl,rfl⟩:=h;obtain rfl:=acz ll;exact told (abX t w)
  ·cases h
 ·cases h
def Uk:QF:=⟨142,λargs _=>match args with
 |[.agg hY,.int .i64 o]=>(match lj hY with|some t=>aa ((-9223372036854775808<=t.an/\t.an<=9223372036854775807),.ay [.agg (dm ((Sd.Tok.dF t o).1)),.int .i64 ((Sd.Tok.dF t o).2)])|none=>ae)
 |_=>ae⟩
def am5 (gl:Nat->Option Nat):Uk.Ok prog gl:=by
 intro args bl p_ v_ h hp ids w _ _;unfold Uk at h;dsimp only at h;split at h
 ·rename_i hY o;split at h
  ·rename_i t ll;simp only[aW,bC]at h;obtain⟨rfl,rfl⟩:=h;obtain rfl:=pz ll;have vV:=hp;exact told (ak3 t o vV w)
  ·cases h
 ·cases h
def Ul:QF:=⟨101,λargs _=>match args with
 |[.agg hY]=>(match lj hY with|some t=>aa ((-9223372036854775808<=t.an/\t.an<=9223372036854775807),.agg (dm (Sd.Tok.gX t)))|none=>ae)
 |_=>ae⟩
def am6 (gl:Nat->Option Nat):Ul.Ok prog gl:=by
 intro args bl p_ v_ h hp ids w _ _;unfold Ul at h;dsimp only at h;split at h
 ·rename_i hY;split at h
  ·rename_i t ll;simp only[aW,bC]at h;obtain⟨rfl,rfl⟩:=h;obtain rfl:=pz ll;have vV:=hp;exact told (ak5 t vV w)
  ·cases h
 ·cases h
def Um:QF:=⟨149,λargs _=>match args with
 |[.agg hY]=>(match lj hY with|some t=>aa (True,.bool (decide (0<=t.offer)))|none=>ae)
 |_=>ae⟩
def am7 (gl:Nat->Option Nat):Um.Ok prog gl:=by
 intro args bl p_ v_ h hp ids w _ _;unfold Um at h;dsimp only at h;split at h
 ·rename_i hY;split at h
  ·rename_i t ll;simp only[aW,bC]at h;obtain⟨rfl,rfl⟩:=h;obtain rfl:=pz ll;exact told (open_ t w)
  ·cases h
 ·cases h
def Un:QF:=⟨152,λargs _=>match args with
 |[.agg hY]=>(match lj hY with|some t=>aa (True,.agg (dm (Sd.Tok.jk t)))|none=>ae)
 |_=>ae⟩
def am8 (gl:Nat->Option Nat):Un.Ok prog gl:=by
 intro args bl p_ v_ h hp ids w _ _;unfold Un at h;dsimp only at h;split at h
 ·rename_i hY;split at h
  ·rename_i t ll;simp only[aW,bC]at h;obtain⟨rfl,rfl⟩:=h;obtain rfl:=pz ll;exact told (Tn t w)
  ·cases h
 ·cases h
def Uo:QF:=⟨218,λargs _=>match args with
 |[.agg [.dO p ka kn kc],.int .i64 s]=>aa (True,.int .i64 (Sd.placeOf p s))
 |_=>ae⟩
def am9 (gl:Nat->Option Nat):Uo.Ok prog gl:=by
 intro args bl p_ v_ h hp ids w _ _;unfold Uo at h;dsimp only at h;split at h
 ·rename_i p ka kn kc s;simp only[aW,bC]at h;obtain⟨rfl,rfl⟩:=h;exact told (alc p ka kn kc s w)
 ·cases h
def Up:QF:=⟨216,λargs _=>match args with
 |[.agg [.dO p ka kn kc],.int .i64 a,.int .i64 b]=>aa (True,.bool (Sd.eL p a b))
 |_=>ae⟩
def am_ (gl:Nat->Option Nat):Up.Ok prog gl:=by
 intro args bl p_ v_ h hp ids w _ _;unfold Up at h;dsimp only at h;split at h
 ·rename_i p ka kn kc a b;simp only[aW,bC]at h;obtain⟨rfl,rfl⟩:=h;exact told (ald p ka kn kc a b w)
 ·cases h
def Uq:QF:=⟨121,λargs _=>match args with
 |[.agg [.dO p ka kn kc],.int .i64 s,.int .i64 r]=>aa (True,.bool (Sd.vB p s r))
 |_=>ae⟩
def ana (gl:Nat->Option Nat):Uq.Ok prog gl:=by
 intro args bl p_ v_ h hp ids w _ _;unfold Uq at h;dsimp only at h;split at h
 ·rename_i p ka kn kc s r;simp only[aW,bC]at h;obtain⟨rfl,rfl⟩:=h;exact told (alh p ka kn kc s r w)
 ·cases h
def Ur:QF:=⟨183,λargs _=>match args with
 |[.agg [.dO p ka kn kc],.int .i64 a,.int .i64 b]=>aa (True,.bool (Sd.goes p a b))
 |_=>ae⟩
def anb (gl:Nat->Option Nat):Ur.Ok prog gl:=by
 intro args bl p_ v_ h hp ids w _ _;unfold Ur at h;dsimp only at h;split at h
 ·rename_i p ka kn kc a b;simp only[aW,bC]at h;obtain⟨rfl,rfl⟩:=h;exact told (alj p ka kn kc a b w)
 ·cases h
def Us:QF:=⟨182,λargs _=>match args with
 |[.agg [.dO p ka kn kc],.int .i64 m,.int .i64 r,.int .i64 c]=>aa (True,.bool (Sd.may p m r c))
 |_=>ae⟩
def anc (gl:Nat->Option Nat):Us.Ok prog gl:=by
 intro args bl p_ v_ h hp ids w _ _;unfold Us at h;dsimp only at h;split at h
 ·rename_i p ka kn kc m r c;simp only[aW,bC]at h;obtain⟨rfl,rfl⟩:=h;exact told (alm p ka kn kc m r c w)
 ·cases h
def Ut:QF:=⟨49,λargs _=>match args with
 |[.agg [.dO p ka kn kc]]=>aa (True,.agg (dm (Sd.Tok.new p)))
 |_=>ae⟩
def ane (gl:Nat->Option Nat):Ut.Ok prog gl:=by
 intro args bl p_ v_ h hp ids w _ _;unfold Ut at h;dsimp only at h;split at h
 ·rename_i p ka kn kc;simp only[aW,bC]at h;obtain⟨rfl,rfl⟩:=h;exact told (ab5 p ka kn kc w)
 ·cases h
def Uu:QF:=⟨179,λargs _=>match args with
 |[.agg hY,.int .i64 f,.int .i64 e]=>(match lj hY with|some t=>aa ((-9223372036854775808<=t.an/\t.an<=9223372036854775807),.ay [.agg (dm ((Sd.Tok.accept t f e).1)),.int .i64 ((Sd.Tok.accept t f e).2)])|none=>ae)
 |_=>ae⟩
def anf (gl:Nat->Option Nat):Uu.Ok prog gl:=by
 intro args bl p_ v_ h hp ids w _ _;unfold Uu at h;dsimp only at h;split at h
 ·rename_i hY f e;split at h
  ·rename_i t ll;simp only[aW,bC]at h;obtain⟨rfl,rfl⟩:=h;obtain rfl:=pz ll;have vV:=hp;exact told (alq t f e vV w)
  ·cases h
 ·cases h
def Uv:QF:=⟨180,λargs _=>match args with
 |[.agg hY,.int .i64 f]=>(match lj hY with|some t=>aa (True,.ay [.agg (dm ((Sd.Tok.gh t f).1)),.int .i64 ((Sd.Tok.gh t f).2)])|none=>ae)
 |_=>ae⟩
def ang (gl:Nat->Option Nat):Uv.Ok prog gl:=by
 intro args bl p_ v_ h hp ids w _ _;unfold Uv at h;dsimp only at h;split at h
 ·rename_i hY f;split at h
  ·rename_i t ll;simp only[aW,bC]at h;obtain⟨rfl,rfl⟩:=h;obtain rfl:=pz ll;exact told (als t f w)
  ·cases h
 ·cases h
def Uw:QF:=⟨148,λargs _=>match args with
 |[.agg hY,.int .i64 s]=>(match lj hY with|some t=>aa (True,.ay [.agg (dm ((Sd.Tok.drop t s).1)),.bool ((Sd.Tok.drop t s).2)])|none=>ae)
 |_=>ae⟩
def anh (gl:Nat->Option Nat):Uw.Ok prog gl:=by
 intro args bl p_ v_ h hp ids w _ _;unfold Uw at h;dsimp only at h;split at h
 ·rename_i hY s;split at h
  ·rename_i t ll;simp only[aW,bC]at h;obtain⟨rfl,rfl⟩:=h;obtain rfl:=pz ll;exact told (alv t s w)
  ·cases h
 ·cases h
def Ux:QF:=⟨109,λargs _=>match args with
 |[.agg hY]=>(match lj hY with|some t=>aa ((-9223372036854775808<=t.oa.n/\t.oa.n<=9223372036854775807)/\(-9223372036854775808<=t.oa.most/\t.oa.most<=9223372036854775807),.ay [.agg (dm ((Sd.Tok.tick t).1)),.int .i64 ((Sd.Tok.tick t).2)])|none=>ae)
 |_=>ae⟩
def ani (gl:Nat->Option Nat):Ux.Ok prog gl:=by
 intro args bl p_ v_ h hp ids w _ _;unfold Ux at h;dsimp only at h;split at h
 ·rename_i hY;split at h
  ·rename_i t ll;simp only[aW,bC]at h;obtain⟨rfl,rfl⟩:=h;obtain rfl:=pz ll;obtain⟨ab6,ab7⟩:=hp;exact told (alw t ab6 ab7 w)
  ·cases h
 ·cases h
def Uy:QF:=⟨178,λargs _=>match args with
 |[.agg [.dO p ka kn kc],.agg hY,.int .i64 f,.int .i64 o,.bool th]=>(match lj hY with|some t=>aa ((Sd.fF p),.ay [.agg (dm ((Sd.Tok.make p t f o th).1)),.int .i64 ((Sd.Tok.make p t f o th).2)])|none=>ae)
 |_=>ae⟩
def anj (gl:Nat->Option Nat):Uy.Ok prog gl:=by
 intro args bl p_ v_ h hp ids w _ _;unfold Uy at h;dsimp only at h;split at h
 ·rename_i p ka kn kc hY f o th;split at h
  ·rename_i t ll;simp only[aW,bC]at h;obtain⟨rfl,rfl⟩:=h;obtain rfl:=pz ll;have hp:=hp;exact told (aly p ka kn kc t f o th hp w)
  ·cases h
 ·cases h
def Uz:QF:=⟨141,λargs _=>match args with
 |[.agg [.dO p ka kn kc],.agg Ax,.int .i64 c,.agg Iv,.agg Iw]=>(match Is Ax with|some pt=>(match MY Iv with|some y=>(match Ir Iw with|some b=>aa ((Sd.fF p),.agg (yq (Sd.fj.set p pt c y b)))|none=>ae)|none=>ae)|none=>ae)
 |_=>ae⟩
def ank (gl:Nat->Option Nat):Uz.Ok prog gl:=by
 intro args bl p_ v_ h hp ids w _ _;unfold Uz at h;dsimp only at h;split at h
 ·rename_i p ka kn kc Ax c Iv Iw;split at h
  ·rename_i pt Ix;split at h
   ·rename_i y UA;split at h
    ·rename_i b UB;simp only[aW,bC]at h;obtain⟨rfl,rfl⟩:=h;obtain rfl:=Ub Ix;obtain rfl:=acA UA;obtain rfl:=T9 UB;have hp:=hp;exact told (alA p ka kn kc pt c y b hp w)
    ·cases h
   ·cases h
  ·cases h
 ·cases h
def UC:QF:=⟨146,λargs _=>match args with
 |[.agg Ax,.agg Iw]=>(match Is Ax with|some pt=>(match Ir Iw with|some b=>aa (True,.agg (yq (Sd.fj.hold pt b)))|none=>ae)|none=>ae)
 |_=>ae⟩
def anl (gl:Nat->Option Nat):UC.Ok prog gl:=by
 intro args bl p_ v_ h hp ids w _ _;unfold UC at h;dsimp only at h;split at h
 ·rename_i Ax Iw;split at h
  ·rename_i pt Ix;split at h
   ·rename_i b UB;simp only[aW,bC]at h;obtain⟨rfl,rfl⟩:=h;obtain rfl:=Ub Ix;obtain rfl:=T9 UB;exact told (alC pt b w)
   ·cases h
  ·cases h
 ·cases h
def UD:QF:=⟨138,λargs _=>match args with
 |[.int .i64 m,.agg Iv]=>(match MY Iv with|some y=>aa ((0<=m/\m<=1000),.bool (Sd.ue m y))|none=>ae)
 |_=>ae⟩
def anm (gl:Nat->Option Nat):UD.Ok prog gl:=by
 intro args bl p_ v_ h hp ids w _ _;unfold UD at h;dsimp only at h;split at h
 ·rename_i m Iv;split at h
  ·rename_i y UA;simp only[aW,bC]at h;obtain⟨rfl,rfl⟩:=h;obtain rfl:=acA UA;have hm:=hp;exact told (ab9 m y hm w)
  ·cases h
 ·cases h
def UE:QF:=⟨97,λargs _=>match args with
 |[.agg [.dO p ka kn kc],.int .i64 r,.agg l_s]=>(match E3 l_s with|some s=>aa ((Sd.fF p)/\(-9223372036854775808<=r/\r<=9223372036854775807),.ay [.int .i64 ((Sd.g9 p r s).1),.bool ((Sd.g9 p r s).2)])|none=>ae)
 |_=>ae⟩
def ann (gl:Nat->Option Nat):UE.Ok prog gl:=by
 intro args bl p_ v_ h hp ids w _ _;unfold UE at h;dsimp only at h;split at h
 ·rename_i p ka kn kc r l_s;split at h
  ·rename_i s e_s;simp only[aW,bC]at h;obtain⟨rfl,rfl⟩:=h;obtain rfl:=M0 e_s;obtain⟨hp,h_r⟩:=hp;exact told (alH p ka kn kc r s hp h_r w)
  ·cases h
 ·cases h
def UF:QF:=⟨112,λargs _=>match args with
 |[.agg [.dO p ka kn kc],.agg Ax]=>(match Is Ax with|some pt=>aa ((Sd.fF p)/\(-9223372036854775808<=pt.bh.a/\pt.bh.a<=9223372036854775807)/\(-9223372036854775808<=pt.bh.b/\pt.bh.b<=9223372036854775807)/\(-9223372036854775808<=pt.bh.c/\pt.bh.c<=9223372036854775807)/\(-9223372036854775808<=pt.bh.d/\pt.bh.d<=9223372036854775807)/\(-9223372036854775808<=pt.now.a/\pt.now.a<=9223372036854775807)/\(-9223372036854775808<=pt.now.b/\pt.now.b<=9223372036854775807)/\(-9223372036854775808<=pt.now.c/\pt.now.c<=9223372036854775807)/\(-9223372036854775808<=pt.now.d/\pt.now.d<=9223372036854775807),.agg (yq (Sd.fj.step p pt)))|none=>ae)
 |_=>ae⟩
def ano (gl:Nat->Option Nat):UF.Ok prog gl:=by
 intro args bl p_ v_ h hp ids w _ _;unfold UF at h;dsimp only at h;split at h
 ·rename_i p ka kn kc Ax;split at h
  ·rename_i pt Ix;simp only[aW,bC]at h;obtain⟨rfl,rfl⟩:=h;obtain rfl:=Ub Ix;obtain⟨hp,TA,TD,TE,TF,TG,TH,TI,TJ⟩:=hp;exact told (alJ p ka kn kc pt hp TA TD TE TF TG TH TI TJ w)
  ·cases h
 ·cases h
def QV:List QF:=[Ud,Ue,Uf,Ug,Uh,Ui,Uj,Uk,Ul,Um,Un,Uo,Up,Uq,Ur,Us,Ut,Uu,Uv,Uw,Ux,Uy,Uz,UC,UD,UE,UF]
def Ay (gl:Nat->Option Nat):bP prog gl QV:=(bP.cons (amY gl) (bP.cons (amZ gl) (bP.cons (am0 gl) (bP.cons (am1 gl) (bP.cons (am2 gl) (bP.cons (am3 gl) (bP.cons (am4 gl) (bP.cons (am5 gl) (bP.cons (am6 gl) (bP.cons (am7 gl) (bP.cons (am8 gl) (bP.cons (am9 gl) (bP.cons (am_ gl) (bP.cons (ana gl) (bP.cons (anb gl) (bP.cons (anc gl) (bP.cons (ane gl) (bP.cons (anf gl) (bP.cons (ang gl) (bP.cons (anh gl) (bP.cons (ani gl) (bP.cons (anj gl) (bP.cons (ank gl) (bP.cons (anl gl) (bP.cons (anm gl) (bP.cons (ann gl) (bP.cons (ano gl) bP.nil)))))))))))))))))))))))))))
def M3 (args:List V) (bl:List VB):Option (Nat×Nat×Nat×Nat×(Nat->Int)):=match args with
 |[.sl i off n c]=>(match bl[i]?with
  |some b=>(match zN b.c off n with
   |some [.cv .u8 m f]=>aa (i,off,n,c,f)
   |_=>ae)
  |none=>ae)
 |_=>ae
def acC {args:List V} {bl:List VB} {i off n c:Nat} {f:Nat->Int} (h:M3 args bl=aa (i,off,n,c,f)) {ids:List Nat} {w:aj} (hm:Mem ids bl w):args=[.sl i off n c]/\cA w (ids.getD i 0) off n f:=by
 unfold M3 at h;split at h
 ·split at h
  ·rename_i i' Qt n' c' b hb;split at h
   ·rename_i m g hg;simp only[aW,bC]at h;obtain⟨rfl,rfl,rfl,rfl,rfl⟩:=h;refine⟨rfl,?_⟩;obtain⟨h1,h2,h3⟩:=zP (ids:=ids) hg;have aS:=hm.2 _ b hb;intro j hj;rw[cell_of aS];have e:(ak ids [V.cv .u8 m g])=(bo m).map λj=>fI .u8 (g j):=by simp[ak,cl]
    rw[e]at h1 h2;simp at h2;have h4:=congrArg (λl=>l[j]?) h1;simp only[PQ,Gu,jW]at h4;rw[if_pos hj]at h4;have h5:(bo m)[j]?=aa j:=by rw[pQ oM]
    rw[h5]at h4;simpa using h4
   ·cases h
  ·cases h
 ·cases h
def UG:QF:=⟨238,λargs bl=>match M3 args bl with
 |some (i,off,n,c,f)=>bif aA n 1 then aa (By f,.ay [.int .u64 (E1 f),.int .i64 0])else bif aA n 2 then aa (By f,.ay [.int .u64 (ir f),.int .i64 0])else bif aA n 4 then aa (By f,.ay [.int .u64 (CB f),.int .i64 0])else ae
 |none=>ae⟩
def UH:QF:=⟨237,λargs bl=>match M3 args bl with
 |some (i,off,n,c,f)=>bif aA n 2 then aa (By f,.ay [.int .i64 (Aw (ir f)),.int .i64 0])else ae
 |none=>ae⟩
def anp (gl:Nat->Option Nat):UG.Ok prog gl:=by
 intro args bl p v h hp ids w hg hm;unfold UG at h;dsimp only at h;split at h
 ·rename_i i off n c f hA;obtain⟨rfl,h8⟩:=acC hA hm;cases h1:aA n 1 with
  |true=>
   rw[h1]at h;obtain rfl:=ck h1;simp only[cond_true,aW,bC]at h;obtain⟨rfl,rfl⟩:=h;exact amT _ _ _ f hp w h8
  |false=>
   cases h2:aA n 2 with
   |true=>
    rw[h1,h2]at h;obtain rfl:=ck h2;simp only[cond_true,cond_false,aW,bC]at h;obtain⟨rfl,rfl⟩:=h;exact acy _ _ _ f hp w h8
   |false=>
    cases h4:aA n 4 with
    |true=>
     rw[h1,h2,h4]at h;obtain rfl:=ck h4;simp only[cond_true,cond_false,aW,bC]at h;obtain⟨rfl,rfl⟩:=h;exact amU _ _ _ f hp w h8
    |false=>rw[h1,h2,h4]at h;cases h
 ·cases h
def anq (gl:Nat->Option Nat):UH.Ok prog gl:=by
 intro args bl p v h hp ids w hg hm;unfold UH at h;dsimp only at h;split at h
 ·rename_i i off n c f hA;obtain⟨rfl,h8⟩:=acC hA hm;cases h2:aA n 2 with
  |true=>
   rw[h2]at h;obtain rfl:=ck h2;simp only[cond_true,aW,bC]at h;obtain⟨rfl,rfl⟩:=h;exact amV _ _ _ f hp w h8
  |false=>rw[h2]at h;cases h
 ·cases h
def LTk:List QF:=[UG,UH]
def mV:Nat->Option Nat:=λ_=>ae
structure Fd where
 sz:Nat
 sg:Bool
 low:Int
 high:Int
 at_:Nat
 b:Bool
def Fd.val (d:Fd) (g:Nat->Int):Int:=bif d.sg then Aw (ir g)else bif aA d.sz 1 then i64.wrap (E1 g)else bif aA d.sz 2 then i64.wrap (ir g)else i64.wrap (CB g)
def Fd.up (d:Fd) (g:Nat->Int) (m:List V):List V:=ma m d.at_ (bif d.b then .bool (d.val g==1)else .int .i64 (d.val g))
def pB:V:=.ay [.agg [.int .i64 0,.int .i64 0,.int .i64 0,.int .i64 0,.int .i64 0,.int .i64 0,.int .i64 0,.bool ag,.int .i64 0,.int .i64 0,.int .i64 0,.int .i64 0],.int .i64 13]
def E4 (n:Nat) (f:Nat->Int) (X:V->Prop):List Fd->Nat->List V->Prop
 |[],off,m=>bif aA (n-off) 0 then X (.ay [.agg m,.int .i64 0])else X pB
 |d::l,off,m=>bif db (n-off) d.sz then X pB else
  By (λj=>f (off+j))/\cond (decide (d.val (λj=>f (off+j))<d.low)) (X pB) (cond (decide (d.val (λj=>f (off+j))>d.high)) (X pB) (E4 n f X l (off+d.sz) (d.up (λj=>f (off+j)) m)))
def jS:Fd:=⟨4,ag,0,4294967295,1,ag⟩
def CD:Fd:=⟨1,ag,0,3,2,ag⟩
def E5:Fd:=⟨1,ag,0,4,3,ag⟩
def rN:Fd:=⟨2,ag,0,65535,4,ag⟩
def E6:Fd:=⟨1,ag,0,4,5,ag⟩
def vY:Fd:=⟨1,ag,1,3,6,ag⟩
def E7:Fd:=⟨1,ag,0,1,7,af⟩
def fX (i:Nat):Fd:=⟨2,af,-32768,32767,8+i,ag⟩
def rO (f:Nat->Int):Int:=i64.wrap (f 0)
def m0 (f:Nat->Int):List V:=[.int .i64 (rO f),.int .i64 0,.int .i64 0,.int .i64 0,.int .i64 0,.int .i64 0,.int .i64 0,.bool ag,.int .i64 0,.int .i64 0,.int .i64 0,.int .i64 0]
def Az:Nat->List V
 |0=>[]
 |n+1=>.bool ag::.bool ag::.bool ag::.bool ag::.bool ag::Az n
def lS (n:Nat) (f:Nat->Int) (X:V->Prop):Prop:=
 let T (l:List Fd):Prop:=E4 n f X l 1 (m0 f)
 let T1:=T [CD]
 let T3:=T [jS]
 cond (rO f==1) T1 (cond (rO f==2) T1 (cond (rO f==3) T3 (cond (rO f==4) T3 (cond (rO f==8) T3 (cond (rO f==9) T3 (cond (rO f==5) (T [jS,E7]) (cond (rO f==6) (T [jS,E5]) (cond (rO f==7) (T [jS,rN])
  (cond (rO f==10) (T [jS,rN,E6]) (cond (rO f==11) (∀(c:Nat) (u:List ai),7<=c->T [jS,rN,vY,fX 0,fX 1,fX 2,fX 3]) (X pB)))))))))))
end
end Go.Proofs.YtddcipamdggcnaaGreatDoor
namespace Sx
open Go Go.RowKit Go.BigFrame
def acD (vs:Nat->ai) (i:Nat) (v:ai):Nat->ai:=λj=>if j=i then v else vs j
def acE (k0:Nat) (es:List Nat) (H:Nat->(Nat->ai)->aj->Prop) (l:List aw) (w0:aj) (i:Nat) (v:ai) (vs:Nat->ai) (w' gn:aj):Prop:=
 (i=k0->Ch es w' gn)/\(i≠k0->∃ns,Ch ns w' gn/\∀x∈ns,w0.heap.size<=x)/\H i (acD vs i v) gn/\
  ∀(j:Nat) oj,l[j]?=aa oj->j≠i->lB oj i=ag->H j vs w'->H j (acD vs i v) gn
def acF (P:aG) (k0:Nat) (pre:List (List Nat)) (es:List Nat) (H:Nat->(Nat->ai)->aj->Prop) (lf l:List aw) (y0:Nat->ai) (w:aj) (i:Nat) (o:aw):Prop:=
 ∀(y vs:Nat->ai) (w':aj),(i=k0\/preB pre i=af->Ch [] w w')->Ch es w w'->(∀t,wT l i t=af->y t=y0 t)->
  (∀j d,lB o j=af->(l[j]?).bind (·.dst)=aa d->y d=vs j/\H j vs w')->
  (oT lf o y=af->Yields P o (wS y) w' λv gn=>acE k0 es H l w i v vs w' gn)/\(oT lf o y=ag->acE k0 es H l w i undef vs w' w')
def M4 (P:aG) (k0:Nat) (pre:List (List Nat)) (es:List Nat) (H:Nat->(Nat->ai)->aj->Prop) (lf l:List aw) (y0:Nat->ai) (w:aj):Nat->List aw->Prop
 |_,[]=>True
 |i,o::rest=>acF P k0 pre es H lf l y0 w i o/\M4 P k0 pre es H lf l y0 w (i+1) rest
def M4.get {P:aG} {k0:Nat} {pre:List (List Nat)} {es:List Nat} {H:Nat->(Nat->ai)->aj->Prop} {lf l:List aw} {y0:Nat->ai} {w:aj}:∀{k:Nat} {m:List aw},M4 P k0 pre es H lf l y0 w k m->∀(i:Nat) o,m[i]?=aa o->acF P k0 pre es H lf l y0 w (k+i) o
 |_,[],_,i,o,h=>by simp at h
 |k,x::rest,⟨h1,h2⟩,0,o,h=>by obtain rfl:x=o:=by simpa using h
                              exact h1
 |k,x::rest,⟨h1,h2⟩,i+1,o,h=>by
  have:=M4.get h2 i o (by simpa using h)
  rwa [show k+1+i=k+(i+1) by omega]at this
structure ayW (k0:Nat) (es:List Nat) (H:Nat->(Nat->ai)->aj->Prop) (l:List aw) (n2:Nat) (a0:Act) (w0:aj) (vs:Nat->ai) (listed:Array Bool) (a:Act) (w:aj):Prop where
 ls:listed.size=l.length+n2
 off:∀i,l.length<=i->i<l.length+n2->listed[i]?=aa ag
 size:a.tmps.size=a0.tmps.size
 defers:a.defers=a0.defers
 ch:if listed[k0]?=aa af then Ch es w0 w else Ch [] w0 w
 done:∀(i:Nat) (o:aw),l[i]?=aa o->listed[i]?=aa af->(∀d,o.dst=aa d->cW a d=vs i)/\H i vs w
 rest:∀(t:Nat),(∀(i:Nat) (o:aw),l[i]?=aa o->o.dst=aa t->listed[i]?=aa ag)->cW a t=cW a0 t
 back:∀(i:Nat) (o:aw),l[i]?=aa o->listed[i]?=aa af->∀j,lB o j=af->listed[j]?=aa af
section
variable{P:aG} {l:List aw} {k0:Nat} {pre:List (List Nat)} {es:List Nat} {H:Nat->(Nat->ai)->aj->Prop} {a0:Act} {w0:aj} {Q:dE->Act->aj->Prop}
end
inductive GX where
 |v (x:ai)
 |a (obj:Obj)
 |n (cs oD:Array ai) (T:aM)
 |s (j:Nat)
def GX.sp:GX->Sp
 |.v x=>s0 x
 |.a o=>sA o
 |.n cs _ T=>sA (.cells cs T (0,0))
 |.s _=>s0 undef
def GX.fin:GX->VX
 |.v x=>.v x
 |.a o=>.a o
 |.n _ oD T=>.a (.cells oD T (0,0))
 |.s _=>.v undef
def Yields.mono {P:aG} {o:aw} {ρ:bg->ai} {w:aj} {R R':ai->aj->Prop} (h:Yields P o ρ w R) (k:∀v w',R v w'->R' v w'):Yields P o ρ w R':=by
 unfold Yields at*;split at h
 ·exact k _ _ h
 ·exact k _ _ h
 ·exact Calls.mono h λe w' ⟨v,e1,e2⟩=>⟨v,e1,k _ _ e2⟩
 ·exact h.elim
section
variable{P:aG} {lf l:List aw} {xs:List GX} {y0:Nat->ai} {w:aj} {i k0:Nat} {pre:List (List Nat)} {o:aw} {es:List Nat} {pv:ai->aj->Prop}
end
def Zn (i:Nat):GX->Bool
 |.s j=>aA j i
 |_=>ag
section
variable{P:aG} {a0:Act} {w w0:aj} {Q:dE->Act->aj->Prop} {id:Nat} {L:List aw} {ms:List Nat} {bs:List ao}
end
section
variable{P:aG} {lf l:List aw} {sp:Nat->Sp} {xs:List GX} {y0:Nat->ai} {a0:Act} {w:aj} {i k0 m:Nat} {pre:List (List Nat)} {o:aw} {es:List Nat} {pv:ai->aj->Prop}
end
section
variable{P:aG} {a0:Act} {w w0:aj} {Q:dE->Act->aj->Prop} {id:Nat} {L:List aw} {ms:List Nat}
def DV.dH {val:ai} {C:List ao->Prop} {bl:List ao} {B:Nat} {T:aM} (hT:∀bl',C bl'->∀x∈bl',DW x.obj≠aa T) {v:ai} {w1 w2:aj} {b:Nat} {c2:Array ai} (hb:w1.heap[b]?=aa (.cells c2 T (0,0))) (hc:Ch [b] w1 w2) (h:DV val C bl B v w1):DV val C bl B v w2:=by
 obtain⟨h1,bl',h2,h3,h4⟩:=h;refine⟨h1,bl',h2,λy hy=>⟨?_,(h3 y hy).2⟩,h4⟩;refine(hc.block _ (oe (h3 y hy).1) ?_).trans (h3 y hy).1;intro hm;have e:y.id=b:=by simpa using hm
 have:=(h3 y hy).1;rw[e,hb]at this;exact hT bl' h2 y hy (by rw[<-cG this];rfl)
end
end Sx
namespace Go.Proofs.YtddcipamdggcnaaGreatDoor
section
open Go Go.RowKit Go.BigFrame Sx
def CE (q:Nat->Int) (ka:Nat->Option aI) (kn kc:Nat->Nat):Array ai:=#[.int .i64 (q 0),.int .i64 (q 1),.int .i64 (q 2),.int .i64 (q 3),.int .i64 (q 4),.slice (ka 0) (kn 0) (kc 0),.slice (ka 1) (kn 1) (kc 1),.slice (ka 2) (kn 2) (kc 2),.slice (ka 3) (kn 3) (kc 3),.int .i64 (q 9),.int .i64 (q 10),.int .i64 (q 11),.int .i64 (q 12),.int .i64 (q 13),.int .i64 (q 14),.int .i64 (q 15),.int .i64 (q 16),.int .i64 (q 17),.int .i64 (q 18),.int .i64 (q 19),.int .i64 (q 20),.int .i64 (q 21),.int .i64 (q 22),.int .i64 (q 23),.int .i64 (q 24),.int .i64 (q 25),.int .i64 (q 26),.int .i64 (q 27),.int .i64 (q 28),.int .i64 (q 29),.int .i64 (q 30),.int .i64 (q 31),.int .i64 (q 32),.int .i64 (q 33),.int .i64 (q 34),.int .i64 (q 35),.int .i64 (q 36),.int .i64 (q 37),.int .i64 (q 38),.int .i64 (q 39),.int .i64 (q 40),.int .i64 (q 41),.int .i64 (q 42),.int .i64 (q 43),.int .i64 (q 44),.int .i64 (q 45),.int .i64 (q 46),.int .i64 (q 47),.int .i64 (q 48),.int .i64 (q 49),.int .i64 (q 50),.int .i64 (q 51),.int .i64 (q 52),.int .i64 (q 53),.int .i64 (q 54),.int .i64 (q 55)]
end
section
open Go Go.RowKit Go.BigFrame Sx Vx
def kC (lo hi n:Int):Bool:=decide (lo<=n)&&decide (n<=hi)
def rP (a b c k:Int):Bool:=k==a||(k==b||k==c)
def Iy (q:Nat->Int):Bool:=q 0==0&&(q 4==4&&(rP (q 1) (q 2) (q 3) 1&&(rP (q 1) (q 2) (q 3) 2&&rP (q 1) (q 2) (q 3) 3)))
def uL (n:Nat):Bool:=decide (1<=(n:Int))&&decide ((n:Int)<=64)
def qm (n:Int):Bool:=kC 0 15 n&&n%2==0
def allI (lo hi:Int):List Int->Bool
 |[]=>af
 |x::xs=>kC lo hi x&&allI lo hi xs
def AA (kn:Nat->Nat):Bool:=uL (kn 0)&&(uL (kn 1)&&uL (kn 2))
def CF (q:Nat->Int):Bool:=qm (q 10)&&(qm (q 11)&&qm (q 12))
def Iz (q:Nat->Int):Bool:=allI 0 15 [q 14,q 15,q 16,q 17]&&(allI 0 15 [q 18,q 19,q 20,q 21]&&(allI 0 15 [q 22,q 23,q 24,q 25]&&(allI 0 15 [q 26,q 27,q 28,q 29]&&allI 0 15 [q 30,q 31,q 32,q 33])))
def nO (q:Nat->Int) (kn:Nat->Nat):Int:=
 if Iy q=ag then 40 else if(AA kn&&uL (kn 3))=ag then 41 else if(q 9==1&&(q 13==0&&CF q))=ag then 42
 else if Iz q=ag then 43
 else if allI 0 31 [q 34,q 35,q 36,q 37,q 38]=ag then 44
 else if allI 0 4 [q 39,q 40,q 41]=ag then 45 else if allI 1 1000 [q 42,q 43,q 44,q 45]=ag then 46 else if(kC 1 1000 (q 46)&&kC 0 1000 (q 47))=ag then 47 else if allI 1 3 [q 48,q 49]=ag then 48
 else if(q 50==0&&(allI 0 1000 [q 51,q 52,q 53]&&kC 1 1000 (q 54)))=ag then 49 else if kC 0 65535 (q 55)=ag then 50 else 0
def E8 (lo hi n:Int) (X Y:Prop):Prop:=cond (decide (lo<=n)) (cond (!decide (n<=hi)) Y X) Y
def M5 (n:Int) (X Y:Prop):Prop:=cond (decide (0<=n)) (cond (decide (n<=15)) (cond (!(Int.tmod n 2==0)) Y X) Y) Y
def yr (lo hi:Int) (Y:Prop):List Int->Prop->Prop
 |[],X=>X
 |n::l,X=>E8 lo hi n (yr lo hi Y l X) Y
def IA {lo hi n:Int} {X Y:Prop} (h:kC lo hi n=af->X) (k:kC lo hi n=ag->Y):E8 lo hi n X Y:=
 aJ (λa=>aJ (λb=>k (by rw[kC,a];simpa using b)) λb=>h (by rw[kC,a];simpa using b)) λa=>k (by rw[kC,a];rfl)
def UI {n:Int} {X Y:Prop} (h:qm n=af->X) (k:qm n=ag->Y):M5 n X Y:=by
 refine aJ (λa=>aJ (λb=>?_) λb=>k (by simp only[qm,kC,a,b];rfl)) λa=>k (by simp only[qm,kC,a];rfl);have e:Int.tmod n 2=n%2:=Int.tmod_eq_emod_of_nonneg (of_decide_eq_true a);exact aJ (λc=>k (by simp only[qm,kC,a,b];rw[e]at c;simpa using c)) λc=>h (by simp only[qm,kC,a,b];rw[e]at c;simpa using c)
def AB {lo hi:Int} {X Y:Prop}:∀{l:List Int},(allI lo hi l=af->X)->(allI lo hi l=ag->Y)->yr lo hi Y l X
 |[],h,_=>h rfl
 |n::l,h,k=>IA (λa=>AB (λb=>h (by rw[allI,a,b];rfl)) λb=>k (by rw[allI,a,b];rfl)) λa=>k (by rw[allI,a];rfl)
def dup (X:Prop):Prop:=X/\X
def UJ {X:Prop} (h:X):dup X:=⟨h,h⟩
def mW (a b c d e:Int):Bool:=a==0&&(e==4&&(rP b c d 1&&(rP b c d 2&&rP b c d 3)))
def UK:QF:=⟨66,λargs _=>match args with
 |[.agg [.int .i64 a,.int .i64 b,.int .i64 c,.int .i64 d,.int .i64 e]]=>aa (True,.bool (mW a b c d e))
 |_=>ae⟩
def CH (b c d k:Int) (X Y:Prop):Prop:=cond (k==b) X (cond (k==c) X (cond (k==d) X Y))
def UL {b c d k:Int} {X Y:Prop} (h:rP b c d k=af->X) (n:rP b c d k=ag->Y):CH b c d k X Y:=
 aJ (λa=>h (by rw[rP,a];rfl)) λa=>aJ (λe=>h (by rw[rP,a,e];rfl)) λe=>aJ (λf=>h (by rw[rP,a,e,f];rfl)) λf=>n (by rw[rP,a,e,f];rfl)
def anr (a b c d e:Int) (K:V->Prop):dP prog [] 60 66 [.agg [.int .i64 a,.int .i64 b,.int .i64 c,.int .i64 d,.int .i64 e]] K
 =cond (a !=0) (K (.bool ag)) (cond (e !=4) (K (.bool ag)) (CH b c d 1 (CH b c d 2 (CH b c d 3 (K (.bool af)) (K (.bool ag))) (K (.bool ag))) (K (.bool ag)))):=kR
def ans (a b c d e:Int) (w:aj):aX prog 66 #[.agg #[.int .i64 a,.int .i64 b,.int .i64 c,.int .i64 d,.int .i64 e]] w λv w1=>v=.bool (mW a b c d e)/\Ch [] w w1:=by
 have h:cond (a !=0) ((V.bool ag)=.bool (mW a b c d e)) (cond (e !=4) ((V.bool ag)=.bool (mW a b c d e)) (CH b c d 1 (CH b c d 2 (CH b c d 3 ((V.bool af)=.bool (mW a b c d e)) ((V.bool ag)=.bool (mW a b c d e))) ((V.bool ag)=.bool (mW a b c d e))) ((V.bool ag)=.bool (mW a b c d e)))):=by
  refine aJ (λh=>?_) λh=>aJ (λg=>?_) λg=>UL (λx=>UL (λy=>UL (λz=>?_) λz=>?_) λy=>?_) λx=>?_
  ·have h':(a==0)=ag:=by simpa using h
   rw[mW,h'];rfl
  all_goals have h':(a==0)=af:=by simpa using h
  ·have g':(e==4)=ag:=by simpa using g
   rw[mW,h',g'];rfl
  all_goals have g':(e==4)=af:=by simpa using g
  ·rw[mW,h',g',x,y,z];rfl
  ·rw[mW,h',g',x,y,z];rfl
  ·rw[mW,h',g',x,y];rfl
  ·rw[mW,h',g',x];rfl
 refine iR (L:=[]) bP.nil (n:=60) (xs:=[.agg [.int .i64 a,.int .i64 b,.int .i64 c,.int .i64 d,.int .i64 e]]) (v:=.bool (mW a b c d e)) (Hd.h (Hd.mk ?_));rw[anr];exact h
def ant (gl:Nat->Option Nat):UK.Ok prog gl:=by
 intro args bl p_ v_ h hp ids w _ _;unfold UK at h;dsimp only at h;split at h
 ·rename_i a b c d e;simp only[aW,bC]at h;obtain⟨rfl,rfl⟩:=h;exact told (ans a b c d e w)
 ·cases h
def UM (q:Nat->Int) (kn:Nat->Nat) (K:V->Prop):Prop:=
 let E:=λn:Int=>K (.int .i64 n)
 cond (!(mW (q 0) (q 1) (q 2) (q 3) (q 4))) (E 40)<|yr 1 64 (E 41) [(kn 0:Int),(kn 1:Int),(kn 2:Int),(kn 3:Int)]<|cond (q 9!=1) (E 42)<|cond (q 13!=0) (E 42)<|(λX=>M5 (q 10) (M5 (q 11) (M5 (q 12) X (E 42)) (E 42)) (E 42))<|
 yr 0 15 (E 43) [q 14,q 15,q 16,q 17,q 18,q 19,q 20,q 21,q 22,q 23,q 24,q 25,q 26,q 27,q 28,q 29,q 30,q 31,q 32,q 33]<|yr 0 31 (E 44) [q 34,q 35,q 36,q 37,q 38]<|dup<|yr 0 4 (E 45) [q 39,q 40,q 41]<|dup<|yr 1 1000 (E 46) [q 42,q 43,q 44,q 45]<|
 (λX=>E8 1 1000 (q 46) (E8 0 1000 (q 47) X (E 47)) (E 47))<|dup<|yr 1 3 (E 48) [q 48,q 49]<|cond (q 50!=0) (E 49)<|yr 0 1000 (E 49) [q 51,q 52,q 53]<|E8 1 1000 (q 54) (E8 0 65535 (q 55) (E 0) (E 50)) (E 49)
def E9 (n:Int):VB:=⟨af,⟨3,(0,0)⟩,[.int .i64 n]⟩
def IB:dk Empty:=λargs bl ch K=>match args with
 |[.int .i64 lo,.int .i64 hi]=>cond (bY bl.length bl) (K (.fn 87 [] [.ptr bl.length 0,.ptr (bl.length+1) 0]) (bl++[E9 lo,E9 hi]) ch) False
 |_=>False
def anu (lo hi:Int) (K:VK Empty):br (bM prog (λ_=>ae) ([]:List (bK Empty))) 20 73 [.int .i64 lo,.int .i64 hi] [] [] K=K (.fn 87 [] [.ptr 0 0,.ptr 1 0]) [E9 lo,E9 hi] []:=kR
def anv:Sound prog (λ_=>ae) 73 IB:=by
 intro args ids bl ch R ms w0 w K hg hl S hc;unfold IB at hc;split at hc
 ·rename_i lo hi;cases hq:bY bl.length bl with
  |false=>rw[hq]at hc;exact hc.elim
  |true=>
   rw[hq]at hc;have hv:br (bM prog (λ_=>ae) ([]:List (bK Empty))) 20 73 [.int .i64 lo,.int .i64 hi] [] [] (λv b c=>v=.fn 87 [] [.ptr 0 0,.ptr 1 0]/\b=[E9 lo,E9 hi]/\c=[]):=by rw[anu];exact⟨rfl,rfl,rfl⟩
   refine(eZ (aH.nil (P:=prog) (gl:=λ_=>ae)).T aH.nil.Q 20 (C:=bM prog (λ_=>ae) ([]:List (bK Empty))) (ids:=[]) (bl:=[]) (ch:=[]) (R:=[]) (ms:=[]) (w0:=w) (w:=w) Gl.no rfl (St.nil [] w) hv).mono ?_;rintro x w' ⟨y,more,bl',ch',rfl,h1,S',rfl,rfl,rfl⟩
   match more,h1 with
   |[b1,b2],_=>
    have S2:=S.beside S' (bl:=[⟨b1,af,.cells #[.int .i64 lo] 3 (0,0)⟩,⟨b2,af,.cells #[.int .i64 hi] 3 (0,0)⟩]) (Wr.cons rfl (Wr.cons rfl Wr.nil));refine⟨_,[b1,b2],_,ch,?_,by simp[hl],?_,hc⟩
    ·simp only[den,aE,<-hl];simp[gd]
    ·rw[fu _ _ _ _ hl,fw _ _ (by rw[hl];exact hq),bW];refine S2.perm ?_;exact(qR [_,_] (lits ids ids bl) (au ch R))
 ·exact hc.elim
def anw:vL prog (λ_=>ae) ⟨73,af,IB⟩:=⟨anv,λ_ args bl ch K h=>by
 simp only at h⊢;unfold IB at h⊢;split at h
 ·cases hq:bY bl.length bl with
  |false=>rw[hq]at h;exact h.elim
  |true=>rw[hq]at h;exact⟨h,_,rfl⟩
 ·exact h.elim⟩
def UN:List (bK Empty):=⟨73,af,IB⟩::qL Empty [UK]
def acG:aH prog (λ_=>ae) UN:=aH.cons anw (kA (bP.cons (ant _) bP.nil))
def vcP (n:Nat) (f:fl) (args:List V) (X:V->Prop):Prop:=br (bM prog (λ_=>ae) UN) n f args [] [] λv _ _=>X v
def anx (p:Sd.aU) (ka:Nat->Option aI) (kn kc:Nat->Nat) (K:V->Prop):vcP 60 46 [.agg (fM p ka kn kc)] K=(True/\UM p.i kn K):=kR
def anz (q:Nat->Int) (kn:Nat->Nat):UM q kn (·=.int .i64 (nO q kn)):=by
 have k4:allI 1 64 [(kn 0:Int),(kn 1:Int),(kn 2:Int),(kn 3:Int)]=(AA kn&&uL (kn 3)):=by simp only[allI,kC,AA,uL,Bool.and_assoc,Bool.and_true]
 have t5:allI 0 15 [q 14,q 15,q 16,q 17,q 18,q 19,q 20,q 21,q 22,q 23,q 24,q 25,q 26,q 27,q 28,q 29,q 30,q 31,q 32,q 33]=Iz q:=by simp only[allI,Iz,Bool.and_assoc,Bool.and_true]
 unfold UM nO;refine aJ (λh=>?_) λh=>?_
 ·have h0:Iy q=ag:=(by simpa using h:mW (q 0) (q 1) (q 2) (q 3) (q 4)=ag);rw[if_pos h0]
 have h0:Iy q=af:=(by simpa using h:mW (q 0) (q 1) (q 2) (q 3) (q 4)=af);clear h;refine AB (λh1=>?_) λh1=>?_<;>rw[k4]at h1
 ·refine aJ (λa=>?_) λa=>aJ (λb=>?_) λb=>UI (λc=>UI (λd=>UI (λe=>?_) λe=>?_) λd=>?_) λc=>?_
  ·have a':(q 9==1)=ag:=by simpa using a
   simp[h0,h1,a']
  all_goals have a':(q 9==1)=af:=by simpa using a
  ·have b':(q 13==0)=ag:=by simpa using b
   simp[h0,h1,a',b']
  all_goals have b':(q 13==0)=af:=by simpa using b
  ·have r:CF q=af:=by simp[CF,c,d,e]
   have h2:(q 9==1&&(q 13==0&&CF q))=af:=by rw[a',b',r];rfl
   refine AB (λh3=>?_) λh3=>?_<;>rw[t5]at h3
   ·refine AB (λh4=>UJ (AB (λh5=>UJ (AB (λh6=>IA (λh7=>IA (λh8=>UJ (AB (λh9=>aJ (λu=>?_) λu=>AB (λv=>IA (λx=>IA (λy=>?_) λy=>?_) λx=>?_) λv=>?_) λh9=>?_)) λh8=>?_) λh7=>?_) λh6=>?_)) λh5=>?_)) λh4=>?_
    ·have u':(q 50==0)=ag:=by simpa using u
     simp[h0,h1,h2,h3,h4,h5,h6,h7,h8,h9,u']
    iterate 4
     ·have u':(q 50==0)=af:=by simpa using u
      simp[h0,h1,h2,h3, *]
    all_goals simp[h0,h1,h2,h3, *]
   ·simp[h0,h1,h2,h3]
  all_goals simp[h0,h1,a',b',CF, *]
 ·simp[h0,h1]
def anA (q:Nat->Int) (ka:Nat->Option aI) (kn kc:Nat->Nat) (w:aj):aX prog 46 #[.agg (CE q ka kn kc)] w λv w1=>v=.int .i64 (nO q kn)/\Ch [] w w1:=by
 have h:vcP 60 46 [.agg (fM ⟨q,λ_=>(0,λ_=>0)⟩ ka kn kc)] (·=.int .i64 (nO q kn)):=by rw[anx];exact⟨trivial,anz q kn⟩
 refine(eZ acG.T acG.Q 60 (C:=bM prog (λ_=>ae) UN) (ids:=[]) (bl:=[]) (ch:=[]) (R:=[]) (ms:=[]) (w0:=w) (w:=w) Gl.no rfl (St.nil [] w) h).mono ?_;rintro x w' ⟨y,more,bl',ch',rfl,h1,S,rfl⟩;exact⟨rfl,S.ch⟩
end
section
open Go Go.RowKit Go.BigFrame Sx
def f3 {α:Type} (a b c:α):Nat->α:=λj=>match j with|0=>a|1=>b|_=>c
def tH (p:Sd.aU) (ka:Nat->Option aI) (kn kc:Nat->Nat) (t:Sd.Tok) (bq:Nat) (D:Nat->Sd.eS) (bt:Nat) (sa be mo:Int) (mb:Sd.Label) (pt:Sd.fj) (hd:Nat->Int):Array ai:=#[.int .i64 (p.i 0),.int .i64 (p.i 1),.int .i64 (p.i 2),.int .i64 (p.i 3),.int .i64 (p.i 4),.slice (ka 0) (kn 0) (kc 0),.slice (ka 1) (kn 1) (kc 1),.slice (ka 2) (kn 2) (kc 2),.slice (ka 3) (kn 3) (kc 3),.int .i64 (p.i 9),.int .i64 (p.i 10),.int .i64 (p.i 11),.int .i64 (p.i 12),.int .i64 (p.i 13),.int .i64 (p.i 14),.int .i64 (p.i 15),.int .i64 (p.i 16),.int .i64 (p.i 17),.int .i64 (p.i 18),.int .i64 (p.i 19),.int .i64 (p.i 20),.int .i64 (p.i 21),.int .i64 (p.i 22),.int .i64 (p.i 23),.int .i64 (p.i 24),.int .i64 (p.i 25),.int .i64 (p.i 26),.int .i64 (p.i 27),.int .i64 (p.i 28),.int .i64 (p.i 29),.int .i64 (p.i 30),.int .i64 (p.i 31),.int .i64 (p.i 32),.int .i64 (p.i 33),.int .i64 (p.i 34),.int .i64 (p.i 35),.int .i64 (p.i 36),.int .i64 (p.i 37),.int .i64 (p.i 38),.int .i64 (p.i 39),.int .i64 (p.i 40),.int .i64 (p.i 41),.int .i64 (p.i 42),.int .i64 (p.i 43),.int .i64 (p.i 44),.int .i64 (p.i 45),.int .i64 (p.i 46),.int .i64 (p.i 47),.int .i64 (p.i 48),.int .i64 (p.i 49),.int .i64 (p.i 50),.int .i64 (p.i 51),.int .i64 (p.i 52),.int .i64 (p.i 53),.int .i64 (p.i 54),.int .i64 (p.i 55),.int .i64 t.aF,.int .i64 t.an,.int .i64 t.offer,.int .i64 t.oa.n,.int .i64 t.oa.most,.int .i64 t.la.n,.int .i64 t.la.most,.bool t.bad,.pointer (aa ⟨bq,0,ae⟩),.int .i64 (D 0).many,.bool (D 0).ji,.int .u8 ((D 0).aK 0),.int .u8 ((D 0).aK 1),.int .u8 ((D 0).aK 2),.int .u8 ((D 0).aK 3),.int .u8 ((D 0).aK 4),.int .u8 ((D 0).aK 5),.int .u8 ((D 0).aK 6),.int .u8 ((D 0).aK 7),.int .i64 (D 1).many,.bool (D 1).ji,.int .u8 ((D 1).aK 0),.int .u8 ((D 1).aK 1),.int .u8 ((D 1).aK 2),.int .u8 ((D 1).aK 3),.int .u8 ((D 1).aK 4),.int .u8 ((D 1).aK 5),.int .u8 ((D 1).aK 6),.int .u8 ((D 1).aK 7),.int .i64 (D 2).many,.bool (D 2).ji,.int .u8 ((D 2).aK 0),.int .u8 ((D 2).aK 1),.int .u8 ((D 2).aK 2),.int .u8 ((D 2).aK 3),.int .u8 ((D 2).aK 4),.int .u8 ((D 2).aK 5),.int .u8 ((D 2).aK 6),.int .u8 ((D 2).aK 7),.pointer (aa ⟨bt,0,ae⟩),.int .i64 sa,.int .i64 be,.int .i64 mo,.int .i64 mb.mQ,.int .i64 mb.source,.int .i64 mb.seq,.int .i64 pt.cls,.int .i64 pt.bh.a,.int .i64 pt.bh.b,.int .i64 pt.bh.c,.int .i64 pt.bh.d,.int .i64 pt.now.a,.int .i64 pt.now.b,.int .i64 pt.now.c,.int .i64 pt.now.d,.int .i64 pt.cd.mQ,.int .i64 pt.cd.source,.int .i64 pt.cd.seq,.int .u8 (hd 0),.int .u8 (hd 1),.int .u8 (hd 2),.int .u8 (hd 3),.int .u8 (hd 4),.int .u8 (hd 5),.int .u8 (hd 6),.int .u8 (hd 7),.int .u8 (hd 8),.int .u8 (hd 9),.int .u8 (hd 10),.int .u8 (hd 11),.int .u8 (hd 12),.int .u8 (hd 13),.int .u8 (hd 14),.int .u8 (hd 15),.int .u8 (hd 16),.int .u8 (hd 17),.int .u8 (hd 18),.int .u8 (hd 19),.int .u8 (hd 20),.int .u8 (hd 21),.int .u8 (hd 22),.int .u8 (hd 23),.int .u8 (hd 24),.int .u8 (hd 25),.int .u8 (hd 26),.int .u8 (hd 27),.int .u8 (hd 28),.int .u8 (hd 29),.int .u8 (hd 30),.int .u8 (hd 31)]
def ki (st:Bool×Sd.Timer) (az:Nat->Sd.gw) (b m:Int):Array ai:=#[.bool st.1,.int .i64 st.2.n,.int .i64 st.2.most,.bool (az 0).on,.int .i64 (az 0).dN.n,.int .i64 (az 0).dN.most,.int .i64 (az 0).role,.int .u8 ((az 0).key 0),.int .u8 ((az 0).key 1),.int .u8 ((az 0).key 2),.int .u8 ((az 0).key 3),.int .u8 ((az 0).key 4),.int .u8 ((az 0).key 5),.int .u8 ((az 0).key 6),.int .u8 ((az 0).key 7),.int .u8 ((az 0).key 8),.int .u8 ((az 0).key 9),.int .u8 ((az 0).key 10),.int .u8 ((az 0).key 11),.int .u8 ((az 0).key 12),.int .u8 ((az 0).key 13),.int .u8 ((az 0).key 14),.int .u8 ((az 0).key 15),.int .u8 ((az 0).key 16),.int .u8 ((az 0).key 17),.int .u8 ((az 0).key 18),.int .u8 ((az 0).key 19),.int .u8 ((az 0).key 20),.int .u8 ((az 0).key 21),.int .u8 ((az 0).key 22),.int .u8 ((az 0).key 23),.int .u8 ((az 0).key 24),.int .u8 ((az 0).key 25),.int .u8 ((az 0).key 26),.int .u8 ((az 0).key 27),.int .u8 ((az 0).key 28),.int .u8 ((az 0).key 29),.int .u8 ((az 0).key 30),.int .u8 ((az 0).key 31),.bool (az 0).seen.any,.int .i64 (az 0).seen.high,.int .u64 (az 0).seen.seen,.bool (az 1).on,.int .i64 (az 1).dN.n,.int .i64 (az 1).dN.most,.int .i64 (az 1).role,.int .u8 ((az 1).key 0),.int .u8 ((az 1).key 1),.int .u8 ((az 1).key 2),.int .u8 ((az 1).key 3),.int .u8 ((az 1).key 4),.int .u8 ((az 1).key 5),.int .u8 ((az 1).key 6),.int .u8 ((az 1).key 7),.int .u8 ((az 1).key 8),.int .u8 ((az 1).key 9),.int .u8 ((az 1).key 10),.int .u8 ((az 1).key 11),.int .u8 ((az 1).key 12),.int .u8 ((az 1).key 13),.int .u8 ((az 1).key 14),.int .u8 ((az 1).key 15),.int .u8 ((az 1).key 16),.int .u8 ((az 1).key 17),.int .u8 ((az 1).key 18),.int .u8 ((az 1).key 19),.int .u8 ((az 1).key 20),.int .u8 ((az 1).key 21),.int .u8 ((az 1).key 22),.int .u8 ((az 1).key 23),.int .u8 ((az 1).key 24),.int .u8 ((az 1).key 25),.int .u8 ((az 1).key 26),.int .u8 ((az 1).key 27),.int .u8 ((az 1).key 28),.int .u8 ((az 1).key 29),.int .u8 ((az 1).key 30),.int .u8 ((az 1).key 31),.bool (az 1).seen.any,.int .i64 (az 1).seen.high,.int .u64 (az 1).seen.seen,.bool (az 2).on,.int .i64 (az 2).dN.n,.int .i64 (az 2).dN.most,.int .i64 (az 2).role,.int .u8 ((az 2).key 0),.int .u8 ((az 2).key 1),.int .u8 ((az 2).key 2),.int .u8 ((az 2).key 3),.int .u8 ((az 2).key 4),.int .u8 ((az 2).key 5),.int .u8 ((az 2).key 6),.int .u8 ((az 2).key 7),.int .u8 ((az 2).key 8),.int .u8 ((az 2).key 9),.int .u8 ((az 2).key 10),.int .u8 ((az 2).key 11),.int .u8 ((az 2).key 12),.int .u8 ((az 2).key 13),.int .u8 ((az 2).key 14),.int .u8 ((az 2).key 15),.int .u8 ((az 2).key 16),.int .u8 ((az 2).key 17),.int .u8 ((az 2).key 18),.int .u8 ((az 2).key 19),.int .u8 ((az 2).key 20),.int .u8 ((az 2).key 21),.int .u8 ((az 2).key 22),.int .u8 ((az 2).key 23),.int .u8 ((az 2).key 24),.int .u8 ((az 2).key 25),.int .u8 ((az 2).key 26),.int .u8 ((az 2).key 27),.int .u8 ((az 2).key 28),.int .u8 ((az 2).key 29),.int .u8 ((az 2).key 30),.int .u8 ((az 2).key 31),.bool (az 2).seen.any,.int .i64 (az 2).seen.high,.int .u64 (az 2).seen.seen,.int .i64 b,.int .i64 m]
def anB (p:Sd.aU) (ka:Nat->Option aI) (kn kc:Nat->Nat) (w:aj):aX prog 46 #[.agg (lg p ka kn kc)] w λv w1=>v=.int .i64 (nO p.i kn)/\Ch [] w w1:=anA p.i ka kn kc w
def anC {q:Nat->Int} {kn:Nat->Nat} (h:nO q kn=0):1<=q 48/\q 48<=3:=by
 have:allI 1 3 [q 48,q 49]=af:=by
  cases e:allI 1 3 [q 48,q 49]with
  |true=>rfl
  |false=>
   exfalso;unfold nO at h
   repeat' split at h
   all_goals first|omega|(rename_i UO;simp[e]at UO)
 simp only[allI,kC,bD,decide_eq_true_eq]at this;exact this.1
def anD (w:aj):
 aX prog 51 #[] w λv w1=>v=.agg #[.int .i64 2,.int .i64 4,.int .i64 0]/\Ch [] w w1:=by
 have S0:=St.nil [] w;refine iZ Tryz.func51 rfl ?_;refine aR (aZ ?_);refine fc S0 (λb=>.pointer (aa ⟨b,0,ae⟩)) (.cells #[.int .i64 0,.int .i64 0,.int .i64 0] 41) ?_;intro bN jd dV;refine aT (aQ (aR (aZ ?_)));refine av (.agg #[.int .i64 2,.int .i64 4,.int .i64 0]) ?_;refine store_ dV 0 (.agg #[.int .i64 2,.int .i64 4,.int .i64 0]) bN 0 ?_;intro HI M6;refine aT (aQ (gC ?_));refine gD rfl (fR [.cell 0 41] [.agg #[.int .i64 2,.int .i64 4,.int .i64 0]] (.agg #[.int .i64 2,.int .i64 4,.int .i64 0]) ⟨og M6 0 3 bN 0,trivial⟩) ?_;exact⟨rfl,M6.ch⟩
def anE (w:aj):
 aX prog 27 #[.slice ae 0 0] w λv w1=>v=.agg (aD .u8 32 (λ_=>0))/\Ch [] w w1:=by
 have S0:=St.nil [] w;refine iZ Tryz.func27 rfl ?_;refine aR (aZ ?_);refine fc S0 (λb=>.pointer (aa ⟨b,0,ae⟩)) (.cells (aD .u8 32 (λ_=>0)) 46) ?_;intro bN jd dV;refine aT (aQ (aR (aZ ?_)));refine fc dV (λb=>.pointer (aa ⟨b,0,ae⟩)) (.cells (aD .u8 32 (λ_=>0)) 46) ?_;intro dJ nI dr;refine aT (aQ (aR (aR (aZ ?_))));refine av (.slice ae 0 0) ?_;refine av (.int .i64 0) ?_;refine av (.int .i64 0) ?_;refine aT (aQ (kx (Gw 24 (aR (aZ ?_)))));refine av (.bool ag) ?_;refine aT (aQ (aR (qT ?_)));refine wp_exit (mG (mG (wP (aQ (aR (aZ ?_))))));refine kS dr 0 32 (aD .u8 32 (λ_=>0)) dJ 0 ?_;refine store_ dr 1 (.agg (aD .u8 32 (λ_=>0))) bN 0 ?_;intro EG Cg;refine aT (aQ (gC ?_));refine gD rfl (fR [.cell 2 46] [.agg (aD .u8 32 (λ_=>0))] (.agg (aD .u8 32 (λ_=>0))) ⟨og Cg 1 32 bN 0,trivial⟩) ?_;exact⟨rfl,Cg.ch⟩
def vZ:List Sd.Rec->List ai
 |[]=>[]
 |r::l=>(recC r).toList++vZ l
def anF (l:List Sd.Rec) (r:Sd.Rec):vZ l++(recC r).toList=vZ (l++[r]):=by
 induction l with
 |nil=>simp[vZ]
 |cons a l ih=>simp[vZ,ih]
def anG (p:Sd.aU) (ka:Nat->Option aI) (kn kc:Nat->Nat) (t:Sd.Tok) (bq:Nat) (D:Nat->Sd.eS) (bt:Nat) (sa be mo:Int) (mb:Sd.Label) (pt:Sd.fj) (hd:Nat->Int) (xs:Option aI) (ns cs:Nat) (dW bc:Nat) (x:Option aI) (n c:Nat) (bl:List ao) (rl:List Sd.Rec) (kd so sq co ho:Int) {tG:aM} (w:aj) {ms:List Nat} {w0:aj} {bs:List ao} (S0:St ms w0 ([⟨0,ag,.cells (aD .u32 64 c_) tG (0,0)⟩,⟨dW,af,.cells #[.pointer (aa ⟨bc,0,ae⟩),.slice xs ns cs,.slice x n c] 135 (0,0)⟩,⟨bc,af,.cells (tH p ka kn kc t bq D bt sa be mo mb pt hd) 131 (0,0)⟩]++(bl++bs)) w) (hR:dD 6 64 (vZ rl) x n c bl) (hn:n<=1000):
 aX prog 107 #[.pointer (aa ⟨dW,0,ae⟩),.int .i64 kd,.int .i64 so,.int .i64 sq,.int .i64 co,.int .i64 ho] w λv w1=>∃x1 c1 jy,v=.tuple #[]/\dD 6 64 (vZ (rl++[⟨kd,so,sq,t.an,co,ho⟩])) x1 (n+1) c1 jy/\St ms w0 ([⟨0,ag,.cells (aD .u32 64 c_) tG (0,0)⟩,⟨dW,af,.cells #[.pointer (aa ⟨bc,0,ae⟩),.slice xs ns cs,.slice x1 (n+1) c1] 135 (0,0)⟩,⟨bc,af,.cells (tH p ka kn kc t bq D bt sa be mo mb pt (yj hd (⟨kd,so,sq,t.an,co,ho⟩:Sd.Rec))) 131 (0,0)⟩]++(jy++bs)) w1:=by
 refine iZ Tryz.func107 rfl ?_;refine aR (aZ ?_);refine av (.int .i64 kd) ?_;refine av (.int .i64 so) ?_;refine av (.int .i64 sq) ?_;refine dh ?_;refine av (.pointer (aa ⟨dW,0,ae⟩)) ?_;refine av (.pointer (aa ⟨dW,0,ae⟩)) ?_;refine mF S0 1 (.pointer (aa ⟨bc,0,ae⟩)) dW 0 ?_;refine av (.pointer (aa ⟨bc,0,ae⟩)) ?_;refine av (.pointer (aa ⟨bc,56,ae⟩)) ?_;refine av (.pointer (aa ⟨bc,57,ae⟩)) ?_;refine mF S0 2 (.int .i64 t.an) bc 57 ?_;refine av (.int .i64 co) ?_;refine av (.int .i64 ho) ?_;refine av (.agg #[.int .i64 kd,.int .i64 so,.int .i64 sq,.int .i64 t.an,.int .i64 co,.int .i64 ho]) ?_;refine fc S0 (λb=>.pointer (aa ⟨b,0,ae⟩)) (.cells #[.int .i64 0,.int .i64 0,.int .i64 0,.int .i64 0,.int .i64 0,.int .i64 0] 64) ?_;intro bN jd dV;refine store_ dV 0 (.agg #[.int .i64 kd,.int .i64 so,.int .i64 sq,.int .i64 t.an,.int .i64 co,.int .i64 ho]) bN 0 ?_;intro HI M6;refine aT (aQ (aR ?_));have dr:St ms w0 ([⟨bN,af,.cells #[.int .i64 kd,.int .i64 so,.int .i64 sq,.int .i64 t.an,.int .i64 co,.int .i64 ho] 64 (0,0)⟩,⟨0,ag,.cells (aD .u32 64 c_) tG (0,0)⟩,⟨dW,af,.cells #[.pointer (aa ⟨bc,0,ae⟩),.slice xs ns cs,.slice x n c] 135 (0,0)⟩,⟨bc,af,.cells (tH p ka kn kc t bq D bt sa be mo mb pt hd) 131 (0,0)⟩]++(bl++bs)) HI:=M6.re (R:=bs) [[⟨bN,af,.cells #[.int .i64 kd,.int .i64 so,.int .i64 sq,.int .i64 t.an,.int .i64 co,.int .i64 ho] 64 (0,0)⟩],[⟨0,ag,.cells (aD .u32 64 c_) tG (0,0)⟩],[⟨dW,af,.cells #[.pointer (aa ⟨bc,0,ae⟩),.slice xs ns cs,.slice x n c] 135 (0,0)⟩],[⟨bc,af,.cells (tH p ka kn kc t bq D bt sa be mo mb pt hd) 131 (0,0)⟩],bl] [0,1,2,3,4];have zD7:∀w',Ch ((bl).map ao.id) HI w'->St ms w0 ([⟨bN,af,.cells #[.int .i64 kd,.int .i64 so,.int .i64 sq,.int .i64 t.an,.int .i64 co,.int .i64 ho] 64 (0,0)⟩,⟨0,ag,.cells (aD .u32 64 c_) tG (0,0)⟩,⟨dW,af,.cells #[.pointer (aa ⟨bc,0,ae⟩),.slice xs ns cs,.slice x n c] 135 (0,0)⟩,⟨bc,af,.cells (tH p ka kn kc t bq D bt sa be mo mb pt hd) 131 (0,0)⟩]++bs) w':=λ_ hc=>dr.less (dD.wr hR) hc;refine agG (T':=64) dr hR 8 7 6 1 [.int .i64 kd,.int .i64 so,.int .i64 sq,.int .i64 t.an,.int .i64 co,.int .i64 ho] [] [.pointer (aa ⟨dW,0,ae⟩),.pointer (aa ⟨dW,0,ae⟩),.pointer (aa ⟨dW,0,ae⟩),.pointer (aa ⟨dW,2,ae⟩),.slice x n c,.agg #[.int .i64 kd,.int .i64 so,.int .i64 sq,.int .i64 t.an,.int .i64 co,.int .i64 ho],undef,undef] [[8,0],[8,1],[8,2],[8,3],[8,4],[8,5],[8,6],[8,7],[9,0],[9,1],[9,2],[9,3],[9,4],[9,5],[9,6],[9,7],[9,8],[10,0],[10,1],[10,2],[10,3],[10,4],[10,5],[10,6],[10,7],[10,9,8],[10,9]] (mO DU (mO DU (mO DU (mO DU (mO (Y_ zD7 2 dW 2) (mO (GK zD7 0 bN 0 6 #[.int .i64 kd,.int .i64 so,.int .i64 sq,.int .i64 t.an,.int .i64 co,.int .i64 ho]) (mO (eB_ 1 [.int .i64 kd,.int .i64 so,.int .i64 sq,.int .i64 t.an,.int .i64 co,.int .i64 ho] 64) (mO (eA_ dr hR 31 33 6 1 [.int .i64 kd,.int .i64 so,.int .i64 sq,.int .i64 t.an,.int .i64 co,.int .i64 ho] 48 oM (by unfold maxLen;omega) (e':=64)) (Qn))))))))) ?_;intro UP UQ acH ayX SF oB qj;refine av (.pointer (aa ⟨dW,0,ae⟩)) ?_;refine av (.pointer (aa ⟨dW,2,ae⟩)) ?_;refine store_ qj 2 (.slice UP (n+1) UQ) dW 2 ?_;intro EE rH;refine aT (aQ ?_);refine BB 13 [⟨0,λ_=>.pointer (aa ⟨dW,0,ae⟩),λ_=>[]⟩,⟨0,λ_=>.pointer (aa ⟨dW,0,ae⟩),λ_=>[]⟩,⟨0,λ_=>.pointer (aa ⟨dW,0,ae⟩),λ_=>[]⟩,⟨0,λ_=>.pointer (aa ⟨bc,0,ae⟩),λ_=>[]⟩,⟨0,λ_=>.pointer (aa ⟨dW,0,ae⟩),λ_=>[]⟩,⟨0,λ_=>.pointer (aa ⟨dW,0,ae⟩),λ_=>[]⟩,⟨0,λ_=>.pointer (aa ⟨dW,0,ae⟩),λ_=>[]⟩,⟨0,λ_=>.pointer (aa ⟨bc,0,ae⟩),λ_=>[]⟩,⟨0,λ_=>.pointer (aa ⟨bc,0,ae⟩),λ_=>[]⟩,⟨0,λ_=>.pointer (aa ⟨bc,114,ae⟩),λ_=>[]⟩,⟨0,λ_=>.agg (aD .u8 32 hd),λ_=>[]⟩,⟨0,λ_=>.agg #[.int .i64 kd,.int .i64 so,.int .i64 sq,.int .i64 t.an,.int .i64 co,.int .i64 ho],λ_=>[]⟩,⟨0,λ_=>.agg (aD .u8 32 (yj hd (⟨kd,so,sq,t.an,co,ho⟩:Sd.Rec))),λ_=>[]⟩] [[13,0],[13,1],[13,2],[13,3],[13,4],[13,5],[13,6],[13,7],[13,8],[13,9],[13,10],[13,11],[13,12],[14,0],[14,1],[14,2],[14,3],[14,4],[14,5],[14,6],[14,7],[14,8],[14,9],[14,10],[14,11],[14,12],[14,13],[15,0],[15,1],[15,2],[15,3],[15,4],[15,5],[15,6],[15,7],[15,8],[15,9],[15,10],[15,11],[15,12],[15,14,13],[15,14]] ?_ ?_
 ·refine step_cons ja ?_;refine step_cons ja ?_;refine step_cons ja ?_;refine step_cons (K1 rH 2 dW 0) ?_;refine step_cons ja ?_;refine step_cons ja ?_;refine step_cons ja ?_;refine step_cons (K1 rH 2 dW 0) ?_;refine step_cons ja ?_;refine step_cons ja ?_;refine step_cons (GI rH 3 bc 114 32 (aD .u8 32 hd)) ?_;refine step_cons (GI rH 0 bN 0 6 #[.int .i64 kd,.int .i64 so,.int .i64 sq,.int .i64 t.an,.int .i64 co,.int .i64 ho]) ?_;refine step_cons ?_ ?_
  ·intro acI Ci Tv ayY acJ;have HE:acI 47=.agg (aD .u8 32 hd):=(Sp.dT (acJ 10 47 kR kR)).1;have tj:acI 48=.agg #[.int .i64 kd,.int .i64 so,.int .i64 sq,.int .i64 t.an,.int .i64 co,.int .i64 ho]:=(Sp.dT (acJ 11 48 kR kR)).1;have xX:=rH.quiet Tv;refine qY ?_;refine nq [(47,.agg (aD .u8 32 hd)),(48,.agg #[.int .i64 kd,.int .i64 so,.int .i64 sq,.int .i64 t.an,.int .i64 co,.int .i64 ho])] (nr HE (nr tj (qW))) ?_;have pr:=xX.loc;refine Y.fY 28 #[.agg (aD .u8 32 hd),.agg #[.int .i64 kd,.int .i64 so,.int .i64 sq,.int .i64 t.an,.int .i64 co,.int .i64 ho]] ?_;refine(alZ hd (⟨kd,so,sq,t.an,co,ho⟩:Sd.Rec) _ (pr.at_ 1 _ rfl)).mono ?_;rintro _ aa2 ⟨rfl,k_⟩;have HG:=pr.quiet k_;exact⟨HG.ch,Sp.qX [] (all_nil)⟩
  exact BA
 intro rQ Mm Mx rR;have MA:rQ 0=.pointer (aa ⟨dW,0,ae⟩):=(Sp.dT (rR 0 kR)).1;have mi:rQ 1=.pointer (aa ⟨dW,0,ae⟩):=(Sp.dT (rR 1 kR)).1;have tB:rQ 2=.pointer (aa ⟨dW,0,ae⟩):=(Sp.dT (rR 2 kR)).1;have vW:rQ 3=.pointer (aa ⟨bc,0,ae⟩):=(Sp.dT (rR 3 kR)).1;have xY:rQ 4=.pointer (aa ⟨dW,0,ae⟩):=(Sp.dT (rR 4 kR)).1;have tu:rQ 5=.pointer (aa ⟨dW,0,ae⟩):=(Sp.dT (rR 5 kR)).1;have uE:rQ 6=.pointer (aa ⟨dW,0,ae⟩):=(Sp.dT (rR 6 kR)).1;have tD:rQ 7=.pointer (aa ⟨bc,0,ae⟩):=(Sp.dT (rR 7 kR)).1;have rK:rQ 8=.pointer (aa ⟨bc,0,ae⟩):=(Sp.dT (rR 8 kR)).1;have HT:rQ 9=.pointer (aa ⟨bc,114,ae⟩):=(Sp.dT (rR 9 kR)).1;have HH:rQ 10=.agg (aD .u8 32 hd):=(Sp.dT (rR 10 kR)).1;have TU:rQ 11=.agg #[.int .i64 kd,.int .i64 so,.int .i64 sq,.int .i64 t.an,.int .i64 co,.int .i64 ho]:=(Sp.dT (rR 11 kR)).1;have TV:rQ 12=.agg (aD .u8 32 (yj hd (⟨kd,so,sq,t.an,co,ho⟩:Sd.Rec))):=(Sp.dT (rR 12 kR)).1;have Ao:=rH.quiet Mx;refine⟨[.pointer (aa ⟨dW,0,ae⟩),.pointer (aa ⟨dW,0,ae⟩),.pointer (aa ⟨dW,0,ae⟩),.pointer (aa ⟨bc,0,ae⟩),.pointer (aa ⟨dW,0,ae⟩),.pointer (aa ⟨dW,0,ae⟩),.pointer (aa ⟨dW,0,ae⟩),.pointer (aa ⟨bc,0,ae⟩),.pointer (aa ⟨bc,0,ae⟩),.pointer (aa ⟨bc,114,ae⟩),.agg (aD .u8 32 hd),.agg #[.int .i64 kd,.int .i64 so,.int .i64 sq,.int .i64 t.an,.int .i64 co,.int .i64 ho],.agg (aD .u8 32 (yj hd (⟨kd,so,sq,t.an,co,ho⟩:Sd.Rec)))],kR,eA MA (eA mi (eA tB (eA vW (eA xY (eA tu (eA uE (eA tD (eA rK (eA HT (eA HH (eA TU (eA TV (DO))))))))))))),?_⟩;refine av (.pointer (aa ⟨bc,0,ae⟩)) ?_;refine av (.pointer (aa ⟨bc,114,ae⟩)) ?_;refine store_ Ao 3 (.agg (aD .u8 32 (yj hd (⟨kd,so,sq,t.an,co,ho⟩:Sd.Rec)))) bc 114 ?_;intro amf ML;refine aT ?_;refine end_ rfl (fR [] [] (.tuple #[]) trivial) ?_;exact⟨UP,UQ,acH,rfl,anF rl _▸oB,ML.re (R:=bs) [[⟨bN,af,.cells #[.int .i64 kd,.int .i64 so,.int .i64 sq,.int .i64 t.an,.int .i64 co,.int .i64 ho] 64 (0,0)⟩],[⟨0,ag,.cells (aD .u32 64 c_) tG (0,0)⟩],[⟨dW,af,.cells #[.pointer (aa ⟨bc,0,ae⟩),.slice xs ns cs,.slice UP (n+1) UQ] 135 (0,0)⟩],[⟨bc,af,.cells (tH p ka kn kc t bq D bt sa be mo mb pt (yj hd (⟨kd,so,sq,t.an,co,ho⟩:Sd.Rec))) 131 (0,0)⟩],acH] [1,2,3,4]⟩
end
section
open Go Go.RowKit Go.BigFrame Sx Vx
structure One where
 a:Sd.Ask
 came:Int
def fN:List One->Prop
 |[]=>True
 |[_]=>True
 |[x,y]=>x.a.bU<y.a.bU/\¬x.a.source=y.a.source
 |[x,y,z]=>(x.a.bU<y.a.bU/\x.a.bU<z.a.bU/\¬y.a.bU=z.a.bU)/\¬x.a.source=y.a.source/\¬x.a.source=z.a.source/\¬y.a.source=z.a.source
 |_=>False
def cy:List One->List Sd.Ask
 |[]=>[]
 |[x]=>[x.a]
 |[x,y]=>[x.a,y.a]
 |[x,y,z]=>if y.a.bU<z.a.bU then[x.a,y.a,z.a]else[x.a,z.a,y.a]
 |_=>[]
def anH (t:One):Array ai:=#[.int .i64 t.a.source,.int .i64 t.a.bU,.int .i64 t.a.dy.n,.int .i64 t.a.dy.most,.int .u64 t.came]
def iu:List One->List ai
 |[]=>[]
 |e::es=>(anH e).toList++iu es
def rS:List Sd.Ask->List ai
 |[]=>[]
 |e::es=>(MD e).toList++rS es
def QS (bq:Nat) (most:Int) (L:List Sd.Ask) (bl:List ao):Prop:=∃es x c came rows,bl=⟨bq,af,.cells #[.slice x es.length c,.int .i64 most,.int .u64 came] 170 (0,0)⟩::rows/\dD 5 190 (iu es) x es.length c rows/\fN es/\cy es=L
def uM (e:One):List V:=[.int .i64 e.a.source,.int .i64 e.a.bU,.int .i64 e.a.dy.n,.int .i64 e.a.dy.most,.int .u64 e.came]
def qn (a:Sd.Ask):List V:=[.int .i64 a.source,.int .i64 a.bU,.int .i64 a.dy.n,.int .i64 a.dy.most]
def fZ:List One->List V
 |[]=>[]
 |e::l=>uM e++fZ l
def dL (l:List One) (t:List ai):VB:=⟨af,⟨190,(0,0)⟩,fZ l++[.rest t]⟩
def cC (v:V) (most came:Int):VB:=⟨af,⟨170,(0,0)⟩,[v,.int .i64 most,.int .u64 came]⟩
def yu (ids:List Nat):∀l:List One,ak ids (fZ l)=iu l
 |[]=>rfl
 |a::l=>by rw[fZ,jK,yu ids l];rfl
def UR:∀l:List One,(iu l).length=l.length*5
 |[]=>rfl
 |a::l=>by simp only[iu,fL,UR l,jf,n9];show 5+_=_;omega
def iH (n:Nat) (f:fl) (args:List V) (bl:List VB) (K:VK Empty):Prop:=br (gy prog (λ_=>ae) ([]:List (bK Empty)) (Hy prog) Me) n f args bl [] K
def E_ {n f n0:Nat} {args:List V} {bl:List VB} {K:VK Empty} (h:iH n f args bl (bA n0 K)) {ids:List Nat} (hl:ids.length=bl.length) (hn:n0<=ids.length) {bs:List ao} {ms:List Nat} {w0 w:aj} (S:St ms w0 (lits ids ids bl++bs) w):
 aX prog f (aE ids args).toArray w λv w1=>∃x more b,v=den (ids.take n0++more) x/\(ids.take n0++more).length=b.length/\St ms w0 (lits (ids.take n0++more) (ids.take n0++more) b++bs) w1/\K x b []:=by
 refine(eZ (aH.nil (G:=Empty) (P:=prog) (gl:=λ_=>ae)).T (aH.nil (G:=Empty) (P:=prog) (gl:=λ_=>ae)).Q n (C:=gy prog (λ_=>ae) ([]:List (bK Empty)) (Hy prog) Me) (ids:=ids) (bl:=bl) (ch:=[]) (R:=bs) Gl.no hl S h).mono ?_;rintro v w' ⟨y,more,bl',ch',rfl,h1,S',hK⟩
 match ch',S',hK with
 |[],S',hK=>
  obtain⟨v2,cn,bl2,e,cX,S2,hK⟩:=iP (n0:=n0) h1 (by simp;omega) S' hK;rw[List.take_append_of_le_length hn]at e cX S2;exact⟨v2,cn,bl2,e,cX,S2,hK⟩
 |e::_,_,_=>nomatch e
def KP (most:Int) (y:V) (M:List Sd.Ask):VK Empty:=λx b _=>x=y/\∃es cm,fN es/\cy es=M/\((es=[]/\b=[cC (.raw (.slice ae 0 0)) most cm])\/∃c t,b=[cC (.sl 1 0 es.length c) most cm,⟨af,⟨190,(0,0)⟩,fZ es++t⟩]/\bu 0 t=af/\es.length<=c/\cD (fZ es++t)=c*5)
def acK {f:Nat} {ar:List V} {most came:Int} {y:V} {M:List Sd.Ask} {es:List One} {x:Option aI} {c bq:Nat} {rows bs:List ao} {ms:List Nat} {w0 w:aj} (hy:da 0 y=af) (hr:dD 5 190 (iu es) x es.length c rows)
 (hz:es=[]->iH 90 f (.ptr 0 0::ar) [cC (.raw (.slice ae 0 0)) most came] (bA 1 (KP most y M)))
 (h:∀t,es.length<=c->cD (fZ es++[.rest t])=c*5->iH 90 f (.ptr 0 0::ar) [cC (.sl 1 0 es.length c) most came,dL es t] (bA 1 (KP most y M)))
 (has:∀ids,aE ids ar=aE [] ar) (S:St ms w0 (⟨bq,af,.cells #[.slice x es.length c,.int .i64 most,.int .u64 came] 170 (0,0)⟩::(rows++bs)) w):
 aX prog f (#[.pointer (aa ⟨bq,0,ae⟩)]++(aE [] ar).toArray) w λv w1=>∃bl',v=den [] y/\QS bq most M bl'/\St ms w0 (bl'++bs) w1:=by
 have fin:∀ids:List Nat,(∃r,ids=bq::r)->aX prog f (aE ids (.ptr 0 0::ar)).toArray w (λv w1=>∃x more b,v=den (ids.take 1++more) x/\(ids.take 1++more).length=b.length/\St ms w0 (lits (ids.take 1++more) (ids.take 1++more) b++bs) w1/\KP most y M x b [])->
  aX prog f (#[.pointer (aa ⟨bq,0,ae⟩)]++(aE [] ar).toArray) w λv w1=>∃bl',v=den [] y/\QS bq most M bl'/\St ms w0 (bl'++bs) w1:=by
  rintro ids ⟨r,rfl⟩ hg;have e0:(aE (bq::r) (.ptr 0 0::ar)).toArray=#[.pointer (aa ⟨bq,0,ae⟩)]++(aE [] ar).toArray:=by
   apply fD;simp only[aE,den,has,Gt];rfl
  rw[e0]at hg;refine hg.mono ?_;rintro v w1 ⟨v2,more,b,rfl,hl,S1,rfl,fq,cm,hH,hA,hb⟩;simp only[List.take_succ_cons,PS,wJ]at hl S1⊢;have ey:den (bq::more) v2=den [] v2:=g_ (ids:=[]) (more:=bq::more) v2 hy;rcases hb with⟨rfl,rfl⟩|⟨c',t,rfl,ht,hc,hs⟩
  ·obtain rfl:more=[]:=by simpa using hl
   exact⟨_,ey,⟨[],ae,0,cm,[],rfl,uf _ _,hH,hA⟩,S1⟩
  ·match more,hl with
   |[b2],_=>
    have e1:ak [bq,b2] (fZ fq++t)=iu fq++ak [] t:=by
     rw[jK,yu];exact congrArg _ (jl (ids:=[]) (more:=[bq,b2]) t ht)
    have e2:lits [bq,b2] [bq,b2] [cC (.sl 1 0 fq.length c') most cm,⟨af,⟨190,(0,0)⟩,fZ fq++t⟩]=⟨bq,af,.cells #[.slice (aa ⟨b2,0,ae⟩) fq.length c',.int .i64 most,.int .u64 cm] 170 (0,0)⟩::[⟨b2,af,.cells (iu fq++ak [] t).toArray 190 (0,0)⟩]:=by
     rw[<-e1];rfl
    rw[e2]at S1;refine⟨_,ey,⟨fq,aa ⟨b2,0,ae⟩,c',cm,_,rfl,⟨UR fq,hc,.inr ⟨b2,ak [] t,rfl,rfl,?_⟩⟩,hH,hA⟩,S1⟩;rw[<-e1,lF,hs]
 obtain⟨_,hle,iL⟩:=hr;rcases iL with⟨rfl,h0,rfl,rfl⟩|⟨b,t,rfl,rfl,hlen⟩
 ·obtain rfl:es=[]:=lz h0;exact fin [bq] ⟨[],rfl⟩ (E_ (hz rfl) rfl sP S)
 ·have e3:lits [bq,b] [bq,b] [cC (.sl 1 0 es.length c) most came,dL es t]=⟨bq,af,.cells #[.slice (aa ⟨b,0,ae⟩) es.length c,.int .i64 most,.int .u64 came] 170 (0,0)⟩::[⟨b,af,.cells (iu es++t).toArray 190 (0,0)⟩]:=by
   simp only[lits,aC,dL,jK,yu,ak,cl,cT];rfl
  refine fin [bq,b] ⟨[b],rfl⟩ (E_ (h t hle ?_) rfl sP (by rw[e3];exact S));rw[<-lF (ids:=[]),jK,yu];simpa[ak,cl]using hlen
def Fa (a b:One) (X Y:Prop):Prop:=cond (a.a.bU !=b.a.bU) (cond (decide (a.a.bU<b.a.bU)) X Y) (cond (decide (a.came<b.came)) X Y)
def AD (a b:One) (X Y:Prop):Prop:=cond (a.a.bU !=b.a.bU) (cond (!decide (a.a.bU<b.a.bU)) Y X) (cond (!decide (a.came<b.came)) Y X)
def CI (s:Int) (pC:Nat->Prop) (IC:Prop):List One->Nat->Prop
 |[],_=>IC
 |e::l,i=>cond (e.a.source==s) (pC i) (CI s pC IC l (i+1))
def M7 (k:List One->Prop):List One->Nat->Prop
 |[a,b],0=>k [b,a]
 |[a,b,c],0=>AD b c (k [b,c,a]) (k [c,b,a])
 |[a,b,c],1=>AD c a (k [c,a,b]) (k [a,c,b])
 |l,_=>k l
def ID (es:List One) (s:Int) (k:Bool->List One->Nat->Prop):Prop:=CI s (λi=>M7 (λl=>k af l (es.length-1)) es i) (k ag es es.length) es 0
def M8 {a b:One} {X Y:Prop} (hr:¬a.a.bU=b.a.bU) (h1:a.a.bU<b.a.bU->X) (h2:b.a.bU<a.a.bU->Y):Fa a b X Y:=by
 unfold Fa;have e:(a.a.bU !=b.a.bU)=af:=by simpa using hr
 rw[e,cond_true];exact aJ (λh=>h1 (of_decide_eq_true h)) λh=>h2 (by have:=of_decide_eq_false h;omega)
def M9 {a b:One} {X Y:Prop} (hr:¬a.a.bU=b.a.bU) (h1:a.a.bU<b.a.bU->X) (h2:b.a.bU<a.a.bU->Y):AD a b X Y:=by
 unfold AD;have e:(a.a.bU !=b.a.bU)=af:=by simpa using hr
 rw[e,cond_true];exact aJ (λh=>h2 (by have:¬a.a.bU<b.a.bU:=by simpa using h
                                      omega)) λh=>h1 (by simpa using h)
def anI (s:Int) {k:Bool->List One->Nat->Prop}:∀{es:List One},fN es->(∀b l m,b=Sd.Q.waits (cy es) s->l.length=es.length->fN (l.take m)->cy (l.take m)=Sd.Q.drop (cy es) s->m<=es.length->k b l m)->ID es s k
 |[],hH,h=>h _ [] 0 rfl rfl trivial rfl sP
 |[a],hH,h=>by
  simp only[ID,CI,M7];refine aJ (λh1=>h _ _ _ ?_ rfl ?_ ?_ ?_) (λh1=>h _ _ _ ?_ rfl ?_ ?_ ?_)<;>simp at h1<;>simp[cy,fN,Sd.Q.drop,Sd.Q.waits,h1]
 |[a,b],hH,h=>by
  simp only[ID,CI,M7];obtain⟨hr,hs⟩:=hH;have ie:¬b.a.source=a.a.source:=λh=>hs h.symm;refine aJ (λh1=>?_) (λh1=>aJ (λh2=>?_) (λh2=>?_));all_goals
   refine h _ _ _ ?_ rfl ?_ ?_ ?_<;>clear h;all_goals (simp only[beq_iff_eq,beq_eq_false_iff_ne,ne_eq]at*;subst_vars;simp[cy,fN,Sd.Q.drop,Sd.Q.waits, *])
 |[a,b,c],hH,h=>by
  simp only[ID,CI,M7];obtain⟨⟨r1,r2,r3⟩,s1,s2,s3⟩:=hH;have s1':¬b.a.source=a.a.source:=λh=>s1 h.symm;have s2':¬c.a.source=a.a.source:=λh=>s2 h.symm;have s3':¬c.a.source=b.a.source:=λh=>s3 h.symm;have r4:b.a.bU<c.a.bU\/c.a.bU<b.a.bU:=oM;refine aJ (λh1=>M9 r3 (λh4=>?_) (λh4=>?_)) (λh1=>aJ (λh2=>M9 oM (λh4=>absurd h4 oM) (λh4=>?_)) (λh2=>aJ (λh3=>?_) (λh3=>?_)));all_goals
   refine h _ _ _ ?_ rfl ?_ ?_ ?_<;>clear h;all_goals (rcases r4 with r4|r4<;>have r5:=KI r4<;>simp only[beq_iff_eq,beq_eq_false_iff_ne,ne_eq]at*<;>subst_vars<;>simp[cy,fN,Sd.Q.drop,Sd.Q.waits, *]<;>omega)
 |_::_::_::_::_,hH,_=>absurd hH (by simp[fN])
def acL (x:One) (k:List One->Prop):List One->Prop
 |[]=>k [x]
 |[a]=>AD x a (k [x,a]) (k [a,x])
 |[a,b]=>AD x a (k [x,b,a]) (k [a,b,x])
 |[a,b,c]=>AD x b (AD x a (k [x,a,c,b]) (k [a,x,c,b])) (k [a,b,c,x])
 |_=>False
def anJ (x:One) {k:List One->Prop}:∀{es:List One},fN es->es.length<3->(∀e∈cy es,¬e.source=x.a.source/\¬e.bU=x.a.bU)->(∀l,l.length=es.length+1->fN l->cy l=Sd.Q.insert (cy es) x.a->k l)->acL x k es
 |[],hH,_,_,h=>h _ rfl trivial rfl
 |[a],hH,_,hr,h=>by
  obtain⟨h1,h2⟩:=hr a.a (by simp[cy]);have US:¬x.a.source=a.a.source:=λh=>h1 h.symm;refine M9 oM (λh4=>h _ rfl ?_ ?_) (λh4=>h _ rfl ?_ ?_)<;>clear h<;>have h5:=KI h4<;>have h6:=Int.le_of_lt h4<;>have h7:=Int.not_le.2 h4<;>simp[cy,fN,Sd.Q.insert,List.takeWhile,List.dropWhile, *]
 |[a,b],hH,_,hr,h=>by
  obtain⟨r1,s1⟩:=hH;obtain⟨h1,h2⟩:=hr a.a (by simp[cy]);obtain⟨g1,g2⟩:=hr b.a (by simp[cy]);have US:¬x.a.source=a.a.source:=λh=>h1 h.symm;have MW:¬x.a.source=b.a.source:=λh=>g1 h.symm;have s1':¬b.a.source=a.a.source:=λh=>s1 h.symm;have r4:b.a.bU<x.a.bU\/x.a.bU<b.a.bU:=oM;refine M9 oM (λh4=>h _ rfl ?_ ?_) (λh4=>h _ rfl ?_ ?_)<;>clear h hr<;>rcases r4 with r4|r4<;>have r5:=KI r4<;>have r6:=Int.le_of_lt r4<;>have r7:=Int.not_le.2 r4<;>have h5:=KI h4<;>have h6:=Int.le_of_lt h4<;>have h7:=Int.not_le.2 h4<;>have r8:=KI r1<;>
   simp[cy,fN,Sd.Q.insert,List.takeWhile,List.dropWhile, *]<;>omega
 |_::_::_::_,_,hl,_,_=>absurd hl sP
def acM (k:List One->Prop):List One->Prop
 |[a,b]=>Fa b a (k [b,a]) (k [a,b])
 |[a,b,c]=>Fa b a (S b a c) (S a b c)
 |l=>k l
where S (p q c:One):Prop:=Fa c q (Fa c p (k [c,p,q]) (k [p,c,q])) (k [p,q,c])
def anK {k:List One->Prop}:∀{es:List One},fN es->(∀l,l.map (·.a)=cy es->l.length=es.length->k l)->acM k es
 |[],hH,h=>h _ rfl rfl
 |[a],hH,h=>h _ rfl rfl
 |[a,b],hH,h=>M8 (by obtain⟨r,_⟩:=hH;omega) (λh4=>absurd h4 (by obtain⟨r,_⟩:=hH;omega)) λ_=>h _ rfl rfl
 |[a,b,c],hH,h=>by
  obtain⟨⟨r1,r2,r3⟩,_⟩:=hH;refine M8 oM (λh4=>absurd h4 oM) λ_=>M8 oM (λh4=>M8 oM (λh5=>absurd h5 oM) λ_=>h _ ?_ rfl) λh4=>h _ ?_ rfl
  ·simp[cy,KI h4]
  ·simp[cy,h4]
 |_::_::_::_::_,hH,_=>absurd hH (by simp[fN])
def IE {most cm:Int} {y:V} {M:List Sd.Ask} {l:List One} {m c:Nat} {t:List ai} (hm:m<=l.length) (hc:l.length<=c) (hs:cD (fZ l++[.rest t])=c*5) (hH:fN (l.take m)) (hA:cy (l.take m)=M):KP most y M y [cC (.sl 1 0 m c) most cm,dL l t] []:=by
 have e1:(l.take m).length=m:=by rw[zr];omega
 have e2:∀a b:List One,fZ (a++b)=fZ a++fZ b:=λa b=>by
  induction a with
  |nil=>rfl
  |cons x a ih=>simp only[fm,fZ,ih,bW]
 have e3:fZ l++[.rest t]=fZ (l.take m)++(fZ (l.drop m)++[.rest t]):=by
  rw[<-bW,<-e2,jH]
 have e4:∀l:List One,bu 0 (fZ l++[.rest t])=af:=λl=>by
  induction l with
  |nil=>rfl
  |cons x l ih=>simp only[fZ,uM,fm,fQ,bu,ih];rfl
 refine⟨rfl,l.take m,cm,hH,hA,.inr ⟨c,fZ (l.drop m)++[.rest t],?_,e4 _,oM,by rw[<-e3];exact hs⟩⟩;rw[e1,<-e3];rfl
def yw (t:List ai):∀l:List One,cD (fZ l++[.rest t])=l.length*5+t.length
 |[]=>by simp[fZ,cD,Ld]
 |e::l=>by
  have:=yw t l;simp only[fZ,uM,fm,fQ,cD,Ld,this,jf];omega
section
variable(e0 e1 e2:One) (n c:Nat) (t:List ai) (most came s:Int) (K:VK Empty)
def dK (l:List One):Prop:=ID l s λr l m=>K (.bool r) [cC (.sl 1 0 m c) most came,dL l t] []
def anL:iH 90 103 [.ptr 0 0,.int .i64 s] [cC (.raw (.slice ae 0 0)) most came] (bA 1 K)=K (.bool ag) [cC (.raw (.slice ae 0 0)) most came] []:=kR
def anM:iH 90 103 [.ptr 0 0,.int .i64 s] [cC (.sl 1 0 0 c) most came,dL [] t] (bA 1 K)=dK c t most came s K []:=kR
def anN:iH 90 103 [.ptr 0 0,.int .i64 s] [cC (.sl 1 0 [e0].length (c+[e0].length)) most came,dL [e0] t] (bA 1 K)=dK (c+[e0].length) t most came s K [e0]:=kR
def anO:iH 90 103 [.ptr 0 0,.int .i64 s] [cC (.sl 1 0 [e0,e1].length (c+[e0,e1].length)) most came,dL [e0,e1] t] (bA 1 K)=dK (c+[e0,e1].length) t most came s K [e0,e1]:=kR
def anP:iH 90 103 [.ptr 0 0,.int .i64 s] [cC (.sl 1 0 [e0,e1,e2].length (c+[e0,e1,e2].length)) most came,dL [e0,e1,e2] t] (bA 1 K)=dK (c+[e0,e1,e2].length) t most came s K [e0,e1,e2]:=kR
end
def anQ {c:Nat} {t:List ai} {most came s:Int} {K:VK Empty}:∀{es:List One},fN es->dK (c+es.length) t most came s K es->Hd (iH 90 103 [.ptr 0 0,.int .i64 s] [cC (.sl 1 0 es.length (c+es.length)) most came,dL es t] (bA 1 K))
 |[],_,h=>⟨by rw[Kz,anM];exact h⟩
 |[e0],_,h=>⟨by rw[anN];exact h⟩
 |[e0,e1],_,h=>⟨by rw[anO];exact h⟩
 |[e0,e1,e2],_,h=>⟨by rw[anP];exact h⟩
 |_::_::_::_::_,hH,_=>absurd hH (by simp[fN])
def anR {es:List One} (hH:fN es) {most came s:Int} {c:Nat} {t:List ai} (hc:es.length<=c) (hs:cD (fZ es++[.rest t])=c*5):dK c t most came s (KP most (.bool (Sd.Q.waits (cy es) s)) (Sd.Q.drop (cy es) s)) es:=
 anI s hH λb l m hb hl h1 h2 hm=>by
  subst hb;exact IE oM oM (by rw[<-hs,yw,yw,hl]) h1 h2
def anS {bq:Nat} {most:Int} {L:List Sd.Ask} {bl bs:List ao} {ms:List Nat} {w0 w:aj} (s:Int) (hQ:QS bq most L bl) (S0:St ms w0 (bl++bs) w):
 aX prog 103 #[.pointer (aa ⟨bq,0,ae⟩),.int .i64 s] w λv w1=>∃bl',v=.bool (Sd.Q.waits L s)/\QS bq most (Sd.Q.drop L s) bl'/\St ms w0 (bl'++bs) w1:=by
 obtain⟨es,x,c,came,rows,rfl,hr,hH,rfl⟩:=hQ;refine acK (f:=103) (ar:=[.int .i64 s]) (y:=.bool (Sd.Q.waits (cy es) s)) rfl hr (λh0=>?_) (λt hc hs=>?_) (λ_=>rfl) S0
 ·subst h0;rw[anL];exact⟨rfl,[],came,trivial,rfl,.inl ⟨rfl,rfl⟩⟩
 ·have h:=anR hH (most:=most) (came:=came) (s:=s) hc hs;obtain⟨d,hd⟩:∃d,c=d+es.length:=⟨c-es.length,oM⟩;rw[hd]at h⊢;exact(anQ hH h).h
section
variable(e0 e1 e2:One) (a:Sd.Ask) (c:Nat) (t:List ai) (most came:Int) (K:VK Empty)
def pK (es:List One) (n c':Nat) (u:List ai):Prop:=acL ⟨a,came⟩ (λl=>K (.int .i64 0) [cC (.sl 1 0 n c') most (u64.wrap (came+1)),dL l u] []) es
def pX (es:List One):Prop:=CI a.source (λ_=>K (.int .i64 27) [cC (.sl 1 0 es.length c) most came,dL es t] []) (cond (decide ((es.length:Int)>=most)) (K (.int .i64 3) [cC (.sl 1 0 es.length c) most came,dL es t] [])
 ((es.length<=c/\cD (fZ es++[.rest t])=c*5)/\(∀(c':Nat) (u:List ai),es.length+1<=c'->cD (fZ (es++[⟨a,came⟩])++[.rest u])=c'*5->pK a most came K es (es.length+1) c' u)/\
   (∀(c':Nat) (u:List ai),es.length+1<=c'->cD (fZ (es++[⟨a,came⟩])++[.rest u])=c'*5->pK a most came K es (es.length+1) c' u))) es 0
def anT:iH 90 217 [.ptr 0 0,.agg (qn a)] [cC (.raw (.slice ae 0 0)) most came] (bA 1 K)=cond (decide ((0:Int)>=most)) (K (.int .i64 3) [cC (.raw (.slice ae 0 0)) most came] [])
 (∀(c':Nat) (u:List ai),1<=c'->cD (fZ [⟨a,came⟩]++[.rest u])=c'*5->pK a most came K [] 1 c' u):=kR
def anU:iH 90 217 [.ptr 0 0,.agg (qn a)] [cC (.sl 1 0 0 0) most came,dL [] t] (bA 1 K)=cond (decide ((0:Int)>=most)) (K (.int .i64 3) [cC (.sl 1 0 0 0) most came,dL [] t] [])
 (∀(c':Nat) (u:List ai),1<=c'->cD (fZ [⟨a,came⟩]++[.rest u])=c'*5->pK a most came K [] 1 c' u):=kR
def anV:iH 90 217 [.ptr 0 0,.agg (qn a)] [cC (.sl 1 0 0 (c+1)) most came,dL [] t] (bA 1 K)=pX a (c+1) t most came K []:=kR
def anW:iH 90 217 [.ptr 0 0,.agg (qn a)] [cC (.sl 1 0 [e0].length c) most came,dL [e0] t] (bA 1 K)=pX a c t most came K [e0]:=kR
def anX:iH 90 217 [.ptr 0 0,.agg (qn a)] [cC (.sl 1 0 [e0,e1].length c) most came,dL [e0,e1] t] (bA 1 K)=pX a c t most came K [e0,e1]:=kR
def anY:iH 90 217 [.ptr 0 0,.agg (qn a)] [cC (.sl 1 0 [e0,e1,e2].length c) most came,dL [e0,e1,e2] t] (bA 1 K)=pX a c t most came K [e0,e1,e2]:=kR
end
def KS (n:Nat) (B:List VB) (M:List Sd.Ask):VK Empty:=λx b _=>∃l c u,x=.sl 2 0 n c/\b=B++[dL l u]/\l.map (·.a)=M/\l.length=n/\n<=c/\cD (fZ l++[.rest u])=c*5
section
variable(e0 e1 e2:One) (c:Nat) (t:List ai) (most came:Int) (K:VK Empty)
def sX (es:List One):Prop:=∀(c':Nat) (u:List ai),es.length<=c'->cD (fZ es++[.rest u])=c'*5->acM (λl=>K (.sl 2 0 es.length c') [cC (.sl 1 0 es.length c) most came,dL es t,dL l u] []) es
def anZ:iH 90 81 [.ptr 0 0] [cC (.raw (.slice ae 0 0)) most came] (bA 1 K)=K (.raw (.slice ae 0 0)) [cC (.raw (.slice ae 0 0)) most came] []:=kR
def an0:iH 90 81 [.ptr 0 0] [cC (.sl 1 0 0 c) most came,dL [] t] (bA 2 K)=K (.sl 2 0 0 0) [cC (.sl 1 0 0 c) most came,dL [] t,⟨af,⟨190,(0,0)⟩,[]⟩] []:=kR
def an1:iH 90 81 [.ptr 0 0] [cC (.sl 1 0 [e0].length (c+[e0].length)) most came,dL [e0] t] (bA 2 K)=sX (c+[e0].length) t most came K [e0]:=kR
def an2:iH 90 81 [.ptr 0 0] [cC (.sl 1 0 [e0,e1].length (c+[e0,e1].length)) most came,dL [e0,e1] t] (bA 2 K)=sX (c+[e0,e1].length) t most came K [e0,e1]:=kR
def an3:iH 90 81 [.ptr 0 0] [cC (.sl 1 0 [e0,e1,e2].length (c+[e0,e1,e2].length)) most came,dL [e0,e1,e2] t] (bA 2 K)=sX (c+[e0,e1,e2].length) t most came K [e0,e1,e2]:=kR
def mq (b:VB):VB:=⟨ag,b.ty,b.c⟩
def kM:List Sd.Ask->Sd.Ask×Int
 |[]=>(⟨0,0,⟨0,0⟩⟩,2)
 |a::_=>(a,0)
def hV (l:List Sd.Ask):V:=.ay [.agg (qn (kM l).1),.int .i64 (kM l).2]
def an4:iH 30 227 [.ptr 0 0] [mq (cC (.raw (.slice ae 0 0)) most came)] (bA 0 K)=K (hV []) [] []:=kR
def an5:iH 30 227 [.ptr 0 0] [mq (cC (.sl 1 0 0 c) most came),mq (dL [] t)] (bA 0 K)=K (hV []) [] []:=kR
def an6:iH 30 227 [.ptr 0 0] [mq (cC (.sl 1 0 [e0].length c) most came),mq (dL [e0] t)] (bA 0 K)=K (hV [e0.a]) [] []:=kR
def an7:iH 30 227 [.ptr 0 0] [mq (cC (.sl 1 0 [e0,e1].length c) most came),mq (dL [e0,e1] t)] (bA 0 K)=K (hV [e0.a]) [] []:=kR
def an8:iH 30 227 [.ptr 0 0] [mq (cC (.sl 1 0 [e0,e1,e2].length c) most came),mq (dL [e0,e1,e2] t)] (bA 0 K)=K (hV [e0.a]) [] []:=kR
end
def IF (n:Nat) (es:List One) (k0:Option aI->Nat->Prop) (k:Nat->List One->List ai->Prop):Prop:=match n with
 |0=>∀(x:Option aI) (c:Nat),k0 x c
 |1=>∀(a:One) (c:Nat) (t:List ai),[a.a]=cy es->k c [a] t
 |2=>∀(a b:One) (c:Nat) (t:List ai),[a.a,b.a]=cy es->k c [a,b] t
 |3=>∀(a b d:One) (c:Nat) (t:List ai),[a.a,b.a,d.a]=cy es->k c [a,b,d] t
 |_=>False
def M_ (n:Nat) (es:List One) (most came:Int):dk bx:=λargs bl ch K=>match args,bl,ch with
 |[.ptr 0 0],[b],[g1,g2,g]=>(b=cC g.v most came/\g.T=190/\g.z=5/\g.os=iu es/\g.n=es.length/\es.length=n/\fN es)/\IF n es (λx c=>K (.raw (.slice x 0 c)) bl ch) (λc l t=>K (.sl 1 0 n c) (bl++[dL l t]) ch)
 |_,_,_=>False
def apps (r:bx) (news:List ai) (k:bx->Prop):Prop:=(r.v=r.v/\r.n+1<=1000000)/\∀(xa:Option aI) (c:Nat) (bk:List ao) (h:dD r.z r.T (r.os++news) xa (r.n+1) c bk),k ⟨r.T,r.z,r.os++news,xa,r.n+1,c,bk,h⟩
def yx (g:bx) (T z:Nat) (os:List ai) (n:Nat):Prop:=g.T=T/\g.z=z/\g.os=os/\g.n=n
def UT:∀a b:List Sd.Ask,rS (a++b)=rS a++rS b
 |[],b=>rfl
 |x::a,b=>by simp only[fm,rS,UT a b,bW]
def UU {r:bx} {news:List ai} {k:bx->Prop} {T z n:Nat} {os:List ai} (h:yx r T z os n) (hn:n<100) (hk:∀r',yx r' T z (os++news) (n+1)->k r'):apps r news k:=by
 obtain⟨rfl,rfl,rfl,rfl⟩:=h;exact⟨⟨rfl,oM⟩,λxa c bk hh=>hk _ ⟨rfl,rfl,rfl,rfl⟩⟩
def UW {es:List One} (h:fN es):(cy es).length=es.length/\es.length<=3:=by
 match es,h with
 |[],_=>simp[cy]
 |[x],_=>simp[cy]
 |[x,y],h=>simp[cy]
 |[x,y,z],h=>simp only[cy];split<;>simp
 |_::_::_::_::_,h=>exact absurd h (by simp[fN])
def an9 {n:Nat} {es l:List One} {k0:Option aI->Nat->Prop} {k:Nat->List One->List ai->Prop} (h:IF n es k0 k) (hl:l.length=n) (hm:l.map (·.a)=cy es):(n=0->∀x c,k0 x c)/\(0<n->∀c t,k c l t):=by
 match l,n,hl with
 |[],0,_=>exact⟨λ_=>h,λh=>oM⟩
 |[a],1,_=>exact⟨λh=>oM,λ_ c t=>h a c t hm⟩
 |[a,b],2,_=>exact⟨λh=>oM,λ_ c t=>h a b c t hm⟩
 |[a,b,d],3,_=>exact⟨λh=>oM,λ_ c t=>h a b d c t hm⟩
 |_::_::_::_::_,n+4,_=>exact h.elim
def acN {n:Nat} {es:List One} {k0:Option aI->Nat->Prop} {k:Nat->List One->List ai->Prop} (hn:n<=3) (h0:n=0->∀x c,k0 x c) (h:∀l c t,l.map (·.a)=cy es->l.length=n->k c l t):IF n es k0 k:=by
 match n,hn with
 |0,_=>exact h0 rfl
 |1,_=>exact λa c t hm=>h [a] c t hm rfl
 |2,_=>exact λa b c t hm=>h [a,b] c t hm rfl
 |3,_=>exact λa b d c t hm=>h [a,b,d] c t hm rfl
def an_ {c:Nat} {t:List ai} {most came:Int} {K:VK Empty}:∀{es:List One},fN es->0<es.length->sX (c+es.length) t most came K es->Hd (iH 90 81 [.ptr 0 0] [cC (.sl 1 0 es.length (c+es.length)) most came,dL es t] (bA 2 K))
 |[],_,h0,_=>absurd h0 sP
 |[e0],_,_,h=>⟨by rw[an1];exact h⟩
 |[e0,e1],_,_,h=>⟨by rw[an2];exact h⟩
 |[e0,e1,e2],_,_,h=>⟨by rw[an3];exact h⟩
 |_::_::_::_::_,hH,_,_=>absurd hH (by simp[fN])
def aoa {es:List One} {x:Option aI} {c bq:Nat} {most came:Int} {rows bs:List ao} {ms:List Nat} {w0 w:aj} (iL:dD 5 190 (iu es) x es.length c rows) (hH:fN es)
 (S0:St ms w0 (⟨bq,af,.cells #[.slice x es.length c,.int .i64 most,.int .u64 came] 170 (0,0)⟩::(rows++bs)) w):
 aX prog 81 #[.pointer (aa ⟨bq,0,ae⟩)] w λv w1=>∃l xr cr rw,v=.slice xr es.length cr/\l.map (·.a)=cy es/\l.length=es.length/\(es.length=0\/dD 5 190 (iu l) xr es.length cr rw)/\St ms w0 (rw++(⟨bq,af,.cells #[.slice x es.length c,.int .i64 most,.int .u64 came] 170 (0,0)⟩::(rows++bs))) w1:=by
 obtain⟨_,hle,iL⟩:=iL;rcases iL with⟨rfl,h0,rfl,rfl⟩|⟨b,t,rfl,rfl,hlen⟩
 ·obtain rfl:es=[]:=lz h0;refine(E_ (f:=81) (n:=90) (args:=[.ptr 0 0]) (n0:=1) (K:=λx b _=>x=.raw (.slice ae 0 0)/\b=[cC (.raw (.slice ae 0 0)) most came]) (ids:=[bq]) (bl:=[cC (.raw (.slice ae 0 0)) most came]) (by rw[anZ];exact⟨rfl,rfl⟩) rfl sP S0).mono ?_;rintro v w1 ⟨x,more,b,rfl,hl,S1,rfl,rfl⟩;obtain rfl:more=[]:=by simpa using hl
  exact⟨[],ae,0,[],rfl,rfl,rfl,.inl rfl,S1⟩
 ·have e3:lits [bq,b] [bq,b] [cC (.sl 1 0 es.length c) most came,dL es t]=⟨bq,af,.cells #[.slice (aa ⟨b,0,ae⟩) es.length c,.int .i64 most,.int .u64 came] 170 (0,0)⟩::[⟨b,af,.cells (iu es++t).toArray 190 (0,0)⟩]:=by
   simp only[lits,aC,dL,jK,yu,ak,cl,cT];rfl
  have S1:St ms w0 (lits [bq,b] [bq,b] [cC (.sl 1 0 es.length c) most came,dL es t]++bs) w:=by rw[e3];exact S0
  rcases tU es.length with h0|h0
  ·obtain rfl:es=[]:=lz h0;refine(E_ (f:=81) (n:=90) (args:=[.ptr 0 0]) (n0:=2) (K:=λx b _=>x=.sl 2 0 0 0/\b=[cC (.sl 1 0 0 c) most came,dL [] t,⟨af,⟨190,(0,0)⟩,[]⟩]) (ids:=[bq,b]) (by rw[show([]:List One).length=0 from rfl,an0];exact⟨rfl,rfl⟩) rfl sP S1).mono ?_;rintro v w1 ⟨x,more,bl',rfl,hl,S2,rfl,rfl⟩
   match more,hl with
   |[b2],_=>
    refine⟨[],aa ⟨b2,0,ae⟩,0,[],rfl,rfl,rfl,.inl rfl,?_⟩;have e5:lits [bq,b,b2] [bq,b,b2] [cC (.sl 1 0 0 c) most came,dL [] t,⟨af,⟨190,(0,0)⟩,[]⟩]=[⟨bq,af,.cells #[.slice (aa ⟨b,0,ae⟩) 0 c,.int .i64 most,.int .u64 came] 170 (0,0)⟩,⟨b,af,.cells (iu []++t).toArray 190 (0,0)⟩]++[⟨b2,af,.cells #[] 190 (0,0)⟩]:=by
     simp only[fm,fQ,lits,aC,dL,fZ,iu,ak,cl,cT];rfl
    have e4:([bq,b].take 2++[b2]:List Nat)=[bq,b,b2]:=rfl;rw[e4,e5]at S2;have:=S2.sub (YF (List.sublist_append_left [_,_] _) bs);exact this
  ·have cV:iH 90 81 [.ptr 0 0] [cC (.sl 1 0 es.length c) most came,dL es t] (bA 2 (KS es.length [cC (.sl 1 0 es.length c) most came,dL es t] (cy es))):=by
    have h:sX c t most came (KS es.length [cC (.sl 1 0 es.length c) most came,dL es t] (cy es)) es:=λc' u h1 h2=>anK hH λl hm hl=>⟨l,c',u,rfl,rfl,hm,hl,h1,by rw[<-h2,yw,yw,hl]⟩;clear hlen e3 S0 S1;obtain⟨d,hd⟩:∃d,c=d+es.length:=⟨c-es.length,oM⟩;rw[hd]at h⊢;exact(an_ hH h0 h).h
   refine(E_ cV (ids:=[bq,b]) rfl sP S1).mono ?_;rintro v w1 ⟨x,more,bl',rfl,hl,S2,l,c',u,rfl,rfl,hm,Na,zU,dc⟩
   match more,hl with
   |[b2],_=>
    have e4:([bq,b].take 2++[b2]:List Nat)=[bq,b,b2]:=rfl;have e5:lits [bq,b,b2] [bq,b,b2] ([cC (.sl 1 0 es.length c) most came,dL es t]++[dL l u])=⟨bq,af,.cells #[.slice (aa ⟨b,0,ae⟩) es.length c,.int .i64 most,.int .u64 came] 170 (0,0)⟩::⟨b,af,.cells (iu es++t).toArray 190 (0,0)⟩::[⟨b2,af,.cells (iu l++u).toArray 190 (0,0)⟩]:=by
     simp only[fm,fQ,lits,aC,dL,jK,yu,ak,cl,cT];rfl
    rw[e4,e5]at S2;refine⟨l,aa ⟨b2,0,ae⟩,c',[⟨b2,af,.cells (iu l++u).toArray 190 (0,0)⟩],rfl,hm,Na,.inr ⟨by rw[UR,Na],zU,.inr ⟨b2,u,rfl,rfl,?_⟩⟩,?_⟩
    ·rw[<-dc,<-lF (ids:=[]),jK,yu];simp[ak,cl]
    ·exact S2.perm ((Bc bs (List.perm_append_comm (l₁:=[_,_]) (l₂:=[_]))))
def acO (n:Nat) (es:List One) (most came:Int):Sound prog (λ_=>ae) 81 (M_ n es most came):=by
 intro args ids bl ch R ms w0 w K hg hl S hc;unfold M_ at hc;split at hc
 ·rename_i b g1 g2 g;obtain⟨⟨rfl,hT,hz,CJ,hn,rfl,hH⟩,hK⟩:=hc
  match ids,hl with
  |[i],_=>
   have e1:lits [i] [i] [cC g.v most came]=[⟨i,af,.cells #[.slice g.x g.n g.c,.int .i64 most,.int .u64 came] 170 (0,0)⟩]:=rfl;have p1:∀(q:ao) (A B D:List ao),(([q]:List ao)++(A++(B++(D++R)))).Perm (q::(D++(A++(B++R)))):=by
    intro q A B D;refine vh q ?_;have:=qR (A++B) D R;simpa[bW]using this
   rw[e1]at S;have S1:=S.perm (p1 _ g1.bl g2.bl g.bl);have hr:=g.h;rw[hT,hz,CJ,hn]at hr;rw[hn]at S1;refine(aoa hr hH S1).mono ?_;rintro v w1 ⟨l,xr,cr,rw_,rfl,hm,Na,iL,S2⟩;obtain⟨k0,k1⟩:=an9 hK Na hm;rcases tU es.length with h0|h0
   ·refine⟨_,[],_,_,?_,rfl,?_,k0 h0 xr cr⟩
    ·simp only[den];rw[h0]
    ·have S3:=S2.sub (kG rw_ _);rw[<-hn]at S3;have S4:=S3.perm (p1 _ g1.bl g2.bl g.bl).symm;exact S4
   ·rcases iL with h|h
    ·omega
    ·obtain⟨_,_,h3⟩:=h;rcases h3 with⟨_,hz,_⟩|⟨b,t,hx,UX,_⟩
     ·omega
     ·refine⟨_,[b],_,_,?_,rfl,?_,k1 h0 cr t⟩
      ·simp only[den];rw[hx];rfl
      ·rw[UX,<-hn]at S2;have e2:lits ([i]++[b]) ([i]++[b]) ([cC g.v most came]++[dL l t])=[⟨i,af,.cells #[.slice g.x g.n g.c,.int .i64 most,.int .u64 came] 170 (0,0)⟩]++[⟨b,af,.cells (iu l++t).toArray 190 (0,0)⟩]:=by
        simp only[wJ,lits,aC,dL,jK,yu,ak,cl,cT];rfl
       rw[e2];refine S2.perm ?_;refine(j4 _ (p1 _ g1.bl g2.bl g.bl).symm).trans ?_;rw[bW];exact qR _ _ _
 ·exact hc.elim
def UY {es:List One} (h:fN es) (x:Sd.Ask):x∈cy es↔∃e∈es,e.a=x:=by
 match es,h with
 |[],_=>simp[cy]
 |[a],_=>simp[cy,eq_comm]
 |[a,b],_=>simp[cy,eq_comm]
 |[a,b,d],_=>
  simp only[cy];split<;>simp[eq_comm];exact or_congr_right or_comm
 |_::_::_::_::_,h=>exact absurd h (by simp[fN])
def acP {s:Int} {pC:Nat->Prop} {IC:Prop}:∀{es:List One} {i:Nat},((∃e∈es,e.a.source=s)->∀i,pC i)->((∀e∈es,¬e.a.source=s)->IC)->CI s pC IC es i
 |[],_,_,h2=>h2 sP
 |e::l,i,h1,h2=>aJ (λh=>h1 ⟨e,sP,by simpa using h⟩ i) λh=>acP (λ⟨x,hx,hs⟩=>h1 ⟨x,by simp[hx],hs⟩) λhl=>h2 λx hx=>by
  rcases cF.1 hx with rfl|hx
  ·simpa using h
  ·exact hl x hx
def aob {es:List One} (hH:fN es) {a:Sd.Ask} {most came:Int} {c:Nat} {t:List ai} (hm:most<=3) (hr:∀e∈cy es,e.source=a.source\/¬e.bU=a.bU) (hc:es.length<=c) (hs:cD (fZ es++[.rest t])=c*5):
 pX a c t most came (KP most (.int .i64 (Sd.Q.push most (cy es) a).2) (Sd.Q.push most (cy es) a).1) es:=by
 obtain⟨Nb,oz⟩:=UW hH;have same:∀k:Int,Sd.Q.push most (cy es) a=(cy es,k)->KP most (.int .i64 (Sd.Q.push most (cy es) a).2) (Sd.Q.push most (cy es) a).1 (.int .i64 k) [cC (.sl 1 0 es.length c) most came,dL es t] []:=λk hk=>by
  rw[hk];exact IE (cY _) hc hs (by rw[PT];exact hH) (by rw[PT])
 refine acP (λ⟨e,he,hse⟩ _=>same 27 ?_) λil=>aJ (λh=>same 3 ?_) λh=>?_
 ·have:Sd.Q.waits (cy es) a.source=af:=A9.2 ⟨e.a,(UY hH _).2 ⟨e,he,rfl⟩,by simpa using hse⟩;simp[Sd.Q.push,this]
 all_goals
  have hw:Sd.Q.waits (cy es) a.source=ag:=List.any_eq_false.2 λx hx=>by
   obtain⟨e,he,rfl⟩:=(UY hH _).1 hx;simpa using il e he
 ·have h':most<=((cy es).length:Int):=by rw[Nb];exact of_decide_eq_true h
  simp[Sd.Q.push,hw,h']
 ·have h':¬most<=(es.length:Int):=of_decide_eq_false h;have e1:Sd.Q.push most (cy es) a=(Sd.Q.insert (cy es) a,0):=by simp[Sd.Q.push,hw,Nb,h']
  rw[e1];have X:∀(c':Nat) (u:List ai),es.length+1<=c'->cD (fZ (es++[⟨a,came⟩])++[.rest u])=c'*5->pK a most came (KP most (.int .i64 0) (Sd.Q.insert (cy es) a)) es (es.length+1) c' u:=λc' u h1 h2=>by
   refine anJ ⟨a,came⟩ hH oM (λe he=>?_) λl hl UZ hA'=>?_
   ·obtain⟨x,hx,rfl⟩:=(UY hH _).1 he;exact⟨il x hx,(hr _ he).resolve_left (il x hx)⟩
   ·exact IE oM oM (by rw[<-h2,yw,yw,hl,fL];rfl) (by rw[<-hl,PT];exact UZ) (by rw[<-hl,PT];exact hA')
  exact⟨⟨hc,hs⟩,X,X⟩
def acQ {a:Sd.Ask} {most came:Int} (t:List ai) {B:List VB} (hB:B=[cC (.raw (.slice ae 0 0)) most came]\/B=[cC (.sl 1 0 0 0) most came,dL [] t]/\t.length=0):
 cond (decide ((0:Int)>=most)) (KP most (.int .i64 (Sd.Q.push most (cy []) a).2) (Sd.Q.push most (cy []) a).1 (.int .i64 3) B [])
  (∀(c':Nat) (u:List ai),1<=c'->cD (fZ [⟨a,came⟩]++[.rest u])=c'*5->pK a most came (KP most (.int .i64 (Sd.Q.push most (cy []) a).2) (Sd.Q.push most (cy []) a).1) [] 1 c' u):=by
 refine aJ (λh=>?_) λh c' u h1 h2=>?_
 ·have h':most<=0:=of_decide_eq_true h;have e1:Sd.Q.push most (cy []) a=([],3):=by simp[Sd.Q.push,Sd.Q.waits,cy,h']
  rw[e1];rcases hB with rfl|⟨rfl,ht⟩
  ·exact⟨rfl,[],came,trivial,rfl,.inl ⟨rfl,rfl⟩⟩
  ·exact IE (l:=[]) (cY _) (cY _) (by rw[yw,ht];rfl) trivial rfl
 ·have h':¬most<=0:=of_decide_eq_false h;have e1:Sd.Q.push most (cy []) a=([a],0):=by simp[Sd.Q.push,Sd.Q.waits,Sd.Q.insert,cy,h']
  rw[e1];exact IE (l:=[⟨a,came⟩]) (m:=1) (cY _) h1 h2 trivial rfl
def aoc {a:Sd.Ask} {t:List ai} {most came:Int} {K:VK Empty}:∀{es:List One} {c:Nat},fN es->0<es.length+c->pX a c t most came K es->Hd (iH 90 217 [.ptr 0 0,.agg (qn a)] [cC (.sl 1 0 es.length c) most came,dL es t] (bA 1 K))
 |[],0,_,h0,_=>absurd h0 sP
 |[],c+1,_,_,h=>⟨by rw[Kz,anV];exact h⟩
 |[e0],_,_,_,h=>⟨by rw[anW];exact h⟩
 |[e0,e1],_,_,_,h=>⟨by rw[anX];exact h⟩
 |[e0,e1,e2],_,_,_,h=>⟨by rw[anY];exact h⟩
 |_::_::_::_::_,_,hH,_,_=>absurd hH (by simp[fN])
def aod {bq:Nat} {most:Int} {L:List Sd.Ask} {bl bs:List ao} {ms:List Nat} {w0 w:aj} (a:Sd.Ask) (hQ:QS bq most L bl) (hm:most<=3) (hr:∀e∈L,e.source=a.source\/¬e.bU=a.bU) (S0:St ms w0 (bl++bs) w):
 aX prog 217 #[.pointer (aa ⟨bq,0,ae⟩),.agg (MD a)] w λv w1=>∃bl',v=.int .i64 (Sd.Q.push most L a).2/\QS bq most (Sd.Q.push most L a).1 bl'/\St ms w0 (bl'++bs) w1:=by
 obtain⟨es,x,c,came,rows,rfl,gp,hH,rfl⟩:=hQ;refine acK (f:=217) (ar:=[.agg (qn a)]) (y:=.int .i64 (Sd.Q.push most (cy es) a).2) rfl gp (λh0=>?_) (λt hc hs=>?_) (λ_=>rfl) S0
 ·subst h0;rw[anT];exact acQ [] (.inl rfl)
 ·rcases tU (es.length+c)with h0|h0
  ·obtain rfl:es=[]:=lz oM;obtain rfl:c=0:=by simpa using h0
   rw[Kz,anU];exact acQ t (.inr ⟨rfl,by rw[yw]at hs;simpa using hs⟩)
  ·exact(aoc hH h0 (aob hH (came:=came) hm hr hc hs)).h
def aoe {c:Nat} {t:List ai} {most came:Int} {K:VK Empty}:∀{es:List One},fN es->K (hV (cy es)) [] []->Hd (iH 30 227 [.ptr 0 0] [mq (cC (.sl 1 0 es.length c) most came),mq (dL es t)] (bA 0 K))
 |[],_,h=>⟨by rw[Kz,an5];exact h⟩
 |[e0],_,h=>⟨by rw[an6];exact h⟩
 |[e0,e1],_,h=>⟨by rw[an7];exact h⟩
 |[e0,e1,e2],_,h=>⟨by
  have e:hV (cy [e0,e1,e2])=hV [e0.a]:=by simp only[cy];split<;>rfl
  rw[e]at h;rw[an8];exact h⟩
 |_::_::_::_::_,hH,_=>absurd hH (by simp[fN])
def aof {bq:Nat} {most:Int} {L:List Sd.Ask} {bl bs:List ao} {ms:List Nat} {w0 w:aj} (hQ:QS bq most L bl) (S0:St ms w0 (bl++bs) w):
 aX prog 227 #[.pointer (aa ⟨bq,0,ae⟩)] w λv w1=>v=.tuple #[.agg (MD (kM L).1),.int .i64 (kM L).2]/\Ch [] w w1:=by
 obtain⟨es,x,c,came,rows,rfl,⟨_,hle,iL⟩,hH,rfl⟩:=hQ;have hq:=S0.at' (x:=⟨bq,af,.cells #[.slice x es.length c,.int .i64 most,.int .u64 came] 170 (0,0)⟩) sP;have fin:∀{ids:List Nat} {bl:List VB},(∃r,ids=bq::r)->ids.length=bl.length->iH 30 227 [.ptr 0 0] bl (bA 0 λv b _=>v=hV (cy es))->St [] w (lits ids ids bl++[]) w->aX prog 227 #[.pointer (aa ⟨bq,0,ae⟩)] w λv w1=>v=.tuple #[.agg (MD (kM (cy es)).1),.int .i64 (kM (cy es)).2]/\Ch [] w w1:=by
  rintro ids bl ⟨r,rfl⟩ hl h S;refine(E_ h hl sP S).mono ?_;rintro v w1 ⟨v2,more,b,rfl,_,S1,rfl⟩;exact⟨rfl,S1.ch⟩
 rcases iL with⟨rfl,h0,rfl,rfl⟩|⟨b,t,rfl,rfl,hlen⟩
 ·obtain rfl:es=[]:=lz h0;exact fin (ids:=[bq]) (bl:=[mq (cC (.raw (.slice ae 0 0)) most came)]) ⟨[],rfl⟩ rfl (by rw[an4];rfl) (St.given [(bq,_)] (by intro p hp;simp only[jZ]at hp;subst hp;exact hq))
 ·have hb:=S0.at' (x:=⟨b,af,.cells (iu es++t).toArray 190 (0,0)⟩) sP;have e3:ak [bq,b] (fZ es++[.rest t])=iu es++t:=by rw[jK,yu];simp[ak,cl]
  have S:St [] w (lits [bq,b] [bq,b] [mq (cC (.sl 1 0 es.length c) most came),mq (dL es t)]++[]) w:=
   St.given [(bq,.cells (ak [bq,b] [.sl 1 0 es.length c,.int .i64 most,.int .u64 came]).toArray 170 (0,0)),(b,.cells (ak [bq,b] (fZ es++[.rest t])).toArray 190 (0,0))] (by
    intro p hp;simp only[cF,qS,or_false]at hp;rcases hp with rfl|rfl
    ·exact hq
    ·rw[e3];exact hb)
  exact fin ⟨[b],rfl⟩ rfl (aoe hH rfl).h S
def Nc (most came:Int) (gq g2:bx) (K:VK bx):List One->List VB->bx->Prop
 |[],j,g1=>K g1.v (cC gq.v most came::j) [g1,g2,gq]
 |e::l,j,g1=>apps g1 (ak [] (qn e.a)) λg1=>Nc most came gq g2 K l (j++[⟨af,⟨190,(0,0)⟩,uM e⟩,⟨af,⟨147,(0,0)⟩,qn e.a⟩]) g1
def IG (n:Nat) (most came:Int) (gq:bx) (es:List One) (K:VK bx):Prop:=
 (cC gq.v most came=cC gq.v most came/\gq.T=190/\gq.z=5/\gq.os=iu es/\gq.n=es.length/\es.length=n/\fN es)/\IF n es (λx c=>Nc most came gq (.nil 190 5) K [] [] (.nil 147 4)) (λc l t=>Nc most came gq (.nil 190 5) K l [dL l t] (.nil 147 4))
section
variable(most came:Int) (gq:bx) (es:List One) (K:VK bx)
abbrev LL (n:Nat) (es:List One) (most came:Int):List (bK bx):=[⟨81,ag,M_ n es most came⟩]
def aog:br (mT prog (λ_=>ae) (LL 0 es most came)) 60 60 [.ptr 0 0] [cC gq.v most came] [.nil 147 4,.nil 190 5,gq] K=IG 0 most came gq es K:=kR
def aoh:br (mT prog (λ_=>ae) (LL 1 es most came)) 60 60 [.ptr 0 0] [cC gq.v most came] [.nil 147 4,.nil 190 5,gq] K=IG 1 most came gq es K:=kR
def aoi:br (mT prog (λ_=>ae) (LL 2 es most came)) 60 60 [.ptr 0 0] [cC gq.v most came] [.nil 147 4,.nil 190 5,gq] K=IG 2 most came gq es K:=kR
def aoj:br (mT prog (λ_=>ae) (LL 3 es most came)) 60 60 [.ptr 0 0] [cC gq.v most came] [.nil 147 4,.nil 190 5,gq] K=IG 3 most came gq es K:=kR
end
def KL (most came:Int) (gq g2:bx) (M:List Sd.Ask):VK bx:=λv bl ch=>∃(j:List VB) (g1:bx),v=g1.v/\bl=cC gq.v most came::j/\ch=[g1,g2,gq]/\yx g1 147 4 (rS M) M.length
def U0 (most came:Int) (gq g2:bx) {M:List Sd.Ask}:∀(l:List One) (j:List VB) (g1:bx) (G:List Sd.Ask),yx g1 147 4 (rS G) G.length->G.length+l.length<100->G++l.map (·.a)=M->Nc most came gq g2 (KL most came gq g2 M) l j g1
 |[],j,g1,G,h1,_,hM=>⟨j,g1,rfl,rfl,rfl,by rw[<-hM];simpa using h1⟩
 |e::l,j,g1,G,h1,l1,hM=>by
  simp only[jf]at l1;exact UU h1 oM λr' hr=>U0 most came gq g2 l _ r' (G++[e.a]) (by rw[UT,fL];exact hr) (by simp;omega) (by rw[<-hM];simp)
def aol {bq:Nat} {most:Int} {L:List Sd.Ask} {bl bs:List ao} {ms:List Nat} {w0 w:aj} (hQ:QS bq most L bl) (S0:St ms w0 (bl++bs) w):
 aX prog 60 #[.pointer (aa ⟨bq,0,ae⟩)] w λv w1=>∃x c1 rows,v=.slice x L.length c1/\dD 4 147 (rS L) x L.length c1 rows/\St ms w0 (rows++(bl++bs)) w1:=by
 obtain⟨es,x,c,came,rows,rfl,hr,hH,rfl⟩:=hQ;obtain⟨Nb,oz⟩:=UW hH
 let gq:bx:=⟨190,5,iu es,x,es.length,c,rows,hr⟩
 have S1:St ms w0 (lits [bq] [bq] [cC gq.v most came]++au [bx.nil 147 4,.nil 190 5,gq] bs) w:=by simpa[lits,au,Bl.B,bx.nil,gq,aC,cC,bx.v,ak,cl,den]using S0
 have hA:IG es.length most came gq es (KL most came gq (.nil 190 5) (cy es)):=
  ⟨⟨rfl,rfl,rfl,rfl,rfl,rfl,hH⟩,acN oz (λh0 x c=>U0 most came gq _ [] [] _ [] ⟨rfl,rfl,rfl,rfl⟩ sP (by rw[lz h0];rfl)) (λl c t hm hl=>U0 most came gq _ l _ _ [] ⟨rfl,rfl,rfl,rfl⟩ (by simp;omega) (by simpa using hm))⟩
 have cV:br (mT prog (λ_=>ae) (LL es.length es most came)) 60 60 [.ptr 0 0] [cC gq.v most came] [.nil 147 4,.nil 190 5,gq] (KL most came gq (.nil 190 5) (cy es)):=by
  rcases(by omega:es.length=0\/es.length=1\/es.length=2\/es.length=3)with h|h|h|h<;>rw[h]at hA⊢
  ·rw[aog];exact hA
  ·rw[aoh];exact hA
  ·rw[aoi];exact hA
  ·rw[aoj];exact hA
 have dI:aH prog (λ_=>ae) (LL es.length es most came):=aH.cons ⟨acO _ es most came,λe=>by cases e⟩ aH.nil;refine(eZ dI.TR dI.QR 60 (C:=mT prog (λ_=>ae) (LL es.length es most came)) (args:=[.ptr 0 0]) (λg i h=>by cases h) rfl S1 cV).mono ?_;rintro _ w' ⟨xx,more,bl',ch',rfl,pD,S3,j,g1,rfl,rfl,rfl,t1,t2,t3,t4⟩;have kj:=g1.h;rw[t1,t2,t3,t4]at kj;refine⟨g1.x,g1.c,g1.bl,by simp only[bx.v,den];rw[t4],kj,?_⟩;have e1:lits ([bq]++more) ([bq]++more) (cC gq.v most came::j)=⟨bq,af,.cells #[.slice x es.length c,.int .i64 most,.int .u64 came] 170 (0,0)⟩::lits ([bq]++more) more j:=rfl;rw[e1]at S3;have S4:=S3.sub (bs':=⟨bq,af,.cells #[.slice x es.length c,.int .i64 most,.int .u64 came] 170 (0,0)⟩::(g1.bl++(rows++bs))) (by
  rw[fm];exact wL _ (kG _ _))
 exact S4.perm kH.symm
structure LK where
 ka:Nat->Option aI
 kn:Nat->Nat
 kc:Nat->Nat
 kf:Nat->Nat->Int
 bq:Nat
 tg:aM
 tc:aM
 most:Int
 px:Option aI
 pn:Nat
 pc:Nat
 pf:Sd.ax
structure FD where
 k:LK
 q:List Sd.Ask
 bw:List (Int×Sd.aO)
 aV:List Sd.Rec
inductive CK (fr:Sd.aO->Nat×Sd.ax):List (Int×Sd.aO)->List ai->List ao->Prop
 |nil:CK fr [] [] []
 |snoc {l olds bl} (h:CK fr l olds bl) (k:Int) (r:Sd.aO) (x:Option aI) (c:Nat) (b:List ao) (hb:eQ 5 (fr r).1 (fr r).2 x c b):CK fr (l++[(k,r)]) (olds++[.int .i64 k,.slice x (fr r).1 c]) (bl++b)
structure ba (fr:Sd.aO->Nat×Sd.ax) (d:FD) where
 xs:Option aI
 cs:Nat
 xr:Option aI
 cr:Nat
 Bq:List ao
 Br:List ao
 Bs:List ao
 Bf:List ao
 Bk:List ao
 so:List ai
 hq:QS d.k.bq d.k.most d.q Bq
 hr:dD 6 64 (vZ d.aV) xr d.aV.length cr Br
 hs:dD 2 61 so xs d.bw.length cs Bs
 hf:CK fr d.bw so Bf
 hk:∃b0 b1 b2 b3 b4,Bk=b0++(b1++(b2++(b3++b4)))/\eQ 5 (d.k.kn 0) (d.k.kf 0) (d.k.ka 0) (d.k.kc 0) b0/\eQ 5 (d.k.kn 1) (d.k.kf 1) (d.k.ka 1) (d.k.kc 1) b1/\eQ 5 (d.k.kn 2) (d.k.kf 2) (d.k.ka 2) (d.k.kc 2) b2/\eQ 5 (d.k.kn 3) (d.k.kf 3) (d.k.ka 3) (d.k.kc 3) b3/\eQ 5 d.k.pn d.k.pf d.k.px d.k.pc b4
variable{fr:Sd.aO->Nat×Sd.ax}
def ba.B {d:FD} (F:ba fr d):List ao:=F.Br++(F.Bs++(F.Bf++(F.Bq++F.Bk)))
def ba.vs {d:FD} (F:ba fr d):ai:=.slice F.xs d.bw.length F.cs
def ba.vr {d:FD} (F:ba fr d):ai:=.slice F.xr d.aV.length F.cr
structure Gh (fr:Sd.aO->Nat×Sd.ax) where
 d:FD
 dx:Nat->Sd.eS
 sx:Nat->Sd.gw
 F:ba fr d
instance:Bl (Gh fr):=⟨λg=>g.F.B⟩
def r3 {α:Type} (a b c:α) (f:Nat->α):Nat->α:=λj=>match j with|0=>a|1=>b|2=>c|j+3=>f (j+3)
def Nd {α:Type} (f:Nat->α):r3 (f 0) (f 1) (f 2) f=f:=by funext j;match j with|0=>rfl|1=>rfl|2=>rfl|j+3=>rfl
structure CC where
 p:Sd.aU
 ka:Nat->Option aI
 kn:Nat->Nat
 kc:Nat->Nat
 t:Sd.Tok
 vq:ai
 d0:Sd.eS
 d1:Sd.eS
 d2:Sd.eS
 it:Nat
 sa:Int
 be:Int
 mo:Int
 mb:Sd.Label
 pt:Sd.fj
 hd:Nat->Int
def CL (x:CC):List V:=[.dO x.p x.ka x.kn x.kc,.int .i64 x.t.aF,.int .i64 x.t.an,.int .i64 x.t.offer,.int .i64 x.t.oa.n,.int .i64 x.t.oa.most,.int .i64 x.t.la.n,.int .i64 x.t.la.most,.bool x.t.bad,.raw x.vq,
 .int .i64 x.d0.many,.bool x.d0.ji,.cv .u8 8 x.d0.aK,.int .i64 x.d1.many,.bool x.d1.ji,.cv .u8 8 x.d1.aK,.int .i64 x.d2.many,.bool x.d2.ji,.cv .u8 8 x.d2.aK,.ptr x.it 0,.int .i64 x.sa,.int .i64 x.be,.int .i64 x.mo,
 .int .i64 x.mb.mQ,.int .i64 x.mb.source,.int .i64 x.mb.seq,.int .i64 x.pt.cls,.int .i64 x.pt.bh.a,.int .i64 x.pt.bh.b,.int .i64 x.pt.bh.c,.int .i64 x.pt.bh.d,.int .i64 x.pt.now.a,.int .i64 x.pt.now.b,.int .i64 x.pt.now.c,.int .i64 x.pt.now.d,
 .int .i64 x.pt.cd.mQ,.int .i64 x.pt.cd.source,.int .i64 x.pt.cd.seq,.cv .u8 32 x.hd]
def CM:List V->Option CC
 |.dO p ka kn kc::.int .i64 t1::.int .i64 t2::.int .i64 t3::.int .i64 t4::.int .i64 t5::.int .i64 t6::.int .i64 t7::.bool t8::.raw vq::.int .i64 a1::.bool a2::.cv .u8 8 a3::.int .i64 b1::.bool b2::.cv .u8 8 b3::.int .i64 c1::.bool c2::.cv .u8 8 c3::.ptr it 0::.int .i64 sa::.int .i64 be::.int .i64 mo::.int .i64 l1::.int .i64 l2::.int .i64 l3::.int .i64 p1::.int .i64 p2::.int .i64 p3::.int .i64 p4::.int .i64 p5::.int .i64 p6::.int .i64 p7::.int .i64 p8::.int .i64 p9::.int .i64 q1::.int .i64 q2::.int .i64 q3::.cv .u8 32 hd::[]=>aa ⟨p,ka,kn,kc,⟨t1,t2,t3,⟨t4,t5⟩,⟨t6,t7⟩,t8⟩,vq,⟨a1,a2,a3⟩,⟨b1,b2,b3⟩,⟨c1,c2,c3⟩,it,sa,be,mo,⟨l1,l2,l3⟩,⟨p1,⟨p2,p3,p4,p5⟩,⟨p6,p7,p8,p9⟩,⟨q1,q2,q3⟩⟩,hd⟩
 |_=>ae
def IH {l:List V} {x:CC} (h:CM l=aa x):l=CL x:=by
 unfold CM at h;split at h
 ·obtain rfl:=cG h;rfl
 ·cases h
structure TC where
 s1:Bool
 sn:Int
 sm:Int
 s0:Sd.gw
 sa:Sd.gw
 sb:Sd.gw
 b:Int
 m:Int
def rT (x:Sd.gw):List V:=[.bool x.on,.int .i64 x.dN.n,.int .i64 x.dN.most,.int .i64 x.role,.cv .u8 32 x.key,.bool x.seen.any,.int .i64 x.seen.high,.int .u64 x.seen.seen]
def cP (x:TC):List V:=.bool x.s1::.int .i64 x.sn::.int .i64 x.sm::(rT x.s0++(rT x.sa++(rT x.sb++[.int .i64 x.b,.int .i64 x.m])))
def tI:List V->Option TC
 |[.bool s1,.int .i64 sn,.int .i64 sm,.bool a1,.int .i64 a2,.int .i64 a3,.int .i64 a4,.cv .u8 32 a5,.bool a6,.int .i64 a7,.int .u64 a8,.bool b1,.int .i64 b2,.int .i64 b3,.int .i64 b4,.cv .u8 32 b5,.bool b6,.int .i64 b7,.int .u64 b8,
  .bool c1,.int .i64 c2,.int .i64 c3,.int .i64 c4,.cv .u8 32 c5,.bool c6,.int .i64 c7,.int .u64 c8,.int .i64 b,.int .i64 m]=>aa ⟨s1,sn,sm,⟨a1,⟨a2,a3⟩,a4,a5,⟨a6,a7,a8⟩⟩,⟨b1,⟨b2,b3⟩,b4,b5,⟨b6,b7,b8⟩⟩,⟨c1,⟨c2,c3⟩,c4,c5,⟨c6,c7,c8⟩⟩,b,m⟩
 |_=>ae
def yy {l:List V} {x:TC} (h:tI l=aa x):l=cP x:=by
 unfold tI at h;split at h
 ·obtain rfl:=cG h;rfl
 ·cases h
def gj (x:CC) (y:TC) (d:FD) (dx:Nat->Sd.eS) (sx:Nat->Sd.gw):Sd.ah:=
 ⟨⟨x.p,x.t,d.q,r3 x.d0 x.d1 x.d2 dx,⟨(y.s1,⟨y.sn,y.sm⟩),r3 y.s0 y.sa y.sb sx⟩,x.sa,x.be,x.mo,x.mb,x.pt,x.hd⟩,d.bw,d.aV⟩
def mX (k:LK) (it:Nat) (s:Sd.ah):CC:=⟨s.c.p,k.ka,k.kn,k.kc,s.c.t,.pointer (aa ⟨k.bq,0,ae⟩),s.c.doors 0,s.c.doors 1,s.c.doors 2,it,s.c.samples,s.c.beyond,s.c.mode,s.c.gF,s.c.pt,s.c.head⟩
def v3 (s:Sd.ah):TC:=⟨s.c.aq.de.1,s.c.aq.de.2.n,s.c.aq.de.2.most,s.c.aq.az 0,s.c.aq.az 1,s.c.aq.az 2,s.c.p.cO,s.c.p.iM⟩
def a9 (k:LK) (s:Sd.ah):FD:=⟨k,s.c.q,s.bw,s.aV⟩
def b_ (k:LK):VB:=⟨ag,k.tg,[.cv .u32 64 c_]⟩
def gK (k:LK):VB:=⟨ag,k.tc,[.bool ag,.bool ag,.bool ag,.bool ag,.bool ag,.bool ag,.bool ag,.bool ag,.bool ag,.bool ag,.bool af,.bool af]⟩
def uN (ic:Nat) {d:FD} (F:ba fr d):VB:=⟨af,⟨135,(0,0)⟩,[.ptr ic 0,.raw F.vs,.raw F.vr]⟩
def fy (k:LK) (it:Nat) (s:Sd.ah):VB:=⟨af,⟨131,(0,0)⟩,CL (mX k it s)⟩
def fg (s:Sd.ah):VB:=⟨af,⟨181,(0,0)⟩,cP (v3 s)⟩
def bI (k:LK) (s:Sd.ah) (F:ba fr (a9 k s)):List VB:=[b_ k,gK k,uN 3 F,fy k 4 s,fg s]
def a_ (k:LK) (s:Sd.ah) (F:ba fr (a9 k s)):Gh fr:=⟨a9 k s,s.c.doors,s.c.aq.az,F⟩
def gS:Nat->Option Nat
 |0=>aa 0
 |1=>aa 1
 |_=>ae
abbrev SK (fr:Sd.aO->Nat×Sd.ax) (k:LK):=V->(s:Sd.ah)->ba fr (a9 k s)->Prop
abbrev SM (fr:Sd.aO->Nat×Sd.ax):=List V->(k:LK)->(s:Sd.ah)->ba fr (a9 k s)->SK fr k->Prop
def yz (bl:List VB) (is ic it:Nat) (k:LK) (s:Sd.ah) (F:ba fr (a9 k s)):List VB:=((bl.set is (uN ic F)).set ic (fy k it s)).set it (fg s)
def gz (M:SM fr):dk (Gh fr):=λargs bl ch K=>match args,ch with
 |.ptr is 0::ar,g::rest=>(match bl[is]?with
  |some ⟨af,⟨135,(0,0)⟩,[.ptr ic 0,.raw vs,.raw vr]⟩=>(match bl[ic]?with
   |some ⟨af,⟨131,(0,0)⟩,cc⟩=>(match CM cc with
    |some x=>(match bl[x.it]?with
     |some ⟨af,⟨181,(0,0)⟩,tc⟩=>(match tI tc with
      |some y=>cond (bu 0 ar&&(db 1 is&&(db 1 ic&&(db 1 x.it&&(!(aA is ic)&&(!(aA is x.it)&&!(aA ic x.it)))))))
       ((vs=g.F.vs/\vr=g.F.vr/\bl[0]?=aa (b_ g.d.k)/\bl[1]?=aa (gK g.d.k)/\x=mX g.d.k x.it (gj x y g.d g.dx g.sx)/\y.b=x.p.cO/\y.m=x.p.iM/\x.p.queue=g.d.k.most)/\
         M ar g.d.k (gj x y g.d g.dx g.sx) g.F λv s' F'=>K v (yz bl is ic x.it g.d.k s' F') (a_ g.d.k s' F'::rest)) False
      |none=>False)
     |_=>False)
    |none=>False)
   |_=>False)
  |_=>False)
 |_,_=>False
end
section
open Go Go.RowKit Go.BigFrame Sx Vx
variable{fr:Sd.aO->Nat×Sd.ax}
def e_:VB:=⟨ag,⟨0,(0,0)⟩,[]⟩
def aom {ids:List Nat}:∀(is:List Nat) (bl:List VB),is.length=bl.length->lits ids is bl=(bo bl.length).map λj=>aC ids (is.getD j 0) (bl.getD j e_):=by
 intro is bl h;apply zv;intro j;by_cases hj:j<bl.length
 ·have hb:bl[j]?=aa bl[j]:=jY hj;rw[Q9 is bl h hb,jW,pQ hj];simp[gd,hb]
 ·rw[ju (by rw[zT is bl h];omega),ju (by simp;omega)]
def Fb {bl:List VB} {ids:List Nat} (h:ids.length=bl.length) {is:List Nat} (hn:is.Nodup) (cH:∀i∈is,i<bl.length):
 ∃r:List Nat,(∀j∈r,j∉is)/\∀bl':List VB,bl'.length=bl.length->(lits ids ids bl').Perm (is.map (λj=>aC ids (ids.getD j 0) (bl'.getD j e_))++r.map λj=>aC ids (ids.getD j 0) (bl'.getD j e_)):=by
 obtain⟨r,hr⟩:=GM is (bo bl.length) hn (λx hx=>List.mem_range.2 (cH x hx));refine⟨r,?_,?_⟩
 ·intro j hj hji;have vK:(is++r).Nodup:=hr.nodup_iff.1 List.nodup_range;rw[List.nodup_append]at vK;exact vK.2.2 j hji j hj rfl
 ·intro bl' hl;rw[aom ids bl' oM,hl,<-tX];exact hr.map _
def aon {bl:List VB} {ids r:List Nat} {a b c:Nat} {x y z:VB} (hr:∀j∈r,j≠a/\j≠b/\j≠c):
 (r.map λj=>aC ids (ids.getD j 0) ((((bl.set a x).set b y).set c z).getD j e_))=r.map λj=>aC ids (ids.getD j 0) (bl.getD j e_):=by
 apply ni;intro j hj;obtain⟨h1,h2,h3⟩:=hr j hj;simp only[gd,List.getElem?_set];rw[if_neg (Ne.symm h3),if_neg (Ne.symm h2),if_neg (Ne.symm h1)]
def ln {bl:List VB} {i:Nat} {b:VB} (h:bl[i]?=aa b):bl.getD i e_=b:=by simp[gd,h]
def jz {ids ids':List Nat} {n:Nat} {b:VB} (h:bu 0 b.c=af):aC ids n b=aC ids' n b:=by
 have e1:ak ids b.c=ak [] b.c:=by have:=jl (ids:=[]) (more:=ids) b.c h;simpa using this
 have e2:ak ids' b.c=ak [] b.c:=by have:=jl (ids:=[]) (more:=ids') b.c h;simpa using this
 unfold aC;rw[e1,e2]
abbrev ca (a b c:Nat):List Nat:=[0,1,a,b,c]
def aoo {ids:List Nat} {ic a b c:Nat} (n:Nat) {d:FD} (F:ba fr d) (h:ids.getD ic 0=b):aC ids n (uN ic F)=aC (ca a b c) n (uN 3 F):=by
 have e:(ca a b c).getD 3 0=b:=rfl;simp only[aC,uN,ak,cl,den,h,e]
def aop {ids:List Nat} {it a b c:Nat} (n:Nat) {k:LK} {s:Sd.ah} (h:ids.getD it 0=c):aC ids n (fy k it s)=aC (ca a b c) n (fy k 4 s):=by
 have e:(ca a b c).getD 4 0=c:=rfl;simp only[aC,fy,CL,mX,ak,cl,den,h,e]
def Body (f:fl) (M:SM fr):Prop:=∀(ar:List V) (k:LK) (s:Sd.ah) (F:ba fr (a9 k s)) (Kb:SK fr k) (a b c:Nat) (R:List ao) (ms:List Nat) (w0 w:aj),bu 0 ar=af->s.c.p.queue=k.most->M ar k s F Kb->
 St ms w0 (lits (ca a b c) (ca a b c) (bI k s F)++(F.B++R)) w->
 aX prog f (aE (ca a b c) (.ptr 2 0::ar)).toArray w λv w'=>∃x s' F',v=den [] x/\da 0 x=af/\s'.c.p=s.c.p/\Kb x s' F'/\St ms w0 (lits (ca a b c) (ca a b c) (bI k s' F')++(F'.B++R)) w'
def yA (s:Sd.ah):bu 0 (fg s).c=af:=rfl
def AE (k:LK):bu 0 (b_ k).c=af:=rfl
def U1 (k:LK):bu 0 (gK k).c=af:=rfl
structure Nf (ids:List Nat) (bl:List VB) (is ic it:Nat) (k:LK) (s:Sd.ah) (F:ba fr (a9 k s)):Prop where
 h0:bl[0]?=aa (b_ k)
 h1:bl[1]?=aa (gK k)
 hs:bl[is]?=aa (uN ic F)
 hc:bl[ic]?=aa (fy k it s)
 ht:bl[it]?=aa (fg s)
def acR {ids:List Nat} {bl:List VB} {is ic it:Nat} {k:LK} {s:Sd.ah} {F:ba fr (a9 k s)} (H:Nf ids bl is ic it k s F) (hg:Gl gS ids):
 ([0,1,is,ic,it].map λj=>aC ids (ids.getD j 0) (bl.getD j e_))=lits (ca (ids.getD is 0) (ids.getD ic 0) (ids.getD it 0)) (ca (ids.getD is 0) (ids.getD ic 0) (ids.getD it 0)) (bI k s F):=by
 have g0:=(hg 0 0 rfl).2;have g1:=(hg 1 1 rfl).2;simp only[gb,List.map_nil,ln H.h0,ln H.h1,ln H.hs,ln H.hc,ln H.ht,g0,g1,bI,lits];rw[jz (ids':=ca (ids.getD is 0) (ids.getD ic 0) (ids.getD it 0)) (AE k),jz (ids':=ca (ids.getD is 0) (ids.getD ic 0) (ids.getD it 0)) (U1 k),jz (ids':=ca (ids.getD is 0) (ids.getD ic 0) (ids.getD it 0)) (yA s),
  aoo (a:=ids.getD is 0) (c:=ids.getD it 0) _ F rfl,aop (a:=ids.getD is 0) (b:=ids.getD ic 0) _ rfl]
def AF {bl:List VB} {i:Nat} {b:VB} (h:i<bl.length):(bl.set i b)[i]?=aa b:=by simp[h]
def nQ {bl:List VB} {i j:Nat} {b:VB} (h:i≠j):(bl.set i b)[j]?=bl[j]?:=by rw[List.getElem?_set];simp[h]
def lT {bl:List VB} {i:Nat} {b:VB} (h:bl[i]?=aa b):i<bl.length:=by
 rcases c9 i bl.length with h'|h'
 ·exact h'
 ·simp[h']at h
def aoq {ids:List Nat} {bl:List VB} {is ic it:Nat} {k:LK} {s:Sd.ah} {F:ba fr (a9 k s)} (H:Nf ids bl is ic it k s F) (h1:1<is) (h2:1<ic) (h3:1<it) (n1:is≠ic) (n2:is≠it) (n3:ic≠it) {s':Sd.ah} (F':ba fr (a9 k s')):
 Nf ids (yz bl is ic it k s' F') is ic it k s' F':=by
 have l1:=lT H.hs;have l2:=lT H.hc;have l3:=lT H.ht;unfold yz;refine⟨?_,?_,?_,?_,?_⟩
 ·rw[nQ oM,nQ oM,nQ oM];exact H.h0
 ·rw[nQ oM,nQ oM,nQ oM];exact H.h1
 ·rw[nQ oM,nQ oM,AF l1]
 ·rw[nQ oM,AF (by simpa using l2)]
 ·rw[AF (by simpa using l3)]
def aor {f:Nat} {M:SM fr} (h:Body f M):Sound prog gS f (gz M):=by
 intro args ids bl ch R ms w0 w K hg hl S hc;unfold gz at hc;split at hc
 ·rename_i is ar g rest;split at hc
  ·rename_i ic vs vr hs;split at hc
   ·rename_i cc vE;split at hc
    ·rename_i x hx;split at hc
     ·rename_i tc pE;split at hc
      ·rename_i y hy;cases hq:bu 0 ar&&(db 1 is&&(db 1 ic&&(db 1 x.it&&(!(aA is ic)&&(!(aA is x.it)&&!(aA ic x.it))))))with
       |false=>rw[hq]at hc;exact hc.elim
       |true=>
        rw[hq]at hc;simp only[bD,n7,jt]at hq;obtain⟨q0,q1,q2,q3,q4,q5,q6⟩:=hq;have n1:is≠ic:=λe=>by rw[e,tW]at q4;cases q4
        have n2:is≠x.it:=λe=>by rw[e,tW]at q5;cases q5
        have n3:ic≠x.it:=λe=>by rw[e,tW]at q6;cases q6
        obtain⟨⟨e1,e2,e3,e4,e5,e6,e7,e8⟩,hM⟩:=hc;obtain rfl:=IH hx;obtain rfl:=yy hy;subst e1 e2;have H:Nf ids bl is ic x.it g.d.k (gj x y g.d g.dx g.sx) (show ba fr (a9 g.d.k (gj x y g.d g.dx g.sx))from g.F):=by
         refine⟨e3,e4,hs,?_,?_⟩
         ·rw[vE];congr 1;unfold fy;rw[<-e5]
         ·rw[pE];congr 1;unfold fg;have:y=v3 (gj x y g.d g.dx g.sx):=by
           obtain⟨y1,y2,y3,y4,y5,y6,y7,y8⟩:=y;simp only at e6 e7;subst e6 e7;rfl
          rw[<-this]
        have l1:=lT H.hs;have l2:=lT H.hc;have l3:=lT H.ht;obtain⟨r,hr,hp⟩:=Fb (bl:=bl) (ids:=ids) hl (is:=[0,1,is,ic,x.it]) (by simp;omega) (by
         intro i hi;simp only[cF,qS,or_false]at hi;rcases hi with rfl|rfl|rfl|rfl|rfl<;>omega)
        have kl:=hp bl rfl;rw[acR H hg]at kl;have S1:=S.perm (bs':=lits (ca (ids.getD is 0) (ids.getD ic 0) (ids.getD x.it 0)) (ca (ids.getD is 0) (ids.getD ic 0) (ids.getD x.it 0)) (bI g.d.k (gj x y g.d g.dx g.sx) g.F)++(g.F.B++((r.map λj=>aC ids (ids.getD j 0) (bl.getD j e_))++au rest R))) (by
         refine(kl.append_right _).trans ?_;rw[bW];refine j4 _ ?_;simp only[au,<-bW];exact Bc _ List.perm_append_comm)
        have uO:=h ar g.d.k (gj x y g.d g.dx g.sx) g.F _ _ _ _ _ ms w0 w q0 e8 hM S1;have cN:aE ids (.ptr is 0::ar)=aE (ca (ids.getD is 0) (ids.getD ic 0) (ids.getD x.it 0)) (.ptr 2 0::ar):=by
         have a1:aE ids ar=aE [] ar:=by have:=oZ (ids:=[]) (more:=ids) ar q0;simpa using this
         have a2:aE (ca (ids.getD is 0) (ids.getD ic 0) (ids.getD x.it 0)) ar=aE [] ar:=by have:=oZ (ids:=[]) (more:=ca (ids.getD is 0) (ids.getD ic 0) (ids.getD x.it 0)) ar q0;simpa using this
         simp only[aE,den,a1,a2];rfl
        rw[cN];refine uO.mono ?_;rintro v w' ⟨xv,s',F',rfl,hv,hpp,hK,S2⟩;refine⟨xv,[],yz bl is ic x.it g.d.k s' F',a_ g.d.k s' F'::rest,?_,?_,?_,hK⟩
        ·have:=g_ (ids:=[]) (more:=ids++[]) xv hv;simpa using this.symm
        ·simp[yz,hl]
        ·have H':=aoq H q1 q2 q3 n1 n2 n3 F';have uP:=hp (yz bl is ic x.it g.d.k s' F') (by simp[yz]);rw[acR H' hg]at uP;have II:(r.map λj=>aC ids (ids.getD j 0) ((yz bl is ic x.it g.d.k s' F').getD j e_))=r.map λj=>aC ids (ids.getD j 0) (bl.getD j e_):=by
          unfold yz;refine aon ?_;intro j hj;have:=hr j hj;simp only[cF,qS,or_false,not_or]at this;omega
         rw[II]at uP;simp only[cT];refine S2.perm ?_;refine wK ?_ (uP.symm.append_right _);rw[bW];refine j4 _ ?_;simp only[au,<-bW];exact Bc _ List.perm_append_comm
      ·exact hc.elim
     ·exact hc.elim
    ·exact hc.elim
   ·exact hc.elim
  ·exact hc.elim
 ·exact hc.elim
def aP (tk:Nat->Sd.ax->Option Sd.bQ):Sd.aL:=⟨tk,λk s n=>kg k.1 k.2 s n,λk s r nc pf=>As k.1 k.2 s r nc pf,λk s r nc=>lO k.1 k.2 s r nc,λk s n f=>nL k s (n-8) f,yj,eM⟩
def cM (k:LK) (s:Sd.ah) (Kb:SK fr k):V->List VB->List (Gh fr)->Prop:=λv bl ch=>∃s' F',da 0 v=af/\s'.c.p=s.c.p/\Kb v s' F'/\bl.take 5=bI k s' F'/\ch=[a_ k s' F']
def mr {f n:Nat} {M:SM fr} {L:List (bK (Gh fr))} (hL:aH prog gS L)
 (h:∀(ar:List V) (k:LK) (s:Sd.ah) (F:ba fr (a9 k s)) (Kb:SK fr k),bu 0 ar=af->s.c.p.queue=k.most->M ar k s F Kb->br (bM prog gS L) n f (.ptr 2 0::ar) (bI k s F) [a_ k s F] (cM k s Kb)):Body f M:=by
 intro ar k s F Kb a b c R ms w0 w h0 hq hM S;have hg:Gl gS (ca a b c):=by
  intro g i di;unfold gS at di;split at di
  ·obtain rfl:=cG di;exact⟨sP,rfl⟩
  ·obtain rfl:=cG di;exact⟨sP,rfl⟩
  ·cases di
 refine(eZ hL.T hL.Q n (C:=bM prog gS L) (ids:=ca a b c) (bl:=bI k s F) (ch:=[a_ k s F]) (R:=R) (ms:=ms) (w0:=w0) (w:=w) hg rfl (by
  have e:au [a_ k s F] R=F.B++R:=rfl;rw[e];exact S) (h ar k s F Kb h0 hq hM)).mono ?_
 rintro v w' ⟨x,more,bl',ch',rfl,h1,S',s',F',hv,hp,hK,hb,rfl⟩;have ev:den (ca a b c++more) x=den [] x:=by have:=g_ (ids:=[]) (more:=ca a b c++more) x hv;simpa using this
 refine⟨x,s',F',ev,hv,hp,hK,?_⟩;have hl5:(bI k s' F').length=5:=rfl;have pF:bl'=bI k s' F'++bl'.drop 5:=by rw[<-hb,jH]
 rw[pF]at S';have e2:lits (ca a b c++more) (ca a b c++more) (bI k s' F'++bl'.drop 5)=lits (ca a b c) (ca a b c) (bI k s' F')++lits (ca a b c++more) more (bl'.drop 5):=by
  rw[fu _ _ _ _ (by rw[hl5];rfl)];rw[fw (ids:=ca a b c) (more:=more) (ca a b c) (bI k s' F') rfl]
 rw[e2]at S';refine S'.sub ?_;have e3:au [a_ k s' F'] R=F'.B++R:=rfl;rw[e3,bW];exact mD (kG _ _) _
def h_ {f:Nat} {M:SM fr} (h:Body f M):vL prog gS ⟨f,ag,gz M⟩:=⟨aor h,λe=>by cases e⟩
def bO (s:Sd.ah):Sd.ah:={s with c:={s.c with doors:=r3 (s.c.doors 0) (s.c.doors 1) (s.c.doors 2) s.c.doors,aq:=⟨s.c.aq.de,r3 (s.c.aq.az 0) (s.c.aq.az 1) (s.c.aq.az 2) s.c.aq.az⟩}}
def nT (s:Sd.ah):bO s=s:=by
 unfold bO;rw[Nd,Nd]
def yB {k:LK} {s s':Sd.ah} {M:(s:Sd.ah)->ba fr (a9 k s)->Prop} (e:s'=s) (F:ba fr (a9 k s)) (h:M s F) (hx:a9 k s=a9 k s':=by rfl):M s' (hx▸F):=by
 subst e;exact h
def mY {ar:List V} {k:LK} {s:Sd.ah} {M:SM fr} {F:ba fr (a9 k s)} {K:SK fr k} (h:M ar k s F K):M ar k (bO s) F K:=yB (M:=λs F=>M ar k s F K) (nT s) F h
def iS (C:Sd.aL):SM fr:=λar k s F K=>match ar with
 |[.int .i64 kd,.int .i64 so,.int .i64 sq,.int .i64 co,.int .i64 ho]=>s.aV.length<=1000/\∀F',K (.ay []) (s.record C kd so sq co ho) F'
 |_=>False
def acS (r c s k t:ao) (B X R:List ao):([r,c,s,k,t]++((B++X)++R)).Perm ([r,s,k]++(B++(c::t::(X++R)))):=by
 refine vh r ?_;have h1:(c::s::k::t::((B++X)++R)).Perm (s::k::c::t::((B++X)++R)):=
  (Bb s c _).trans (vh s (Bb k c _))
 refine h1.trans (vh s (vh k ?_));have h2:([c,t]++(B++(X++R))).Perm (B++([c,t]++(X++R))):=by
  rw[<-bW,<-bW B];exact Bc _ List.perm_append_comm
 simpa[bW]using h2
def U2 {k:LK} {s:Sd.ah} (F:ba fr (a9 k s)):F.B=F.Br++(F.Bs++(F.Bf++(F.Bq++F.Bk))):=rfl
def aos (tk:Nat->Sd.ax->Option Sd.bQ):Body (fr:=fr) 107 (iS (aP tk)):=by
 intro ar k s F Kb a b c R ms w0 w h0 hq hM S;unfold iS at hM;split at hM
 ·rename_i kd so sq co ho;obtain⟨hn,hK⟩:=hM;have e1:lits (ca a b c) (ca a b c) (bI k s F)=[⟨0,ag,.cells (aD .u32 64 c_) k.tg (0,0)⟩,aC (ca a b c) 1 (gK k),⟨a,af,.cells #[.pointer (aa ⟨b,0,ae⟩),F.vs,F.vr] 135 (0,0)⟩,⟨b,af,.cells (tH s.c.p k.ka k.kn k.kc s.c.t k.bq s.c.doors c s.c.samples s.c.beyond s.c.mode s.c.gF s.c.pt s.c.head) 131 (0,0)⟩,aC (ca a b c) c (fg s)]:=kR;rw[e1,U2]at S;have S1:=S.perm (acS _ _ _ _ _ _ _ _);have e2:(aE (ca a b c) (.ptr 2 0::[.int .i64 kd,.int .i64 so,.int .i64 sq,.int .i64 co,.int .i64 ho])).toArray=#[.pointer (aa ⟨a,0,ae⟩),.int .i64 kd,.int .i64 so,.int .i64 sq,.int .i64 co,.int .i64 ho]:=kR;rw[e2];refine(anG _ _ _ _ _ _ _ _ _ _ _ _ _ _ _ _ _ _ _ _ _ _ _ _ kd so sq co ho w S1 F.hr hn).mono ?_;rintro v w1 ⟨x1,c1,jy,rfl,kj,S2⟩;have hl:(s.record (aP tk) kd so sq co ho).aV.length=s.aV.length+1:=by simp[Sd.ah.record]
  have gp:dD 6 64 (vZ (s.record (aP tk) kd so sq co ho).aV) x1 (s.record (aP tk) kd so sq co ho).aV.length c1 jy:=by rw[hl];exact kj
  let F':ba fr (a9 k (s.record (aP tk) kd so sq co ho)):={F with xr:=x1,cr:=c1,Br:=jy,hr:=gp}
  refine⟨.ay [],_,F',rfl,rfl,rfl,hK F',?_⟩;have e3:lits (ca a b c) (ca a b c) (bI k (s.record (aP tk) kd so sq co ho) F')=[⟨0,ag,.cells (aD .u32 64 c_) k.tg (0,0)⟩,aC (ca a b c) 1 (gK k),⟨a,af,.cells #[.pointer (aa ⟨b,0,ae⟩),F.vs,.slice x1 (s.record (aP tk) kd so sq co ho).aV.length c1] 135 (0,0)⟩,⟨b,af,.cells (tH s.c.p k.ka k.kn k.kc s.c.t k.bq s.c.doors c s.c.samples s.c.beyond s.c.mode s.c.gF s.c.pt (yj s.c.head ⟨kd,so,sq,s.c.t.an,co,ho⟩)) 131 (0,0)⟩,aC (ca a b c) c (fg s)]:=kR;rw[e3,U2,hl];exact S2.perm (acS _ _ _ _ _ _ _ _).symm
 ·exact hM.elim
def cq (k:LK) (s:Sd.ah) (F:ba fr (a9 k s)):Prop:=F.vs=F.vs/\F.vr=F.vr/\aa (b_ k)=aa (b_ k)/\aa (gK k)=aa (gK k)/\mX k 4 s=mX k 4 (bO s)/\s.c.p.cO=s.c.p.cO/\s.c.p.iM=s.c.p.iM/\s.c.p.queue=k.most
def cK {k:LK} {s:Sd.ah} {F:ba fr (a9 k s)} (h:s.c.p.queue=k.most):cq k s F:=⟨rfl,rfl,rfl,rfl,rfl,rfl,rfl,h⟩
def L0 (fr:Sd.aO->Nat×Sd.ax) (C:Sd.aL):List (bK (Gh fr)):=⟨107,ag,gz (iS C)⟩::qL (Gh fr) QV
def acT (tk:Nat->Sd.ax->Option Sd.bQ):aH prog gS (L0 fr (aP tk)):=aH.cons (h_ (aos tk)) (kA (Ay gS))
def rU (C:Sd.aL):SM fr:=λar k s F K=>match ar with
 |[.int .i64 l,.int .i64 co]=>s.aV.length<=1000/\∀F',K (.ay []) (s.jx C l co) F'
 |_=>False
def aot (C:Sd.aL) (k:LK) (s:Sd.ah) (F:ba fr (a9 k s)) (Kb:SK fr k) (l co:Int):br (bM prog gS (L0 fr C)) 40 89 [.ptr 2 0,.int .i64 l,.int .i64 co] (bI k s F) [a_ k s F] (cM k s Kb)
 =(cq k s F/\iS C [.int .i64 1,.int .i64 l,.int .i64 0,.int .i64 co,.int .i64 0] k (bO s) F (λv s' F'=>cM k s Kb (.ay []) (bI k s' F') [a_ k s' F'])):=kR
def aou (tk:Nat->Sd.ax->Option Sd.bQ):Body (fr:=fr) 89 (rU (aP tk)):=by
 refine mr (n:=40) (acT tk) ?_;intro ar k s F Kb h0 hq hM;unfold rU at hM;split at hM
 ·rename_i l co;rw[aot];refine⟨cK hq,mY ⟨hM.1,λF'=>?_⟩⟩;exact⟨_,F',rfl,rfl,hM.2 F',rfl,rfl⟩
 ·exact hM.elim
end
section
open Go Go.RowKit Go.BigFrame Sx Vx
def km (L:List QF) (n:Nat) (f:fl) (args:List V) (bl:List VB) (K:VK Empty):Prop:=br (bM prog (λ_=>ae) (qL Empty L)) n f args bl [] K
def CN {L:List QF} (hL:bP prog (λ_=>ae) L) {n f:Nat} {args:List V} {v:V} {c:List V} {T:BT} {bt:Nat} {w:aj} (h:km L n f args [⟨ag,T,c⟩] λx _ _=>x=v)
 (hT:w.heap[bt]?=aa (.cells (ak [] c).toArray T.t T.fz)) (hc:bu 0 c=af) (hv:da 1 v=af):aX prog f (aE [bt] args).toArray w λx w1=>x=den [bt] v/\Ch [] w w1:=by
 have e1:ak [bt] c=ak [] c:=jl (ids:=[]) (more:=[bt]) c hc;have S:=St.given (w:=w) [(bt,.cells (ak [bt] c).toArray T.t T.fz)] (by intro p hp;simp only[jZ]at hp;subst hp;rw[e1];exact hT);refine(eZ (kA hL).T (kA hL).Q n (C:=bM prog (λ_=>ae) (qL Empty L)) (ids:=[bt]) (bl:=[⟨ag,T,c⟩]) (ch:=[]) (R:=[]) Gl.no rfl S h).mono ?_;rintro x w' ⟨y,more,bl',ch',rfl,h1,S',rfl⟩;exact⟨g_ (ids:=[bt]) _ hv,S'.ch⟩
def Ng {L:List QF} (hL:bP prog (λ_=>ae) L) {n f:Nat} {args:List V} {v:V} {B0:VB} {wr:Bool} {o:Obj} {bt:Nat} {bs:List ao} {ms:List Nat} {w0 w:aj}
 (h:km L n f args [B0] (bA 1 λx b _=>x=v/\∃B,b=[B]/\aC [0] 0 B=⟨0,wr,o⟩/\bu 0 B.c=af)) (hv:da 0 v=af) (S:St ms w0 ([aC [bt] bt B0]++bs) w):
 aX prog f (aE [bt] args).toArray w λy w1=>y=den [] v/\St ms w0 ([⟨bt,wr,o⟩]++bs) w1:=by
 refine(eZ (kA hL).T (kA hL).Q n (C:=bM prog (λ_=>ae) (qL Empty L)) (ids:=[bt]) (bl:=[B0]) (ch:=[]) (R:=bs) Gl.no rfl S h).mono ?_;rintro x w' ⟨y,more,bl',ch',rfl,h1,S',hK⟩;obtain⟨v2,cn,bl2,e,cX,S2,rfl,B,rfl,hB,hw⟩:=iP (n0:=1) h1 sP S' hK;have hm:cn=[]:=by simpa using cX
 subst hm;refine⟨by rw[e];exact g_ (ids:=[]) _ hv,?_⟩;have q:aC [bt] bt B=aC [0] bt B:=jz hw;have q2:aC [0] bt B=⟨bt,wr,o⟩:=by
  unfold aC at hB⊢;simp only[ao.mk.injEq]at hB⊢;exact⟨trivial,hB.2⟩
 have S3:St ms w0 ([aC [bt] bt B]++bs) w':=match ch',S2 with
  |[],S2=>S2
  |e::_,_=>nomatch e
 rw[q,q2]at S3;exact S3
def dX (t:Sd.aN):Sd.aN:=⟨t.de,r3 (t.az 0) (t.az 1) (t.az 2) λ_=>.zero⟩
def bJ (y:TC):Sd.aN:=⟨(y.s1,⟨y.sn,y.sm⟩),r3 y.s0 y.sa y.sb λ_=>.zero⟩
def CO (bl:List VB) (it:Nat):Option TC:=match bl[it]?with
 |some ⟨_,⟨181,(0,0)⟩,tc⟩=>tI tc
 |_=>ae
def aov {ids:List Nat} {bl:List VB} {w:aj} (hm:Mem ids bl w) {it:Nat} {y:TC} (h:CO bl it=aa y):w.heap[ids.getD it 0]?=aa (.cells (ki (bJ y).de (bJ y).az y.b y.m) 181 (0,0)):=by
 unfold CO at h;split at h
 ·rename_i wr tc hb;obtain rfl:=yy h;have h1:=hm.2 it _ hb;have e:(ak ids (cP y)).toArray=ki (bJ y).de (bJ y).az y.b y.m:=kR;rw[<-e];exact h1
 ·cases h
def v5 (y:TC):Nat->Sd.gw
 |0=>y.s0
 |1=>y.sa
 |_=>y.sb
def CP:Int->Option Nat
 |.ofNat 1=>aa 0
 |.ofNat 2=>aa 1
 |.ofNat 3=>aa 2
 |_=>ae
def Nh {s:Int} {i:Nat} (h:CP s=aa i):s=.ofNat (i+1)/\i<3:=by
 unfold CP at h;split at h<;>first|cases h;exact⟨rfl,oM⟩|cases h
def tE (b:Bool) (y:TC):List VB:=[⟨b,⟨181,(0,0)⟩,cP y⟩]
def U3 {s:Int} (h:CP s=ae):s<1\/3<s:=by
 rcases(by omega:s=1\/s=2\/s=3\/s<1\/3<s)with rfl|rfl|rfl|h|h
 ·cases h
 ·cases h
 ·cases h
 ·exact .inl h
 ·exact .inr h
def Fc:QF:=⟨82,λargs bl=>match args with
 |[.ptr it 0,.int .i64 s]=>(match CO bl it with
  |some y=>(match CP s with
   |some i=>(match(v5 y i).on with
    |true=>aa (True,.ptr it (3+39*i))
    |false=>aa (True,.raw (.pointer ae)))
   |none=>ae)
  |none=>ae)
 |_=>ae⟩
def yD:QF:=⟨82,λargs bl=>match args with
 |[.ptr it 0,.int .i64 s]=>aa (s<1\/3<s,.raw (.pointer ae))
 |_=>ae⟩
def acU (y:TC) (K:VK Empty):∀i:Nat,i<3->km [] 30 82 [.ptr 0 0,.int .i64 (.ofNat (i+1))] (tE ag y) K=cond (!(v5 y i).on) (K (.raw (.pointer ae)) (tE ag y) []) (K (.ptr 0 (3+39*i)) (tE ag y) [])
 |0,_=>kR
 |1,_=>kR
 |2,_=>kR
 |n+3,h=>absurd h oM
def aow (b:Nat) (s:Int) (X:V->Prop):dP prog [] 30 82 [.raw (.pointer (aa ⟨b,0,ae⟩)),.int .i64 s] X=cond (decide (s<1)) (X (.raw (.pointer ae))) (cond (decide (s>3)) (X (.raw (.pointer ae))) False):=kR
def Ni {ids:List Nat} {bl:List VB} {w:aj} (hm:Mem ids bl w) {it:Nat} {y:TC} (h:CO bl it=aa y):w.heap[ids.getD it 0]?=aa (.cells (ak [] (cP y)).toArray 181 (0,0)):=by
 rw[aov hm h];have e:(ak [] (cP y)).toArray=ki (bJ y).de (bJ y).az y.b y.m:=kR;rw[e]
def aox (gl:Nat->Option Nat):Fc.Ok prog gl:=by
 intro args bl p_ v_ h hp ids w _ hm;unfold Fc at h;dsimp only at h;split at h
 ·rename_i it s;split at h
  ·rename_i y hy;have hT:=Ni hm hy;split at h
   ·rename_i i hi;obtain⟨rfl,h3⟩:=Nh hi;split at h
    ·rename_i ho;simp only[aW,bC]at h;obtain⟨rfl,rfl⟩:=h;refine told (CN bP.nil (n:=30) (args:=[.ptr 0 0,.int .i64 (.ofNat (i+1))]) (v:=.ptr 0 (3+39*i)) (T:=⟨181,(0,0)⟩) ?_ hT rfl rfl);show km [] 30 82 [.ptr 0 0,.int .i64 (.ofNat (i+1))] (tE ag y) _;rw[acU y _ i h3,ho];rfl
    ·rename_i ho;simp only[aW,bC]at h;obtain⟨rfl,rfl⟩:=h;refine told (CN bP.nil (n:=30) (args:=[.ptr 0 0,.int .i64 (.ofNat (i+1))]) (v:=.raw (.pointer ae)) (T:=⟨181,(0,0)⟩) ?_ hT rfl rfl);show km [] 30 82 [.ptr 0 0,.int .i64 (.ofNat (i+1))] (tE ag y) _;rw[acU y _ i h3,ho];rfl
   ·cases h
  ·cases h
 ·cases h
def aoy (gl:Nat->Option Nat):yD.Ok prog gl:=by
 intro args bl p_ v_ h hp ids w _ hm;unfold yD at h;dsimp only at h;split at h
 ·rename_i it s;simp only[aW,bC]at h;obtain⟨rfl,rfl⟩:=h;refine told (xE bP.nil 30 (args:=[.raw (.pointer (aa ⟨ids.getD it 0,0,ae⟩)),.int .i64 s]) (v:=.raw (.pointer ae)) ?_ rfl rfl [] w);show dP prog [] 30 82 _ _;rw[aow];refine aJ (λh=>rfl) (λh=>aJ (λh=>rfl) λh'=>?_);simp only[decide_eq_false_iff_not]at h h';omega
 ·cases h
def U4:bP prog (λ_=>ae) [yD]:=bP.cons (aoy _) bP.nil
def aoz (y:TC) (K:VK Empty):∀i:Nat,i<3->km [] 30 61 [.ptr 0 0,.int .i64 (.ofNat (i+1))] (tE ag y) K=cond (!(v5 y i).on) (K (.bool ag) (tE ag y) []) (K (.bool af) (tE ag y) [])
 |0,_=>kR
 |1,_=>kR
 |2,_=>kR
 |n+3,h=>absurd h oM
def aoA (y:TC) (s:Int) (K:VK Empty):km [yD] 30 61 [.ptr 0 0,.int .i64 s] (tE ag y) K=cond (s==4) (K (.bool af) (tE ag y) []) (cond (s==0) (K (.bool y.s1) (tE ag y) []) ((s<1\/3<s)/\K (.bool ag) (tE ag y) [])):=kR
def aoB (y:TC) (K:VK Empty):∀i:Nat,i<3->km [] 30 62 [.ptr 0 0,.int .i64 (.ofNat (i+1))] (tE ag y) K=cond (!(v5 y i).on) (K (.int .i64 0) (tE ag y) []) (K (.int .i64 (v5 y i).role) (tE ag y) [])
 |0,_=>kR
 |1,_=>kR
 |2,_=>kR
 |n+3,h=>absurd h oM
def aoC (y:TC) (s:Int) (K:VK Empty):km [yD] 30 62 [.ptr 0 0,.int .i64 s] (tE ag y) K=((s<1\/3<s)/\K (.int .i64 0) (tE ag y) []):=kR
def Nj (y:TC):∀i:Nat,i<3->(bJ y).iC (.ofNat (i+1))=(v5 y i).on
 |0,_=>rfl
 |1,_=>rfl
 |2,_=>rfl
 |n+3,h=>absurd h oM
def U5 (t:Sd.aN) {s:Int} (h:s<1\/3<s):t.iC s=ag:=by
 unfold Sd.aN.iC;have:(decide (1<=s)&&decide (s<=3))=ag:=by simp;omega
 rw[this];rfl
def aoD (y:TC):∀i:Nat,i<3->(bJ y).az ((dG (i+1)).toNat-1)=v5 y i
 |0,_=>rfl
 |1,_=>rfl
 |2,_=>rfl
 |n+3,h=>absurd h oM
def aoE (y:TC):∀i:Nat,i<3->(bJ y).on (.ofNat (i+1))=(v5 y i).on
 |0,_=>rfl
 |1,_=>rfl
 |2,_=>rfl
 |n+3,h=>absurd h oM
def aoF (y:TC) (s:Int) {bt:Nat} {w:aj} (hT:w.heap[bt]?=aa (.cells (ak [] (cP y)).toArray 181 (0,0))):aX prog 61 (aE [bt] [.ptr 0 0,.int .i64 s]).toArray w λx w1=>x=den [bt] (.bool ((bJ y).on s))/\Ch [] w w1:=by
 cases h:CP s with
 |some i=>
  obtain⟨rfl,h3⟩:=Nh h;refine CN bP.nil (n:=30) (T:=⟨181,(0,0)⟩) ?_ hT rfl rfl;show km [] 30 61 [.ptr 0 0,.int .i64 (.ofNat (i+1))] (tE ag y) _;rw[aoz y _ i h3,aoE y i h3];exact aJ (λh=>by simp at h;rw[h]) (λh=>by simp at h;rw[h])
 |none=>
  have hs:=U3 h;refine CN U4 (n:=30) (T:=⟨181,(0,0)⟩) ?_ hT rfl rfl;show km [yD] 30 61 [.ptr 0 0,.int .i64 s] (tE ag y) _;rw[aoA];unfold Sd.aN.on;rw[U5 _ hs];refine aJ (λh=>?_) (λh=>aJ (λh'=>?_) λh'=>⟨hs,?_⟩)
  ·rw[if_pos (by simpa using h)]
  ·rw[if_neg (by simpa using h),if_pos (by simpa using h')];rfl
  ·rw[if_neg (by simpa using h),if_neg (by simpa using h')]
def aoG (y:TC) (s:Int) {bt:Nat} {w:aj} (hT:w.heap[bt]?=aa (.cells (ak [] (cP y)).toArray 181 (0,0))):aX prog 62 (aE [bt] [.ptr 0 0,.int .i64 s]).toArray w λx w1=>x=den [bt] (.int .i64 ((bJ y).role s))/\Ch [] w w1:=by
 unfold Sd.aN.role;cases h:CP s with
 |some i=>
  obtain⟨rfl,h3⟩:=Nh h;refine CN bP.nil (n:=30) (T:=⟨181,(0,0)⟩) ?_ hT rfl rfl;show km [] 30 62 [.ptr 0 0,.int .i64 (.ofNat (i+1))] (tE ag y) _;rw[aoB y _ i h3,Nj y i h3,aoD y i h3];exact aJ (λh=>by simp at h;rw[h];rfl) (λh=>by simp at h;rw[h];rfl)
 |none=>
  have hs:=U3 h;refine CN U4 (n:=30) (T:=⟨181,(0,0)⟩) ?_ hT rfl rfl;show km [yD] 30 62 [.ptr 0 0,.int .i64 s] (tE ag y) _;rw[aoC,U5 _ hs];exact⟨hs,rfl⟩
def U6:QF:=⟨61,λargs bl=>match args with
 |[.ptr it 0,.int .i64 s]=>(match CO bl it with|some y=>aa (True,.bool ((bJ y).on s))|none=>ae)
 |_=>ae⟩
def aoH (gl:Nat->Option Nat):U6.Ok prog gl:=by
 intro args bl p_ v_ h hp ids w _ hm;unfold U6 at h;dsimp only at h;split at h
 ·rename_i it s;split at h
  ·rename_i y hy;simp only[aW,bC]at h;obtain⟨rfl,rfl⟩:=h;exact told (aoF y s (Ni hm hy))
  ·cases h
 ·cases h
def U7:QF:=⟨62,λargs bl=>match args with
 |[.ptr it 0,.int .i64 s]=>(match CO bl it with|some y=>aa (True,.int .i64 ((bJ y).role s))|none=>ae)
 |_=>ae⟩
def aoI (gl:Nat->Option Nat):U7.Ok prog gl:=by
 intro args bl p_ v_ h hp ids w _ hm;unfold U7 at h;dsimp only at h;split at h
 ·rename_i it s;split at h
  ·rename_i y hy;simp only[aW,bC]at h;obtain⟨rfl,rfl⟩:=h;exact told (aoG y s (Ni hm hy))
  ·cases h
 ·cases h
def zS:List V:=.bool ag::.int .i64 0::.int .i64 0::.int .i64 0::(mf [.int .u8 0] 32++[.bool ag,.int .i64 0,.int .u64 0])
def AG (y:TC) (i:Nat) (x:List V):List V:=.bool y.s1::.int .i64 y.sn::.int .i64 y.sm::((bif aA i 0 then x else rT y.s0)++((bif aA i 1 then x else rT y.sa)++((bif aA i 2 then x else rT y.sb)++[.int .i64 y.b,.int .i64 y.m])))
def wE (l:List V):List VB:=[⟨af,⟨181,(0,0)⟩,l⟩]
def aoJ (y:TC) (K:VK Empty):∀i:Nat,i<3->km [] 30 176 [.ptr 0 0,.int .i64 (.ofNat (i+1))] (tE af y) (bA 1 K)=cond (!(v5 y i).on) (K (.bool ag) (tE af y) []) (K (.bool af) (wE (AG y i zS)) [])
 |0,_=>kR
 |1,_=>kR
 |2,_=>kR
 |n+3,h=>absurd h oM
def aoK (y:TC) (s:Int) (K:VK Empty):km [yD] 30 176 [.ptr 0 0,.int .i64 s] (tE af y) (bA 1 K)=((s<1\/3<s)/\K (.bool ag) (tE af y) []):=kR
def exE (y:TC):∀i:Nat,i<3->aC [0] 0 ⟨af,⟨181,(0,0)⟩,AG y i zS⟩=⟨0,af,.cells (ki ((bJ y).gO ((dG (i+1)).toNat-1) .zero).de ((bJ y).gO ((dG (i+1)).toNat-1) .zero).az y.b y.m) 181 (0,0)⟩
 |0,_=>kR
 |1,_=>kR
 |2,_=>kR
 |n+3,h=>absurd h oM
def Nk (y:TC):aC [0] 0 ⟨af,⟨181,(0,0)⟩,cP y⟩=⟨0,af,.cells (ki (bJ y).de (bJ y).az y.b y.m) 181 (0,0)⟩:=kR
def U8 (y:TC) (bt:Nat):aC [bt] bt ⟨af,⟨181,(0,0)⟩,cP y⟩=⟨bt,af,.cells (ki (bJ y).de (bJ y).az y.b y.m) 181 (0,0)⟩:=kR
def aoL (y:TC):∀i:Nat,bu 0 (AG y i zS)=af
 |0=>kR
 |1=>kR
 |2=>kR
 |n+3=>kR
def aoM (y:TC) (s:Int) {bt:Nat} {bs:List ao} {ms:List Nat} {w0 w:aj} (S:St ms w0 ([⟨bt,af,.cells (ki (bJ y).de (bJ y).az y.b y.m) 181 (0,0)⟩]++bs) w):
 aX prog 176 (aE [bt] [.ptr 0 0,.int .i64 s]).toArray w λu w1=>u=den [] (.bool ((bJ y).iC s))/\St ms w0 ([⟨bt,af,.cells (ki ((bJ y).end_ s).de ((bJ y).end_ s).az y.b y.m) 181 (0,0)⟩]++bs) w1:=by
 rw[<-U8]at S;unfold Sd.aN.end_;cases h:CP s with
 |some i=>
  obtain⟨rfl,h3⟩:=Nh h;refine Ng bP.nil (n:=30) (B0:=⟨af,⟨181,(0,0)⟩,cP y⟩) ?_ rfl S;show km [] 30 176 [.ptr 0 0,.int .i64 (.ofNat (i+1))] (tE af y) _;rw[aoJ y _ i h3,Nj y i h3];refine aJ (λh=>?_) (λh=>?_)
  ·simp only[n7]at h;rw[h];exact⟨rfl,_,rfl,Nk y,rfl⟩
  ·simp only[Bool.not_eq_false']at h;rw[h];exact⟨rfl,_,rfl,exE y i h3,aoL y i⟩
 |none=>
  have hs:=U3 h;refine Ng U4 (n:=30) (B0:=⟨af,⟨181,(0,0)⟩,cP y⟩) ?_ rfl S;show km [yD] 30 176 [.ptr 0 0,.int .i64 s] (tE af y) _;rw[aoK,U5 _ hs];exact⟨hs,rfl,_,rfl,Nk y,rfl⟩
def smL (y:TC):List V:=.bool af::.int .i64 0::.int .i64 (if 0>y.b then 0 else y.b)::(rT y.s0++(rT y.sa++(rT y.sb++[.int .i64 y.b,.int .i64 y.m])))
def aoN (y:TC) (K:VK Empty):km [] 30 96 [.ptr 0 0] (tE af y) (bA 1 K)=K (.ay []) (wE (smL y)) []:=kR
def aoO (y:TC) (hb:0<=y.b/\y.b<=1000) {bt:Nat} {bs:List ao} {ms:List Nat} {w0 w:aj} (S:St ms w0 ([⟨bt,af,.cells (ki (bJ y).de (bJ y).az y.b y.m) 181 (0,0)⟩]++bs) w):
 aX prog 96 (aE [bt] [.ptr 0 0]).toArray w λu w1=>u=den [] (.ay [])/\St ms w0 ([⟨bt,af,.cells (ki (af,.start y.b) (bJ y).az y.b y.m) 181 (0,0)⟩]++bs) w1:=by
 rw[<-U8]at S;refine Ng bP.nil (n:=30) (B0:=⟨af,⟨181,(0,0)⟩,cP y⟩) ?_ rfl S;show km [] 30 96 [.ptr 0 0] (tE af y) _;rw[aoN];refine⟨rfl,_,rfl,?_,rfl⟩;have q:aC [0] 0 ⟨af,⟨181,(0,0)⟩,smL y⟩=⟨0,af,.cells (ki (af,⟨0,if 0>y.b then 0 else y.b⟩) (bJ y).az y.b y.m) 181 (0,0)⟩:=kR;rw[q,H5]
def Fe:QF:=⟨170,λargs bl=>match args with
 |[.ptr it 0]=>(match CO bl it with
  |some y=>aa (True,.int .i64 ((bJ y).many))
  |none=>ae)
 |_=>ae⟩
def aoP (y:TC) (K:VK Empty):km [] 30 170 [.ptr 0 0] (tE ag y) K=
 let k:Int->Prop:=λn=>K (.int .i64 n) (tE ag y) []
 cond y.s0.on (cond y.sa.on (cond y.sb.on (k 3) (k 2)) (cond y.sb.on (k 2) (k 1))) (cond y.sa.on (cond y.sb.on (k 2) (k 1)) (cond y.sb.on (k 1) (k 0))):=kR
def aoQ (gl:Nat->Option Nat):Fe.Ok prog gl:=by
 intro args bl p_ v_ h hp ids w _ hm;unfold Fe at h;dsimp only at h;split at h
 ·rename_i it;split at h
  ·rename_i y hy;simp only[aW,bC]at h;obtain⟨rfl,rfl⟩:=h;refine told (CN bP.nil (n:=30) (args:=[.ptr 0 0]) (v:=.int .i64 ((bJ y).many)) (T:=⟨181,(0,0)⟩) ?_ (Ni hm hy) rfl rfl);show km [] 30 170 [.ptr 0 0] (tE ag y) _;rw[aoP];have e:(bJ y).many=(if y.s0.on then 1 else 0)+(if y.sa.on then 1 else 0)+(if y.sb.on then 1 else 0):=rfl;rw[e];cases y.s0.on<;>cases y.sa.on<;>cases y.sb.on<;>rfl
  ·cases h
 ·cases h
def aoR:bP prog (λ_=>ae) [Fc,Fe]:=bP.cons (aox _) (bP.cons (aoQ _) bP.nil)
def U9 (k:Sd.gw) (o:Bool):Sd.gw:=⟨o,k.dN,k.role,k.key,k.seen⟩
def CQ (y:TC) (i:Nat) (o:Bool):TC:=match i with
 |0=>{y with s0:=U9 y.s0 o}
 |1=>{y with sa:=U9 y.sa o}
 |_=>{y with sb:=U9 y.sb o}
def nS (b r:Int) (key:Nat->Int):List V:=[.bool af,.int .i64 0,.int .i64 (if 0>b then 0 else b),.int .i64 r,.cv .u8 32 key,.bool ag,.int .i64 0,.int .u64 0]
def Nl (y:TC) (r:Int) (K:VK Empty) (X:Prop):Prop:=cond (decide (r<0)) (K (.int .i64 1) (tE af y) []) (cond (decide (r>=4)) (K (.int .i64 1) (tE af y) []) X)
def aoS (y:TC) (r:Int) (key:Nat->Int) (K:VK Empty):∀i:Nat,i<3->
 km [Fc,Fe] 60 126 [.ptr 0 0,.int .i64 (.ofNat (i+1)),.int .i64 r,.agg [.cv .u8 32 key]] (tE af (CQ y i af)) (bA 1 K)=Nl (CQ y i af) r K (True/\K (.int .i64 0) (wE (AG y i (nS y.b r key))) [])/\
 km [Fc,Fe] 60 126 [.ptr 0 0,.int .i64 (.ofNat (i+1)),.int .i64 r,.agg [.cv .u8 32 key]] (tE af (CQ y i ag)) (bA 1 K)=Nl (CQ y i ag) r K (True/\True/\cond (decide ((bJ (CQ y i ag)).many>=y.m)) (K (.int .i64 19) (tE af (CQ y i ag)) []) (K (.int .i64 0) (wE (AG y i (nS y.b r key))) []))
 |0,_=>⟨kR,kR⟩
 |1,_=>⟨kR,kR⟩
 |2,_=>⟨kR,kR⟩
 |n+3,h=>absurd h oM
def exN (y:TC) (r:Int) (key:Nat->Int):∀i:Nat,i<3->aC [0] 0 ⟨af,⟨181,(0,0)⟩,AG y i (nS y.b r key)⟩=⟨0,af,.cells (ki ((bJ y).gO ((dG (i+1)).toNat-1) ⟨af,⟨0,if 0>y.b then 0 else y.b⟩,r,key,⟨ag,0,0⟩⟩).de ((bJ y).gO ((dG (i+1)).toNat-1) ⟨af,⟨0,if 0>y.b then 0 else y.b⟩,r,key,⟨ag,0,0⟩⟩).az y.b y.m) 181 (0,0)⟩/\bu 0 (AG y i (nS y.b r key))=af
 |0,_=>⟨kR,kR⟩
 |1,_=>⟨kR,kR⟩
 |2,_=>⟨kR,kR⟩
 |n+3,h=>absurd h oM
def aoT (y:TC):∀i:Nat,i<3->∃o,(v5 y i).on=o/\y=CQ y i o
 |0,_=>⟨_,rfl,rfl⟩
 |1,_=>⟨_,rfl,rfl⟩
 |2,_=>⟨_,rfl,rfl⟩
 |n+3,h=>absurd h oM
def U_ (y:TC) (i:Nat) (h3:i<3) (r:Int) (key:Nat->Int) (p:Sd.aU) (e1:p.cO=y.b) (e2:p.iM=y.m) {bt:Nat} {bs:List ao} {ms:List Nat} {w0 w:aj} (S:St ms w0 ([⟨bt,af,.cells (ki (bJ y).de (bJ y).az y.b y.m) 181 (0,0)⟩]++bs) w):
 aX prog 126 (aE [bt] [.ptr 0 0,.int .i64 (.ofNat (i+1)),.int .i64 r,.agg [.cv .u8 32 key]]).toArray w λu w1=>u=den [] (.int .i64 (Sd.aN.fk p (bJ y) (.ofNat (i+1)) r key).2)/\
  St ms w0 ([⟨bt,af,.cells (ki (Sd.aN.fk p (bJ y) (.ofNat (i+1)) r key).1.de (Sd.aN.fk p (bJ y) (.ofNat (i+1)) r key).1.az y.b y.m) 181 (0,0)⟩]++bs) w1:=by
 obtain⟨o,ho,hy⟩:=aoT y i h3;rw[<-U8]at S;refine Ng (args:=[.ptr 0 0,.int .i64 (.ofNat (i+1)),.int .i64 r,.agg [.cv .u8 32 key]]) (v:=.int .i64 (Sd.aN.fk p (bJ y) (.ofNat (i+1)) r key).2) (wr:=af) (o:=.cells (ki (Sd.aN.fk p (bJ y) (.ofNat (i+1)) r key).1.de (Sd.aN.fk p (bJ y) (.ofNat (i+1)) r key).1.az y.b y.m) 181 (0,0)) aoR (n:=60) (B0:=⟨af,⟨181,(0,0)⟩,cP y⟩) ?_ rfl S;generalize hK:(λ(x:V) (b:List VB) (_:List Empty)=>x=V.int i64 (Sd.aN.fk p (bJ y) (dG (i+1)) r key).2/\∃B,b=[B]/\aC [0] 0 B=⟨0,af,.cells (ki (Sd.aN.fk p (bJ y) (dG (i+1)) r key).1.de (Sd.aN.fk p (bJ y) (dG (i+1)) r key).1.az y.b y.m) 181 (0,0)⟩/\bu 0 B.c=af)=K;show km [Fc,Fe] 60 126 [.ptr 0 0,.int .i64 (.ofNat (i+1)),.int .i64 r,.agg [.cv .u8 32 key]] (tE af y) (bA 1 K);have hN:=exN y r key i h3;have hi:(dG (i+1))=(i:Int)+1:=rfl;have k1:r<0\/4<=r->K (.int .i64 1) (tE af y) []:=λh=>by
  rw[<-hK];have e:Sd.aN.fk p (bJ y) (dG (i+1)) r key=(bJ y,1):=by unfold Sd.aN.fk;rw[if_pos oM]
  rw[e];exact⟨rfl,_,rfl,Nk y,rfl⟩
 have k0:0<=r->r<4->o=af\/¬y.m<=(bJ y).many->K (.int .i64 0) (wE (AG y i (nS y.b r key))) []:=λh h' h4=>by
  rw[<-hK];have e:Sd.aN.fk p (bJ y) (dG (i+1)) r key=((bJ y).gO ((dG (i+1)).toNat-1) ⟨af,⟨0,if 0>y.b then 0 else y.b⟩,r,key,⟨ag,0,0⟩⟩,0):=by
   unfold Sd.aN.fk;rw[if_neg oM,if_neg,e1,H5];rw[Nj y i h3,ho,e2];rintro⟨rfl,h5⟩;exact h4.elim (λh=>nomatch h) λh=>h h5
  rw[e];exact⟨rfl,_,rfl,hN.1,hN.2⟩
 have k2:0<=r->r<4->o=ag->y.m<=(bJ y).many->K (.int .i64 19) (tE af y) []:=λh h' h4 h5=>by
  rw[<-hK];have e:Sd.aN.fk p (bJ y) (dG (i+1)) r key=(bJ y,19):=by
   unfold Sd.aN.fk;rw[if_neg oM,if_pos];rw[Nj y i h3,ho,e2];exact⟨h4,h5⟩
  rw[e];exact⟨rfl,_,rfl,Nk y,rfl⟩
 have fE:=aoS y r key K i h3;cases o with
 |true=>
  have hv:=fE.1;rw[<-hy]at hv;rw[hv];unfold Nl;refine aJ (λh=>k1 (.inl (by simpa using h))) (λh=>aJ (λh'=>k1 (.inr (by simpa using h'))) λh'=>⟨trivial,?_⟩);exact k0 (by simpa using h) (by simpa using h') (.inl rfl)
 |false=>
  have hv:=fE.2;rw[<-hy]at hv;rw[hv];unfold Nl;refine aJ (λh=>k1 (.inl (by simpa using h))) (λh=>aJ (λh'=>k1 (.inr (by simpa using h'))) λh'=>⟨trivial,trivial,aJ (λh5=>?_) λh5=>?_⟩)
  ·exact k2 (by simpa using h) (by simpa using h') rfl (by simpa using h5)
  ·exact k0 (by simpa using h) (by simpa using h') (.inr (by simpa using h5))
variable{fr:Sd.aO->Nat×Sd.ax}
def Va:QF:=⟨76,λargs _=>match args with
 |[.int .i64 l]=>aa (True,.bool (Sd.linked l))
 |_=>ae⟩
def aoU (l:Int) (X:V->Prop):dP prog [] 20 76 [.int .i64 l] X=(cond (decide (l>=1)) (X (.bool (decide (l<=3)))) (X (.bool ag))):=kR
def aoV (gl:Nat->Option Nat):Va.Ok prog gl:=by
 intro args bl p_ v_ h hp ids w _ _;unfold Va at h;dsimp only at h;split at h
 ·rename_i l;simp only[aW,bC]at h;obtain⟨rfl,rfl⟩:=h;refine xE bP.nil 20 ?_ rfl rfl ids w;show dP prog [] 20 76 _ _;rw[aoU];have e:Sd.linked l=(decide (l>=1)&&decide (l<=3)):=rfl;refine aJ (λh=>?_) (λh=>?_)
  ·rw[e,h];rfl
  ·rw[e,h];rfl
 ·cases h
def IJ (t:Sd.aN) (s:Int):(dX t).iC s=t.iC s:=by
 unfold Sd.aN.iC;by_cases h1:1<=s
 ·by_cases h2:s<=3
  ·have:s=1\/s=2\/s=3:=oM;rcases this with rfl|rfl|rfl<;>rfl
  ·simp[h2]
 ·simp[h1]
def Vb (t:Sd.aN) (s:Int):(dX t).on s=t.on s:=by
 unfold Sd.aN.on;rw[IJ];rfl
def aoW (t:Sd.aN) (s:Int):(dX t).role s=t.role s:=by
 unfold Sd.aN.role;rw[IJ];by_cases h:t.iC s=af
 ·rw[if_pos h,if_pos h];unfold Sd.aN.iC at h;simp only[bD,decide_eq_true_eq]at h;have:s=1\/s=2\/s=3:=oM;rcases this with rfl|rfl|rfl<;>rfl
 ·rw[if_neg h,if_neg h]
def ba.cE {d:FD} (F:ba fr d) (q:List Sd.Ask) (B:List ao) (h:QS d.k.bq d.k.most q B):ba fr {d with q:=q}:={F with Bq:=B,hq:=h}
def vq (k:LK):ai:=.pointer (aa ⟨k.bq,0,ae⟩)
structure QG where
 f:Nat
 pos:Nat
 m:List V->Int->List Sd.Ask->Option (Prop×V×List Sd.Ask)
def CR (x:QG):dk (Gh fr):=λargs bl ch K=>match ch with
 |g::rest=>(match args[x.pos]?with
  |some (.raw vp)=>(match x.m (args.eraseIdx x.pos) g.d.k.most g.d.q with
   |some (p,v,q')=>cond (bu 0 args&&da 0 v) ((vp=vq g.d.k/\p)/\∀B (h:QS g.d.k.bq g.d.k.most q' B),K v bl (⟨{g.d with q:=q'},g.dx,g.sx,g.F.cE q' B h⟩::rest)) False
   |none=>False)
  |_=>False)
 |[]=>False
def QG.Ok (x:QG):Prop:=∀(args:List V) (k:LK) (q:List Sd.Ask) (p:Prop) (v:V) (q':List Sd.Ask),args[x.pos]?=aa (.raw (vq k))->x.m (args.eraseIdx x.pos) k.most q=aa (p,v,q')->p->∀(B:List ao),QS k.bq k.most q B->∀(bs:List ao) (ms:List Nat) (w0 w:aj),St ms w0 (B++bs) w->
 aX prog x.f (aE [] args).toArray w λy w1=>∃B',y=den [] v/\QS k.bq k.most q' B'/\St ms w0 (B'++bs) w1
def tJ {d:FD} (F:ba fr d):F.B=F.Br++(F.Bs++(F.Bf++(F.Bq++F.Bk))):=rfl
def CS (A a b c q e R:List ao):(A++((a++(b++(c++(q++e))))++R)).Perm (q++(A++(a++(b++(c++(e++R)))))):=by
 have h:(A++((a++(b++(c++(q++e))))++R))=(A++(a++(b++c)))++(q++(e++R)):=by simp[bW]
 have h2:(q++(A++(a++(b++(c++(e++R))))))=q++((A++(a++(b++c)))++(e++R)):=by simp[bW]
 rw[h,h2,<-bW,<-bW q];exact Bc _ List.perm_append_comm
def aoX {x:QG} (h:x.Ok) (gl:Nat->Option Nat):Sound prog gl x.f (CR (fr:=fr) x):=by
 intro args ids bl ch R ms w0 w K hg hl S hc;unfold CR at hc;split at hc
 ·rename_i g rest;split at hc
  ·rename_i vp Vc;split at hc
   ·rename_i p v q' hm;cases hq:bu 0 args&&da 0 v with
    |false=>rw[hq]at hc;exact hc.elim
    |true=>
     rw[hq]at hc;simp only[bD]at hq;obtain⟨⟨rfl,hp⟩,hK⟩:=hc;have a1:aE ids args=aE [] args:=by have:=oZ (ids:=[]) (more:=ids) args hq.1;simpa using this
     have e0:au (g::rest) R=g.F.B++au rest R:=rfl;rw[e0,tJ]at S;rw[a1];refine(h args g.d.k g.d.q p v q' Vc hm hp _ g.F.hq _ ms w0 w (S.perm (CS _ _ _ _ _ _ _))).mono ?_;rintro y w1 ⟨B',rfl,hB,S1⟩;refine⟨v,[],bl,_,?_,by simpa using hl,?_,hK B' hB⟩
     ·have:=g_ (ids:=[]) (more:=ids++[]) v hq.2;simpa using this.symm
     ·have e1:au (⟨{g.d with q:=q'},g.dx,g.sx,g.F.cE q' B' hB⟩::rest:List (Gh fr)) R=(g.F.Br++(g.F.Bs++(g.F.Bf++(B'++g.F.Bk))))++au rest R:=rfl;rw[e1,cT];exact S1.perm (CS _ _ _ _ _ _ _).symm
   ·exact hc.elim
  ·exact hc.elim
 ·exact hc.elim
def Nm {x:QG} (h:x.Ok):vL (G:=Gh fr) prog gS ⟨x.f,ag,CR x⟩:=⟨aoX h gS,λe=>by cases e⟩
def Nn:QG:=⟨103,0,λargs _ q=>match args with
 |[.int .i64 s]=>aa (True,.bool (Sd.Q.waits q s),Sd.Q.drop q s)
 |_=>ae⟩
def acV:Nn.Ok:=by
 intro args k q p v q' hv hm hp B hB bs ms w0 w S
 match args,hv,hm with
 |a::l,hv,hm=>
  have ha:a=.raw (vq k):=by simpa[Nn]using hv
  subst ha;replace hm:(match(generalizing:=false) l with
   |[.int .i64 s]=>aa (True,V.bool (Sd.Q.waits q s),Sd.Q.drop q s)
   |_=>ae)=aa (p,v,q'):=hm
  split at hm
  ·simp only[aW,bC]at hm;obtain⟨rfl,rfl,rfl⟩:=hm;exact anS _ hB S
  ·cases hm
def mZ (a b c d e f:Int):List V:=[.int .i64 a,.int .i64 b,.int .i64 c,.int .i64 d,.int .i64 e,.int .i64 f,.int .u8 0,.int .u8 0,.int .u8 0,.int .u8 0,.int .u8 0,.int .u8 0,.int .u8 0,.int .u8 0]
def Vd:List V->Option Sd.aO
 |.int .i64 a::.int .i64 b::.int .i64 c::.int .i64 d::.int .i64 e::.int .i64 f::l=>(match l with
  |[.cv .u8 8 n]=>aa ⟨a,b,c,d,e,f,n⟩
  |[.int .u8 (.ofNat 0),.int .u8 (.ofNat 0),.int .u8 (.ofNat 0),.int .u8 (.ofNat 0),.int .u8 (.ofNat 0),.int .u8 (.ofNat 0),.int .u8 (.ofNat 0),.int .u8 (.ofNat 0)]=>aa ⟨a,b,c,d,e,f,λ_=>0⟩
  |_=>ae)
 |_=>ae
def Ve:List V->Option Sd.aO
 |[.int .i64 a,.int .i64 b,.int .i64 c,.int .i64 d,.int .i64 e,.int .i64 f,.int .u8 (.ofNat 0),.int .u8 (.ofNat 0),.int .u8 (.ofNat 0),.int .u8 (.ofNat 0),.int .u8 (.ofNat 0),.int .u8 (.ofNat 0),.int .u8 (.ofNat 0),.int .u8 (.ofNat 0)]=>aa ⟨a,b,c,d,e,f,λ_=>0⟩
 |_=>ae
def aoY {l:List V} {r:Sd.aO} (h:Ve l=aa r):∃a b c d e f,l=mZ a b c d e f/\r=⟨a,b,c,d,e,f,λ_=>0⟩:=by
 unfold Ve at h;split at h
 ·obtain rfl:=cG h;exact⟨_,_,_,_,_,_,rfl,rfl⟩
 ·cases h
def Rm (s:Sd.ah) (n:Nat):Prop:=s.bw.length+n<=1000/\s.aV.length+n<=1000
def N8 (n:Int):Prop:=0<=n/\n<=255
def N4 (n:Int):Prop:=0<=n/\n<=4
def v7 (n:Int):Prop:=0<=n/\n<=65535
def v8 (n:Int):Prop:=0<=n/\n<=4294967295
structure RB (r:Sd.aO):Prop where
 kind:129<=r.kind/\r.kind<=136
 seq:v8 r.seq/\((r.kind=131\/r.kind=132)\/r.seq=0)
 role:(0<=r.role/\r.role<=3)/\(r.kind=130\/r.role=0)
 eK:N4 r.eK/\((r.kind=130\/r.kind=134\/r.kind=135\/r.kind=136)\/r.eK=0)
 an:v7 r.an/\((r.kind=130\/r.kind=133\/r.kind=134\/r.kind=135)\/r.an=0)
 code:N8 r.code/\((r.kind=132\/r.kind=136)\/r.code=0)
 aK:By r.aK/\(r.kind=129\/r.aK=λ_=>0)
def dt:SM fr:=λar k s F K=>match ar with
 |[.int .i64 l,.agg rl]=>(match Vd rl with
  |some r=>(Rm s 1/\RB r)/\∀F',K (.ay []) (s.tell l r) F'
  |none=>False)
 |_=>False
def v9:SM fr:=λar k s F K=>match ar with
 |[.int .i64 l,.agg rl]=>(match Ve rl with
  |some r=>(Rm s 1/\RB r)/\∀F',K (.ay []) (s.eh l r) F'
  |none=>False)
 |_=>False
def m6 (C:Sd.aL):SM fr:=λar k s F K=>match ar with
 |[.int .i64 l,.int .i64 n,.int .i64 c]=>(Rm s 1/\v8 n/\N8 c)/\∀F',K (.ay []) (s.refuse C l n c) F'
 |_=>False
def oE:SM fr:=λar k s F K=>match ar with
 |[.int .i64 l,.int .i64 n]=>(Rm s 1/\v8 n)/\∀F',K (.ay []) (s.done l n) F'
 |_=>False
def uQ:SM fr:=λar k s F K=>match ar with
 |[.int .i64 l,.int .i64 w,.int .i64 c]=>(Rm s 1/\N4 w/\N8 c)/\∀F',K (.ay []) (s.gone l w c) F'
 |_=>False
def L1 (fr:Sd.aO->Nat×Sd.ax) (C:Sd.aL):List (bK (Gh fr)):=⟨124,ag,gz dt⟩::⟨89,ag,gz (rU C)⟩::⟨103,ag,CR Nn⟩::qE (Gh fr) Va::qE (Gh fr) U6::qE (Gh fr) U7::L0 fr C
def No {q:QF} (h:∀gl,q.Ok prog gl):vL (G:=Gh fr) prog gS (qE (Gh fr) q):=⟨LU (h gS),λ_=>LS q.F⟩
def Np (tk:Nat->Sd.ax->Option Sd.bQ) (ht:Body (fr:=fr) 124 dt):aH prog gS (L1 fr (aP tk)):=
 aH.cons (h_ ht) (aH.cons (h_ (aou tk)) (aH.cons (Nm acV) (aH.cons (No aoV) (aH.cons (No aoH) (aH.cons (No aoI) (acT tk))))))
def aoZ (C:Sd.aL) (k:LK) (s:Sd.ah) (F:ba fr (a9 k s)) (Kb:SK fr k) (l n c:Int):br (bM prog gS (L1 fr C)) 40 122 [.ptr 2 0,.int .i64 l,.int .i64 n,.int .i64 c] (bI k s F) [a_ k s F] (cM k s Kb)
 =(cq k s F/\dt [.int .i64 l,.agg (mZ 132 n 0 0 0 c)] k (bO s) F λv s1 F1=>cq k s1 F1/\iS C [.int .i64 7,.int .i64 l,.int .i64 n,.int .i64 c,.int .i64 0] k (bO s1) F1 (λv s' F'=>cM k s Kb (.ay []) (bI k s' F') [a_ k s' F'])):=kR
def ao0 (C:Sd.aL) (k:LK) (s:Sd.ah) (F:ba fr (a9 k s)) (Kb:SK fr k) (l n:Int):br (bM prog gS (L1 fr C)) 40 175 [.ptr 2 0,.int .i64 l,.int .i64 n] (bI k s F) [a_ k s F] (cM k s Kb)
 =(cq k s F/\dt [.int .i64 l,.agg (mZ 131 n 0 0 0 0)] k (bO s) F λv s' F'=>cM k s Kb (.ay []) (bI k s' F') [a_ k s' F']):=kR
def ao1 (C:Sd.aL) (k:LK) (s:Sd.ah) (F:ba fr (a9 k s)) (Kb:SK fr k) (l a b c d e f:Int):br (bM prog gS (L1 fr C)) 40 143 [.ptr 2 0,.int .i64 l,.agg (mZ a b c d e f)] (bI k s F) [a_ k s F] (cM k s Kb)
 =(True/\cond (Sd.linked l) (True/\cond ((dX s.c.aq).on l) (cq k s F/\dt [.int .i64 l,.agg (mZ a b c d e f)] k (bO s) F λv s' F'=>cM k s Kb (.ay []) (bI k s' F'++[⟨af,⟨232,(0,0)⟩,mZ a b c d e f⟩]) [a_ k s' F']) (cM k s Kb (.ay []) (bI k s F++[⟨af,⟨232,(0,0)⟩,mZ a b c d e f⟩]) [a_ k s F]))
  (cM k s Kb (.ay []) (bI k s F++[⟨af,⟨232,(0,0)⟩,mZ a b c d e f⟩]) [a_ k s F])):=kR
def by0:By (λ_=>0):=λj=>⟨Int.le_refl 0,by show(0:Int)<=255;decide⟩
def rb {a b d e f:Int} (h1:129<=a/\a<=136) (h2:v8 b) (h4:N4 d) (h5:v7 e) (h6:N8 f) (k2:(a=131\/a=132)\/b=0:=by simp) (k4:(a=130\/a=134\/a=135\/a=136)\/d=0:=by simp)
 (k5:(a=130\/a=133\/a=134\/a=135)\/e=0:=by simp) (k6:(a=132\/a=136)\/f=0:=by simp):RB ⟨a,b,0,d,e,f,λ_=>0⟩:=⟨h1,⟨h2,k2⟩,⟨show(0:Int)<=0/\(0:Int)<=3 by decide,.inr rfl⟩,⟨h4,k4⟩,⟨h5,k5⟩,⟨h6,k6⟩,⟨by0,.inr rfl⟩⟩
def z4:N4 0:=⟨dC,dC⟩
def z8:N8 0:=⟨dC,dC⟩
def Nq:v7 0:=⟨dC,dC⟩
def yE:v8 0:=⟨dC,dC⟩
def eE {k:LK} {s0:Sd.ah} {Kb:SK fr k} {v:V} {s s':Sd.ah} (e:s'=s) {bl:List VB} (hK:∀F,Kb v s F) (F':ba fr (a9 k s')) (hv:da 0 v=af:=by rfl) (hp:s'.c.p=s0.c.p:=by rfl) (hb:bl.take 5=bI k s' F':=by kernel_rfl):cM k s0 Kb v bl [a_ k s' F']:=by
 subst e;exact⟨s',F',hv,hp,hK F',hb,rfl⟩
section
variable{k:LK} {s:Sd.ah} {F:ba fr (a9 k s)} {K:SK fr k}
def Vf {l a b c d e f:Int} (h:Rm s 1/\RB ⟨a,b,c,d,e,f,λ_=>0⟩) (hK:∀F',K (.ay []) (s.tell l ⟨a,b,c,d,e,f,λ_=>0⟩) F'):dt [.int .i64 l,.agg (mZ a b c d e f)] k (bO s) F K:=by
 have e:dt [.int .i64 l,.agg (mZ a b c d e f)] k s F K=((Rm s 1/\RB ⟨a,b,c,d,e,f,λ_=>0⟩)/\∀F',K (.ay []) (s.tell l ⟨a,b,c,d,e,f,λ_=>0⟩) F'):=kR;exact mY (M:=dt) (e▸⟨h,hK⟩)
def Nr {l a b c d e f:Int} (h:Rm s 1/\RB ⟨a,b,c,d,e,f,λ_=>0⟩) (hK:∀F',K (.ay []) (s.eh l ⟨a,b,c,d,e,f,λ_=>0⟩) F'):v9 [.int .i64 l,.agg (mZ a b c d e f)] k (bO s) F K:=by
 have e:v9 [.int .i64 l,.agg (mZ a b c d e f)] k s F K=((Rm s 1/\RB ⟨a,b,c,d,e,f,λ_=>0⟩)/\∀F',K (.ay []) (s.eh l ⟨a,b,c,d,e,f,λ_=>0⟩) F'):=kR;exact mY (M:=v9) (e▸⟨h,hK⟩)
def m7 {C:Sd.aL} {a b c d e:Int} (h:s.aV.length<=1000) (hK:∀F',K (.ay []) (s.record C a b c d e) F'):iS C [.int .i64 a,.int .i64 b,.int .i64 c,.int .i64 d,.int .i64 e] k (bO s) F K:=by
 have e:iS C [.int .i64 a,.int .i64 b,.int .i64 c,.int .i64 d,.int .i64 e] k s F K=(s.aV.length<=1000/\∀F',K (.ay []) (s.record C a b c d e) F'):=kR;exact mY (M:=iS C) (e▸⟨h,hK⟩)
end
def ao2 (tk:Nat->Sd.ax->Option Sd.bQ) (ht:Body (fr:=fr) 124 dt):Body (fr:=fr) 122 (m6 (aP tk)):=by
 refine mr (n:=40) (Np tk ht) ?_;intro ar k s F Kb h0 hq hM;unfold m6 at hM;split at hM
 ·rename_i l n c;have h1:=hM.1.1;have h2:=hM.1.2.1;have h3:=hM.1.2.2;have hK:=hM.2;rw[aoZ];refine⟨cK hq,Vf ⟨h1,rb dC h2 z4 Nq h3⟩ λF1=>⟨cK hq,m7 ?_ λF2=>eE rfl hK F2⟩⟩;have:=h1.2;simp only[Sd.ah.tell];omega
 ·exact hM.elim
def ao3 (tk:Nat->Sd.ax->Option Sd.bQ) (ht:Body (fr:=fr) 124 dt):Body (fr:=fr) 175 oE:=by
 refine mr (n:=40) (Np tk ht) ?_;intro ar k s F Kb h0 hq hM;unfold oE at hM;split at hM
 ·rename_i l n;have h1:=hM.1.1;have h2:=hM.1.2;have hK:=hM.2;rw[ao0];exact⟨cK hq,Vf ⟨h1,rb dC h2 z4 Nq z8⟩ λF1=>eE rfl hK F1⟩
 ·exact hM.elim
def ao4 (tk:Nat->Sd.ax->Option Sd.bQ) (ht:Body (fr:=fr) 124 dt):Body (fr:=fr) 143 v9:=by
 refine mr (n:=40) (Np tk ht) ?_;intro ar k s F Kb h0 hq hM;unfold v9 at hM;split at hM
 ·rename_i l rl;split at hM
  ·rename_i r hr;obtain⟨a,b,c,d,e,f,rfl,rfl⟩:=aoY hr;have h1:=hM.1.1;have h2:=hM.1.2;have hK:=hM.2;rw[ao1,Vb];refine⟨trivial,aJ (λe1=>⟨trivial,aJ (λe2=>?_) (λe2=>?_)⟩) (λe1=>?_)⟩
   ·refine⟨cK hq,Vf ⟨h1,h2⟩ λF1=>eE ?_ hK F1⟩;simp only[Sd.ah.eh,e1,e2,Bool.and_self,if_true]
   ·refine eE ?_ hK F;simp[Sd.ah.eh,e1,e2]
   ·refine eE ?_ hK F;simp[Sd.ah.eh,e1]
  ·exact hM.elim
 ·exact hM.elim
def L2 (fr:Sd.aO->Nat×Sd.ax) (C:Sd.aL):List (bK (Gh fr)):=⟨122,ag,gz (m6 C)⟩::⟨175,ag,gz oE⟩::⟨143,ag,gz v9⟩::L1 fr C
def Ns (tk:Nat->Sd.ax->Option Sd.bQ) (ht:Body (fr:=fr) 124 dt):aH prog gS (L2 fr (aP tk)):=
 aH.cons (h_ (ao2 tk ht)) (aH.cons (h_ (ao3 tk ht)) (aH.cons (h_ (ao4 tk ht)) (Np tk ht)))
section
variable(C:Sd.aL) (k:LK) (s:Sd.ah) (F:ba fr (a9 k s)) (Kb:SK fr k)
def ao5 (l n c:Int):br (bM prog gS (L2 fr C)) 40 104 [.ptr 2 0,.int .i64 l,.int .i64 n,.int .i64 c] (bI k s F) [a_ k s F] (cM k s Kb)
 =(cq k s F/\v9 [.int .i64 l,.agg (mZ 136 0 0 n 0 c)] k (bO s) F λv s' F'=>cM k s Kb (.ay []) (bI k s' F') [a_ k s' F']):=kR
def ao6 (m:Int) (b:Sd.Label):br (bM prog gS (L2 fr C)) 40 105 [.ptr 2 0,.int .i64 m,.agg (nN b)] (bI k s F) [a_ k s F] (cM k s Kb)
 =(True/\cM k s Kb (.ay []) (bI k (s.ei m b) F++[⟨af,⟨41,(0,0)⟩,nN b⟩]) [a_ k s F]):=kR
def Vg (s:Sd.ah) (t:Sd.Tok):Sd.ah:={s with c:={s.c with t:=t,q:=Sd.Q.drop s.c.q t.aF}}
def ao7 (t:Sd.Tok) (h n:Int):br (bM prog gS (L2 fr C)) 60 102 [.ptr 2 0,.agg (dm t),.int .i64 h,.int .i64 n] (bI k s F) [a_ k s F] (cM k s Kb)
 =((vq k=vq k/\True)/\∀B (hB:QS k.bq k.most (Sd.Q.drop s.c.q t.aF) B),
  cq k (Vg s t) (F.cE _ B hB)/\v9 [.int .i64 s.c.t.aF,.agg (mZ 134 0 0 t.aF t.an 0)] k (bO (Vg s t)) (F.cE _ B hB) λv s2 F2=>
  cq k s2 F2/\v9 [.int .i64 t.aF,.agg (mZ 133 0 0 0 t.an 0)] k (bO s2) F2 λv s3 F3=>
  cq k s3 F3/\iS C [.int .i64 8,.int .i64 t.aF,.int .i64 n,.int .i64 0,.int .i64 h] k (bO s3) F3 λv s' F'=>cM k s Kb (.ay []) (bI k s' F'++[⟨af,⟨121,(0,0)⟩,dm t⟩]) [a_ k s' F']):=kR
def qd (s:Sd.ah) (l:Int):Sd.ah:={s with c:={s.c with q:=Sd.Q.drop s.c.q l}}
def gA (s:Sd.ah) (t:Sd.Tok):Sd.ah:={s with c:={s.c with t:=t}}
end
def kB (s:Sd.ah) (l:Int) (r:Sd.aO):(s.eh l r).c=s.c:=by unfold Sd.ah.eh;split<;>rfl
def MO (s:Sd.ah) (l:Int) (r:Sd.aO):(s.eh l r).aV=s.aV:=by unfold Sd.ah.eh;split<;>rfl
def ao8 (s:Sd.ah) (l:Int) (r:Sd.aO):(s.eh l r).bw.length<=s.bw.length+1:=by unfold Sd.ah.eh Sd.ah.tell;split<;>simp
def Rm.eh {s:Sd.ah} {l:Int} {r:Sd.aO} {n:Nat} (h:Rm s (n+1)):Rm (s.eh l r) n:=by
 have h1:=ao8 s l r;have h2:=MO s l r;have:=h.1;have:=h.2
 exact⟨oM,by rw[h2];omega⟩
def Rm.rec {s:Sd.ah} {C:Sd.aL} {a b c d e:Int} {n:Nat} (h:Rm s (n+1)):Rm (s.record C a b c d e) n:=by
 have:=h.1;have:=h.2
 exact⟨by simp only[Sd.ah.record];omega,by simp only[Sd.ah.record,fL,YD];omega⟩
def Rm.le {s:Sd.ah} {n m:Nat} (h:Rm s n) (hm:m<=n):Rm s m:=⟨by have:=h.1;omega,by have:=h.2;omega⟩
def Rm.r1 {s:Sd.ah} {n:Nat} (h:Rm s n):s.aV.length<=1000:=by have:=h.2;omega
section
variable(tk:Nat->Sd.ax->Option Sd.bQ)
include tk
def ao9 (ht:Body (fr:=fr) 124 dt):Body (fr:=fr) 104 uQ:=by
 refine mr (n:=40) (Ns tk ht) ?_;intro ar k s F Kb h0 hq hM;unfold uQ at hM;split at hM
 ·rename_i l n c;have h1:=hM.1.1;have h2:=hM.1.2.1;have h3:=hM.1.2.2;have hK:=hM.2;rw[ao5];exact⟨cK hq,Nr ⟨h1,rb dC yE h2 Nq h3⟩ λF1=>eE rfl hK F1 (hp:=by unfold Sd.ah.gone;rw[kB])⟩
 ·exact hM.elim
def yF:SM fr:=λar k s F K=>match ar with
 |[.int .i64 m,.agg bl]=>(match Ir bl with
  |some b=>∀F',K (.ay []) (s.ei m b) F'
  |none=>False)
 |_=>False
def ao_ (ht:Body (fr:=fr) 124 dt):Body (fr:=fr) 105 yF:=by
 refine mr (n:=40) (Ns tk ht) ?_;intro ar k s F Kb h0 hq hM;unfold yF at hM;split at hM
 ·rename_i m bl;split at hM
  ·rename_i b hb;obtain rfl:=T9 hb;rw[ao6 (aP tk)];exact⟨trivial,eE (s':=s.ei m b) rfl hM F⟩
  ·exact hM.elim
 ·exact hM.elim
def rV (C:Sd.aL):SM fr:=λar k s F K=>match ar with
 |[.agg tl,.int .i64 h,.int .i64 n]=>(match lj tl with
  |some t=>(Rm s 4/\N4 t.aF/\v7 t.an)/\∀F',K (.ay []) (s.goes C t h n) F'
  |none=>False)
 |_=>False
def apa (ht:Body (fr:=fr) 124 dt):Body (fr:=fr) 102 (rV (aP tk)):=by
 refine mr (n:=60) (Ns tk ht) ?_;intro ar k s F Kb h0 hq hM;unfold rV at hM;split at hM
 ·rename_i tl h n;split at hM
  ·rename_i t hb;obtain rfl:=pz hb;have h1:Rm (Vg s t) 4:=hM.1.1;have h2:=hM.1.2.1;have h3:=hM.1.2.2;have hK:=hM.2;rw[ao7];refine⟨⟨rfl,trivial⟩,λB hB=>⟨cK hq,Nr ⟨h1.le dC,rb dC yE h2 h3 z8⟩ λF2=>⟨cK ?_,Nr ⟨h1.eh.le dC,rb dC yE z4 h3 z8⟩ λF3=>⟨cK ?_,m7 h1.eh.eh.r1 λF4=>eE rfl hK F4 (hp:=?_)⟩⟩⟩⟩
   ·rw[kB];exact hq
   ·rw[kB,kB];exact hq
   ·show(Sd.ah.eh _ _ _).c.p=_;rw[kB,kB]
  ·exact hM.elim
 ·exact hM.elim
end
def L3 (fr:Sd.aO->Nat×Sd.ax) (C:Sd.aL):List (bK (Gh fr)):=⟨104,ag,gz uQ⟩::⟨105,ag,gz yF⟩::⟨102,ag,gz (rV C)⟩::L2 fr C
def acW (tk:Nat->Sd.ax->Option Sd.bQ) (ht:Body (fr:=fr) 124 dt):aH prog gS (L3 fr (aP tk)):=
 aH.cons (h_ (ao9 tk ht)) (aH.cons (h_ (ao_ tk ht)) (aH.cons (h_ (apa tk ht)) (Ns tk ht)))
def apb (C:Sd.aL) (k:LK) (s:Sd.ah) (F:ba fr (a9 k s)) (Kb:SK fr k) (l:Int):br (bM prog gS (L3 fr C)) 60 108 [.ptr 2 0,.int .i64 l] (bI k s F) [a_ k s F] (cM k s Kb)
 =((vq k=vq k/\True)/\∀B (hB:QS k.bq k.most (Sd.Q.drop s.c.q l) B),True/\cond (!(s.c.t.drop l).2) (cM k s Kb (.ay []) (bI k (qd s l) (F.cE _ B hB)++[⟨af,⟨121,(0,0)⟩,dm (s.c.t.drop l).1⟩]) [a_ k (qd s l) (F.cE _ B hB)])
  (cq k (gA (qd s l) (s.c.t.drop l).1) (F.cE _ B hB)/\uQ [.int .i64 (s.c.t.drop l).1.aF,.int .i64 l,.int .i64 16] k (bO (gA (qd s l) (s.c.t.drop l).1)) (F.cE _ B hB) λv s2 F2=>
   cq k s2 F2/\iS C [.int .i64 12,.int .i64 l,.int .i64 0,.int .i64 16,.int .i64 0] k (bO s2) F2 λv s' F'=>cM k s Kb (.ay []) (bI k s' F'++[⟨af,⟨121,(0,0)⟩,dm (s.c.t.drop l).1⟩]) [a_ k s' F'])):=kR
def lQ (s:Sd.ah) (l w c:Int):(s.gone l w c).c=s.c:=kB _ _ _
def ami (s:Sd.ah) (l w c:Int):(s.gone l w c).aV=s.aV:=MO _ _ _
def Rm.gone {s:Sd.ah} {l w c:Int} {n:Nat} (h:Rm s (n+1)):Rm (s.gone l w c) n:=h.eh
section
variable{k:LK} {s:Sd.ah} {F:ba fr (a9 k s)} {K:SK fr k}
def IK {l w c:Int} (h:Rm s 1/\N4 w/\N8 c) (hK:∀F',K (.ay []) (s.gone l w c) F'):uQ [.int .i64 l,.int .i64 w,.int .i64 c] k (bO s) F K:=by
 have e:uQ [.int .i64 l,.int .i64 w,.int .i64 c] k s F K=((Rm s 1/\N4 w/\N8 c)/\∀F',K (.ay []) (s.gone l w c) F'):=kR;exact mY (M:=uQ) (e▸⟨h,hK⟩)
def wa {l n:Int} (h:Rm s 1/\v8 n) (hK:∀F',K (.ay []) (s.done l n) F'):oE [.int .i64 l,.int .i64 n] k (bO s) F K:=by
 have e:oE [.int .i64 l,.int .i64 n] k s F K=((Rm s 1/\v8 n)/\∀F',K (.ay []) (s.done l n) F'):=kR;exact mY (M:=oE) (e▸⟨h,hK⟩)
def AH {C:Sd.aL} {l n c:Int} (h:Rm s 1/\v8 n/\N8 c) (hK:∀F',K (.ay []) (s.refuse C l n c) F'):m6 C [.int .i64 l,.int .i64 n,.int .i64 c] k (bO s) F K:=by
 have e:m6 C [.int .i64 l,.int .i64 n,.int .i64 c] k s F K=((Rm s 1/\v8 n/\N8 c)/\∀F',K (.ay []) (s.refuse C l n c) F'):=kR;exact mY (M:=m6 C) (e▸⟨h,hK⟩)
def IL {C:Sd.aL} {l c:Int} (h:s.aV.length<=1000) (hK:∀F',K (.ay []) (s.jx C l c) F'):rU C [.int .i64 l,.int .i64 c] k (bO s) F K:=by
 have e:rU C [.int .i64 l,.int .i64 c] k s F K=(s.aV.length<=1000/\∀F',K (.ay []) (s.jx C l c) F'):=kR;exact mY (M:=rU C) (e▸⟨h,hK⟩)
def CT {C:Sd.aL} {t:Sd.Tok} {h n:Int} (hh:Rm s 4/\N4 t.aF/\v7 t.an) (hK:∀F',K (.ay []) (s.goes C t h n) F'):rV C [.agg (dm t),.int .i64 h,.int .i64 n] k (bO s) F K:=by
 have e:rV C [.agg (dm t),.int .i64 h,.int .i64 n] k s F K=((Rm s 4/\N4 t.aF/\v7 t.an)/\∀F',K (.ay []) (s.goes C t h n) F'):=kR;exact mY (M:=rV C) (e▸⟨hh,hK⟩)
def Vh {m:Int} {b:Sd.Label} (hK:∀F',K (.ay []) (s.ei m b) F'):yF [.int .i64 m,.agg (nN b)] k (bO s) F K:=by
 have e:yF [.int .i64 m,.agg (nN b)] k s F K=(∀F',K (.ay []) (s.ei m b) F'):=kR;exact mY (M:=yF) (e▸hK)
end
def uR (C:Sd.aL):SM fr:=λar k s F K=>match ar with
 |[.int .i64 l]=>(Rm s 2/\N4 l)/\∀F',K (.ay []) (s.leave C l) F'
 |_=>False
def apc (tk:Nat->Sd.ax->Option Sd.bQ) (ht:Body (fr:=fr) 124 dt):Body (fr:=fr) 108 (uR (aP tk)):=by
 refine mr (n:=60) (acW tk ht) ?_;intro ar k s F Kb h0 hq hM;unfold uR at hM;split at hM
 ·rename_i l;have h1:Rm (gA (qd s l) (s.c.t.drop l).1) 2:=hM.1.1;have h2:=hM.1.2;have hK:=hM.2;rw[apb];refine⟨⟨rfl,trivial⟩,λB hB=>⟨trivial,aJ (λe=>?_) (λe=>?_)⟩⟩
  ·refine eE (s':=qd s l) ?_ hK (F.cE (Sd.Q.drop s.c.q l) B hB);simp only[n7]at e;exact(if_pos e).symm
  ·refine⟨cK hq,IK ⟨h1.le dC,h2,⟨dC,dC⟩⟩ λF2=>⟨cK ?_,m7 h1.gone.r1 λF3=>eE ?_ hK F3 (hp:=?_)⟩⟩
   ·rw[lQ];exact hq
   ·simp only[Bool.not_eq_false']at e;have cL:¬(s.c.t.drop l).2=ag:=by rw[e];decide
    exact(if_neg cL).symm
   ·show(Sd.ah.gone _ _ _ _).c.p=_;rw[lQ];rfl
 ·exact hM.elim
end
section
open Go Go.RowKit Go.BigFrame Sx Vx
def bV (n:Int):Prop:=-9223372036854775808<=n/\n<=9223372036854775807
def dR {a b:List ao} (h:∀f:ao->Bool,a.countP f=b.countP f):a.Perm b:=by
 classical
 refine List.perm_iff_count.2 λx=>?_;exact h _
structure QH where
 k:LK
 q:List Sd.Ask
 B:List ao
 h:QS k.bq k.most q B
instance:Bl QH:=⟨λg=>g.B⟩
def Vi (x:QG):dk QH:=λargs bl ch K=>match ch with
 |[g]=>(match args[x.pos]?with
  |some (.raw vp)=>(match x.m (args.eraseIdx x.pos) g.k.most g.q with
   |some (p,v,q')=>cond (bu 0 args&&da 0 v) ((vp=vq g.k/\p)/\∀B (h:QS g.k.bq g.k.most q' B),K v bl [⟨g.k,q',B,h⟩]) False
   |none=>False)
  |_=>False)
 |_=>False
def apd {x:QG} (h:x.Ok) (gl:Nat->Option Nat):Sound prog gl x.f (Vi x):=by
 intro args ids bl ch R ms w0 w K hg hl S hc;unfold Vi at hc;split at hc
 ·rename_i g;split at hc
  ·rename_i vp Vc;split at hc
   ·rename_i p v q' hm;cases hq:bu 0 args&&da 0 v with
    |false=>rw[hq]at hc;exact hc.elim
    |true=>
     rw[hq]at hc;simp only[bD]at hq;obtain⟨⟨rfl,hp⟩,hK⟩:=hc;have a1:aE ids args=aE [] args:=by have:=oZ (ids:=[]) (more:=ids) args hq.1;simpa using this
     have e0:∀(B:List ao) (h:QS g.k.bq g.k.most q' B),au ([⟨g.k,q',B,h⟩]:List QH) R=B++R:=λ_ _=>rfl;have S1:St ms w0 (g.B++(lits ids ids bl++R)) w:=S.perm (by show mE (lits ids ids bl++(g.B++R)) _;exact dR λf=>by simp only[dZ];omega);rw[a1];refine(h args g.k g.q p v q' Vc hm hp _ g.h _ ms w0 w S1).mono ?_;rintro y w1 ⟨B',rfl,hB,S2⟩;refine⟨v,[],bl,_,?_,by simpa using hl,?_,hK B' hB⟩
     ·have:=g_ (ids:=[]) (more:=ids++[]) v hq.2;simpa using this.symm
     ·rw[e0,cT];exact S2.perm (dR λf=>by simp only[dZ];omega)
   ·exact hc.elim
  ·exact hc.elim
 ·exact hc.elim
def IM (x:QG):bK QH:=⟨x.f,ag,Vi x⟩
def Nt {x:QG} (h:x.Ok) {gl:Nat->Option Nat}:vL (G:=QH) prog gl (IM x):=⟨apd h gl,λe=>by cases e⟩
def acX {L:List (bK QH)} (hL:aH prog (λ_=>ae) L) (n:Nat) {f:Nat} {args:List V} {v:V} {k:LK} {q q':List Sd.Ask} {B:List ao} (hB:QS k.bq k.most q B) (h:br (bM prog (λ_=>ae) L) n f args [] [⟨k,q,B,hB⟩] (bA 0 λx b c=>x=v/\b=[]/\∃B h,c=[⟨k,q',B,h⟩])) (hv:da 0 v=af)
 {bs:List ao} {ms:List Nat} {w0 w:aj} (S:St ms w0 (B++bs) w):aX prog f (aE [] args).toArray w λy w1=>∃B',y=den [] v/\QS k.bq k.most q' B'/\St ms w0 (B'++bs) w1:=by
 refine(eZ hL.T hL.Q n (C:=bM prog (λ_=>ae) L) (ids:=[]) (bl:=[]) (ch:=[⟨k,q,B,hB⟩]) (R:=bs) Gl.no rfl S h).mono ?_;rintro x w' ⟨y,more,bl',ch',rfl,h1,S',hK⟩;obtain⟨v2,cn,bl2,e,cX,S2,rfl,rfl,B1,xJ,rfl⟩:=iP (n0:=0) h1 sP S' hK;have hm:cn=[]:=by simpa using cX
 subst hm;exact⟨B1,e,xJ,S2⟩
def Vj:QG:=⟨227,0,λargs _ q=>match args with
 |[]=>aa (True,.ay [.agg (Iu (kM q).1),.int .i64 (kM q).2],q)
 |_=>ae⟩
def ape:Vj.Ok:=by
 intro args k q p v q' hv hm hp B hB bs ms w0 w S
 match args,hv,hm with
 |[a],hv,hm=>
  have ha:a=.raw (vq k):=by simpa[Vj]using hv
  subst ha;replace hm:aa (True,V.ay [.agg (Iu (kM q).1),.int .i64 (kM q).2],q)=aa (p,v,q'):=hm;simp only[aW,bC]at hm;obtain⟨rfl,rfl,rfl⟩:=hm;exact(aof hB S).mono (by rintro y w1 ⟨rfl,h⟩;exact⟨B,rfl,hB,S.quiet h⟩)
 |_::_::_,_,hm=>cases hm
def Vk:QG:=⟨217,0,λargs most q=>match args with
 |[.agg al]=>(match M1 al with|some a=>aa (most<=3/\(∀e∈q,e.source=a.source\/¬e.bU=a.bU),.int .i64 (Sd.Q.push most q a).2,(Sd.Q.push most q a).1)|none=>ae)
 |_=>ae⟩
def apf:Vk.Ok:=by
 intro args k q p v q' hv hm hp B hB bs ms w0 w S
 match args,hv,hm with
 |a::l,hv,hm=>
  have ha:a=.raw (vq k):=by simpa[Vk]using hv
  subst ha;replace hm:(match(generalizing:=false) l with
   |[.agg al]=>(match M1 al with|some a=>aa (k.most<=3/\(∀e∈q,e.source=a.source\/¬e.bU=a.bU),V.int .i64 (Sd.Q.push k.most q a).2,(Sd.Q.push k.most q a).1)|none=>ae)
   |_=>ae)=aa (p,v,q'):=hm
  split at hm
  ·split at hm
   ·rename_i a ha;obtain rfl:=amX ha;simp only[aW,bC]at hm;obtain⟨rfl,rfl,rfl⟩:=hm;exact aod a hB hp.1 hp.2 S
   ·cases hm
  ·cases hm
def apg (t:Sd.Tok) (q:List Sd.Ask):Sd.fT t q=if(kM q).2≠0 then(t,(kM q).2,q)else if(t.dF (kM q).1.source).2≠0 then(t,(t.dF (kM q).1.source).2,q)else((t.dF (kM q).1.source).1,0,Sd.Q.drop q (kM q).1.source):=by
 cases q with
 |nil=>rfl
 |cons a q=>rfl
def LA:List (bK QH):=IM Nn::IM Vj::qL QH QV
def acY:aH prog (λ_=>ae) LA:=aH.cons (Nt acV) (aH.cons (Nt ape) (kA (Ay _)))
def one (g:QH) (q:List Sd.Ask) (X:List QH->Prop):Prop:=∀B (h:QS g.k.bq g.k.most q B),X [⟨g.k,q,B,h⟩]
def nU (t:Sd.Tok) (n:Int):V:=.ay [.agg (dm t),.int .i64 n]
def aph (g:QH) (t:Sd.Tok) (K:VK QH):br (bM prog (λ_=>ae) LA) 60 181 [.agg (dm t),.raw (vq g.k)] [] [g] (bA 0 K)=
 ((vq g.k=vq g.k/\True)/\one g g.q λc=>cond ((kM g.q).2!=0) (K (nU t (kM g.q).2) [] c) (bV t.an/\cond ((t.dF (kM g.q).1.source).2!=0) (K (nU t (t.dF (kM g.q).1.source).2) [] c)
   ((vq g.k=vq g.k/\True)/\one g (Sd.Q.drop g.q (kM g.q).1.source) λc=>K (nU (t.dF (kM g.q).1.source).1 0) [] c))):=kR
def Nu:QG:=⟨181,1,λargs _ q=>match args with
 |[.agg tl]=>(match lj tl with|some t=>aa (bV t.an,nU (Sd.fT t q).1 (Sd.fT t q).2.1,(Sd.fT t q).2.2)|none=>ae)
 |_=>ae⟩
def api:Nu.Ok:=by
 intro args k q p v q' hv hm hp B hB bs ms w0 w S
 match args,hv,hm with
 |a::b::l,hv,hm=>
  have ha:b=.raw (vq k):=by simpa[Nu]using hv
  subst ha;replace hm:(match(generalizing:=false) a::l with
   |[.agg tl]=>(match lj tl with|some t=>aa (bV t.an,nU (Sd.fT t q).1 (Sd.fT t q).2.1,(Sd.fT t q).2.2)|none=>ae)
   |_=>ae)=aa (p,v,q'):=hm
  split at hm
  ·rename_i tl heq;obtain⟨rfl,rfl⟩:=wI heq;split at hm
   ·rename_i t ht;obtain rfl:=pz ht;simp only[aW,bC]at hm;obtain⟨rfl,rfl,rfl⟩:=hm;refine acX acY 60 hB ?_ rfl S;rw[show br (bM prog (λ_=>ae) LA) 60 Nu.f=br (bM prog (λ_=>ae) LA) 60 181 from rfl,aph ⟨k,q,B,hB⟩,apg];refine⟨⟨rfl,trivial⟩,λB h=>aJ (λh1=>?_) (λh1=>⟨hp,aJ (λh2=>?_) λh2=>⟨⟨rfl,trivial⟩,λB h=>?_⟩⟩)⟩
    ·rw[if_pos (by simpa using h1)];exact⟨rfl,rfl,B,h,rfl⟩
    ·rw[if_neg (by simpa using h1),if_pos (by simpa using h2)];exact⟨rfl,rfl,B,h,rfl⟩
    ·rw[if_neg (by simpa using h1),if_neg (by simpa using h2)];exact⟨rfl,rfl,B,h,rfl⟩
   ·cases hm
  ·cases hm
def LB:List (bK QH):=IM Nu::IM Vk::LA
def apj:aH prog (λ_=>ae) LB:=aH.cons (Nt api) (aH.cons (Nt apf) acY)
def Nv (f:fl) (args:List V) (g:QH) (K:VK QH):Prop:=br (bM prog (λ_=>ae) LB) 60 f args [] [g] (bA 0 K)
def Vl {f:Nat} {args:List V} {v:V} {k:LK} {q q':List Sd.Ask} {B:List ao} (hB:QS k.bq k.most q B) (h:Nv f args ⟨k,q,B,hB⟩ λx b c=>x=v/\b=[]/\∃B h,c=[⟨k,q',B,h⟩]) (hv:da 0 v=af)
 {bs:List ao} {ms:List Nat} {w0 w:aj} (S:St ms w0 (B++bs) w):aX prog f (aE [] args).toArray w λy w1=>∃B',y=den [] v/\QS k.bq k.most q' B'/\St ms w0 (B'++bs) w1:=acX apj 60 hB h hv S
def apk (g:QH) (t:Sd.Tok) (f:Int) (K:VK QH):Nv 139 [.agg (dm t),.raw (vq g.k),.int .i64 f] g K=
 cond (f !=t.aF) (K (nU t 20) [] [g]) (cond (decide (t.an>=65535)) (K (nU t 24) [] [g]) ((vq g.k=vq g.k/\bV t.an)/\one g (Sd.fT t g.q).2.2 λc=>K (nU (Sd.fT t g.q).1 (Sd.fT t g.q).2.1) [] c)):=kR
def apl {k:LK} {q:List Sd.Ask} {B:List ao} (hB:QS k.bq k.most q B) {t:Sd.Tok} (he:bV t.an) (f:Int) {bs:List ao} {ms:List Nat} {w0 w:aj} (S:St ms w0 (B++bs) w):
 aX prog 139 (aE [] [.agg (dm t),.raw (vq k),.int .i64 f]).toArray w λy w1=>∃B',y=den [] (nU (Sd.dA t q f).1 (Sd.dA t q f).2.1)/\QS k.bq k.most (Sd.dA t q f).2.2 B'/\St ms w0 (B'++bs) w1:=by
 refine Vl hB ?_ rfl S;rw[apk ⟨k,q,B,hB⟩];unfold Sd.dA;refine aJ (λh=>?_) (λh=>aJ (λh2=>?_) λh2=>⟨⟨rfl,he⟩,λB h3=>?_⟩)
 ·rw[if_pos (by simpa using h)];exact⟨rfl,rfl,B,hB,rfl⟩
 ·rw[if_neg (by simpa using h),if_pos (by simpa using h2)];exact⟨rfl,rfl,B,hB,rfl⟩
 ·rw[if_neg (by simpa using h),if_neg (by simpa using h2)];exact⟨rfl,rfl,B,h3,rfl⟩
def Nw (g:QH) (t:Sd.Tok) (la:Sd.Timer) (K:VK QH):Prop:=
 let t1:Sd.Tok:={t with la:=la.step}
 (bV la.n/\bV la.most)/\True/\cond (!la.step.due) (K (nU t1 0) [] [g]) (cond (decide (t.an>=65535)) (bV t.an/\K (nU t1.gX 6) [] [g]) ((vq g.k=vq g.k/\bV t.an)/\one g (Sd.fT t1 g.q).2.2 λc=>
  cond ((Sd.fT t1 g.q).2.1!=0) (bV t.an/\K (nU (t1.dF 4).1 5) [] c) (K (nU (Sd.fT t1 g.q).1 5) [] c)))
def apm (g:QH) (p:Sd.aU) (ka:Nat->Option aI) (kn kc:Nat->Nat) (t:Sd.Tok) (th:Bool) (K:VK QH):Nv 153 [.agg [.dO p ka kn kc],.agg (dm t),.raw (vq g.k),.bool th] g K=
 cond (t.aF==4) (K (nU {t with la:=.zero} 0) [] [g]) (cond th (K (nU {t with la:=.zero} 0) [] [g]) (cond (t.la.most==0) (bV (p.i 43)/\Nw g t (.start (p.i 43)) K) (Nw g t t.la K))):=kR
def uS (t:Sd.Tok) (a n:Int):V:=.ay [.agg (dm t),.int .i64 a,.int .i64 n]
def Nx (g:QH) (t:Sd.Tok) (f:Int) (K:VK QH):Prop:=bV t.an/\cond ((t.dF f).2!=0) (K (uS t 0 (t.dF f).2) [] [g]) ((vq g.k=vq g.k/\True)/\one g (Sd.Q.drop g.q f) λc=>K (uS (t.dF f).1 3 0) [] c)
def Vm (g:QH) (p:Sd.aU) (t:Sd.Tok) (f:Int) (K:VK QH):Prop:=
 let a:Sd.Ask:=⟨f,Sd.placeOf p f,.start (p.i 45)⟩
 True/\bV (p.i 45)/\(vq g.k=vq g.k/\g.k.most<=3/\∀e∈g.q,e.source=f\/¬e.bU=Sd.placeOf p f)/\one g (Sd.Q.push g.k.most g.q a).1 λc=>K (uS t 0 (Sd.Q.push g.k.most g.q a).2) [] c
def apn (g:QH) (p:Sd.aU) (ka:Nat->Option aI) (kn kc:Nat->Nat) (t:Sd.Tok) (f:Int) (nw:Bool) (K:VK QH):Nv 177 [.agg [.dO p ka kn kc],.agg (dm t),.raw (vq g.k),.int .i64 f,.bool nw] g K=
 cond t.bad (K (uS t 0 29) [] [g]) (cond (f==t.aF) (K (uS t 0 25) [] [g]) (cond (decide (t.an>=65535)) (K (uS t 0 24) [] [g]) (cond (t.aF==4) (Nx g t f K)
  (cond nw (True/\cond (Sd.eL p f t.aF) (Nx g t f K) (cond nw (K (uS t 0 26) [] [g]) (Vm g p t f K))) (cond nw (K (uS t 0 26) [] [g]) (Vm g p t f K)))))):=kR
def IN (t:Sd.Tok) (la:Sd.Timer) (q:List Sd.Ask):Sd.Tok×Int×List Sd.Ask:=
 let t1:Sd.Tok:={t with la:=la.step}
 if la.step.due=ag then(t1,0,q)else if 65535<=t.an then(t1.gX,6,q)else if(Sd.fT t1 q).2.1≠0 then((t1.dF 4).1,5,(Sd.fT t1 q).2.2)else((Sd.fT t1 q).1,5,(Sd.fT t1 q).2.2)
def acZ {k:LK} {q:List Sd.Ask} {B:List ao} (hB:QS k.bq k.most q B) {t:Sd.Tok} (he:bV t.an) {la:Sd.Timer} (ui:bV la.n/\bV la.most):
 Nw ⟨k,q,B,hB⟩ t la λx b c=>x=nU (IN t la q).1 (IN t la q).2.1/\b=[]/\∃B h,c=[⟨k,(IN t la q).2.2,B,h⟩]:=by
 unfold Nw IN;refine⟨ui,trivial,aJ (λh=>?_) (λh=>aJ (λh2=>⟨he,?_⟩) λh2=>⟨⟨rfl,he⟩,λB1 h1=>aJ (λh3=>⟨he,?_⟩) λh3=>?_⟩)⟩
 ·rw[if_pos (by simpa using h)];exact⟨rfl,rfl,B,hB,rfl⟩
 ·rw[if_neg (by simpa using h),if_pos (by simpa using h2)];exact⟨rfl,rfl,B,hB,rfl⟩
 ·rw[if_neg (by simpa using h),if_neg (by simpa using h2),if_pos (by simpa using h3)];exact⟨rfl,rfl,B1,h1,rfl⟩
 ·rw[if_neg (by simpa using h),if_neg (by simpa using h2),if_neg (by simpa using h3)];exact⟨rfl,rfl,B1,h1,rfl⟩
def apo {k:LK} {q:List Sd.Ask} {B:List ao} (hB:QS k.bq k.most q B) (p:Sd.aU) (ka:Nat->Option aI) (kn kc:Nat->Nat) {t:Sd.Tok} (th:Bool) (he:bV t.an) (ui:bV t.la.n/\bV t.la.most) (hp:1<=p.i 43/\p.i 43<=1000) {bs:List ao} {ms:List Nat} {w0 w:aj} (S:St ms w0 (B++bs) w):
 aX prog 153 (aE [] [.agg [.dO p ka kn kc],.agg (dm t),.raw (vq k),.bool th]).toArray w λy w1=>∃B',y=den [] (nU (Sd.gZ p t q th).1 (Sd.gZ p t q th).2.1)/\QS k.bq k.most (Sd.gZ p t q th).2.2 B'/\St ms w0 (B'++bs) w1:=by
 refine Vl hB ?_ rfl S;rw[apm ⟨k,q,B,hB⟩];have e:Sd.gZ p t q th=if t.aF=4\/th=af then({t with la:=.zero},0,q)else IN t (if t.la.most=0 then .start (p.i 43)else t.la) q:=rfl
 rw[e];refine aJ (λh=>?_) (λh=>aJ (λh2=>?_) λh2=>?_)
 ·rw[if_pos (.inl (by simpa using h))];exact⟨rfl,rfl,B,hB,rfl⟩
 ·rw[if_pos (.inr h2)];exact⟨rfl,rfl,B,hB,rfl⟩
 ·rw[if_neg (by simp at h;simp[h,h2])];refine aJ (λh3=>⟨by unfold bV;omega,?_⟩) (λh3=>?_)
  ·rw[if_pos (by simpa using h3)];refine acZ hB he ?_;rw[H5,if_neg oM];exact⟨⟨by show(-9223372036854775808:Int)<=0;omega,by show(0:Int)<=9223372036854775807;omega⟩,by unfold bV;show _<=p.i 43/\p.i 43<=_;omega⟩
  ·rw[if_neg (by simpa using h3)];exact acZ hB he ui
def ac0 {k:LK} {q:List Sd.Ask} {B:List ao} (hB:QS k.bq k.most q B) {t:Sd.Tok} (he:bV t.an) {f:Int} {R:Sd.Tok×Int×Int×List Sd.Ask} (e:R=if(t.dF f).2≠0 then(t,0,(t.dF f).2,q)else((t.dF f).1,3,0,Sd.Q.drop q f)):
 Nx ⟨k,q,B,hB⟩ t f λx b c=>x=uS R.1 R.2.1 R.2.2.1/\b=[]/\∃B h,c=[⟨k,R.2.2.2,B,h⟩]:=by
 unfold Nx;subst e;refine⟨he,aJ (λh=>?_) (λh=>⟨⟨rfl,trivial⟩,λB1 h1=>?_⟩)⟩
 ·rw[if_pos (by simpa using h)];exact⟨rfl,rfl,B,hB,rfl⟩
 ·rw[if_neg (by simpa using h)];exact⟨rfl,rfl,B1,h1,rfl⟩
def apq {k:LK} {q:List Sd.Ask} {B:List ao} (hB:QS k.bq k.most q B) (p:Sd.aU) (ka:Nat->Option aI) (kn kc:Nat->Nat) {t:Sd.Tok} (f:Int) (nw:Bool) (he:bV t.an) (hm:k.most<=3) (hr:∀e∈q,e.source=f\/¬e.bU=Sd.placeOf p f) (hp:1<=p.i 45/\p.i 45<=1000) {bs:List ao} {ms:List Nat} {w0 w:aj} (S:St ms w0 (B++bs) w):
 aX prog 177 (aE [] [.agg [.dO p ka kn kc],.agg (dm t),.raw (vq k),.int .i64 f,.bool nw]).toArray w λy w1=>∃B',y=den [] (uS (Sd.gY p t k.most q f nw).1 (Sd.gY p t k.most q f nw).2.1 (Sd.gY p t k.most q f nw).2.2.1)/\QS k.bq k.most (Sd.gY p t k.most q f nw).2.2.2 B'/\St ms w0 (B'++bs) w1:=by
 refine Vl hB ?_ rfl S;rw[apn ⟨k,q,B,hB⟩];have hP:∀R:Sd.Tok×Int×Int×List Sd.Ask,R=(t,0,(Sd.Q.push k.most q ⟨f,Sd.bU p f,.start p.ask⟩).2,(Sd.Q.push k.most q ⟨f,Sd.bU p f,.start p.ask⟩).1)->Vm ⟨k,q,B,hB⟩ p t f λx b c=>x=uS R.1 R.2.1 R.2.2.1/\b=[]/\∃B h,c=[⟨k,R.2.2.2,B,h⟩]:=by
  rintro R rfl;exact⟨trivial,by unfold bV;omega,⟨rfl,hm,hr⟩,λB1 h1=>⟨rfl,rfl,B1,h1,rfl⟩⟩
 unfold Sd.gY;refine aJ (λh=>?_) (λh=>?_)
 ·rw[if_pos h];exact⟨rfl,rfl,B,hB,rfl⟩
 rw[if_neg (by simp[h])];refine aJ (λh=>?_) (λh=>?_)
 ·rw[if_pos (by simpa using h)];exact⟨rfl,rfl,B,hB,rfl⟩
 rw[if_neg (by simpa using h)];refine aJ (λh=>?_) (λh=>?_)
 ·rw[if_pos (by simpa using h)];exact⟨rfl,rfl,B,hB,rfl⟩
 rw[if_neg (by simpa using h)];refine aJ (λh=>?_) (λh4=>aJ (λh5=>⟨trivial,aJ (λh6=>?_) λh6=>aJ (λh7=>?_) λh7=>?_⟩) λh5=>aJ (λh7=>?_) λh7=>?_)
 ·rw[if_pos (.inl (by simpa using h))];exact ac0 hB he rfl
 ·rw[if_pos (.inr ⟨h5,h6⟩)];exact ac0 hB he rfl
 ·rw[if_neg (by simp at h4;simp[h4,h6]),if_pos h7];exact⟨rfl,rfl,B,hB,rfl⟩
 ·rw[h5]at h7;cases h7
 ·rw[h5]at h7;cases h7
 ·rw[if_neg (by simp at h4;simp[h4,h5]),if_neg (by simp[h5])];exact hP _ rfl
variable{fr:Sd.aO->Nat×Sd.ax}
def Vn:QG:=⟨139,1,λargs _ q=>match args with
 |[.agg tl,.int .i64 f]=>(match lj tl with|some t=>aa (bV t.an,.ay [.agg (dm (Sd.dA t q f).1),.int .i64 (Sd.dA t q f).2.1],(Sd.dA t q f).2.2)|none=>ae)
 |_=>ae⟩
def apr:Vn.Ok:=by
 intro args k q p v q' hv hm hp B hB bs ms w0 w S
 match args,hv,hm with
 |a::b::l,hv,hm=>
  have ha:b=.raw (vq k):=by simpa[Vn]using hv
  subst ha;replace hm:(match(generalizing:=false) a::l with
   |[.agg tl,.int .i64 f]=>(match lj tl with|some t=>aa (bV t.an,V.ay [.agg (dm (Sd.dA t q f).1),.int .i64 (Sd.dA t q f).2.1],(Sd.dA t q f).2.2)|none=>ae)
   |_=>ae)=aa (p,v,q'):=hm
  split at hm
  ·rename_i tl f heq;obtain⟨rfl,rfl⟩:=wI heq;split at hm
   ·rename_i t ht;obtain rfl:=pz ht;simp only[aW,bC]at hm;obtain⟨rfl,rfl,rfl⟩:=hm;exact apl hB hp f S
   ·cases hm
  ·cases hm
def Vo:QG:=⟨177,2,λargs most q=>match args with
 |[.agg [.dO p ka kn kc],.agg tl,.int .i64 f,.bool nw]=>(match lj tl with|some t=>aa (bV t.an/\most<=3/\(∀e∈q,e.source=f\/¬e.bU=Sd.placeOf p f)/\(1<=p.i 45/\p.i 45<=1000),.ay [.agg (dm (Sd.gY p t most q f nw).1),.int .i64 (Sd.gY p t most q f nw).2.1,.int .i64 (Sd.gY p t most q f nw).2.2.1],(Sd.gY p t most q f nw).2.2.2)|none=>ae)
 |_=>ae⟩
def aps:Vo.Ok:=by
 intro args k q p v q' hv hm hp B hB bs ms w0 w S
 match args,hv,hm with
 |a::b::c::l,hv,hm=>
  have ha:c=.raw (vq k):=by simpa[Vo]using hv
  subst ha;replace hm:(match(generalizing:=false) a::b::l with
   |[.agg [.dO p ka kn kc],.agg tl,.int .i64 f,.bool nw]=>(match lj tl with|some t=>aa (bV t.an/\k.most<=3/\(∀e∈q,e.source=f\/¬e.bU=Sd.placeOf p f)/\(1<=p.i 45/\p.i 45<=1000),V.ay [.agg (dm (Sd.gY p t k.most q f nw).1),.int .i64 (Sd.gY p t k.most q f nw).2.1,.int .i64 (Sd.gY p t k.most q f nw).2.2.1],(Sd.gY p t k.most q f nw).2.2.2)|none=>ae)
   |_=>ae)=aa (p,v,q'):=hm
  split at hm
  ·rename_i p' ka kn kc tl f nw heq;obtain⟨rfl,h2⟩:=wI heq;obtain⟨rfl,rfl⟩:=wI h2;split at hm
   ·rename_i t ht;obtain rfl:=pz ht;simp only[aW,bC]at hm;obtain⟨rfl,rfl,rfl⟩:=hm;exact apq hB p' ka kn kc f nw hp.1 hp.2.1 hp.2.2.1 hp.2.2.2 S
   ·cases hm
  ·cases hm
def cE (s:Sd.ah) (q:List Sd.Ask):Sd.ah:={s with c:={s.c with q:=q}}
def L4 (fr:Sd.aO->Nat×Sd.ax) (C:Sd.aL):List (bK (Gh fr)):=⟨108,ag,gz (uR C)⟩::⟨139,ag,CR Vn⟩::⟨177,ag,CR Vo⟩::L3 fr C
def CU (tk:Nat->Sd.ax->Option Sd.bQ) (ht:Body (fr:=fr) 124 dt):aH prog gS (L4 fr (aP tk)):=
 aH.cons (h_ (apc tk ht)) (aH.cons (Nm apr) (aH.cons (Nm aps) (acW tk ht)))
section
variable(C:Sd.aL) (k:LK) (s:Sd.ah) (F:ba fr (a9 k s)) (Kb:SK fr k)
def apt (l:Int) (m:Sd.bQ):br (bM prog gS (L4 fr C)) 60 130 [.ptr 2 0,.int .i64 l,.agg (dg m)] (bI k s F) [a_ k s F] (cM k s Kb)
 =(cq k s F/\oE [.int .i64 l,.int .i64 m.seq] k (bO s) F λv s' F'=>cM k s Kb (.ay []) (bI k s' F'++[⟨af,⟨204,(0,0)⟩,dg m⟩]) [a_ k s' F']):=kR
def apu (l:Int) (m:Sd.bQ):br (bM prog gS (L4 fr C)) 60 134 [.ptr 2 0,.int .i64 l,.agg (dg m)] (bI k s F) [a_ k s F] (cM k s Kb)
 =(bV s.c.t.an/\cond ((s.c.t.accept l m.an).2!=0) (cq k s F/\m6 C [.int .i64 l,.int .i64 m.seq,.int .i64 (s.c.t.accept l m.an).2] k (bO s) F λv s' F'=>cM k s Kb (.ay []) (bI k s' F'++[⟨af,⟨204,(0,0)⟩,dg m⟩,⟨af,⟨121,(0,0)⟩,dm (s.c.t.accept l m.an).1⟩]) [a_ k s' F'])
  (cq k s F/\rV C [.agg (dm (s.c.t.accept l m.an).1),.int .i64 1,.int .i64 m.seq] k (bO s) F λv s2 F2=>cq k s2 F2/\oE [.int .i64 l,.int .i64 m.seq] k (bO s2) F2 λv s' F'=>cM k s Kb (.ay []) (bI k s' F'++[⟨af,⟨204,(0,0)⟩,dg m⟩,⟨af,⟨121,(0,0)⟩,dm (s.c.t.accept l m.an).1⟩]) [a_ k s' F'])):=kR
def apv (l:Int) (m:Sd.bQ):br (bM prog gS (L4 fr C)) 60 135 [.ptr 2 0,.int .i64 l,.agg (dg m)] (bI k s F) [a_ k s F] (cM k s Kb)
 =(True/\cond ((s.c.t.gh l).2!=0) (cq k s F/\m6 C [.int .i64 l,.int .i64 m.seq,.int .i64 (s.c.t.gh l).2] k (bO s) F λv s' F'=>cM k s Kb (.ay []) (bI k s' F'++[⟨af,⟨204,(0,0)⟩,dg m⟩,⟨af,⟨121,(0,0)⟩,dm (s.c.t.gh l).1⟩]) [a_ k s' F'])
  (cq k (gA s (s.c.t.gh l).1) F/\uQ [.int .i64 (s.c.t.gh l).1.aF,.int .i64 l,.int .i64 0] k (bO (gA s (s.c.t.gh l).1)) F λv s2 F2=>cq k s2 F2/\iS C [.int .i64 11,.int .i64 l,.int .i64 m.seq,.int .i64 0,.int .i64 0] k (bO s2) F2 λv s3 F3=>
   cq k s3 F3/\oE [.int .i64 l,.int .i64 m.seq] k (bO s3) F3 λv s' F'=>cM k s Kb (.ay []) (bI k s' F'++[⟨af,⟨204,(0,0)⟩,dg m⟩,⟨af,⟨121,(0,0)⟩,dm (s.c.t.gh l).1⟩]) [a_ k s' F'])):=kR
def apw (l:Int) (m:Sd.bQ):br (bM prog gS (L4 fr C)) 60 133 [.ptr 2 0,.int .i64 l,.agg (dg m)] (bI k s F) [a_ k s F] (cM k s Kb)
 =(True/\Sd.fF s.c.p/\cond ((Sd.Tok.make s.c.p s.c.t l m.bh ((dX s.c.aq).on m.bh)).2!=0) (cq k s F/\m6 C [.int .i64 l,.int .i64 m.seq,.int .i64 (Sd.Tok.make s.c.p s.c.t l m.bh ((dX s.c.aq).on m.bh)).2] k (bO s) F λv s' F'=>cM k s Kb (.ay []) (bI k s' F'++[⟨af,⟨204,(0,0)⟩,dg m⟩,⟨af,⟨121,(0,0)⟩,dm (Sd.Tok.make s.c.p s.c.t l m.bh ((dX s.c.aq).on m.bh)).1⟩]) [a_ k s' F'])
  (cq k (gA s (Sd.Tok.make s.c.p s.c.t l m.bh ((dX s.c.aq).on m.bh)).1) F/\v9 [.int .i64 m.bh,.agg (mZ 135 0 0 l (Sd.Tok.make s.c.p s.c.t l m.bh ((dX s.c.aq).on m.bh)).1.an 0)] k (bO (gA s (Sd.Tok.make s.c.p s.c.t l m.bh ((dX s.c.aq).on m.bh)).1)) F λv s2 F2=>
   cq k s2 F2/\iS C [.int .i64 9,.int .i64 l,.int .i64 m.seq,.int .i64 0,.int .i64 m.bh] k (bO s2) F2 λv s3 F3=>
   cq k s3 F3/\oE [.int .i64 l,.int .i64 m.seq] k (bO s3) F3 λv s' F'=>cM k s Kb (.ay []) (bI k s' F'++[⟨af,⟨204,(0,0)⟩,dg m⟩,⟨af,⟨121,(0,0)⟩,dm (Sd.Tok.make s.c.p s.c.t l m.bh ((dX s.c.aq).on m.bh)).1⟩]) [a_ k s' F'])):=kR
def apx (l:Int) (m:Sd.bQ):br (bM prog gS (L4 fr C)) 60 136 [.ptr 2 0,.int .i64 l,.agg (dg m)] (bI k s F) [a_ k s F] (cM k s Kb)
 =((vq k=vq k/\bV s.c.t.an)/\∀B (hB:QS k.bq k.most (Sd.dA s.c.t s.c.q l).2.2 B),
  cond ((Sd.dA s.c.t s.c.q l).2.1!=0) (cq k (cE s (Sd.dA s.c.t s.c.q l).2.2) (F.cE (Sd.dA s.c.t s.c.q l).2.2 B hB)/\m6 C [.int .i64 l,.int .i64 m.seq,.int .i64 (Sd.dA s.c.t s.c.q l).2.1] k (bO (cE s (Sd.dA s.c.t s.c.q l).2.2)) (F.cE (Sd.dA s.c.t s.c.q l).2.2 B hB) λv s' F'=>cM k s Kb (.ay []) (bI k s' F'++[⟨af,⟨204,(0,0)⟩,dg m⟩,⟨af,⟨121,(0,0)⟩,dm (Sd.dA s.c.t s.c.q l).1⟩]) [a_ k s' F'])
  (cq k (cE s (Sd.dA s.c.t s.c.q l).2.2) (F.cE (Sd.dA s.c.t s.c.q l).2.2 B hB)/\rV C [.agg (dm (Sd.dA s.c.t s.c.q l).1),.int .i64 2,.int .i64 m.seq] k (bO (cE s (Sd.dA s.c.t s.c.q l).2.2)) (F.cE (Sd.dA s.c.t s.c.q l).2.2 B hB) λv s2 F2=>cq k s2 F2/\oE [.int .i64 l,.int .i64 m.seq] k (bO s2) F2 λv s' F'=>cM k s Kb (.ay []) (bI k s' F'++[⟨af,⟨204,(0,0)⟩,dg m⟩,⟨af,⟨121,(0,0)⟩,dm (Sd.dA s.c.t s.c.q l).1⟩]) [a_ k s' F'])):=kR
abbrev iI (s:Sd.ah) (k:LK) (l:Int) (m:Sd.bQ):Sd.Tok×Int×Int×List Sd.Ask:=Sd.gY s.c.p s.c.t k.most s.c.q l m.now
def apy (l:Int) (m:Sd.bQ):br (bM prog gS (L4 fr C)) 60 132 [.ptr 2 0,.int .i64 l,.agg (dg m)] (bI k s F) [a_ k s F] (cM k s Kb)
 =((vq k=vq k/\(bV s.c.t.an/\k.most<=3/\(∀e∈s.c.q,e.source=l\/¬e.bU=Sd.placeOf s.c.p l)/\(1<=s.c.p.i 45/\s.c.p.i 45<=1000)))/\∀B (hB:QS k.bq k.most (iI s k l m).2.2.2 B),
  cond ((iI s k l m).2.2.1!=0) (cq k (cE s (iI s k l m).2.2.2) (F.cE (iI s k l m).2.2.2 B hB)/\m6 C [.int .i64 l,.int .i64 m.seq,.int .i64 (iI s k l m).2.2.1] k (bO (cE s (iI s k l m).2.2.2)) (F.cE (iI s k l m).2.2.2 B hB) λv s' F'=>cM k s Kb (.ay []) (bI k s' F'++[⟨af,⟨204,(0,0)⟩,dg m⟩,⟨af,⟨121,(0,0)⟩,dm (iI s k l m).1⟩]) [a_ k s' F'])
  (cond (decide ((iI s k l m).2.1>0)) (cq k (cE s (iI s k l m).2.2.2) (F.cE (iI s k l m).2.2.2 B hB)/\rV C [.agg (dm (iI s k l m).1),.int .i64 (iI s k l m).2.1,.int .i64 m.seq] k (bO (cE s (iI s k l m).2.2.2)) (F.cE (iI s k l m).2.2.2 B hB) λv s2 F2=>cq k s2 F2/\oE [.int .i64 l,.int .i64 m.seq] k (bO s2) F2 λv s' F'=>cM k s Kb (.ay []) (bI k s' F'++[⟨af,⟨204,(0,0)⟩,dg m⟩,⟨af,⟨121,(0,0)⟩,dm (iI s k l m).1⟩]) [a_ k s' F'])
  (cq k (gA (cE s (iI s k l m).2.2.2) (iI s k l m).1) (F.cE (iI s k l m).2.2.2 B hB)/\iS C [.int .i64 10,.int .i64 l,.int .i64 m.seq,.int .i64 0,.int .i64 0] k (bO (gA (cE s (iI s k l m).2.2.2) (iI s k l m).1)) (F.cE (iI s k l m).2.2.2 B hB) λv s2 F2=>cq k s2 F2/\oE [.int .i64 l,.int .i64 m.seq] k (bO s2) F2 λv s' F'=>cM k s Kb (.ay []) (bI k s' F'++[⟨af,⟨204,(0,0)⟩,dg m⟩,⟨af,⟨121,(0,0)⟩,dm (iI s k l m).1⟩]) [a_ k s' F']))):=kR
end
structure TB (t:Sd.Tok):Prop where
 h:N4 t.aF
 e:v7 t.an
def CV {t:Sd.Tok} (h:TB t) (o:Int):TB (t.dF o).1/\N8 (t.dF o).2:=by
 obtain⟨⟨h1,h2⟩,h3,h4⟩:=h;unfold Sd.Tok.dF;split
 ·exact⟨⟨⟨h1,h2⟩,h3,h4⟩,by simp[N8]⟩
 ·split
  ·exact⟨⟨⟨h1,h2⟩,h3,h4⟩,by simp[N8]⟩
  ·split
   ·exact⟨⟨⟨h1,h2⟩,h3,h4⟩,by simp[N8]⟩
   ·exact⟨⟨⟨by simp only[Sd.Tok.pass];omega,by simp only[Sd.Tok.pass];omega⟩,by simp only[Sd.Tok.pass];omega,by simp only[Sd.Tok.pass];omega⟩,by simp[N8]⟩
def apz {t:Sd.Tok} (h:TB t) (l e:Int):TB (t.accept l e).1/\N8 (t.accept l e).2:=by
 unfold Sd.Tok.accept;split
 ·exact⟨h,by simp[N8]⟩
 ·split
  ·exact⟨h,by simp[N8]⟩
  ·exact CV h l
def apA {t:Sd.Tok} (h:TB t) (l:Int):TB (t.gh l).1/\N8 (t.gh l).2:=by
 unfold Sd.Tok.gh;split
 ·exact⟨h,by simp[N8]⟩
 ·exact⟨⟨h.h,h.e⟩,by simp[N8]⟩
def apB {t:Sd.Tok} (h:TB t) (p:Sd.aU) (l o:Int) (b:Bool):TB (Sd.Tok.make p t l o b).1/\N8 (Sd.Tok.make p t l o b).2:=by
 unfold Sd.Tok.make
 repeat' split
 all_goals first|exact⟨h,by simp[N8]⟩|exact⟨⟨h.h,h.e⟩,by simp[N8]⟩
def ac1 {t:Sd.Tok} (h:TB t) (q:List Sd.Ask):TB (Sd.fT t q).1/\N8 (Sd.fT t q).2.1:=by
 unfold Sd.fT;split
 ·exact⟨h,by simp[N8]⟩
 ·split
  ·exact⟨h,(CV h _).2⟩
  ·exact⟨(CV h _).1,by simp[N8]⟩
def ac2 {t:Sd.Tok} (h:TB t) (q:List Sd.Ask) (l:Int):TB (Sd.dA t q l).1/\N8 (Sd.dA t q l).2.1:=by
 unfold Sd.dA;split
 ·exact⟨h,by simp[N8]⟩
 ·split
  ·exact⟨h,by simp[N8]⟩
  ·exact ac1 h q
def ac3 {t:Sd.Tok} {q:List Sd.Ask} {l:Int} (h:(Sd.dA t q l).2.1≠0):(Sd.dA t q l).2.2=q:=by
 unfold Sd.dA at h⊢;split
 ·rfl
 ·split
  ·rfl
  ·rename_i h1 h2;rw[if_neg h1,if_neg h2]at h;unfold Sd.fT at h⊢;split
   ·rfl
   ·split
    ·rfl
    ·rename_i a q' h3;simp only[if_neg h3,ne_eq,not_true_eq_false]at h
def apC (most:Int) (q:List Sd.Ask) (a:Sd.Ask):N8 (Sd.Q.push most q a).2:=by
 unfold Sd.Q.push
 repeat' split
 all_goals simp[N8]
def apD {most:Int} {q:List Sd.Ask} {a:Sd.Ask} (h:(Sd.Q.push most q a).2≠0):(Sd.Q.push most q a).1=q:=by
 unfold Sd.Q.push at h⊢;split
 ·rfl
 ·split
  ·rfl
  ·rename_i h1 h2;simp[if_neg h1,if_neg h2]at h
def apE {p:Sd.aU} {t:Sd.Tok} (h:TB t) (most:Int) (q:List Sd.Ask) (f:Int) (nw:Bool):TB (Sd.gY p t most q f nw).1/\N8 (Sd.gY p t most q f nw).2.2.1:=by
 unfold Sd.gY
 repeat' split
 all_goals first|exact⟨h,(CV h _).2⟩|exact⟨h,apC _ _ _⟩|exact⟨(CV h _).1,show N8 0 from z8⟩|exact⟨h,show 0<=_/\_<=255 by simp⟩
def apF {p:Sd.aU} {t:Sd.Tok} {most:Int} {q:List Sd.Ask} {f:Int} {nw:Bool} (h:(Sd.gY p t most q f nw).2.2.1≠0):(Sd.gY p t most q f nw).2.2.2=q:=by
 unfold Sd.gY at h⊢
 repeat' split
 all_goals first|rfl|skip
 ·rename_i h1 h2 h3 h4 h5;simp only[if_neg h1,if_neg h2,if_neg h3,if_pos h4,if_neg h5,ne_eq,not_true_eq_false]at h
 ·rename_i h1 h2 h3 h4 h5;simp only[if_neg h1,if_neg h2,if_neg h3,if_neg h4,if_neg h5]at h;exact apD h
def tb {c:Sd.Core} (h:Sd.Inv c):TB c.t:=⟨⟨h.tok.aF.1,by have:=h.tok.aF.2;omega⟩,by have:=h.tok.an.1;have:=h.p.an.1;omega,h.tok.an.2⟩
def TB.b {t:Sd.Tok} (h:TB t):bV t.an:=⟨by have:=h.e.1;omega,by have:=h.e.2;omega⟩
def pG (C:Sd.aL) (s:Sd.ah) (t:Sd.Tok) (h n:Int):(s.goes C t h n).c.p=s.c.p:=by
 show(Sd.ah.eh _ _ _).c.p=_;rw[kB,kB]
def Rm.goes {C:Sd.aL} {s:Sd.ah} {t:Sd.Tok} {h n:Int} {m:Nat} (hh:Rm s (m+3)):Rm (s.goes C t h n) m:=by
 have h1:Rm ({s with c:={s.c with t:=t,q:=Sd.Q.drop s.c.q t.aF}}:Sd.ah) (m+3):=hh;exact(Rm.eh (Rm.eh h1)).rec
def rW {n:Int} (h:(n !=0)=af):n≠0:=by simpa using h
def uT {n:Int} (h:(n !=0)=ag):¬n≠0:=by simpa using h
structure Sy (s:Sd.ah) (l:Int) (m:Sd.bQ):Prop where
 r:Rm s 8
 i:Sd.Inv s.c
 n:v8 m.seq
 l1:1<=l
 l3:l<=3
def jT (act:Sd.ah->Int->Sd.bQ->Sd.ah):SM fr:=λar k s F K=>match ar with
 |[.int .i64 l,.agg ml]=>(match E2 ml with
  |some m=>Sy s l m/\∀F',K (.ay []) (act s l m) F'
  |none=>False)
 |_=>False
def CW {tk:Nat->Sd.ax->Option Sd.bQ} {act:Sd.ah->Int->Sd.bQ->Sd.ah} {f n:Nat} {L:List (bK (Gh fr))} (hL:aH prog gS L)
 (h:∀(l:Int) (m:Sd.bQ) (k:LK) (s:Sd.ah) (F:ba fr (a9 k s)) (Kb:SK fr k),s.c.p.queue=k.most->Sy s l m->(∀F',Kb (.ay []) (act s l m) F')->br (bM prog gS L) n f [.ptr 2 0,.int .i64 l,.agg (dg m)] (bI k s F) [a_ k s F] (cM k s Kb)):Body f (jT (fr:=fr) act):=by
 refine mr (n:=n) hL ?_;intro ar k s F Kb h0 hq hM;unfold jT at hM;split at hM
 ·rename_i l ml;split at hM
  ·rename_i m hm;obtain rfl:=MZ hm;exact h l m k s F Kb hq hM.1 hM.2
  ·exact hM.elim
 ·exact hM.elim
def Ny {s:Sd.ah} {q:List Sd.Ask} (h:q=s.c.q):cE s q=s:=by subst h;rfl
def Vp (C:Sd.aL) (s:Sd.ah) (l:Int) (m:Sd.bQ) (R:Sd.Tok×Int×Int×List Sd.Ask) (h:R=Sd.gY s.c.p s.c.t s.c.p.queue s.c.q l m.now):
 s.ask C l m=if R.2.2.1≠0 then s.refuse C l m.seq R.2.2.1 else(if 0<R.2.1 then(cE s R.2.2.2).goes C R.1 R.2.1 m.seq else(gA (cE s R.2.2.2) R.1).record C 10 l m.seq 0 0).done l m.seq:=by subst h;rfl
section
variable(tk:Nat->Sd.ax->Option Sd.bQ) (ht:Body (fr:=fr) 124 dt)
include tk ht
def apG:Body (fr:=fr) 130 (jT λs l m=>s.done l m.seq):=by
 refine CW (tk:=tk) (n:=60) (CU tk ht) ?_;intro l m k s F Kb hq hS hK;rw[apt];exact⟨cK hq,wa ⟨hS.r.le dC,hS.n⟩ λF1=>eE rfl hK F1⟩
def apH:Body (fr:=fr) 134 (jT λs l m=>s.accept (aP tk) l m):=by
 refine CW (tk:=tk) (n:=60) (CU tk ht) ?_;intro l m k s F Kb hq hS hK;have hb:=apz (tb hS.i) l m.an;rw[apu];refine⟨(tb hS.i).b,aJ (λe=>⟨cK hq,AH ⟨hS.r.le dC,hS.n,hb.2⟩ λF1=>eE (if_pos (rW e)).symm hK F1⟩) (λe=>⟨cK hq,CT ⟨hS.r.le dC,hb.1.h,hb.1.e⟩ λF2=>⟨cK ?_,wa ⟨hS.r.goes.le dC,hS.n⟩ λF3=>eE (if_neg (uT e)).symm hK F3 (hp:=pG _ _ _ _ _)⟩⟩)⟩;rw[pG];exact hq
def apI:Body (fr:=fr) 135 (jT λs l m=>s.gh (aP tk) l m):=by
 refine CW (tk:=tk) (n:=60) (CU tk ht) ?_;intro l m k s F Kb hq hS hK;have hb:=apA (tb hS.i) l;have h1:Rm (gA s (s.c.t.gh l).1) 8:=hS.r;rw[apv];refine⟨trivial,aJ (λe=>⟨cK hq,AH ⟨hS.r.le dC,hS.n,hb.2⟩ λF1=>eE (if_pos (rW e)).symm hK F1⟩) (λe=>⟨cK hq,IK ⟨h1.le dC,⟨by have:=hS.l1;omega,by have:=hS.l3;omega⟩,z8⟩ λF2=>⟨cK ?_,m7 h1.gone.r1 λF3=>⟨cK ?_,wa ⟨(h1.gone.rec).le dC,hS.n⟩ λF4=>eE (if_neg (uT e)).symm hK F4 (hp:=?_)⟩⟩⟩)⟩
 ·rw[lQ];exact hq
 ·show(Sd.ah.gone _ _ _ _).c.p.queue=_;rw[lQ];exact hq
 ·show(Sd.ah.gone _ _ _ _).c.p=_;rw[lQ];rfl
def apJ:Body (fr:=fr) 133 (jT λs l m=>s.offer (aP tk) l m):=by
 refine CW (tk:=tk) (n:=60) (CU tk ht) ?_;intro l m k s F Kb hq hS hK;have hb:=apB (tb hS.i) s.c.p l m.bh (s.c.aq.on m.bh);have h1:Rm (gA s (Sd.Tok.make s.c.p s.c.t l m.bh (s.c.aq.on m.bh)).1) 8:=hS.r;rw[apw,Vb];refine⟨trivial,hS.i.p,aJ (λe=>⟨cK hq,AH ⟨hS.r.le dC,hS.n,hb.2⟩ λF1=>eE (if_pos (rW e)).symm hK F1⟩) (λe=>⟨cK hq,Nr ⟨h1.le dC,rb dC yE ⟨by have:=hS.l1;omega,by have:=hS.l3;omega⟩ hb.1.e z8⟩ λF2=>⟨cK ?_,m7 h1.eh.r1 λF3=>⟨cK ?_,wa ⟨(h1.eh.rec).le dC,hS.n⟩ λF4=>eE (if_neg (uT e)).symm hK F4 (hp:=?_)⟩⟩⟩)⟩
 ·rw[kB];exact hq
 ·show(Sd.ah.eh _ _ _).c.p.queue=_;rw[kB];exact hq
 ·show(Sd.ah.eh _ _ _).c.p=_;rw[kB];rfl
def apL:Body (fr:=fr) 136 (jT λs l m=>s.release (aP tk) l m):=by
 refine CW (tk:=tk) (n:=60) (CU tk ht) ?_;intro l m k s F Kb hq hS hK;have hb:=ac2 (tb hS.i) s.c.q l;have h1:Rm (cE s (Sd.dA s.c.t s.c.q l).2.2) 8:=hS.r;rw[apx];refine⟨⟨rfl,(tb hS.i).b⟩,λB hB=>aJ (λe=>⟨cK hq,AH ⟨h1.le dC,hS.n,hb.2⟩ λF1=>eE ?_ hK F1⟩) (λe=>⟨cK hq,CT ⟨h1.le dC,hb.1.h,hb.1.e⟩ λF2=>⟨cK ?_,wa ⟨h1.goes.le dC,hS.n⟩ λF3=>eE (if_neg (uT e)).symm hK F3 (hp:=pG _ _ _ _ _)⟩⟩)⟩
 ·rw[Ny (ac3 (rW e))];exact(if_pos (rW e)).symm
 ·rw[pG];exact hq
def apM:Body (fr:=fr) 132 (jT λs l m=>s.ask (aP tk) l m):=by
 refine CW (tk:=tk) (n:=60) (CU tk ht) ?_;intro l m k s F Kb hq hS hK;have hb:=apE (p:=s.c.p) (tb hS.i) k.most s.c.q l m.now;have h1:Rm (cE s (iI s k l m).2.2.2) 8:=hS.r;have h2:Rm (gA (cE s (iI s k l m).2.2.2) (iI s k l m).1) 8:=hS.r;have Vq:iI s k l m=Sd.gY s.c.p s.c.t s.c.p.queue s.c.q l m.now:=by rw[iI,hq]
 rw[apy];refine⟨⟨rfl,(tb hS.i).b,by rw[<-hq];exact hS.i.p.queue.2,?_,hS.i.p.ask⟩,λB hB=>aJ (λe=>⟨cK hq,AH ⟨h1.le dC,hS.n,hb.2⟩ λF1=>eE ?_ hK F1⟩) (λe=>aJ (λe2=>⟨cK hq,CT ⟨h1.le dC,hb.1.h,hb.1.e⟩ λF2=>⟨cK ?_,wa ⟨h1.goes.le dC,hS.n⟩ λF3=>eE ?_ hK F3 (hp:=pG _ _ _ _ _)⟩⟩)
  (λe2=>⟨cK hq,m7 h2.r1 λF2=>⟨cK hq,wa ⟨h2.rec.le dC,hS.n⟩ λF3=>eE ?_ hK F3⟩⟩))⟩
 ·intro a ha;by_cases hs:a.source=l
  ·exact .inl hs
  ·refine .inr λhr=>hs ?_;have h:=hS.i.q.each a ha;have h1:=hS.l1;have h3:=hS.l3;exact Sd.Zs hS.i.p ⟨oM,oM⟩ ⟨oM,oM⟩ (by rw[<-hr,h.1];rfl)
 ·rw[Ny (apF (rW e)),Vp _ _ _ _ _ Vq];exact(if_pos (rW e)).symm
 ·rw[pG];exact hq
 ·have e3:0<(iI s k l m).2.1:=by simpa using e2
  rw[Vp _ _ _ _ _ Vq,if_neg (uT e),if_pos e3]
 ·have e3:¬0<(iI s k l m).2.1:=by simpa using e2
  rw[Vp _ _ _ _ _ Vq,if_neg (uT e),if_neg e3]
end
structure QT where
 f:Nat
 m:List V->TC->Option (Prop×V×Sd.aN)
def oF (t:Sd.aN) (b m:Int):TC:=⟨t.de.1,t.de.2.n,t.de.2.most,t.az 0,t.az 1,t.az 2,b,m⟩
def Ff (x:QT):dk (Gh fr):=λargs bl ch K=>match args with
 |.ptr it 0::ar=>(match bl[it]?with
  |some ⟨af,⟨181,(0,0)⟩,tc⟩=>(match tI tc with
   |some y=>(match x.m ar y with
    |some (p,v,t)=>cond (bu 0 ar&&da 0 v) (p/\K v (bl.set it ⟨af,⟨181,(0,0)⟩,cP (oF t y.b y.m)⟩) ch) False
    |none=>False)
   |none=>False)
  |_=>False)
 |_=>False
def QT.Ok (x:QT):Prop:=∀(ar:List V) (y:TC) (p:Prop) (v:V) (t:Sd.aN),x.m ar y=aa (p,v,t)->p->∀(bt:Nat) (bs:List ao) (ms:List Nat) (w0 w:aj),St ms w0 ([⟨bt,af,.cells (ki (bJ y).de (bJ y).az y.b y.m) 181 (0,0)⟩]++bs) w->
 aX prog x.f (aE [bt] (.ptr 0 0::ar)).toArray w λu w1=>u=den [] v/\St ms w0 ([⟨bt,af,.cells (ki t.de t.az y.b y.m) 181 (0,0)⟩]++bs) w1
def Vr {bl:List VB} {ids:List Nat} (h:ids.length=bl.length) {i:Nat} (hi:i<bl.length):
 ∃r:List Nat,(∀j∈r,j≠i)/\∀bl':List VB,bl'.length=bl.length->(lits ids ids bl').Perm (aC ids (ids.getD i 0) (bl'.getD i e_)::r.map λj=>aC ids (ids.getD j 0) (bl'.getD j e_)):=by
 obtain⟨r,h1,h2⟩:=Fb h (is:=[i]) sP (by simp[hi]);exact⟨r,λj hj=>by simpa using h1 j hj,λbl' hl=>by simpa using h2 bl' hl⟩
def apN {x:QT} (h:x.Ok) (gl:Nat->Option Nat):Sound prog gl x.f (Ff (fr:=fr) x):=by
 intro args ids bl ch R ms w0 w K hg hl S hc;unfold Ff at hc;split at hc
 ·rename_i it ar;split at hc
  ·rename_i tc hb;split at hc
   ·rename_i y hy;split at hc
    ·rename_i p v t hm;cases hq:bu 0 ar&&da 0 v with
     |false=>rw[hq]at hc;exact hc.elim
     |true=>
      rw[hq]at hc;simp only[bD]at hq;obtain⟨hp,hK⟩:=hc;obtain rfl:=yy hy;have hi:=lT hb;obtain⟨r,hr,kl⟩:=Vr hl hi;have a1:aE ids (.ptr it 0::ar)=aE [ids.getD it 0] (.ptr 0 0::ar):=by
       have b1:aE ids ar=aE [] ar:=by have:=oZ (ids:=[]) (more:=ids) ar hq.1;simpa using this
       have b2:aE [ids.getD it 0] ar=aE [] ar:=by have:=oZ (ids:=[]) (more:=[ids.getD it 0]) ar hq.1;simpa using this
       simp only[aE,den,b1,b2];rfl
      have e1:aC ids (ids.getD it 0) (bl.getD it e_)=⟨ids.getD it 0,af,.cells (ki (bJ y).de (bJ y).az y.b y.m) 181 (0,0)⟩:=by rw[ln hb];kernel_rfl
      have p1:=kl bl rfl;rw[e1]at p1;have S1:=S.perm (p1.append_right _);rw[a1];refine(h ar y p v t hm hp _ _ ms w0 w S1).mono ?_;rintro u w1 ⟨rfl,S2⟩;refine⟨v,[],_,ch,?_,by simp[hl],?_,hK⟩
      ·have:=g_ (ids:=[]) (more:=ids++[]) v hq.2;simpa using this.symm
      ·simp only[cT];refine S2.perm ?_;have p2:=kl (bl.set it ⟨af,⟨181,(0,0)⟩,cP (oF t y.b y.m)⟩) sP;have e2:aC ids (ids.getD it 0) ((bl.set it ⟨af,⟨181,(0,0)⟩,cP (oF t y.b y.m)⟩).getD it e_)=⟨ids.getD it 0,af,.cells (ki t.de t.az y.b y.m) 181 (0,0)⟩:=by rw[ln (AF hi)];kernel_rfl
       have e3:(r.map λj=>aC ids (ids.getD j 0) ((bl.set it ⟨af,⟨181,(0,0)⟩,cP (oF t y.b y.m)⟩).getD j e_))=r.map λj=>aC ids (ids.getD j 0) (bl.getD j e_):=by
        apply ni;intro j hj;simp only[gd];rw[nQ (Ne.symm (hr j hj))]
       rw[e2,e3]at p2;exact p2.symm.append_right _
    ·exact hc.elim
   ·exact hc.elim
  ·exact hc.elim
 ·exact hc.elim
def Vs {x:QT} (h:x.Ok):vL (G:=Gh fr) prog gS ⟨x.f,ag,Ff x⟩:=⟨apN h gS,λe=>by cases e⟩
def ac4:QT:=⟨176,λar y=>match ar with
 |[.int .i64 s]=>aa (True,.bool ((bJ y).iC s),(bJ y).end_ s)
 |_=>ae⟩
def apO:ac4.Ok:=by
 intro ar y p v t hm hp bt bs ms w0 w S;replace hm:(match(generalizing:=false) ar with
  |[.int .i64 s]=>aa (True,V.bool ((bJ y).iC s),(bJ y).end_ s)
  |_=>ae)=aa (p,v,t):=hm
 split at hm
 ·simp only[aW,bC]at hm;obtain⟨rfl,rfl,rfl⟩:=hm;exact aoM y _ S
 ·cases hm
def ac5:QT:=⟨96,λar y=>match ar with
 |[]=>aa (0<=y.b/\y.b<=1000,.ay [],{bJ y with de:=(af,.start y.b)})
 |_=>ae⟩
def apP:ac5.Ok:=by
 intro ar y p v t hm hp bt bs ms w0 w S;replace hm:(match(generalizing:=false) ar with
  |[]=>aa (0<=y.b/\y.b<=1000,V.ay [],{bJ y with de:=(af,.start y.b)})
  |_=>ae)=aa (p,v,t):=hm
 split at hm
 ·simp only[aW,bC]at hm;obtain⟨rfl,rfl,rfl⟩:=hm;exact aoO y hp S
 ·cases hm
def Fg (g:Nat):Option Nat:=bif aA g 1 then aa 0 else ae
def IP:List V:=[.bool ag,.bool ag,.bool ag,.bool ag,.bool ag,.bool ag,.bool ag,.bool ag,.bool ag,.bool ag,.bool af,.bool af]
def Vt (ka:Nat->Option aI) (kn kc:Nat->Nat) (T:aM) (p:Sd.aU) (t:Sd.Tok) (s r mo:Int) (m:Sd.bQ) (K:VK Empty):Prop:=br (bM prog Fg (qL Empty QV)) 60 140 [.agg [.dO p ka kn kc],.agg (dm t),.int .i64 s,.int .i64 r,.int .i64 mo,.agg (dg m)] [⟨ag,⟨T,(0,0)⟩,IP⟩] [] K
def ac6 (ka:Nat->Option aI) (kn kc:Nat->Nat) (T:aM) (p:Sd.aU) (t:Sd.Tok) (s r mo:Int) (m:Sd.bQ) (K:VK Empty):
 Vt ka kn kc T p t s r mo {m with kind:=10} (bA 0 K)=cond (s !=t.aF) (K (.int .i64 20) [] []) (cond (m.an !=t.an) (K (.int .i64 21) [] []) (True/\cond (!Sd.may p mo r 0) (K (.int .i64 22) [] []) (True/\cond (!Sd.goes p mo m.mode) (K (.int .i64 23) [] []) (K (.int .i64 0) [] []))))/\
 Vt ka kn kc T p t s r mo {m with kind:=11} (bA 0 K)=cond (s !=t.aF) (K (.int .i64 20) [] []) (cond (m.an !=t.an) (K (.int .i64 21) [] []) (True/\cond (!Sd.may p mo r m.cls) (K (.int .i64 22) [] []) (K (.int .i64 0) [] []))):=⟨kR,kR⟩
def ac7 (ka:Nat->Option aI) (kn kc:Nat->Nat) {T:aM} (p:Sd.aU) (t:Sd.Tok) (s r mo:Int) (m:Sd.bQ) {v:V} (hv:Vt ka kn kc T p t s r mo m (bA 0 λx _ _=>x=v)) (hw:da 0 v=af) {w:aj} (hC:w.heap[1]?=aa (.cells (ak [] IP).toArray T (0,0))):
 aX prog 140 (aE [1] [.agg [.dO p ka kn kc],.agg (dm t),.int .i64 s,.int .i64 r,.int .i64 mo,.agg (dg m)]).toArray w λx w1=>x=den [] v/\Ch [] w w1:=by
 have S:=St.given (w:=w) [(1,.cells (ak [1] IP).toArray T (0,0))] (by intro p hp;simp only[jZ]at hp;subst hp;exact hC);refine(eZ (kA (Ay Fg)).T (kA (Ay Fg)).Q 60 (C:=bM prog Fg (qL Empty QV)) (ids:=[1]) (bl:=[⟨ag,⟨T,(0,0)⟩,IP⟩]) (ch:=[]) (R:=[]) (λg i h=>?_) rfl S hv).mono ?_
 ·replace h:Fg g=aa i:=h;unfold Fg at h;cases hg:aA g 1 with
  |false=>rw[hg]at h;cases h
  |true=>rw[hg]at h;cases h;exact⟨sP,(ck hg).symm⟩
 ·rintro x w' ⟨y,more,bl',ch',rfl,h1,S',hK⟩;obtain⟨v2,cn,bl2,e,cX,S2,rfl⟩:=iP (n0:=0) h1 sP S' hK;exact⟨e.trans (g_ (ids:=[]) _ hw),S'.ch⟩
def apQ (p:Sd.aU) (ka:Nat->Option aI) (kn kc:Nat->Nat) (t:Sd.Tok) (s r mo:Int) (m:Sd.bQ) (hk:m.kind=10\/m.kind=11) {T:aM} {w:aj} (hC:w.heap[1]?=aa (.cells (ak [] IP).toArray T (0,0))):
 aX prog 140 (aE [1] [.agg [.dO p ka kn kc],.agg (dm t),.int .i64 s,.int .i64 r,.int .i64 mo,.agg (dg m)]).toArray w λx w1=>x=den [] (.int .i64 (Sd.oq p t s r mo m))/\Ch [] w w1:=by
 rcases hk with hk|hk
 ·have e:m={m with kind:=10}:=by cases m;simp only at hk;subst hk;rfl
  rw[e];refine ac7 ka kn kc p t s r mo _ ?_ rfl hC;rw[(ac6 ka kn kc T p t s r mo m _).1];unfold Sd.oq;rw[if_neg sP];refine aJ (λh=>by rw[if_pos (by simpa using h)]) (λh=>?_);rw[if_neg (by simpa using h)];refine aJ (λh=>by rw[if_pos (by simpa using h)]) (λh=>⟨trivial,?_⟩);rw[if_neg (by simpa using h)];refine aJ (λh=>by rw[if_pos (by simpa using h)]) (λh=>⟨trivial,?_⟩);rw[if_neg (by simpa using h)];exact aJ (λh=>by rw[if_pos (by simpa using h)]) (λh=>by rw[if_neg (by simpa using h)])
 ·have e:m={m with kind:=11}:=by cases m;simp only at hk;subst hk;rfl
  rw[e];refine ac7 ka kn kc p t s r mo _ ?_ rfl hC;rw[(ac6 ka kn kc T p t s r mo m _).2];unfold Sd.oq;rw[if_neg sP];refine aJ (λh=>by rw[if_pos (by simpa using h)]) (λh=>?_);rw[if_neg (by simpa using h)];refine aJ (λh=>by rw[if_pos (by simpa using h)]) (λh=>⟨trivial,?_⟩);rw[if_neg (by simpa using h)];refine aJ (λh=>by rw[if_pos (by simpa using h)]) (λh=>?_);rw[if_neg (by simpa using h),if_neg sP]
def Nz:QF:=⟨140,λargs bl=>match args with
 |[.agg [.dO p ka kn kc],.agg tl,.int .i64 s,.int .i64 r,.int .i64 mo,.agg ml]=>(match lj tl,E2 ml,bl[1]?with
  |some t,aa m,aa (VB.mk _ (BT.mk _ (0,0)) bc)=>aa ((m.kind=10\/m.kind=11)/\bc=[.bool ag,.bool ag,.bool ag,.bool ag,.bool ag,.bool ag,.bool ag,.bool ag,.bool ag,.bool ag,.bool af,.bool af],.int .i64 (Sd.oq p t s r mo m))
  |_,_,_=>ae)
 |_=>ae⟩
def apR:Nz.Ok prog gS:=by
 intro args bl p_ v_ h hp ids w hg hm;unfold Nz at h;dsimp only at h;split at h
 ·rename_i p ka kn kc tl s r mo ml;split at h
  ·rename_i t m _ _ bc ht sQ hb;simp only[aW,bC]at h;obtain⟨rfl,rfl⟩:=h;obtain rfl:=pz ht;obtain rfl:=MZ sQ;obtain⟨hk,hc⟩:=hp;have h2:=hm.2 1 _ hb;rw[(hg 1 1 rfl).2,hc]at h2;exact told (apQ p ka kn kc t s r mo m hk h2)
  ·cases h
 ·cases h
def L5 (fr:Sd.aO->Nat×Sd.ax) (C:Sd.aL):List (bK (Gh fr)):=⟨176,ag,Ff ac4⟩::⟨96,ag,Ff ac5⟩::qE (Gh fr) Nz::L4 fr C
def Fh (tk:Nat->Sd.ax->Option Sd.bQ) (ht:Body (fr:=fr) 124 dt):aH prog gS (L5 fr (aP tk)):=
 aH.cons (Vs apO) (aH.cons (Vs apP) (aH.cons ⟨LU apR,λ_=>LS Nz.F⟩ (CU tk ht)))
end
section
open Go Go.RowKit Go.BigFrame Sx Vx
def NA (d:Fd) (k:Nat):List V:=[.int .i64 d.sz,.int .i64 d.low,.int .i64 d.high,.fn (bif d.b then 233 else 235) [] [.ptr k 0],.fn (bif d.b then 234 else 236) [] [.ptr k 0]]
def IQ:List Fd->Nat->List V
 |[],_=>[]
 |d::l,k=>NA d k++IQ l (k+1)
def CX (i:Nat):List Fd->List VB
 |[]=>[]
 |d::l=>⟨af,bif d.b then 309 else 307,[.ptr i d.at_]⟩::CX i l
def NB:Option (List ai)->List V
 |none=>[]
 |some t=>[.rest t]
def rX (l:List Fd) (u:Option (List ai)) (i b:Nat):List VB:=⟨af,⟨305,(0,0)⟩,IQ l (b+1)++NB u⟩::CX i l
def NC (kd:Int) (T11:(Nat->Option (List ai)->Prop)->Prop) (k:List Fd->Nat->Option (List ai)->Prop) (k0:Prop):Prop:=
 cond (kd==1) (k [CD] 1 ae) (cond (kd==2) (k [CD] 1 ae) (cond (kd==3) (k [jS] 1 ae) (cond (kd==4) (k [jS] 1 ae) (cond (kd==8) (k [jS] 1 ae) (cond (kd==9) (k [jS] 1 ae) (cond (kd==5) (k [jS,E7] 2 ae) (cond (kd==6) (k [jS,E5] 2 ae) (cond (kd==7) (k [jS,rN] 2 ae)
  (cond (kd==10) (k [jS,rN,E6] 3 ae) (cond (kd==11) (T11 λc u=>k [jS,rN,vY,fX 0,fX 1,fX 2,fX 3] c u) k0))))))))))
def wb (n c:Nat) (a:List V) (k:Nat->List ai->Prop):Prop:=(n<=c/\cD a=c*5)/\(∀(c':Nat) (u:List ai),n+1<=c'->cD (Az (n+1)++[.rest u])=c'*5->k c' u)/\(∀(c':Nat) (u:List ai),n+1<=c'->cD (Az (n+1)++[.rest u])=c'*5->k c' u)
def yG (n:Nat) (u:List ai):List V:=Az n++[.rest u]
def ac8 (k:Nat->Option (List ai)->Prop):Prop:=wb 3 3 (Az 3) λc u=>wb 4 c (yG 4 u) λc u=>wb 5 c (yG 5 u) λc u=>wb 6 c (yG 6 u) λc u=>k c (aa u)
def uU (m:Sd.bQ):VB:=⟨af,⟨204,(0,0)⟩,dg m⟩
def apS (X:VK Empty) (m:Sd.bQ) (l:List Fd) (c:Nat) (u:Option (List ai)):Prop:=X (.ay [.sl 1 0 l.length c,.bool af]) (uU m::rX l u 0 1) []
def apT (m:Sd.bQ) (X:VK Empty):br (s9 prog mV (qL Empty [])) 60 160 [.ptr 0 0] [uU m] [] (bA 1 X)=NC m.kind ac8 (apS X m) (X (.ay [.raw (.slice ae 0 0),.bool ag]) [uU m] []):=kR
def ac9 (k:Nat->Option (List ai)->Prop):Prop:=∀(c:Nat) (u:List ai),7<=c->k c (aa u)
def Vu {G:Type}:dk G:=λargs bl ch K=>match args with
 |[.ptr i 0]=>(match bl[i]?with
  |some b=>(match E2 b.c with
   |some m=>cond (zR b.ty 204&&(b.wr&&bY bl.length bl)) (NC m.kind ac9 (λl c u=>K (.ay [.sl bl.length 0 l.length c,.bool af]) (bl++rX l u i bl.length) ch) (K (.ay [.raw (.slice ae 0 0),.bool ag]) bl ch)) False
   |none=>False)
  |none=>False)
 |_=>False
def apU {kd:Int} {A B:(Nat->Option (List ai)->Prop)->Prop} {k k':List Fd->Nat->Option (List ai)->Prop} {k0 k0':Prop} (hA:∀q q':Nat->Option (List ai)->Prop,(∀c u,q c u->q' c u)->A q->B q') (hk:∀l c u,k l c u->k' l c u) (h0:k0->k0') (h:NC kd A k k0):NC kd B k' k0':=by
 have cm:∀{b:Bool} {X X' Y Y':Prop},(X->X')->(Y->Y')->cond b X Y->cond b X' Y':=by
  intro b X X' Y Y' h1 h2;cases b
  ·exact h2
  ·exact h1
 exact cm (hk _ _ _) (cm (hk _ _ _) (cm (hk _ _ _) (cm (hk _ _ _) (cm (hk _ _ _) (cm (hk _ _ _) (cm (hk _ _ _) (cm (hk _ _ _) (cm (hk _ _ _) (cm (hk _ _ _) (cm (hA _ _ λc u=>hk _ c u) h0)))))))))) h
def apV {q q':Nat->Option (List ai)->Prop} (hq:∀c u,q c u->q' c u) (h:ac9 q):ac8 q':=by
 refine⟨⟨dC,rfl⟩,?_⟩;have a4:∀(c':Nat) (u:List ai),3+1<=c'->cD (Az (3+1)++[.rest u])=c'*5->wb 4 c' (yG 4 u) λc u=>wb 5 c (yG 5 u) λc u=>wb 6 c (yG 6 u) λc u=>q' c (aa u):=by
  intro c1 u1 h1 s1;have a5:∀(c':Nat) (u:List ai),4+1<=c'->cD (Az (4+1)++[.rest u])=c'*5->wb 5 c' (yG 5 u) λc u=>wb 6 c (yG 6 u) λc u=>q' c (aa u):=by
   intro c2 u2 h2 s2;have a6:∀(c':Nat) (u:List ai),5+1<=c'->cD (Az (5+1)++[.rest u])=c'*5->wb 6 c' (yG 6 u) λc u=>q' c (aa u):=by
    intro c3 u3 h3 s3;exact⟨⟨h3,s3⟩,λc4 u4 h4 _=>hq _ _ (h c4 u4 h4),λc4 u4 h4 _=>hq _ _ (h c4 u4 h4)⟩
   exact⟨⟨h2,s2⟩,a6,a6⟩
  exact⟨⟨h1,s1⟩,a5,a5⟩
 exact⟨a4,a4⟩
def apW {is js:List Nat} (d:Fd) (k k':Nat) (h:is.getD k 0=js.getD k' 0):ak is (NA d k)=ak js (NA d k'):=by
 simp only[NA,ak,cl,den,aE,h]
def ac_ {is js:List Nat}:∀(l:List Fd) (k k':Nat),(∀j,is.getD (k+j) 0=js.getD (k'+j) 0)->ak is (IQ l k)=ak js (IQ l k')
 |[],_,_,_=>rfl
 |d::l,k,k',h=>by
  simp only[IQ,jK];rw[apW d k k' (by simpa using h 0),ac_ l (k+1) (k'+1) (λj=>by have:=h (1+j);rwa [<-tY,<-tY]at this)]
def ada {is js:List Nat} {i i':Nat} (h:is.getD i 0=js.getD i' 0):∀(l:List Fd) (more:List Nat),lits is more (CX i l)=lits js more (CX i' l)
 |[],more=>by cases more<;>rfl
 |d::l,[]=>rfl
 |d::l,x::more=>by
  simp only[CX,lits,aC,ak,cl,den,h,ada h l more]
def apX {is js:List Nat} {i i' b b':Nat} (h:is.getD i 0=js.getD i' 0) (hb:∀j,is.getD (b+j) 0=js.getD (b'+j) 0) (l:List Fd) (u:Option (List ai)) (more:List Nat):lits is more (rX l u i b)=lits js more (rX l u i' b'):=by
 cases more with
 |nil=>rfl
 |cons x more=>
  have hu:ak is (NB u)=ak js (NB u):=by cases u<;>simp[NB,ak,cl]
  simp only[rX,lits,aC,jK,hu,ada h l more];rw[ac_ l (b+1) (b'+1) (λj=>by have:=hb (1+j);rwa [<-tY,<-tY]at this)]
def adb (l:List Fd) (u:Option (List ai)) (i b:Nat):(rX l u i b).length=l.length+1:=by
 have:∀l:List Fd,(CX i l).length=l.length:=by
  intro l;induction l with
  |nil=>rfl
  |cons d l ih=>simp[CX,ih]
 simp[rX,this]
def KF (m:Sd.bQ) (P:List Fd->Nat->Option (List ai)->Prop) (P0:Prop):VK Empty:=λv bl ch=>ch=[]/\((∃l c u,P l c u/\v=.ay [.sl 1 0 l.length c,.bool af]/\bl=uU m::rX l u 0 1)\/(P0/\v=.ay [.raw (.slice ae 0 0),.bool ag]/\bl=[uU m]))
def apY {G:Type} [Bl G] (gl:Nat->Option Nat):Sound (G:=G) prog gl 160 Vu:=by
 intro args ids bl ch R ms w0 w K hg hl S hc;unfold Vu at hc;split at hc
 ·rename_i i;split at hc
  ·rename_i b hb;split at hc
   ·rename_i m hm;cases hq:zR b.ty 204&&(b.wr&&bY bl.length bl)with
    |false=>rw[hq]at hc;exact hc.elim
    |true=>
     rw[hq]at hc;simp only[cond_true]at hc;simp only[bD]at hq;obtain⟨q1,q2,q3⟩:=hq;have q1:=Q8 q1;obtain⟨wr,ty,bc⟩:=b;simp only at q1 q2 hm;subst q1 q2;obtain rfl:=MZ hm;have hi:=lT hb;have hbb:=hb;obtain⟨r,hr,kl⟩:=Vr hl hi;have p1:=kl bl rfl;have S1:=S.perm (p1.append_right _);rw[ln hb]at S1;have em:∀is:List Nat,ak is (dg m)=ak [] (dg m):=λis=>by have:=jl (ids:=[]) (more:=is) (dg m) rfl;simpa using this
     have S2:St ms w0 (lits [ids.getD i 0] [ids.getD i 0] [uU m]++au ([]:List Empty) ((r.map λj=>aC ids (ids.getD j 0) (bl.getD j e_))++au ch R)) w:=by
      have e:lits [ids.getD i 0] [ids.getD i 0] [uU m]=[aC ids (ids.getD i 0) ⟨af,⟨204,(0,0)⟩,dg m⟩]:=by
       simp only[lits,aC,uU,em]
      rw[e];simpa[au]using S1
     have hv:br (s9 prog mV (qL Empty [])) 60 160 [.ptr 0 0] [uU m] [] (bA 1 (KF m (λl c u=>K (.ay [.sl bl.length 0 l.length c,.bool af]) (bl++rX l u i bl.length) ch) (K (.ay [.raw (.slice ae 0 0),.bool ag]) bl ch))):=by
      rw[apT];exact apU (λq q' h=>apV h) (λl c u hP=>⟨rfl,.inl ⟨l,c,u,hP,rfl,rfl⟩⟩) (λhP=>⟨rfl,.inr ⟨hP,rfl,rfl⟩⟩) hc
     have main:=eZ (G:=Empty) (aH.nil (P:=prog) (gl:=mV)).TS (aH.nil).QS 60 (C:=s9 prog mV (qL Empty [])) (args:=[.ptr 0 0]) (λg i h=>by cases h) rfl S2 hv;have a1:(aE ids [.ptr i 0]).toArray=(aE [ids.getD i 0] [.ptr 0 0]).toArray:=rfl;rw[a1];refine main.mono ?_;rintro v w' ⟨x,more,bl',ch',rfl,pD,S3,hgc⟩;obtain⟨v',cn,bl2,ev,cX,S4,rfl,hk⟩:=iP (n0:=1) pD sP S3 hgc;rw[ev];have et:List.take 1 ([ids.getD i 0]++more)=[ids.getD i 0]:=rfl;rw[et]at cX S4⊢;simp only[au]at S4;have back:∀(M:List VB),lits ([ids.getD i 0]++cn) ([ids.getD i 0]++cn) (uU m::M)=aC ids (ids.getD i 0) ⟨af,⟨204,(0,0)⟩,dg m⟩::lits ([ids.getD i 0]++cn) cn M:=by
      intro M;simp only[wJ,lits,aC,uU,em]
     rcases hk with⟨l,c,u,hP,rfl,rfl⟩|⟨hP,rfl,rfl⟩
     ·have hlen:cn.length=(rX l u i bl.length).length:=by
       rw[adb];rw[jf,adb]at cX;simpa using cX
      have hb:∀j,([ids.getD i 0]++cn).getD (1+j) 0=(ids++cn).getD (bl.length+j) 0:=by
       intro j;rw[<-hl];simp[gd,vg,Nat.add_comm 1 j]
      have h0:([ids.getD i 0]++cn).getD 0 0=(ids++cn).getD i 0:=by
       exact(D5 (ids:=ids) (more:=cn) (by rw[jt,hl];exact hi)).symm
      refine⟨_,cn,_,ch,?_,by rw[fL,fL,hl,hlen],?_,hP⟩
      ·have:=hb 0;simp only[lA]at this;simp only[den,aE,this]
      ·rw[back]at S4;have e2:lits (ids++cn) (ids++cn) (bl++rX l u i bl.length)=lits ids ids bl++lits ([ids.getD i 0]++cn) cn (rX l u 0 1):=by
        rw[fu _ _ _ _ hl,fw _ _ (by rw[hl];exact q3),apX (i:=0) (i':=i) (b:=1) (b':=bl.length) h0 hb l u]
       rw[e2];refine S4.perm ?_;have p3:=(p1.symm.append_right (lits ([ids.getD i 0]++cn) cn (rX l u 0 1))).append_right (au ch R);rw[ln hbb]at p3;refine wK ?_ p3;simp only[fm,bW];refine vh _ ?_;exact qR _ _ _
     ·refine⟨_,[],bl,ch,?_,by simpa using hl,?_,hP⟩
      ·simp[den,aE]
      ·rw[cT];rw[back]at S4;have j8:cn=[]:=by cases cn with
        |nil=>rfl
        |cons=>simp at cX
       subst j8;refine S4.perm ?_;have p3:=p1.symm.append_right (au ch R);rw[ln hb]at p3;exact p3
   ·exact hc.elim
  ·exact hc.elim
 ·exact hc.elim
end
end Go.Proofs.YtddcipamdggcnaaGreatDoor
