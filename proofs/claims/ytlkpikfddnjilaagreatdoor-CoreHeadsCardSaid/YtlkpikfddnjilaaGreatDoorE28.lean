/- CoreHeads: whichever policy and calls, the law returns true. Every input; no condition. The tied card. -/
import Derived.Test.YtlkpikfddnjilaaGreatDoorCards
import Derived.Test.YtlkpikfddnjilaaGreatDoorTie
import Derived.Lib.SmallJoins
import Derived.SevenTiedAt
import Derived.LaidMore
import Derived.Stop.Joined
import Derived.Test.YtlkpikfddnjilaaGreatDoorRows
import Derived.ProofKit
import Derived.Test.YtlkpikfddnjilaaGreatDoorE27
set_option linter.all false
set_option maxRecDepth 100000
set_option maxHeartbeats 4000000
open Go.Proofs.Tryz
namespace Go.Proofs.YtlkpikfddnjilaaGreatDoor
open Go Go.RowKit Go.BigFrame Sx Vx
variable{fr:Sd.Reply->Nat×Sd.Byt}
theorem fO:∀(a b:List Sd.Rec),oh a++oh b=oh (a++b)
 |[],_=>rfl
 |r::a,b=>by simp only[oh,List.cons_append,List.append_assoc,fO a b]
theorem ai9 (l:List Sd.Rec):∀j u,u∈C_ l j->u.oneCell'=true:=by
 intro j u h;simp only[C_,List.mem_cons,List.not_mem_nil,or_false]at h;rcases h with rfl|rfl|rfl|rfl|rfl|rfl<;>rfl
theorem jg (f:Nat->Int):∀n i,eqF f f n i=true
 |0,_=>rfl
 |n+1,i=>by simp only[eqF,beq_self_eq_true,jg f n (i+1),Bool.and_self]
theorem Wf (s:Sd.Scene):aja s s=true:=ajj rfl rfl rfl
section
variable{tg tc:TypeId} {ty:BT} {u:World} {x:nW} {f:Nat->Nat×Sd.Byt} {o n c:Nat} {a:Option Addr} {os:Nat->AI} {pre post:List Value} {K:V->Prop}
theorem ai_ {C:Sd.Crypt} {h:Nat->Int} {r:aO} {l:List Sd.Rec} {m:Nat} (hm:m<=1000) (H:ajc C h r l m) {X:(Nat->Int)->Prop} (hX:X h):ofP C tg r X:=by
 have:=H.b;exact⟨l,⟨rfl,rfl,H.T,H.z,H.o,H.n,by omega⟩,by rw[<-H.h];exact hX⟩
theorem ajM (y:LhS (aq cu) fr tg tc u x (bJ 80 n)) (z:HiX (fr:=fr) (aq cu) tg tc u x n (y.w.j:Int)):z6 (aq cu) tg tc ty u x f o n c a os pre post K y z:=by
 have ajZ:bJ 80 n<=80:=by unfold bJ;omega
 have hlen:=z.1.len;have hzj:=z.2.1;unfold z6;dsimp only;refine aS (λe=>?_) (λe=>?_)
 ·have im:z.1.i<z.1.s.recs.length:=by simpa using e
  rw[show((z.1.i:Int)).toNat=z.1.i from Int.toNat_natCast _];have hm:=Sd.ajg im;have h1:=z.1.lo z.1.i (Nat.le_refl _) im;have h2:=z.1.hi _ hm;have hP:ajh z.1.s.recs z.1.i:=⟨by omega,λj=>rfl⟩;refine⟨Gq im,hP,aS (λe1=>?_) (λ_=>⟨Gq im,hP,aS (λe2=>?_) (λ_=>⟨Gq im,hP,?_⟩)⟩)⟩
  ·have:=of_decide_eq_true e1;omega
  ·have:=of_decide_eq_true e2;omega
  ·refine⟨rfl,⟨{z.1 with i:=z.1.i+1,ep:=(z.1.s.recs.getD z.1.i default).epoch,he:=h2,lo:=λj hj hjl=>?_},hzj,im⟩,by show z.1.s.recs.length-(z.1.i+1)<z.1.s.recs.length-z.1.i;omega,?_,rfl,rfl⟩
   ·have hp:=z.1.up;rw[List.getD_eq_getElem?_getD,List.getD_eq_getElem?_getD,List.getElem?_eq_getElem im,List.getElem?_eq_getElem hjl];exact List.pairwise_iff_getElem.1 hp z.1.i j im hjl (by omega)
   ·rw[nH (by omega)];rfl
 ·have hj:=z.1.hj;refine⟨rfl,⟨⟨z.1.w.p,z.1.w.m,z.1.w.d,z.1.w.hM,z.1.w.p2,z.1.w.k,z.1.w.hN,z.1.w.j+1,hj,nn z.1.s,z.1.F,z.1.fn++z.1.w.fB,z.1.hC,z.1.hp,z.1.v1,z.1.v2⟩,z.1.r,z.1.l,z.1.hr,z.1.ep,z.1.he⟩,by show bJ 80 n-(z.1.w.j+1)<bJ 80 n-y.w.j;omega,?_,rfl,rfl⟩;rw[nH (by omega)];rfl
theorem ajN (hr:rdA x u) (hn:n<=c) (ho:∀j,j<n->o=pre.length) (hO:QY u os n) (hK:K (.bool true)):heX (fr:=fr) (aq cu) tg tc ty u x f o n c a os pre post K:=by
 have ajZ:bJ 80 n<=80:=by unfold bJ;omega
 refine⟨⟨rfl,rfl,rfl,rfl⟩,hr,λp m d hM=>?_⟩;have hb:∀j,j<4->1<=m j/\m j<=64:=λj hj=>by rw[hM.n j];exact Qi _
 obtain⟨h1,h2⟩:=QI (m:=4) (d:=d) hM.I hM.o hb;have h1':yc (jY 4 p m d) (n4 m):=⟨h1.code,λj hj=>by
  rw[<-h1.n j hj]
  match j,hj with
  |0,_=>rfl
  |1,_=>rfl
  |2,_=>rfl
  |3,_=>rfl
  |j+4,h=>exact absurd h (by omega),h1.k⟩
 refine⟨h1',λp2 k F hN v1 v2 r hT hz hos hrn=>?_⟩;have hC0:bo k (iM p2):=QJ hN (h2 _) (λj hj=>by rw[wo _ _ _ _ hj];exact hb j hj);have Gs:p 55<=(iM p2).c.t.epoch:=by
  have:p2.i 55=p 55:=by
   rw[hN.eq];exact QC 4 p m d (i:=55) (by decide) rfl
  show p 55<=p2.i 55;omega
 refine⟨hn,⟨rfl,⟨⟨p,m,d,hM,p2,k,hN,0,Nat.zero_le _,iM p2,F,[],hC0,rfl,v1,v2⟩,r,[],⟨hT,hz,hos,hrn,Nat.zero_le _,rfl⟩,p 55,Gs⟩,rfl,rfl,rfl⟩,λy g=>aS (λe=>?_) (λe=>?_)⟩
 ·have im:y.w.j<bJ 80 n:=by simpa using e
  have hln:y.w.j<n:=by unfold bJ at im;omega
  have ho:=ho y.w.j hln;have hjj:((y.w.j:Int)).toNat=y.w.j:=Int.toNat_natCast _;refine⟨Gq im,QZ ho hln,y.w.Dm y.w.hp,⟨coA y.w.hC y.w.v1 y.w.v2,y.w.hN.Fw,by rw[hjj];exact hO.rd _ hln⟩,?_⟩;rintro s2 KM tr fn2 F2 q1 q2 -
  rw[lX,hjj]at KM;have hC2:bo y.w.k (nn s2):=by rw[KM];exact y.w.hC.step u _ (hO.x4 _)
  have KU:s2.c.p=y.w.p2:=by rw[KM,abV y.w.hC];exact y.w.hp
  have hH:Sd.Wd (aq cu) y.w.s s2:=by rw[KM];exact Sd.ai0 (ajL y.w.hC u _ (hO.kd _ hln)) y.w.hC.e2
  have hG:s2.recs.length<=40:=by
   have:=(aj1 y.w.hC u (os y.w.j)).1;rw[<-KM,y.w.hC.e2]at this;simpa using this
  have hA:=y.hr;have hAb:=hA.b;refine⟨⟨rfl,hA.T,hA.z,rfl,λ_=>rfl,ai9 _,by rw[hA.n];omega⟩,λr2 t1 t2 t3 t4=>⟨y.w.Dm KU,λza zc zt zu=>?_⟩⟩;have hA2:ajc (aq cu) s2.c.head r2 (y.l++s2.recs) (y.w.j+1):=⟨by rw[t1];exact hA.T,by rw[t2];exact hA.z,by rw[t3,Da,hA.o,fO],by rw[t4,hA.n,List.length_append],by rw[List.length_append];omega,by rw[List.foldl_append,<-hA.h];exact hH.head⟩;refine ai_ (by omega) hA2 ?_;rw[jg,Wf];refine⟨⟨rfl,⟨⟨y.w,im,s2,tr,fn2,F2,hC2,KU,q1,q2,r2,y.l++s2.recs,hA2,by omega,hH.up,hH.hi,za,zc,zt,zu,0,y.ep,Int.le_trans y.he hH.ep,λj _ hj=>Int.le_trans y.he (hH.lo _ (Sd.ajg hj))⟩,rfl,Nat.zero_le _⟩,rfl,rfl,rfl⟩,λz g=>ajM y z⟩
 ·refine⟨y.w.Dm y.w.hp,coA y.w.hC y.w.v1 y.w.v2,?_⟩;rintro s1 um tr fn1 F1 q1 q2 -
  rw[lX]at um;subst um;have hj:=y.w.hj;refine ai_ (by omega) y.hr ?_;rw[jg,y.w.hC.e1,y.w.hC.e2];exact hK
end
theorem ajA {W:World} {tg tc:TypeId} (hG:W.heap[0]?=some (.cells (aj .u32 64 aT) tg (0,0))) (hC:W.heap[2]?=some (.cells #[.bool false,.bool false,.bool false,.bool false,.bool false,.bool false,.bool false,.bool false,.bool false,.bool false,.bool true,.bool true] tc (0,0)))
 (q:Nat->Int) (ka:Nat->Option Addr) (kn kc:Nat->Nat) (hr:∀j,j<4->eE W (ka j) (kn j) (kc j) (dt W (ka j))) {v:Value} {os:Nat->AI} {i o n c:Nat} {a:Option Addr} {ty:BT} {pre post:List Value} (hR:s9 W v 11 (Wb os) i o n c a ty pre post) (hO:QY W os n):
 au prog 6 #[.agg (ta ⟨q,λ_=>(0,λ_=>0)⟩ ka kn kc).toArray,v] W λv w1=>v=.bool true/\Ch [] W w1:=by
 have S:=acg (fr:=Il) hG hC (i:=i) (b:=QO ty n os pre post) rfl rfl (by
  rw[hR.at_];simp only[QO,ai,cl,List.append_nil])
 have fW:c_ (z3 prog gS (LHe Il (aq cu)) (ajy (fr:=Il) (aq cu) tg tc ty W ⟨q,ka,kn,kc⟩ (λ_=>(0,λ_=>0)) o n c a os pre post)) 60 6 [.agg [.jS ⟨q,λ_=>(0,λ_=>0)⟩ ka kn kc],.je 2 o n c a] [jP tg,pD tc,QO ty n os pre post] [.gh W] (λv _ _=>v=.bool true):=by
  rw[ajK (x:=⟨q,ka,kn,kc⟩)];exact ajN ⟨hr 0 (by decide),hr 1 (by decide),hr 2 (by decide),hr 3 (by decide)⟩ hR.le hR.po hO rfl
 have ca:(az [0,2,i] [.agg [.jS ⟨q,λ_=>(0,λ_=>0)⟩ ka kn kc],.je 2 o n c a]).toArray=#[.agg (ta ⟨q,λ_=>(0,λ_=>0)⟩ ka kn kc).toArray,v]:=by
  rw[hR.v];simp only[az,den,ai,cl,List.append_nil];rfl
 have yq:ao prog gS (LHe Il (aq cu)):=ao.cons ⟨afv,λ_=>cH _⟩ (Ib yg);rw[<-ca];refine(bW (C:=z3 prog gS (LHe Il (aq cu)) (ajy (fr:=Il) (aq cu) tg tc ty W ⟨q,ka,kn,kc⟩ (λ_=>(0,λ_=>0)) o n c a os pre post)) (ajl yq) (ajm yq) 60 (ach i) rfl S fW).mono ?_;rintro v w' ⟨x,more,bl',ch',rfl,h1,S',rfl⟩;exact⟨rfl,S'.ch⟩
end Go.Proofs.YtlkpikfddnjilaaGreatDoor
namespace Go.Proofs.YtlkpikfddnjilaaGreatDoor.coreHeads
open Go.ChangeShapes Go.WideShapes Go.ChangeAt Go.RowKit Go.Joins Sd Sx
theorem opened (H:Type) (enc:TypeId×Value->H) (W:World) (args:Array Value) (ds gs:List (DataW H)) (before:List MemPlace)
 (Rh:∀(j:Nat) t v,Tryz.f6.params[j]?=some t->args[j]?=some v->Value.okWide prog W .any 0 t v)
 (hW:DataW.Whole enc prog Tryz.f6.params.toList Rows.coreHeadsSpec.vars false W args.toList ds gs before) (hL:laidMetH prog Q8 W):
 Rows.coreHeadsSpec.fn H (ds++gs)={results:=[.lit (.bool true)],args:=ds,vars:=[]}/\Calls prog 6 args W λe W'=>e=.returned (.bool true)/\Below W.heap.size W W':=by
 obtain⟨p,q,hA,hV,rfl,XR,Ry⟩:=hW;obtain⟨tG,hG⟩:=Q9 hL;obtain⟨tC,hC⟩:=Wv hL;rw[Tryz.params6]at hA Rh;obtain⟨v0,v1,d0,d1,p0,p1,ca,rfl,_,ht0,ht1⟩:=trodAll_two hA;obtain rfl:args=#[v0,v1]:=by cases args;simp_all
 obtain⟨rfl,rfl⟩:=trodVars_none hV;obtain⟨pq,ka,kn,kc,rfl,hk⟩:=KD (Rh 0 28 v0 rfl rfl) (λn=>by obtain⟨fuel,h⟩:=ht0;exact Sx.jQ n h);have gb:=Dx Tryz.underlying29 rfl (Rh 1 29 v1 rfl rfl);have hrd:∀k,Sx.Rd prog W k 29 [v1]:=λk=>by
  obtain⟨a,m,c,rfl,_,_⟩:=pF Tryz.underlying29 gb;obtain⟨fuel,h2⟩:=ht1;exact Sx.jQ k h2
 obtain⟨os,i,o,n,c,a,ty,pre,post,hR,hO⟩:=Rg gb hrd hG;exact⟨rfl,Sx.Iv (ajA hG hC pq ka kn kc hk hR hO)⟩
theorem own:ownKnob prog.godebug=none:=by kernel_rfl
def Is:List (String×DataW Unit):=[("sidestick/gate.commands",Rows.laid_sidestick_gate_commands),("sidestick/sha.roots",Rows.laid_sidestick_sha_roots)]
theorem Ri (os:Os) (args:Array Value):laidMetH prog Is ((World.doorLaid prog 400 os).forCall (λ_ _=>0) ⟨#[],args,[]⟩).memory:=
 laidMetH_of_parts3 (fuel:=8) (laidMet_of_run' 8 (by kernel_rfl) (by kernel_rfl)) (by kernel_rfl) (by kernel_rfl)
theorem lifted (os:Os) (started:os.Started) (H:Type) (enc:TypeId×Value->H):
 ReturnsInHanded {} Tryz.checked os 6 .any (λw args=>(Rows.coreHeadsSpec.pre enc prog Tryz.f6 [] false w args/\laidMetH prog Is w)/\sizedMet enc prog Tryz.f6 (OpenSpec.ofChange Rows.coreHeadsSpec) false w args)
  (Rows.coreHeadsSpec.post enc prog Tryz.f6 false true false false):=by
 refine returnsInHanded_of_change_and (C:=Tryz.checked) (X:=λw _=>laidMetH prog Is w) (λ_ _ _ hh h=>h.of_heap hh) own started (by kernel_rfl) Tryz.func6
  (ChangeSpec.witness_shaped (enc:=enc) (C:=Tryz.checked) (os:=os) (X:=λw _=>laidMetH prog Is w) false (World.doorLaid prog 400 os) #[.agg #[.int .i64 0,.int .i64 0,.int .i64 0,.int .i64 0,.int .i64 0,.slice none 0 0,.slice none 0 0,.slice none 0 0,.slice none 0 0,.int .i64 0,.int .i64 0,.int .i64 0,.int .i64 0,.int .i64 0,.int .i64 0,.int .i64 0,.int .i64 0,.int .i64 0,.int .i64 0,.int .i64 0,.int .i64 0,.int .i64 0,.int .i64 0,.int .i64 0,.int .i64 0,.int .i64 0,.int .i64 0,.int .i64 0,.int .i64 0,.int .i64 0,.int .i64 0,.int .i64 0,.int .i64 0,.int .i64 0,.int .i64 0,.int .i64 0,.int .i64 0,.int .i64 0,.int .i64 0,.int .i64 0,.int .i64 0,.int .i64 0,.int .i64 0,.int .i64 0,.int .i64 0,.int .i64 0,.int .i64 0,.int .i64 0,.int .i64 0,.int .i64 0,.int .i64 0,.int .i64 0,.int .i64 0,.int .i64 0,.int .i64 0,.int .i64 0],.slice none 0 0] 8 rfl (World.shaped_of_RefB (by kernel_rfl) (by kernel_rfl)) (by kernel_rfl) (by kernel_rfl) (by kernel_rfl) (Ri os _)) ?_
 intro W base args ds gs before Rh hW _ _ hL _;obtain⟨hs,hc⟩:=opened H enc W args ds gs before Rh hW hL;refine hc.mono λe W' ⟨he,hb⟩=>⟨_,he,?_⟩;exact Q_ (by kernel_rfl) (by kernel_rfl) rfl (by kernel_rfl) Tryz.underlying4 hs hW hb
end Go.Proofs.YtlkpikfddnjilaaGreatDoor.coreHeads
namespace Go.Proofs.YtlkpikfddnjilaaGreatDoor.coreHeads
theorem closed:joinedFacts Tryz.pinned.checked.prog 6 Tryz.f6 Rows.coreHeadsSpec Rows.coreHeadsRow=true:=by kernel_rfl
open Go.ChangeShapes Go.WideShapes Go.ChangeAt Go.RowKit Go.Joins Sd Sx
theorem said:Rows.CoreHeadsSaid:=
 OpenClaim.holds_of_wide 6 Tryz.f6 rfl rfl rfl rfl rfl rfl rfl ⟨rfl,rfl,rfl,rfl,rfl⟩ rfl rfl rfl rfl rfl (by kernel_rfl) Tryz.func6 closed
  (of_decide_eq_true (by kernel_rfl)) (by unfold Func.isWrapper;first|(rw[if_pos (by decide+kernel)];kernel_rfl)|(rw[if_neg (by decide+kernel)];exact⟨rfl,rfl⟩))
  (λos started H enc _=>lifted os started H enc)
theorem proved:Rows.CoreHeadsCardSaid:=
 Claim7.holds_tied_plain_at .later [] [.data,.data] true Rows.coreHeadsCard.stood.harness true
  said (λ_ h=>by cases h) (by kernel_rfl) (λ_ h=>by cases h) coreHeads_row_tie rfl ⟨rfl,rfl⟩ (by kernel_rfl) rfl
  (λf fn hf hfn=>by
   obtain rfl:f=6:=Option.some.inj ((show prog.funcNamed "sidestick/sidesticklaw24.CoreHeads" =some 6 by kernel_rfl).symm.trans hf)|>.symm;obtain rfl:fn=Tryz.f6:=(Option.some.inj (Tryz.func6.symm.trans hfn)).symm;exact⟨by kernel_rfl,λj t ht=>by
    have dc:(Tryz.f6.params.toList.all λu=>!prog.wantsStandIn u)=true:=by kernel_rfl
    have hm:t∈Tryz.f6.params.toList:=by simpa using Array.mem_of_getElem? ht
    exact(show prog.wantsStandIn t=false by simpa using List.all_eq_true.1 dc t hm)⟩)
  (by kernel_rfl)
end Go.Proofs.YtlkpikfddnjilaaGreatDoor.coreHeads
