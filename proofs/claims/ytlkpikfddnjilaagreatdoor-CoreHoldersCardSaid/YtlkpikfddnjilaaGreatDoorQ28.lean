/- CoreHolders: whichever policy and calls, the law returns true. Every input; no condition. The tied card. -/
import Derived.Test.YtlkpikfddnjilaaGreatDoorCards
import Derived.Test.YtlkpikfddnjilaaGreatDoorTie
import Derived.Lib.SmallJoins
import Derived.SevenTiedAt
import Derived.LaidMore
import Derived.Stop.Joined
import Derived.Test.YtlkpikfddnjilaaGreatDoorRows
import Derived.ProofKit
import Derived.Test.YtlkpikfddnjilaaGreatDoorQ27
set_option linter.all false
set_option maxRecDepth 100000
set_option maxHeartbeats 4000000
open Go.Proofs.Tryz
namespace Go.Proofs.YtlkpikfddnjilaaGreatDoor
open Go Go.RowKit Go.BigFrame Sx Vx
variable{fr:Sd.Reply->Nat×Sd.Byt}
theorem ajL {k:LK} {s:Sd.Scene} (h:bo k s) (u:World) (o:AI) (hk:0<=o.kind):Sd.nV (aq cu) False s (lE (aq cu) u s o) (o.kind.tmod 4) o.link:=by
 unfold lE;split
 ·rename_i e;rw[e];exact(Sd.vT h.i).link (by decide)
 split
 ·rename_i e;rw[e];exact(Sd.vW h.i).link (by decide)
 split
 ·rename_i e;rw[e];exact(Sd.C4 h.i).1.link (by decide)
 ·rename_i e1 e2 e3;have e:o.kind.tmod 4=0:=by
   rw[Int.tmod_eq_emod_of_nonneg hk]at*;omega
  rw[e];unfold iL;split
  ·rename_i hl;exact Sd.Ce jN h.i hl (λe=>e.elim)
  ·exact .cH h.i (Sd.Quiet.refl ..)
theorem aj1 {k:LK} {s:Sd.Scene} (h:bo k s) (u:World) (o:AI):Sd.Gr 40 s (lE (aq cu) u s o):=by
 have hq:s.c.q.length<=3:=by have:=h.i.q.len;have:=h.i.p.queue;omega
 unfold lE;split
 ·exact(Sd.aju _ _ _).le (by decide)
 split
 ·exact(Sd.ajv _ _ _ hq).le (by decide)
 split
 ·exact Sd.ajW _ _ hq (Vz _).2
 ·unfold iL;split
  ·exact(Sd.ajT _ _ _ _ _ _).le (by decide)
  ·exact(Sd.Gr.c0 rfl rfl).le (by decide)
theorem ajM {k:LK} {s:Sd.Scene} (h:bo k s) (u:World) (o:AI) (hk:0<=o.kind) {p:Sd.Pol} (hp:p.i=s.c.p.i):aj5 s (nn (lE (aq cu) u s o)) p o (lE (aq cu) u s o).recs:=by
 have hm:0<=o.kind.tmod 4/\o.kind.tmod 4<=3:=by rw[Int.tmod_eq_emod_of_nonneg hk];omega
 exact⟨rfl,rfl,_,_,rfl,rfl,rfl,Sd.ajY (ajL h u o hk) h.i h.e2 hm (aj1 h u o) hp (aje _)⟩
section
variable{tg tc:TypeId} {ty:BT} {u:World} {x:nW} {f:Nat->Nat×Sd.Byt} {o n c:Nat} {a:Option Addr} {os:Nat->AI} {pre post:List Value} {K:V->Prop}
theorem akh (y:QQ fr tg tc u x (bJ 80 n)) (im:y.j<bJ 80 n) {s:Sd.Scene} {F:cz fr (b9 y.k s)} {fB:List aC} (hC:bo y.k s) (hp:s.c.p=y.p2) (v1:cJ=F.vs) (v2:cJ=F.vr):aky tg tc ty u x f o n c a os pre post y s F fB:=by
 refine⟨rfl,⟨y.p,y.m,y.d,y.hM,y.p2,y.k,y.hN,y.j+1,by omega,s,F,fB,hC,hp,v1,v2⟩,by show bJ 80 n-(y.j+1)<bJ 80 n-y.j;omega,?_,rfl,rfl⟩;have:bJ 80 n<=80:=by unfold bJ;omega
 rw[nH (by omega)];rfl
theorem akA (hr:rdA x u) (hn:n<=c) (ho:∀j,j<n->o=pre.length) (hO:QY u os n) (hK:K (.bool true)):hoX (fr:=fr) (aq cu) tg tc ty u x f o n c a os pre post K:=by
 refine Wf hr hn λp m d hM p2 k F hN v1 v2 hC0=>⟨⟨rfl,⟨p,m,d,hM,p2,k,hN,0,Nat.zero_le _,iM p2,F,[],hC0,rfl,v1,v2⟩,rfl,rfl,rfl⟩,?_⟩;intro y g;refine aS (λe=>?_) (λ_=>hK);have im:y.j<bJ 80 n:=by simpa using e
 have hln:y.j<n:=by unfold bJ at im;omega
 have ho:=ho y.j hln;have hjj:((y.j:Int)).toNat=y.j:=Int.toNat_natCast _;refine⟨y.Dm y.hp,λz1 c1 ty1 us1=>⟨Gq im,QZ ho hln,y.Dm y.hp,⟨coA y.hC y.v1 y.v2,y.hN.Fw,by rw[hjj];exact hO.rd _ hln⟩,?_⟩⟩;rintro s2 KM r2 fn2 F2 q1 q2 -
 rw[lX,hjj]at KM;have hC2:bo y.k (nn s2):=by rw[KM];exact y.hC.step u _ (hO.x4 _)
 have KU:s2.c.p=y.p2:=by rw[KM,abV y.hC];exact y.hp
 refine⟨y.Dm KU,λz3 c3 ty3 us3=>⟨Gq im,QZ ho hln,?_,akh y im hC2 KU q1 q2⟩⟩;rw[lX,lX,hjj,KM];refine ajM y.hC u _ (hO.kd _ hln) ?_;rw[y.hp,y.hN.eq];rfl
end
theorem ajN {W:World} {tg tc:TypeId} (hG:W.heap[0]?=some (.cells (aj .u32 64 aT) tg (0,0))) (hC:W.heap[2]?=some (.cells #[.bool false,.bool false,.bool false,.bool false,.bool false,.bool false,.bool false,.bool false,.bool false,.bool false,.bool true,.bool true] tc (0,0)))
 (q:Nat->Int) (ka:Nat->Option Addr) (kn kc:Nat->Nat) (hr:∀j,j<4->eE W (ka j) (kn j) (kc j) (dt W (ka j))) {v:Value} {os:Nat->AI} {i o n c:Nat} {a:Option Addr} {ty:BT} {pre post:List Value} (hR:s9 W v 11 (Wb os) i o n c a ty pre post) (hO:QY W os n):
 au prog 3 #[.agg (ta ⟨q,λ_=>(0,λ_=>0)⟩ ka kn kc).toArray,v] W λv w1=>v=.bool true/\Ch [] W w1:=by
 have S:=acg (fr:=Il) hG hC (i:=i) (b:=QO ty n os pre post) rfl rfl (by
  rw[hR.at_];simp only[QO,ai,cl,List.append_nil])
 have fW:c_ (DE prog gS (LHo Il (aq cu)) (SR 0 (akf (fr:=Il) tg tc ty W ⟨q,ka,kn,kc⟩ (λ_=>(0,λ_=>0)) o n c a os pre post))) 60 3 [.agg [.jS ⟨q,λ_=>(0,λ_=>0)⟩ ka kn kc],.je 2 o n c a] [jP tg,pD tc,QO ty n os pre post] [.gh W] (λv _ _=>v=.bool true):=by
  rw[akz (x:=⟨q,ka,kn,kc⟩)];exact akA ⟨hr 0 (by decide),hr 1 (by decide),hr 2 (by decide),hr 3 (by decide)⟩ hR.le hR.po hO rfl
 have ca:(az [0,2,i] [.agg [.jS ⟨q,λ_=>(0,λ_=>0)⟩ ka kn kc],.je 2 o n c a]).toArray=#[.agg (ta ⟨q,λ_=>(0,λ_=>0)⟩ ka kn kc).toArray,v]:=by
  rw[hR.v];simp only[az,den,ai,cl,List.append_nil];rfl
 have yq:ao prog gS (LHo Il (aq cu)):=ao.cons ⟨ajk,λ_=>ajl⟩ (Ib yg);rw[<-ca];refine(bW (C:=DE prog gS (LHo Il (aq cu)) (SR 0 (akf (fr:=Il) tg tc ty W ⟨q,ka,kn,kc⟩ (λ_=>(0,λ_=>0)) o n c a os pre post))) (_root_.Go.Proofs.YtlkpikfddnjilaaGreatDoor.ao.TL yq) (_root_.Go.Proofs.YtlkpikfddnjilaaGreatDoor.ao.QL yq) 60 (ach i) rfl S fW).mono ?_;rintro v w' ⟨x,more,bl',ch',rfl,h1,S',rfl⟩;exact⟨rfl,S'.ch⟩
end Go.Proofs.YtlkpikfddnjilaaGreatDoor
namespace Go.Proofs.YtlkpikfddnjilaaGreatDoor.coreHolders
open Go.ChangeShapes Go.WideShapes Go.ChangeAt Go.RowKit Go.Joins Sd Sx
theorem opened (H:Type) (enc:TypeId×Value->H) (W:World) (args:Array Value) (ds gs:List (DataW H)) (before:List MemPlace)
 (Rh:∀(j:Nat) t v,Tryz.f3.params[j]?=some t->args[j]?=some v->Value.okWide prog W .any 0 t v)
 (hW:DataW.Whole enc prog Tryz.f3.params.toList Rows.coreHoldersSpec.vars false W args.toList ds gs before) (hL:laidMetH prog Q8 W):
 Rows.coreHoldersSpec.fn H (ds++gs)={results:=[.lit (.bool true)],args:=ds,vars:=[]}/\Calls prog 3 args W λe W'=>e=.returned (.bool true)/\Below W.heap.size W W':=by
 obtain⟨p,q,hA,hV,rfl,XR,Ry⟩:=hW;obtain⟨tG,hG⟩:=Q9 hL;obtain⟨tC,hC⟩:=Wv hL;rw[Tryz.params3]at hA Rh;obtain⟨v0,v1,d0,d1,p0,p1,ca,rfl,_,ht0,ht1⟩:=trodAll_two hA;obtain rfl:args=#[v0,v1]:=by cases args;simp_all
 obtain⟨rfl,rfl⟩:=trodVars_none hV;obtain⟨pq,ka,kn,kc,rfl,hk⟩:=KD (Rh 0 28 v0 rfl rfl) (λn=>by obtain⟨fuel,h⟩:=ht0;exact Sx.jQ n h);have gb:=Dx Tryz.underlying29 rfl (Rh 1 29 v1 rfl rfl);have hrd:∀k,Sx.Rd prog W k 29 [v1]:=λk=>by
  obtain⟨a,m,c,rfl,_,_⟩:=pF Tryz.underlying29 gb;obtain⟨fuel,h2⟩:=ht1;exact Sx.jQ k h2
 obtain⟨os,i,o,n,c,a,ty,pre,post,hR,hO⟩:=Rg gb hrd hG;exact⟨rfl,Sx.Iv (ajN hG hC pq ka kn kc hk hR hO)⟩
theorem own:ownKnob prog.godebug=none:=by kernel_rfl
def Is:List (String×DataW Unit):=[("sidestick/gate.commands",Rows.laid_sidestick_gate_commands),("sidestick/sha.roots",Rows.laid_sidestick_sha_roots)]
theorem Ri (os:Os) (args:Array Value):laidMetH prog Is ((World.doorLaid prog 400 os).forCall (λ_ _=>0) ⟨#[],args,[]⟩).memory:=
 laidMetH_of_parts3 (fuel:=8) (laidMet_of_run' 8 (by kernel_rfl) (by kernel_rfl)) (by kernel_rfl) (by kernel_rfl)
theorem lifted (os:Os) (started:os.Started) (H:Type) (enc:TypeId×Value->H):
 ReturnsInHanded {} Tryz.checked os 3 .any (λw args=>(Rows.coreHoldersSpec.pre enc prog Tryz.f3 [] false w args/\laidMetH prog Is w)/\sizedMet enc prog Tryz.f3 (OpenSpec.ofChange Rows.coreHoldersSpec) false w args)
  (Rows.coreHoldersSpec.post enc prog Tryz.f3 false true false false):=by
 refine returnsInHanded_of_change_and (C:=Tryz.checked) (X:=λw _=>laidMetH prog Is w) (λ_ _ _ hh h=>h.of_heap hh) own started (by kernel_rfl) Tryz.func3
  (ChangeSpec.witness_shaped (enc:=enc) (C:=Tryz.checked) (os:=os) (X:=λw _=>laidMetH prog Is w) false (World.doorLaid prog 400 os) #[.agg #[.int .i64 0,.int .i64 0,.int .i64 0,.int .i64 0,.int .i64 0,.slice none 0 0,.slice none 0 0,.slice none 0 0,.slice none 0 0,.int .i64 0,.int .i64 0,.int .i64 0,.int .i64 0,.int .i64 0,.int .i64 0,.int .i64 0,.int .i64 0,.int .i64 0,.int .i64 0,.int .i64 0,.int .i64 0,.int .i64 0,.int .i64 0,.int .i64 0,.int .i64 0,.int .i64 0,.int .i64 0,.int .i64 0,.int .i64 0,.int .i64 0,.int .i64 0,.int .i64 0,.int .i64 0,.int .i64 0,.int .i64 0,.int .i64 0,.int .i64 0,.int .i64 0,.int .i64 0,.int .i64 0,.int .i64 0,.int .i64 0,.int .i64 0,.int .i64 0,.int .i64 0,.int .i64 0,.int .i64 0,.int .i64 0,.int .i64 0,.int .i64 0,.int .i64 0,.int .i64 0,.int .i64 0,.int .i64 0,.int .i64 0,.int .i64 0],.slice none 0 0] 8 rfl (World.shaped_of_RefB (by kernel_rfl) (by kernel_rfl)) (by kernel_rfl) (by kernel_rfl) (by kernel_rfl) (Ri os _)) ?_
 intro W base args ds gs before Rh hW _ _ hL _;obtain⟨hs,hc⟩:=opened H enc W args ds gs before Rh hW hL;refine hc.mono λe W' ⟨he,hb⟩=>⟨_,he,?_⟩;exact Q_ (by kernel_rfl) (by kernel_rfl) rfl (by kernel_rfl) Tryz.underlying4 hs hW hb
end Go.Proofs.YtlkpikfddnjilaaGreatDoor.coreHolders
namespace Go.Proofs.YtlkpikfddnjilaaGreatDoor.coreHolders
theorem closed:joinedFacts Tryz.pinned.checked.prog 3 Tryz.f3 Rows.coreHoldersSpec Rows.coreHoldersRow=true:=by kernel_rfl
open Go.ChangeShapes Go.WideShapes Go.ChangeAt Go.RowKit Go.Joins Sd Sx
theorem said:Rows.CoreHoldersSaid:=
 OpenClaim.holds_of_wide 3 Tryz.f3 rfl rfl rfl rfl rfl rfl rfl ⟨rfl,rfl,rfl,rfl,rfl⟩ rfl rfl rfl rfl rfl (by kernel_rfl) Tryz.func3 closed
  (of_decide_eq_true (by kernel_rfl)) (by unfold Func.isWrapper;first|(rw[if_pos (by decide+kernel)];kernel_rfl)|(rw[if_neg (by decide+kernel)];exact⟨rfl,rfl⟩))
  (λos started H enc _=>lifted os started H enc)
theorem proved:Rows.CoreHoldersCardSaid:=
 Claim7.holds_tied_plain_at .later [] [.data,.data] true Rows.coreHoldersCard.stood.harness true
  said (λ_ h=>by cases h) (by kernel_rfl) (λ_ h=>by cases h) coreHolders_row_tie rfl ⟨rfl,rfl⟩ (by kernel_rfl) rfl
  (λf fn hf hfn=>by
   obtain rfl:f=3:=Option.some.inj ((show prog.funcNamed "sidestick/sidesticklaw24.CoreHolders" =some 3 by kernel_rfl).symm.trans hf)|>.symm;obtain rfl:fn=Tryz.f3:=(Option.some.inj (Tryz.func3.symm.trans hfn)).symm;exact⟨by kernel_rfl,λj t ht=>by
    have dc:(Tryz.f3.params.toList.all λu=>!prog.wantsStandIn u)=true:=by kernel_rfl
    have hm:t∈Tryz.f3.params.toList:=by simpa using Array.mem_of_getElem? ht
    exact(show prog.wantsStandIn t=false by simpa using List.all_eq_true.1 dc t hm)⟩)
  (by kernel_rfl)
end Go.Proofs.YtlkpikfddnjilaaGreatDoor.coreHolders
