/- Part 13 of the proof. -/
import Derived.Test.YtggfpcggakghnaaGreatDoorQ12
set_option linter.all false
set_option maxRecDepth 100000
set_option maxHeartbeats 4000000
open Go.Proofs.Tryz
open Go.IntKind (u8 u16 u32 u64 i64)
namespace Sd
theorem mem_insert {q:List Ask} {a x:Ask}:x∈Q.insert q a↔x=a\/x∈q:=by
 unfold Q.insert;rw[List.mem_append,List.mem_cons];have:=List.takeWhile_append_dropWhile (p:=λx:Ask=>decide (x.aV<=a.aV)) (l:=q);constructor
 ·rintro(h|h|h)
  ·exact .inr (List.takeWhile_prefix _|>.subset h)
  ·exact .inl h
  ·exact .inr (List.dropWhile_suffix _|>.subset h)
 ·rintro(h|h)
  ·exact .inr (.inl h)
  ·rw[<-this,List.mem_append]at h;rcases h with h|h
   ·exact .inl h
   ·exact .inr (.inr h)
theorem length_insert (q:List Ask) (a:Ask):(Q.insert q a).length=q.length+1:=by
 have:=congrArg List.length (List.takeWhile_append_dropWhile (p:=λx:Ask=>decide (x.aV<=a.aV)) (l:=q));simp only[List.length_append]at this;simp only[Q.insert,List.length_append,List.length_cons];omega
theorem DO (y:Ask) (q:List Ask) (a:Ask):Q.insert (y::q) a=if y.aV<=a.aV then y::Q.insert q a else a::y::q:=by
 unfold Q.insert;simp only[List.takeWhile_cons,List.dropWhile_cons];by_cases h:y.aV<=a.aV<;>simp[h]
theorem insert_sorted {q:List Ask} {a:Ask} (h:q.Pairwise λa b=>a.aV<b.aV) (hn:∀x∈q,x.aV≠a.aV):(Q.insert q a).Pairwise λa b=>a.aV<b.aV:=by
 induction q with
 |nil=>simp[Q.insert]
 |cons y q ih=>
  rw[DO];rw[List.pairwise_cons]at h;have hy:=hn y (by simp);split
  ·rw[List.pairwise_cons];refine⟨λx hx=>?_,ih h.2 (λx hx=>hn x (by simp[hx]))⟩;rcases mem_insert.1 hx with rfl|hx
   ·omega
   ·exact h.1 x hx
  ·rw[List.pairwise_cons,List.pairwise_cons];refine⟨λx hx=>?_,h.1,h.2⟩;rcases List.mem_cons.1 hx with rfl|hx
   ·omega
   ·have:=h.1 x hx;omega
theorem MZ (most:Int) (q:List Ask) (a:Ask):0<=(Q.push most q a).2/\(Q.push most q a).2<=27:=by
 unfold Q.push;repeat' split
 all_goals simp
theorem X6 {most:Int} {q:List Ask} {a:Ask} (h:(Q.push most q a).2=0):(Q.push most q a).1=Q.insert q a/\Q.waits q a.source=false/\(q.length:Int)<most:=by
 unfold Q.push at*;split at h
 ·simp at h
 split at h
 ·simp at h
 rename_i h1 h2;rw[if_neg h1,if_neg h2];exact⟨rfl,by simpa using h1,by omega⟩
theorem M0 {q:List Ask} {s:Int} (h:Q.waits q s=false):∀x∈q,x.source≠s:=by
 intro x hx e;have:Q.waits q s=true:=by unfold Q.waits;rw[List.any_eq_true];exact⟨x,hx,by simp[e]⟩
 rw[this]at h;cases h
theorem LN.insert {p:Pol} {t:Tab} {h:Int} {q:List Ask} (hp:cK p) (k:LN p t h q) {s:Int} (hs:1<=s/\s<=3) (tD:t.on s=true) (hh:s≠h)
 (hw:Q.waits q s=false) (hl:(q.length:Int)<p.queue):LN p t h (Q.insert q ⟨s,aV p s,.start p.ask⟩) where
 each:=by
  intro a ha;rcases mem_insert.1 ha with rfl|ha
  ·have:=hp.ask;refine⟨rfl,hs.1,hs.2,tD,hh,?_,?_,?_⟩<;>simp[Timer.start]<;>omega
  ·exact k.each a ha
 sorted:=insert_sorted k.sorted (λx hx e=>by
  have h1:=k.each x hx;have h2:=M0 hw x hx;rw[h1.1]at e;exact h2 (y_ hp (by omega) (by omega) e))
 len:=by rw[length_insert];omega
theorem Rf {p:Pol} {t:Tok} {most:Int} {q:List Ask} {f:Int} {now:Bool}:0<=(cv p t most q f now).2.2.1/\(cv p t most q f now).2.2.1<=29:=by
 unfold cv;have h1:=lZ t f;have h2:=MZ most q ⟨f,aV p f,.start p.ask⟩
 repeat' split
 all_goals first|(simp;done)|(simp;omega)|omega
theorem adP {p:Pol} {t:Tok} {most:Int} {q:List Ask} {f:Int} {now:Bool} (h:(cv p t most q f now).2.2.1=0):
 t.bad=false/\f≠t.holder/\t.epoch<65535/\
 ((cv p t most q f now=(t.pass f (t.epoch+1),3,0,Q.drop q f)/\0<=f/\f<=4/\(t.holder=4\/cu p f t.holder=true))\/
  (cv p t most q f now=(t,0,0,Q.insert q ⟨f,aV p f,.start p.ask⟩)/\Q.waits q f=false/\(q.length:Int)<most/\t.holder≠4/\now=false)):=by
 unfold cv at*;split at h
 ·simp at h
 split at h
 ·simp at h
 split at h
 ·simp at h
 rename_i h1 h2 h3;rw[if_neg h1,if_neg h2,if_neg h3];refine⟨by simpa using h1,h2,by omega,?_⟩;split at h
 ·rename_i h4;rw[if_pos h4];split at h
  ·rename_i h5;exact absurd h h5
  ·rename_i h5;rw[if_neg h5];obtain⟨g1,g2,g3,g4,g5⟩:=qX (by simpa using h5);exact .inl ⟨by rw[g1],g2,g3,h4.imp id And.right⟩
 ·rename_i h4;rw[if_neg h4];split at h
  ·simp at h
  ·rename_i h5;rw[if_neg h5];obtain⟨g1,g2,g3⟩:=X6 h;refine .inr ⟨?_,g2,g3,λe=>h4 (.inl e),by simpa using h5⟩;rw[g1];exact Prod.ext rfl (Prod.ext rfl (Prod.ext h rfl))
theorem A3 (t:Tok) (q:List Ask):0<=(bg t q).2.1/\(bg t q).2.1<=25:=by
 unfold bg;split
 ·simp
 ·rename_i a l;have:=lZ t a.source;split<;>first|(simp;done)|(simp;omega)|omega
theorem GP {t:Tok} {q:List Ask} (h:(bg t q).2.1=0):
 ∃a l,q=a::l/\bg t q=(t.pass a.source (t.epoch+1),0,Q.drop q a.source)/\0<=a.source/\a.source<=4/\a.source≠t.holder/\t.epoch<65535:=by
 unfold bg at*;split at h
 ·simp at h
 ·rename_i a l;split at h
  ·rename_i h5;exact absurd h h5
  ·rename_i h5;obtain⟨g1,g2,g3,g4,g5⟩:=qX (by simpa using h5);refine⟨a,l,rfl,?_,g2,g3,g4,g5⟩;show(if(t.bz a.source).2≠0 then _ else _)=_;rw[if_neg h5,g1]
theorem qZ (t:Tok) (q:List Ask) (f:Int):0<=(an t q f).2.1/\(an t q f).2.1<=25:=by
 unfold an;have:=A3 t q
 repeat' split
 all_goals first|(simp;done)|(simp;omega)|omega
theorem wP {t:Tok} {q:List Ask} {f:Int} (h:(an t q f).2.1=0):
 f=t.holder/\∃a l,q=a::l/\an t q f=(t.pass a.source (t.epoch+1),0,Q.drop q a.source)/\0<=a.source/\a.source<=4/\a.source≠t.holder/\t.epoch<65535:=by
 unfold an at*;split at h
 ·simp at h
 split at h
 ·simp at h
 rename_i h1 h2;rw[if_neg h1,if_neg h2];exact⟨by simpa using h1,GP h⟩
variable{C:Crypt} {b:Prop} {s:Scene} {l:Int} {m:bW}
theorem nr {kind link how n f:Int} {q:List Ask} (h:Inv s.c) (hf:0<=f/\f<=4) (hq:∃x,q=Q.drop s.c.q x) (e_:f≠s.c.t.holder) (he:s.c.t.epoch<65535)
 (aid:0<=how/\how<=6) (hn:0<=n/\n<=4294967295)
 (hk:oQ s.c (Scene.goes C ({s with c:={s.c with q:=q}}:Scene) (s.c.t.pass f (s.c.t.epoch+1)) how n).c kind link how):
 l5 C b s (Scene.goes C ({s with c:={s.c with q:=q}}:Scene) (s.c.t.pass f (s.c.t.epoch+1)) how n) kind link:=by
 have e0:=h.eW;obtain⟨x,rfl⟩:=hq;have h1:Inv ({s.c with q:=Q.drop s.c.q x}:Core):=⟨h.p,h.tok,h.q.drop x (λa ha hx=>(h.q.each a ha).2.2.2.2.1),h.tab,h.samples,h.mode,h.doors⟩;refine⟨?_,.inr ⟨how,?_,hk⟩⟩
 ·exact Inv.goes (s:={s with c:={s.c with q:=Q.drop s.c.q x}}) h1 (iP.pass h.p hf (by have:=h.tok.epoch;omega))
 ·have q0:Quiet C b s ({s with c:={s.c with q:=Q.drop s.c.q x}}:Scene):=Scene.aS rfl rfl rfl rfl;exact q0.goes (Scene.k8 (by simp[Tok.pass];omega) (by simpa[Tok.pass]using e_) rfl (.inl ⟨he,rfl⟩) e0.1 aid hn)
theorem DP (h:Inv s.c) (hl:1<=l/\l<=3) (hm:wN m):l5 C b s (s.release C l m) 0 l:=by
 unfold Scene.release;dsimp only;split
 ·have h2:=qZ s.c.t s.c.q l;exact fg h hl hm.seq ⟨h2.1,Int.le_trans h2.2 (by decide)⟩
 rename_i hz;obtain⟨g0,a,r,g1,g2,g3,g4,g5,g6⟩:=wP (by simpa using hz);rw[g2];refine iV (nr h ⟨g3,g4⟩ ⟨_,rfl⟩ g5 g6 (by simp) hm.seq ?_) hl hm.seq;refine .inr (.inl ⟨rfl,by simp,⟨a,r,g1,by simp[Tok.pass]⟩,?_⟩);simp;omega
theorem X7 (h:Inv s.c) (hl:1<=l/\l<=3) (hm:wN m) (tD:s.c.tab.on l=true):l5 C b s (s.ask C l m) 0 l:=by
 have e0:=h.eW;unfold Scene.ask;dsimp only;split
 ·have h2:=@Rf s.c.p s.c.t s.c.p.queue s.c.q l m.now;exact fg h hl hm.seq ⟨h2.1,Int.le_trans h2.2 (by decide)⟩
 rename_i hz;obtain⟨g1,g2,g3,g4⟩:=adP (by simpa using hz);refine iV ?_ hl hm.seq;rcases g4 with⟨g4,g5,g6,g7⟩|⟨g4,g5,g6,g7⟩
 ·rw[g4];rw[if_pos (by simp)];refine nr h ⟨g5,g6⟩ ⟨_,rfl⟩ g2 g3 (by simp) hm.seq ?_;refine .inr (.inr (.inl ⟨rfl,rfl,by simp[Tok.pass],?_,g1⟩));simp only[Scene.goes_t,Tok.pass];rcases g7 with g7|g7
  ·rw[g7,LJ h.p (by omega) (by omega)];simpa using acd h.p (by omega)
  ·exact g7
 ·rw[g4];rw[if_neg (by simp)];refine .cD ?_ ?_
  ·refine Inv.record (s:=({s with c:={s.c with q:=Q.insert s.c.q ⟨l,aV s.c.p l,Timer.start s.c.p.ask⟩}}:Scene).bb s.c.t) (h.A2 h.tok ?_) ..;exact h.q.insert h.p hl tD g2 g5 g6
  ·refine Quiet.trans (t:=({s with c:={s.c with q:=Q.insert s.c.q ⟨l,aV s.c.p l,Timer.start s.c.p.ask⟩}}:Scene).bb s.c.t) (Scene.aS rfl rfl rfl rfl) (Scene.bR (by simp) ?_);have:=hm.seq;constructor<;>simp[Scene.bb]<;>omega
theorem pJ (p:Pol) (t:Tok) (a r mo:Int) (m:bW):0<=fM p t a r mo m/\fM p t a r mo m<=23:=by
 unfold fM;by_cases h1:m.kind≠10/\m.kind≠11
 ·rw[if_pos h1];simp
 rw[if_neg h1];by_cases h2:a≠t.holder
 ·rw[if_pos h2];simp
 rw[if_neg h2];by_cases h3:m.epoch≠t.epoch
 ·rw[if_pos h3];simp
 rw[if_neg h3];by_cases h4:may p mo r (if m.kind=10 then 0 else m.cls)=false
 ·rw[if_pos h4];simp
 rw[if_neg h4];by_cases h5:m.kind=10/\Sd.goes p mo m.mode=false
 ·rw[if_pos h5];simp
 ·rw[if_neg h5];simp
theorem DQ (h:Inv s.c) (hl:1<=l/\l<=3) (hm:wN m):l5 C b s (s.command C l m) 0 l:=by
 have e0:=h.eW;unfold Scene.command;dsimp only;split
 ·have:=pJ s.c.p s.c.t l (s.c.tab.role l) s.c.mode m;exact fg h hl hm.seq (by omega)
 refine iV ?_ hl hm.seq;have:=hm.seq;split
 ·refine .cD (Inv.head (c:={s.c with mode:=m.mode,bj:=_}) ⟨h.p,h.tok,h.q,h.tab,h.samples,hm.mode,h.doors⟩ _) ?_;refine Quiet.trans (t:={s with c:={s.c with mode:=m.mode,bj:=⟨1,l,m.seq⟩}}) (Scene.aS rfl rfl rfl rfl) (Scene.bR (by simp) ?_);constructor<;>simp<;>omega
 ·refine .cD (Inv.head (c:={s.c with pt:=s.c.pt.set s.c.p m.cls m.x ⟨1,l,m.seq⟩}) ⟨h.p,h.tok,h.q,h.tab,h.samples,h.mode,h.doors⟩ _) ?_;refine Quiet.trans (t:={s with c:={s.c with pt:=s.c.pt.set s.c.p m.cls m.x ⟨1,l,m.seq⟩}}) (Scene.aS rfl rfl rfl rfl) (Scene.bR (by simp) ?_);constructor<;>simp<;>omega
end Sd
namespace Sd
variable{C:Crypt} {b:Prop} {s:Scene} {l:Int} {m:bW}
theorem q_ (t:Tok) (x:Int):(t.drop x).1.holder=t.holder/\(t.drop x).1.epoch=t.epoch/\(t.drop x).1.la=t.la/\(t.drop x).1.bad=t.bad/\
 ((t.drop x).1=t/\(t.drop x).2=false/\(t.offer<0\/t.offer≠x)\/(t.drop x).1=t.bG/\(t.drop x).2=true/\t.offer=x):=by
 unfold Tok.drop;split
 ·rename_i h;exact⟨rfl,rfl,rfl,rfl,.inl ⟨rfl,rfl,h⟩⟩
 ·rename_i h;refine⟨rfl,rfl,rfl,rfl,.inr ⟨rfl,rfl,?_⟩⟩;by_cases hx:t.offer=x
  ·exact hx
  ·exact absurd (.inr hx) h
theorem A4 (C:Crypt) (s:Scene) (x:Int):∃hd,(s.leave C x).c={s.c with q:=Q.drop s.c.q x,t:=(s.c.t.drop x).1,head:=hd}:=by
 unfold Scene.leave;dsimp only;rcases(q_ s.c.t x).2.2.2.2 with⟨h1,h2,_⟩|⟨h1,h2,_⟩
 ·rw[if_pos h2,h1];exact⟨s.c.head,rfl⟩
 ·rw[if_neg (by rw[h2];simp)];refine⟨C.next s.c.head ⟨12,x,0,(s.c.t.drop x).1.epoch,16,0⟩,?_⟩;rw[show∀(y:Scene) (k a n e w:Int),(y.record C k a n e w).c={y.c with head:=C.next y.c.head ⟨k,a,n,y.c.t.epoch,e,w⟩}from λ_ _ _ _ _ _=>rfl];simp only[Scene.gone_c]
theorem uo {x:Int} (hx:1<=x/\x<=3) (he:0<=s.c.t.epoch/\s.c.t.epoch<=65535):Quiet C b s (s.leave C x):=by
 unfold Scene.leave;dsimp only;have q0:Quiet C b s ({s with c:={s.c with q:=Q.drop s.c.q x}}:Scene):=Scene.aS rfl rfl rfl rfl;have hd:=q_ s.c.t x;split
 ·exact q0
 ·refine q0.trans (Quiet.trans (t:=({s with c:={s.c with q:=Q.drop s.c.q x,t:=(s.c.t.drop x).1}}:Scene)) (Scene.aS hd.1 hd.2.1 rfl rfl) ?_);refine Quiet.trans (Scene.fP (Scene.jW (by omega) (by simp))) (Scene.bR (by simp) ?_);have e:(({s with c:={s.c with q:=Q.drop s.c.q x,t:=(s.c.t.drop x).1}}:Scene).hear (s.c.t.drop x).1.holder {kind:=136,fT:=x,code:=16}).c.t.epoch=s.c.t.epoch:=by
   rw[Scene.hear_c];exact hd.2.1
  constructor<;>first|(dsimp only;rw[e];exact he)|(simp;done)|(simp;omega)
theorem Inv.leave {T:Tab} {x:Int} (h:Inv {s.c with tab:=T}):Inv {(s.leave C x).c with tab:=T}/\(s.leave C x).c.tab=s.c.tab/\(s.leave C x).c.p=s.c.p/\
 (s.leave C x).c.q=Q.drop s.c.q x/\(s.leave C x).c.t.offer≠x/\((s.leave C x).c.t.offer=s.c.t.offer\/(s.leave C x).c.t.offer=-1)/\(s.leave C x).c.t.holder=s.c.t.holder\/x<0:=by
 by_cases hx:x<0
 ·exact .inr hx
 refine .inl ?_;obtain⟨hd,e⟩:=A4 C s x;have hdr:=q_ s.c.t x;rw[e];refine⟨?_,rfl,rfl,rfl,?_,?_,hdr.1⟩
 ·have ht:iP s.c.p T (s.c.t.drop x).1:=by
   rcases hdr.2.2.2.2 with⟨h1,_,_⟩|⟨h1,_,_⟩
   ·rw[h1];exact h.tok
   ·rw[h1];exact⟨h.tok.holder,h.tok.epoch,.inl rfl,h.tok.lost⟩
  exact⟨h.p,ht,h.q.drop x (λa ha _=>by show a.source≠(s.c.t.drop x).1.holder;rw[hdr.1];exact(h.q.each a ha).2.2.2.2.1),h.tab,h.samples,h.mode,h.doors⟩
 ·show(s.c.t.drop x).1.offer≠x;rcases hdr.2.2.2.2 with⟨h1,_,h2⟩|⟨h1,_,_⟩
  ·rw[h1];omega
  ·rw[h1];simp[Tok.bG];omega
 ·show(s.c.t.drop x).1.offer=s.c.t.offer\/(s.c.t.drop x).1.offer=-1;rcases hdr.2.2.2.2 with⟨h1,_,h2⟩|⟨h1,_,_⟩
  ·rw[h1];exact .inl rfl
  ·rw[h1];exact .inr rfl
theorem Inv.nt {c:Core} {T:Tab} (h:Inv {c with tab:=T}) (e:c.tab=T):Inv c:=by subst e;exact h
theorem Inv.JN {c:Core} {T T':Tab} (h:Inv {c with tab:=T}) (ht:zb c.p T') (hq:∀a∈c.q,T'.on a.source=true) (ho:0<=c.t.offer->T'.on c.t.offer=true):Inv {c with tab:=T'}:=
 ⟨h.p,⟨h.tok.holder,h.tok.epoch,h.tok.offer.imp id (λ⟨a,b,d,_,f⟩=>⟨a,b,d,ho (Int.le_trans (by decide) a),f⟩),h.tok.lost⟩,
  ⟨λa ha=>⟨(h.q.each a ha).1,(h.q.each a ha).2.1,(h.q.each a ha).2.2.1,hq a ha,(h.q.each a ha).2.2.2.2⟩,h.q.sorted,h.q.len⟩,ht,h.samples,h.mode,h.doors⟩
theorem GQ {t:Tab} {i:Nat} {x:bm} {u:Int} (hu:u.toNat-1≠i):(t.dT i x).on u=t.on u:=by
 simp[Tab.on,Tab.cZ,Tab.dT,hu]
theorem l7 {t:Tab} {u:Int} {i:Nat} {x:bm} (h:t.on u=true) (hx:x.on=true):(t.dT i x).on u=true:=by
 unfold Tab.on Tab.cZ Tab.dT at*;split at h
 ·rename_i h1;rw[if_pos h1]
 ·rename_i h1;rw[if_neg h1];split at h
  ·rename_i h2;rw[if_pos h2];exact h
  ·rename_i h2;rw[if_neg h2];simp only[Bool.and_eq_true]at h⊢;refine⟨h.1,?_⟩;split
   ·exact hx
   ·exact h.2
theorem M1 {p:Pol} {t:Tab} (h:zb p t) (l:Int):zb p (t.end_ l):=by
 unfold Tab.end_;split
 ·refine⟨h.aA,λi hi tD=>?_⟩;unfold Tab.dT at*;dsimp only at*;split at tD
  ·cases tD
  ·rename_i e_;rw[if_neg e_];exact h.ay i hi tD
 ·exact h
theorem Rg {t:Tab} {l u:Int} (hl:1<=l/\l<=3) (hu:u≠l) (h:t.on u=true):(t.end_ l).on u=true:=by
 unfold Tab.end_;split
 ·by_cases h1:u=4
  ·simp[Tab.on,h1]
  by_cases h2:u=0
  ·subst h2;simpa[Tab.on,Tab.dT]using h
  have h3:1<=u/\u<=3:=by
   unfold Tab.on Tab.cZ at h;rw[if_neg h1,if_neg h2]at h;simp at h;exact h.1
  rw[GQ (by omega)];exact h
 ·exact h
theorem X8 (h:Inv s.c) (hl:1<=l/\l<=3) (hm:wN m):l5 C b s (s.En C l m) 0 l:=by
 have e0:=h.eW;unfold Scene.En;refine iV ?_ hl hm.seq;have hq:Quiet C b s ((({s with c:={s.c with tab:=s.c.tab.end_ l}}:Scene).leave C l)):=
  Quiet.trans (t:=({s with c:={s.c with tab:=s.c.tab.end_ l}}:Scene)) (Scene.aS rfl rfl rfl rfl) (uo hl e0)
 have hs:=hm.seq;refine .cD ?_ (hq.trans (Scene.bR (by simp) ?_))
 ·refine Inv.record ?_ ..;rcases Inv.leave (C:=C) (s:=({s with c:={s.c with tab:=s.c.tab.end_ l}}:Scene)) (T:=s.c.tab) (x:=l) h with⟨h1,h2,h3,h4,h5,h6,h7⟩|hx
  ·refine Inv.nt (T:=s.c.tab.end_ l) (Inv.JN h1 (T':=s.c.tab.end_ l) (by simpa[h3]using M1 h.tab l) ?_ ?_) h2
   ·intro a ha;have VH:a∈Q.drop s.c.q l:=by simpa[h4]using ha
    simp only[Q.drop,List.mem_filter,decide_eq_true_eq]at VH;exact Rg hl VH.2 (h.q.each a VH.1).2.2.2.1
   ·intro ho;refine Rg hl h5 ?_;rcases h6 with h6|h6
    ·rcases h.tok.offer with h9|⟨_,_,_,h9,_⟩
     ·simp at ho h6;omega
     ·simpa[h6]using h9
    ·simp[h6]at ho
  ·omega
 ·have e1:=hq.epoch;constructor<;>first|(dsimp only;rw[e1];exact e0)|(simp;done)|(simp;omega)
theorem alS {X:Scene} {r:Reply} {k a n e w:Int} (h:Quiet C b s X) (ht:kr (l,r)) (hk:k≠8) (hb:GK b ⟨k,a,n,X.c.t.epoch,e,w⟩):Quiet C b s ((X.tell l r).record C k a n e w):=
 h.trans (Quiet.trans (Scene.jV ht) (Scene.bR hk hb))
structure rf (C:Crypt):Prop where
 ae:∀k s n j,0<=C.ae k s n j/\C.ae k s n j<=255
 take:∀n f m,C.take n f=some m->wN m
 kS:∀w n,0<=w.high/\w.high<=4294967295->0<=n/\n<=4294967295->0<=(C.kS w n).high/\(C.kS w n).high<=4294967295
theorem DR {d:Nat->dQ} (h:Inv s.c) (hd:∀i,i<3->0<=(d i).many):Inv ({s.c with doors:=d}:Core)/\Quiet C b s ({s with c:={s.c with doors:=d}}:Scene):=
 ⟨⟨h.p,h.tok,h.q,h.tab,h.samples,h.mode,hd⟩,Scene.aS rfl rfl rfl rfl⟩
theorem zx {n:Nat} {f:Byt} (hC:rf C) (h:Inv s.c) (hl:1<=l/\l<=3):l5 C b s (s.gW C l n f) 0 l:=by
 have e0:=h.eW;unfold Scene.gW;split
 ·exact jX h hl (λ_=>by omega)
 rename_i m hm;split
 ·exact fg h hl (by omega) (by omega)
 dsimp only;split
 ·exact fg h hl (by omega) (by omega)
 have hd:=h.doors (l.toNat-1) (by omega);obtain⟨i1,q1⟩:=DR (C:=C) (b:=b) h (d:=λj=>if j=l.toNat-1 then⟨(s.c.doors (l.toNat-1)).many+1,true,C.ae (s.c.p.k 3) l ((s.c.doors (l.toNat-1)).many+1)⟩else s.c.doors j)
  (λi hi=>by split<;>first|(dsimp only;omega)|exact h.doors i hi)
 refine .cD (Inv.head i1 _) (q1.trans (Quiet.trans (Scene.jV ⟨hl,Scene.DM (hC.ae (s.c.p.k 3) l ((s.c.doors (l.toNat-1)).many+1))⟩) ?_));exact Scene.bR (by simp) (by constructor<;>simp<;>omega)
theorem Rh {p:Pol} {t:Tab} {s r:Int} {k:Byt} (h:(Tab.br p t s r k).2=0):
 (Tab.br p t s r k).1=t.dT (s.toNat-1) ⟨true,.start p.bh,r,k,⟨false,0,0⟩⟩/\1<=s/\s<=3/\0<=r/\r<=3:=by
 unfold Tab.br at*;split at h
 ·simp at h
 split at h
 ·simp at h
 rename_i h1 h2;rw[if_neg h1,if_neg h2];exact⟨rfl,by omega,by omega,by omega,by omega⟩
theorem GR (p:Pol) (t:Tab) (s r:Int) (k:Byt):0<=(Tab.br p t s r k).2/\(Tab.br p t s r k).2<=19:=by
 unfold Tab.br;repeat' split
 all_goals simp
theorem Inv.dT {c:Core} (h:Inv c) {i:Nat} {x:bm} (hx:x.on=true) (HD:x.aH.most=c.p.bh/\0<=x.aH.n/\x.aH.n<c.p.bh/\0<=x.role/\x.role<=3/\0<=x.seen.high/\x.seen.high<=4294967295):Inv {c with tab:=c.tab.dT i x}:=by
 refine Inv.JN (T:=c.tab) h ?_ (λa ha=>l7 (h.q.each a ha).2.2.2.1 hx) (λho=>?_)
 ·refine⟨h.tab.aA,λj hj tD=>?_⟩;unfold Tab.dT at*;dsimp only at*;split at tD
  ·rename_i e;rw[if_pos e];exact HD
  ·rename_i e;rw[if_neg e];exact h.tab.ay j hj tD
 ·rcases h.tok.offer with h1|⟨_,_,_,h1,_⟩
  ·omega
  ·exact l7 h1 hx
theorem zz {n:Nat} {f:Byt} (hC:rf C) (h:Inv s.c) (hl:1<=l/\l<=3):l5 C b s (s.prove C l n f) 0 l:=by
 have e0:=h.eW;unfold Scene.prove;split
 ·exact jX h hl (λ_=>by omega)
 split
 ·exact jX h hl (λ_=>by omega)
 rename_i m hm;have hmb:=hC.take _ _ _ hm;dsimp only;split
 ·exact fg h hl (by omega) (by omega)
 have hd:=h.doors (l.toNat-1) (by omega);obtain⟨i1,q1⟩:=DR (C:=C) (b:=b) h (d:=λj=>if j=l.toNat-1 then⟨(s.c.doors (l.toNat-1)).many,false,λ_=>0⟩else s.c.doors j)
  (λi hi=>by split<;>first|(dsimp only;omega)|exact h.doors i hi)
 split
 ·exact⟨i1.head _,.inl (q1.trans (qY (s:=⟨_,_,_⟩) i1 hl (λ_=>by omega)))⟩
 split
 ·exact⟨i1.head _,.inl (q1.trans (l6 (s:=⟨_,_,_⟩) i1 hl (by omega) (by omega)))⟩
 split
 ·have h2:=GR s.c.p s.c.tab l m.role (C.key (s.c.p.k (l.toNat-1)) l m.role (s.c.doors (l.toNat-1)).ae);exact⟨i1.head _,.inl (q1.trans (l6 (s:=⟨_,_,_⟩) i1 hl (by omega) ⟨h2.1,Int.le_trans h2.2 (by decide)⟩))⟩
 rename_i hz;obtain⟨g1,g2,g3,g4,g5⟩:=Rh (by simpa using hz);have hb:=h.p.bh;have i2:=Inv.dT (c:={s.c with doors:=_}) i1 (i:=l.toNat-1) (x:=⟨true,.start s.c.p.bh,m.role,C.key (s.c.p.k (l.toNat-1)) l m.role (s.c.doors (l.toNat-1)).ae,⟨false,0,0⟩⟩) rfl
  ⟨by simp[Timer.start];omega,by simp[Timer.start],by simp[Timer.start];omega,g4,g5,by simp,by simp⟩
 have hh:=h.tok.holder;rw[g1];refine .cD (Inv.head i2 _) (alS (q1.trans (Scene.aS rfl rfl rfl rfl)) ⟨hl,Scene.yO ⟨g4,g5⟩ hh e0⟩ (by simp) ?_);constructor<;>simp<;>omega
theorem JO {p:Pol} {t t':Tab} {l:Int} {n:Nat} {f:Byt} {m:bW} (hC:rf C) (h:Tab.take C p t l n f=(t',.ok m)):
 t.cZ l=true/\wN m/\m.kind≠1/\m.kind≠2/\
 t'=t.dT (l.toNat-1) {(t.ay (l.toNat-1))with seen:=C.kS (t.ay (l.toNat-1)).seen m.seq,on:=true,aH:=.start p.bh}:=by
 unfold Tab.take at h;split at h
 ·simp at h
 rename_i h1;split at h
 ·simp at h
 split at h
 ·simp at h
 rename_i m' hm;split at h
 ·simp at h
 split at h
 ·simp at h
 rename_i h2 h3;simp at h;obtain⟨rfl,rfl⟩:=h;exact⟨by simpa using h1,hC.take _ _ _ hm,by omega,by omega,rfl⟩
theorem wQ {p:Pol} {t t':Tab} {l:Int} {n:Nat} {f:Byt} {e:Int} (h:Tab.take C p t l n f=(t',.error e)):13<=e/\e<=16:=by
 unfold Tab.take at h;split at h
 ·simp at h;omega
 split at h
 ·simp at h;omega
 split at h
 ·simp at h;omega
 split at h
 ·simp at h;omega
 split at h
 ·simp at h;omega
 ·simp at h
theorem JQ (h:Inv s.c) (hl:1<=l/\l<=3) (hm:wN m) (tD:s.c.tab.on l=true) (h1:m.kind≠1) (h2:m.kind≠2):l5 C b s (s.u9 C l m) 0 l:=by
 have hk:=hm.kind;unfold Scene.u9;split
 ·exact iV (.cD h (Quiet.refl ..)) hl hm.seq
 split
 ·exact X8 h hl hm
 split
 ·exact X7 h hl hm tD
 split
 ·exact MY h hl hm
 split
 ·exact GO h hl hm
 split
 ·exact Re h hl hm
 split
 ·exact DP h hl hm
 split
 ·exact DQ h hl hm
 ·omega
theorem A5 {t:Tab} {l:Int} (hl:1<=l/\l<=3):t.on l=t.cZ l:=by
 unfold Tab.on;rw[if_neg (by omega),if_neg (by omega)]
theorem l5.nt {t:Scene} {T:Tab} {kind link:Int} (k:l5 C b ({s with c:={s.c with tab:=T}}:Scene) t kind link):l5 C b s t kind link:=
 ⟨k.inv,by
  rcases k.GN with q|⟨how,g,w⟩
  ·refine .inl (Quiet.trans ?_ q);exact Scene.aS rfl rfl rfl rfl
  ·refine .inr ⟨how,Quiet.goes ?_ g,w⟩;exact Scene.aS rfl rfl rfl rfl⟩
theorem DS {n:Nat} {f:Byt} {code:Int} (hC:rf C) (h:Inv s.c) (hl:1<=l/\l<=3) (hb:b->0<=code/\code<=255):l5 C b s (s.item C l code n f) 0 l:=by
 unfold Scene.item;split
 ·exact jX h hl hb
 split
 ·exact zx hC h hl
 split
 ·exact zz hC h hl
 split
 ·rename_i t e he;have:=wQ he;exact jX h hl (λ_=>by omega)
 ·rename_i t m he;obtain⟨g1,g2,g3,g4,g5⟩:=JO hC he;have hb:=h.p.bh;have g1':s.c.tab.on l=true:=by rw[A5 hl];exact g1
  have i1:=h.dT (i:=l.toNat-1) (x:={(s.c.tab.ay (l.toNat-1))with seen:=C.kS (s.c.tab.ay (l.toNat-1)).seen m.seq,on:=true,aH:=.start s.c.p.bh}) rfl
   (by
    have tD:(s.c.tab.ay (l.toNat-1)).on=true:=by unfold Tab.cZ at g1;simp at g1;exact g1.2
    have:=h.tab.ay (l.toNat-1) (by omega) tD;have h9:=hC.kS (s.c.tab.ay (l.toNat-1)).seen m.seq ⟨by omega,by omega⟩ g2.seq;simp[Timer.start];omega)
  subst g5;exact l5.nt (JQ (s:=⟨{s.c with tab:=_},s.sent,s.recs⟩) i1 hl g2 (l7 g1' rfl) g3 g4)
end Sd
namespace Go.Proofs.YtggfpcggakghnaaGreatDoor
open Go Go.RowKit Go.BigFrame Sx
theorem tF (x y:Int) (hx:0<=x/\x<2^56) (hy:0<=y/\y<256):bits .or .u64 (u64.wrap (x*2^8)) y=x*256+y:=by
 have hw:u64.wrap (x*2^8)=x*256:=by rw[IntKind.wrap_u64];omega
 rw[hw];obtain⟨a,rfl⟩:∃a:Nat,x=a:=⟨x.toNat,by omega⟩;obtain⟨b,rfl⟩:∃b:Nat,y=b:=⟨y.toNat,by omega⟩;have ha:a<2^56:=by omega
 have hb:b<256:=by omega
 unfold bits;have h1:(BitVec.ofInt 64 ((a:Int)*256)).toNat=a*256:=by simp only[BitVec.toNat_ofInt];omega
 have h2:(BitVec.ofInt 64 (b:Int)).toNat=b:=by simp only[BitVec.toNat_ofInt];omega
 have h3:(a*256|||b)=a*256+b:=by
  have:=Nat.shiftLeft_add_eq_or_of_lt (i:=8) (b:=b) (by omega) a;rw[Nat.shiftLeft_eq]at this;exact this.symm
 show u64.wrap (((BitVec.ofInt 64 ((a:Int)*256)|||BitVec.ofInt 64 (b:Int)).toNat:Nat):Int)=_;rw[BitVec.toNat_or,h1,h2,h3,IntKind.wrap_u64];omega
theorem adQ (y:Int) (hy:0<=y/\y<256):bits .or .u64 0 y=y:=by
 have h:=tF 0 y (by omega) hy;rw[show u64.wrap (0*2^8)=0 from by decide]at h;rw[h];omega
def YQ (f:Nat->Int):Int:=f 0
def pL (f:Nat->Int):Int:=f 0*256+f 1
def Ka (f:Nat->Int):Int:=((f 0*256+f 1)*256+f 2)*256+f 3
def By (f:Nat->Int):Prop:=∀j,0<=f j/\f j<=255
theorem adR {f:Nat->Int} (h:By f):0<=YQ f/\YQ f<=255:=h 0
theorem Ri {f:Nat->Int} (h:By f):0<=pL f/\pL f<=65535:=by have:=h 0;have:=h 1;unfold pL;omega
theorem adS {f:Nat->Int} (h:By f):0<=Ka f/\Ka f<=4294967295:=by have:=h 0;have:=h 1;have:=h 2;have:=h 3;unfold Ka;omega
def oV (x:Int):Int:=if 32767<x then x-65536 else x
theorem X9 (b o c:Nat) (f:Nat->Int) (hf:By f) (w:World) (hB:eS w b o 1 f):
 aj prog 178 #[.slice (some ⟨b,o,none⟩) 1 c] w λv w1=>v=.tuple #[.int .u64 (YQ f),.int .i64 0]/\Ch [] w w1:=by
 have S0:=St.nil [] w;refine dz Tryz.func178 rfl ?_;refine au (ax ?_);refine aa (.int .u64 0) ?_;refine aa (.int .i64 0) ?_;refine aw (ag (au (au (ax ?_))));refine bY ?_;refine aa (.int .i64 1) ?_;refine aa (.bool false) ?_;refine aw (ag (iu ?_));refine wp_skip (ag (au (ax ?_)));refine aa (.int .u64 0) ?_;refine aw (ag (au (au (ax ?_))));refine bY ?_;refine aa (.int .i64 1) ?_;refine aa (.int .i64 0) ?_;refine aw (ag (wp_block (CD 24 (au (ax ?_)))));refine aa (.bool true) ?_;refine aw (ag (au (lB ?_)));refine wp_skip (ag (au (wp_block (au (ax ?_)))));refine aa (.int .i64 0) ?_;refine aa (.int .i64 0) ?_;refine aw (ag (ax ?_));refine aa (.int .u64 0) ?_;refine aa (.int .u64 0) ?_;refine bY ?_;refine aa (.int .i64 0) ?_;refine mw (e:=5) b o 0 1 1 c .i64 0 (by omega) (by omega) (by omega) ?_;refine kC b o 1 (o+0*1) 0 f (St.mC S0 hB (by simp)) (by omega) (by omega) ?_;have zh1:=hf 0;refine lz .u64 (f 0) (IntWalk.u64_in _ (by omega)) ?_;refine gV (.int .u64 (bits .or .u64 0 (f 0))) (.int .u64 (f 0)) (congrArg _ (adQ (f 0) (by omega))) ?_;refine aa (.int .u64 (f 0)) ?_;refine aw (ik (ag (ax ?_)));refine aa (.int .i64 1) ?_;refine aa (.int .i64 1) ?_;refine aw (lA (au (ax ?_)));refine aa (.bool false) ?_;refine aw (ag (au (iu ?_)));refine wp_exit (fy (fy (qh (ag (au (ax ?_))))));refine aa (.int .u64 (f 0)) ?_;refine aa (.int .u64 (f 0)) ?_;refine aa (.int .i64 0) ?_;refine aw (ag (wp_ret ?_));refine gn rfl (fY [.tmp 2,.tmp 3] [.int .u64 (f 0),.int .i64 0] (.tuple #[.int .u64 (f 0),.int .i64 0]) ⟨cM,cM,trivial⟩) ?_;exact⟨rfl,S0.ch⟩
theorem JR (b o c:Nat) (f:Nat->Int) (hf:By f) (w:World) (hB:eS w b o 2 f):
 aj prog 178 #[.slice (some ⟨b,o,none⟩) 2 c] w λv w1=>v=.tuple #[.int .u64 (pL f),.int .i64 0]/\Ch [] w w1:=by
 have S0:=St.nil [] w;refine dz Tryz.func178 rfl ?_;refine au (ax ?_);refine aa (.int .u64 0) ?_;refine aa (.int .i64 0) ?_;refine aw (ag (au (au (ax ?_))));refine bY ?_;refine aa (.int .i64 2) ?_;refine aa (.bool false) ?_;refine aw (ag (iu ?_));refine wp_skip (ag (au (ax ?_)));refine aa (.int .u64 0) ?_;refine aw (ag (au (au (ax ?_))));refine bY ?_;refine aa (.int .i64 2) ?_;refine aa (.int .i64 0) ?_;refine aw (ag (wp_block (CD 24 (au (ax ?_)))));refine aa (.bool true) ?_;refine aw (ag (au (lB ?_)));refine wp_skip (ag (au (wp_block (au (ax ?_)))));refine aa (.int .i64 0) ?_;refine aa (.int .i64 0) ?_;refine aw (ag (ax ?_));refine aa (.int .u64 0) ?_;refine aa (.int .u64 0) ?_;refine bY ?_;refine aa (.int .i64 0) ?_;refine mw (e:=5) b o 0 2 1 c .i64 0 (by omega) (by omega) (by omega) ?_;refine kC b o 2 (o+0*1) 0 f (St.mC S0 hB (by simp)) (by omega) (by omega) ?_;have zh1:=hf 0;refine lz .u64 (f 0) (IntWalk.u64_in _ (by omega)) ?_;refine gV (.int .u64 (bits .or .u64 0 (f 0))) (.int .u64 (f 0)) (congrArg _ (adQ (f 0) (by omega))) ?_;refine aa (.int .u64 (f 0)) ?_;refine aw (ik (ag (ax ?_)));refine aa (.int .i64 1) ?_;refine aa (.int .i64 1) ?_;refine aw (lA (au (ax ?_)));refine aa (.bool true) ?_;refine aw (ag (au (lB ?_)));refine wp_skip (ag (au (wp_block (au (ax ?_)))));refine aa (.int .i64 1) ?_;refine aa (.int .i64 1) ?_;refine aw (ag (ax ?_));refine aa (.int .u64 (f 0)) ?_;refine aa (.int .u64 (u64.wrap ((f 0)*2^8))) ?_;refine bY ?_;refine aa (.int .i64 1) ?_;refine mw (e:=5) b o 1 2 1 c .i64 1 (by omega) (by omega) (by omega) ?_;refine kC b o 2 (o+1*1) 1 f (St.mC S0 hB (by simp)) (by omega) (by omega) ?_;have zh2:=hf 1;refine lz .u64 (f 1) (IntWalk.u64_in _ (by omega)) ?_;refine gV (.int .u64 (bits .or .u64 (u64.wrap ((f 0)*2^8)) (f 1))) (.int .u64 ((f 0)*256+(f 1))) (congrArg _ (tF (f 0) (f 1) (by omega) (by omega))) ?_;refine bJ ?_;refine aw (ik (ag (ax ?_)));refine aa (.int .i64 2) ?_;refine aa (.int .i64 2) ?_;refine aw (lA (au (ax ?_)));refine aa (.bool false) ?_;refine aw (ag (au (iu ?_)));refine wp_exit (fy (fy (qh (ag (au (ax ?_))))));refine bY ?_;refine bJ ?_;refine aa (.int .i64 0) ?_;refine aw (ag (wp_ret ?_));refine gn rfl (fY [.tmp 2,.tmp 3] [.int .u64 ((f 0)*256+(f 1)),.int .i64 0] (.tuple #[.int .u64 ((f 0)*256+(f 1)),.int .i64 0]) ⟨cM,cM,trivial⟩) ?_;exact⟨rfl,S0.ch⟩
theorem X_ (b o c:Nat) (f:Nat->Int) (hf:By f) (w:World) (hB:eS w b o 4 f):
 aj prog 178 #[.slice (some ⟨b,o,none⟩) 4 c] w λv w1=>v=.tuple #[.int .u64 (Ka f),.int .i64 0]/\Ch [] w w1:=by
 have S0:=St.nil [] w;refine dz Tryz.func178 rfl ?_;refine au (ax ?_);refine aa (.int .u64 0) ?_;refine aa (.int .i64 0) ?_;refine aw (ag (au (au (ax ?_))));refine bY ?_;refine aa (.int .i64 4) ?_;refine aa (.bool false) ?_;refine aw (ag (iu ?_));refine wp_skip (ag (au (ax ?_)));refine aa (.int .u64 0) ?_;refine aw (ag (au (au (ax ?_))));refine bY ?_;refine aa (.int .i64 4) ?_;refine aa (.int .i64 0) ?_;refine aw (ag (wp_block (CD 24 (au (ax ?_)))));refine aa (.bool true) ?_;refine aw (ag (au (lB ?_)));refine wp_skip (ag (au (wp_block (au (ax ?_)))));refine aa (.int .i64 0) ?_;refine aa (.int .i64 0) ?_;refine aw (ag (ax ?_));refine aa (.int .u64 0) ?_;refine aa (.int .u64 0) ?_;refine bY ?_;refine aa (.int .i64 0) ?_;refine mw (e:=5) b o 0 4 1 c .i64 0 (by omega) (by omega) (by omega) ?_;refine kC b o 4 (o+0*1) 0 f (St.mC S0 hB (by simp)) (by omega) (by omega) ?_;have zh1:=hf 0;refine lz .u64 (f 0) (IntWalk.u64_in _ (by omega)) ?_;refine gV (.int .u64 (bits .or .u64 0 (f 0))) (.int .u64 (f 0)) (congrArg _ (adQ (f 0) (by omega))) ?_;refine aa (.int .u64 (f 0)) ?_;refine aw (ik (ag (ax ?_)));refine aa (.int .i64 1) ?_;refine aa (.int .i64 1) ?_;refine aw (lA (au (ax ?_)));refine aa (.bool true) ?_;refine aw (ag (au (lB ?_)));refine wp_skip (ag (au (wp_block (au (ax ?_)))));refine aa (.int .i64 1) ?_;refine aa (.int .i64 1) ?_;refine aw (ag (ax ?_));refine aa (.int .u64 (f 0)) ?_;refine aa (.int .u64 (u64.wrap ((f 0)*2^8))) ?_;refine bY ?_;refine aa (.int .i64 1) ?_;refine mw (e:=5) b o 1 4 1 c .i64 1 (by omega) (by omega) (by omega) ?_;refine kC b o 4 (o+1*1) 1 f (St.mC S0 hB (by simp)) (by omega) (by omega) ?_;have zh2:=hf 1;refine lz .u64 (f 1) (IntWalk.u64_in _ (by omega)) ?_;refine gV (.int .u64 (bits .or .u64 (u64.wrap ((f 0)*2^8)) (f 1))) (.int .u64 ((f 0)*256+(f 1))) (congrArg _ (tF (f 0) (f 1) (by omega) (by omega))) ?_;refine bJ ?_;refine aw (ik (ag (ax ?_)));refine aa (.int .i64 2) ?_;refine aa (.int .i64 2) ?_;refine aw (lA (au (ax ?_)));refine aa (.bool true) ?_;refine aw (ag (au (lB ?_)));refine wp_skip (ag (au (wp_block (au (ax ?_)))));refine aa (.int .i64 2) ?_;refine aa (.int .i64 2) ?_;refine aw (ag (ax ?_));refine bY ?_;refine aa (.int .u64 (u64.wrap (((f 0)*256+(f 1))*2^8))) ?_;refine bY ?_;refine aa (.int .i64 2) ?_;refine mw (e:=5) b o 2 4 1 c .i64 2 (by omega) (by omega) (by omega) ?_;refine kC b o 4 (o+2*1) 2 f (St.mC S0 hB (by simp)) (by omega) (by omega) ?_;have zh3:=hf 2;refine lz .u64 (f 2) (IntWalk.u64_in _ (by omega)) ?_;refine gV (.int .u64 (bits .or .u64 (u64.wrap (((f 0)*256+(f 1))*2^8)) (f 2))) (.int .u64 (((f 0)*256+(f 1))*256+(f 2))) (congrArg _ (tF ((f 0)*256+(f 1)) (f 2) (by omega) (by omega))) ?_;refine bJ ?_;refine aw (ik (ag (ax ?_)));refine aa (.int .i64 3) ?_;refine aa (.int .i64 3) ?_;refine aw (lA (au (ax ?_)));refine aa (.bool true) ?_;refine aw (ag (au (lB ?_)));refine wp_skip (ag (au (wp_block (au (ax ?_)))));refine aa (.int .i64 3) ?_;refine aa (.int .i64 3) ?_;refine aw (ag (ax ?_));refine bY ?_;refine aa (.int .u64 (u64.wrap ((((f 0)*256+(f 1))*256+(f 2))*2^8))) ?_;refine bY ?_;refine aa (.int .i64 3) ?_;refine mw (e:=5) b o 3 4 1 c .i64 3 (by omega) (by omega) (by omega) ?_;refine kC b o 4 (o+3*1) 3 f (St.mC S0 hB (by simp)) (by omega) (by omega) ?_;have zh4:=hf 3;refine lz .u64 (f 3) (IntWalk.u64_in _ (by omega)) ?_;refine gV (.int .u64 (bits .or .u64 (u64.wrap ((((f 0)*256+(f 1))*256+(f 2))*2^8)) (f 3))) (.int .u64 ((((f 0)*256+(f 1))*256+(f 2))*256+(f 3))) (congrArg _ (tF (((f 0)*256+(f 1))*256+(f 2)) (f 3) (by omega) (by omega))) ?_;refine bJ ?_;refine aw (ik (ag (ax ?_)));refine aa (.int .i64 4) ?_;refine aa (.int .i64 4) ?_;refine aw (lA (au (ax ?_)));refine aa (.bool false) ?_;refine aw (ag (au (iu ?_)));refine wp_exit (fy (fy (qh (ag (au (ax ?_))))));refine bY ?_;refine bJ ?_;refine aa (.int .i64 0) ?_;refine aw (ag (wp_ret ?_));refine gn rfl (fY [.tmp 2,.tmp 3] [.int .u64 ((((f 0)*256+(f 1))*256+(f 2))*256+(f 3)),.int .i64 0] (.tuple #[.int .u64 ((((f 0)*256+(f 1))*256+(f 2))*256+(f 3)),.int .i64 0]) ⟨cM,cM,trivial⟩) ?_;exact⟨rfl,S0.ch⟩
theorem Rj (b o c:Nat) (f:Nat->Int) (hf:By f) (w:World) (hB:eS w b o 2 f):
 aj prog 177 #[.slice (some ⟨b,o,none⟩) 2 c] w λv w1=>v=.tuple #[.int .i64 (oV (pL f)),.int .i64 0]/\Ch [] w w1:=by
 have S0:=St.nil [] w;refine dz Tryz.func177 rfl ?_;refine au (ax ?_);refine aa (.int .i64 0) ?_;refine aa (.int .i64 0) ?_;refine aw (ag (au (au (ax ?_))));refine bY ?_;refine aa (.int .i64 2) ?_;refine aa (.bool false) ?_;refine aw (ag (iu ?_));refine wp_skip (ag (au (ax ?_)));refine bY ?_;refine dh 178 #[.slice (some ⟨b,o,none⟩) 2 c] ?_;refine(JR b o c f hf _ (St.mC S0 hB (by simp))).mono ?_;rintro _ zw1 ⟨rfl,zh2⟩;have i_:=S0.quiet zh2;have zh4:=Ri hf;refine bY ?_;refine aa (.int .u64 (pL f)) ?_;refine aa (.int .i64 0) ?_;refine aa (.int .u64 (pL f)) ?_;refine aa (.int .i64 0) ?_;refine aw (ag (au (au (ax ?_))));refine aa (.int .i64 0) ?_;refine aa (.bool false) ?_;refine aw (ag (iu ?_));refine wp_skip (ag (au (ax ?_)));refine aa (.int .u64 (pL f)) ?_;refine lz .i64 (pL f) (IntWalk.i64_in _ (by omega)) ?_;refine aa (.int .i64 (pL f)) ?_;refine aw (ag (au (au (ax ?_))));refine aa (.int .i64 (pL f)) ?_;refine aa (.bool (decide (32767<(pL f)))) ?_;refine aw (ag ?_);refine jH (decide (32767<(pL f))) ?_ ?_
 ·intro zh5;have zh6:=FC zh5;refine ax ?_;refine aa (.int .i64 (pL f)) ?_;refine lz .i64 ((pL f)-65536) (IntWalk.i64_in _ (by omega)) ?_;refine bJ ?_;refine aw (ag (au (ax ?_)));refine bY ?_;refine bJ ?_;refine aa (.int .i64 0) ?_;refine aw (ag (wp_ret ?_));refine gn rfl (fY [.tmp 2,.tmp 3] [.int .i64 ((pL f)-65536),.int .i64 0] (.tuple #[.int .i64 ((pL f)-65536),.int .i64 0]) ⟨cM,cM,trivial⟩) ?_;have ze:oV (pL f)=((pL f)-65536):=by unfold oV;split<;>omega
  exact⟨by(rw[ze])<;>rfl,i_.ch⟩
 intro Xq;have Jv:=FE Xq;refine wp_skip (ag (au (ax ?_)));refine aa (.int .i64 (pL f)) ?_;refine aa (.int .i64 (pL f)) ?_;refine aa (.int .i64 0) ?_;refine aw (ag (wp_ret ?_));refine gn rfl (fY [.tmp 2,.tmp 3] [.int .i64 (pL f),.int .i64 0] (.tuple #[.int .i64 (pL f),.int .i64 0]) ⟨cM,cM,trivial⟩) ?_;have ze:oV (pL f)=(pL f):=by unfold oV;split<;>omega
 exact⟨by(rw[ze])<;>rfl,i_.ch⟩
end Go.Proofs.YtggfpcggakghnaaGreatDoor
namespace Go.Proofs.YtggfpcggakghnaaGreatDoor
open Go Go.RowKit Go.BigFrame Sx Vx
def adT (t:Sd.Timer):List V:=[.int .i64 t.n,.int .i64 t.most]
def Ya:List V->Option Sd.Timer
 |[.int .i64 x0,.int .i64 x1]=>some ⟨x0,x1⟩
 |_=>none
theorem JS {l:List V} {t:Sd.Timer} (h:Ya l=some t):l=adT t:=by
 unfold Ya at h;split at h
 ·obtain rfl:=Option.some.inj h;rfl
 ·cases h
def x4L (t:Sd.X4):List V:=[.int .i64 t.a,.int .i64 t.b,.int .i64 t.c,.int .i64 t.d]
def x4R:List V->Option Sd.X4
 |[.int .i64 x0,.int .i64 x1,.int .i64 x2,.int .i64 x3]=>some ⟨x0,x1,x2,x3⟩
 |_=>none
theorem Rk {l:List V} {t:Sd.X4} (h:x4R l=some t):l=x4L t:=by
 unfold x4R at h;split at h
 ·obtain rfl:=Option.some.inj h;rfl
 ·cases h
def oF (t:Sd.Label):List V:=[.int .i64 t.mD,.int .i64 t.source,.int .i64 t.seq]
def Rl:List V->Option Sd.Label
 |[.int .i64 x0,.int .i64 x1,.int .i64 x2]=>some ⟨x0,x1,x2⟩
 |_=>none
theorem A6 {l:List V} {t:Sd.Label} (h:Rl l=some t):l=oF t:=by
 unfold Rl at h;split at h
 ·obtain rfl:=Option.some.inj h;rfl
 ·cases h
def cI (t:Sd.Tok):List V:=[.int .i64 t.holder,.int .i64 t.epoch,.int .i64 t.offer,.int .i64 t.oa.n,.int .i64 t.oa.most,.int .i64 t.la.n,.int .i64 t.la.most,.bool t.bad]
def kK:List V->Option Sd.Tok
 |[.int .i64 x0,.int .i64 x1,.int .i64 x2,.int .i64 x3,.int .i64 x4,.int .i64 x5,.int .i64 x6,.bool x7]=>some ⟨x0,x1,x2,⟨x3,x4⟩,⟨x5,x6⟩,x7⟩
 |_=>none
theorem fh {l:List V} {t:Sd.Tok} (h:kK l=some t):l=cI t:=by
 unfold kK at h;split at h
 ·obtain rfl:=Option.some.inj h;rfl
 ·cases h
def rK (t:Sd.Point):List V:=[.int .i64 t.cls,.int .i64 t.bx.a,.int .i64 t.bx.b,.int .i64 t.bx.c,.int .i64 t.bx.d,.int .i64 t.now.a,.int .i64 t.now.b,.int .i64 t.now.c,.int .i64 t.now.d,.int .i64 t.cX.mD,.int .i64 t.cX.source,.int .i64 t.cX.seq]
def ptR:List V->Option Sd.Point
 |[.int .i64 x0,.int .i64 x1,.int .i64 x2,.int .i64 x3,.int .i64 x4,.int .i64 x5,.int .i64 x6,.int .i64 x7,.int .i64 x8,.int .i64 x9,.int .i64 x10,.int .i64 x11]=>some ⟨x0,⟨x1,x2,x3,x4⟩,⟨x5,x6,x7,x8⟩,⟨x9,x10,x11⟩⟩
 |_=>none
theorem GS {l:List V} {t:Sd.Point} (h:ptR l=some t):l=rK t:=by
 unfold ptR at h;split at h
 ·obtain rfl:=Option.some.inj h;rfl
 ·cases h
def cw (t:Sd.bW):List V:=[.int .i64 t.kind,.int .i64 t.seq,.int .i64 t.role,.int .i64 t.bx,.int .i64 t.epoch,.int .i64 t.mode,.int .i64 t.cls,.bool t.now,.int .i64 t.x.a,.int .i64 t.x.b,.int .i64 t.x.c,.int .i64 t.x.d]
def DU:List V->Option Sd.bW
 |[.int .i64 x0,.int .i64 x1,.int .i64 x2,.int .i64 x3,.int .i64 x4,.int .i64 x5,.int .i64 x6,.bool x7,.int .i64 x8,.int .i64 x9,.int .i64 x10,.int .i64 x11]=>some ⟨x0,x1,x2,x3,x4,x5,x6,x7,⟨x8,x9,x10,x11⟩⟩
 |_=>none
theorem n8 {l:List V} {t:Sd.bW} (h:DU l=some t):l=cw t:=by
 unfold DU at h;split at h
 ·obtain rfl:=Option.some.inj h;rfl
 ·cases h
theorem DV (ids:List Nat) (t:Sd.bW):den ids (.agg (cw t))=.agg (XI t):=rfl
def ri (t:Sd.dS):List V:=[.bool t.valid,.int .i64 t.x.a,.int .i64 t.x.b,.int .i64 t.x.c,.int .i64 t.x.d,.bool t.FQ]
def M3:List V->Option Sd.dS
 |[.bool x0,.int .i64 x1,.int .i64 x2,.int .i64 x3,.int .i64 x4,.bool x5]=>some ⟨x0,⟨x1,x2,x3,x4⟩,x5⟩
 |_=>none
theorem vi {l:List V} {t:Sd.dS} (h:M3 l=some t):l=ri t:=by
 unfold M3 at h;split at h
 ·obtain rfl:=Option.some.inj h;rfl
 ·cases h
def aie (t:Sd.cN):List V:=[.bool t.any,.int .i64 t.high,.int .u64 t.seen]
def adU:List V->Option Sd.cN
 |[.bool x0,.int .i64 x1,.int .u64 x2]=>some ⟨x0,x1,x2⟩
 |_=>none
theorem Yb {l:List V} {t:Sd.cN} (h:adU l=some t):l=aie t:=by
 unfold adU at h;split at h
 ·obtain rfl:=Option.some.inj h;rfl
 ·cases h
def Rn (t:Sd.Ask):List V:=[.int .i64 t.source,.int .i64 t.aV,.int .i64 t.gU.n,.int .i64 t.gU.most]
def Yc:List V->Option Sd.Ask
 |[.int .i64 x0,.int .i64 x1,.int .i64 x2,.int .i64 x3]=>some ⟨x0,x1,⟨x2,x3⟩⟩
 |_=>none
theorem Yd {l:List V} {t:Sd.Ask} (h:Yc l=some t):l=Rn t:=by
 unfold Yc at h;split at h
 ·obtain rfl:=Option.some.inj h;rfl
 ·cases h
def Ro:QF:=⟨78,λargs _=>match args with
 |[.int .i64 n,.int .i64 m]=>some ((-9223372036854775808<=n/\n<=9223372036854775807)/\(-9223372036854775808<=m/\m<=9223372036854775807),.int .i64 (Sd.sat n m))
 |_=>none⟩
theorem Rp (gl:Nat->Option Nat):Ro.Ok prog gl:=by
 intro args bl p_ v_ h hp ids w _ _;unfold Ro at h;dsimp only at h;split at h
 ·rename_i n m;simp only[Option.some.injEq,Prod.mk.injEq]at h;obtain⟨rfl,rfl⟩:=h;obtain⟨h_n,h_m⟩:=hp;exact told (alG n m h_n h_m w)
 ·cases h
def A7:QF:=⟨183,λargs _=>match args with
 |[.int .i64 n,.int .i64 lo,.int .i64 hi]=>some (True,.int .i64 (Sd.oM n lo hi))
 |_=>none⟩
theorem GU (gl:Nat->Option Nat):A7.Ok prog gl:=by
 intro args bl p_ v_ h hp ids w _ _;unfold A7 at h;dsimp only at h;split at h
 ·rename_i n lo hi;simp only[Option.some.injEq,Prod.mk.injEq]at h;obtain⟨rfl,rfl⟩:=h;exact told (QW n lo hi w)
 ·cases h
def wR:QF:=⟨142,λargs _=>match args with
 |[.int .i64 nw,.int .i64 t,.int .i64 b]=>some ((-9223372036854775808<=nw/\nw<=9223372036854775807)/\(-9223372036854775808<=t/\t<=9223372036854775807)/\(-9223372036854775808<=b/\b<=9223372036854775807),.int .i64 (Sd.jf nw t b))
 |_=>none⟩
theorem DW (gl:Nat->Option Nat):wR.Ok prog gl:=by
 intro args bl p_ v_ h hp ids w _ _;unfold wR at h;dsimp only at h;split at h
 ·rename_i nw t b;simp only[Option.some.injEq,Prod.mk.injEq]at h;obtain⟨rfl,rfl⟩:=h;obtain⟨ahR,h_t,h_b⟩:=hp;exact told (JH nw t b ahR h_t h_b w)
 ·cases h
def Rq:QF:=⟨189,λargs _=>match args with
 |[.int .i64 s,.int .i64 i]=>some (True,.bool (Sd.has s i))
 |_=>none⟩
theorem Rr (gl:Nat->Option Nat):Rq.Ok prog gl:=by
 intro args bl p_ v_ h hp ids w _ _;unfold Rq at h;dsimp only at h;split at h
 ·rename_i s i;simp only[Option.some.injEq,Prod.mk.injEq]at h;obtain⟨rfl,rfl⟩:=h;exact told (ahS s i w)
 ·cases h
def A8:QF:=⟨179,λargs _=>match args with
 |[.int .i64 m]=>some ((-9223372036854775808<=m/\m<=9223372036854775807),.agg (adT (Sd.Timer.start m)))
 |_=>none⟩
theorem GV (gl:Nat->Option Nat):A8.Ok prog gl:=by
 intro args bl p_ v_ h hp ids w _ _;unfold A8 at h;dsimp only at h;split at h
 ·rename_i m;simp only[Option.some.injEq,Prod.mk.injEq]at h;obtain⟨rfl,rfl⟩:=h;have h_m:=hp;exact told (ado m h_m w)
 ·cases h
def GW:QF:=⟨138,λargs _=>match args with
 |[.agg oR]=>(match Ya oR with|some t=>some ((-9223372036854775808<=t.n/\t.n<=9223372036854775807)/\(-9223372036854775808<=t.most/\t.most<=9223372036854775807),.agg (adT (Sd.Timer.step t)))|none=>none)
 |_=>none⟩
theorem M4 (gl:Nat->Option Nat):GW.Ok prog gl:=by
 intro args bl p_ v_ h hp ids w _ _;unfold GW at h;dsimp only at h;split at h
 ·rename_i oR;split at h
  ·rename_i t yP;simp only[Option.some.injEq,Prod.mk.injEq]at h;obtain⟨rfl,rfl⟩:=h;obtain rfl:=JS yP;obtain⟨abu,DB⟩:=hp;exact told (abt t abu DB w)
  ·cases h
 ·cases h
def Rs:QF:=⟨139,λargs _=>match args with
 |[.agg oR]=>(match Ya oR with|some t=>some (True,.bool (Sd.Timer.due t))|none=>none)
 |_=>none⟩
theorem Rt (gl:Nat->Option Nat):Rs.Ok prog gl:=by
 intro args bl p_ v_ h hp ids w _ _;unfold Rs at h;dsimp only at h;split at h
 ·rename_i oR;split at h
  ·rename_i t yP;simp only[Option.some.injEq,Prod.mk.injEq]at h;obtain⟨rfl,rfl⟩:=h;obtain rfl:=JS yP;exact told (ahT t w)
  ·cases h
 ·cases h
def A9:QF:=⟨130,λargs _=>match args with
 |[.agg oR,.int .i64 o]=>(match kK oR with|some t=>some ((-9223372036854775808<=t.epoch/\t.epoch<=9223372036854775807),.az [.agg (cI ((Sd.Tok.bz t o).1)),.int .i64 ((Sd.Tok.bz t o).2)])|none=>none)
 |_=>none⟩
theorem GY (gl:Nat->Option Nat):A9.Ok prog gl:=by
 intro args bl p_ v_ h hp ids w _ _;unfold A9 at h;dsimp only at h;split at h
 ·rename_i oR o;split at h
  ·rename_i t yP;simp only[Option.some.injEq,Prod.mk.injEq]at h;obtain⟨rfl,rfl⟩:=h;obtain rfl:=fh yP;have fw:=hp;exact told (adq t o fw w)
  ·cases h
 ·cases h
def A_:QF:=⟨84,λargs _=>match args with
 |[.agg oR]=>(match kK oR with|some t=>some ((-9223372036854775808<=t.epoch/\t.epoch<=9223372036854775807),.agg (cI (Sd.Tok.dO t)))|none=>none)
 |_=>none⟩
theorem GZ (gl:Nat->Option Nat):A_.Ok prog gl:=by
 intro args bl p_ v_ h hp ids w _ _;unfold A_ at h;dsimp only at h;split at h
 ·rename_i oR;split at h
  ·rename_i t yP;simp only[Option.some.injEq,Prod.mk.injEq]at h;obtain⟨rfl,rfl⟩:=h;obtain rfl:=fh yP;have fw:=hp;exact told (adr t fw w)
  ·cases h
 ·cases h
def G0:QF:=⟨137,λargs _=>match args with
 |[.agg oR]=>(match kK oR with|some t=>some (True,.bool (decide (0<=t.offer)))|none=>none)
 |_=>none⟩
theorem M5 (gl:Nat->Option Nat):G0.Ok prog gl:=by
 intro args bl p_ v_ h hp ids w _ _;unfold G0 at h;dsimp only at h;split at h
 ·rename_i oR;split at h
  ·rename_i t yP;simp only[Option.some.injEq,Prod.mk.injEq]at h;obtain⟨rfl,rfl⟩:=h;obtain rfl:=fh yP;exact told (open_ t w)
  ·cases h
 ·cases h
def G1:QF:=⟨140,λargs _=>match args with
 |[.agg oR]=>(match kK oR with|some t=>some (True,.agg (cI (Sd.Tok.bG t)))|none=>none)
 |_=>none⟩
theorem M6 (gl:Nat->Option Nat):G1.Ok prog gl:=by
 intro args bl p_ v_ h hp ids w _ _;unfold G1 at h;dsimp only at h;split at h
 ·rename_i oR;split at h
  ·rename_i t yP;simp only[Option.some.injEq,Prod.mk.injEq]at h;obtain⟨rfl,rfl⟩:=h;obtain rfl:=fh yP;exact told (QZ t w)
  ·cases h
 ·cases h
def G2:QF:=⟨217,λargs _=>match args with
 |[.agg [.j8 p ka kn kc],.int .i64 s]=>some (True,.int .i64 (Sd.placeOf p s))
 |_=>none⟩
theorem M7 (gl:Nat->Option Nat):G2.Ok prog gl:=by
 intro args bl p_ v_ h hp ids w _ _;unfold G2 at h;dsimp only at h;split at h
 ·rename_i p ka kn kc s;simp only[Option.some.injEq,Prod.mk.injEq]at h;obtain⟨rfl,rfl⟩:=h;exact told (ahU p ka kn kc s w)
 ·cases h
def wS:QF:=⟨215,λargs _=>match args with
 |[.agg [.j8 p ka kn kc],.int .i64 a,.int .i64 b]=>some (True,.bool (Sd.cu p a b))
 |_=>none⟩
theorem DX (gl:Nat->Option Nat):wS.Ok prog gl:=by
 intro args bl p_ v_ h hp ids w _ _;unfold wS at h;dsimp only at h;split at h
 ·rename_i p ka kn kc a b;simp only[Option.some.injEq,Prod.mk.injEq]at h;obtain⟨rfl,rfl⟩:=h;exact told (XP p ka kn kc a b w)
 ·cases h
def Ba:QF:=⟨144,λargs _=>match args with
 |[.agg [.j8 p ka kn kc],.int .i64 s,.int .i64 r]=>some (True,.bool (Sd.fm p s r))
 |_=>none⟩
theorem G3 (gl:Nat->Option Nat):Ba.Ok prog gl:=by
 intro args bl p_ v_ h hp ids w _ _;unfold Ba at h;dsimp only at h;split at h
 ·rename_i p ka kn kc s r;simp only[Option.some.injEq,Prod.mk.injEq]at h;obtain⟨rfl,rfl⟩:=h;exact told (adv p ka kn kc s r w)
 ·cases h
def G4:QF:=⟨182,λargs _=>match args with
 |[.agg [.j8 p ka kn kc],.int .i64 a,.int .i64 b]=>some (True,.bool (Sd.goes p a b))
 |_=>none⟩
theorem M8 (gl:Nat->Option Nat):G4.Ok prog gl:=by
 intro args bl p_ v_ h hp ids w _ _;unfold G4 at h;dsimp only at h;split at h
 ·rename_i p ka kn kc a b;simp only[Option.some.injEq,Prod.mk.injEq]at h;obtain⟨rfl,rfl⟩:=h;exact told (ahV p ka kn kc a b w)
 ·cases h
def Ru:QF:=⟨181,λargs _=>match args with
 |[.agg [.j8 p ka kn kc],.int .i64 m,.int .i64 r,.int .i64 c]=>some (True,.bool (Sd.may p m r c))
 |_=>none⟩
theorem Rv (gl:Nat->Option Nat):Ru.Ok prog gl:=by
 intro args bl p_ v_ h hp ids w _ _;unfold Ru at h;dsimp only at h;split at h
 ·rename_i p ka kn kc m r c;simp only[Option.some.injEq,Prod.mk.injEq]at h;obtain⟨rfl,rfl⟩:=h;exact told (alJ p ka kn kc m r c w)
 ·cases h
def G5:QF:=⟨30,λargs _=>match args with
 |[.agg [.j8 p ka kn kc]]=>some (True,.agg (cI (Sd.Tok.new p)))
 |_=>none⟩
theorem M9 (gl:Nat->Option Nat):G5.Ok prog gl:=by
 intro args bl p_ v_ h hp ids w _ _;unfold G5 at h;dsimp only at h;split at h
 ·rename_i p ka kn kc;simp only[Option.some.injEq,Prod.mk.injEq]at h;obtain⟨rfl,rfl⟩:=h;exact told (abv p ka kn kc w)
 ·cases h
def Rw:QF:=⟨199,λargs _=>match args with
 |[.agg oR,.int .i64 f,.int .i64 e]=>(match kK oR with|some t=>some ((-9223372036854775808<=t.epoch/\t.epoch<=9223372036854775807),.az [.agg (cI ((Sd.Tok.accept t f e).1)),.int .i64 ((Sd.Tok.accept t f e).2)])|none=>none)
 |_=>none⟩
theorem Rx (gl:Nat->Option Nat):Rw.Ok prog gl:=by
 intro args bl p_ v_ h hp ids w _ _;unfold Rw at h;dsimp only at h;split at h
 ·rename_i oR f e;split at h
  ·rename_i t yP;simp only[Option.some.injEq,Prod.mk.injEq]at h;obtain⟨rfl,rfl⟩:=h;obtain rfl:=fh yP;have fw:=hp;exact told (alK t f e fw w)
  ·cases h
 ·cases h
def G6:QF:=⟨200,λargs _=>match args with
 |[.agg oR,.int .i64 f]=>(match kK oR with|some t=>some (True,.az [.agg (cI ((Sd.Tok.fJ t f).1)),.int .i64 ((Sd.Tok.fJ t f).2)])|none=>none)
 |_=>none⟩
theorem M_ (gl:Nat->Option Nat):G6.Ok prog gl:=by
 intro args bl p_ v_ h hp ids w _ _;unfold G6 at h;dsimp only at h;split at h
 ·rename_i oR f;split at h
  ·rename_i t yP;simp only[Option.some.injEq,Prod.mk.injEq]at h;obtain⟨rfl,rfl⟩:=h;obtain rfl:=fh yP;exact told (ahW t f w)
  ·cases h
 ·cases h
def Bb:QF:=⟨136,λargs _=>match args with
 |[.agg oR,.int .i64 s]=>(match kK oR with|some t=>some (True,.az [.agg (cI ((Sd.Tok.drop t s).1)),.bool ((Sd.Tok.drop t s).2)])|none=>none)
 |_=>none⟩
theorem G7 (gl:Nat->Option Nat):Bb.Ok prog gl:=by
 intro args bl p_ v_ h hp ids w _ _;unfold Bb at h;dsimp only at h;split at h
 ·rename_i oR s;split at h
  ·rename_i t yP;simp only[Option.some.injEq,Prod.mk.injEq]at h;obtain⟨rfl,rfl⟩:=h;obtain rfl:=fh yP;exact told (adz t s w)
  ·cases h
 ·cases h
def Bc:QF:=⟨92,λargs _=>match args with
 |[.agg oR]=>(match kK oR with|some t=>some ((-9223372036854775808<=t.oa.n/\t.oa.n<=9223372036854775807)/\(-9223372036854775808<=t.oa.most/\t.oa.most<=9223372036854775807),.az [.agg (cI ((Sd.Tok.tick t).1)),.int .i64 ((Sd.Tok.tick t).2)])|none=>none)
 |_=>none⟩
theorem G8 (gl:Nat->Option Nat):Bc.Ok prog gl:=by
 intro args bl p_ v_ h hp ids w _ _;unfold Bc at h;dsimp only at h;split at h
 ·rename_i oR;split at h
  ·rename_i t yP;simp only[Option.some.injEq,Prod.mk.injEq]at h;obtain⟨rfl,rfl⟩:=h;obtain rfl:=fh yP;obtain⟨DD,um⟩:=hp;exact told (adA t DD um w)
  ·cases h
 ·cases h
def G9:QF:=⟨198,λargs _=>match args with
 |[.agg [.j8 p ka kn kc],.agg oR,.int .i64 f,.int .i64 o,.bool th]=>(match kK oR with|some t=>some ((Sd.cK p),.az [.agg (cI ((Sd.Tok.make p t f o th).1)),.int .i64 ((Sd.Tok.make p t f o th).2)])|none=>none)
 |_=>none⟩
theorem Na (gl:Nat->Option Nat):G9.Ok prog gl:=by
 intro args bl p_ v_ h hp ids w _ _;unfold G9 at h;dsimp only at h;split at h
 ·rename_i p ka kn kc oR f o th;split at h
  ·rename_i t yP;simp only[Option.some.injEq,Prod.mk.injEq]at h;obtain⟨rfl,rfl⟩:=h;obtain rfl:=fh yP;have hp:=hp;exact told (ahX p ka kn kc t f o th hp w)
  ·cases h
 ·cases h
def G_:QF:=⟨129,λargs _=>match args with
 |[.agg [.j8 p ka kn kc],.agg DY,.int .i64 c,.agg l_y,.agg l_b]=>(match ptR DY with|some pt=>(match x4R l_y with|some y=>(match Rl l_b with|some b=>some ((Sd.cK p),.agg (rK (Sd.Point.set p pt c y b)))|none=>none)|none=>none)|none=>none)
 |_=>none⟩
theorem Nb (gl:Nat->Option Nat):G_.Ok prog gl:=by
 intro args bl p_ v_ h hp ids w _ _;unfold G_ at h;dsimp only at h;split at h
 ·rename_i p ka kn kc DY c l_y l_b;split at h
  ·rename_i pt Ry;split at h
   ·rename_i y e_y;split at h
    ·rename_i b e_b;simp only[Option.some.injEq,Prod.mk.injEq]at h;obtain⟨rfl,rfl⟩:=h;obtain rfl:=GS Ry;obtain rfl:=Rk e_y;obtain rfl:=A6 e_b;have hp:=hp;exact told (ahY p ka kn kc pt c y b hp w)
    ·cases h
   ·cases h
  ·cases h
 ·cases h
def Ha:QF:=⟨134,λargs _=>match args with
 |[.agg DY,.agg l_b]=>(match ptR DY with|some pt=>(match Rl l_b with|some b=>some (True,.agg (rK (Sd.Point.hold pt b)))|none=>none)|none=>none)
 |_=>none⟩
theorem Nc (gl:Nat->Option Nat):Ha.Ok prog gl:=by
 intro args bl p_ v_ h hp ids w _ _;unfold Ha at h;dsimp only at h;split at h
 ·rename_i DY l_b;split at h
  ·rename_i pt Ry;split at h
   ·rename_i b e_b;simp only[Option.some.injEq,Prod.mk.injEq]at h;obtain⟨rfl,rfl⟩:=h;obtain rfl:=GS Ry;obtain rfl:=A6 e_b;exact told (ahZ pt b w)
   ·cases h
  ·cases h
 ·cases h
def wT:QF:=⟨126,λargs _=>match args with
 |[.int .i64 m,.agg l_y]=>(match x4R l_y with|some y=>some ((0<=m/\m<=1000),.bool (Sd.O6 m y))|none=>none)
 |_=>none⟩
theorem DZ (gl:Nat->Option Nat):wT.Ok prog gl:=by
 intro args bl p_ v_ h hp ids w _ _;unfold wT at h;dsimp only at h;split at h
 ·rename_i m l_y;split at h
  ·rename_i y e_y;simp only[Option.some.injEq,Prod.mk.injEq]at h;obtain⟨rfl,rfl⟩:=h;obtain rfl:=Rk e_y;have hm:=hp;exact told (JK m y hm w)
  ·cases h
 ·cases h
def Rz:QF:=⟨80,λargs _=>match args with
 |[.agg [.j8 p ka kn kc],.int .i64 r,.agg l_s]=>(match M3 l_s with|some s=>some ((Sd.cK p)/\(-9223372036854775808<=r/\r<=9223372036854775807),.az [.int .i64 ((Sd.kS p r s).1),.bool ((Sd.kS p r s).2)])|none=>none)
 |_=>none⟩
theorem RA (gl:Nat->Option Nat):Rz.Ok prog gl:=by
 intro args bl p_ v_ h hp ids w _ _;unfold Rz at h;dsimp only at h;split at h
 ·rename_i p ka kn kc r l_s;split at h
  ·rename_i s e_s;simp only[Option.some.injEq,Prod.mk.injEq]at h;obtain⟨rfl,rfl⟩:=h;obtain rfl:=vi e_s;obtain⟨hp,h_r⟩:=hp;exact told (alL p ka kn kc r s hp h_r w)
  ·cases h
 ·cases h
def Be:QF:=⟨95,λargs _=>match args with
 |[.agg [.j8 p ka kn kc],.agg DY]=>(match ptR DY with|some pt=>some ((Sd.cK p)/\(-9223372036854775808<=pt.bx.a/\pt.bx.a<=9223372036854775807)/\(-9223372036854775808<=pt.bx.b/\pt.bx.b<=9223372036854775807)/\(-9223372036854775808<=pt.bx.c/\pt.bx.c<=9223372036854775807)/\(-9223372036854775808<=pt.bx.d/\pt.bx.d<=9223372036854775807)/\(-9223372036854775808<=pt.now.a/\pt.now.a<=9223372036854775807)/\(-9223372036854775808<=pt.now.b/\pt.now.b<=9223372036854775807)/\(-9223372036854775808<=pt.now.c/\pt.now.c<=9223372036854775807)/\(-9223372036854775808<=pt.now.d/\pt.now.d<=9223372036854775807),.agg (rK (Sd.Point.step p pt)))|none=>none)
 |_=>none⟩
theorem Hb (gl:Nat->Option Nat):Be.Ok prog gl:=by
 intro args bl p_ v_ h hp ids w _ _;unfold Be at h;dsimp only at h;split at h
 ·rename_i p ka kn kc DY;split at h
  ·rename_i pt Ry;simp only[Option.some.injEq,Prod.mk.injEq]at h;obtain⟨rfl,rfl⟩:=h;obtain rfl:=GS Ry;obtain⟨hp,pz,pB,pC,pD,pE,pF,pG,pH⟩:=hp;exact told (adE p ka kn kc pt hp pz pB pC pD pE pF pG pH w)
  ·cases h
 ·cases h
def QV:List QF:=[Ro,A7,wR,Rq,A8,GW,Rs,A9,A_,G0,G1,G2,wS,Ba,G4,Ru,G5,Rw,G6,Bb,Bc,G9,G_,Ha,wT,Rz,Be]
theorem uq (gl:Nat->Option Nat):aZ prog gl QV:=(aZ.cons (Rp gl) (aZ.cons (GU gl) (aZ.cons (DW gl) (aZ.cons (Rr gl) (aZ.cons (GV gl) (aZ.cons (M4 gl) (aZ.cons (Rt gl) (aZ.cons (GY gl) (aZ.cons (GZ gl) (aZ.cons (M5 gl) (aZ.cons (M6 gl) (aZ.cons (M7 gl) (aZ.cons (DX gl) (aZ.cons (G3 gl) (aZ.cons (M8 gl) (aZ.cons (Rv gl) (aZ.cons (M9 gl) (aZ.cons (Rx gl) (aZ.cons (M_ gl) (aZ.cons (G7 gl) (aZ.cons (G8 gl) (aZ.cons (Na gl) (aZ.cons (Nb gl) (aZ.cons (Nc gl) (aZ.cons (DZ gl) (aZ.cons (RA gl) (aZ.cons (Hb gl) aZ.nil)))))))))))))))))))))))))))
def atB (args:List V) (bl:List VB):Option (Nat×Nat×Nat×Nat×(Nat->Int)):=match args with
 |[.sl i off n c]=>(match bl[i]?with
  |some b=>(match CN b.c off n with
   |some [.dC .u8 m f]=>some (i,off,n,c,f)
   |_=>none)
  |none=>none)
 |_=>none
theorem RC {args:List V} {bl:List VB} {i off n c:Nat} {f:Nat->Int} (h:atB args bl=some (i,off,n,c,f)) {ids:List Nat} {w:World} (hm:Mem ids bl w):args=[.sl i off n c]/\eS w (ids.getD i 0) off n f:=by
 unfold atB at h;split at h
 ·split at h
  ·rename_i i' ab_ n' c' b hb;split at h
   ·rename_i m g hg;simp only[Option.some.injEq,Prod.mk.injEq]at h;obtain⟨rfl,rfl,rfl,rfl,rfl⟩:=h;refine⟨rfl,?_⟩;obtain⟨h1,h2,h3⟩:=km (ids:=ids) hg;have ba:=hm.2 _ b hb;intro j hj;rw[cell_of ba];have e:(ab ids [V.dC .u8 m g])=(List.range m).map λj=>Value.int .u8 (g j):=by simp[ab,cl]
    rw[e]at h1 h2;simp at h2;have h4:=congrArg (λl=>l[j]?) h1;simp only[List.getElem?_take,List.getElem?_drop,List.getElem?_map]at h4;rw[if_pos hj]at h4;have h5:(List.range m)[j]?=some j:=by rw[List.getElem?_range (by omega)]
    rw[h5]at h4;simpa using h4
   ·cases h
  ·cases h
 ·cases h
def Hc:QF:=⟨178,λargs bl=>match atB args bl with
 |some (i,off,n,c,f)=>bif Nat.beq n 1 then some (By f,.az [.int .u64 (YQ f),.int .i64 0])else bif Nat.beq n 2 then some (By f,.az [.int .u64 (pL f),.int .i64 0])else bif Nat.beq n 4 then some (By f,.az [.int .u64 (Ka f),.int .i64 0])else none
 |none=>none⟩
def Bg:QF:=⟨177,λargs bl=>match atB args bl with
 |some (i,off,n,c,f)=>bif Nat.beq n 2 then some (By f,.az [.int .i64 (oV (pL f)),.int .i64 0])else none
 |none=>none⟩
theorem Nd (gl:Nat->Option Nat):Hc.Ok prog gl:=by
 intro args bl p v h hp ids w hg hm;unfold Hc at h;dsimp only at h;split at h
 ·rename_i i off n c f hA;obtain⟨rfl,h8⟩:=RC hA hm;cases h1:Nat.beq n 1 with
  |true=>
   rw[h1]at h;obtain rfl:=Nat.eq_of_beq_eq_true h1;simp only[cond_true,Option.some.injEq,Prod.mk.injEq]at h;obtain⟨rfl,rfl⟩:=h;exact X9 _ _ _ f hp w h8
  |false=>
   cases h2:Nat.beq n 2 with
   |true=>
    rw[h1,h2]at h;obtain rfl:=Nat.eq_of_beq_eq_true h2;simp only[cond_true,cond_false,Option.some.injEq,Prod.mk.injEq]at h;obtain⟨rfl,rfl⟩:=h;exact JR _ _ _ f hp w h8
   |false=>
    cases h4:Nat.beq n 4 with
    |true=>
     rw[h1,h2,h4]at h;obtain rfl:=Nat.eq_of_beq_eq_true h4;simp only[cond_true,cond_false,Option.some.injEq,Prod.mk.injEq]at h;obtain⟨rfl,rfl⟩:=h;exact X_ _ _ _ f hp w h8
    |false=>rw[h1,h2,h4]at h;cases h
 ·cases h
theorem He (gl:Nat->Option Nat):Bg.Ok prog gl:=by
 intro args bl p v h hp ids w hg hm;unfold Bg at h;dsimp only at h;split at h
 ·rename_i i off n c f hA;obtain⟨rfl,h8⟩:=RC hA hm;cases h2:Nat.beq n 2 with
  |true=>
   rw[h2]at h;obtain rfl:=Nat.eq_of_beq_eq_true h2;simp only[cond_true,Option.some.injEq,Prod.mk.injEq]at h;obtain⟨rfl,rfl⟩:=h;exact Rj _ _ _ f hp w h8
  |false=>rw[h2]at h;cases h
 ·cases h
def LTk:List QF:=[Hc,Bg]
def Cx:Nat->Option Nat:=λ_=>none
structure Fd where
 sz:Nat
 sg:Bool
 low:Int
 high:Int
 at_:Nat
 b:Bool
def Fd.val (d:Fd) (g:Nat->Int):Int:=bif d.sg then oV (pL g)else bif Nat.beq d.sz 1 then i64.wrap (YQ g)else bif Nat.beq d.sz 2 then i64.wrap (pL g)else i64.wrap (Ka g)
def Fd.up (d:Fd) (g:Nat->Int) (m:List V):List V:=j9 m d.at_ (bif d.b then .bool (d.val g==1)else .int .i64 (d.val g))
def pM:V:=.az [.agg [.int .i64 0,.int .i64 0,.int .i64 0,.int .i64 0,.int .i64 0,.int .i64 0,.int .i64 0,.bool false,.int .i64 0,.int .i64 0,.int .i64 0,.int .i64 0],.int .i64 13]
def Nf (n:Nat) (f:Nat->Int) (X:V->Prop):List Fd->Nat->List V->Prop
 |[],off,m=>bif Nat.beq (n-off) 0 then X (.az [.agg m,.int .i64 0])else X pM
 |d::l,off,m=>bif Nat.blt (n-off) d.sz then X pM else
  By (λj=>f (off+j))/\cond (decide (d.val (λj=>f (off+j))<d.low)) (X pM) (cond (decide (d.val (λj=>f (off+j))>d.high)) (X pM) (Nf n f X l (off+d.sz) (d.up (λj=>f (off+j)) m)))
def ig:Fd:=⟨4,false,0,4294967295,1,false⟩
def oS:Fd:=⟨1,false,0,3,2,false⟩
def rN:Fd:=⟨1,false,0,4,3,false⟩
def gf:Fd:=⟨2,false,0,65535,4,false⟩
def rj:Fd:=⟨1,false,0,4,5,false⟩
def yQ:Fd:=⟨1,false,1,3,6,false⟩
def D0:Fd:=⟨1,false,0,1,7,true⟩
def fX (i:Nat):Fd:=⟨2,true,-32768,32767,8+i,false⟩
def k9 (f:Nat->Int):Int:=i64.wrap (f 0)
def m0 (f:Nat->Int):List V:=[.int .i64 (k9 f),.int .i64 0,.int .i64 0,.int .i64 0,.int .i64 0,.int .i64 0,.int .i64 0,.bool false,.int .i64 0,.int .i64 0,.int .i64 0,.int .i64 0]
def uu:Nat->List V
 |0=>[]
 |n+1=>.bool false::.bool false::.bool false::.bool false::.bool false::uu n
def gI (n:Nat) (f:Nat->Int) (X:V->Prop):Prop:=
 let T (l:List Fd):Prop:=Nf n f X l 1 (m0 f)
 let T1:=T [oS]
 let T3:=T [ig]
 cond (k9 f==1) T1 (cond (k9 f==2) T1 (cond (k9 f==3) T3 (cond (k9 f==4) T3 (cond (k9 f==8) T3 (cond (k9 f==9) T3 (cond (k9 f==5) (T [ig,D0]) (cond (k9 f==6) (T [ig,rN]) (cond (k9 f==7) (T [ig,gf])
  (cond (k9 f==10) (T [ig,gf,rj]) (cond (k9 f==11) (∀(c:Nat) (u:List Value),7<=c->T [ig,gf,yQ,fX 0,fX 1,fX 2,fX 3]) (X pM)))))))))))
end Go.Proofs.YtggfpcggakghnaaGreatDoor
