/- Part 6 of the proof. -/
import Derived.Test.YtggfpcggakghnaaGreatDoorS5
set_option linter.all false
set_option maxRecDepth 100000
set_option maxHeartbeats 4000000
open Go.Proofs.Tryz
open Go.IntKind (u8 u16 u32 u64 i64)
namespace Go.Proofs.YtggfpcggakghnaaGreatDoor
open Go Go.RowKit Go.BigFrame Sx Vx
def DF (x:Int):Int:=bif(bits .and .u16 x 32768!=0)then bits .xor .u16 (u16.wrap (x*2^1)) 4129 else u16.wrap (x*2^1)
def AZ (x:Int):Nat->Int
 |0=>x
 |k+1=>DF (AZ x k)
def MN (s c:Int):Int:=AZ (bits .xor .u16 s (u16.wrap (u16.wrap c*2^8))) 8
def jT (f:Nat->Int):Nat->Int
 |0=>65535
 |k+1=>MN (jT f k) (f k)
theorem adF {x s:Int} {i:Int} (h:0<=i) (e:s=AZ x i.toNat) (hb:(bits .and .u16 s 32768!=0)=true):bits .xor .u16 (u16.wrap (s*2^1)) 4129=AZ x (i+1).toNat:=by
 have h1:(i+1).toNat=i.toNat+1:=by omega
 rw[h1];show _=DF (AZ x i.toNat);rw[<-e];unfold DF;rw[hb];rfl
theorem adG {x s:Int} {i:Int} (h:0<=i) (e:s=AZ x i.toNat) (hb:(bits .and .u16 s 32768!=0)=false):u16.wrap (s*2^1)=AZ x (i+1).toNat:=by
 have h1:(i+1).toNat=i.toNat+1:=by omega
 rw[h1];show _=DF (AZ x i.toNat);rw[<-e];unfold DF;rw[hb];rfl
theorem MO {f:Nat->Int} {s i:Int} (h:0<=i) (e:s=jT f i.toNat):MN s (f i.toNat)=jT f (i+1).toNat:=by
 have h1:(i+1).toNat=i.toNat+1:=by omega
 rw[h1,e];rfl
theorem Q6 (a c:Int) (w:World):
 aj prog 171 #[.int .u16 a,.int .u8 c] w λv w1=>v=.int .u16 (MN a c)/\Ch [] w w1:=by
 have S0:=St.nil [] w;refine dz Tryz.func171 rfl ?_;refine au (ax ?_);refine aa (.int .u16 0) ?_;refine aw (ag (au (ax ?_)));refine aa (.int .u16 a) ?_;refine aa (.int .u8 c) ?_;refine aa (.int .u16 (u16.wrap c)) ?_;refine aa (.int .u16 (u16.wrap ((u16.wrap c)*2^8))) ?_;refine aa (.int .u16 (bits .xor .u16 a (u16.wrap ((u16.wrap c)*2^8)))) ?_;refine bJ ?_;refine aw (ag (au (au (ax ?_))));refine aa (.int .i64 0) ?_;refine aw (ag (wp_block ?_));refine Ak (λzn za zw=>∃(i:Int) (s:Int) (my:Nat->Value),(zn=(8-i).toNat/\0<=i/\i<=8/\s=AZ (bits .xor .u16 a (u16.wrap ((u16.wrap c)*2^8))) i.toNat)/\za=⟨#[.int .u16 s,.int .u8 c,undef,undef,.int .u16 0,.int .u16 a,.int .u8 c,.int .u16 (u16.wrap c),.int .u16 (u16.wrap ((u16.wrap c)*2^8)),.int .u16 (bits .xor .u16 a (u16.wrap ((u16.wrap c)*2^8))),.int .i64 i,(my 11),(my 12),(my 13),(my 14),(my 15),(my 16),(my 17),(my 18),(my 19),(my 20),undef],[]⟩/\St [] w [] zw) _ (λzy Dp=>⟨(0:Int),(bits .xor .u16 a (u16.wrap ((u16.wrap c)*2^8))),(λd=>zy.tmps.getD d undef),⟨rfl,by omega,by omega,rfl⟩,by subst Dp;kernel_rfl,S0.re (R:=([]:List av)) [] []⟩) ?_;rintro _ _ Dn ⟨i,s,my,⟨rfl,zf2,zf3,Xp⟩,rfl,gw⟩;refine au (ax ?_);refine aa (.bool (decide (i<8))) ?_;refine aw (ag (au ?_));refine jH (decide (i<8)) ?_ ?_
 ·intro Xq;have Jv:=FC Xq;refine wp_skip (ag (au (wp_block (au (ax ?_)))));refine aa (.int .u16 s) ?_;refine aa (.int .u16 (bits .and .u16 s 32768)) ?_;refine aa (.bool ((bits .and .u16 s 32768)!=0)) ?_;refine aw (ag ?_);refine jH ((bits .and .u16 s 32768)!=0) ?_ ?_
  ·intro Xr;have lR:=abX Xr;refine ax ?_;refine aa (.int .u16 s) ?_;refine aa (.int .u16 (u16.wrap (s*2^1))) ?_;refine aa (.int .u16 (bits .xor .u16 (u16.wrap (s*2^1)) 4129)) ?_;refine bJ ?_;refine aw (ik (ag (ax ?_)));refine lz .i64 (i+1) (IntWalk.i64_in _ (by omega)) ?_;refine aa (.int .i64 (i+1)) ?_;refine aw ?_;refine vU λzy Dp=>?_;exact⟨_,by omega,(i+1),(bits .xor .u16 (u16.wrap (s*2^1)) 4129),(λd=>zy.tmps.getD d undef),⟨rfl,by omega,by omega,(adF (by omega) Xp Xr)⟩,by subst Dp;kernel_rfl,gw.re (R:=([]:List av)) [] []⟩
  intro kG;have AJ:=abY kG;refine ax ?_;refine aa (.int .u16 s) ?_;refine aa (.int .u16 (u16.wrap (s*2^1))) ?_;refine bJ ?_;refine aw (ik (ag (ax ?_)));refine lz .i64 (i+1) (IntWalk.i64_in _ (by omega)) ?_;refine aa (.int .i64 (i+1)) ?_;refine aw ?_;refine vU λzy Dp=>?_;exact⟨_,by omega,(i+1),(u16.wrap (s*2^1)),(λd=>zy.tmps.getD d undef),⟨rfl,by omega,by omega,(adG (by omega) Xp kG)⟩,by subst Dp;kernel_rfl,gw.re (R:=([]:List av)) [] []⟩
 intro oD;have yK:=FE oD;refine wp_exit (fy (fy (qh (ag (au (ax ?_))))));refine aa (.int .u16 s) ?_;refine aa (.int .u16 s) ?_;refine aw (ag (wp_ret ?_));refine gn rfl (fY [.tmp 4] [.int .u16 s] (.int .u16 s) ⟨cM,trivial⟩) ?_;exact⟨congrArg _ (by rw[Xp,show i.toNat=8 by omega];rfl),gw.ch⟩
theorem ah1 (b o n c:Nat) (f:Nat->Int) (hn:n<=1000000) (w:World) (hB:eS w b o n f):
 aj prog 119 #[.slice (some ⟨b,o,none⟩) n c] w λv w1=>v=.int .u16 (jT f n)/\Ch [] w w1:=by
 have S0:=St.nil [] w;refine dz Tryz.func119 rfl ?_;refine au (ax ?_);refine aa (.int .u16 0) ?_;refine aw (ag (au (ax ?_)));refine aa (.int .u16 65535) ?_;refine aw (ag (au (au (ax ?_))));refine bY ?_;refine aa (.int .i64 ((n:Nat):Int)) ?_;refine aa (.int .i64 0) ?_;refine aw (ag (wp_block ?_));refine Ak (λzn za zw=>∃(i:Int) (s:Int) (my:Nat->Value),(zn=(((n:Nat):Int)-i).toNat/\0<=i/\i<=((n:Nat):Int)/\s=jT f i.toNat)/\za=⟨#[.slice (some ⟨b,o,none⟩) n c,undef,.int .u16 0,.int .u16 s,undef,(my 5),.slice (some ⟨b,o,none⟩) n c,.int .i64 ((n:Nat):Int),.int .i64 i,(my 9),(my 10),(my 11),(my 12),(my 13),(my 14),(my 15),undef],[]⟩/\St [] w [] zw) _ (λzy Dp=>⟨(0:Int),(65535:Int),(λd=>zy.tmps.getD d undef),⟨rfl,by omega,by omega,rfl⟩,by subst Dp;kernel_rfl,S0.re (R:=([]:List av)) [] []⟩) ?_;rintro _ _ Dn ⟨i,s,my,⟨rfl,zf2,zf3,Xp⟩,rfl,gw⟩;refine au (ax ?_);refine aa (.bool (decide (i<((n:Nat):Int)))) ?_;refine aw (ag (au ?_));refine jH (decide (i<((n:Nat):Int))) ?_ ?_
 ·intro Xq;have Jv:=FC Xq;refine wp_skip (ag (au (wp_block (au (ax ?_)))));refine mw (e:=5) b o (i).toNat n 1 c .i64 i (by omega) (by omega) (by omega) ?_;refine kC b o n (o+(i).toNat*1) (i).toNat f (St.mC gw hB (by simp)) (by omega) (by omega) ?_;refine aa (.int .u8 (f (i).toNat)) ?_;refine aw (ag (ax ?_));refine aa (.int .u16 s) ?_;refine aa (.int .u8 (f (i).toNat)) ?_;refine dh 171 #[.int .u16 s,.int .u8 (f (i).toNat)] ?_;refine(Q6 s (f (i).toNat) _).mono ?_;rintro _ zw9 ⟨rfl,lR⟩;have Dr:=gw.quiet lR;refine bJ ?_;refine aw (ik (ag (ax ?_)));refine lz .i64 (i+1) (IntWalk.i64_in _ (by omega)) ?_;refine aa (.int .i64 (i+1)) ?_;refine aw ?_;refine vU λzy Dp=>?_;exact⟨_,by omega,(i+1),(MN s (f (i).toNat)),(λd=>zy.tmps.getD d undef),⟨rfl,by omega,by omega,MO (by omega) Xp⟩,by subst Dp;kernel_rfl,Dr.re (R:=([]:List av)) [] []⟩
 intro AJ;have oD:=FE AJ;refine wp_exit (fy (fy (qh (ag (au (ax ?_))))));refine aa (.int .u16 s) ?_;refine aa (.int .u16 s) ?_;refine aw (ag (wp_ret ?_));refine gn rfl (fY [.tmp 2] [.int .u16 s] (.int .u16 s) ⟨cM,trivial⟩) ?_;exact⟨congrArg _ (by rw[Xp,show i.toNat=n by omega]),gw.ch⟩
def pI (n:Nat) (f:Nat->Int):Nat->Int:=bI (3+n) (bI 3 (gT [165,1,n]) f) (gT [u8.wrap (Int.fdiv (jT (Ek (bI 3 (gT [165,1,n]) f) 1) (3+n-1)) (2^8)),u8.wrap (jT (Ek (bI 3 (gT [165,1,n]) f) 1) (3+n-1))])
def Q7:gm CG:=λargs bl ch K=>match args,zq ch with
 |[.raw (.slice (some ⟨b,o,none⟩) m c)],some (l,r)=>(b=r.b/\o+m<=r.n/\m<=1000000)/\K (.int .u16 (jT (Xs o r.f) m)) bl ch
 |_,_=>False
theorem MP {gl:Nat->Option Nat}:Sound prog gl 119 Q7:=by
 intro args ids bl ch R ms w0 w K hg hl S hc;unfold Q7 at hc;split at hc
 ·rename_i b o m c l r hlr;obtain⟨⟨rfl,h1,h2⟩,hK⟩:=hc;obtain rfl:=qP hlr;refine(ah1 r.b o m c (Xs o r.f) h2 w (JE (qQ S) h1)).mono ?_;rintro v w' ⟨rfl,eZ⟩;exact⟨.int .u16 (jT (Xs o r.f) m),[],bl,_,rfl,by simpa using hl,by simpa using S.quiet eZ,hK⟩
 ·exact hc.elim
theorem MQ:cT Q7:=by
 intro args bl ch K hc;unfold Q7 at hc⊢;split at hc
 ·exact⟨hc.1,hc.2,[],by simp⟩
 ·exact hc.elim
def adH:List (dI CG):=[⟨119,true,Q7⟩]
def fpX (u:World) (b o n:Nat) (K:VK CG):Prop:=
 let cp:=i64.wrap (i64.wrap (3+(n:Int))+2)
 let l1:=[165,1,u8.wrap (n:Int)]
 let F1:=bI 0 (λ_=>0) (gT l1)
 let N:=0+(2+1)+n
 cond (decide ((n:Int)>32)) (K (.az [.raw (.slice none 0 0),.int .i64 1]) [] [.cn u])
  ((1<=cp/\cp<=1000000)/\∀b0:Nat,0+(2+1)<=l1.length/\(b0=b0/\0=0/\cp.toNat=cp.toNat/\0<=cp.toNat/\0+(2+1)<=1000000/\0<0+(2+1))/\∀b1 c1:Nat,0+(2+1)<=c1->∃f,eS u b o n f/\
    let F2:=bI (0+(2+1)) F1 f
    (b1=b1/\0+(2+1)=0+(2+1)/\c1=c1/\0+(2+1)<=c1/\N<=1000000/\0<N)/\∀b2 c2:Nat,N<=c2->(1<N/\N<=c2)/\(b2=b2/\0+1+(N-1)<=N/\N-1<=1000000)/\
     let s:=jT (Xs (0+1) F2) (N-1)
     let l2:=[u8.wrap (Int.fdiv s (2^8)),u8.wrap s]
     0+(1+1)<=l2.length/\(b2=b2/\N=N/\c2=c2/\N<=c2/\N+(1+1)<=1000000/\0<N+(1+1))/\∀b3 c3:Nat,N+(1+1)<=c3->
      K (.az [.raw (.slice (some ⟨b3,0,none⟩) (N+(1+1)) c3),.int .i64 0]) [] [.cn u,.row ⟨N+(1+1),bI N F2 (gT l2),b3,c3⟩])
theorem ah2 (u:World) (b o n c:Nat) (K:VK CG):oE adH 191 [.raw (.slice (some ⟨b,o,none⟩) n c)] [] [.cn u] (cP 0 K)=fpX u b o n K:=by kernel_rfl
theorem adI (b o n c:Nat) (f:Nat->Int) (hn:n<=32) (w:World) (hB:eS w b o n f):
 aj prog 191 #[.slice (some ⟨b,o,none⟩) n c] w λv w1=>∃b c1,v=.tuple #[.slice (some ⟨b,0,none⟩) (n+5) c1,.int .i64 0]/\n+5<=c1/\w.heap.size<=b/\w1.heap[b]?=some (.cells (dc (n+5) (pI n f) c1) 5 (0,0))/\Ch [] w w1:=by
 have hL:ai prog gv adH:=ai.cons ⟨MP,λ_=>MQ⟩ ai.nil;have e1:i64.wrap (i64.wrap (3+(n:Int))+2)=((n+5:Nat):Int):=by simp[IntKind.wrap,IntKind.bits,IntKind.signed];omega
 have e2:u8.wrap (n:Int)=n:=by simp[IntKind.wrap,IntKind.bits,IntKind.signed];omega
 have h:oE adH 191 [.raw (.slice (some ⟨b,o,none⟩) n c)] [] [.cn w] (cP 0 λv bl ch=>bl=[]/\∃b3 c3,n+5<=c3/\v=.az [.raw (.slice (some ⟨b3,0,none⟩) (n+5) c3),.int .i64 0]/\ch=[.cn w,.row ⟨n+5,pI n f,b3,c3⟩]):=by
  rw[ah2];unfold fpX;dsimp only;rw[e1,e2,Int.toNat_natCast];refine aU (λh=>absurd (of_decide_eq_true h) (by omega)) λ_=>⟨⟨by omega,by omega⟩,λb0=>⟨Nat.le_refl 3,⟨rfl,rfl,rfl,by omega,by omega,by omega⟩,λb1 c1 h1=>⟨f,hB,⟨rfl,rfl,rfl,h1,by omega,by omega⟩,λb2 c2 h2=>⟨⟨by omega,h2⟩,⟨rfl,by omega,by omega⟩,Nat.le_refl 2,⟨rfl,rfl,rfl,h2,by omega,by omega⟩,λb3 c3 h3=>⟨rfl,b3,c3,by omega,?_,?_⟩⟩⟩⟩⟩
  ·rw[show 0+(2+1)+n+(1+1)=n+5 by omega]
  ·rw[show 0+(2+1)+n+(1+1)=n+5 by omega,show 0+(2+1)+n=3+n by omega,lT 0];rfl
 refine(iT hL h).mono ?_;rintro v w' ⟨x,ids,bl,ch,rfl,hl,S,rfl,b3,c3,hc,rfl,rfl⟩;exact⟨b3,c3,rfl,hc,AO (l:=[.cn w]) S,qQ (l:=[.cn w]) S,S.ch⟩
def lX (r:Sd.Rec):Nat->Int:=(iF (iF (iF (iF (iF (iF (λ_=>0) 0 1 (aq 1 ((u64.wrap r.kind)%256))) 1 1 (aq 1 ((u64.wrap r.source)%256))) 2 4 (aq 4 ((u64.wrap r.seq)%4294967296))) 6 2 (aq 2 ((u64.wrap r.epoch)%65536))) 8 1 (aq 1 ((u64.wrap r.code)%256))) 9 1 (aq 1 ((u64.wrap r.how)%256)))
def qW (h:Nat->Int) (r:Sd.Rec):Nat->Int:=ji (32+10) (bI 32 h (lX r))
def cp8 {G:Type}:(Operand->V)->Op->List VB->List G->VK G->Prop:=λe op bl ch K=>match op with
 |.call c=>(match c.callee,c.args.toList,c.argTypes.toList with
  |.builtin .copy,[s,xs],[t,tx]=>(match prog.underlying t,e s,e xs with
   |some (.slice 5),.sl i o n c,.sl j 0 m c2=>(match bl[i]?,bl[j]?with
    |some ⟨true,⟨T,(0,0)⟩,l⟩,some ⟨_,⟨_,(0,0)⟩,l2⟩=>(match kI l,kI l2 with
     |some r,some r2=>cond (Nat.beq r2.length m&&(Nat.beq m n&&Nat.ble (o+m) r.length)) (K (.int .i64 (m:Int)) (bl.set i ⟨true,⟨T,(0,0)⟩,l.take o++(l2++l.drop (o+m))⟩) ch) False
     |_,_=>False)
    |_,_=>False)
   |_,_,_=>False)
  |_,_,_=>False)
 |_=>False
theorem A0 (ids:List Nat):∀{l:List V} {r:List Int},kI l=some r->l=r.map (V.int .u8)/\ab ids l=r.map (Value.int .u8)
 |[],r,h=>by cases h;exact⟨rfl,rfl⟩
 |v::l,r,h=>by
  unfold kI at h;split at h
  ·rename_i e;cases e
  ·rename_i x l' e;obtain⟨rfl,rfl⟩:=List.cons.inj e;split at h
   ·rename_i r' hr;cases h;obtain⟨h1,h2⟩:=A0 ids hr;exact⟨by rw[h1];rfl,by simp only[ab,cl,den,h2,List.map_cons,List.singleton_append]⟩
   ·cases h
  ·cases h
theorem GF {G:Type} [Bl G] {gl:Nat->Option Nat}:oA (G:=G) prog gl cp8:=by
 intro e op ids bl ch R ms w0 w K ρ o hg hl S cx ho h;unfold cp8 at h;split at h
 ·rename_i c;split at h
  ·rename_i s xs t tx eU a9 ju;split at h
   ·rename_i i oo n cc j m c2 hu qc ow;split at h
    ·rename_i T l wr T2 l2 hb va;split at h
     ·rename_i r r2 hr Og;cases hq:Nat.beq r2.length m&&(Nat.beq m n&&Nat.ble (oo+m) r.length)with
      |false=>rw[hq]at h;exact h.elim
      |true=>
       rw[hq]at h;simp only[Bool.and_eq_true]at hq;obtain rfl:=Nat.eq_of_beq_eq_true hq.1;obtain rfl:=Nat.eq_of_beq_eq_true hq.2.1;have hle:=Nat.le_of_ble_eq_true hq.2.2;obtain⟨FZ,ar,td⟩:=c;simp only at eU a9 ju;have e2:ar=#[s,xs]:=by rw[<-a9]
       have e3:td=#[t,tx]:=by rw[<-ju]
       subst eU e2 e3;obtain⟨q1,q2⟩:=A0 ids hr;obtain⟨q3,q4⟩:=A0 ids Og;have ba:=(cA hl S hb).2;have qM:=(cA hl S va).2;have hj:=(cA hl S hb).1;have aY:=run_copy_row (P:=prog) w t tx o.type 5 (ids.getD i 0) oo r2.length cc ⟨ids.getD j 0,0,none⟩ r2.length c2 (ab ids l).toArray T (ab ids l2) hu (by kernel_rfl) ba (by rw[q4];simp) (λk v hk=>by
        rw[Addr.add_lit,cell_of qM];simpa using hk) (by rw[q4,q2];simpa using hle) (λv hv=>by
        rw[q4]at hv;obtain⟨x,_,rfl⟩:=List.mem_map.1 hv;rfl)
       have hex:=u7 (P:=prog) (ρ:=ρ) (o:=o) ho (sv:=.slice (some ⟨ids.getD i 0,oo,none⟩) r2.length cc) (xv:=.slice (some ⟨ids.getD j 0,0,none⟩) r2.length c2) (by rw[cx,qc];rfl) (by rw[cx,ow];rfl) aY;have hlen:(ab ids l2).length=r2.length:=by rw[q4];simp
       rw[hlen]at hex;refine⟨.int .i64 (r2.length:Int),[],_,_,_,.inl hex,by simpa using hl,?_,h⟩;simp only[List.append_nil];have mK:=S.step hj rfl (Ch.setRow w _ _) (setRow_heap w (ids.getD i 0) (ab ids l).toArray (((ab ids l).toArray.toList.take oo++ab ids l2++(ab ids l).toArray.toList.drop (oo+r2.length)).toArray) T (0,0) ba);have yF:i<(lits ids ids bl).length:=by rw[iQ ids bl hl];rcases Nat.lt_or_ge i bl.length with h'|h';exact h';simp[h']at hb
       rw[<-iR (ids:=ids) ids bl i _ hl,<-List.set_append_left _ _ yF];have e5:(ab ids (l.take oo++(l2++l.drop (oo+r2.length)))).toArray=((ab ids l).toArray.toList.take oo++ab ids l2++(ab ids l).toArray.toList.drop (oo+r2.length)).toArray:=by
        have:∀q:List Int,ab ids (q.map (V.int .u8))=q.map (Value.int .u8):=λq=>by
         induction q with
         |nil=>rfl
         |cons x q ih=>simp only[List.map_cons,ab,cl,den,ih,List.singleton_append]
        rw[bo,bo,q2,q4,q1,<-List.map_take,<-List.map_drop,this,this,List.append_assoc,List.map_take,List.map_drop]
       simp only[aE,e5];exact mK
     ·exact h.elim
    ·exact h.elim
   ·exact h.elim
  ·exact h.elim
 ·exact h.elim
def OO (x m:Int):Int:=bits .and .u64 (u64.wrap x) m
def mA (k:Nat) (x m:Int) (X:Prop):Prop:=(0<=OO x m/\OO x m<2^(8*k))/\X
def ah3 (a b c d e f:Int) (K:VK Empty):Prop:=
 mA 1 a 255 (mA 1 b 255 (mA 4 c 4294967295 (mA 2 d 65535 (mA 1 e 255 (mA 1 f 255
  (K (.agg (ints 1 (aq 1 (OO a 255))++(ints 1 (aq 1 (OO b 255))++(ints 4 (aq 4 (OO c 4294967295))++(ints 2 (aq 2 (OO d 65535))++(ints 1 (aq 1 (OO e 255))++ints 1 (aq 1 (OO f 255)))))))) [] []))))))
theorem XY (a b c d e f:Int) (K:VK Empty):cJ (mL prog gv (MB Empty) cp8 GF) 60 105 [.agg [.int .i64 a,.int .i64 b,.int .i64 c,.int .i64 d,.int .i64 e,.int .i64 f]] [] [] (cP 0 K)=ah3 a b c d e f K:=by
 kernel_rfl
theorem tB {k j:Nat} {x m d:Int} {X:Prop} (hm:m=2^j-1) (hd:d=2^j) (hj:j<64) (hk:d=2^(8*k)) (hX:X):mA k x m X:=by
 unfold mA OO;have h0:0<d:=by rw[hd];exact Int.pow_pos (by decide)
 rw[fl .u64 _ m d j hm hd hj];exact⟨⟨Int.emod_nonneg _ (by omega),hk▸Int.emod_lt_of_pos _ h0⟩,hX⟩
theorem adJ (r:Sd.Rec) (w:World):
 aj prog 105 #[.agg (recC r)] w λv w1=>v=.agg #[.int .u8 (lX r 0),.int .u8 (lX r 1),.int .u8 (lX r 2),.int .u8 (lX r 3),.int .u8 (lX r 4),.int .u8 (lX r 5),.int .u8 (lX r 6),.int .u8 (lX r 7),.int .u8 (lX r 8),.int .u8 (lX r 9)]/\Ch [] w w1:=by
 have m1:∀x,OO x 255=u64.wrap x%256:=λx=>fl .u64 _ 255 256 8 (by decide) (by decide) (by decide);have m2:∀x,OO x 65535=u64.wrap x%65536:=λx=>fl .u64 _ 65535 65536 16 (by decide) (by decide) (by decide);have m4:∀x,OO x 4294967295=u64.wrap x%4294967296:=λx=>fl .u64 _ 4294967295 4294967296 32 (by decide) (by decide) (by decide);have h:Mm (cJ (mL prog gv (MB Empty) cp8 GF) 60 105 [.agg [.int .i64 r.kind,.int .i64 r.source,.int .i64 r.seq,.int .i64 r.epoch,.int .i64 r.code,.int .i64 r.how]] [] [] (cP 0 λv _ _=>v=.agg (ints 10 (lX r)))):=by
  rw[XY];constructor;refine tB (j:=8) (d:=256) rfl rfl (by decide) rfl (tB (j:=8) (d:=256) rfl rfl (by decide) rfl (tB (j:=32) (d:=4294967296) rfl rfl (by decide) rfl (tB (j:=16) (d:=65536) rfl rfl (by decide) rfl (tB (j:=8) (d:=256) rfl rfl (by decide) rfl (tB (j:=8) (d:=256) rfl rfl (by decide) rfl ?_)))));rw[m1,m1,m1,m1,m2,m4];show V.agg _=V.agg _;kernel_rfl
 refine(Gt (G:=Empty) (L:=MB Empty) (h:=cp8) (hok:=GF) Jy h).mono ?_;rintro v w' ⟨y,ids,bl,ch,rfl,hl,S,rfl⟩;exact⟨by kernel_rfl,S.ch⟩
theorem ah4 (h:Nat->Int) (r:Sd.Rec) {tG:TypeId} (w:World) (hG:w.heap[1]?=some (.cells (ak .u32 64 aX) tG (0,0))):
 aj prog 66 #[.agg (ak .u8 32 h),.agg (recC r)] w λv w1=>v=.agg (ak .u8 32 (qW h r))/\Ch [] w w1:=by
 have S0:=St.given (w:=w) [(1,.cells (ak .u32 64 aX) tG (0,0))] (all_cons hG (all_nil));refine dz Tryz.func66 rfl ?_;refine au (ax ?_);refine eD S0 (λb=>.pointer (some ⟨b,0,none⟩)) (.cells (ak .u8 32 h) 37) ?_;intro de sH i_;refine eD i_ (λb=>.pointer (some ⟨b,0,none⟩)) (.cells (recC r) 75) ?_;intro iG Dn gw;refine eD gw (λb=>.pointer (some ⟨b,0,none⟩)) (.cells (ak .u8 32 (λ_=>0)) 37) ?_;intro Qm zw8 uL;refine aw (ag (au (ax ?_)));refine eC uL 1 6 (recC r) iG 0 ?_;refine dh 105 #[.agg (recC r)] ?_;refine(adJ r _).mono ?_;rintro _ akW ⟨rfl,kG⟩;have tp:=uL.quiet kG;refine eD tp (λb=>.pointer (some ⟨b,0,none⟩)) (.cells (ak .u8 10 (λ_=>0)) 202) ?_;intro adK alH acZ;refine store_ acZ 0 (.agg (ak .u8 10 (lX r))) adK 0 ?_;intro agT uI;refine aw (ag (au ?_));refine Wi 2 [.slice (some ⟨de,0,none⟩) 32 32,.slice (some ⟨adK,0,none⟩) 10 10] [[2,0],[2,1],[3,2,0],[3,2,1],[3,2],[4,0],[4,1],[4,2],[4,3]] (step_cons sD (step_cons sD (jK))) ?_;intro Gm ac2;have tu:=uI.quiet ac2;refine y9 (x0:=some ⟨de,0,none⟩) (T:=5) (n:=32) (c:=32) (m:=10) (f:=h) (g:=(lX r)) (xv:=.slice (some ⟨adK,0,none⟩) 10 10) tu (cz.of8 (St.eK (N:=32) (f:=h) (wr:=true) (t:=37) (fr:=(0,0)) tu 3) (by omega) (by omega)) (FM (e':=5) (St.eK (N:=10) (f:=(lX r)) (wr:=true) (t:=202) (fr:=(0,0)) tu 0)) (by omega) (by omega) ?_;intro AK Gn ag7 wz py;refine dh 106 #[.slice (some ⟨AK,0,none⟩) (32+10) Gn] ?_;refine(AI AK 0 (32+10) Gn (bI 32 h (lX r)) (by omega) _ (py.at_ 5 _ rfl) (St.FN (c:=Gn) (wr:=true) (t:=5) (fr:=(0,0)) py 0)).mono ?_;rintro _ agU ⟨rfl,kH⟩;have Qg:=py.quiet kH;refine store_ Qg 2 (.agg (ak .u8 32 (ji (32+10) (bI 32 h (lX r))))) Qm 0 ?_;intro XE GD;refine aw (ag (wp_ret ?_));refine gn rfl (fY [.cell 4 37] [.agg (ak .u8 32 (ji (32+10) (bI 32 h (lX r))))] (.agg (ak .u8 32 (ji (32+10) (bI 32 h (lX r))))) ⟨cU GD 2 32 Qm 0,trivial⟩) ?_;exact⟨by kernel_rfl,GD.ch⟩
def MR (N:Nat) (F:Nat->(Nat->Int)->Int->Int->(Nat->Int)->Nat->Int):gm CG:=λargs bl ch K=>match args,ch with
 |[.raw (.slice ka kn kc),.int .i64 s,.int .i64 r,.agg l],.cn u::_=>(match kI l with
  |some q=>∃kf nc:Nat->Int,((1<=kn/\kn<=64)/\(0<=s/\s<4294967296)/\(0<=r/\r<4294967296)/\(∃tG,u.heap[1]?=some (.cells (ak .u32 64 aX) tG (0,0)))/\cz u ka kn kc kf/\q.length=8/\∀j,j<8->gT q j=nc j)/\K (.agg (ints N (F kn kf s r nc))) bl ch
  |none=>False)
 |_,_=>False
def Q8:gm CG:=λargs bl ch K=>match args,ch with
 |[.raw (.slice ka kn kc),.int .i64 s,.int .i64 n],.cn u::_=>∃kf:Nat->Int,((1<=kn/\kn<=64)/\(0<=s/\s<4294967296)/\(0<=n/\n<4294967296)/\(∃tG,u.heap[1]?=some (.cells (ak .u32 64 aX) tG (0,0)))/\cz u ka kn kc kf)/\K (.agg (ints 8 (dq kn kf s n))) bl ch
 |_,_=>False
def Q9:gm CG:=λargs bl ch K=>match args with
 |[.sl i 0 n c,.sl j 0 m c2]=>(match bl[i]?,bl[j]?with
  |some ⟨_,⟨_,(0,0)⟩,l⟩,some ⟨_,⟨_,(0,0)⟩,l2⟩=>(match kI l,kI l2 with
   |some q,some q2=>∃f g:Nat->Int,(q.length=n/\q2.length=n/\m=n/\n<=1000000/\(∀j,j<n->gT q j=f j)/\∀j,j<n->gT q2 j=g j)/\K (.bool (kq n f g)) bl ch
   |_,_=>False)
  |_,_=>False)
 |_=>False
def DG (m:Int) (b:Bool) (nc:Nat->Int):List V:=.int .i64 m::.bool b::ints 8 nc
def mH:List (dI CG):=[⟨15,true,Q8⟩,⟨16,true,MR 8 eF⟩,⟨37,true,MR 32 jl⟩,⟨192,true,Q9⟩]
theorem XZ {ids:List Nat} {l:List V} {q:List Int} {m:Nat} {g:Nat->Int} (h:kI l=some q) (hq:q.length=m) (hg:∀j,j<m->gT q j=g j):den ids (.agg l)=.agg (ak .u8 m g):=by
 simp only[den,jw ids h,hq];rw[kR hg];rfl
theorem JL {ids:List Nat} {bl:List VB} {u w w0:World} {rest:List CG} {R:List av} {ms:List Nat} (S:St ms w0 (lits ids ids bl++af (CG.cn u::rest) R) w) {a:Option Addr} {n c:Nat} {f:Nat->Int} (h:cz u a n c f):cz w a n c f:=by
 refine⟨h.1,h.2.1,h.2.2.1,λx e j hj=>?_⟩;have h1:=h.2.2.2 x e j hj;unfold World.cell? at h1⊢;cases hh:u.heap[(x.add j).block]?with
 |none=>simp[hh]at h1
 |some ob=>
  have:w.heap[(x.add j).block]?=some ob:=S.at' (x:=⟨(x.add j).block,false,ob⟩) (qT (qO hh));simp only[hh,this]at h1⊢;exact h1
theorem ai6 {gl:Nat->Option Nat} {N:Nat} {F:Nat->(Nat->Int)->Int->Int->(Nat->Int)->Nat->Int} {f:FuncId} (hF:∀(ka:Option Addr) (kn kc:Nat) (kf:Nat->Int) (s r:Int) (nc:Nat->Int),1<=kn/\kn<=64->0<=s/\s<4294967296->0<=r/\r<4294967296->∀{tG:TypeId} (w:World),w.heap[1]?=some (.cells (ak .u32 64 aX) tG (0,0))->cz w ka kn kc kf->
 aj prog f #[.slice ka kn kc,.int .i64 s,.int .i64 r,.agg (ak .u8 8 nc)] w λv w1=>v=.agg (ak .u8 N (F kn kf s r nc))/\Ch [] w w1):Sound prog gl f (MR N F):=by
 intro args ids bl ch R ms w0 w K hg hl S hc;unfold MR at hc;split at hc
 ·rename_i ka kn kc s r l u rest;split at hc
  ·rename_i q hq;obtain⟨kf,nc,⟨hn,hs,hr,⟨tG,hG⟩,hk,h8,vQ⟩,hK⟩:=hc;have ea:(ao ids [.raw (.slice ka kn kc),.int .i64 s,.int .i64 r,.agg l]).toArray=#[.slice ka kn kc,.int .i64 s,.int .i64 r,.agg (ak .u8 8 nc)]:=by
    simp only[ao,XZ hq h8 vQ];rfl
   rw[ea];refine(hF ka kn kc kf s r nc hn hs hr w (wH S hG) (JL S hk)).mono ?_;rintro v w' ⟨rfl,eZ⟩;exact⟨.agg (ints N (F kn kf s r nc)),[],bl,_,by simp only[den,iS],by simpa using hl,by simpa using S.quiet eZ,hK⟩
  ·exact hc.elim
 ·exact hc.elim
theorem ai7 {N:Nat} {F:Nat->(Nat->Int)->Int->Int->(Nat->Int)->Nat->Int}:cT (MR N F):=by
 intro args bl ch K hc;unfold MR at hc⊢;split at hc
 ·split at hc
  ·obtain⟨kf,nc,h,hK⟩:=hc;exact⟨kf,nc,h,hK,[],by simp⟩
  ·exact hc.elim
 ·exact hc.elim
theorem GG {gl:Nat->Option Nat}:Sound prog gl 15 Q8:=by
 intro args ids bl ch R ms w0 w K hg hl S hc;unfold Q8 at hc;split at hc
 ·rename_i ka kn kc s n u rest;obtain⟨kf,⟨hn,hs,hr,⟨tG,hG⟩,hk⟩,hK⟩:=hc;refine(Qu ka kn kc kf s n hn hs hr w (wH S hG) (JL S hk)).mono ?_;rintro v w' ⟨rfl,eZ⟩;exact⟨.agg (ints 8 (dq kn kf s n)),[],bl,_,by simp only[den,iS],by simpa using hl,by simpa using S.quiet eZ,hK⟩
 ·exact hc.elim
theorem GH:cT Q8:=by
 intro args bl ch K hc;unfold Q8 at hc⊢;split at hc
 ·obtain⟨kf,h,hK⟩:=hc;exact⟨kf,h,hK,[],by simp⟩
 ·exact hc.elim
theorem JM {ids:List Nat} {bl:List VB} {X:List av} {ms:List Nat} {w0 w:World} (hl:ids.length=bl.length) (S:St ms w0 (lits ids ids bl++X) w) {i n:Nat} {b:VB} {q:List Int} {f:Nat->Int} (hb:bl[i]?=some b) (h:kI b.c=some q) (hq:q.length=n) (hf:∀j,j<n->gT q j=f j):eS w (ids.getD i 0) 0 n f:=λj hj=>by
 have ba:=(cA hl S hb).2;rw[cell_of ba,jw ids h,Nat.zero_add];simp only[List.getElem?_toArray];rw[je _ (by omega),hf j hj]
theorem MS {gl:Nat->Option Nat}:Sound prog gl 192 Q9:=by
 intro args ids bl ch R ms w0 w K hg hl S hc;unfold Q9 at hc;split at hc
 ·rename_i i n c j m c2;split at hc
  ·rename_i w1 t1 l w2 t2 l2 hb va;split at hc
   ·rename_i q q2 hq hq2;obtain⟨f,g,⟨e1,e2,rfl,hn,hf,hg2⟩,hK⟩:=hc;refine(abe (ids.getD i 0) 0 m c (ids.getD j 0) 0 c2 f g hn w (JM hl S hb hq e1 hf) (JM hl S va hq2 e2 hg2)).mono ?_;rintro v w' ⟨rfl,eZ⟩;exact⟨.bool (kq m f g),[],bl,_,rfl,by simpa using hl,by simpa using S.quiet eZ,hK⟩
   ·exact hc.elim
  ·exact hc.elim
 ·exact hc.elim
theorem MT:cT Q9:=by
 intro args bl ch K hc;unfold Q9 at hc⊢;split at hc
 ·split at hc
  ·split at hc
   ·obtain⟨f,g,h,hK⟩:=hc;rename_i e1 e2;simp only[e1,e2];exact⟨f,g,h,hK,[],by simp⟩
   ·exact hc.elim
  ·exact hc.elim
 ·exact hc.elim
theorem wK:ai prog gv mH:=ai.cons ⟨GG,λ_=>GH⟩ (ai.cons ⟨ai6 λka kn kc kf s r nc h1 h2 h3 _ w hG hk=>JC ka kn kc kf s r nc h1 h2 h3 w hG hk,λ_=>ai7⟩ (ai.cons ⟨ai6 λka kn kc kf s r nc h1 h2 h3 _ w hG hk=>abh ka kn kc kf s r nc h1 h2 h3 w hG hk,λ_=>ai7⟩ (ai.cons ⟨MS,λ_=>MT⟩ ai.nil)))
section
variable(u:World) (m s r:Int) (b:Bool) (nc pf:Nat->Int) (ka:Option Addr) (kn kc:Nat) (K:VK CG)
def dhX:Prop:=
 let m1:=i64.wrap (m+1)
 cond (decide (m>=4294967295)) (K (.az [.agg (DG m b nc),.int .i64 24]) [] [.cn u]) (∃kf:Nat->Int,((1<=kn/\kn<=64)/\(0<=s/\s<4294967296)/\(0<=m1/\m1<4294967296)/\(∃tG,u.heap[1]?=some (.cells (ak .u32 64 aX) tG (0,0)))/\cz u ka kn kc kf)/\K (.az [.agg (DG m1 true (dq kn kf s m1)),.int .i64 0]) [] [.cn u])
theorem abw:oE mH 146 [.agg (DG m b nc),.raw (.slice ka kn kc),.int .i64 s] [] [.cn u] (cP 0 K)=dhX u m s b nc ka kn kc K:=by kernel_rfl
def X0 (kf n1:Nat->Int):Prop:=(1<=kn/\kn<=64)/\(0<=s/\s<4294967296)/\(0<=r/\r<4294967296)/\(∃tG,u.heap[1]?=some (.cells (ak .u32 64 aX) tG (0,0)))/\cz u ka kn kc kf/\((List.range 8).map nc).length=8/\∀j,j<8->gT ((List.range 8).map nc) j=n1 j
def dpX:Prop:=
 let no (c:Int):Prop:=K (.az [.agg (DG m false λ_=>0),.agg (ints 32 λ_=>0),.int .i64 c]) [] [.cn u]
 cond (!b) (K (.az [.agg (DG m b nc),.agg (ints 32 λ_=>0),.int .i64 17]) [] [.cn u])
  (∃kf n1:Nat->Int,X0 u s r nc ka kn kc kf n1/\∃f g:Nat->Int,(((List.range 8).map pf).length=8/\((List.range 8).map (eF kn kf s r n1)).length=8/\8=8/\8<=1000000/\(∀j,j<8->gT ((List.range 8).map pf) j=f j)/\∀j,j<8->gT ((List.range 8).map (eF kn kf s r n1)) j=g j)/\
   cond (!(kq 8 f g)) (no 14) (∃kf2 n2:Nat->Int,X0 u s r nc ka kn kc kf2 n2/\K (.az [.agg (DG m false λ_=>0),.agg (ints 32 (jl kn kf2 s r n2)),.int .i64 0]) [] [.cn u]))
theorem Q_:oE mH 148 [.agg (DG m b nc),.raw (.slice ka kn kc),.int .i64 s,.int .i64 r,.agg (ints 8 pf)] [] [.cn u] (cP 0 K)=dpX u m s r b nc pf ka kn kc K:=by kernel_rfl
end
def lY (kn:Nat) (kf:Nat->Int) (s r:Int) (nc pf:Nat->Int):Bool:=kq 8 pf (eF kn kf s r nc)
theorem DH (ka:Option Addr) (kn kc:Nat) (kf:Nat->Int) (s:Int) (d:Sd.dQ) (hd:4294967295<=d.many) (hd2:d.many<=9223372036854775807) (w:World):
 aj prog 146 #[.agg #[.int .i64 d.many,.bool d.sG,.int .u8 (d.ae 0),.int .u8 (d.ae 1),.int .u8 (d.ae 2),.int .u8 (d.ae 3),.int .u8 (d.ae 4),.int .u8 (d.ae 5),.int .u8 (d.ae 6),.int .u8 (d.ae 7)],.slice ka kn kc,.int .i64 s] w λv w1=>v=.tuple #[.agg #[.int .i64 d.many,.bool d.sG,.int .u8 (d.ae 0),.int .u8 (d.ae 1),.int .u8 (d.ae 2),.int .u8 (d.ae 3),.int .u8 (d.ae 4),.int .u8 (d.ae 5),.int .u8 (d.ae 6),.int .u8 (d.ae 7)],.int .i64 24]/\Ch [] w w1:=by
 have h:oE mH 146 [.agg (DG d.many d.sG d.ae),.raw (.slice ka kn kc),.int .i64 s] [] [.cn w] (cP 0 λv _ _=>v=.az [.agg (DG d.many d.sG d.ae),.int .i64 24]):=by
  rw[abw];exact aU (λ_=>rfl) λh=>absurd (of_decide_eq_false h) (by omega)
 refine(iT wK h).mono ?_;rintro v w' ⟨x,ids,bl,ch,rfl,hl,S,rfl⟩;exact⟨by kernel_rfl,S.ch⟩
theorem Ra (ka:Option Addr) (kn kc:Nat) (kf:Nat->Int) (s:Int) (d:Sd.dQ) (VT:1<=kn/\kn<=64) (hs:0<=s/\s<4294967296) (hd:0<=d.many/\d.many<4294967295) {tG:TypeId} (w:World) (hG:w.heap[1]?=some (.cells (ak .u32 64 aX) tG (0,0))) (hk:cz w ka kn kc kf):
 aj prog 146 #[.agg #[.int .i64 d.many,.bool d.sG,.int .u8 (d.ae 0),.int .u8 (d.ae 1),.int .u8 (d.ae 2),.int .u8 (d.ae 3),.int .u8 (d.ae 4),.int .u8 (d.ae 5),.int .u8 (d.ae 6),.int .u8 (d.ae 7)],.slice ka kn kc,.int .i64 s] w λv w1=>v=.tuple #[.agg #[.int .i64 (d.many+1),.bool true,.int .u8 ((dq kn kf s (d.many+1)) 0),.int .u8 ((dq kn kf s (d.many+1)) 1),.int .u8 ((dq kn kf s (d.many+1)) 2),.int .u8 ((dq kn kf s (d.many+1)) 3),.int .u8 ((dq kn kf s (d.many+1)) 4),.int .u8 ((dq kn kf s (d.many+1)) 5),.int .u8 ((dq kn kf s (d.many+1)) 6),.int .u8 ((dq kn kf s (d.many+1)) 7)],.int .i64 0]/\Ch [] w w1:=by
 have e:i64.wrap (d.many+1)=d.many+1:=by simp[IntKind.wrap,IntKind.bits,IntKind.signed];omega
 have h:oE mH 146 [.agg (DG d.many d.sG d.ae),.raw (.slice ka kn kc),.int .i64 s] [] [.cn w] (cP 0 λv _ _=>v=.az [.agg (DG (d.many+1) true (dq kn kf s (d.many+1))),.int .i64 0]):=by
  rw[abw];unfold dhX;dsimp only;rw[e];exact aU (λh=>absurd (of_decide_eq_true h) (by omega)) λ_=>⟨kf,⟨VT,hs,by omega,⟨tG,hG⟩,hk⟩,rfl⟩
 refine(iT wK h).mono ?_;rintro v w' ⟨x,ids,bl,ch,rfl,hl,S,rfl⟩;exact⟨by kernel_rfl,S.ch⟩
theorem GI (ka:Option Addr) (kn kc:Nat) (kf:Nat->Int) (s r:Int) (d:Sd.dQ) (pf:Nat->Int) (ho:d.sG=false) (w:World):
 aj prog 148 #[.agg #[.int .i64 d.many,.bool d.sG,.int .u8 (d.ae 0),.int .u8 (d.ae 1),.int .u8 (d.ae 2),.int .u8 (d.ae 3),.int .u8 (d.ae 4),.int .u8 (d.ae 5),.int .u8 (d.ae 6),.int .u8 (d.ae 7)],.slice ka kn kc,.int .i64 s,.int .i64 r,.agg (ak .u8 8 pf)] w λv w1=>v=.tuple #[.agg #[.int .i64 d.many,.bool d.sG,.int .u8 (d.ae 0),.int .u8 (d.ae 1),.int .u8 (d.ae 2),.int .u8 (d.ae 3),.int .u8 (d.ae 4),.int .u8 (d.ae 5),.int .u8 (d.ae 6),.int .u8 (d.ae 7)],.agg (ak .u8 32 (λ_=>0)),.int .i64 17]/\Ch [] w w1:=by
 have h:oE mH 148 [.agg (DG d.many d.sG d.ae),.raw (.slice ka kn kc),.int .i64 s,.int .i64 r,.agg (ints 8 pf)] [] [.cn w] (cP 0 λv _ _=>v=.az [.agg (DG d.many d.sG d.ae),.agg (ints 32 λ_=>0),.int .i64 17]):=by
  rw[Q_];unfold dpX;dsimp only;exact aU (λ_=>rfl) λh=>by rw[ho]at h;cases h
 refine(iT wK h).mono ?_;rintro v w' ⟨x,ids,bl,ch,rfl,hl,S,rfl⟩;exact⟨by kernel_rfl,S.ch⟩
theorem MU (ka:Option Addr) (kn kc:Nat) (kf:Nat->Int) (s r:Int) (d:Sd.dQ) (pf:Nat->Int) (VT:1<=kn/\kn<=64) (hs:0<=s/\s<4294967296) (J_:0<=r/\r<4294967296) (ho:d.sG=true) (hr:lY kn kf s r d.ae pf=false) {tG:TypeId} (w:World) (hG:w.heap[1]?=some (.cells (ak .u32 64 aX) tG (0,0))) (hk:cz w ka kn kc kf):
 aj prog 148 #[.agg #[.int .i64 d.many,.bool d.sG,.int .u8 (d.ae 0),.int .u8 (d.ae 1),.int .u8 (d.ae 2),.int .u8 (d.ae 3),.int .u8 (d.ae 4),.int .u8 (d.ae 5),.int .u8 (d.ae 6),.int .u8 (d.ae 7)],.slice ka kn kc,.int .i64 s,.int .i64 r,.agg (ak .u8 8 pf)] w λv w1=>v=.tuple #[.agg #[.int .i64 d.many,.bool false,.int .u8 0,.int .u8 0,.int .u8 0,.int .u8 0,.int .u8 0,.int .u8 0,.int .u8 0,.int .u8 0],.agg (ak .u8 32 (λ_=>0)),.int .i64 14]/\Ch [] w w1:=by
 have h:oE mH 148 [.agg (DG d.many d.sG d.ae),.raw (.slice ka kn kc),.int .i64 s,.int .i64 r,.agg (ints 8 pf)] [] [.cn w] (cP 0 λv _ _=>v=.az [.agg (DG d.many false λ_=>0),.agg (ints 32 λ_=>0),.int .i64 14]):=by
  rw[Q_];unfold dpX;dsimp only;have hp:=(⟨VT,hs,J_,⟨tG,hG⟩,hk,by simp,λj hj=>iU hj⟩:X0 w s r d.ae ka kn kc kf d.ae);exact aU (λh=>by rw[ho]at h;cases h) λ_=>⟨kf,d.ae,hp,⟨pf,eF kn kf s r d.ae,⟨by simp,by simp,rfl,by decide,λj hj=>iU hj,λj hj=>iU hj⟩,aU (λ_=>rfl) λh=>by rw[show kq 8 pf (eF kn kf s r d.ae)=false from hr]at h;cases h⟩⟩
 refine(iT wK h).mono ?_;rintro v w' ⟨x,ids,bl,ch,rfl,hl,S,rfl⟩;exact⟨by kernel_rfl,S.ch⟩
theorem Rb (ka:Option Addr) (kn kc:Nat) (kf:Nat->Int) (s r:Int) (d:Sd.dQ) (pf:Nat->Int) (VT:1<=kn/\kn<=64) (hs:0<=s/\s<4294967296) (J_:0<=r/\r<4294967296) (ho:d.sG=true) (hr:lY kn kf s r d.ae pf=true) {tG:TypeId} (w:World) (hG:w.heap[1]?=some (.cells (ak .u32 64 aX) tG (0,0))) (hk:cz w ka kn kc kf):
 aj prog 148 #[.agg #[.int .i64 d.many,.bool d.sG,.int .u8 (d.ae 0),.int .u8 (d.ae 1),.int .u8 (d.ae 2),.int .u8 (d.ae 3),.int .u8 (d.ae 4),.int .u8 (d.ae 5),.int .u8 (d.ae 6),.int .u8 (d.ae 7)],.slice ka kn kc,.int .i64 s,.int .i64 r,.agg (ak .u8 8 pf)] w λv w1=>v=.tuple #[.agg #[.int .i64 d.many,.bool false,.int .u8 0,.int .u8 0,.int .u8 0,.int .u8 0,.int .u8 0,.int .u8 0,.int .u8 0,.int .u8 0],.agg (ak .u8 32 (jl kn kf s r d.ae)),.int .i64 0]/\Ch [] w w1:=by
 have h:oE mH 148 [.agg (DG d.many d.sG d.ae),.raw (.slice ka kn kc),.int .i64 s,.int .i64 r,.agg (ints 8 pf)] [] [.cn w] (cP 0 λv _ _=>v=.az [.agg (DG d.many false λ_=>0),.agg (ints 32 (jl kn kf s r d.ae)),.int .i64 0]):=by
  rw[Q_];unfold dpX;dsimp only;have hp:=(⟨VT,hs,J_,⟨tG,hG⟩,hk,by simp,λj hj=>iU hj⟩:X0 w s r d.ae ka kn kc kf d.ae);exact aU (λh=>by rw[ho]at h;cases h) λ_=>⟨kf,d.ae,hp,⟨pf,eF kn kf s r d.ae,⟨by simp,by simp,rfl,by decide,λj hj=>iU hj,λj hj=>iU hj⟩,aU (λh=>by rw[show kq 8 pf (eF kn kf s r d.ae)=true from hr]at h;cases h) λ_=>⟨kf,d.ae,hp,rfl⟩⟩⟩
 refine(iT wK h).mono ?_;rintro v w' ⟨x,ids,bl,ch,rfl,hl,S,rfl⟩;exact⟨by kernel_rfl,S.ch⟩
def dD (z:Sd.cN) (n:Int):Sd.cN:=
 if z.any=false then⟨true,n,1⟩
 else if z.high<n then⟨true,n,bits .or .u64 (u64.wrap (z.seen*2^(min (n-z.high).toNat 64))) 1⟩
 else if z.high-n<64 then⟨true,z.high,bits .or .u64 z.seen (u64.wrap ((1:Int)*2^(min (z.high-n).toNat 64)))⟩
 else z
def DJ (x y:Sd.cN):Bool:=!((x.any==y.any)&&((x.high==y.high)&&((x.seen==y.seen)&&true)))
theorem zv (x y:Sd.cN):DJ x y=false↔x=y:=by
 obtain⟨a,b,c⟩:=x;obtain⟨d,e,f⟩:=y;simp[DJ]
theorem ah5 (z:Sd.cN) (n:Int) (h0:0<=z.high/\z.high<=4294967295) (h1:0<=n/\n<=4294967295) (w:World):
 aj prog 194 #[.agg (jm z),.int .i64 n] w λv w1=>v=.agg (jm (dD z n))/\Ch [] w w1:=by
 have S0:=St.nil [] w;refine dz Tryz.func194 rfl ?_;refine au (ax ?_);refine eD S0 (λb=>.pointer (some ⟨b,0,none⟩)) (.cells (jm z) 152) ?_;intro de sH i_;refine eD i_ (λb=>.pointer (some ⟨b,0,none⟩)) (.cells #[.bool false,.int .i64 0,.int .u64 0] 152) ?_;intro iG Dn gw;refine aw (ag (au (wp_block (au (ax ?_)))));refine aa (.int .i64 n) ?_;refine gV (.bool (decide (n<0))) (.bool false) (congrArg Value.bool (ltF (by omega))) ?_;refine aa (.bool false) ?_;refine aa (.int .i64 n) ?_;refine gV (.bool (decide (4294967295<n))) (.bool false) (congrArg Value.bool (ltF (by omega))) ?_;refine aa (.bool false) ?_;refine aa (.bool false) ?_;refine aw (ag (iu ?_));refine au (ax ?_);refine aa (.pointer (some ⟨de,0,none⟩)) ?_;refine ir gw 1 (.bool z.any) de 0 ?_;refine aa (.bool (!z.any)) ?_;refine aa (.bool (!z.any)) ?_;refine aw (ag ?_);refine jH (!z.any) ?_ ?_
 ·intro Xq;have Jv:=OW Xq;refine ax ?_;refine aa (.int .i64 n) ?_;refine aa (.agg #[.bool true,.int .i64 n,.int .u64 1]) ?_;refine store_ gw 1 (.agg #[.bool true,.int .i64 n,.int .u64 1]) de 0 ?_;intro zw9 MD;refine aw (ik (ag (au (ax ?_))));refine eC MD 1 3 #[.bool true,.int .i64 n,.int .u64 1] de 0 ?_;refine store_ MD 0 (.agg #[.bool true,.int .i64 n,.int .u64 1]) iG 0 ?_;intro agR tp;refine aw (ag (wp_ret ?_));refine gn rfl (fY [.cell 4 152] [.agg #[.bool true,.int .i64 n,.int .u64 1]] (.agg #[.bool true,.int .i64 n,.int .u64 1]) ⟨cU tp 0 3 iG 0,trivial⟩) ?_;have ze:dD z n=(⟨true,n,1⟩:Sd.cN):=by unfold dD;(repeat' split)<;>first|rfl|omega|(simp_all;done)|(simp_all;omega)|(cases z;simp_all)
  exact⟨by(rw[ze])<;>rfl,tp.ch⟩
 intro oD;have yK:=OX oD;refine au (ax ?_);refine aa (.int .i64 n) ?_;refine aa (.pointer (some ⟨de,1,none⟩)) ?_;refine ir gw 1 (.int .i64 z.high) de 1 ?_;refine aa (.bool (decide (z.high<n))) ?_;refine bJ ?_;refine aw (ag ?_);refine jH (decide (z.high<n)) ?_ ?_
 ·intro lV;have k7:=FC lV;refine au (ax ?_);refine aa (.pointer (some ⟨de,2,none⟩)) ?_;refine ir gw 1 (.int .u64 z.seen) de 2 ?_;refine aa (.int .i64 n) ?_;refine lz .u64 n (IntWalk.u64_in _ (by omega)) ?_;refine aa (.pointer (some ⟨de,1,none⟩)) ?_;refine ir gw 1 (.int .i64 z.high) de 1 ?_;refine lz .u64 z.high (IntWalk.u64_in _ (by omega)) ?_;refine lz .u64 (n-z.high) (IntWalk.u64_in _ (by omega)) ?_;refine Pf .u64 .u64 z.seen (n-z.high) (by omega) ?_;refine aa (.int .u64 (bits .or .u64 (u64.wrap (z.seen*2^(min ((n-z.high)).toNat 64))) 1)) ?_;refine aa (.pointer (some ⟨de,2,none⟩)) ?_;refine store_ gw 1 (.int .u64 (bits .or .u64 (u64.wrap (z.seen*2^(min ((n-z.high)).toNat 64))) 1)) de 2 ?_;intro anE alM;refine aw (ag (ax ?_));refine aa (.int .i64 n) ?_;refine aa (.pointer (some ⟨de,1,none⟩)) ?_;refine store_ alM 1 (.int .i64 n) de 1 ?_;intro anF uJ;refine aw (ik (ag (au (ax ?_))));refine eC uJ 1 3 #[.bool z.any,.int .i64 n,.int .u64 (bits .or .u64 (u64.wrap (z.seen*2^(min ((n-z.high)).toNat 64))) 1)] de 0 ?_;refine store_ uJ 0 (.agg #[.bool z.any,.int .i64 n,.int .u64 (bits .or .u64 (u64.wrap (z.seen*2^(min ((n-z.high)).toNat 64))) 1)]) iG 0 ?_;intro adB yM;refine aw (ag (wp_ret ?_));refine gn rfl (fY [.cell 4 152] [.agg #[.bool z.any,.int .i64 n,.int .u64 (bits .or .u64 (u64.wrap (z.seen*2^(min ((n-z.high)).toNat 64))) 1)]] (.agg #[.bool z.any,.int .i64 n,.int .u64 (bits .or .u64 (u64.wrap (z.seen*2^(min ((n-z.high)).toNat 64))) 1)]) ⟨cU yM 0 3 iG 0,trivial⟩) ?_;have ze:dD z n=(⟨z.any,n,(bits .or .u64 (u64.wrap (z.seen*2^(min ((n-z.high)).toNat 64))) 1)⟩:Sd.cN):=by unfold dD;(repeat' split)<;>first|rfl|omega|(simp_all;done)|(simp_all;omega)|(cases z;simp_all)
  exact⟨by(rw[ze])<;>rfl,yM.ch⟩
 intro uK;have wz:=FE uK;refine au (ax ?_);refine aa (.pointer (some ⟨de,1,none⟩)) ?_;refine ir gw 1 (.int .i64 z.high) de 1 ?_;refine aa (.int .i64 n) ?_;refine lz .i64 (z.high-n) (IntWalk.i64_in _ (by omega)) ?_;refine aa (.bool (decide ((z.high-n)<64))) ?_;refine bJ ?_;refine aw (ag ?_);refine jH (decide ((z.high-n)<64)) ?_ ?_
 ·intro Qf;have tz:=FC Qf;refine lE 7 [⟨0,λ_=>.pointer (some ⟨de,2,none⟩),λ_=>[]⟩,⟨0,λ_=>.int .u64 z.seen,λ_=>[]⟩,⟨0,λ_=>.pointer (some ⟨de,1,none⟩),λ_=>[]⟩,⟨0,λ_=>.int .i64 z.high,λ_=>[]⟩,⟨0,λ_=>.int .i64 n,λ_=>[]⟩,⟨0,λ_=>.int .i64 (z.high-n),λ_=>[]⟩,⟨0,λ_=>.int .u64 (u64.wrap ((1:Int)*2^(min ((z.high-n)).toNat 64))),λ_=>[]⟩] [[7,1,0],[7,1],[7,6,5,3,2],[7,6,5,3],[7,6,5,4],[7,6,5],[7,6],[8,0],[8,1],[8,2],[8,3],[8,4],[8,5],[8,6],[8,7],[9,0],[9,1],[9,2],[9,3],[9,4],[9,5],[9,6],[9,7],[9,8]] ?_ ?_
  ·refine step_cons sD ?_;refine step_cons (qL_ gw 1 de 2) ?_;refine step_cons sD ?_;refine step_cons (qL_ gw 1 de 1) ?_;refine step_cons sD ?_;refine step_cons (qS_ .i64 (z.high-n) (IntWalk.i64_in _ (by omega))) ?_;refine step_cons ?_ ?_
   ·intro alN anG ah6 anf ah7;have uO:alN 47=.int .i64 (z.high-n):=(Sp.dt (ah7 5 47 (by kernel_rfl) (by kernel_rfl))).1;have AL:=gw.quiet ah6;refine kP ?_;refine mR [(47,.int .i64 (z.high-n))] (eu uO (iy)) ?_;have XC:=AL.loc;refine Y.Pf .u64 .i64 1 (z.high-n) (by omega) ?_;exact⟨XC.ch,Sp.eO [] (all_nil)⟩
   exact jK
  intro GJ anH ah8 wL;have wA:GJ 0=.pointer (some ⟨de,2,none⟩):=(Sp.dt (wL 0 (by kernel_rfl))).1;have uQ:GJ 1=.int .u64 z.seen:=(Sp.dt (wL 1 (by kernel_rfl))).1;have tv:GJ 2=.pointer (some ⟨de,1,none⟩):=(Sp.dt (wL 2 (by kernel_rfl))).1;have Qw:GJ 3=.int .i64 z.high:=(Sp.dt (wL 3 (by kernel_rfl))).1;have Qh:GJ 4=.int .i64 n:=(Sp.dt (wL 4 (by kernel_rfl))).1;have adL:GJ 5=.int .i64 (z.high-n):=(Sp.dt (wL 5 (by kernel_rfl))).1;have adM:GJ 6=.int .u64 (u64.wrap ((1:Int)*2^(min ((z.high-n)).toNat 64))):=(Sp.dt (wL 6 (by kernel_rfl))).1;have Dv:=gw.quiet ah8;refine⟨[.pointer (some ⟨de,2,none⟩),.int .u64 z.seen,.pointer (some ⟨de,1,none⟩),.int .i64 z.high,.int .i64 n,.int .i64 (z.high-n),.int .u64 (u64.wrap ((1:Int)*2^(min ((z.high-n)).toNat 64)))],by kernel_rfl,aL wA (aL uQ (aL tv (aL Qw (aL Qh (aL adL (aL adM (sO))))))),?_⟩;refine aa (.int .u64 (bits .or .u64 z.seen (u64.wrap ((1:Int)*2^(min ((z.high-n)).toNat 64))))) ?_;refine aa (.pointer (some ⟨de,2,none⟩)) ?_;refine store_ Dv 1 (.int .u64 (bits .or .u64 z.seen (u64.wrap ((1:Int)*2^(min ((z.high-n)).toNat 64))))) de 2 ?_;intro alO X1;refine aw (ik (ag (au (ax ?_))));refine eC X1 1 3 #[.bool z.any,.int .i64 z.high,.int .u64 (bits .or .u64 z.seen (u64.wrap ((1:Int)*2^(min ((z.high-n)).toNat 64))))] de 0 ?_;refine store_ X1 0 (.agg #[.bool z.any,.int .i64 z.high,.int .u64 (bits .or .u64 z.seen (u64.wrap ((1:Int)*2^(min ((z.high-n)).toNat 64))))]) iG 0 ?_;intro agX ah9;refine aw (ag (wp_ret ?_));refine gn rfl (fY [.cell 4 152] [.agg #[.bool z.any,.int .i64 z.high,.int .u64 (bits .or .u64 z.seen (u64.wrap ((1:Int)*2^(min ((z.high-n)).toNat 64))))]] (.agg #[.bool z.any,.int .i64 z.high,.int .u64 (bits .or .u64 z.seen (u64.wrap ((1:Int)*2^(min ((z.high-n)).toNat 64))))]) ⟨cU ah9 0 3 iG 0,trivial⟩) ?_;have ze:dD z n=(⟨z.any,z.high,(bits .or .u64 z.seen (u64.wrap ((1:Int)*2^(min ((z.high-n)).toNat 64))))⟩:Sd.cN):=by unfold dD;(repeat' split)<;>first|rfl|omega|(simp_all;done)|(simp_all;omega)|(cases z;simp_all)
  exact⟨by(rw[ze])<;>rfl,ah9.ch⟩
 intro alP;have Mw:=FE alP;refine wp_skip (ik (ag (au (ax ?_))));refine eC gw 1 3 (jm z) de 0 ?_;refine store_ gw 0 (.agg (jm z)) iG 0 ?_;intro anI ah_;refine aw (ag (wp_ret ?_));refine gn rfl (fY [.cell 4 152] [.agg (jm z)] (.agg (jm z)) ⟨cU ah_ 0 3 iG 0,trivial⟩) ?_;have ze:dD z n=z:=by unfold dD;(repeat' split)<;>first|rfl|omega|(simp_all;done)|(simp_all;omega)|(cases z;simp_all)
 exact⟨by(rw[ze])<;>rfl,ah_.ch⟩
theorem aia (z:Sd.cN) (n:Int) (h0:0<=z.high/\z.high<=4294967295) (h1:0<=n/\n<=4294967295) (w:World):
 aj prog 151 #[.agg (jm z),.int .i64 n] w λv w1=>v=.tuple #[.agg (jm (dD z n)),.bool (DJ (dD z n) z)]/\Ch [] w w1:=by
 have S0:=St.nil [] w;refine dz Tryz.func151 rfl ?_;refine au (ax ?_);refine eD S0 (λb=>.pointer (some ⟨b,0,none⟩)) (.cells (jm z) 152) ?_;intro de sH i_;refine eD i_ (λb=>.pointer (some ⟨b,0,none⟩)) (.cells #[.bool false,.int .i64 0,.int .u64 0] 152) ?_;intro iG Dn gw;refine aa (.bool false) ?_;refine aw (ag (au (ax ?_)));refine eC gw 1 3 (jm z) de 0 ?_;refine aa (.int .i64 n) ?_;refine dh 194 #[.agg (jm z),.int .i64 n] ?_;refine(ah5 z n (by omega) (by omega) _).mono ?_;rintro _ Tp ⟨rfl,Jv⟩;have uL:=gw.quiet Jv;refine eD uL (λb=>.pointer (some ⟨b,0,none⟩)) (.cells #[.bool false,.int .i64 0,.int .u64 0] 152) ?_;intro uM agR tp;refine store_ tp 0 (.agg (jm (dD z n))) uM 0 ?_;intro acY qR;refine aw (ag (au ?_));have zD:=qR.aa6 1 0 3 (b:=iG) (by kernel_rfl);refine I1 qR 5 4 1 iG 0 [] (.agg (jm (dD z n))) [.agg (jm (dD z n)),.agg (jm (dD z n)),.agg (jm z),.bool (!(((dD z n).any==z.any)&&(((dD z n).high==z.high)&&(((dD z n).seen==z.seen)&&true)))),undef] [[5,0],[5,1],[5,2],[5,3],[5,4]] (bZ (ZB zD 0 uM 0 3 (jm (dD z n))) (bZ (ZB zD 0 uM 0 3 (jm (dD z n))) (bZ (ZB zD 1 de 0 3 (jm z)) (bZ (NN (h:=funext λ_=>Wq true (((dD z n).any==z.any)&&(((dD z n).high==z.high)&&(((dD z n).seen==z.seen)&&true))) (jm (dD z n)) (jm z) (by rfl))) (bZ (eW_ qR 1 (.agg (jm (dD z n))) iG 0) (sQ)))))) ?_;intro Mt tq;refine bJ ?_;refine aw (ag (wp_ret ?_));refine gn rfl (fY [.cell 4 152,.tmp 5] [.agg (jm (dD z n)),.bool (!(((dD z n).any==z.any)&&(((dD z n).high==z.high)&&(((dD z n).seen==z.seen)&&true))))] (.tuple #[.agg (jm (dD z n)),.bool (!(((dD z n).any==z.any)&&(((dD z n).high==z.high)&&(((dD z n).seen==z.seen)&&true))))]) ⟨cU tq 1 3 iG 0,cM,trivial⟩) ?_;exact⟨rfl,tq.ch⟩
end Go.Proofs.YtggfpcggakghnaaGreatDoor
namespace Sd
structure GK (b:Prop) (r:Rec):Prop where
 kind:1<=r.kind/\r.kind<=12
 source:0<=r.source/\r.source<=4
 seq:0<=r.seq/\r.seq<=4294967295
 epoch:0<=r.epoch/\r.epoch<=65535
 code:b->0<=r.code/\r.code<=255
 how:0<=r.how/\r.how<=6
structure jU (r:Reply):Prop where
 kind:129<=r.kind/\r.kind<=136
 seq:0<=r.seq/\r.seq<=4294967295
 role:0<=r.role/\r.role<=3
 fT:0<=r.fT/\r.fT<=4
 epoch:0<=r.epoch/\r.epoch<=65535
 code:0<=r.code/\r.code<=255
 ae:∀j,0<=r.ae j/\r.ae j<=255
 alQ:r.kind≠131/\r.kind≠132->r.seq=0
 aib:r.kind≠130->r.role=0
 alR:r.kind≠130/\r.kind≠134/\r.kind≠135/\r.kind≠136->r.fT=0
 adN:r.kind≠130/\r.kind≠133/\r.kind≠134/\r.kind≠135->r.epoch=0
 aic:r.kind≠132/\r.kind≠136->r.code=0
 adO:r.kind≠129->r.ae=λ_=>0
def kr (x:Int×Reply):Prop:=(1<=x.1/\x.1<=3)/\jU x.2
structure Quiet (C:Crypt) (b:Prop) (s s':Scene):Prop where
 holder:s'.c.t.holder=s.c.t.holder
 epoch:s'.c.t.epoch=s.c.t.epoch
 p:s'.c.p=s.c.p
 recs:∃rs:List Rec,s'.recs=s.recs++rs/\(∀r∈rs,r.kind≠8/\r.epoch=s.c.t.epoch/\GK b r)/\s'.c.head=rs.foldl C.next s.c.head
 sent:∃ts:List (Int×Reply),s'.sent=s.sent++ts/\∀x∈ts,kr x
theorem Quiet.refl (C:Crypt) (b:Prop) (s:Scene):Quiet C b s s:=⟨rfl,rfl,rfl,⟨[],by simp,by simp,rfl⟩,⟨[],by simp,by simp⟩⟩
theorem Quiet.trans {C:Crypt} {b:Prop} {s t u:Scene} (h:Quiet C b s t) (k:Quiet C b t u):Quiet C b s u:=by
 obtain⟨rs,r1,r2,r3⟩:=h.recs;obtain⟨qs,q1,q2,q3⟩:=k.recs;obtain⟨ts,t1,t2⟩:=h.sent;obtain⟨us,u1,u2⟩:=k.sent;refine⟨k.holder.trans h.holder,k.epoch.trans h.epoch,k.p.trans h.p,⟨rs++qs,by rw[q1,r1,List.append_assoc],?_,by rw[q3,r3,List.foldl_append]⟩,⟨ts++us,by rw[u1,t1,List.append_assoc],?_⟩⟩
 ·intro r hr;rcases List.mem_append.1 hr with hr|hr
  ·exact r2 r hr
  ·have:=q2 r hr;rw[h.epoch]at this;exact this
 ·intro x hx;rcases List.mem_append.1 hx with hx|hx
  ·exact t2 x hx
  ·exact u2 x hx
namespace Scene
@[simp] theorem tell_c (s:Scene) (l:Int) (r:Reply):(s.tell l r).c=s.c:=rfl
@[simp] theorem tell_recs (s:Scene) (l:Int) (r:Reply):(s.tell l r).recs=s.recs:=rfl
@[simp] theorem tell_sent (s:Scene) (l:Int) (r:Reply):(s.tell l r).sent=s.sent++[(l,r)]:=rfl
@[simp] theorem hear_c (s:Scene) (l:Int) (r:Reply):(s.hear l r).c=s.c:=by unfold hear;split<;>rfl
@[simp] theorem hear_recs (s:Scene) (l:Int) (r:Reply):(s.hear l r).recs=s.recs:=by unfold hear;split<;>rfl
@[simp] theorem gone_c (s:Scene) (l w c:Int):(s.gone l w c).c=s.c:=hear_c ..
@[simp] theorem gone_recs (s:Scene) (l w c:Int):(s.gone l w c).recs=s.recs:=hear_recs ..
@[simp] theorem done_c (s:Scene) (l n:Int):(s.done l n).c=s.c:=rfl
@[simp] theorem done_recs (s:Scene) (l n:Int):(s.done l n).recs=s.recs:=rfl
@[simp] theorem record_t (C:Crypt) (s:Scene) (k a n e h:Int):(s.record C k a n e h).c.t=s.c.t:=rfl
@[simp] theorem record_p (C:Crypt) (s:Scene) (k a n e h:Int):(s.record C k a n e h).c.p=s.c.p:=rfl
@[simp] theorem record_q (C:Crypt) (s:Scene) (k a n e h:Int):(s.record C k a n e h).c.q=s.c.q:=rfl
@[simp] theorem record_tab (C:Crypt) (s:Scene) (k a n e h:Int):(s.record C k a n e h).c.tab=s.c.tab:=rfl
@[simp] theorem record_sent (C:Crypt) (s:Scene) (k a n e h:Int):(s.record C k a n e h).sent=s.sent:=rfl
@[simp] theorem record_recs (C:Crypt) (s:Scene) (k a n e h:Int):(s.record C k a n e h).recs=s.recs++[⟨k,a,n,s.c.t.epoch,e,h⟩]:=rfl
theorem jV {C:Crypt} {b:Prop} {s:Scene} {l:Int} {r:Reply} (h:kr (l,r)):Quiet C b s (s.tell l r):=
 ⟨rfl,rfl,rfl,⟨[],by simp,by simp,rfl⟩,⟨[(l,r)],rfl,by simpa using h⟩⟩
theorem fP {C:Crypt} {b:Prop} {s:Scene} {l:Int} {r:Reply} (h:jU r):Quiet C b s (s.hear l r):=by
 unfold hear;split
 ·rename_i hh;refine jV ⟨?_,h⟩;simp[linked]at hh;exact hh.1
 ·exact Quiet.refl ..
theorem bR {C:Crypt} {b:Prop} {s:Scene} {k a n e h:Int} (hk:k≠8) (hb:GK b ⟨k,a,n,s.c.t.epoch,e,h⟩):Quiet C b s (s.record C k a n e h):=
 ⟨rfl,rfl,rfl,⟨[⟨k,a,n,s.c.t.epoch,e,h⟩],rfl,by simpa using⟨hk,hb⟩,rfl⟩,⟨[],by simp,by simp⟩⟩
theorem aS {C:Crypt} {b:Prop} {s:Scene} {c:Core} (h1:c.t.holder=s.c.t.holder) (h2:c.t.epoch=s.c.t.epoch) (h3:c.p=s.c.p) (h4:c.head=s.c.head):Quiet C b s {s with c:=c}:=
 ⟨h1,h2,h3,⟨[],by simp,by simp,h4⟩,⟨[],by simp,by simp⟩⟩
end Scene
theorem Inv.head {c:Core} (h:Inv c) (x:Byt):Inv {c with head:=x}:=⟨h.p,h.tok,h.q,h.tab,h.samples,h.mode,h.doors⟩
theorem Inv.record {C:Crypt} {s:Scene} (h:Inv s.c) (k a n e w:Int):Inv (s.record C k a n e w).c:=h.head _
theorem Inv.tell {s:Scene} (h:Inv s.c) (l:Int) (r:Reply):Inv (s.tell l r).c:=h
theorem Inv.hear {s:Scene} (h:Inv s.c) (l:Int) (r:Reply):Inv (s.hear l r).c:=by rw[Scene.hear_c];exact h
theorem LN.drop {p:Pol} {t:Tab} {h h':Int} {q:List Ask} (k:LN p t h q) (s:Int) (hh:∀a∈q,a.source≠s->a.source≠h'):LN p t h' (Q.drop q s) where
 each:=by
  intro a ha;simp only[Q.drop,List.mem_filter,decide_eq_true_eq]at ha;obtain⟨a1,a2,a3,a4,a5,a6⟩:=k.each a ha.1;exact⟨a1,a2,a3,a4,hh a ha.1 ha.2,a6⟩
 sorted:=k.sorted.filter _
 len:=by have:=List.length_filter_le (λa:Ask=>decide (a.source≠s)) q;have:=k.len;unfold Q.drop;omega
theorem iP.pass {p:Pol} {tab:Tab} {t:Tok} (hp:cK p) {bx e:Int} (ht:0<=bx/\bx<=4) (he:p.epoch<=e/\e<=65535):iP p tab (t.pass bx e):=
 ⟨ht,he,.inl rfl,.inl ⟨rfl,rfl⟩⟩
structure A1 (C:Crypt) (b:Prop) (s s':Scene) (how:Int):Prop where
 p:s'.c.p=s.c.p
 holder:s'.c.t.holder≠s.c.t.holder
 offer:s'.c.t.offer=-1
 epoch:(s.c.t.epoch<65535/\s'.c.t.epoch=s.c.t.epoch+1)\/(s.c.t.epoch=65535/\s'.c.t.epoch=65535/\how=6)
 recs:∃(pre:List Rec) (n:Int) (post:List Rec),s'.recs=s.recs++(pre++⟨8,s'.c.t.holder,n,s'.c.t.epoch,0,how⟩::post)/\
  (∀r∈pre,r.kind≠8/\r.epoch=s.c.t.epoch/\GK b r)/\GK b ⟨8,s'.c.t.holder,n,s'.c.t.epoch,0,how⟩/\
  (∀r∈post,r.kind≠8/\r.epoch=s'.c.t.epoch/\GK b r)/\
  s'.c.head=(pre++⟨8,s'.c.t.holder,n,s'.c.t.epoch,0,how⟩::post).foldl C.next s.c.head
 sent:∃ts:List (Int×Reply),s'.sent=s.sent++ts/\∀x∈ts,kr x
theorem Quiet.goes {C:Crypt} {b:Prop} {s t u:Scene} {how:Int} (h:Quiet C b s t) (k:A1 C b t u how):A1 C b s u how:=by
 obtain⟨rs,r1,r2,r3⟩:=h.recs;obtain⟨pre,n,post,q1,q2,q3,q4,q5⟩:=k.recs;obtain⟨ts,t1,t2⟩:=h.sent;obtain⟨us,u1,u2⟩:=k.sent;refine⟨k.p.trans h.p,by rw[<-h.holder];exact k.holder,k.offer,by have:=k.epoch;rw[h.epoch]at this;exact this,⟨rs++pre,n,post,by rw[q1,r1];simp,?_,q3,q4,by rw[q5,r3];simp[List.foldl_append]⟩,⟨ts++us,by rw[u1,t1,List.append_assoc],?_⟩⟩
 ·intro r hr;rcases List.mem_append.1 hr with hr|hr
  ·exact r2 r hr
  ·have:=q2 r hr;rw[h.epoch]at this;exact this
 ·intro x hx;rcases List.mem_append.1 hx with hx|hx
  ·exact t2 x hx
  ·exact u2 x hx
theorem A1.quiet {C:Crypt} {b:Prop} {s t u:Scene} {how:Int} (h:A1 C b s t how) (k:Quiet C b t u) (ho:u.c.t.offer=-1):A1 C b s u how:=by
 obtain⟨pre,n,post,q1,q2,q3,q4,q5⟩:=h.recs;obtain⟨rs,r1,r2,r3⟩:=k.recs;obtain⟨ts,t1,t2⟩:=h.sent;obtain⟨us,u1,u2⟩:=k.sent;refine⟨k.p.trans h.p,by rw[k.holder];exact h.holder,ho,by rw[k.epoch];exact h.epoch,⟨pre,n,post++rs,by rw[r1,q1,k.holder,k.epoch];simp,q2,by rw[k.holder,k.epoch];exact q3,?_,by rw[r3,q5,k.holder,k.epoch,<-List.foldl_append];simp⟩,⟨ts++us,by rw[u1,t1,List.append_assoc],?_⟩⟩
 ·intro r hr;rw[k.epoch];rcases List.mem_append.1 hr with hr|hr
  ·exact q4 r hr
  ·exact r2 r hr
 ·intro x hx;rcases List.mem_append.1 hx with hx|hx
  ·exact t2 x hx
  ·exact u2 x hx
namespace Scene
@[simp] theorem goes_t (C:Crypt) (s:Scene) (t:Tok) (h n:Int):(s.goes C t h n).c.t=t:=by simp[goes]
@[simp] theorem goes_p (C:Crypt) (s:Scene) (t:Tok) (h n:Int):(s.goes C t h n).c.p=s.c.p:=by simp[goes]
@[simp] theorem goes_q (C:Crypt) (s:Scene) (t:Tok) (h n:Int):(s.goes C t h n).c.q=Q.drop s.c.q t.holder:=by simp[goes]
@[simp] theorem goes_tab (C:Crypt) (s:Scene) (t:Tok) (h n:Int):(s.goes C t h n).c.tab=s.c.tab:=by simp[goes]
theorem wM (C:Crypt) (s:Scene) (t:Tok) (h n:Int):∃x,(s.goes C t h n).c={s.c with t:=t,q:=Q.drop s.c.q t.holder,head:=x}:=by
 refine⟨(s.goes C t h n).c.head,?_⟩;simp[goes,record]
theorem GL {fT e:Int} (h:0<=fT/\fT<=4) (he:0<=e/\e<=65535):jU {kind:=134,fT:=fT,epoch:=e}:=by
 constructor<;>simp<;>omega
theorem DK {e:Int} (he:0<=e/\e<=65535):jU {kind:=133,epoch:=e}:=by
 constructor<;>simp<;>omega
theorem DL {fT e:Int} (h:0<=fT/\fT<=4) (he:0<=e/\e<=65535):jU {kind:=135,fT:=fT,epoch:=e}:=by
 constructor<;>simp<;>omega
theorem jW {fT c:Int} (h:0<=fT/\fT<=4) (hc:0<=c/\c<=255):jU {kind:=136,fT:=fT,code:=c}:=by
 constructor<;>simp<;>omega
theorem Rc {n:Int} (h:0<=n/\n<=4294967295):jU {kind:=131,seq:=n}:=by
 constructor<;>simp<;>omega
theorem GM {n c:Int} (h:0<=n/\n<=4294967295) (hc:0<=c/\c<=255):jU {kind:=132,seq:=n,code:=c}:=by
 constructor<;>simp<;>omega
theorem yO {r w e:Int} (h:0<=r/\r<=3) (hw:0<=w/\w<=4) (he:0<=e/\e<=65535):jU {kind:=130,role:=r,fT:=w,epoch:=e}:=by
 constructor<;>simp<;>omega
theorem DM {n:Byt} (h:∀j,0<=n j/\n j<=255):jU {kind:=129,ae:=n}:=by
 constructor<;>simp<;>omega
theorem k8 {C:Crypt} {b:Prop} {s:Scene} {t:Tok} {how n:Int} (hh:0<=t.holder/\t.holder<=4) (hn:t.holder≠s.c.t.holder) (ho:t.offer=-1)
 (he:(s.c.t.epoch<65535/\t.epoch=s.c.t.epoch+1)\/(s.c.t.epoch=65535/\t.epoch=65535/\how=6)) (hs:0<=s.c.t.epoch)
 (aid:0<=how/\how<=6) (anJ:0<=n/\n<=4294967295):A1 C b s (s.goes C t how n) how:=by
 have et:0<=t.epoch/\t.epoch<=65535:=by omega
 have q2:Quiet C b ({s with c:={s.c with t:=t,q:=Q.drop s.c.q t.holder}}:Scene) ((({s with c:={s.c with t:=t,q:=Q.drop s.c.q t.holder}}:Scene).hear s.c.t.holder {kind:=134,fT:=t.holder,epoch:=t.epoch}).hear t.holder {kind:=133,epoch:=t.epoch}):=
  (fP (GL hh et)).trans (fP (DK et))
 obtain⟨ts,t1,t2⟩:=q2.sent;exact⟨by simp,by simpa using hn,by simpa using ho,by simpa using he,
  ⟨[],n,[],by simp[goes],by simp,by constructor<;>simp<;>omega,by simp,by simp[goes,record]⟩,
  ⟨ts,by simpa[goes]using t1,t2⟩⟩
end Scene
theorem qX {t:Tok} {bx:Int} (h:(t.bz bx).2=0):(t.bz bx).1=t.pass bx (t.epoch+1)/\0<=bx/\bx<=4/\bx≠t.holder/\t.epoch<65535:=by
 unfold Tok.bz at*;split at h
 ·simp at h
 ·split at h
  ·simp at h
  ·split at h
   ·simp at h
   ·rename_i a b c;simp[a,b,c];omega
theorem lZ (t:Tok) (bx:Int):0<=(t.bz bx).2/\(t.bz bx).2<=25:=by
 unfold Tok.bz;split<;>(try split)<;>(try split)<;>simp
structure wN (m:bW):Prop where
 kind:1<=m.kind/\m.kind<=11
 seq:0<=m.seq/\m.seq<=4294967295
 role:0<=m.role/\m.role<=3
 bx:0<=m.bx/\m.bx<=4
 epoch:0<=m.epoch/\m.epoch<=65535
 mode:0<=m.mode/\m.mode<=4
 cls:0<=m.cls/\m.cls<=3
 ang:m.kind=11->1<=m.cls
def oQ (X2 now:Core) (kind link how:Int):Prop:=
 (how=1/\kind=0/\X2.t.offer=now.t.holder/\link=now.t.holder)\/
 (how=2/\kind<2/\(∃a l,X2.q=a::l/\a.source=now.t.holder)/\(kind=1↔X2.t.holder=0))\/
 (how=3/\kind=0/\link=now.t.holder/\cu X2.p now.t.holder X2.t.holder=true/\X2.t.bad=false)\/
 (how=4/\kind=1/\now.t.holder=0)\/
 (how=5/\kind=3/\now.tab.on X2.t.holder=false/\now.tab.on now.t.holder=true)\/
 (how=6/\now.t.holder=4/\((kind=2/\now.t.bad=true)\/(kind=3/\X2.t.epoch=65535/\now.tab.on X2.t.holder=false)))
structure l5 (C:Crypt) (b:Prop) (s s':Scene) (kind link:Int):Prop where
 inv:Inv s'.c
 GN:Quiet C b s s'\/∃how,A1 C b s s' how/\oQ s.c s'.c kind link how
theorem l5.cD {C:Crypt} {b:Prop} {s s':Scene} {kind link:Int} (h:Inv s'.c) (q:Quiet C b s s'):l5 C b s s' kind link:=⟨h,.inl q⟩
theorem Inv.A2 {c:Core} (h:Inv c) {t:Tok} {q:List Ask} (ht:iP c.p c.tab t) (hq:LN c.p c.tab t.holder q):Inv {c with t:=t,q:=q}:=
 ⟨h.p,ht,hq,h.tab,h.samples,h.mode,h.doors⟩
theorem Inv.goes {C:Crypt} {s:Scene} (h:Inv s.c) {t:Tok} {how n:Int} (ht:iP s.c.p s.c.tab t):Inv (s.goes C t how n).c:=by
 obtain⟨x,hx⟩:=Scene.wM C s t how n;rw[hx];exact(h.A2 ht (h.q.drop t.holder (λa _ ha=>ha))).head x
variable{C:Crypt} {b:Prop} {s:Scene} {l:Int} {m:bW}
theorem Inv.eW {c:Core} (h:Inv c):0<=c.t.epoch/\c.t.epoch<=65535:=by have:=h.tok.epoch;have:=h.p.epoch;omega
theorem l6 {n e:Int} (h:Inv s.c) (hl:1<=l/\l<=3) (hn:0<=n/\n<=4294967295) (he:0<=e/\e<=255):Quiet C b s (s.refuse C l n e):=by
 have:=h.eW;exact(Scene.jV ⟨hl,Scene.GM hn he⟩).trans (Scene.bR (by simp) (by constructor<;>simp<;>omega))
theorem fg {n e kind link:Int} (h:Inv s.c) (hl:1<=l/\l<=3) (hn:0<=n/\n<=4294967295) (he:0<=e/\e<=255):l5 C b s (s.refuse C l n e) kind link:=
 .cD (h.head _) (l6 h hl hn he)
theorem qY {e:Int} (h:Inv s.c) (hl:1<=l/\l<=3) (he:b->0<=e/\e<=255):Quiet C b s (s.dp C l e):=by
 have:=h.eW;exact Scene.bR (by simp) (by constructor<;>simp<;>first|omega|exact he)
theorem jX {e kind link:Int} (h:Inv s.c) (hl:1<=l/\l<=3) (he:b->0<=e/\e<=255):l5 C b s (s.dp C l e) kind link:=
 .cD (h.head _) (qY h hl he)
theorem wO {n:Int} (hl:1<=l/\l<=3) (hn:0<=n/\n<=4294967295):Quiet C b s (s.done l n):=Scene.jV ⟨hl,Scene.Rc hn⟩
theorem iV {t:Scene} {n kind link:Int} (h:l5 C b s t kind link) (hl:1<=l/\l<=3) (hn:0<=n/\n<=4294967295):l5 C b s (t.done l n) kind link:=
 ⟨h.inv,h.GN.imp (λq=>q.trans (wO hl hn)) (λ⟨how,g,k⟩=>⟨how,g.quiet (wO hl hn) g.offer,k⟩)⟩
theorem MV (p:Pol) (t:Tok) (f o:Int) (th:Bool):0<=(t.make p f o th).2/\(t.make p f o th).2<=28:=by
 unfold Tok.make;repeat' split
 all_goals simp
theorem X3 {p:Pol} {t:Tok} {f o:Int} {th:Bool} (h:(t.make p f o th).2=0):
 (t.make p f o th).1={t with offer:=o,oa:=.start p.offer}/\f=t.holder/\t.epoch<65535/\o≠f/\1<=o/\o<=3/\th=true/\t.offer<0:=by
 unfold Tok.make at*;split at h
 ·simp at h
 split at h
 ·simp at h
 split at h
 ·simp at h
 split at h
 ·simp at h
 split at h
 ·simp at h
 rename_i h1 h2 h3 h4 h5;have h6:th=true:=by
  cases th
  ·exact absurd (.inr (.inr rfl)) h4
  ·rfl
 rw[if_neg h1,if_neg h2,if_neg h3,if_neg h4,if_neg h5];exact⟨rfl,by simpa using h1,by omega,h3,by omega,by omega,h6,by omega⟩
theorem DN (t:Tok) (f e:Int):0<=(t.accept f e).2/\(t.accept f e).2<=28:=by
 unfold Tok.accept;split
 ·simp
 split
 ·simp
 have:=lZ t f;omega
theorem MW {t:Tok} {f e:Int} (h:(t.accept f e).2=0):
 (t.accept f e).1=t.pass f (t.epoch+1)/\t.offer=f/\e=t.epoch/\0<=f/\f<=4/\f≠t.holder/\t.epoch<65535:=by
 unfold Tok.accept at*;split at h
 ·simp at h
 split at h
 ·simp at h
 rename_i h1 h2;obtain⟨g1,g2,g3,g4,g5⟩:=qX h;have h3:t.offer=f:=by
  by_cases hx:t.offer=f
  ·exact hx
  ·exact absurd (.inr hx) h1
 rw[if_neg h1,if_neg h2];exact⟨g1,h3,by simpa using h2,g2,g3,g4,g5⟩
theorem MX (t:Tok) (f:Int):0<=(t.fJ f).2/\(t.fJ f).2<=28:=by
 unfold Tok.fJ;split<;>simp
theorem X5 {t:Tok} {f:Int} (h:(t.fJ f).2=0):(t.fJ f).1=t.bG/\t.offer=f:=by
 unfold Tok.fJ at*;split at h
 ·simp at h
 rename_i h1;rw[if_neg h1];refine⟨rfl,?_⟩;by_cases hx:t.offer=f
 ·exact hx
 ·exact absurd (.inr hx) h1
theorem MY (h:Inv s.c) (hl:1<=l/\l<=3) (hm:wN m):l5 C b s (s.offer C l m) 0 l:=by
 have he:=h.eW;unfold Scene.offer;dsimp only;split
 ·have:=MV s.c.p s.c.t l m.bx (s.c.tab.on m.bx);exact fg h hl hm.seq (by omega)
 rename_i hz;obtain⟨g1,g2,g3,g4,g5,g6,g7,g8⟩:=X3 (by simpa using hz);rw[g1];refine iV ?_ hl hm.seq;have ht:iP s.c.p s.c.tab {s.c.t with offer:=m.bx,oa:=Timer.start s.c.p.offer}:=
  ⟨h.tok.holder,h.tok.epoch,.inr ⟨g5,g6,by simp;omega,g7,by simp[Timer.start];have:=h.p.offer;omega,by simp[Timer.start],by simp[Timer.start];have:=h.p.offer;omega⟩,h.tok.lost⟩
 refine .cD ?_ ?_
 ·exact Inv.record (Inv.hear (s:=s.da _) (h.A2 ht h.q) _ _) ..
 ·have hh:=h.tok.holder;refine Quiet.trans (t:=s.da {s.c.t with offer:=m.bx,oa:=Timer.start s.c.p.offer}) (Scene.aS rfl rfl rfl rfl) ?_;refine Quiet.trans (Scene.fP (Scene.DL (by omega) (by simpa using he))) (Scene.bR (by simp) ?_);have:=hm.seq;constructor<;>simp[Scene.da]<;>omega
theorem GO (h:Inv s.c) (hl:1<=l/\l<=3) (hm:wN m):l5 C b s (s.accept C l m) 0 l:=by
 have he:=h.eW;unfold Scene.accept;dsimp only;split
 ·have:=DN s.c.t l m.epoch;exact fg h hl hm.seq (by omega)
 rename_i hz;obtain⟨g1,g0,ge,g2,g3,g4,g5⟩:=MW (by simpa using hz);rw[g1];refine iV ⟨?_,.inr ⟨1,?_,?_⟩⟩ hl hm.seq
 ·exact h.goes (iP.pass h.p (by omega) (by have:=h.tok.epoch;omega))
 ·exact Scene.k8 (by simp[Tok.pass];omega) (by simpa[Tok.pass]using g4) rfl (.inl ⟨g5,rfl⟩) he.1 (by simp) hm.seq
 ·exact .inl ⟨rfl,rfl,by simpa[Tok.pass]using g0,by simp[Tok.pass]⟩
theorem Re (h:Inv s.c) (hl:1<=l/\l<=3) (hm:wN m):l5 C b s (s.fJ C l m) 0 l:=by
 have he:=h.eW;unfold Scene.fJ;dsimp only;split
 ·have:=MX s.c.t l;exact fg h hl hm.seq (by omega)
 rename_i hz;obtain⟨g1,g2⟩:=X5 (by simpa using hz);rw[g1];refine iV ?_ hl hm.seq;have ht:iP s.c.p s.c.tab s.c.t.bG:=⟨h.tok.holder,h.tok.epoch,.inl rfl,h.tok.lost⟩;refine .cD ?_ ?_
 ·exact Inv.record (Inv.hear (s:=s.da _) (h.A2 ht h.q) _ _) ..
 ·refine Quiet.trans (t:=s.da s.c.t.bG) (Scene.aS rfl rfl rfl rfl) ?_;refine Quiet.trans (Scene.fP (Scene.jW (by omega) (by simp))) (Scene.bR (by simp) ?_);have:=hm.seq;constructor<;>simp[Scene.da,Tok.bG]<;>omega
end Sd
namespace Sd
theorem mem_insert {q:List Ask} {a x:Ask}:x∈Q.insert q a↔x=a\/x∈q:=by
 unfold Q.insert;rw[List.mem_append,List.mem_cons];have:=List.takeWhile_append_dropWhile (p:=λx:Ask=>decide (x.aV<=a.aV)) (l:=q);constructor
 ·rintro(h|h|h)
  ·exact .inr (List.takeWhile_prefix _|>.subset h)
  ·exact .inl h
  ·exact .inr (List.dropWhile_suffix _|>.subset h)
 ·rintro(h|h)
  ·exact .inr (.inl h)
  ·rw[<-this,List.mem_append]at h;rcases h with h|h
   ·exact .inl h
   ·exact .inr (.inr h)
theorem length_insert (q:List Ask) (a:Ask):(Q.insert q a).length=q.length+1:=by
 have:=congrArg List.length (List.takeWhile_append_dropWhile (p:=λx:Ask=>decide (x.aV<=a.aV)) (l:=q));simp only[List.length_append]at this;simp only[Q.insert,List.length_append,List.length_cons];omega
theorem DO (y:Ask) (q:List Ask) (a:Ask):Q.insert (y::q) a=if y.aV<=a.aV then y::Q.insert q a else a::y::q:=by
 unfold Q.insert;simp only[List.takeWhile_cons,List.dropWhile_cons];by_cases h:y.aV<=a.aV<;>simp[h]
theorem insert_sorted {q:List Ask} {a:Ask} (h:q.Pairwise λa b=>a.aV<b.aV) (hn:∀x∈q,x.aV≠a.aV):(Q.insert q a).Pairwise λa b=>a.aV<b.aV:=by
 induction q with
 |nil=>simp[Q.insert]
 |cons y q ih=>
  rw[DO];rw[List.pairwise_cons]at h;have hy:=hn y (by simp);split
  ·rw[List.pairwise_cons];refine⟨λx hx=>?_,ih h.2 (λx hx=>hn x (by simp[hx]))⟩;rcases mem_insert.1 hx with rfl|hx
   ·omega
   ·exact h.1 x hx
  ·rw[List.pairwise_cons,List.pairwise_cons];refine⟨λx hx=>?_,h.1,h.2⟩;rcases List.mem_cons.1 hx with rfl|hx
   ·omega
   ·have:=h.1 x hx;omega
theorem MZ (most:Int) (q:List Ask) (a:Ask):0<=(Q.push most q a).2/\(Q.push most q a).2<=27:=by
 unfold Q.push;repeat' split
 all_goals simp
theorem X6 {most:Int} {q:List Ask} {a:Ask} (h:(Q.push most q a).2=0):(Q.push most q a).1=Q.insert q a/\Q.waits q a.source=false/\(q.length:Int)<most:=by
 unfold Q.push at*;split at h
 ·simp at h
 split at h
 ·simp at h
 rename_i h1 h2;rw[if_neg h1,if_neg h2];exact⟨rfl,by simpa using h1,by omega⟩
theorem M0 {q:List Ask} {s:Int} (h:Q.waits q s=false):∀x∈q,x.source≠s:=by
 intro x hx e;have:Q.waits q s=true:=by unfold Q.waits;rw[List.any_eq_true];exact⟨x,hx,by simp[e]⟩
 rw[this]at h;cases h
theorem LN.insert {p:Pol} {t:Tab} {h:Int} {q:List Ask} (hp:cK p) (k:LN p t h q) {s:Int} (hs:1<=s/\s<=3) (tD:t.on s=true) (hh:s≠h)
 (hw:Q.waits q s=false) (hl:(q.length:Int)<p.queue):LN p t h (Q.insert q ⟨s,aV p s,.start p.ask⟩) where
 each:=by
  intro a ha;rcases mem_insert.1 ha with rfl|ha
  ·have:=hp.ask;refine⟨rfl,hs.1,hs.2,tD,hh,?_,?_,?_⟩<;>simp[Timer.start]<;>omega
  ·exact k.each a ha
 sorted:=insert_sorted k.sorted (λx hx e=>by
  have h1:=k.each x hx;have h2:=M0 hw x hx;rw[h1.1]at e;exact h2 (y_ hp (by omega) (by omega) e))
 len:=by rw[length_insert];omega
theorem Rf {p:Pol} {t:Tok} {most:Int} {q:List Ask} {f:Int} {now:Bool}:0<=(cv p t most q f now).2.2.1/\(cv p t most q f now).2.2.1<=29:=by
 unfold cv;have h1:=lZ t f;have h2:=MZ most q ⟨f,aV p f,.start p.ask⟩
 repeat' split
 all_goals first|(simp;done)|(simp;omega)|omega
theorem adP {p:Pol} {t:Tok} {most:Int} {q:List Ask} {f:Int} {now:Bool} (h:(cv p t most q f now).2.2.1=0):
 t.bad=false/\f≠t.holder/\t.epoch<65535/\
 ((cv p t most q f now=(t.pass f (t.epoch+1),3,0,Q.drop q f)/\0<=f/\f<=4/\(t.holder=4\/cu p f t.holder=true))\/
  (cv p t most q f now=(t,0,0,Q.insert q ⟨f,aV p f,.start p.ask⟩)/\Q.waits q f=false/\(q.length:Int)<most/\t.holder≠4/\now=false)):=by
 unfold cv at*;split at h
 ·simp at h
 split at h
 ·simp at h
 split at h
 ·simp at h
 rename_i h1 h2 h3;rw[if_neg h1,if_neg h2,if_neg h3];refine⟨by simpa using h1,h2,by omega,?_⟩;split at h
 ·rename_i h4;rw[if_pos h4];split at h
  ·rename_i h5;exact absurd h h5
  ·rename_i h5;rw[if_neg h5];obtain⟨g1,g2,g3,g4,g5⟩:=qX (by simpa using h5);exact .inl ⟨by rw[g1],g2,g3,h4.imp id And.right⟩
 ·rename_i h4;rw[if_neg h4];split at h
  ·simp at h
  ·rename_i h5;rw[if_neg h5];obtain⟨g1,g2,g3⟩:=X6 h;refine .inr ⟨?_,g2,g3,λe=>h4 (.inl e),by simpa using h5⟩;rw[g1];exact Prod.ext rfl (Prod.ext rfl (Prod.ext h rfl))
theorem A3 (t:Tok) (q:List Ask):0<=(bg t q).2.1/\(bg t q).2.1<=25:=by
 unfold bg;split
 ·simp
 ·rename_i a l;have:=lZ t a.source;split<;>first|(simp;done)|(simp;omega)|omega
theorem GP {t:Tok} {q:List Ask} (h:(bg t q).2.1=0):
 ∃a l,q=a::l/\bg t q=(t.pass a.source (t.epoch+1),0,Q.drop q a.source)/\0<=a.source/\a.source<=4/\a.source≠t.holder/\t.epoch<65535:=by
 unfold bg at*;split at h
 ·simp at h
 ·rename_i a l;split at h
  ·rename_i h5;exact absurd h h5
  ·rename_i h5;obtain⟨g1,g2,g3,g4,g5⟩:=qX (by simpa using h5);refine⟨a,l,rfl,?_,g2,g3,g4,g5⟩;show(if(t.bz a.source).2≠0 then _ else _)=_;rw[if_neg h5,g1]
theorem qZ (t:Tok) (q:List Ask) (f:Int):0<=(dy t q f).2.1/\(dy t q f).2.1<=25:=by
 unfold dy;have:=A3 t q
 repeat' split
 all_goals first|(simp;done)|(simp;omega)|omega
theorem wP {t:Tok} {q:List Ask} {f:Int} (h:(dy t q f).2.1=0):
 f=t.holder/\∃a l,q=a::l/\dy t q f=(t.pass a.source (t.epoch+1),0,Q.drop q a.source)/\0<=a.source/\a.source<=4/\a.source≠t.holder/\t.epoch<65535:=by
 unfold dy at*;split at h
 ·simp at h
 split at h
 ·simp at h
 rename_i h1 h2;rw[if_neg h1,if_neg h2];exact⟨by simpa using h1,GP h⟩
variable{C:Crypt} {b:Prop} {s:Scene} {l:Int} {m:bW}
theorem nr {kind link how n f:Int} {q:List Ask} (h:Inv s.c) (hf:0<=f/\f<=4) (hq:∃x,q=Q.drop s.c.q x) (e_:f≠s.c.t.holder) (he:s.c.t.epoch<65535)
 (aid:0<=how/\how<=6) (hn:0<=n/\n<=4294967295)
 (hk:oQ s.c (Scene.goes C ({s with c:={s.c with q:=q}}:Scene) (s.c.t.pass f (s.c.t.epoch+1)) how n).c kind link how):
 l5 C b s (Scene.goes C ({s with c:={s.c with q:=q}}:Scene) (s.c.t.pass f (s.c.t.epoch+1)) how n) kind link:=by
 have e0:=h.eW;obtain⟨x,rfl⟩:=hq;have h1:Inv ({s.c with q:=Q.drop s.c.q x}:Core):=⟨h.p,h.tok,h.q.drop x (λa ha hx=>(h.q.each a ha).2.2.2.2.1),h.tab,h.samples,h.mode,h.doors⟩;refine⟨?_,.inr ⟨how,?_,hk⟩⟩
 ·exact Inv.goes (s:={s with c:={s.c with q:=Q.drop s.c.q x}}) h1 (iP.pass h.p hf (by have:=h.tok.epoch;omega))
 ·have q0:Quiet C b s ({s with c:={s.c with q:=Q.drop s.c.q x}}:Scene):=Scene.aS rfl rfl rfl rfl;exact q0.goes (Scene.k8 (by simp[Tok.pass];omega) (by simpa[Tok.pass]using e_) rfl (.inl ⟨he,rfl⟩) e0.1 aid hn)
theorem DP (h:Inv s.c) (hl:1<=l/\l<=3) (hm:wN m):l5 C b s (s.release C l m) 0 l:=by
 unfold Scene.release;dsimp only;split
 ·have h2:=qZ s.c.t s.c.q l;exact fg h hl hm.seq ⟨h2.1,Int.le_trans h2.2 (by decide)⟩
 rename_i hz;obtain⟨g0,a,r,g1,g2,g3,g4,g5,g6⟩:=wP (by simpa using hz);rw[g2];refine iV (nr h ⟨g3,g4⟩ ⟨_,rfl⟩ g5 g6 (by simp) hm.seq ?_) hl hm.seq;refine .inr (.inl ⟨rfl,by simp,⟨a,r,g1,by simp[Tok.pass]⟩,?_⟩);simp;omega
theorem X7 (h:Inv s.c) (hl:1<=l/\l<=3) (hm:wN m) (tD:s.c.tab.on l=true):l5 C b s (s.ask C l m) 0 l:=by
 have e0:=h.eW;unfold Scene.ask;dsimp only;split
 ·have h2:=@Rf s.c.p s.c.t s.c.p.queue s.c.q l m.now;exact fg h hl hm.seq ⟨h2.1,Int.le_trans h2.2 (by decide)⟩
 rename_i hz;obtain⟨g1,g2,g3,g4⟩:=adP (by simpa using hz);refine iV ?_ hl hm.seq;rcases g4 with⟨g4,g5,g6,g7⟩|⟨g4,g5,g6,g7⟩
 ·rw[g4];rw[if_pos (by simp)];refine nr h ⟨g5,g6⟩ ⟨_,rfl⟩ g2 g3 (by simp) hm.seq ?_;refine .inr (.inr (.inl ⟨rfl,rfl,by simp[Tok.pass],?_,g1⟩));simp only[Scene.goes_t,Tok.pass];rcases g7 with g7|g7
  ·rw[g7,LJ h.p (by omega) (by omega)];simpa using acd h.p (by omega)
  ·exact g7
 ·rw[g4];rw[if_neg (by simp)];refine .cD ?_ ?_
  ·refine Inv.record (s:=({s with c:={s.c with q:=Q.insert s.c.q ⟨l,aV s.c.p l,Timer.start s.c.p.ask⟩}}:Scene).da s.c.t) (h.A2 h.tok ?_) ..;exact h.q.insert h.p hl tD g2 g5 g6
  ·refine Quiet.trans (t:=({s with c:={s.c with q:=Q.insert s.c.q ⟨l,aV s.c.p l,Timer.start s.c.p.ask⟩}}:Scene).da s.c.t) (Scene.aS rfl rfl rfl rfl) (Scene.bR (by simp) ?_);have:=hm.seq;constructor<;>simp[Scene.da]<;>omega
theorem pJ (p:Pol) (t:Tok) (a r mo:Int) (m:bW):0<=fM p t a r mo m/\fM p t a r mo m<=23:=by
 unfold fM;by_cases h1:m.kind≠10/\m.kind≠11
 ·rw[if_pos h1];simp
 rw[if_neg h1];by_cases h2:a≠t.holder
 ·rw[if_pos h2];simp
 rw[if_neg h2];by_cases h3:m.epoch≠t.epoch
 ·rw[if_pos h3];simp
 rw[if_neg h3];by_cases h4:may p mo r (if m.kind=10 then 0 else m.cls)=false
 ·rw[if_pos h4];simp
 rw[if_neg h4];by_cases h5:m.kind=10/\Sd.goes p mo m.mode=false
 ·rw[if_pos h5];simp
 ·rw[if_neg h5];simp
theorem DQ (h:Inv s.c) (hl:1<=l/\l<=3) (hm:wN m):l5 C b s (s.command C l m) 0 l:=by
 have e0:=h.eW;unfold Scene.command;dsimp only;split
 ·have:=pJ s.c.p s.c.t l (s.c.tab.role l) s.c.mode m;exact fg h hl hm.seq (by omega)
 refine iV ?_ hl hm.seq;have:=hm.seq;split
 ·refine .cD (Inv.head (c:={s.c with mode:=m.mode,bj:=_}) ⟨h.p,h.tok,h.q,h.tab,h.samples,hm.mode,h.doors⟩ _) ?_;refine Quiet.trans (t:={s with c:={s.c with mode:=m.mode,bj:=⟨1,l,m.seq⟩}}) (Scene.aS rfl rfl rfl rfl) (Scene.bR (by simp) ?_);constructor<;>simp<;>omega
 ·refine .cD (Inv.head (c:={s.c with pt:=s.c.pt.set s.c.p m.cls m.x ⟨1,l,m.seq⟩}) ⟨h.p,h.tok,h.q,h.tab,h.samples,h.mode,h.doors⟩ _) ?_;refine Quiet.trans (t:={s with c:={s.c with pt:=s.c.pt.set s.c.p m.cls m.x ⟨1,l,m.seq⟩}}) (Scene.aS rfl rfl rfl rfl) (Scene.bR (by simp) ?_);constructor<;>simp<;>omega
end Sd
namespace Sd
variable{C:Crypt} {b:Prop} {s:Scene} {l:Int} {m:bW}
theorem q_ (t:Tok) (x:Int):(t.drop x).1.holder=t.holder/\(t.drop x).1.epoch=t.epoch/\(t.drop x).1.la=t.la/\(t.drop x).1.bad=t.bad/\
 ((t.drop x).1=t/\(t.drop x).2=false/\(t.offer<0\/t.offer≠x)\/(t.drop x).1=t.bG/\(t.drop x).2=true/\t.offer=x):=by
 unfold Tok.drop;split
 ·rename_i h;exact⟨rfl,rfl,rfl,rfl,.inl ⟨rfl,rfl,h⟩⟩
 ·rename_i h;refine⟨rfl,rfl,rfl,rfl,.inr ⟨rfl,rfl,?_⟩⟩;by_cases hx:t.offer=x
  ·exact hx
  ·exact absurd (.inr hx) h
theorem A4 (C:Crypt) (s:Scene) (x:Int):∃hd,(s.leave C x).c={s.c with q:=Q.drop s.c.q x,t:=(s.c.t.drop x).1,head:=hd}:=by
 unfold Scene.leave;dsimp only;rcases(q_ s.c.t x).2.2.2.2 with⟨h1,h2,_⟩|⟨h1,h2,_⟩
 ·rw[if_pos h2,h1];exact⟨s.c.head,rfl⟩
 ·rw[if_neg (by rw[h2];simp)];refine⟨C.next s.c.head ⟨12,x,0,(s.c.t.drop x).1.epoch,16,0⟩,?_⟩;rw[show∀(y:Scene) (k a n e w:Int),(y.record C k a n e w).c={y.c with head:=C.next y.c.head ⟨k,a,n,y.c.t.epoch,e,w⟩}from λ_ _ _ _ _ _=>rfl];simp only[Scene.gone_c]
theorem uo {x:Int} (hx:1<=x/\x<=3) (he:0<=s.c.t.epoch/\s.c.t.epoch<=65535):Quiet C b s (s.leave C x):=by
 unfold Scene.leave;dsimp only;have q0:Quiet C b s ({s with c:={s.c with q:=Q.drop s.c.q x}}:Scene):=Scene.aS rfl rfl rfl rfl;have hd:=q_ s.c.t x;split
 ·exact q0
 ·refine q0.trans (Quiet.trans (t:=({s with c:={s.c with q:=Q.drop s.c.q x,t:=(s.c.t.drop x).1}}:Scene)) (Scene.aS hd.1 hd.2.1 rfl rfl) ?_);refine Quiet.trans (Scene.fP (Scene.jW (by omega) (by simp))) (Scene.bR (by simp) ?_);have e:(({s with c:={s.c with q:=Q.drop s.c.q x,t:=(s.c.t.drop x).1}}:Scene).hear (s.c.t.drop x).1.holder {kind:=136,fT:=x,code:=16}).c.t.epoch=s.c.t.epoch:=by
   rw[Scene.hear_c];exact hd.2.1
  constructor<;>first|(dsimp only;rw[e];exact he)|(simp;done)|(simp;omega)
theorem Inv.leave {T:Tab} {x:Int} (h:Inv {s.c with tab:=T}):Inv {(s.leave C x).c with tab:=T}/\(s.leave C x).c.tab=s.c.tab/\(s.leave C x).c.p=s.c.p/\
 (s.leave C x).c.q=Q.drop s.c.q x/\(s.leave C x).c.t.offer≠x/\((s.leave C x).c.t.offer=s.c.t.offer\/(s.leave C x).c.t.offer=-1)/\(s.leave C x).c.t.holder=s.c.t.holder\/x<0:=by
 by_cases hx:x<0
 ·exact .inr hx
 refine .inl ?_;obtain⟨hd,e⟩:=A4 C s x;have hdr:=q_ s.c.t x;rw[e];refine⟨?_,rfl,rfl,rfl,?_,?_,hdr.1⟩
 ·have ht:iP s.c.p T (s.c.t.drop x).1:=by
   rcases hdr.2.2.2.2 with⟨h1,_,_⟩|⟨h1,_,_⟩
   ·rw[h1];exact h.tok
   ·rw[h1];exact⟨h.tok.holder,h.tok.epoch,.inl rfl,h.tok.lost⟩
  exact⟨h.p,ht,h.q.drop x (λa ha _=>by show a.source≠(s.c.t.drop x).1.holder;rw[hdr.1];exact(h.q.each a ha).2.2.2.2.1),h.tab,h.samples,h.mode,h.doors⟩
 ·show(s.c.t.drop x).1.offer≠x;rcases hdr.2.2.2.2 with⟨h1,_,h2⟩|⟨h1,_,_⟩
  ·rw[h1];omega
  ·rw[h1];simp[Tok.bG];omega
 ·show(s.c.t.drop x).1.offer=s.c.t.offer\/(s.c.t.drop x).1.offer=-1;rcases hdr.2.2.2.2 with⟨h1,_,h2⟩|⟨h1,_,_⟩
  ·rw[h1];exact .inl rfl
  ·rw[h1];exact .inr rfl
theorem Inv.nt {c:Core} {T:Tab} (h:Inv {c with tab:=T}) (e:c.tab=T):Inv c:=by subst e;exact h
theorem Inv.JN {c:Core} {T T':Tab} (h:Inv {c with tab:=T}) (ht:zb c.p T') (hq:∀a∈c.q,T'.on a.source=true) (ho:0<=c.t.offer->T'.on c.t.offer=true):Inv {c with tab:=T'}:=
 ⟨h.p,⟨h.tok.holder,h.tok.epoch,h.tok.offer.imp id (λ⟨a,b,d,_,f⟩=>⟨a,b,d,ho (Int.le_trans (by decide) a),f⟩),h.tok.lost⟩,
  ⟨λa ha=>⟨(h.q.each a ha).1,(h.q.each a ha).2.1,(h.q.each a ha).2.2.1,hq a ha,(h.q.each a ha).2.2.2.2⟩,h.q.sorted,h.q.len⟩,ht,h.samples,h.mode,h.doors⟩
theorem GQ {t:Tab} {i:Nat} {x:bm} {u:Int} (hu:u.toNat-1≠i):(t.dT i x).on u=t.on u:=by
 simp[Tab.on,Tab.cZ,Tab.dT,hu]
theorem l7 {t:Tab} {u:Int} {i:Nat} {x:bm} (h:t.on u=true) (hx:x.on=true):(t.dT i x).on u=true:=by
 unfold Tab.on Tab.cZ Tab.dT at*;split at h
 ·rename_i h1;rw[if_pos h1]
 ·rename_i h1;rw[if_neg h1];split at h
  ·rename_i h2;rw[if_pos h2];exact h
  ·rename_i h2;rw[if_neg h2];simp only[Bool.and_eq_true]at h⊢;refine⟨h.1,?_⟩;split
   ·exact hx
   ·exact h.2
theorem M1 {p:Pol} {t:Tab} (h:zb p t) (l:Int):zb p (t.end_ l):=by
 unfold Tab.end_;split
 ·refine⟨h.aA,λi hi tD=>?_⟩;unfold Tab.dT at*;dsimp only at*;split at tD
  ·cases tD
  ·rename_i e_;rw[if_neg e_];exact h.ay i hi tD
 ·exact h
theorem Rg {t:Tab} {l u:Int} (hl:1<=l/\l<=3) (hu:u≠l) (h:t.on u=true):(t.end_ l).on u=true:=by
 unfold Tab.end_;split
 ·by_cases h1:u=4
  ·simp[Tab.on,h1]
  by_cases h2:u=0
  ·subst h2;simpa[Tab.on,Tab.dT]using h
  have h3:1<=u/\u<=3:=by
   unfold Tab.on Tab.cZ at h;rw[if_neg h1,if_neg h2]at h;simp at h;exact h.1
  rw[GQ (by omega)];exact h
 ·exact h
theorem X8 (h:Inv s.c) (hl:1<=l/\l<=3) (hm:wN m):l5 C b s (s.En C l m) 0 l:=by
 have e0:=h.eW;unfold Scene.En;refine iV ?_ hl hm.seq;have hq:Quiet C b s ((({s with c:={s.c with tab:=s.c.tab.end_ l}}:Scene).leave C l)):=
  Quiet.trans (t:=({s with c:={s.c with tab:=s.c.tab.end_ l}}:Scene)) (Scene.aS rfl rfl rfl rfl) (uo hl e0)
 have hs:=hm.seq;refine .cD ?_ (hq.trans (Scene.bR (by simp) ?_))
 ·refine Inv.record ?_ ..;rcases Inv.leave (C:=C) (s:=({s with c:={s.c with tab:=s.c.tab.end_ l}}:Scene)) (T:=s.c.tab) (x:=l) h with⟨h1,h2,h3,h4,h5,h6,h7⟩|hx
  ·refine Inv.nt (T:=s.c.tab.end_ l) (Inv.JN h1 (T':=s.c.tab.end_ l) (by simpa[h3]using M1 h.tab l) ?_ ?_) h2
   ·intro a ha;have VH:a∈Q.drop s.c.q l:=by simpa[h4]using ha
    simp only[Q.drop,List.mem_filter,decide_eq_true_eq]at VH;exact Rg hl VH.2 (h.q.each a VH.1).2.2.2.1
   ·intro ho;refine Rg hl h5 ?_;rcases h6 with h6|h6
    ·rcases h.tok.offer with h9|⟨_,_,_,h9,_⟩
     ·simp at ho h6;omega
     ·simpa[h6]using h9
    ·simp[h6]at ho
  ·omega
 ·have e1:=hq.epoch;constructor<;>first|(dsimp only;rw[e1];exact e0)|(simp;done)|(simp;omega)
theorem alS {X:Scene} {r:Reply} {k a n e w:Int} (h:Quiet C b s X) (ht:kr (l,r)) (hk:k≠8) (hb:GK b ⟨k,a,n,X.c.t.epoch,e,w⟩):Quiet C b s ((X.tell l r).record C k a n e w):=
 h.trans (Quiet.trans (Scene.jV ht) (Scene.bR hk hb))
structure rf (C:Crypt):Prop where
 ae:∀k s n j,0<=C.ae k s n j/\C.ae k s n j<=255
 take:∀n f m,C.take n f=some m->wN m
 kS:∀w n,0<=w.high/\w.high<=4294967295->0<=n/\n<=4294967295->0<=(C.kS w n).high/\(C.kS w n).high<=4294967295
theorem DR {d:Nat->dQ} (h:Inv s.c) (hd:∀i,i<3->0<=(d i).many):Inv ({s.c with doors:=d}:Core)/\Quiet C b s ({s with c:={s.c with doors:=d}}:Scene):=
 ⟨⟨h.p,h.tok,h.q,h.tab,h.samples,h.mode,hd⟩,Scene.aS rfl rfl rfl rfl⟩
theorem zx {n:Nat} {f:Byt} (hC:rf C) (h:Inv s.c) (hl:1<=l/\l<=3):l5 C b s (s.gW C l n f) 0 l:=by
 have e0:=h.eW;unfold Scene.gW;split
 ·exact jX h hl (λ_=>by omega)
 rename_i m hm;split
 ·exact fg h hl (by omega) (by omega)
 dsimp only;split
 ·exact fg h hl (by omega) (by omega)
 have hd:=h.doors (l.toNat-1) (by omega);obtain⟨i1,q1⟩:=DR (C:=C) (b:=b) h (d:=λj=>if j=l.toNat-1 then⟨(s.c.doors (l.toNat-1)).many+1,true,C.ae (s.c.p.k 3) l ((s.c.doors (l.toNat-1)).many+1)⟩else s.c.doors j)
  (λi hi=>by split<;>first|(dsimp only;omega)|exact h.doors i hi)
 refine .cD (Inv.head i1 _) (q1.trans (Quiet.trans (Scene.jV ⟨hl,Scene.DM (hC.ae (s.c.p.k 3) l ((s.c.doors (l.toNat-1)).many+1))⟩) ?_));exact Scene.bR (by simp) (by constructor<;>simp<;>omega)
theorem Rh {p:Pol} {t:Tab} {s r:Int} {k:Byt} (h:(Tab.br p t s r k).2=0):
 (Tab.br p t s r k).1=t.dT (s.toNat-1) ⟨true,.start p.bh,r,k,⟨false,0,0⟩⟩/\1<=s/\s<=3/\0<=r/\r<=3:=by
 unfold Tab.br at*;split at h
 ·simp at h
 split at h
 ·simp at h
 rename_i h1 h2;rw[if_neg h1,if_neg h2];exact⟨rfl,by omega,by omega,by omega,by omega⟩
theorem GR (p:Pol) (t:Tab) (s r:Int) (k:Byt):0<=(Tab.br p t s r k).2/\(Tab.br p t s r k).2<=19:=by
 unfold Tab.br;repeat' split
 all_goals simp
theorem Inv.dT {c:Core} (h:Inv c) {i:Nat} {x:bm} (hx:x.on=true) (HD:x.aH.most=c.p.bh/\0<=x.aH.n/\x.aH.n<c.p.bh/\0<=x.role/\x.role<=3/\0<=x.seen.high/\x.seen.high<=4294967295):Inv {c with tab:=c.tab.dT i x}:=by
 refine Inv.JN (T:=c.tab) h ?_ (λa ha=>l7 (h.q.each a ha).2.2.2.1 hx) (λho=>?_)
 ·refine⟨h.tab.aA,λj hj tD=>?_⟩;unfold Tab.dT at*;dsimp only at*;split at tD
  ·rename_i e;rw[if_pos e];exact HD
  ·rename_i e;rw[if_neg e];exact h.tab.ay j hj tD
 ·rcases h.tok.offer with h1|⟨_,_,_,h1,_⟩
  ·omega
  ·exact l7 h1 hx
theorem ajT {n:Nat} {f:Byt} (hC:rf C) (h:Inv s.c) (hl:1<=l/\l<=3):l5 C b s (s.prove C l n f) 0 l:=by
 have e0:=h.eW;unfold Scene.prove;split
 ·exact jX h hl (λ_=>by omega)
 split
 ·exact jX h hl (λ_=>by omega)
 rename_i m hm;have hmb:=hC.take _ _ _ hm;dsimp only;split
 ·exact fg h hl (by omega) (by omega)
 have hd:=h.doors (l.toNat-1) (by omega);obtain⟨i1,q1⟩:=DR (C:=C) (b:=b) h (d:=λj=>if j=l.toNat-1 then⟨(s.c.doors (l.toNat-1)).many,false,λ_=>0⟩else s.c.doors j)
  (λi hi=>by split<;>first|(dsimp only;omega)|exact h.doors i hi)
 split
 ·exact⟨i1.head _,.inl (q1.trans (qY (s:=⟨_,_,_⟩) i1 hl (λ_=>by omega)))⟩
 split
 ·exact⟨i1.head _,.inl (q1.trans (l6 (s:=⟨_,_,_⟩) i1 hl (by omega) (by omega)))⟩
 split
 ·have h2:=GR s.c.p s.c.tab l m.role (C.key (s.c.p.k (l.toNat-1)) l m.role (s.c.doors (l.toNat-1)).ae);exact⟨i1.head _,.inl (q1.trans (l6 (s:=⟨_,_,_⟩) i1 hl (by omega) ⟨h2.1,Int.le_trans h2.2 (by decide)⟩))⟩
 rename_i hz;obtain⟨g1,g2,g3,g4,g5⟩:=Rh (by simpa using hz);have hb:=h.p.bh;have i2:=Inv.dT (c:={s.c with doors:=_}) i1 (i:=l.toNat-1) (x:=⟨true,.start s.c.p.bh,m.role,C.key (s.c.p.k (l.toNat-1)) l m.role (s.c.doors (l.toNat-1)).ae,⟨false,0,0⟩⟩) rfl
  ⟨by simp[Timer.start];omega,by simp[Timer.start],by simp[Timer.start];omega,g4,g5,by simp,by simp⟩
 have hh:=h.tok.holder;rw[g1];refine .cD (Inv.head i2 _) (alS (q1.trans (Scene.aS rfl rfl rfl rfl)) ⟨hl,Scene.yO ⟨g4,g5⟩ hh e0⟩ (by simp) ?_);constructor<;>simp<;>omega
theorem JO {p:Pol} {t t':Tab} {l:Int} {n:Nat} {f:Byt} {m:bW} (hC:rf C) (h:Tab.take C p t l n f=(t',.ok m)):
 t.cZ l=true/\wN m/\m.kind≠1/\m.kind≠2/\
 t'=t.dT (l.toNat-1) {(t.ay (l.toNat-1))with seen:=C.kS (t.ay (l.toNat-1)).seen m.seq,on:=true,aH:=.start p.bh}:=by
 unfold Tab.take at h;split at h
 ·simp at h
 rename_i h1;split at h
 ·simp at h
 split at h
 ·simp at h
 rename_i m' hm;split at h
 ·simp at h
 split at h
 ·simp at h
 rename_i h2 h3;simp at h;obtain⟨rfl,rfl⟩:=h;exact⟨by simpa using h1,hC.take _ _ _ hm,by omega,by omega,rfl⟩
theorem wQ {p:Pol} {t t':Tab} {l:Int} {n:Nat} {f:Byt} {e:Int} (h:Tab.take C p t l n f=(t',.error e)):13<=e/\e<=16:=by
 unfold Tab.take at h;split at h
 ·simp at h;omega
 split at h
 ·simp at h;omega
 split at h
 ·simp at h;omega
 split at h
 ·simp at h;omega
 split at h
 ·simp at h;omega
 ·simp at h
theorem JQ (h:Inv s.c) (hl:1<=l/\l<=3) (hm:wN m) (tD:s.c.tab.on l=true) (h1:m.kind≠1) (h2:m.kind≠2):l5 C b s (s.u9 C l m) 0 l:=by
 have hk:=hm.kind;unfold Scene.u9;split
 ·exact iV (.cD h (Quiet.refl ..)) hl hm.seq
 split
 ·exact X8 h hl hm
 split
 ·exact X7 h hl hm tD
 split
 ·exact MY h hl hm
 split
 ·exact GO h hl hm
 split
 ·exact Re h hl hm
 split
 ·exact DP h hl hm
 split
 ·exact DQ h hl hm
 ·omega
theorem A5 {t:Tab} {l:Int} (hl:1<=l/\l<=3):t.on l=t.cZ l:=by
 unfold Tab.on;rw[if_neg (by omega),if_neg (by omega)]
theorem l5.nt {t:Scene} {T:Tab} {kind link:Int} (k:l5 C b ({s with c:={s.c with tab:=T}}:Scene) t kind link):l5 C b s t kind link:=
 ⟨k.inv,by
  rcases k.GN with q|⟨how,g,w⟩
  ·refine .inl (Quiet.trans ?_ q);exact Scene.aS rfl rfl rfl rfl
  ·refine .inr ⟨how,Quiet.goes ?_ g,w⟩;exact Scene.aS rfl rfl rfl rfl⟩
theorem DS {n:Nat} {f:Byt} {code:Int} (hC:rf C) (h:Inv s.c) (hl:1<=l/\l<=3) (hb:b->0<=code/\code<=255):l5 C b s (s.item C l code n f) 0 l:=by
 unfold Scene.item;split
 ·exact jX h hl hb
 split
 ·exact zx hC h hl
 split
 ·exact ajT hC h hl
 split
 ·rename_i t e he;have:=wQ he;exact jX h hl (λ_=>by omega)
 ·rename_i t m he;obtain⟨g1,g2,g3,g4,g5⟩:=JO hC he;have hb:=h.p.bh;have g1':s.c.tab.on l=true:=by rw[A5 hl];exact g1
  have i1:=h.dT (i:=l.toNat-1) (x:={(s.c.tab.ay (l.toNat-1))with seen:=C.kS (s.c.tab.ay (l.toNat-1)).seen m.seq,on:=true,aH:=.start s.c.p.bh}) rfl
   (by
    have tD:(s.c.tab.ay (l.toNat-1)).on=true:=by unfold Tab.cZ at g1;simp at g1;exact g1.2
    have:=h.tab.ay (l.toNat-1) (by omega) tD;have h9:=hC.kS (s.c.tab.ay (l.toNat-1)).seen m.seq ⟨by omega,by omega⟩ g2.seq;simp[Timer.start];omega)
  subst g5;exact l5.nt (JQ (s:=⟨{s.c with tab:=_},s.sent,s.recs⟩) i1 hl g2 (l7 g1' rfl) g3 g4)
end Sd
namespace Go.Proofs.YtggfpcggakghnaaGreatDoor
open Go Go.RowKit Go.BigFrame Sx
theorem tF (x y:Int) (hx:0<=x/\x<2^56) (hy:0<=y/\y<256):bits .or .u64 (u64.wrap (x*2^8)) y=x*256+y:=by
 have hw:u64.wrap (x*2^8)=x*256:=by rw[IntKind.wrap_u64];omega
 rw[hw];obtain⟨a,rfl⟩:∃a:Nat,x=a:=⟨x.toNat,by omega⟩;obtain⟨b,rfl⟩:∃b:Nat,y=b:=⟨y.toNat,by omega⟩;have ha:a<2^56:=by omega
 have hb:b<256:=by omega
 unfold bits;have h1:(BitVec.ofInt 64 ((a:Int)*256)).toNat=a*256:=by simp only[BitVec.toNat_ofInt];omega
 have h2:(BitVec.ofInt 64 (b:Int)).toNat=b:=by simp only[BitVec.toNat_ofInt];omega
 have h3:(a*256|||b)=a*256+b:=by
  have:=Nat.shiftLeft_add_eq_or_of_lt (i:=8) (b:=b) (by omega) a;rw[Nat.shiftLeft_eq]at this;exact this.symm
 show u64.wrap (((BitVec.ofInt 64 ((a:Int)*256)|||BitVec.ofInt 64 (b:Int)).toNat:Nat):Int)=_;rw[BitVec.toNat_or,h1,h2,h3,IntKind.wrap_u64];omega
theorem adQ (y:Int) (hy:0<=y/\y<256):bits .or .u64 0 y=y:=by
 have h:=tF 0 y (by omega) hy;rw[show u64.wrap (0*2^8)=0 from by decide]at h;rw[h];omega
def YQ (f:Nat->Int):Int:=f 0
def pL (f:Nat->Int):Int:=f 0*256+f 1
def Ka (f:Nat->Int):Int:=((f 0*256+f 1)*256+f 2)*256+f 3
def By (f:Nat->Int):Prop:=∀j,0<=f j/\f j<=255
theorem adR {f:Nat->Int} (h:By f):0<=YQ f/\YQ f<=255:=h 0
theorem Ri {f:Nat->Int} (h:By f):0<=pL f/\pL f<=65535:=by have:=h 0;have:=h 1;unfold pL;omega
theorem adS {f:Nat->Int} (h:By f):0<=Ka f/\Ka f<=4294967295:=by have:=h 0;have:=h 1;have:=h 2;have:=h 3;unfold Ka;omega
def oV (x:Int):Int:=if 32767<x then x-65536 else x
theorem X9 (b o c:Nat) (f:Nat->Int) (hf:By f) (w:World) (hB:eS w b o 1 f):
 aj prog 178 #[.slice (some ⟨b,o,none⟩) 1 c] w λv w1=>v=.tuple #[.int .u64 (YQ f),.int .i64 0]/\Ch [] w w1:=by
 have S0:=St.nil [] w;refine dz Tryz.func178 rfl ?_;refine au (ax ?_);refine aa (.int .u64 0) ?_;refine aa (.int .i64 0) ?_;refine aw (ag (au (au (ax ?_))));refine bY ?_;refine aa (.int .i64 1) ?_;refine aa (.bool false) ?_;refine aw (ag (iu ?_));refine wp_skip (ag (au (ax ?_)));refine aa (.int .u64 0) ?_;refine aw (ag (au (au (ax ?_))));refine bY ?_;refine aa (.int .i64 1) ?_;refine aa (.int .i64 0) ?_;refine aw (ag (wp_block (CD 24 (au (ax ?_)))));refine aa (.bool true) ?_;refine aw (ag (au (lB ?_)));refine wp_skip (ag (au (wp_block (au (ax ?_)))));refine aa (.int .i64 0) ?_;refine aa (.int .i64 0) ?_;refine aw (ag (ax ?_));refine aa (.int .u64 0) ?_;refine aa (.int .u64 0) ?_;refine bY ?_;refine aa (.int .i64 0) ?_;refine mw (e:=5) b o 0 1 1 c .i64 0 (by omega) (by omega) (by omega) ?_;refine kC b o 1 (o+0*1) 0 f (St.mC S0 hB (by simp)) (by omega) (by omega) ?_;have zh1:=hf 0;refine lz .u64 (f 0) (IntWalk.u64_in _ (by omega)) ?_;refine gV (.int .u64 (bits .or .u64 0 (f 0))) (.int .u64 (f 0)) (congrArg _ (adQ (f 0) (by omega))) ?_;refine aa (.int .u64 (f 0)) ?_;refine aw (ik (ag (ax ?_)));refine aa (.int .i64 1) ?_;refine aa (.int .i64 1) ?_;refine aw (lA (au (ax ?_)));refine aa (.bool false) ?_;refine aw (ag (au (iu ?_)));refine wp_exit (fy (fy (qh (ag (au (ax ?_))))));refine aa (.int .u64 (f 0)) ?_;refine aa (.int .u64 (f 0)) ?_;refine aa (.int .i64 0) ?_;refine aw (ag (wp_ret ?_));refine gn rfl (fY [.tmp 2,.tmp 3] [.int .u64 (f 0),.int .i64 0] (.tuple #[.int .u64 (f 0),.int .i64 0]) ⟨cM,cM,trivial⟩) ?_;exact⟨rfl,S0.ch⟩
theorem JR (b o c:Nat) (f:Nat->Int) (hf:By f) (w:World) (hB:eS w b o 2 f):
 aj prog 178 #[.slice (some ⟨b,o,none⟩) 2 c] w λv w1=>v=.tuple #[.int .u64 (pL f),.int .i64 0]/\Ch [] w w1:=by
 have S0:=St.nil [] w;refine dz Tryz.func178 rfl ?_;refine au (ax ?_);refine aa (.int .u64 0) ?_;refine aa (.int .i64 0) ?_;refine aw (ag (au (au (ax ?_))));refine bY ?_;refine aa (.int .i64 2) ?_;refine aa (.bool false) ?_;refine aw (ag (iu ?_));refine wp_skip (ag (au (ax ?_)));refine aa (.int .u64 0) ?_;refine aw (ag (au (au (ax ?_))));refine bY ?_;refine aa (.int .i64 2) ?_;refine aa (.int .i64 0) ?_;refine aw (ag (wp_block (CD 24 (au (ax ?_)))));refine aa (.bool true) ?_;refine aw (ag (au (lB ?_)));refine wp_skip (ag (au (wp_block (au (ax ?_)))));refine aa (.int .i64 0) ?_;refine aa (.int .i64 0) ?_;refine aw (ag (ax ?_));refine aa (.int .u64 0) ?_;refine aa (.int .u64 0) ?_;refine bY ?_;refine aa (.int .i64 0) ?_;refine mw (e:=5) b o 0 2 1 c .i64 0 (by omega) (by omega) (by omega) ?_;refine kC b o 2 (o+0*1) 0 f (St.mC S0 hB (by simp)) (by omega) (by omega) ?_;have zh1:=hf 0;refine lz .u64 (f 0) (IntWalk.u64_in _ (by omega)) ?_;refine gV (.int .u64 (bits .or .u64 0 (f 0))) (.int .u64 (f 0)) (congrArg _ (adQ (f 0) (by omega))) ?_;refine aa (.int .u64 (f 0)) ?_;refine aw (ik (ag (ax ?_)));refine aa (.int .i64 1) ?_;refine aa (.int .i64 1) ?_;refine aw (lA (au (ax ?_)));refine aa (.bool true) ?_;refine aw (ag (au (lB ?_)));refine wp_skip (ag (au (wp_block (au (ax ?_)))));refine aa (.int .i64 1) ?_;refine aa (.int .i64 1) ?_;refine aw (ag (ax ?_));refine aa (.int .u64 (f 0)) ?_;refine aa (.int .u64 (u64.wrap ((f 0)*2^8))) ?_;refine bY ?_;refine aa (.int .i64 1) ?_;refine mw (e:=5) b o 1 2 1 c .i64 1 (by omega) (by omega) (by omega) ?_;refine kC b o 2 (o+1*1) 1 f (St.mC S0 hB (by simp)) (by omega) (by omega) ?_;have zh2:=hf 1;refine lz .u64 (f 1) (IntWalk.u64_in _ (by omega)) ?_;refine gV (.int .u64 (bits .or .u64 (u64.wrap ((f 0)*2^8)) (f 1))) (.int .u64 ((f 0)*256+(f 1))) (congrArg _ (tF (f 0) (f 1) (by omega) (by omega))) ?_;refine bJ ?_;refine aw (ik (ag (ax ?_)));refine aa (.int .i64 2) ?_;refine aa (.int .i64 2) ?_;refine aw (lA (au (ax ?_)));refine aa (.bool false) ?_;refine aw (ag (au (iu ?_)));refine wp_exit (fy (fy (qh (ag (au (ax ?_))))));refine bY ?_;refine bJ ?_;refine aa (.int .i64 0) ?_;refine aw (ag (wp_ret ?_));refine gn rfl (fY [.tmp 2,.tmp 3] [.int .u64 ((f 0)*256+(f 1)),.int .i64 0] (.tuple #[.int .u64 ((f 0)*256+(f 1)),.int .i64 0]) ⟨cM,cM,trivial⟩) ?_;exact⟨rfl,S0.ch⟩
theorem X_ (b o c:Nat) (f:Nat->Int) (hf:By f) (w:World) (hB:eS w b o 4 f):
 aj prog 178 #[.slice (some ⟨b,o,none⟩) 4 c] w λv w1=>v=.tuple #[.int .u64 (Ka f),.int .i64 0]/\Ch [] w w1:=by
 have S0:=St.nil [] w;refine dz Tryz.func178 rfl ?_;refine au (ax ?_);refine aa (.int .u64 0) ?_;refine aa (.int .i64 0) ?_;refine aw (ag (au (au (ax ?_))));refine bY ?_;refine aa (.int .i64 4) ?_;refine aa (.bool false) ?_;refine aw (ag (iu ?_));refine wp_skip (ag (au (ax ?_)));refine aa (.int .u64 0) ?_;refine aw (ag (au (au (ax ?_))));refine bY ?_;refine aa (.int .i64 4) ?_;refine aa (.int .i64 0) ?_;refine aw (ag (wp_block (CD 24 (au (ax ?_)))));refine aa (.bool true) ?_;refine aw (ag (au (lB ?_)));refine wp_skip (ag (au (wp_block (au (ax ?_)))));refine aa (.int .i64 0) ?_;refine aa (.int .i64 0) ?_;refine aw (ag (ax ?_));refine aa (.int .u64 0) ?_;refine aa (.int .u64 0) ?_;refine bY ?_;refine aa (.int .i64 0) ?_;refine mw (e:=5) b o 0 4 1 c .i64 0 (by omega) (by omega) (by omega) ?_;refine kC b o 4 (o+0*1) 0 f (St.mC S0 hB (by simp)) (by omega) (by omega) ?_;have zh1:=hf 0;refine lz .u64 (f 0) (IntWalk.u64_in _ (by omega)) ?_;refine gV (.int .u64 (bits .or .u64 0 (f 0))) (.int .u64 (f 0)) (congrArg _ (adQ (f 0) (by omega))) ?_;refine aa (.int .u64 (f 0)) ?_;refine aw (ik (ag (ax ?_)));refine aa (.int .i64 1) ?_;refine aa (.int .i64 1) ?_;refine aw (lA (au (ax ?_)));refine aa (.bool true) ?_;refine aw (ag (au (lB ?_)));refine wp_skip (ag (au (wp_block (au (ax ?_)))));refine aa (.int .i64 1) ?_;refine aa (.int .i64 1) ?_;refine aw (ag (ax ?_));refine aa (.int .u64 (f 0)) ?_;refine aa (.int .u64 (u64.wrap ((f 0)*2^8))) ?_;refine bY ?_;refine aa (.int .i64 1) ?_;refine mw (e:=5) b o 1 4 1 c .i64 1 (by omega) (by omega) (by omega) ?_;refine kC b o 4 (o+1*1) 1 f (St.mC S0 hB (by simp)) (by omega) (by omega) ?_;have zh2:=hf 1;refine lz .u64 (f 1) (IntWalk.u64_in _ (by omega)) ?_;refine gV (.int .u64 (bits .or .u64 (u64.wrap ((f 0)*2^8)) (f 1))) (.int .u64 ((f 0)*256+(f 1))) (congrArg _ (tF (f 0) (f 1) (by omega) (by omega))) ?_;refine bJ ?_;refine aw (ik (ag (ax ?_)));refine aa (.int .i64 2) ?_;refine aa (.int .i64 2) ?_;refine aw (lA (au (ax ?_)));refine aa (.bool true) ?_;refine aw (ag (au (lB ?_)));refine wp_skip (ag (au (wp_block (au (ax ?_)))));refine aa (.int .i64 2) ?_;refine aa (.int .i64 2) ?_;refine aw (ag (ax ?_));refine bY ?_;refine aa (.int .u64 (u64.wrap (((f 0)*256+(f 1))*2^8))) ?_;refine bY ?_;refine aa (.int .i64 2) ?_;refine mw (e:=5) b o 2 4 1 c .i64 2 (by omega) (by omega) (by omega) ?_;refine kC b o 4 (o+2*1) 2 f (St.mC S0 hB (by simp)) (by omega) (by omega) ?_;have zh3:=hf 2;refine lz .u64 (f 2) (IntWalk.u64_in _ (by omega)) ?_;refine gV (.int .u64 (bits .or .u64 (u64.wrap (((f 0)*256+(f 1))*2^8)) (f 2))) (.int .u64 (((f 0)*256+(f 1))*256+(f 2))) (congrArg _ (tF ((f 0)*256+(f 1)) (f 2) (by omega) (by omega))) ?_;refine bJ ?_;refine aw (ik (ag (ax ?_)));refine aa (.int .i64 3) ?_;refine aa (.int .i64 3) ?_;refine aw (lA (au (ax ?_)));refine aa (.bool true) ?_;refine aw (ag (au (lB ?_)));refine wp_skip (ag (au (wp_block (au (ax ?_)))));refine aa (.int .i64 3) ?_;refine aa (.int .i64 3) ?_;refine aw (ag (ax ?_));refine bY ?_;refine aa (.int .u64 (u64.wrap ((((f 0)*256+(f 1))*256+(f 2))*2^8))) ?_;refine bY ?_;refine aa (.int .i64 3) ?_;refine mw (e:=5) b o 3 4 1 c .i64 3 (by omega) (by omega) (by omega) ?_;refine kC b o 4 (o+3*1) 3 f (St.mC S0 hB (by simp)) (by omega) (by omega) ?_;have zh4:=hf 3;refine lz .u64 (f 3) (IntWalk.u64_in _ (by omega)) ?_;refine gV (.int .u64 (bits .or .u64 (u64.wrap ((((f 0)*256+(f 1))*256+(f 2))*2^8)) (f 3))) (.int .u64 ((((f 0)*256+(f 1))*256+(f 2))*256+(f 3))) (congrArg _ (tF (((f 0)*256+(f 1))*256+(f 2)) (f 3) (by omega) (by omega))) ?_;refine bJ ?_;refine aw (ik (ag (ax ?_)));refine aa (.int .i64 4) ?_;refine aa (.int .i64 4) ?_;refine aw (lA (au (ax ?_)));refine aa (.bool false) ?_;refine aw (ag (au (iu ?_)));refine wp_exit (fy (fy (qh (ag (au (ax ?_))))));refine bY ?_;refine bJ ?_;refine aa (.int .i64 0) ?_;refine aw (ag (wp_ret ?_));refine gn rfl (fY [.tmp 2,.tmp 3] [.int .u64 ((((f 0)*256+(f 1))*256+(f 2))*256+(f 3)),.int .i64 0] (.tuple #[.int .u64 ((((f 0)*256+(f 1))*256+(f 2))*256+(f 3)),.int .i64 0]) ⟨cM,cM,trivial⟩) ?_;exact⟨rfl,S0.ch⟩
theorem Rj (b o c:Nat) (f:Nat->Int) (hf:By f) (w:World) (hB:eS w b o 2 f):
 aj prog 177 #[.slice (some ⟨b,o,none⟩) 2 c] w λv w1=>v=.tuple #[.int .i64 (oV (pL f)),.int .i64 0]/\Ch [] w w1:=by
 have S0:=St.nil [] w;refine dz Tryz.func177 rfl ?_;refine au (ax ?_);refine aa (.int .i64 0) ?_;refine aa (.int .i64 0) ?_;refine aw (ag (au (au (ax ?_))));refine bY ?_;refine aa (.int .i64 2) ?_;refine aa (.bool false) ?_;refine aw (ag (iu ?_));refine wp_skip (ag (au (ax ?_)));refine bY ?_;refine dh 178 #[.slice (some ⟨b,o,none⟩) 2 c] ?_;refine(JR b o c f hf _ (St.mC S0 hB (by simp))).mono ?_;rintro _ zw1 ⟨rfl,zh2⟩;have i_:=S0.quiet zh2;have zh4:=Ri hf;refine bY ?_;refine aa (.int .u64 (pL f)) ?_;refine aa (.int .i64 0) ?_;refine aa (.int .u64 (pL f)) ?_;refine aa (.int .i64 0) ?_;refine aw (ag (au (au (ax ?_))));refine aa (.int .i64 0) ?_;refine aa (.bool false) ?_;refine aw (ag (iu ?_));refine wp_skip (ag (au (ax ?_)));refine aa (.int .u64 (pL f)) ?_;refine lz .i64 (pL f) (IntWalk.i64_in _ (by omega)) ?_;refine aa (.int .i64 (pL f)) ?_;refine aw (ag (au (au (ax ?_))));refine aa (.int .i64 (pL f)) ?_;refine aa (.bool (decide (32767<(pL f)))) ?_;refine aw (ag ?_);refine jH (decide (32767<(pL f))) ?_ ?_
 ·intro zh5;have zh6:=FC zh5;refine ax ?_;refine aa (.int .i64 (pL f)) ?_;refine lz .i64 ((pL f)-65536) (IntWalk.i64_in _ (by omega)) ?_;refine bJ ?_;refine aw (ag (au (ax ?_)));refine bY ?_;refine bJ ?_;refine aa (.int .i64 0) ?_;refine aw (ag (wp_ret ?_));refine gn rfl (fY [.tmp 2,.tmp 3] [.int .i64 ((pL f)-65536),.int .i64 0] (.tuple #[.int .i64 ((pL f)-65536),.int .i64 0]) ⟨cM,cM,trivial⟩) ?_;have ze:oV (pL f)=((pL f)-65536):=by unfold oV;split<;>omega
  exact⟨by(rw[ze])<;>rfl,i_.ch⟩
 intro Xq;have Jv:=FE Xq;refine wp_skip (ag (au (ax ?_)));refine aa (.int .i64 (pL f)) ?_;refine aa (.int .i64 (pL f)) ?_;refine aa (.int .i64 0) ?_;refine aw (ag (wp_ret ?_));refine gn rfl (fY [.tmp 2,.tmp 3] [.int .i64 (pL f),.int .i64 0] (.tuple #[.int .i64 (pL f),.int .i64 0]) ⟨cM,cM,trivial⟩) ?_;have ze:oV (pL f)=(pL f):=by unfold oV;split<;>omega
 exact⟨by(rw[ze])<;>rfl,i_.ch⟩
end Go.Proofs.YtggfpcggakghnaaGreatDoor
