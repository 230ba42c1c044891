/- Part 3 of the proof. -/
import Derived.Test.YtggfpcggakghnaaGreatDoorS2
set_option linter.all false
set_option maxRecDepth 100000
set_option maxHeartbeats 4000000
open Go.IntKind (u8 u16 u32 u64 i64)
namespace Vx
open Go Go.RowKit Go.BigFrame Sx
variable{G:Type} [Bl G]
mutual
theorem C3 {n m:Nat} (hnm:n<=m):∀v:V,fK n v=true->fK m v=true
 |.int _ _,_=>by simp[fK]
 |.bool _,_=>by simp[fK]
 |.ptr i _,h=>by simp only[fK,Nat.blt_eq]at h⊢;omega
 |.sl i _ _ _,h=>by simp only[fK,Nat.blt_eq]at h⊢;omega
 |.oN i _ _ _ _,h=>by simp only[fK,Nat.blt_eq]at h⊢;omega
 |.fn _ a b,h=>by simp only[fK,Bool.and_eq_true]at h⊢;exact⟨gY hnm a h.1,gY hnm b h.2⟩
 |.CM _ v,h=>by simp only[fK]at h⊢;exact C3 hnm v h
 |.agg l,h=>by simp only[fK]at h⊢;exact gY hnm l h
 |.az l,h=>by simp only[fK]at h⊢;exact gY hnm l h
 |.dC _ _ _,_=>by simp[fK]
 |.arr _ _ _,_=>by simp[fK]
 |.j8 _ _ _ _,_=>by simp[fK]
 |.rest _,_=>by simp[fK]
 |.fp _ _ _,_=>by simp[fK]
 |.pe i _ _ _ _,h=>by simp only[fK,Nat.blt_eq]at h⊢;omega
 |.raw _,_=>by simp[fK]
theorem gY {n m:Nat} (hnm:n<=m):∀l:List V,cH n l=true->cH m l=true
 |[],_=>by simp[cH]
 |v::l,h=>by simp only[cH,Bool.and_eq_true]at h⊢;exact⟨C3 hnm v h.1,gY hnm l h.2⟩
end
theorem wo {n:Nat}:∀{fr:List V} (t:Nat),cH n fr=true->fK n (nth fr t)=true
 |[],_,_=>by simp[nth,cE,fK]
 |v::l,0,h=>by simp only[cH,Bool.and_eq_true]at h;exact h.1
 |v::l,t+1,h=>by simp only[cH,Bool.and_eq_true]at h;exact wo t h.2
theorem WS {P:Program} {bl e:List VB} {t:TypeId} {x v:V} (h:VI P bl t x=some v):VI P (bl++e) t x=some v:=by
 unfold VI at h⊢;split at h
 ·rename_i i off;split at h
  ·rename_i b hb;have hi:i<bl.length:=by rcases Nat.lt_or_ge i bl.length with h'|h';exact h';simp[h']at hb
   simp only[List.getElem?_append_left hi,hb];exact h
  ·cases h
 ·cases h
theorem Jc {P:Program} {bl e:List VB} {t:TypeId} {x v:V} (h:EF P bl t x v):EF P (bl++e) t x v:=by
 rcases h with h|⟨p,h,hp⟩
 ·exact .inl (WS h)
 ·exact .inr ⟨p,WE h,hp⟩
theorem uj {X Y:List av} (h:X.Perm Y):∀ch:List G,(af ch X).Perm (af ch Y)
 |[]=>h
 |c::ch=>List.Perm.append_left (Bl.B c) (uj h ch)
section
variable{C:Ctx G} {call:gG G} {q:Nat->Bool} {l:List Oper} {pm:List Nat} {R:List av} {ms:List Nat} {w0:World} {k:yG G} {jv fr:List V} {rA:List Nat}
 {b9 rest:List Nat} {ids:List Nat} {bl:List VB} {ch:List G} {Z:List (Nat×av)} {listed:Array Bool} {a:Act} {w:World} {Q:Exit->Act->World->Prop}
theorem C4 {o:Oper} {L:List Oper} (h:uH C call l.toArray (o::L) fr bl ch k):∃b,gOK l fr o b/\(if b then kW C call o fr bl ch (λfr bl ch=>uH C call l.toArray L fr bl ch k)else uH C call l.toArray L (put fr o.dst cE) bl ch k):=by
 simp only[uH]at h;unfold gOK;split at h
 ·rename_i hg;(try rw[hg]);exact⟨true,rfl,h⟩
 ·rename_i j want hg;try rw[hg]
  split at h
  ·exact h.elim
  ·rename_i t hd;split at h
   ·rename_i c hc;have hs:=qB fr t;rw[hc]at hs;refine⟨c==want,⟨t,hd,.inl ⟨c,hc,rfl⟩⟩,?_⟩;cases c<;>(rw[hs]at h;cases want<;>exact h)
   ·rename_i vs hc;exact⟨false,⟨t,hd,.inr ⟨vs,hc,rfl⟩⟩,h⟩
   ·exact h.elim
theorem Rec.frame {i:Nat} {wb:List V} {v:V} {b:Bool} (r:Rec C l pm jv fr bl i wb v b) {fr':List V} {bl':List VB}
 (h1:∀t∈looks l i,∀h,(aK l h).dst=some t->nO pm h i=true->nth fr' t=nth fr t) (h2:∀d,(aK l i).dst=some d->nth fr' d=nth fr d)
 (h3:∀t x v,(aK l i).op=.load t x->EF C.P bl t (ev C.gl wb x) v->EF C.P bl' t (ev C.gl wb x) v):Rec C l pm jv fr' bl' i wb v b:=by
 refine⟨λt ht h hd hb=>(r.w1 t ht h hd hb).trans (h1 t ht h hd hb).symm,r.w0,λd hd=>(h2 d hd).trans (r.val d hd),r.g,?_⟩;have e:=r.e;cases b with
 |false=>exact e
 |true=>
  rcases e with e|⟨t,x,ho,e⟩
  ·exact .inl e
  ·exact .inr ⟨t,x,ho,h3 t x v ho e⟩
namespace DI
theorem WT {i:Nat} {r:List Nat} (D:DI C call q l pm R ms w0 k jv rA b9 (i::r) fr ids bl ch Z listed a w) (hf:yz (aK l i)=true):∃fr',DI C call q l pm R ms w0 k jv rA (b9++[i]) r fr' ids bl ch Z listed a w:=by
 have nh:(b9++[i])++r=b9++(i::r):=by simp
 have hA:oO (aK l i)=false:=by rcases gX (aK l i)with h|h|h<;>simp_all
 have hu:listed[i]?=some false:=D.mE i (by simp) hA;have ho:=D.at_ (i:=i) (by simp);have hdl:=(ng D.pg ho).1;obtain⟨b,hg,hb⟩:=C4 D.vc;obtain⟨v,hv,fU⟩:∃v,(if b then EvS C bl fr (aK l i) v else v=cE)/\uH C call l.toArray (VL l r) (put fr (aK l i).dst v) bl ch k:=by
  cases b with
  |true=>rw[if_pos rfl]at hb;exact agB hf hb
  |false=>rw[if_neg (by simp)]at hb;exact⟨cE,rfl,hb⟩
 have np:=λt=>Aw (fr:=fr) (x:=v) t hdl;have WU:∀{j},j∈b9->j≠i:=λhj e=>D.apart hj (by rw[e];simp);refine⟨put fr (aK l i).dst v,{D with gH:=by rw[nh];exact D.gH,WN:=?_,C0:=by rw[nh];exact D.C0,C1:=by rw[nh];exact D.C1,nd:=by rw[nh];exact D.nd,pg:=by rw[nT];exact D.pg,WO:=by rw[nh];exact D.WO,OH:=?_,mE:=λj hj=>D.mE j (by simp[hj]),vc:=fU,sz:=by rw[nT];exact D.sz,slot:=?_,old:=?_,we:=?_,recs:=?_,OI:=λj hj=>D.OI j (by simp[hj]),oB:=?_}⟩
 ·have:=D.WN;simp only[fR,Bool.and_eq_true]at this;exact this.2
 ·intro j hj WV;rcases List.mem_append.1 hj with hj|hj
  ·exact D.OH j hj WV
  ·obtain rfl:j=i:=by simpa using hj
   rw[hf]at WV;cases WV
 ·intro t h1 h2;by_cases e:(aK l i).dst=some t
  ·have:=h1 i (by simp) e;rw[hu]at this;cases this
  ·rw[(np t).2 e];refine D.slot t (λj hj=>h1 j (by simp[hj])) ?_;intro j hj hd;rcases List.mem_cons.1 hj with rfl|hj
   ·exact absurd hd e
   ·exact h2 j hj hd
 ·intro j hj jJ t ht;rcases List.mem_append.1 hj with hj|hj
  ·exact D.old j hj jJ t ht
  ·obtain rfl:j=i:=by simpa using hj
   rw[<-D.we t (λh hh hd=>WU hh (D.uniq hd ht))];refine D.slot t (λh hh hd=>(WU hh (D.uniq hd ht)).elim) ?_;intro h hh hd;rw[D.uniq hd ht];exact hu
 ·intro t h;rw[(np t).2 (h i (by simp))];exact D.we t (λj hj=>h j (by simp[hj]))
 ·intro j hj jJ;rcases List.mem_append.1 hj with hj|hj
  ·obtain⟨wb,v',b',rr⟩:=D.recs j hj jJ;refine⟨wb,v',b',rr.frame ?_ ?_ (λ_ _ _ _ h=>h)⟩
   ·intro t ht h hd F9;refine(np t).2 (λe=>?_);have:=(D.ahead hj (show i∈i::r by simp)).nb;rw[D.uniq hd e]at F9;rw[F9]at this;cases this
   ·intro d hd;exact(np d).2 (λe=>WU hj (D.uniq hd e))
  ·obtain rfl:j=i:=by simpa using hj
   refine⟨fr,v,b,⟨?_,?_,λd hd=>(np d).1 hd,hg,hv⟩⟩
   ·intro t ht h hd F9;refine((np t).2 (λe=>?_)).symm;rw[D.uniq hd e,D.WO j (by simp)]at F9;cases F9
   ·intro t ht OJ;exact D.we t (λh hh hd=>by
     have:=(D.ahead hh (show j∈j::r by simp)).wi t hd ht;rw[OJ h hd]at this;cases this)
 ·intro p hp;obtain⟨h1,h2⟩:=D.oB p hp;rcases List.mem_cons.1 h1 with e|h1
  ·rw[e,hu]at h2;cases h2
  ·exact⟨h1,h2⟩
theorem ni:∀(r:List Nat) {b9:List Nat} {fr:List V},DI C call q l pm R ms w0 k jv rA b9 r fr ids bl ch Z listed a w->∃qD r' fr',DI C call q l pm R ms w0 k jv rA qD r' fr' ids bl ch Z listed a w/\(r'=[]\/∃i s,r'=i::s/\yz (aK l i)=false)
 |[],b9,fr,D=>⟨b9,[],fr,D,.inl rfl⟩
 |i::r,b9,fr,D=>by
  cases hf:yz (aK l i)with
  |false=>exact⟨b9,i::r,fr,D,.inr ⟨i,r,rfl,hf⟩⟩
  |true=>
   obtain⟨fr',D'⟩:=D.WT hf;exact ni r D'
theorem WW {i:Nat} {r:List Nat} (D:DI C call q l pm R ms w0 k jv rA b9 (i::r) fr ids bl ch Z listed a w) (ha:oO (aK l i)=true) (hi:listed[i]?=some true):∃fr' ids' bl' Z',DI C call q l pm R ms w0 k jv rA (b9++[i]) r fr' ids' bl' ch Z' listed a w:=by
 have nh:(b9++[i])++r=b9++(i::r):=by simp
 have ho:=D.at_ (i:=i) (by simp);have hdl:=(ng D.pg ho).1;obtain⟨U8,_⟩:=(ng D.pg ho).2.2 ha;obtain⟨b,t,z,d,hz,uh,hzt,hd,hy⟩:=D.OI i (by simp) hi;obtain⟨Z1,Z2,rfl⟩:=List.append_of_mem hz;have fU:=D.vc;simp only[VL,List.map_cons,uH,U8,kW,uh,hfN,evQ,CS,hzt]at fU;cases hq:cH bl.length fr&&(dk bl.length bl&&cH bl.length z)with
 |false=>rw[hq]at fU;exact fU.elim
 |true=>
  rw[hq]at fU;simp only[Bool.and_eq_true,<-D.hl]at hq;have fU:uH C call l.toArray (VL l r) (put fr (aK l i).dst (.ptr bl.length 0)) (bl++[⟨true,t,z⟩]) ch k:=fU;have np:=λt=>Aw (fr:=fr) (x:=V.ptr bl.length 0) t hdl;have WU:∀{j},j∈b9->j≠i:=λhj e=>D.apart hj (by rw[e];simp);refine⟨_,ids++[b],_,Z1++Z2,{D with gH:=by rw[nh];exact D.gH,WN:=?_,C0:=by rw[nh];exact D.C0,C1:=by rw[nh];exact D.C1,nd:=by rw[nh];exact D.nd,pg:=by rw[nT];exact D.pg,WO:=by rw[nh];exact D.WO,OH:=?_,mE:=λj hj=>D.mE j (by simp[hj]),vc:=fU,sz:=by rw[nT];exact D.sz,slot:=?_,old:=?_,we:=?_,recs:=?_,OI:=?_,oB:=?_,SL:=?_,S:=?_,hl:=by simp[D.hl],gl:=D.gl.app _,EG:=gY (by simp) _ D.EG,SN:=by obtain⟨m,e⟩:=D.SN;exact⟨m++[b],by rw[e,List.append_assoc]⟩}⟩
  ·have:=D.WN;simp only[fR,Bool.and_eq_true]at this;exact this.2
  ·intro j hj WV;rcases List.mem_append.1 hj with hj|hj
   ·exact D.OH j hj WV
   ·obtain rfl:j=i:=by simpa using hj
    exact hi
  ·intro u h1 h2;by_cases e:(aK l i).dst=some u
   ·rw[(np u).1 e];obtain rfl:d=u:=by rw[hd]at e;simpa using e
    rw[hy];simp only[den,<-D.hl,cy]
   ·rw[(np u).2 e,bC _ (wo u hq.1)];refine D.slot u (λj hj=>h1 j (by simp[hj])) ?_;intro j hj nU;rcases List.mem_cons.1 hj with rfl|hj
    ·exact absurd nU e
    ·exact h2 j hj nU
  ·intro j hj jJ u hu;rcases List.mem_append.1 hj with hj|hj
   ·rw[bC _ (wo u D.EG)];exact D.old j hj jJ u hu
   ·obtain rfl:j=i:=by simpa using hj
    rw[hi]at jJ;cases jJ
  ·intro u h;rw[(np u).2 (h i (by simp))];exact D.we u (λj hj=>h j (by simp[hj]))
  ·intro j hj jJ;rcases List.mem_append.1 hj with hj|hj
   ·obtain⟨wb,v',b',rr⟩:=D.recs j hj jJ;refine⟨wb,v',b',rr.frame ?_ ?_ (λ_ _ _ _ h=>Jc h)⟩
    ·intro u hu h hd F9;refine(np u).2 (λe=>?_);have:=(D.ahead hj (show i∈i::r by simp)).nb;rw[D.uniq hd e]at F9;rw[F9]at this;cases this
    ·intro u hd;exact(np u).2 (λe=>WU hj (D.uniq hd e))
   ·obtain rfl:j=i:=by simpa using hj
    rw[hi]at jJ;cases jJ
  ·intro j hj jJ;obtain⟨b',t',z',d',h1,h2⟩:=D.OI j (by simp[hj]) jJ;refine⟨b',t',z',d',?_,h2⟩;rcases List.mem_append.1 h1 with h1|h1
   ·simp[h1]
   ·rcases List.mem_cons.1 h1 with e|h1
    ·exfalso;have:j=i:=by simpa using congrArg Prod.fst e
     have hn:=(List.nodup_append.1 D.nd).2.1;rw[List.nodup_cons]at hn;exact hn.1 (this▸hj)
    ·simp[h1]
  ·intro p hp;obtain⟨h1,h2⟩:=D.oB p (by rcases List.mem_append.1 hp with h|h<;>simp[h]);rcases List.mem_cons.1 h1 with e|h1
   ·exfalso;have hn:=D.SL;simp only[List.map_append,List.map_cons]at hn;have OZ:=(List.perm_middle.nodup_iff.1 hn);rw[List.nodup_cons]at OZ;refine OZ.1 ?_;rw[<-e];rcases List.mem_append.1 hp with h|h
    ·exact List.mem_append_left _ (List.mem_map.2 ⟨p,h,rfl⟩)
    ·exact List.mem_append_right _ (List.mem_map.2 ⟨p,h,rfl⟩)
   ·exact⟨h1,h2⟩
  ·have hn:=D.SL;simp only[List.map_append,List.map_cons]at hn⊢;have OZ:=(List.perm_middle.nodup_iff.1 hn);exact(List.nodup_cons.1 OZ).2
  ·refine D.S.perm ?_;rw[aI _ _ _ _ D.hl,aJ _ _ hq.2.1];simp only[lits,aE,L_ hzt (ids++[b])];rw[List.append_assoc];refine List.Perm.append_left _ ?_;simp only[List.map_append,List.map_cons,List.cons_append,List.nil_append,List.append_assoc];exact(uj List.perm_middle ch).trans (ph _ _ ch).symm
end DI
end
end Vx
namespace Vx
open Go Go.RowKit Go.BigFrame Sx
variable{G:Type} [Bl G]
def wq (q:Nat->Bool) (call:gG G):Prop:=∀f,q f=true->∀args bl ch K,call f args bl ch K->call f args bl ch λv bl' ch'=>K v bl' ch'/\∃e,bl'=bl++e
section
variable{C:Ctx G} {call:gG G} {q:Nat->Bool} {l:List Oper} {pm:List Nat} {R:List av} {ms:List Nat} {w0:World} {k:yG G} {jv fr:List V} {rA:List Nat}
 {b9 rest:List Nat} {ids:List Nat} {bl:List VB} {ch:List G} {Z:List (Nat×av)} {listed:Array Bool} {a:Act} {w:World} {Q:Exit->Act->World->Prop}
theorem C5 (hq:wq q call) {o:Oper} (ho:kD q o=true) {k:yG G} (h:kW C call o fr bl ch k):kW C call o fr bl ch λfr' bl' ch'=>k fr' bl' ch'/\∃e,bl'=bl++e:=by
 unfold kW at h⊢;split at h
 ·rename_i t x e;simp[kD,e]at ho
 ·rename_i t x y e;simp[kD,e]at ho
 ·rename_i op h1 h2;split at h
  ·exact⟨h.1,h.2,[],by simp⟩
  split at h
  ·exact⟨h,[],by simp⟩
  ·split at h
   ·cases hb:cH bl.length fr&&(dk bl.length bl&&cH bl.length _)with
    |false=>rw[hb]at h;exact h.elim
    |true=>rw[hb]at h;exact⟨h,_,rfl⟩
   ·split at h
    ·rename_i f args hc;cases hb:cH bl.length fr with
     |false=>rw[hb]at h;exact h.elim
     |true=>
      rw[hb]at h;have hqf:q f=true:=by
       unfold kD at ho;unfold callee at hc;split at ho
       ·rename_i e;simp[e]at hc
       ·rename_i e;simp[e]at hc
       ·rename_i g a1 a2 e;rw[e]at hc;simp only[ev]at hc;cases hk:okF C.P g with
        |false=>rw[hk]at hc;simp at hc
        |true=>
         rw[hk]at hc;simp only[cond_true,Option.some.injEq,Prod.mk.injEq]at hc;rw[<-hc.1];exact ho
       ·cases ho
      exact hq f hqf _ _ _ _ h
    ·cases hk:kV o.op with
     |false=>rw[hk]at h;exact h.elim
     |true=>
      exfalso;unfold kD at ho;unfold kV at hk;split at hk<;>simp_all
namespace DI
theorem WX {i:Nat} {r:List Nat} (D:DI C call q l pm R ms w0 k jv rA b9 (i::r) fr ids bl ch Z listed a w) (hx:zi (aK l i)=true) (hp:∀h,nO pm h i=true->listed[h]?=some true) {x:V} {more:List Nat} {bl':List VB} {ch':List G} {w':World}
 (fU:uH C call l.toArray (VL l r) (put fr (aK l i).dst x) bl' ch' k) (hl:(ids++more).length=bl'.length) (S:St ms w0 (lits (ids++more) (ids++more) bl'++af ch' (Z.map (·.2)++R)) w') (hw:more=[]\/cH ids.length fr=true) (hq:kD q (aK l i)=true->∃e,bl'=bl++e):
 DI C call q l pm R ms w0 k jv rA (b9++[i]) r (put fr (aK l i).dst x) (ids++more) bl' ch' Z (listed.setIfInBounds i true) (a.put (aK l i).dst (den (ids++more) x)) w':=by
 have nh:(b9++[i])++r=b9++(i::r):=by simp
 have hA:oO (aK l i)=false:=by rcases gX (aK l i)with h|h|h<;>simp_all
 have hu:listed[i]?=some false:=D.mE i (by simp) hA;have ho:=D.at_ (i:=i) (by simp);have hdl:=(ng D.pg ho).1;have sL:i<listed.size:=by rw[D.ls];exact D.C1 i (by simp)
 have sg:=λj b=>Ax (listed:=listed) (j:=j) (b:=b) sL;have np:=λt=>Aw (fr:=fr) (x:=x) t hdl;have yp:=wm (a:=a) (v:=den (ids++more) x) (d:=(aK l i).dst) (λu hu=>by rw[D.sz];exact hdl u hu);have WU:∀{j},j∈b9->j≠i:=λhj e=>D.apart hj (by rw[e];simp);have hnr:∀{j},j∈r->j≠i:=λhj e=>by
  have hn:=(List.nodup_append.1 D.nd).2.1;rw[List.nodup_cons]at hn;exact hn.1 (e▸hj)
 have dn:∀u,den (ids++more) (nth fr u)=den ids (nth fr u):=λu=>by
  rcases hw with rfl|hw
  ·simp
  ·exact bC _ (wo u hw)
 refine{D with gH:=by rw[nh];exact D.gH,WN:=?_,C0:=by rw[nh];exact D.C0,C1:=by rw[nh];exact D.C1,nd:=by rw[nh];exact D.nd,pg:=by rw[nT];exact D.pg,WO:=by rw[nh];exact D.WO,ls:=by simpa using D.ls,OH:=?_,mE:=?_,back:=?_,vc:=fU,sz:=by rw[nT,size_put];exact D.sz,df:=by rw[gp];exact D.df,slot:=?_,old:=?_,we:=?_,recs:=?_,OI:=?_,oB:=?_,S:=S,hl:=hl,gl:=D.gl.app _,EG:=gY (by simp) _ D.EG,SN:=by obtain⟨m,e⟩:=D.SN;exact⟨m++more,by rw[e,List.append_assoc]⟩}
 ·have:=D.WN;simp only[fR,Bool.and_eq_true]at this;exact this.2
 ·intro j hj WV;refine(sg _ _).2 ?_;rcases List.mem_append.1 hj with hj|hj
  ·exact .inr ⟨WU hj,D.OH j hj WV⟩
  ·exact .inl ⟨by simpa using hj,rfl⟩
 ·intro j hj WV;exact(sg _ _).2 (.inr ⟨hnr hj,D.mE j (by simp[hj]) WV⟩)
 ·intro j hj h hb;refine(sg _ _).2 ?_;rcases(sg _ _).1 hj with⟨rfl,_⟩|⟨e_,hj⟩
  ·by_cases e:h=j
   ·exact .inl ⟨e,rfl⟩
   ·exact .inr ⟨e,hp h hb⟩
  ·by_cases e:h=i
   ·exact .inl ⟨e,rfl⟩
   ·exact .inr ⟨e,D.back j hj h hb⟩
 ·intro t h1 h2;by_cases e:(aK l i).dst=some t
  ·rw[(yp t).1 e,(np t).1 e]
  ·rw[(yp t).2 e,(np t).2 e,dn];refine D.slot t ?_ ?_
   ·intro j hj hd;rcases(sg _ _).1 (h1 j (by simp[hj]) hd)with⟨h,_⟩|⟨_,h⟩
    ·exact absurd h (WU hj)
    ·exact h
   ·intro j hj hd;rcases List.mem_cons.1 hj with rfl|hj
    ·exact absurd hd e
    ·rcases(sg _ _).1 (h2 j hj hd)with⟨_,h⟩|⟨_,h⟩
     ·cases h
     ·exact h
 ·intro j hj jJ t ht;rcases(sg _ _).1 jJ with⟨_,h⟩|⟨e_,h⟩
  ·cases h
  ·rcases List.mem_append.1 hj with hj|hj
   ·rw[(yp t).2 (λe=>e_ (D.uniq ht e)),bC _ (wo t D.EG)];exact D.old j hj h t ht
   ·exact absurd (by simpa using hj) e_
 ·intro t h;rw[(np t).2 (h i (by simp))];exact D.we t (λj hj=>h j (by simp[hj]))
 ·intro j hj jJ;rcases(sg _ _).1 jJ with⟨_,h⟩|⟨e_,h⟩
  ·cases h
  ·rcases List.mem_append.1 hj with hj|hj
   ·obtain⟨wb,v',b',rr⟩:=D.recs j hj h;have P:=D.ahead hj (show i∈i::r by simp);refine⟨wb,v',b',rr.frame ?_ ?_ ?_⟩
    ·intro t ht h hd F9;refine(np t).2 (λe=>?_);have:=P.nb;rw[D.uniq hd e]at F9;rw[F9]at this;cases this
    ·intro d hd;exact(np d).2 (λe=>WU hj (D.uniq hd e))
    ·intro t y v uh hld;rcases P.ld hx (by simp[acq,uh])with hb|hb
     ·have:=hp j hb;rw[h]at this;cases this
     ·obtain⟨e,rfl⟩:=hq hb;exact Jc hld
   ·exact absurd (by simpa using hj) e_
 ·intro j hj jJ;rcases(sg _ _).1 jJ with⟨h,_⟩|⟨e_,h⟩
  ·exact absurd h (hnr hj)
  ·obtain⟨b,t,z,d,h1,h2,h3,h4,h5⟩:=D.OI j (by simp[hj]) h;exact⟨b,t,z,d,h1,h2,h3,h4,by rw[(yp d).2 (λe=>e_ (D.uniq h4 e))];exact h5⟩
 ·intro p hp';obtain⟨h1,h2⟩:=D.oB p hp';rcases List.mem_cons.1 h1 with e|h1
  ·rw[e,hu]at h2;cases h2
  ·exact⟨h1,(sg _ _).2 (.inr ⟨hnr h1,h2⟩)⟩
theorem C6:∀(r:List Nat) {b9:List Nat} {fr:List V} {ids:List Nat} {bl:List VB} {Z:List (Nat×av)} {i:Nat},DI C call q l pm R ms w0 k jv rA b9 r fr ids bl ch Z listed a w->jN l r=some i->(∀h,nO pm h i=true->listed[h]?=some true)->
 ∃qD r' fr' ids' bl' Z',DI C call q l pm R ms w0 k jv rA qD (i::r') fr' ids' bl' ch Z' listed a w
 |[],_,_,_,_,_,_,_,h,_=>by simp[jN]at h
 |j::r,b9,fr,ids,bl,Z,i,D,h,hp=>by
  have Ma:=D.WN;simp only[fR,Bool.and_eq_true]at Ma;unfold jN at h;cases hA:oO (aK l j)with
  |false=>
   rw[hA]at h;obtain rfl:j=i:=by simpa using h
   exact⟨b9,r,fr,ids,bl,Z,D⟩
  |true=>
   rw[hA]at h Ma;simp only[cond_true]at h Ma;rw[h]at Ma;simp only[Bool.and_eq_true]at Ma;obtain⟨fr',ids',bl',Z',D'⟩:=D.WW hA (hp j Ma.1.2);exact C6 r D' h hp
theorem zk (D:DI C call q l pm R ms w0 k jv rA b9 rest fr ids bl ch Z listed a w) (h:rest=[]\/∃i s,rest=i::s/\yz (aK l i)=false):rest=[]\/∃x,jN l rest=some x/\x∈rest/\zi (aK l x)=true:=by
 rcases h with h|⟨i,s,rfl,hf⟩
 ·exact .inl h
 ·refine .inr ?_;have nm:∀(r:List Nat) x,jN l r=some x->x∈r:=by
   intro r;induction r with
   |nil=>intro x h;simp[jN]at h
   |cons y r ih=>
    intro x h;unfold jN at h;cases hA:oO (aK l y)with
    |true=>rw[hA]at h;exact List.mem_cons_of_mem _ (ih x h)
    |false=>rw[hA]at h;simp at h;simp[h]
  rcases gX (aK l i)with⟨h1,h2,h3⟩|⟨h1,h2,h3⟩|⟨h1,h2,h3⟩
  ·rw[hf]at h1;cases h1
  ·have Ma:=D.WN;simp only[fR,Bool.and_eq_true,h2,cond_true]at Ma;cases hn:jN l s with
   |none=>rw[hn]at Ma;simp at Ma
   |some x=>
    rw[hn]at Ma;simp only[Bool.and_eq_true]at Ma;exact⟨x,by unfold jN;rw[h2];exact hn,List.mem_cons_of_mem _ (nm s x hn),Ma.1.1⟩
  ·exact⟨i,by unfold jN;rw[h2];rfl,by simp,h3⟩
end DI
end
section
variable{C:Ctx G} {call:gG G} {q:Nat->Bool} {l:List Oper} {pm:List Nat} {R:List av} {ms:List Nat} {w0:World} {k:yG G} {jv fr:List V} {rA:List Nat}
 {b9 rest:List Nat} {ids:List Nat} {bl:List VB} {ch:List G} {Z:List (Nat×av)} {listed:Array Bool} {a:Act} {w:World} {Q:Exit->Act->World->Prop}
namespace DI
theorem first (h:eT (lL q l pm) rest=true) {x:Nat} (hn:jN l rest=some x):∀i∈rest,oO (aK l i)=false->i=x\/PH q l pm x i:=by
 induction rest with
 |nil=>simp[jN]at hn
 |cons y r ih=>
  intro i hi ha;simp only[eT,Bool.and_eq_true,List.all_eq_true]at h;unfold jN at hn;cases hA:oO (aK l y)with
  |true=>
   rw[hA]at hn;rcases List.mem_cons.1 hi with rfl|hi
   ·rw[hA]at ha;cases ha
   ·exact ih h.2 hn i hi ha
  |false=>
   rw[hA]at hn;obtain rfl:y=x:=by simpa using hn
   rcases List.mem_cons.1 hi with e|hi
   ·exact .inl e
   ·exact .inr (nf (h.1 i hi))
theorem nj (h:kp l l.length=true) {i:Nat} {o:Oper} (ho:l[i]?=some o) {e:Edge} (he:e∈o.after) (hb:Region.binds .any e=true):e.on<l.length:=by
 have h1:=List.all_eq_true.1 h o (List.mem_of_getElem? ho);have h2:=Array.all_eq_true_iff_forall_mem.1 h1 e he;rw[hb]at h2;simpa[Nat.blt_eq]using h2
theorem stuck (D:DI C call q l pm R ms w0 k jv rA b9 rest fr ids bl ch Z listed a w) (SO:yH l pm=true) (dN:kp l l.length=true) (hr:Region.ready .any l.toArray listed=[]):
 ∀(b c:List Nat),b9++rest=c++b->(∀i∈c,listed[i]?=some true)->∀i∈b,listed[i]?=some true:=by
 intro b;induction b with
 |nil=>intro c _ _ i hi;cases hi
 |cons x b ih=>
  intro c hc hl;have hx:x∈b9++rest:=by rw[hc];simp
  have h1:listed[x]?=some true:=by
   rcases D.bit hx with h|h
   ·exact h
   ·exfalso;have ho:=D.at_ hx;have hm:x∈Region.ready .any l.toArray listed:=(an _ listed x).2 ⟨aK l x,ho,by simp[Array.getD_eq_getD_getElem?,h],λe he hb=>by
     have iK:=nj dN ho he hb;have F9:nO pm e.on x=true:=by
      unfold nO;rw[aa_ SO ho];exact(vb pm _ _).2 ⟨e,by simpa using he,hb,.inl rfl⟩
     have hem:=D.C0 e.on iK;rw[hc]at hem;have hle:listed[e.on]?=some true:=by
      rcases List.mem_append.1 hem with hm|hm
      ·exact hl _ hm
      ·exfalso;rcases List.mem_cons.1 hm with h2|h2
       ·have:=D.WO x hx;rw[h2,this]at F9;cases F9
       ·have hp:=D.gH;rw[hc]at hp;have:=(gu hp).2.2;simp only[eT,Bool.and_eq_true,List.all_eq_true]at this;have:=(nf (this.1 _ h2)).nb;rw[F9]at this;cases this
     simp[Array.getD_eq_getD_getElem?,hle]⟩
    rw[hr]at hm;cases hm
  intro i hi;rcases List.mem_cons.1 hi with rfl|hi
  ·exact h1
  ·refine ih (c++[x]) (by rw[hc];simp) (λj hj=>?_) i hi;rcases List.mem_append.1 hj with hj|hj
   ·exact hl j hj
   ·obtain rfl:j=x:=by simpa using hj
    exact h1
theorem fin (D:DI C call q l pm R ms w0 k jv rA b9 rest fr ids bl ch Z listed a w) (hh:rest=[]\/∃i s,rest=i::s/\yz (aK l i)=false) (di:∀i,i<l.length->listed[i]?=some true):
 k fr bl ch/\a=act ids fr/\St ms w0 (lits ids ids bl++af ch R) w:=by
 rcases D.zk hh with rfl|⟨x,hx,hm,hX⟩
 ·have hZ:Z=[]:=by
   cases Z with
   |nil=>rfl
   |cons p Z=>have:=(D.oB p (by simp)).1;cases this
  refine⟨D.vc,?_,by have:=D.S;rw[hZ]at this;simpa using this⟩;refine Af (by rw[D.sz];simp[act,kj]) (by rw[D.df];rfl) ?_;intro t;rw[Au];exact D.slot t (λi hi _=>di i (D.C1 i (by simp[hi]))) (λi hi=>nomatch hi)
 ·have h1:oO (aK l x)=false:=by rcases gX (aK l x)with h|h|h<;>simp_all
  have:=D.mE x hm h1;rw[di x (D.C1 x (by simp[hm]))]at this;cases this
end DI
theorem kO (hc:sY C.P C.gl call) (EH:wq q call) (SO:yH l pm=true) (dN:kp l l.length=true)
 (hk:∀fr' m bl' ch' w',(rA++m).length=bl'.length->St ms w0 (lits (rA++m) (rA++m) bl'++af ch' R) w'->k fr' bl' ch'->Q .normal (act (rA++m) fr') w'):
 ∀(fuel:Nat) {b9 rest:List Nat} {fr:List V} {ids:List Nat} {bl:List VB} {ch:List G} {Z:List (Nat×av)} {listed:Array Bool} {a:Act} {w:World},
  DI C call q l pm R ms w0 k jv rA b9 rest fr ids bl ch Z listed a w->(rest=[]\/∃i s,rest=i::s/\yz (aK l i)=false)->listed.toList.count false=fuel->wpAny C.P .any l.toArray Q fuel listed a w:=by
 have fin:∀{b9 rest:List Nat} {fr:List V} {ids:List Nat} {bl:List VB} {ch:List G} {Z:List (Nat×av)} {listed:Array Bool} {a:Act} {w:World},
  DI C call q l pm R ms w0 k jv rA b9 rest fr ids bl ch Z listed a w->(rest=[]\/∃i s,rest=i::s/\yz (aK l i)=false)->(∀i,i<l.length->listed[i]?=some true)->Q .normal a w:=by
  intro b9 rest fr ids bl ch Z listed a w D hh di;obtain⟨h1,rfl,h3⟩:=D.fin hh di;obtain⟨m,rfl⟩:=D.SN;exact hk _ _ _ _ _ D.hl h3 h1
 intro fuel;induction fuel with
 |zero=>
  intro b9 rest fr ids bl ch Z listed a w D hh PK;have di:∀i,i<l.length->listed[i]?=some true:=by
   intro i hi;rcases d_ D.ls hi with h|h
   ·exact h
   ·exfalso;have:=count_set listed.toList i (by simpa using h);omega
  refine⟨?_,fin D hh di⟩;refine List.eq_nil_iff_forall_not_mem.2 λi hi=>?_;obtain⟨o,ho,h2,_⟩:=(an l listed i).1 hi;have sL:i<l.length:=by rcases Nat.lt_or_ge i l.length with h|h;exact h;simp[h]at ho
  simp[Array.getD_eq_getD_getElem?,di i sL]at h2
 |succ fuel ih=>
  intro b9 rest fr ids bl ch Z listed a w D hh PK;refine⟨λhr=>?_,?_⟩
  ·exfalso;have di:∀i,i<l.length->listed[i]?=some true:=λi hi=>D.stuck SO dN hr (b9++rest) [] rfl (λ_ h=>nomatch h) i (D.C0 i hi);have:=nL listed.toList l.length 0 (by simpa using D.ls) (λj hj=>by simpa using di j hj);omega
  ·intro i hi;obtain⟨o,ho,h2,h3⟩:=(an l listed i).1 hi;have sL:i<l.length:=by rcases Nat.lt_or_ge i l.length with h|h;exact h;simp[h]at ho
   have CI:=nR ho;have hu:listed[i]?=some false:=by
    rcases d_ D.ls sL with hb|hb
    ·simp[Array.getD_eq_getD_getElem?,hb]at h2
    ·exact hb
   have hp:∀h,nO pm h i=true->listed[h]?=some true:=by
    intro h hb;obtain⟨e,he,hbd,Jd⟩:=zj SO ho hb;have iK:=DI.nj dN ho he hbd;have hl:listed[e.on]?=some true:=by
     have:=h3 e he hbd;rcases d_ D.ls (show e.on<l.length by omega)with hb|hb
     ·exact hb
     ·simp[Array.getD_eq_getD_getElem?,hb]at this
    rcases Jd with rfl|Jd
    ·exact hl
    ·exact D.back _ hl h Jd
   have wu:(listed.setIfInBounds i true).toList.count false=fuel:=by
    have:=count_set listed.toList i (by simpa using hu);simp only[Array.toList_setIfInBounds];omega
   have Ay:=ng D.pg ho;have hAt:l.toArray[i]?=some o:=by simpa using ho
   unfold wpOp;rw[hAt];simp only;have hm:=D.C0 i sL;rcases List.mem_append.1 hm with hm|hm
   ·obtain⟨wb,v,b,r⟩:=D.recs i hm hu;have Cu:=D.wk hm hu hp r;unfold looks at Cu;have D':=D.did hm hu hp r;have rg:=r.g;have re:=r.e;rw[CI]at Cu D' rg re;rw[lM Cu rg];cases b with
    |true=>
     rw[if_pos rfl]at re;rw[if_pos rfl];refine .inl ?_;unfold Oper.wp;rw[jO Ay.2.1 Cu,Av D.gl D.hl D.S re];simp only[Oper.upon_value];exact ih D' hh wu
    |false=>
     rw[if_neg (by simp)]at re;rw[if_neg (by simp)];subst re;rw[show(undef:Value)=den ids cE by simp[cE,den]];exact ih D' hh wu
   ·rcases D.zk hh with rfl|⟨x,hx,hxm,hX⟩
    ·cases hm
    have hxA:oO (aK l x)=false:=by rcases gX (aK l x)with h|h|h<;>simp_all
    have hxu:=D.mE x hxm hxA;have acr:=DI.first (gu D.gH).2.2 hx;cases hA:oO (aK l i)with
    |true=>
     obtain⟨U8,d,t,z,hd,uh,hz⟩:=Ay.2.2 (by rw[<-CI];exact hA);have D':=D.WR hm hu hp (by rw[CI];exact uh) hz (by rw[CI];exact hd);rw[CI]at D';rw[if_pos (by simp[Region.wanted,U8])];refine .inl ?_;have aY:(execOp a.eval o).run C.P w=.ok (.value (.pointer (some ⟨w.heap.size,0,none⟩))) (w.alloc (.cells (ab [] z).toArray t)):=by
      obtain⟨v0,z1,z2⟩:=jM (P:=C.P) (w:=w) (ids:=[]) hz;have Eu:v0.cells=(ab [] z).toArray:=by apply Array.ext';simpa using z2
      unfold execOp;simp only[uh,Instr.alloc,Sem.run_bind,z1,Result.andThen_ok,newVar,newRow,Eu];rfl
     unfold Oper.wp;rw[aY];simp only[Oper.upon_value];exact ih D' hh wu
    |false=>
     have sV:i=x:=by
      rcases acr i hm hA with h|h
      ·exact h
      ·have:=hp x (h.xj hX hA);rw[hxu]at this;cases this
     subst sV;obtain⟨qD,r',fr',ids',bl',Z',D1⟩:=D.C6 rest hx hp;have Cu:=D1.LZ rfl hu hp;unfold looks at Cu;obtain⟨b,hg,hb⟩:=C4 D1.vc;rw[CI]at Cu hg hb;rw[lM Cu hg];have nxt:∀{x:V} {more:List Nat} {bl2:List VB} {ch2:List G} {w':World},uH C call l.toArray (VL l r') (put fr' o.dst x) bl2 ch2 k->(ids'++more).length=bl2.length->St ms w0 (lits (ids'++more) (ids'++more) bl2++af ch2 (Z'.map (·.2)++R)) w'->
      (more=[]\/cH ids'.length fr'=true)->(kD q o=true->∃e,bl2=bl'++e)->wpAny C.P .any l.toArray Q fuel (listed.setIfInBounds i true) (a.put o.dst (den (ids'++more) x)) w':=by
      intro x more bl2 ch2 w' g1 g2 g3 g4 g5;have D2:=D1.WX hX hp (x:=x) (more:=more) (by rw[CI];exact g1) g2 g3 g4 (by rw[CI];exact g5);rw[CI]at D2;obtain⟨amY,r3,fr3,D3,hh3⟩:=D2.ni r';exact ih D3 hh3 wu
     cases b with
     |true=>
      rw[if_pos rfl]at hb;rw[if_pos rfl];refine .inl ?_;cases hqo:kD q o with
      |true=>
       refine v8 hc D1.gl D1.hl D1.S (C5 EH hqo hb) (jO Ay.2.1 Cu) ?_;intro x more bl2 ch2 w' g1 g2 g3 g4;exact nxt g3.1 g1 g2 g4 (λ_=>g3.2)
      |false=>
       refine v8 hc D1.gl D1.hl D1.S hb (jO Ay.2.1 Cu) ?_;intro x more bl2 ch2 w' g1 g2 g3 g4;exact nxt g3 g1 g2 g4 (λe=>by rw[hqo]at e;cases e)
     |false=>
      rw[if_neg (by simp)]at hb;rw[if_neg (by simp)];have:=nxt (x:=cE) (more:=[]) (bl2:=bl') (ch2:=ch) (w':=w) hb (by simpa using D1.hl) (by simpa using D1.S) (.inl rfl) (λ_=>⟨[],by simp⟩);simpa[cE,den]using this
theorem nV {i j:Nat} (m:Nat):(fb l i j)[m]?=(l[m]?).map λo=>if m=j then upE i o else o:=by
 unfold fb;split
 ·rename_i o ho;have hj:j<l.length:=by rcases Nat.lt_or_ge j l.length with h|h;exact h;simp[h]at ho
  by_cases e:m=j
  ·subst e;simp[hj,ho];have:l[m]?=some o:=ho;rw[List.getElem?_eq_getElem hj]at this;rw[Option.some.inj this]
  ·rw[List.getElem?_set_ne (λh=>e h.symm)];cases l[m]?<;>simp[e]
 ·rename_i ho;by_cases e:m=j
  ·subst e;rw[ho];rfl
  ·cases l[m]?<;>simp[e]
theorem qG {i j:Nat}:(fb l i j).length=l.length:=by unfold fb;split<;>simp
theorem Je {i j m:Nat} (h:m≠j):aK (fb l i j) m=aK l m:=by
 unfold aK;rw[nV];cases l[m]?<;>simp[h]
theorem C7 {i j m:Nat} (h:m∈Region.ready .any (fb l i j).toArray listed):m∈Region.ready .any l.toArray listed:=by
 obtain⟨o,ho,h2,h3⟩:=(an _ _ _).1 h;rw[nV]at ho;obtain⟨o',yD,e⟩:=Option.map_eq_some_iff.1 ho;refine(an _ _ _).2 ⟨o',yD,h2,λe' he hb=>h3 e' ?_ hb⟩;subst e;split
 ·simp[upE,he]
 ·exact he
theorem nW {i j m:Nat} (hm:m≠j\/listed[i]?=some true) (h:m∈Region.ready .any l.toArray listed):m∈Region.ready .any (fb l i j).toArray listed:=by
 obtain⟨o,ho,h2,h3⟩:=(an _ _ _).1 h;refine(an _ _ _).2 ⟨_,by rw[nV,ho];rfl,h2,λe he hb=>?_⟩;split at he
 ·rename_i e1;simp only[upE,Array.mem_push]at he;rcases he with he|rfl
  ·exact h3 e he hb
  ·rcases hm with hm|hm
   ·exact absurd e1 hm
   ·simp[Array.getD_eq_getD_getElem?,hm]
 ·exact h3 e he hb
theorem PL {i j:Nat} (ts:Array Value):yielded (fb l i j).toArray ts=yielded l.toArray ts:=by
 funext n;have:((fb l i j).toArray[n]?).bind (·.dst)=(l.toArray[n]?).bind (·.dst):=by
  simp only[List.getElem?_toArray,nV];cases l[n]?with
  |none=>rfl
  |some o=>simp only[Option.map_some,Option.bind_some];split<;>rfl
 unfold yielded;rw[this]
theorem Az {P:Program} {i j m:Nat} {K:Act->World->Prop} (h:wpOp P (fb l i j).toArray Q m K a w):wpOp P l.toArray Q m K a w:=by
 unfold wpOp at h⊢;simp only[List.getElem?_toArray,nV,PL]at h⊢;cases ho:l[m]?with
 |none=>rw[ho]at h;exact h
 |some o=>
  rw[ho]at h;simp only[Option.map_some]at h⊢;by_cases e:m=j
  ·rw[if_pos e]at h;cases o;exact h
  ·rw[if_neg e]at h;exact h
theorem C8 {P:Program} {i j:Nat}:∀(fuel:Nat) {listed:Array Bool} {a:Act} {w:World},listed[i]?=some true->wpAny P .any (fb l i j).toArray Q fuel listed a w->wpAny P .any l.toArray Q fuel listed a w:=by
 intro fuel;induction fuel with
 |zero=>intro listed a w hi h;exact⟨List.eq_nil_iff_forall_not_mem.2 λm hm=>(by have:=nW (j:=j) (.inr hi) hm;rw[h.1]at this;cases this),h.2⟩
 |succ fuel ih=>
  intro listed a w hi h;refine⟨λhr=>h.1 (List.eq_nil_iff_forall_not_mem.2 λm hm=>by have:=C7 hm;rw[hr]at this;cases this),λm hm=>?_⟩;refine wpOp_mono (λa w h=>ih ?_ h) (Az (h.2 m (nW (.inr hi) hm)));have hs:i<listed.size:=by rcases Nat.lt_or_ge i listed.size with h|h;exact h;simp[h]at hi
  rw[Array.getElem?_setIfInBounds];split
  ·simp[*]
  ·exact hi
theorem lN {l:List Oper} (h:(l.all λo=>!(oO o))=true) (m:Nat):oO (aK l m)=false:=by
 unfold aK;split
 ·rename_i o ho;have:=List.all_eq_true.1 h o (List.mem_of_getElem? ho);simpa using this
 ·rfl
theorem Mb {i j:Nat} {VM VN:List Nat} (hc:sY C.P C.gl call) (EH:wq q call) (Cc:i≠j) (agC:yH (fb l i j) VM=true) (agD:kp (fb l i j) (fb l i j).length=true) (agE:yH (fb l j i) VN=true) (agF:kp (fb l j i) (fb l j i).length=true)
 (hA1:((fb l i j).all λo=>!(oO o))=true) (hA2:((fb l j i).all λo=>!(oO o))=true)
 (hk:∀fr' m bl' ch' w',(rA++m).length=bl'.length->St ms w0 (lits (rA++m) (rA++m) bl'++af ch' R) w'->k fr' bl' ch'->Q .normal (act (rA++m) fr') w'):
 ∀(fuel:Nat) {PM s1 PN s2:List Nat} {fr1 VJ:List V} {listed:Array Bool} {a:Act} {w:World},
  DI C call q (fb l i j) VM R ms w0 k jv rA PM (i::s1) fr1 ids bl ch Z listed a w->yz (aK (fb l i j) i)=false->DI C call q (fb l j i) VN R ms w0 k jv rA PN (j::s2) VJ ids bl ch Z listed a w->yz (aK (fb l j i) j)=false->
  listed.toList.count false=fuel->wpAny C.P .any l.toArray Q fuel listed a w:=by
 intro fuel;induction fuel with
 |zero=>
  intro PM s1 PN s2 fr1 VJ listed a w D1 WY D2 WZ PK;exfalso;have hu:=D1.mE i (by simp) (lN hA1 i);have:=count_set listed.toList i (by simpa using hu);omega
 |succ fuel ih=>
  intro PM s1 PN s2 fr1 VJ listed a w D1 WY D2 WZ PK;have W1:=kO hc EH agC agD hk (fuel+1) D1 (.inr ⟨i,s1,rfl,WY⟩) PK;have W2:=kO hc EH agE agF hk (fuel+1) D2 (.inr ⟨j,s2,rfl,WZ⟩) PK;have hX1:zi (aK (fb l i j) i)=true:=by have:=lN hA1 i;rcases gX (aK (fb l i j) i)with h|h|h<;>simp_all
  have hX2:zi (aK (fb l j i) j)=true:=by have:=lN hA2 j;rcases gX (aK (fb l j i) j)with h|h|h<;>simp_all
  have hui:=D1.mE i (by simp) (lN hA1 i);have huj:=D2.mE j (by simp) (lN hA2 j);have CT:∀{m:Nat},listed[m]?=some false->(listed.setIfInBounds m true)[m]?=some true:=λ{m} h=>by
   have hs:m<listed.size:=by rcases Nat.lt_or_ge m listed.size with h'|h';exact h';simp[h']at h
   simp[hs]
  refine⟨λhr=>W1.1 (List.eq_nil_iff_forall_not_mem.2 λm hm=>by have:=C7 hm;rw[hr]at this;cases this),λm hm=>?_⟩;by_cases e1:m=i
  ·subst e1;exact wpOp_mono (λa w h=>C8 fuel (CT hui) h) (Az (W1.2 m (nW (.inl Cc) hm)))
  by_cases e2:m=j
  ·subst e2;exact wpOp_mono (λa w h=>C8 fuel (CT huj) h) (Az (W2.2 m (nW (.inl (λh=>Cc h.symm)) hm)))
  obtain⟨o,ho,h2,_⟩:=(an l listed m).1 hm;have OE:m<l.length:=by rcases Nat.lt_or_ge m l.length with h|h;exact h;simp[h]at ho
  have hu:listed[m]?=some false:=by
   rcases D1.bit (D1.C0 m (by rw[qG];exact OE))with hb|hb
   ·simp[Array.getD_eq_getD_getElem?,hb]at h2
   ·exact hb
  have aba:∀{l':List Oper} {pm':List Nat},yH l' pm'=true->kp l' l'.length=true->m∈Region.ready .any l'.toArray listed->(∀jj,listed[jj]?=some true->∀h,nO pm' h jj=true->listed[h]?=some true)->listed.size=l'.length->∀h,nO pm' h m=true->listed[h]?=some true:=by
   intro l' pm' SO ZC Wz back hls h hb;obtain⟨o',yD,_,h3⟩:=(an l' listed m).1 Wz;obtain⟨e,he,hbd,Jd⟩:=zj SO yD hb;have iK:=DI.nj ZC yD he hbd;have hl:listed[e.on]?=some true:=by
    have:=h3 e he hbd;rcases d_ hls iK with hb|hb
    ·exact hb
    ·simp[Array.getD_eq_getD_getElem?,hb]at this
   rcases Jd with rfl|Jd
   ·exact hl
   ·exact back _ hl h Jd
  have hp1:=aba agC agD (nW (.inl e2) hm) D1.back D1.ls;have WQ:=aba agE agF (nW (.inl e1) hm) D2.back D2.ls;have inA:∀{l':List Oper} {pm' s qD:List Nat} {x:Nat},eT (lL q l' pm') (qD++(x::s))=true->zi (aK l' x)=true->oO (aK l' m)=false->listed[x]?=some false->(∀h,nO pm' h m=true->listed[h]?=some true)->m∈qD++(x::s)->m≠x->m∈qD:=by
   intro l' pm' s qD x hp hx ha hux SS hmm e_;rcases List.mem_append.1 hmm with h|h
   ·exact h
   ·exfalso;rcases List.mem_cons.1 h with h|h
    ·exact e_ h
    ·have Mc:=(gu hp).2.2;simp only[eT,Bool.and_eq_true,List.all_eq_true]at Mc;have:=SS x ((nf (Mc.1 m h)).xj hx ha);rw[hux]at this;cases this
  have m1:=inA D1.gH hX1 (lN hA1 m) hui hp1 (D1.C0 m (by rw[qG];exact OE)) e1;have m2:=inA D2.gH hX2 (lN hA2 m) huj WQ (D2.C0 m (by rw[qG];exact OE)) e2;obtain⟨f1,v1,b1,r1⟩:=D1.recs m m1 hu;obtain⟨f2,v2,b2,r2⟩:=D2.recs m m2 hu;have o1:aK (fb l i j) m=o:=by rw[Je e2];exact nR ho
  have o2:aK (fb l j i) m=o:=by rw[Je e1];exact nR ho
  have k1:=D1.wk m1 hu hp1 r1;have k2:=D2.wk m2 hu WQ r2;have SU:=D1.did m1 hu hp1 r1;have HC:=D2.did m2 hu WQ r2;have g1:=r1.g;have g2:=r2.g;have q1:=r1.e;have q2:=r2.e;unfold looks at k1 k2;rw[o1]at k1 SU g1 q1;rw[o2]at k2 HC g2 q2;have w1:=lM k1 g1;have w2:=lM k2 g2;rw[PL]at w1 w2;obtain rfl:b1=b2:=by rw[<-w1,<-w2]
  have Ay:=ng D1.pg (show(fb l i j)[m]?=some o by rw[nV,ho];simp[e2]);have wu:(listed.setIfInBounds m true).toList.count false=fuel:=by
   have:=count_set listed.toList m (by simpa using hu);simp only[Array.toList_setIfInBounds];omega
  unfold wpOp;rw[show l.toArray[m]?=some o by simpa using ho];simp only;rw[w1];cases b1 with
  |true=>
   rw[if_pos rfl]at q1 q2;rw[if_pos rfl];refine .inl ?_;have Md:(execOp a.eval o).run C.P w=.ok (.value (den ids v1)) w:=by rw[jO Ay.2.1 k1,Av D1.gl D1.hl D1.S q1]
   have agG:(execOp a.eval o).run C.P w=.ok (.value (den ids v2)) w:=by rw[jO Ay.2.1 k2,Av D2.gl D2.hl D2.S q2]
   have hv:den ids v2=den ids v1:=by rw[Md]at agG;simpa using agG.symm
   rw[hv]at HC;unfold Oper.wp;rw[Md];simp only[Oper.upon_value];exact ih SU WY HC WZ wu
  |false=>
   rw[if_neg (by simp)]at q1 q2;rw[if_neg (by simp)];subst q1 q2;rw[show(undef:Value)=den ids cE by simp[cE,den]];exact ih SU WY HC WZ wu
end
abbrev VO (G:Type):=Exit->List V->List VB->List G->Prop
abbrev zl (G:Type):=Code->List V->List VB->List G->VO G->Prop
def AA (P:Program) (fr:List V) (bl:List VB):List ResultVar->Option (List V)
 |[]=>some []
 |.tmp t::l=>(match AA P fr bl l with|some r=>some (nth fr t::r)|none=>none)
 |.cell a t::l=>(match VI P bl t (nth fr a),AA P fr bl l with|some v,some r=>some (v::r)|_,_=>none)
def C9:List V->V
 |[v]=>v
 |l=>.az l
def PO (P:Program) (fn:Func) (K:VK G):VO G:=λe fr bl ch=>match e with
 |.normal=>(match AA P fr bl fn.results.toList with|some vs=>K (C9 vs) bl ch|none=>False)
 |.ret=>(match AA P fr bl fn.results.toList with|some vs=>K (C9 vs) bl ch|none=>False)
 |_=>False
def F_:Nat->List V
 |0=>[]
 |n+1=>cE::F_ n
def zm (C:Ctx G) (rec:zl G):gG G:=λf args bl ch K=>match C.T f with
 |some c=>c args bl ch K
 |none=>match C.P.funcs[f]?with
  |some fn=>(match fn.body with
   |some c=>rec c (args++F_ (fn.ntmps-args.length)) bl ch (PO C.P fn K)
   |none=>False)
  |none=>False
def agH (C:Ctx G) (call:gG G) (l1 l2:List Oper) (VM ts1 VN ts2:List Nat) (i j:Nat) (fr:List V) (bl:List VB) (ch:List G) (k:yG G):Prop:=
 cond (okS C l1 VM ts1 i fr.length&&(okS C l2 VN ts2 j fr.length&&(!(Nat.beq i j)&&cH bl.length fr))) (uH C call l1.toArray (VL l1 ts1) fr bl ch k/\uH C call l2.toArray (VL l2 ts2) fr bl ch k) False
def agI (C:Ctx G) (call:gG G) (l1 l2:List Oper) (VM VN:List Nat) (i j:Nat) (fr:List V) (bl:List VB) (ch:List G) (k:yG G):Prop:=agH C call l1 l2 VM (nQ l1 VM) VN (nQ l2 VN) i j fr bl ch k
def vcS (C:Ctx G) (call:gG G) (l:List Oper) (pm ts:List Nat) (fr:List V) (bl:List VB) (ch:List G) (k:yG G):Prop:=match pa l ts with
 |some (i,r)=>(match pa l r with
  |some (j,_)=>agI C call (fb l i j) (fb l j i) (wa (fb l i j) [] pm) (wa (fb l j i) [] pm) i j fr bl ch k
  |none=>False)
 |none=>False
def agJ (C:Ctx G) (call:gG G) (l:List Oper) (pm ts:List Nat) (fr:List V) (bl:List VB) (ch:List G) (k:yG G):Prop:=
 cond (v9 C C.q l pm ts fr.length&&cH bl.length fr) (uH C call l.toArray (VL l ts) fr bl ch k) (vcS C call l pm ts fr bl ch k)
def vcD (C:Ctx G) (call:gG G) (l:List Oper) (pm:List Nat) (fr:List V) (bl:List VB) (ch:List G) (k:yG G):Prop:=agJ C call l pm (nQ l pm) fr bl ch k
def agK (k:yG G) (K:VO G):VO G:=λe fr bl ch=>match e with
 |.normal=>k fr bl ch
 |e=>K e fr bl ch
def PQ (id:Nat) (K:VO G):VO G:=λe fr bl ch=>match e with
 |.exit j=>cond (Nat.beq j id) (K .normal fr bl ch) (K (.exit j) fr bl ch)
 |e=>K e fr bl ch
def lpB:Code->Option Code
 |.loop c=>some c
 |_=>none
def lpK (I:Lp G) (x:I.X) (K:VO G):VO G:=λe fr bl ch=>match e with
 |.normal=>I.en x fr bl ch
 |e=>K e fr bl ch
def Jf (C:Ctx G) (rec:zl G):zl G:=λc fr bl ch K=>match c with
 |.skip=>K .normal fr bl ch
 |.seq a b=>rec a fr bl ch (agK (λfr bl ch=>rec b fr bl ch K) K)
 |.cond x t f=>(match x with
  |.tmp i=>(match nth fr i with
   |.bool b=>cond b (rec t (j9 fr i (.bool true)) bl ch K) (rec f (j9 fr i (.bool false)) bl ch K)
   |_=>False)
  |.const (.bool b)=>cond b (rec t fr bl ch K) (rec f fr bl ch K)
  |_=>False)
 |.block id b=>(match C.lp id fr with
  |some I=>(match lpB b with
   |some c=>I.en0 fr bl ch/\∀(x:I.X) (g:Nat->Value),rec c (fill (I.fr x) g 0) (I.bl x) (I.ch x) (lpK I x (PQ id K))
   |none=>rec b fr bl ch (PQ id K))
  |none=>rec b fr bl ch (PQ id K))
 |.loop b=>rec b fr bl ch (agK (λfr bl ch=>rec (.loop b) fr bl ch K) K)
 |.exit id=>K (.exit id) fr bl ch
 |.ret=>K .ret fr bl ch
 |.region _ ops false=>uH C (zm C rec) ops ops.toList fr bl ch λfr bl ch=>K .normal fr bl ch
 |.region _ ops true=>vcD C (zm C rec) ops.toList (I_ ops.toList []) fr bl ch λfr bl ch=>K .normal fr bl ch
 |_=>False
def SV (C:Ctx G) (n:Nat):zl G:=Nat.rec (motive:=λ_=>zl G) (λ_ _ _ _ _=>False) (λ_ ih=>Jf C ih) n
def cJ (C:Ctx G) (n:Nat) (f:FuncId) (args:List V) (bl:List VB) (ch:List G) (K:VK G):Prop:=match C.P.funcs[f]?with
 |some fn=>(match fn.body with
  |some c=>SV C n c (args++F_ (fn.ntmps-args.length)) bl ch (PO C.P fn K)
  |none=>False)
 |none=>False
section
variable{C:Ctx G} {call:gG G}
theorem W0 {n:Nat} {ts:List Nat} (h1:ts.length=n) (h2:∀i∈ts,i<n) (h3:ts.Nodup):∀i,i<n->i∈ts:=by
 intro i hi;obtain⟨r,hr⟩:=mW ts (List.range n) h3 (λx hx=>List.mem_range.2 (h2 x hx));have hlen:=hr.length_eq;simp[h1]at hlen;subst hlen;have hs:(List.range n).Perm ts:=by simpa using hr
 exact hs.mem_iff.1 (List.mem_range.2 hi)
theorem DI.start {l:List Oper} {pm ts:List Nat} {R:List av} {ms:List Nat} {w0 w:World} {k:yG G} {ids:List Nat} {bl:List VB} {ch:List G} {fr:List V}
 (hg:Gl C.gl ids) (hl:ids.length=bl.length) (S:St ms w0 (lits ids ids bl++af ch R) w) (hd:v9 C C.q l pm ts fr.length=true) (hwf:cH bl.length fr=true) (h:uH C call l.toArray (VL l ts) fr bl ch k):
 (DI C call C.q l pm R ms w0 k fr ids [] ts fr ids bl ch [] (Array.replicate l.length false) (act ids fr) {w with drawn:=w.drawn+1}/\yH l pm=true/\kp l l.length=true)/\C.P.follows .mixedOrders=true:=by
 unfold v9 Jb at hd;simp only[Bool.and_eq_true]at hd;obtain⟨⟨⟨⟨⟨⟨⟨⟨⟨d1,d2⟩,d3⟩,d4⟩,d5⟩,d6⟩,d7⟩,d8⟩,d10⟩,d9⟩:=hd;have hlen:=Nat.eq_of_beq_eq_true d4;have acs:∀i∈ts,i<l.length:=λi hi=>by have:=List.all_eq_true.1 d5 i hi;rwa [Nat.blt_eq]at this
 have VP:=pd d6;have hff:∀j,j<l.length->(Array.replicate l.length false)[j]?=some false:=λj hj=>by simp[Array.getElem?_replicate];exact hj
 have hft:∀(j:Nat),(Array.replicate l.length false)[j]?=some true->False:=λj hj=>by
  rw[Array.getElem?_replicate]at hj;split at hj<;>simp at hj
 have S':St ms w0 (lits ids ids bl++af ch R) {w with drawn:=w.drawn+1}:=S.quiet (Ch.refl [] w).drew;exact⟨⟨{gH:=d7,WN:=d8,C0:=λi hi=>W0 hlen acs VP i hi,C1:=acs,nd:=VP,pg:=d9,WO:=λi hi=>(by have:=List.all_eq_true.1 d10 i hi;simpa using this),ls:=(by simp),OH:=λi hi=>(nomatch hi),mE:=λi hi _=>hff i (acs i hi),back:=λj hj=>(hft j hj).elim,vc:=h,sz:=(by simp[act,kj]),df:=rfl,slot:=λt _ _=>Au t,old:=λi hi=>(nomatch hi),we:=λt _=>rfl,recs:=λi hi=>(nomatch hi),OI:=λi hi hj=>(hft i hj).elim,oB:=λp hp=>(nomatch hp),SL:=List.nodup_nil,S:=(by simpa using S'),hl:=hl,gl:=hg,EG:=(by rw[hl];exact hwf),SN:=⟨[],by simp⟩},d1,d2⟩,d3⟩
theorem nX {l:List Oper} {pm:List Nat} {q:Nat->Bool} {i:Nat} {r:List Nat}:∀{ts:List Nat},eT (lL q l pm) ts=true->pa l ts=some (i,r)->i∈ts/\zi (aK l i)=true/\∀x∈ts,zi (aK l x)=true->x=i\/lL q l pm i x=true
 |[],_,h=>by cases h
 |y::ts,hp,h=>by
  simp only[eT,Bool.and_eq_true,List.all_eq_true]at hp;unfold pa at h;cases hX:zi (aK l y)with
  |true=>
   rw[hX]at h;obtain⟨rfl,rfl⟩:y=i/\ts=r:=by simpa using h
   exact⟨by simp,hX,λx hx _=>by rcases List.mem_cons.1 hx with e|hx;exact .inl e;exact .inr (hp.1 x hx)⟩
  |false=>
   rw[hX]at h;obtain⟨h1,h2,h3⟩:=nX hp.2 h;exact⟨List.mem_cons_of_mem _ h1,h2,λx hx HD=>by
    rcases List.mem_cons.1 hx with rfl|hx
    ·rw[hX]at HD;cases HD
    ·exact h3 x hx HD⟩
theorem DI.head {q:Nat->Bool} {l:List Oper} {pm ts b9 rest:List Nat} {R:List av} {ms:List Nat} {w0 w:World} {k:yG G} {jv fr:List V} {rA ids:List Nat} {bl:List VB} {ch:List G} {Z:List (Nat×av)} {a:Act} {n i:Nat} {r:List Nat}
 (D:DI C call q l pm R ms w0 k jv rA b9 rest fr ids bl ch Z (Array.replicate n false) a w) (hA:(l.all λo=>!(oO o))=true) (hh:rest=[]\/∃i s,rest=i::s/\yz (aK l i)=false) (hp:eT (lL q l pm) ts=true) (ju:∀x,x<l.length->x∈ts) (hX:pa l ts=some (i,r)) (hi:i<l.length):
 ∃s,rest=i::s/\yz (aK l i)=false:=by
 obtain⟨_,h2,h3⟩:=nX hp hX;have hm:i∈rest:=by
  rcases List.mem_append.1 (D.C0 i hi)with h|h
  ·have:=D.OH i h (by rcases gX (aK l i)with e|e|e<;>simp_all);rw[Array.getElem?_replicate]at this;split at this<;>simp at this
  ·exact h
 rcases hh with rfl|⟨x,s,rfl,hf⟩
 ·cases hm
 ·have hx:zi (aK l x)=true:=by have:=lN hA x;rcases gX (aK l x)with e|e|e<;>simp_all
  rcases List.mem_cons.1 hm with rfl|hm
  ·exact⟨s,rfl,hf⟩
  ·exfalso;have Wf:x<l.length:=D.C1 x (by simp);have Mc:=(gu D.gH).2.2;simp only[eT,Bool.and_eq_true,List.all_eq_true]at Mc;have hb:=(nf (Mc.1 i hm)).xj hx (lN hA i);rcases h3 x (ju x Wf) hx with rfl|h
   ·have VP:=D.nd;have:=(List.nodup_append.1 VP).2.1;exact(List.nodup_cons.1 this).1 hm
   ·have:=(nf h).nb;rw[hb]at this;cases this
theorem acu (hc:sY C.P C.gl call) (EH:wq C.q call) {id:Nat} {ops:Array Oper} {R:List av} {ms:List Nat} {w0 w:World} {Q:Exit->Act->World->Prop} {k:yG G} {ids:List Nat} {bl:List VB} {ch:List G} {fr:List V}
 (hg:Gl C.gl ids) (hl:ids.length=bl.length) (S:St ms w0 (lits ids ids bl++af ch R) w) (h:vcD C call ops.toList (I_ ops.toList []) fr bl ch k)
 (hk:∀fr' more bl' ch' w',(ids++more).length=bl'.length->St ms w0 (lits (ids++more) (ids++more) bl'++af ch' R) w'->k fr' bl' ch'->Q .normal (act (ids++more) fr') w'):
 (Code.region id ops true).wp C.P Q (act ids fr) w:=by
 unfold vcD agJ at h;generalize Px:ops.toList=l at h;generalize I_ l []=pm at h;generalize nQ l pm=ts at h;have akC:ops=l.toArray:=by rw[<-Px]
 subst akC;cases hd:v9 C C.q l pm ts fr.length&&cH bl.length fr with
 |true=>
  rw[hd]at h;simp only[Bool.and_eq_true]at hd;obtain⟨⟨D,d1,d2⟩,d3⟩:=DI.start hg hl S hd.1 hd.2 h;refine wp_region_any d3 ?_;obtain⟨b9,r,fr',D',hh⟩:=D.ni ts;exact kO hc EH d1 d2 hk _ D' hh (by simp[List.count_replicate_self])
 |false=>
  rw[hd]at h;simp only[cond_false]at h;unfold vcS at h;split at h
  ·rename_i i r1 WY;split at h
   ·rename_i j r2 WZ;unfold agI agH at h;generalize wa (fb l i j) [] pm=VM at h;generalize wa (fb l j i) [] pm=VN at h;generalize nQ (fb l i j) VM=ts1 at h;generalize nQ (fb l j i) VN=ts2 at h;cases hq:okS C (fb l i j) VM ts1 i fr.length&&(okS C (fb l j i) VN ts2 j fr.length&&(!(Nat.beq i j)&&cH bl.length fr))with
    |false=>rw[hq]at h;exact h.elim
    |true=>
     rw[hq]at h;simp only[Bool.and_eq_true,Bool.not_eq_true']at hq;obtain⟨q1,q2,q3,q4⟩:=hq;have Cc:i≠j:=λe=>by rw[e,Nat.beq_refl]at q3;cases q3
     unfold okS at q1 q2;simp only[Bool.and_eq_true]at q1 q2;obtain⟨⟨a1,a2⟩,a3⟩:=q1;obtain⟨⟨c1,c2⟩,c3⟩:=q2;obtain⟨⟨D1,d1,d2⟩,d3⟩:=DI.start hg hl S a1 q4 h.1;obtain⟨⟨D2,e1,e2⟩,_⟩:=DI.start hg hl S c1 q4 h.2;rw[qG]at D1 D2;split at a3
     ·rename_i x1 y1 g1;obtain rfl:=Nat.eq_of_beq_eq_true a3;split at c3
      ·rename_i x2 y2 g2;obtain rfl:=Nat.eq_of_beq_eq_true c3;obtain⟨ab1,rs1,f1,SU,h1⟩:=D1.ni ts1;obtain⟨ab2,Tm,f2,HC,h2⟩:=D2.ni ts2;have p1:=nX D1.gH g1;have p2:=nX D2.gH g2;obtain⟨s1,rfl,hn1⟩:=SU.head a2 h1 D1.gH (λx hx=>by simpa using D1.C0 x hx) g1 (D1.C1 _ (by simpa using p1.1));obtain⟨s2,rfl,hn2⟩:=HC.head c2 h2 D2.gH (λx hx=>by simpa using D2.C0 x hx) g2 (D2.C1 _ (by simpa using p2.1));refine wp_region_any d3 ?_;exact Mb hc EH Cc d1 d2 e1 e2 a2 c2 hk _ SU hn1 HC hn2 (by simp[List.count_replicate_self])
      ·cases c3
     ·cases a3
   ·exact h.elim
  ·exact h.elim
def iz (C:Ctx G):Prop:=∀f,C.q f=true->∃c,C.T f=some c/\∀args bl ch K,c args bl ch K->c args bl ch λv bl' ch'=>K v bl' ch'/\∃e,bl'=bl++e
theorem C_ (hQ:iz C) {rec:zl G}:wq C.q (zm C rec):=by
 intro f hf args bl ch K h;obtain⟨c,hc,hq⟩:=hQ f hf;unfold zm at h⊢;rw[hc]at h⊢;exact hq args bl ch K h
theorem Me {ids:List Nat} (n:Nat):ao ids (F_ n)=List.replicate n undef:=by
 induction n with
 |zero=>rfl
 |succ n ih=>simp[F_,ao,ih,List.replicate_succ,cE,den]
theorem Mf {ids:List Nat} (a b:List V):ao ids (a++b)=ao ids a++ao ids b:=by simp[kj]
theorem AB {P:Program} {ids:List Nat} {fr:List V} {bl:List VB} {R:List av} {ms:List Nat} {w0 w:World} (hl:ids.length=bl.length) (S:St ms w0 (lits ids ids bl++R) w):
 ∀(rs:List ResultVar) {vs:List V},AA P fr bl rs=some vs->Ac P w (ao ids fr).toArray rs (ao ids vs)
 |[],vs,h=>by simp only[AA,Option.some.injEq]at h;subst h;exact trivial
 |.tmp t::l,vs,h=>by
  simp only[AA]at h;split at h
  ·rename_i r hr;simp only[Option.some.injEq]at h;subst h;refine⟨?_,AB hl S l hr⟩;simp only[mM,<-lI];rfl
  ·cases h
 |.cell a t::l,vs,h=>by
  simp only[AA]at h;split at h
  ·rename_i v r hv hr;simp only[Option.some.injEq]at h;subst h;refine⟨?_,AB hl S l hr⟩;have h1:=As (P:=P) hl S hv;have h2:∃x,den ids (nth fr a)=.pointer (some x):=by
    unfold VI at hv;split at hv
    ·rename_i i off hx;exact⟨⟨ids.getD i 0,off,none⟩,by rw[hx];simp only[den]⟩
    ·cases hv
   obtain⟨x,hx⟩:=h2;rw[hx]at h1;simp only[Instr.loadAt,Instr.sureAddr,Sem.run_bind,Sem.run_pure,Result.andThen_ok]at h1;simp only[mM,<-lI,hx,asAddr,Sem.run_bind,Sem.run_pure,Result.andThen_ok,h1]
  ·cases h
theorem PR {ids:List Nat} (vs:List V):Ad (ao ids vs)=den ids (C9 vs):=by
 match vs with
 |[]=>rfl
 |[v]=>rfl
 |_::_::_=>simp[ao,Ad,C9,den]
theorem W3 {P:Program} {fn:Func} {K:VK G} {e:Exit} {fr:List V} {bl:List VB} {ch:List G} {ids:List Nat} {R:List av} {ms:List Nat} {w0 w:World} (hl:ids.length=bl.length) (S:St ms w0 (lits ids ids bl++R) w)
 (h:PO P fn K e fr bl ch) {R':Value->World->Prop} (hk:∀x,K x bl ch->R' (den ids x) w):bodyPost P fn (λe w'=>∃v,e=.returned v/\R' v w') e (act ids fr) w:=by
 have main:(match AA P fr bl fn.results.toList with|some vs=>K (C9 vs) bl ch|none=>False)->∃v,(results fn (act ids fr).tmps).run P w=.ok v w/\R' v w:=by
  intro h;split at h
  ·rename_i vs hvs;exact⟨_,fY (fn:=fn) fn.results.toList _ _ (AB hl S _ hvs) (by simp) (PR vs),hk _ h⟩
  ·exact h.elim
 unfold PO at h;split at h
 ·obtain⟨v,h1,h2⟩:=main h;exact⟨rfl,v,h1,v,rfl,h2⟩
 ·obtain⟨v,h1,h2⟩:=main h;exact⟨rfl,v,h1,v,rfl,h2⟩
 ·exact h.elim
theorem vd {ids more:List Nat}:∀(l:List (Option V)) (fr:List V) (i:Nat) (g:Nat->Value),SG ids.length l fr->(∀t,g (i+t)=den (ids++more) (nth fr t))->ao (ids++more) fr=ao ids (fill l g i)
 |[],[],_,_,_,_=>by simp[fill,ao]
 |some v::l,u::fr,i,g,h,hg=>by
  obtain⟨rfl,hw,h⟩:=h;simp only[fill,ao];rw[bC u hw,vd l fr (i+1) g h (λt=>by have:=hg (t+1);simp only[nth]at this;rw[<-this];congr 1;omega)]
 |none::l,u::fr,i,g,h,hg=>by
  simp only[fill,ao,den];rw[vd l fr (i+1) g h (λt=>by have:=hg (t+1);simp only[nth]at this;rw[<-this];congr 1;omega)];have:=hg 0;simp only[nth,Nat.add_zero]at this;rw[this]
 |[],_::_,_,_,h,_=>h.elim
 |some _::_,[],_,_,h,_=>h.elim
 |none::_,[],_,_,h,_=>h.elim
theorem PS (ids more:List Nat) (bl j:List VB) (hl:bl.length=ids.length) (hw:dk ids.length bl=true):lits (ids++more) (ids++more) (bl++j)=lits ids ids bl++lits (ids++more) more j:=by
 rw[aI _ _ _ _ hl.symm,aJ _ _ hw]
theorem akD {ms:List Nat} {w0 w:World} {A B R:List av} (S:St ms w0 ((A++B)++R) w):St ms w0 (A++R) w:=S.sub (List.Sublist.append_right (List.sublist_append_left A B) R)
def Ga (C:Ctx G) (n:Nat):Prop:=∀(c:Code) {fr:List V} {bl:List VB} {ch:List G} {K:VO G} {ids:List Nat} {R:List av} {ms:List Nat} {w0 w:World} {Q:Exit->Act->World->Prop},
 Gl C.gl ids->ids.length=bl.length->St ms w0 (lits ids ids bl++af ch R) w->SV C n c fr bl ch K->
 (∀e fr' more bl' ch' w',(ids++more).length=bl'.length->St ms w0 (lits (ids++more) (ids++more) bl'++af ch' R) w'->K e fr' bl' ch'->Q e (act (ids++more) fr') w')->
 c.wp C.P Q (act ids fr) w/\(∀b,c=.loop b->Code.rounds C.P b Q n (act ids fr) w)
theorem abb {n:Nat} (ih:Ga C n) {f:Nat} {fn:Func} {c:Code} (hf:C.P.funcs[f]?=some fn) (hb:fn.body=some c) {args:List V} {ids:List Nat} {bl:List VB} {ch:List G} {R:List av} {ms:List Nat} {w0 w:World} {K:VK G}
 (hg:Gl C.gl ids) (hl:ids.length=bl.length) (S:St ms w0 (lits ids ids bl++af ch R) w) (h:SV C n c (args++F_ (fn.ntmps-args.length)) bl ch (PO C.P fn K)):
 aj C.P f (ao ids args).toArray w λv w'=>∃x more bl' ch',v=den (ids++more) x/\(ids++more).length=bl'.length/\St ms w0 (lits (ids++more) (ids++more) bl'++af ch' R) w'/\K x bl' ch':=by
 refine calls_of_wp hf hb ?_;have e:({tmps:=(ao ids args).toArray++Array.replicate (fn.ntmps-(ao ids args).toArray.size) undef,defers:=[]}:Act)=act ids (args++F_ (fn.ntmps-args.length)):=by
  simp only[act,Mf,Me];congr 1;apply Array.ext';simp[kj]
 rw[e];refine(ih c hg hl S h ?_).1;intro e fr' more bl' ch' w' g1 g2 g3;refine W3 g1 g2 g3 ?_;intro x hx;exact⟨x,more,bl',ch',rfl,g1,g2,hx⟩
theorem Da {n:Nat} (hT:∀f c,C.T f=some c->Sound C.P C.gl f c) (ih:Ga C n):sY C.P C.gl (zm C (SV C n)):=by
 intro f hf args ids bl ch R ms w0 w K hg hl S h;unfold zm at h;split at h
 ·rename_i c hc;exact hT f c hc args ids bl ch R ms w0 w K hg hl S h
 ·split at h
  ·rename_i fn hfn;split at h
   ·rename_i c hc;exact abb ih hfn hc hg hl S h
   ·exact h.elim
  ·exact h.elim
theorem PT {ids:List Nat} {fr:List V} (i:Nat):(act ids fr).eval (.tmp i)=den ids (nth fr i):=by simp only[Act.eval,act,lI]
theorem sound (hT:∀f c,C.T f=some c->Sound C.P C.gl f c) (hQ:iz C):∀n,Ga C n:=by
 intro n;induction n with
 |zero=>intro c fr bl ch K ids R ms w0 w Q hg hl S h;exact h.elim
 |succ n ih=>
  intro c fr bl ch K ids R ms w0 w Q hg hl S h hk;replace h:Jf C (SV C n) c fr bl ch K:=h;generalize acv:SV C n=rec at h;have PU:∀(c:Code) {fr:List V} {bl:List VB} {ch:List G} {K:VO G} {ids:List Nat} {R:List av} {ms:List Nat} {w0 w:World} {Q:Exit->Act->World->Prop},Gl C.gl ids->ids.length=bl.length->St ms w0 (lits ids ids bl++af ch R) w->rec c fr bl ch K->(∀e fr' more bl' ch' w',(ids++more).length=bl'.length->St ms w0 (lits (ids++more) (ids++more) bl'++af ch' R) w'->K e fr' bl' ch'->Q e (act (ids++more) fr') w')->c.wp C.P Q (act ids fr) w/\(∀b,c=.loop b->Code.rounds C.P b Q n (act ids fr) w):=by rw[<-acv];exact ih
  have OF:∀e,K e fr bl ch->Q e (act ids fr) w:=λe he=>by
   have:=hk e fr [] bl ch w (by simpa using hl) (by simpa using S) he;simpa using this
  have trans:∀{more:List Nat} {e:Exit} {fr':List V} {bl':List VB} {ch':List G} {w':World},(∀e VJ aP bl2 ch2 w2,((ids++more)++aP).length=bl2.length->St ms w0 (lits ((ids++more)++aP) ((ids++more)++aP) bl2++af ch2 R) w2->K e VJ bl2 ch2->Q e (act ((ids++more)++aP) VJ) w2):=by
   intro more e fr' bl' ch' w' e VJ aP bl2 ch2 w2 g1 g2 g3;rw[List.append_assoc]at g1 g2⊢;exact hk e VJ (more++aP) bl2 ch2 w2 g1 g2 g3
  cases c with
  |skip=>exact⟨wp_skip (OF _ h),λb e=>nomatch e⟩
  |seq a b=>
   refine⟨?_,λb e=>nomatch e⟩;refine wp_seq ((PU a hg hl S h ?_).1);intro e fr' more bl' ch' w' g1 g2 g3;cases e with
   |normal=>exact(PU b (hg.app more) g1 g2 g3 (trans (e:=.normal) (fr':=fr') (bl':=bl') (ch':=ch') (w':=w'))).1
   |_=>exact hk _ fr' more bl' ch' w' g1 g2 g3
  |cond x t f=>
   refine⟨?_,λb e=>nomatch e⟩;unfold Jf at h;dsimp only at h;split at h
   ·rename_i i;split at h
    ·rename_i b hb;have hs:=qB fr i;rw[hb]at hs;have hev:(act ids fr).eval (.tmp i)=.bool b:=by rw[PT,hb];simp only[den]
     cases b with
     |true=>rw[hs]at h;exact wp_cond_true hev (PU t hg hl S h hk).1
     |false=>rw[hs]at h;exact wp_cond_false hev (PU f hg hl S h hk).1
    ·exact h.elim
   ·rename_i b;cases b with
    |true=>exact wp_cond_true rfl (PU t hg hl S h hk).1
    |false=>exact wp_cond_false rfl (PU f hg hl S h hk).1
   ·exact h.elim
  |block id b=>
   refine⟨?_,λb e=>nomatch e⟩;have fin:∀e fr' more bl' ch' w',(ids++more).length=bl'.length->St ms w0 (lits (ids++more) (ids++more) bl'++af ch' R) w'->PQ id K e fr' bl' ch'->Exit.inBlock id Q e (act (ids++more) fr') w':=by
    intro e fr' more bl' ch' w' g1 g2 g3;cases e with
    |exit j=>
     simp only[PQ]at g3;unfold Exit.inBlock;by_cases hj:j=id
     ·subst hj;rw[Nat.beq_refl]at g3;simp only[if_true];exact hk _ _ _ _ _ _ g1 g2 g3
     ·have:Nat.beq j id=false:=by
       cases hb:Nat.beq j id with
       |true=>exact absurd (Nat.eq_of_beq_eq_true hb) hj
       |false=>rfl
      rw[this]at g3;simp only[if_neg hj];exact hk _ _ _ _ _ _ g1 g2 g3
    |_=>exact hk _ _ _ _ _ _ g1 g2 g3
   unfold Jf at h;dsimp only at h;split at h
   ·rename_i I hI;split at h
    ·rename_i c hc;obtain rfl:b=.loop c:=by
      unfold lpB at hc;split at hc
      ·cases hc;rfl
      ·cases hc
     obtain⟨h0,hx⟩:=h;have key:∀N (x:I.X) (g:Nat->Value) w',I.m x<N->(I.bl x).length=ids.length->St ms w0 (lits ids ids (I.bl x)++af (I.ch x) R) w'->Code.rounds C.P c (Exit.inBlock id Q) N (act ids (fill (I.fr x) g 0)) w':=by
      intro N;induction N with
      |zero=>intro x g w' hN;omega
      |succ N ihN=>
       intro x g w' hN OB Sx;refine(PU c hg OB.symm Sx (hx x g) ?_).1;intro e fr' more bl' ch' w2 g1 g2 g3;cases e with
       |normal=>
        obtain⟨y,hm,hf,hly,hwf,⟨j,rfl⟩,rfl⟩:=I.ok x fr' bl' ch' g3;have e1:act (ids++more) fr'=act ids (fill (I.fr y) (λt=>den (ids++more) (nth fr' t)) 0):=by
         simp only[act];rw[vd (I.fr y) fr' 0 (λt=>den (ids++more) (nth fr' t)) (by rw[<-OB];exact hf) (λt=>by simp)]
        show Code.rounds C.P c _ N (act (ids++more) fr') w2;rw[e1];refine ihN y _ w2 (by omega) (hly.trans OB) ?_;rw[OB]at hwf hly;rw[PS ids more (I.bl y) j hly hwf]at g2;exact akD g2
       |_=>exact fin _ fr' more bl' ch' w2 g1 g2 (by first|exact g3|(unfold lpK at g3;exact g3))
     obtain⟨x0,hf,rfl,rfl⟩:=I.ok0 fr bl ch h0;refine wp_block (wp_loop_rounds (I.m x0+1) ?_);have e1:act ids fr=act ids (fill (I.fr x0) (λt=>den ids (nth fr t)) 0):=by
      have:=vd (ids:=ids) (more:=[]) (I.fr x0) fr 0 (λt=>den ids (nth fr t)) (by rw[hl];exact hf) (λt=>by simp);simp only[act];simp only[List.append_nil]at this;rw[this]
     rw[e1];exact key _ x0 _ w (Nat.lt_succ_self _) hl.symm S
    ·exact wp_block ((PU b hg hl S h fin).1)
   ·exact wp_block ((PU b hg hl S h fin).1)
  |loop b=>
   have key:Code.rounds C.P b Q (n+1) (act ids fr) w:=by
    refine(PU b hg hl S h ?_).1;intro e fr' more bl' ch' w' g1 g2 g3;cases e with
    |normal=>exact(PU (.loop b) (hg.app more) g1 g2 g3 (trans (e:=.normal) (fr':=fr') (bl':=bl') (ch':=ch') (w':=w'))).2 b rfl
    |_=>exact hk _ fr' more bl' ch' w' g1 g2 g3
   exact⟨wp_loop_rounds (n+1) key,λb' e=>by cases e;exact key⟩
  |exit id=>exact⟨wp_exit (OF _ h),λb e=>nomatch e⟩
  |ret=>exact⟨wp_ret (OF _ h),λb e=>nomatch e⟩
  |region id ops d=>
   refine⟨?_,λb e=>nomatch e⟩;cases d with
   |true=>exact acu (acv▸Da hT ih) (C_ hQ) hg hl S h (λfr' more bl' ch' w' g1 g2 g3=>hk _ _ _ _ _ _ g1 g2 g3)
   |false=>
    refine wp_region_list ?_;exact(FX (Da hT ih) ops.toList hg hl S (by rw[acv];exact h) (λfr' more bl' ch' w' g1 g2 g3=>hk _ _ _ _ _ _ g1 g2 g3)).out
  |_=>exact h.elim
theorem bw (hT:∀f c,C.T f=some c->Sound C.P C.gl f c) (hQ:iz C) (n:Nat) {f:Nat} {args:List V} {ids:List Nat} {bl:List VB} {ch:List G} {R:List av} {ms:List Nat} {w0 w:World} {K:VK G}
 (hg:Gl C.gl ids) (hl:ids.length=bl.length) (S:St ms w0 (lits ids ids bl++af ch R) w) (h:cJ C n f args bl ch K):
 aj C.P f (ao ids args).toArray w λv w'=>∃x more bl' ch',v=den (ids++more) x/\(ids++more).length=bl'.length/\St ms w0 (lits (ids++more) (ids++more) bl'++af ch' R) w'/\K x bl' ch':=by
 unfold cJ at h;split at h
 ·rename_i fn hf;split at h
  ·rename_i c hb;exact abb (sound hT hQ n) hf hb hg hl S h
  ·exact h.elim
 ·exact h.elim
end
structure dI (G:Type) where
 f:FuncId
 q:Bool
 c:gm G
def OK:List (dI G)->FuncId->Option (gm G)
 |[],_=>none
 |e::l,f=>bif Nat.beq e.f f then some e.c else OK l f
def VQ:List (dI G)->FuncId->Bool
 |[],_=>false
 |e::l,f=>bif Nat.beq e.f f then e.q else VQ l f
def dR (P:Program) (gl:Nat->Option Nat) (L:List (dI G)):Ctx G:=⟨P,OK L,gl,VQ L,noH,FU,λ_ _=>none⟩
def cT (c:gm G):Prop:=∀args bl ch K,c args bl ch K->c args bl ch λv bl' ch'=>K v bl' ch'/\∃e,bl'=bl++e
def oP (P:Program) (gl:Nat->Option Nat) (e:dI G):Prop:=Sound P gl e.f e.c/\(e.q=true->cT e.c)
def ai (P:Program) (gl:Nat->Option Nat) (L:List (dI G)):Prop:=∀e∈L,oP P gl e
theorem ai.nil {P:Program} {gl:Nat->Option Nat}:ai (G:=G) P gl []:=λe h=>nomatch h
theorem ai.cons {P:Program} {gl:Nat->Option Nat} {e:dI G} {L:List (dI G)} (h:oP P gl e) (k:ai P gl L):ai P gl (e::L):=λx hx=>by
 rcases List.mem_cons.1 hx with rfl|hx
 ·exact h
 ·exact k x hx
theorem ai.app {P:Program} {gl:Nat->Option Nat} {L M:List (dI G)} (h:ai P gl L) (k:ai P gl M):ai P gl (L++M):=λx hx=>by
 rcases List.mem_append.1 hx with hx|hx
 ·exact h x hx
 ·exact k x hx
theorem ai.T {P:Program} {gl:Nat->Option Nat} {L:List (dI G)} (h:ai P gl L):∀f c,(dR P gl L).T f=some c->Sound (dR P gl L).P (dR P gl L).gl f c:=by
 intro f c hc;replace hc:OK L f=some c:=hc;show Sound P gl f c;induction L with
 |nil=>cases hc
 |cons e L ih=>
  unfold OK at hc;cases hb:Nat.beq e.f f with
  |true=>
   rw[hb]at hc;obtain rfl:e.c=c:=by simpa using hc
   obtain rfl:=Nat.eq_of_beq_eq_true hb;exact(h e (by simp)).1
  |false=>
   rw[hb]at hc;exact ih (λx hx=>h x (by simp[hx])) hc
theorem ai.Q {P:Program} {gl:Nat->Option Nat} {L:List (dI G)} (h:ai P gl L):iz (dR P gl L):=by
 intro f hf;replace hf:VQ L f=true:=hf;show∃c,OK L f=some c/\_;induction L with
 |nil=>cases hf
 |cons e L ih=>
  unfold VQ at hf;unfold OK;cases hb:Nat.beq e.f f with
  |true=>
   rw[hb]at hf;exact⟨e.c,rfl,(h e (by simp)).2 (by simpa using hf)⟩
  |false=>
   rw[hb]at hf;exact ih (λx hx=>h x (by simp[hx])) hf
def qC (F:List V->List VB->Option (Prop×V)):gm G:=λargs bl ch K=>match F args bl with
 |some (p,v)=>p/\K v bl ch
 |none=>False
theorem qH (F:List V->List VB->Option (Prop×V)):cT (G:=G) (qC F):=by
 intro args bl ch K h;unfold qC at h⊢;split at h
 ·exact⟨h.1,h.2,[],by simp⟩
 ·exact h
def Mem (ids:List Nat) (bl:List VB) (w:World):Prop:=ids.length=bl.length/\∀(i:Nat) (b:VB),bl[i]?=some b->w.heap[ids.getD i 0]?=some (.cells (ab ids b.c).toArray b.ty.t b.ty.fz)
structure QF where
 f:FuncId
 F:List V->List VB->Option (Prop×V)
def QF.Ok (P:Program) (gl:Nat->Option Nat) (q:QF):Prop:=∀args bl p v,q.F args bl=some (p,v)->p->∀ids w,Gl gl ids->Mem ids bl w->aj P q.f (ao ids args).toArray w λx w'=>x=den ids v/\Ch [] w w'
theorem qI {P:Program} {gl:Nat->Option Nat} {q:QF} (h:q.Ok P gl):Sound P gl q.f (qC (G:=G) q.F):=by
 intro args ids bl ch R ms w0 w K hg hl S hc;unfold qC at hc;split at hc
 ·rename_i p v hF;refine(h args bl p v hF hc.1 ids w hg ⟨hl,λi b hb=>(cA hl S hb).2⟩).mono ?_;rintro x w' ⟨rfl,eZ⟩;exact⟨v,[],bl,ch,by simp,by simpa using hl,by simpa using S.quiet eZ,hc.2⟩
 ·exact hc.elim
def qE (G:Type) [Bl G] (q:QF):dI G:=⟨q.f,true,qC q.F⟩
def qL (G:Type) [Bl G]:List QF->List (dI G)
 |[]=>[]
 |q::l=>qE G q::qL G l
def aZ (P:Program) (gl:Nat->Option Nat) (L:List QF):Prop:=∀q∈L,QF.Ok P gl q
theorem f_ {P:Program} {gl:Nat->Option Nat}:∀{L:List QF},aZ P gl L->ai (G:=G) P gl (qL G L)
 |[],_=>ai.nil
 |q::l,h=>ai.cons ⟨qI (h q (by simp)),λ_=>qH q.F⟩ (f_ λx hx=>h x (by simp[hx]))
theorem aZ.nil {P:Program} {gl:Nat->Option Nat}:aZ P gl []:=λe h=>nomatch h
theorem aZ.cons {P:Program} {gl:Nat->Option Nat} {e:QF} {L:List QF} (h:e.Ok P gl) (k:aZ P gl L):aZ P gl (e::L):=λx hx=>by
 rcases List.mem_cons.1 hx with rfl|hx
 ·exact h
 ·exact k x hx
theorem aZ.app {P:Program} {gl:Nat->Option Nat} {L M:List QF} (h:aZ P gl L) (k:aZ P gl M):aZ P gl (L++M):=λx hx=>by
 rcases List.mem_append.1 hx with hx|hx
 ·exact h x hx
 ·exact k x hx
instance:Bl Empty:=⟨λ_=>[]⟩
def jQ (P:Program) (L:List QF) (n:Nat) (f:FuncId) (args:List V) (X:V->Prop):Prop:=cJ (dR P (λ_=>none) (qL Empty L)) n f args [] [] λv _ _=>X v
theorem Gl.none {ids:List Nat}:Gl (λ_=>none) ids:=λg i h=>nomatch h
theorem ta {P:Program} {L:List QF} (hL:aZ P (λ_=>none) L) (n:Nat) {f:Nat} {args:List V} {v:V} (h:jQ P L n f args (·=v)) (ha:cH 0 args=true) (hv:fK 0 v=true) (ids:List Nat) (w:World):
 aj P f (ao ids args).toArray w λx w'=>x=den ids v/\Ch [] w w':=by
 have e1:ao ids args=ao [] args:=by have:=dW (ids:=[]) (more:=ids) args ha;simpa using this
 have e2:∀is,den is v=den [] v:=λis=>by have:=bC (ids:=[]) (more:=is) v hv;simpa using this
 rw[e1];refine(bw (f_ hL).T (f_ hL).Q n (C:=dR P (λ_=>none) (qL Empty L)) (ids:=[]) (bl:=[]) (ch:=[]) (R:=[]) (ms:=[]) (w0:=w) (w:=w) Gl.none rfl (St.nil [] w) h).mono ?_;rintro x w' ⟨y,more,bl',ch',rfl,h1,S,rfl⟩;exact⟨by rw[e2 ids,e2],S.ch⟩
theorem aU {b:Bool} {X Y:Prop} (h:b=true->X) (k:b=false->Y):cond b X Y:=by cases b;exact k rfl;exact h rfl
end Vx
namespace Vx
open Go Go.RowKit Go.BigFrame Sx
structure aC where
 T:TypeId
 z:Nat
 os:List Value
 x:Option Addr
 n:Nat
 c:Nat
 bl:List av
 h:fa z T os x n c bl
instance:Bl aC:=⟨λg=>g.bl⟩
def aC.v (g:aC):V:=.raw (.slice g.x g.n g.c)
def aC.nil (T z:Nat):aC:=⟨T,z,[],none,0,0,[],iO z T⟩
def gZ (P:Program) (T:TypeId):Option (Nat×Nat):=match P.info? T with
 |some i=>(match i.zero with
  |some v=>bif Nat.beq v.cells.size i.size then some (i.size,i.bytes)else none
  |none=>none)
 |none=>none
def W4 (T z:Nat) (s:V) (m:Nat) (news:List Value) (bl:List VB) (K:VK aC):List aC->List aC->Prop
 |_,[]=>False
 |pre,g::l=>bif Nat.beq g.T T then cond (Nat.beq g.z z) ((s=g.v/\g.n+m<=1000000)/\∀(x:Option Addr) (c:Nat) (bk:List av) (h:fa g.z g.T (g.os++news) x (g.n+m) c bk),K (.raw (.slice x (g.n+m) c)) bl (pre++⟨g.T,g.z,g.os++news,x,g.n+m,c,bk,h⟩::l)) False
  else W4 T z s m news bl K (pre++[g]) l
def W5 (P:Program):(Operand->V)->Op->List VB->List aC->VK aC->Prop:=λe op bl ch K=>match op with
 |.call c=>(match c.callee,c.args.toList,c.argTypes.toList with
  |.builtin .append,[s,xs],[t,tx]=>(match P.underlying t,P.underlying tx with
   |some (.slice T),some (.slice _)=>(match gZ P T,e xs with
    |some (z,cX),.sl i 0 m _=>(match bl[i]?with
     |some b=>cond (Nat.beq (eL b.c) (m*z)&&(cH 0 b.c&&(mY b.c&&Nat.ble cX 10000000))) (W4 T z (e s) m (ab [] b.c) bl K [] ch) False
     |none=>False)
    |_,_=>False)
   |_,_=>False)
  |_,_,_=>False)
 |_=>False
theorem cV {G:Type} [Bl G] (R:List av):∀(a b:List G),af (a++b) R=af a (af b R)
 |[],b=>rfl
 |g::a,b=>by simp only[List.cons_append,af,cV R a b]
theorem aW {G:Type} [Bl G] (R:List av):∀(a:List G),af a R=af a []++R
 |[]=>rfl
 |g::a=>by simp only[af,aW R a,List.append_assoc]
theorem Db {T z:Nat} {s:V} {m:Nat} {news:List Value} {bl:List VB} {K:VK aC}:∀(ch pre:List aC),W4 T z s m news bl K pre ch->∃(l1:List aC) (g:aC) (l2:List aC),ch=l1++g::l2/\g.T=T/\g.z=z/\s=g.v/\g.n+m<=1000000/\
 ∀(x:Option Addr) (c:Nat) (bk:List av) (h:fa g.z g.T (g.os++news) x (g.n+m) c bk),K (.raw (.slice x (g.n+m) c)) bl ((pre++l1)++⟨g.T,g.z,g.os++news,x,g.n+m,c,bk,h⟩::l2)
 |[],pre,h=>h.elim
 |g::l,pre,h=>by
  unfold W4 at h;cases hb:Nat.beq g.T T with
  |true=>
   rw[hb]at h;simp only[cond_true]at h;cases hz:Nat.beq g.z z with
   |false=>rw[hz]at h;exact h.elim
   |true=>
    rw[hz]at h;exact⟨[],g,l,rfl,Nat.eq_of_beq_eq_true hb,Nat.eq_of_beq_eq_true hz,h.1.1,h.1.2,by simpa using h.2⟩
  |false=>
   rw[hb]at h;obtain⟨l1,g',l2,rfl,h1,h2,h3,h4,h5⟩:=Db l _ h;refine⟨g::l1,g',l2,rfl,h1,h2,h3,h4,?_⟩;intro x c bk hh;have:=h5 x c bk hh;simpa[List.append_assoc]using this
theorem Jg {P:Program} {gl:Nat->Option Nat}:oA P gl (W5 P):=by
 intro e op ids bl ch R ms w0 w K ρ o hg hl S cx ho h;unfold W5 at h;split at h
 ·rename_i c;split at h
  ·rename_i s xs t tx eU a9 ju;split at h
   ·rename_i T T' ht o9;split at h
    ·rename_i z cX i m cc aF ow;split at h
     ·rename_i b hb;cases hq:Nat.beq (eL b.c) (m*z)&&(cH 0 b.c&&(mY b.c&&Nat.ble cX 10000000))with
      |false=>rw[hq]at h;exact h.elim
      |true=>
       rw[hq]at h;simp only[cond_true]at h;simp only[Bool.and_eq_true]at hq;obtain⟨q1,q2,q3,q4⟩:=hq;have q1:=Nat.eq_of_beq_eq_true q1;have q4:=Nat.le_of_ble_eq_true q4;obtain⟨l1,g,l2,rfl,rfl,rfl,hs,hn,hK⟩:=Db _ _ h;have hi:(P.info? g.T).map (λi=>(i.zero.map (·.cells.size),i.size,i.bytes))=some (some g.z,g.z,cX):=by
        unfold gZ at aF;split at aF
        ·rename_i inf wv;split at aF
         ·rename_i v hv;cases Mg:Nat.beq v.cells.size inf.size with
          |false=>rw[Mg]at aF;simp at aF
          |true=>
           rw[Mg]at aF;simp only[cond_true,Option.some.injEq,Prod.mk.injEq]at aF;have:=Nat.eq_of_beq_eq_true Mg;simp[wv,hv,this,aF.1,aF.2]
         ·cases aF
        ·cases aF
       have hd:ab ids b.c=ab [] b.c:=by have:=bU (ids:=[]) (more:=ids) b.c q2;simpa using this
       have ba:=(cA hl S hb).2;have hlen:(ab [] b.c).length=m*g.z:=by rw[<-q1];exact cL b.c
       have fZ:Src P g.z tx (.slice (some ⟨ids.getD i 0,0,none⟩) m cc) m (ab [] b.c) w:=by
        refine Src.ofSlice w o9 ⟨ids.getD i 0,0,none⟩ m cc _ hlen (λj u hj=>?_) (λu hu=>lJ q3 u hu);rw[Addr.add_lit,cell_of ba,hd];simpa using hj
       have e1:lits ids ids bl++af (l1++g::l2) R=(lits ids ids bl++af l1 [])++(g.bl++af l2 R):=by
        rw[cV,aW (af (g::l2) R) l1];simp only[af,List.append_assoc];rfl
       rw[e1]at S;have AD:(g.n+m)*cX<=140737488355328:=Nat.le_trans (Nat.mul_le_mul hn q4) (by decide);obtain⟨v,w',aY,hc,x',c',bl',rfl,mT,oC⟩:=gE (P:=P) (ty:=o.type) g.h (λy hy=>S.at' (by simp[hy])) cX fZ ht hi AD (Nat.le_trans hn (by decide));have S2:=S.yE g.h.wr hc (λy hy=>(oC y hy).1) (λy hy=>(oC y hy).2) mT.pw;refine⟨_,[],bl,_,w',.inl ?_,by simpa using hl,?_,hK x' c' bl' mT⟩
       ·obtain⟨FZ,ar,td⟩:=c;simp only at eU a9 ju;have e2:ar=#[s,xs]:=by rw[<-a9]
        have e3:td=#[t,tx]:=by rw[<-ju]
        subst eU e2 e3;have:=bP (P:=P) (ρ:=ρ) (o:=o) ho (sv:=.slice g.x g.n g.c) (xv:=.slice (some ⟨ids.getD i 0,0,none⟩) m cc) (by rw[cx,hs];simp only[aC.v,den]) (by rw[cx,ow];simp only[den]) aY;simpa[den]using this
       ·rw[List.append_nil];have e4:lits ids ids bl++af (([]++l1)++⟨g.T,g.z,g.os++ab [] b.c,x',g.n+m,c',bl',mT⟩::l2) R=(lits ids ids bl++af l1 [])++(bl'++af l2 R):=by
         rw[List.nil_append,cV,aW (af (_::l2) R) l1];simp only[af,List.append_assoc];rfl
        rw[e4];exact S2
     ·exact h.elim
    ·exact h.elim
   ·exact h.elim
  ·exact h.elim
 ·exact h.elim
def Cw (P:Program) (gl:Nat->Option Nat) (L:List (dI aC)):Ctx aC:=⟨P,OK L,gl,VQ L,W5 P,Jg,λ_ _=>none⟩
theorem ai.TR {P:Program} {gl:Nat->Option Nat} {L:List (dI aC)} (h:ai P gl L):∀f c,(Cw P gl L).T f=some c->Sound (Cw P gl L).P (Cw P gl L).gl f c:=h.T
theorem ai.QR {P:Program} {gl:Nat->Option Nat} {L:List (dI aC)} (h:ai P gl L):iz (Cw P gl L):=h.Q
theorem yI {P:Program} {w:World} {z T n c m b:Nat} {olds tail news:List Value} (hlen:olds.length=n*z) (Lx:(olds++tail).length=c*z) (vQ:n<=c) (ba:w.heap[b]?=some (.cells (olds++tail).toArray T (0,0)))
 {t tx ty:TypeId} {xv:Value} (bytes:Nat) (hs:Src P z tx xv m news w) (Ah:0<m) (ht:P.underlying t=some (.slice T)) (hi:(P.info? T).map (λi=>(i.zero.map (·.cells.size),i.size,i.bytes))=some (some z,z,bytes))
 (hb:(n+m)*bytes<=140737488355328) (h63:n+m<=maxLen):
 (∃w',(Builtin.append_ #[t,tx] ty #[.slice (some ⟨b,0,none⟩) n c,xv]).run P w=.ok (.slice (some ⟨b,0,none⟩) (n+m) c) w'/\Ch [b] w w'/\w'.heap[b]?=some (.cells ((olds++news)++tail.drop news.length).toArray T (0,0))/\n+m<=c)\/
 (∃b' c' uk w',(Builtin.append_ #[t,tx] ty #[.slice (some ⟨b,0,none⟩) n c,xv]).run P w=.ok (.slice (some ⟨b',0,none⟩) (n+m) c') w'/\Ch [] w w'/\w.heap.size<=b'/\w'.heap[b']?=some (.cells ((olds++news)++uk).toArray T (0,0))/\
  ((olds++news)++uk).length=c'*z/\n+m<=c'):=by
 obtain⟨i,aF,hi⟩:=Option.map_eq_some_iff.1 hi;simp only[Prod.mk.injEq]at hi;obtain⟨hz,iM,sP⟩:=hi;obtain⟨z0,Cv,FI⟩:=Option.map_eq_some_iff.1 hz;have Lw:=hs.newsLen;have uZ:Src P i.size tx xv m news w:=by rw[iM];exact hs
 by_cases jL:n+m<=c
 ·left;have hbd:n*z+news.length<=(olds++tail).length:=by
   rw[Lx,Lw,<-Nat.add_mul];exact Nat.mul_le_mul_right _ jL
  have mK:=run_storeCells_at (P:=P) b (n*z) T news 0 (olds++tail).toArray w ba (by simpa using hbd) hs.one;simp only[Nat.add_zero]at mK;have aY:(Builtin.append_ #[t,tx] ty #[.slice (some ⟨b,0,none⟩) n c,xv]).run P w=.ok (.slice (some ⟨b,0,none⟩) (n+m) c) (w.setRow b ((olds++tail).take (n*z)++news++(olds++tail).drop (n*z+news.length)).toArray):=by
   rcases uZ.kind with⟨e',hk⟩|hk<;>simp[Builtin.append_,run_underlying ht,run_underlying hk,Go.sizeOf,typeInfo,aF,uZ.len,jL,hs.cells,Addr.add_lit,iM,mK,Result.andThen]
  refine⟨_,aY,by simpa using Ch.setRow w b _,?_,jL⟩;have:=setRow_heap w b (olds++tail).toArray ((olds++tail).take (n*z)++news++(olds++tail).drop (n*z+news.length)).toArray T (0,0) ba;rw[this];congr 3;rw[<-hlen,List.take_left,List.drop_append,List.drop_eq_nil_of_le (by omega)];simp
 ·right;have hg:c<n+m:=by omega
  have hold:(Builtin.firstCells i.size n (.slice (some ⟨b,0,none⟩) n c)).run P w.drew=.ok olds.toArray w.drew:=by
   refine run_firstCells_some (P:=P) w.drew i.size n ⟨b,0,none⟩ n c olds (by rw[hlen,iM]) (λj v hj=>?_);rw[Addr.add_lit];have:w.drew.cell? ⟨b,0+j,none⟩=w.cell? ⟨b,j,none⟩:=by simp
   rw[this,cell_of ba];have yF:j<olds.length:=by
    rcases Nat.lt_or_ge j olds.length with h|h
    ·exact h
    ·simp[h]at hj
   simp[List.getElem?_append_left yF,hj]
  have aY:=run_append_grow_src (P:=P) w t tx ty T i z0 ht aF Cv (some ⟨b,0,none⟩) n c olds hold xv m news uZ hg (by simp only[maxLen]at h63;omega) (by rw[sP];exact growslice_fits hg hb);have jI:=grownCap_ge w (n+m) c T;refine⟨w.heap.size,grownCap w (n+m) c T,(Builtin.zeroCells z0.cells (grownCap w (n+m) c T-(n+m))).toList,_,aY,?_,Nat.le_refl _,?_,?_,jI⟩
  ·exact((Ch.refl [] w).drew).trans (Ch.alloc [] w.drew _) (λx hx=>.inl hx)
  ·have:=heap_alloc_new w.drew (.cells ((olds++news).toArray++Builtin.zeroCells z0.cells (grownCap w (n+m) c T-(n+m))) T);refine Eq.trans this ?_;congr 2;apply Array.ext';simp
  ·rw[List.length_append,List.length_append,hlen,Lw,Array.length_toList,size_zeroCells,FI,<-Nat.add_mul,<-Nat.add_mul];congr 1;omega
variable{G:Type} [Bl G]
def W6 (P:Program):(Operand->V)->Op->List VB->List G->VK G->Prop:=λe op bl ch K=>match op with
 |.call c=>(match c.callee,c.args.toList,c.argTypes.toList with
  |.builtin .append,[s,xs],[t,tx]=>(match P.underlying t,P.underlying tx with
   |some (.slice T),some (.slice _)=>(match gZ P T,e s,e xs with
    |some (z,cX),.sl j 0 n c,.sl i 0 (m+1) _=>(match bl[j]?,bl[i]?with
     |some ⟨wr,⟨Ta,(0,0)⟩,ac⟩,some b=>(match CN ac 0 (n*z)with
      |some C=>cond (Nat.beq Ta T&&(wr&&(Nat.beq (eL b.c) ((m+1)*z)&&(mY b.c&&(Nat.ble cX 10000000&&(Nat.ble (n+(m+1)) 1000000&&(cH bl.length C&&(cH bl.length b.c&&dk bl.length bl))))))))
       ((n<=c/\eL ac=c*z)/\(∀(c':Nat) (u:List Value),n+(m+1)<=c'->eL (C++(b.c++[.rest u]))=c'*z->K (.sl j 0 (n+(m+1)) c') (bl.set j ⟨true,T,C++(b.c++[.rest u])⟩) ch)/\
         (∀(c':Nat) (u:List Value),n+(m+1)<=c'->eL (C++(b.c++[.rest u]))=c'*z->K (.sl bl.length 0 (n+(m+1)) c') (bl++[⟨true,T,C++(b.c++[.rest u])⟩]) ch)) False
      |none=>False)
     |_,_=>False)
    |_,_,_=>False)
   |_,_=>False)
  |_,_,_=>False)
 |_=>False
theorem jR {P:Program} {T z cX:Nat} (aF:gZ P T=some (z,cX)):(P.info? T).map (λi=>(i.zero.map (·.cells.size),i.size,i.bytes))=some (some z,z,cX):=by
 unfold gZ at aF;split at aF
 ·rename_i inf wv;split at aF
  ·rename_i v hv;cases Mg:Nat.beq v.cells.size inf.size with
   |false=>rw[Mg]at aF;simp at aF
   |true=>
    rw[Mg]at aF;simp only[cond_true,Option.some.injEq,Prod.mk.injEq]at aF;have:=Nat.eq_of_beq_eq_true Mg;simp[wv,hv,this,aF.1,aF.2]
  ·cases aF
 ·cases aF
theorem Jh {P:Program} {gl:Nat->Option Nat}:oA (G:=G) P gl (W6 P):=by
 intro e op ids bl ch R ms w0 w K ρ o hg hl S cx ho h;unfold W6 at h;split at h
 ·rename_i c;split at h
  ·rename_i s xs t tx eU a9 ju;split at h
   ·rename_i T T' ht o9;split at h
    ·rename_i z cX j n cc i m Fw aF qc ow;split at h
     ·rename_i wr Ta ac b ha hb;split at h
      ·rename_i C hC;cases hq:Nat.beq Ta T&&(wr&&(Nat.beq (eL b.c) ((m+1)*z)&&(mY b.c&&(Nat.ble cX 10000000&&(Nat.ble (n+(m+1)) 1000000&&(cH bl.length C&&(cH bl.length b.c&&dk bl.length bl)))))))with
       |false=>rw[hq]at h;exact h.elim
       |true=>
        rw[hq]at h;simp only[cond_true]at h;simp only[Bool.and_eq_true]at hq;obtain⟨q1,q2,q3,q4,q5,q6,q8,q9,q10⟩:=hq;have q1:=Nat.eq_of_beq_eq_true q1;have q3:=Nat.eq_of_beq_eq_true q3;have q5:=Nat.le_of_ble_eq_true q5;have q6:=Nat.le_of_ble_eq_true q6;obtain⟨⟨q7,iM⟩,Fv,acb⟩:=h;subst q1 q2;have ba:=(cA hl S hb).2;obtain⟨hj,acw⟩:=cA hl S ha;obtain⟨g1,g2,g3⟩:=km (ids:=ids) hC;rw[List.drop_zero]at g1;have qJ:(ab ids b.c).length=(m+1)*z:=by rw[cL,q3]
        have fZ:Src P z tx (.slice (some ⟨ids.getD i 0,0,none⟩) (m+1) Fw) (m+1) (ab ids b.c) w:=by
         refine Src.ofSlice w o9 ⟨ids.getD i 0,0,none⟩ (m+1) Fw _ qJ (λj u hj=>?_) (λu hu=>lJ q4 u hu);rw[Addr.add_lit,cell_of ba];simpa using hj
        have Lx:(ab ids C++(ab ids ac).drop (n*z)).length=cc*z:=by
         rw[<-g1,List.take_append_drop,cL,iM]
        have PV:w.heap[ids.getD j 0]?=some (.cells (ab ids C++(ab ids ac).drop (n*z)).toArray Ta (0,0)):=by
         rw[<-g1,List.take_append_drop];exact acw
        have AD:(n+(m+1))*cX<=140737488355328:=Nat.le_trans (Nat.mul_le_mul q6 q5) (by decide);have dd:∀(is:List Nat) (u:List Value),ab is (C++(b.c++[.rest u]))=(ab is C++ab is b.c)++u:=λis u=>by
         rw[bo,bo];simp[ab,cl]
        have sz:∀(is:List Nat) (u:List Value) (c':Nat),((ab is C++ab is b.c)++u).length=c'*z->eL (C++(b.c++[.rest u]))=c'*z:=λis u c' hh=>by
         rw[<-cL (ids:=is),dd,hh]
        obtain⟨FZ,ar,td⟩:=c;simp only at eU a9 ju;have e2:ar=#[s,xs]:=by rw[<-a9]
        have e3:td=#[t,tx]:=by rw[<-ju]
        subst eU e2 e3;have run:∀{v w'},(Builtin.append_ #[t,tx] o.type #[.slice (some ⟨ids.getD j 0,0,none⟩) n cc,.slice (some ⟨ids.getD i 0,0,none⟩) (m+1) Fw]).run P w=.ok v w'->(execOp ρ o).run P w=.ok (.value v) w':=λaY=>
         bP (P:=P) (ρ:=ρ) (o:=o) ho (by rw[cx,qc];simp only[den]) (by rw[cx,ow];simp only[den]) aY
        rcases yI (P:=P) (ty:=o.type) g2 Lx q7 PV cX fZ (Nat.succ_pos m) ht (jR aF) AD (Nat.le_trans q6 (by decide))with⟨w',aY,hc,hh,jL⟩|⟨b',c',uk,w',aY,hc,agL,hh,agM,jL⟩
        ·refine⟨_,[],_,ch,w',.inl ?_,by simpa using hl,?_,Fv cc (((ab ids ac).drop (n*z)).drop (ab ids b.c).length) jL (sz ids _ _ ?_)⟩
         ·have:=run aY;simpa[den]using this
         ·simp only[List.append_nil];have mK:=S.step hj rfl hc hh;have yF:j<(lits ids ids bl).length:=by rw[iQ ids bl hl];rcases Nat.lt_or_ge j bl.length with h'|h';exact h';simp[h']at ha
          rw[<-iR (ids:=ids) ids bl j _ hl,<-List.set_append_left _ _ yF];simp only[aE,dd];exact mK
         ·rw[<-Lx];simp only[List.length_append,List.length_drop];have:(ab ids C).length+(ab ids b.c).length<=(ab ids C++(ab ids ac).drop (n*z)).length:=by
           rw[Lx,g2,qJ,<-Nat.add_mul];exact Nat.mul_le_mul_right _ jL
          simp only[List.length_append,List.length_drop]at this;omega
        ·have PW:cH ids.length (C++(b.c++[.rest uk]))=true:=by
          rw[hl];have Mh:∀(x y:List V),cH bl.length x=true->cH bl.length y=true->cH bl.length (x++y)=true:=by
           intro x y;induction x with
           |nil=>intro _ h;simpa using h
           |cons v x ih=>intro h1 h2;simp only[List.cons_append,cH,Bool.and_eq_true]at h1⊢;exact⟨h1.1,ih h1.2 h2⟩
          exact Mh _ _ q8 (Mh _ _ q9 rfl)
         refine⟨_,[b'],_,ch,w',.inl ?_,by simp[hl],?_,acb c' uk jL (sz ids _ _ agM)⟩
         ·have:=run aY;rw[this];simp only[den];rw[<-hl,cy]
         ·rw[aI _ _ _ _ hl,aJ _ _ (by rw[hl];exact q10)];simp only[lits,aE];rw[bU _ PW,dd];have:=S.new hc agL hh;refine this.perm ?_;rw[List.append_assoc (lits ids ids bl)];exact(List.perm_middle).symm
      ·exact h.elim
     ·exact h.elim
    ·exact h.elim
   ·exact h.elim
  ·exact h.elim
 ·exact h.elim
def OL (P:Program) (gl:Nat->Option Nat) (L:List (dI G)):Ctx G:=⟨P,OK L,gl,VQ L,W6 P,Jh,λ_ _=>none⟩
theorem ai.TS {P:Program} {gl:Nat->Option Nat} {L:List (dI G)} (h:ai P gl L):∀f c,(OL P gl L).T f=some c->Sound (OL P gl L).P (OL P gl L).gl f c:=h.T
theorem ai.QS {P:Program} {gl:Nat->Option Nat} {L:List (dI G)} (h:ai P gl L):iz (OL P gl L):=h.Q
end Vx
namespace Vx
open Go Go.RowKit Go.BigFrame Sx
def AE (i:Nat):List Nat->Nat->Option Nat
 |[],_=>none
 |j::l,k=>bif Nat.beq j i then some k else AE i l (k+1)
def vbz:VB:=⟨false,⟨0,(0,0)⟩,[]⟩
mutual
def W7:V->List Nat
 |.ptr i _=>[i]
 |.sl i _ _ _=>[i]
 |.oN i _ _ _ _=>[i]
 |.pe i _ _ _ _=>[i]
 |.fn _ a b=>Mi a++Mi b
 |.CM _ v=>W7 v
 |.agg l=>Mi l
 |.az l=>Mi l
 |_=>[]
def Mi:List V->List Nat
 |[]=>[]
 |v::l=>W7 v++Mi l
end
mutual
def te (dg:List Nat):V->Option V
 |.ptr i off=>match AE i dg 0 with|some k=>some (.ptr k off)|none=>none
 |.sl i off n c=>match AE i dg 0 with|some k=>some (.sl k off n c)|none=>none
 |.oN i off n c x=>match AE i dg 0 with|some k=>some (.oN k off n c x)|none=>none
 |.pe i o j z q=>match AE i dg 0 with|some k=>some (.pe k o j z q)|none=>none
 |.fn f a b=>match yJ dg a,yJ dg b with|some a',some b'=>some (.fn f a' b')|_,_=>none
 |.CM t v=>match te dg v with|some v'=>some (.CM t v')|none=>none
 |.agg l=>match yJ dg l with|some l'=>some (.agg l')|none=>none
 |.az l=>match yJ dg l with|some l'=>some (.az l')|none=>none
 |v=>some v
def yJ (dg:List Nat):List V->Option (List V)
 |[]=>some []
 |v::l=>match te dg v,yJ dg l with|some v',some l'=>some (v'::l')|_,_=>none
end
def W8 (bl:List VB) (dg:List Nat):List Nat->Option (List VB)
 |[]=>some []
 |i::is=>match bl[i]?with
  |some b=>(match yJ dg b.c,W8 bl dg is with
   |some c,some l=>some (⟨b.wr,b.ty,c⟩::l)
   |_,_=>none)
  |none=>none
def PX (dg:List Nat):List Nat->List Nat
 |[]=>dg
 |i::l=>match AE i dg 0 with|some _=>PX dg l|none=>PX (dg++[i]) l
def gcN (bl:List VB):Nat->Nat->List Nat->List Nat
 |0,_,dg=>dg
 |n+1,k,dg=>match dg[k]?with
  |some i=>(match bl[i]?with
   |some b=>gcN bl n (k+1) (PX dg (Mi b.c))
   |none=>dg)
  |none=>dg
def nk:Nat->List Nat
 |0=>[]
 |n+1=>nk n++[n]
def gcR (n0:Nat) (v:V) (bl:List VB) (dg:List Nat):Option (V×List VB):=bif s9 dg&&Dc (nk n0) dg then(match te dg v,W8 bl dg dg with|some v',some bl'=>some (v',bl')|_,_=>none)else none
where Dc:List Nat->List Nat->Bool
 |[],_=>true
 |i::a,j::b=>Nat.beq i j&&Dc a b
 |_::_,[]=>false
def cP {G:Type} (n0:Nat) (K:VK G):VK G:=λv bl ch=>match gcR n0 v bl (gcN bl bl.length 0 (PX (nk n0) (W7 v)))with
 |some (v',bl')=>K v' bl' ch
 |none=>False
theorem Ji {i:Nat}:∀{l:List Nat} {k m:Nat},AE i l k=some m->k<=m/\l[m-k]?=some i
 |[],k,m,h=>by cases h
 |j::l,k,m,h=>by
  unfold AE at h;cases hb:Nat.beq j i with
  |true=>
   rw[hb]at h;obtain rfl:k=m:=by simpa using h
   exact⟨Nat.le_refl _,by simp[Nat.eq_of_beq_eq_true hb]⟩
  |false=>
   rw[hb]at h;obtain⟨h1,h2⟩:=Ji (l:=l) h;refine⟨by omega,?_⟩;rw[show m-k=(m-(k+1))+1 by omega];simpa using h2
theorem ve {ids dg:List Nat} {i k:Nat} (h:AE i dg 0=some k):(dg.map λj=>ids.getD j 0).getD k 0=ids.getD i 0:=by
 have:=(Ji h).2;simp only[Nat.sub_zero]at this;simp[List.getD,this]
mutual
theorem qK {ids dg:List Nat}:∀(v:V) {v':V},te dg v=some v'->den (dg.map λj=>ids.getD j 0) v'=den ids v
 |.ptr i off,v',h=>by
  simp only[te]at h;split at h
  ·rename_i k hk;cases h;simp only[den,ve hk]
  ·cases h
 |.sl i off n c,v',h=>by
  simp only[te]at h;split at h
  ·rename_i k hk;cases h;simp only[den,ve hk]
  ·cases h
 |.oN i off n c x,v',h=>by
  simp only[te]at h;split at h
  ·rename_i k hk;cases h;simp only[den,ve hk]
  ·cases h
 |.fn f a b,v',h=>by
  simp only[te]at h;split at h
  ·rename_i a' b' ha hb;cases h;simp only[den,nY a ha,nY b hb]
  ·cases h
 |.CM t v,v',h=>by
  simp only[te]at h;split at h
  ·rename_i u hu;cases h;simp only[den,qK v hu]
  ·cases h
 |.agg l,v',h=>by
  simp only[te]at h;split at h
  ·rename_i u hu;cases h;simp only[den,tf l hu]
  ·cases h
 |.az l,v',h=>by
  simp only[te]at h;split at h
  ·rename_i u hu;cases h;simp only[den,nY l hu]
  ·cases h
 |.int _ _,v',h=>by cases h;simp[den]
 |.bool _,v',h=>by cases h;simp[den]
 |.dC _ _ _,v',h=>by cases h;simp[den]
 |.arr _ _ _,v',h=>by cases h;simp[den]
 |.j8 _ _ _ _,v',h=>by cases h;simp[den]
 |.rest _,v',h=>by cases h;simp[den]
 |.fp _ _ _,v',h=>by cases h;simp[den]
 |.pe i o j z q,v',h=>by
  simp only[te]at h;split at h
  ·rename_i k hk;cases h;simp only[den,ve hk]
  ·cases h
 |.raw _,v',h=>by cases h;simp[den]
theorem nY {ids dg:List Nat}:∀(l:List V) {l':List V},yJ dg l=some l'->ao (dg.map λj=>ids.getD j 0) l'=ao ids l
 |[],l',h=>by cases h;rfl
 |v::l,l',h=>by
  simp only[yJ]at h;split at h
  ·rename_i v1 l1 hv hl;cases h;simp only[ao,qK v hv,nY l hl]
  ·cases h
theorem tf {ids dg:List Nat}:∀(l:List V) {l':List V},yJ dg l=some l'->ab (dg.map λj=>ids.getD j 0) l'=ab ids l
 |[],l',h=>by cases h;rfl
 |v::l,l',h=>by
  simp only[yJ]at h;split at h
  ·rename_i v1 l1 hv hl;cases h;simp only[ab,qK v hv,tf l hl];congr 1;cases v<;>simp only[te]at hv<;>(try split at hv)<;>first|(cases hv;rfl)|(cases hv;done)
  ·cases h
end
theorem Jj {ids dg:List Nat} {bl:List VB} (hl:ids.length=bl.length):∀(is:List Nat) {bl':List VB},W8 bl dg is=some bl'->(is.map λj=>ids.getD j 0).length=bl'.length/\
 lits (dg.map λj=>ids.getD j 0) (is.map λj=>ids.getD j 0) bl'=(is.map λj=>aE ids (ids.getD j 0) (bl.getD j vbz))/\∀j∈is,j<bl.length
 |[],bl',h=>by cases h;simp[lits]
 |i::is,bl',h=>by
  unfold W8 at h;split at h
  ·rename_i b hb;split at h
   ·rename_i c l hc hL;cases h;obtain⟨h1,h2,h3⟩:=Jj hl is hL;have iK:i<bl.length:=by rcases Nat.lt_or_ge i bl.length with h'|h';exact h';simp[h']at hb
    refine⟨by simpa using h1,?_,?_⟩
    ·simp only[List.map_cons,lits,h2];congr 1;simp only[aE,tf _ hc];simp[List.getD,hb]
    ·intro j hj;rcases List.mem_cons.1 hj with rfl|hj
     ·exact iK
     ·exact h3 j hj
   ·cases h
  ·cases h
theorem zo (ids:List Nat):∀(is:List Nat) (bl:List VB),is.length=bl.length->lits ids is bl=(List.range bl.length).map λj=>aE ids (is.getD j 0) (bl.getD j vbz)
 |[],[],_=>rfl
 |i::is,b::bl,h=>by
  rw[List.length_cons,List.range_succ_eq_map,List.map_cons,List.map_map];simp only[lits];rw[zo ids is bl (by simpa using h)];rfl
theorem Dd:∀{a b:List Nat},gcR.Dc a b=true->∃c,b=a++c
 |[],b,_=>⟨b,rfl⟩
 |i::a,j::b,h=>by
  simp only[gcR.Dc,Bool.and_eq_true]at h;obtain⟨c,rfl⟩:=Dd h.2;exact⟨c,by simp[Nat.eq_of_beq_eq_true h.1]⟩
 |_::_,[],h=>by cases h
theorem wx (ids:List Nat):∀n,n<=ids.length->(nk n).map (λj=>ids.getD j 0)=ids.take n
 |0,_=>by simp[nk]
 |n+1,h=>by
  simp only[nk,List.map_append,List.map_cons,List.map_nil,wx ids n (by omega)];rw[List.take_add_one];congr 1;have:n<ids.length:=by omega
  simp[List.getD,List.getElem?_eq_getElem this]
theorem c9 {G:Type} {n0:Nat} {K:VK G} {v:V} {bl:List VB} {ch:List G} {ids:List Nat} {X:List av} {ms:List Nat} {w0 w:World} (hl:ids.length=bl.length) (hn:n0<=ids.length) (S:St ms w0 (lits ids ids bl++X) w) (h:cP n0 K v bl ch):
 ∃v' more bl',den ids v=den (ids.take n0++more) v'/\(ids.take n0++more).length=bl'.length/\St ms w0 (lits (ids.take n0++more) (ids.take n0++more) bl'++X) w/\K v' bl' ch:=by
 unfold cP at h;generalize gcN bl bl.length 0 (PX (nk n0) (W7 v))=dg at h;unfold gcR at h;cases hq:s9 dg&&gcR.Dc (nk n0) dg with
 |false=>rw[hq]at h;exact h.elim
 |true=>
  rw[hq]at h;simp only[cond_true]at h;simp only[Bool.and_eq_true]at hq;have VP:=pd hq.1;obtain⟨c,hc⟩:=Dd hq.2;split at h
  ·rename_i v' bl' hv;split at hv
   ·rename_i v1 yA VG AD;cases hv;obtain⟨h1,h2,h3⟩:=Jj hl dg AD;have e:dg.map (λj=>ids.getD j 0)=ids.take n0++c.map λj=>ids.getD j 0:=by
     rw[hc,List.map_append,wx ids n0 hn]
    refine⟨_,c.map λj=>ids.getD j 0,_,?_,?_,?_,h⟩
    ·rw[<-e];exact(qK v VG).symm
    ·rw[<-e];exact h1
    ·rw[<-e,h2];obtain⟨r,hr⟩:=mW dg (List.range bl.length) VP (λx hx=>List.mem_range.2 (h3 x hx));rw[zo ids ids bl hl]at S;have S1:=S.perm ((hr.map _).append_right X);rw[List.map_append]at S1;exact S1.sub (List.Sublist.append_right (List.sublist_append_left _ _) _)
   ·cases hv
  ·exact h.elim
theorem Gb {P:Program} {w:World} {b:Nat} {kd:IntKind} {l:List (Int×Value)} {kv:Int} {vv:Value} {mt kt et:TypeId} (hu:P.underlying mt=some (.map kt et)) (hk:P.underlying kt=some (.int kd)) (ba:w.heap[b]?=some (ox kd l)) (hn:l.all (λx=>x.1!=kv)=true):
 (Instr.mapUpdate mt (.map (some b)) (.int kd kv) vv).run P w=.ok () {w with heap:=w.heap.setIfInBounds b (ox kd (l++[(kv,vv)]))}:=by
 have qM:w.heap[b]?=some (.map ((l.zipIdx.map λx=>(⟨.int kd x.1.1,x.1.2,x.2⟩:MapEntry)).toArray) l.length):=ba;have hf:Instr.findNow (.int kd) (.int kd kv) ((l.zipIdx.map λx=>(⟨.int kd x.1.1,x.1.2,x.2⟩:MapEntry)).toArray).toList 0=some none:=vW kd kv _ 0 (Pe hn);have hc:(Instr.checkKey false 10000 kt (.int kd kv)).run P w=.ok () w:=MapKept.run_checkKey (k:=.int kd kv) hk (by simp[MapKept.IsKey]) false 9999;have agN:(Instr.mapUpdate mt (.map (some b)) (.int kd kv) vv).run P w=.ok () {w with heap:=w.heap.setIfInBounds b (Obj.map (((l.zipIdx.map λx=>(⟨.int kd x.1.1,x.1.2,x.2⟩:MapEntry)).toArray).push ⟨.int kd kv,vv,l.length⟩) (l.length+1))}:=by
  generalize ((l.zipIdx.map λx=>(⟨.int kd x.1.1,x.1.2,x.2⟩:MapEntry)).toArray)=es at*;simp[Instr.mapUpdate,run_underlying hu,MapKept.run_getObj_map qM,hc,MapKept.run_findKey hk hf,MapKept.run_setObj_map _ qM,Result.andThen]
 rw[agN,LD]
theorem Gc {P:Program} {w:World} {b:Nat} {kd:IntKind} {l:List (Int×Value)} {kv:Int} {v:Value} {mt kt et:TypeId} (hu:P.underlying mt=some (.map kt et)) (hk:P.underlying kt=some (.int kd)) (ba:w.heap[b]?=some (ox kd l))
 (hn:∃j,Instr.findNow (.int kd) (.int kd kv) ((l.zipIdx.map λx=>(⟨.int kd x.1.1,x.1.2,x.2⟩:MapEntry)).toArray).toList 0=some (some (j,v))):(Instr.lookup mt (.map (some b)) (.int kd kv) true).run P w=.ok (.tuple #[v,.bool true]) w:=by
 obtain⟨j,hf⟩:=hn;have qM:w.heap[b]?=some (.map ((l.zipIdx.map λx=>(⟨.int kd x.1.1,x.1.2,x.2⟩:MapEntry)).toArray) l.length):=ba;have hc:∀e,(Instr.checkKey e 10000 kt (.int kd kv)).run P w=.ok () w:=λe=>MapKept.run_checkKey (k:=.int kd kv) hk (by simp[MapKept.IsKey]) e 9999;simp[Instr.lookup,run_underlying hu,MapKept.run_getObj_map qM,hc,MapKept.run_findKey hk hf,Result.andThen]
structure De where
 id:Nat
 tb:List (Int×Value)
instance:Bl De:=⟨λg=>[⟨g.id,true,ox .i64 g.tb⟩]⟩
def acx (P:Program):(Operand->V)->Op->List VB->List De->VK De->Prop:=λe op bl ch K=>match op with
 |.makeMap t none=>(match ch with
  |[]=>∀id,K (.raw (.map (some id))) bl [⟨id,[]⟩]
  |_=>False)
 |.insert mt m k x=>(match ch,e m,e k with
  |[g],.raw mv,.int .i64 kv=>(match P.underlying mt with
   |some (.map kt _)=>(match P.underlying kt with
    |some (.int .i64)=>cond (g.tb.all (λx=>x.1!=kv)&&fK 0 (e x)) (mv=.map (some g.id)/\K cE bl [⟨g.id,g.tb++[(kv,den [] (e x))]⟩]) False
    |_=>False)
   |_=>False)
  |_,_,_=>False)
 |_=>False
theorem W9 {P:Program} {gl:Nat->Option Nat}:oA P gl (acx P):=by
 intro e op ids bl ch R ms w0 w K ρ o hg hl S cx ho h;unfold acx at h;split at h
 ·rename_i t;split at h
  ·refine⟨_,[],bl,_,w.alloc (.map #[] 0),.inl ?_,by simpa using hl,?_,h w.heap.size⟩
   ·unfold execOp;simp[ho,run_makeMap,Result.andThen,den]
   ·have:=S.new (Ch.alloc [] w (.map #[] 0)) (Nat.le_refl _) (heap_alloc_new w _);rw[List.append_nil];refine this.perm ?_;exact List.perm_middle.symm
  ·exact h.elim
 ·rename_i mt m k x;split at h
  ·rename_i g mv kv hm hk;split at h
   ·rename_i kt et hu;split at h
    ·rename_i hkt;cases hq:g.tb.all (λx=>x.1!=kv)&&fK 0 (e x)with
     |false=>rw[hq]at h;exact h.elim
     |true=>
      rw[hq]at h;simp only[cond_true]at h;simp only[Bool.and_eq_true]at hq;obtain⟨rfl,hK⟩:=h;have e0:lits ids ids bl++af [g] R=lits ids ids bl++(⟨g.id,true,ox .i64 g.tb⟩::R):=rfl;rw[e0]at S;have ba:=S.at' (x:=⟨g.id,true,ox .i64 g.tb⟩) (by simp);have hx:den ids (e x)=den [] (e x):=by have:=bC (ids:=[]) (more:=ids) (e x) hq.2;simpa using this
      have aY:=Gb (P:=P) (vv:=den ids (e x)) hu hkt ba hq.1;refine⟨cE,[],bl,_,{w with heap:=w.heap.setIfInBounds g.id (ox .i64 (g.tb++[(kv,den ids (e x))]))},.inr ⟨?_,rfl⟩,by simpa using hl,?_,hK⟩
      ·unfold execOp;simp only[ho,cx,hm,hk,den]at aY⊢;simp only[Sem.run_bind,aY,Result.andThen_ok];rfl
      ·rw[List.append_nil,<-hx];have hi:(lits ids ids bl++(⟨g.id,true,ox .i64 g.tb⟩::R))[(lits ids ids bl).length]?=some ⟨g.id,true,ox .i64 g.tb⟩:=by simp
       have:=S.step hi rfl (Ch.agw w g.id (ox .i64 (g.tb++[(kv,den ids (e x))]))) (MapKept.heap_set ba).1;rw[List.set_append_right _ _ (Nat.le_refl _),Nat.sub_self]at this;exact this
    ·exact h.elim
   ·exact h.elim
  ·exact h.elim
 ·exact h.elim
def acy (P:Program) (gl:Nat->Option Nat) (L:List (dI De)):Ctx De:=⟨P,OK L,gl,VQ L,acx P,W9,λ_ _=>none⟩
def mL {G:Type} [Bl G] (P:Program) (gl:Nat->Option Nat) (L:List (dI G)) (h:(Operand->V)->Op->List VB->List G->VK G->Prop) (hok:oA P gl h):Ctx G:=⟨P,OK L,gl,VQ L,h,hok,λ_ _=>none⟩
theorem Sound.gl {G:Type} [Bl G] {P:Program} {gl gl':Nat->Option Nat} {f:Nat} {c:gm G} (h:Sound P gl f c) (hg:∀ids,Gl gl' ids->Gl gl ids):Sound P gl' f c:=
 λargs ids bl ch R ms w0 w K h1 h2 S hc=>h args ids bl ch R ms w0 w K (hg ids h1) h2 S hc
inductive Sm (G:Type) where
 |g (x:G)
 |m (x:De)
instance{G:Type} [Bl G]:Bl (Sm G):=⟨λx=>match x with|.g x=>Bl.B x|.m x=>Bl.B x⟩
def gs {G:Type}:List G->List (Sm G)
 |[]=>[]
 |x::l=>.g x::gs l
theorem Jk {G:Type} [Bl G] (R:List av):∀(l:List G) (r:List (Sm G)),af (gs l++r) R=af l (af r R)
 |[],r=>rfl
 |x::l,r=>by
  simp only[gs,List.cons_append,af,Jk R l r];rfl
def Df {G:Type} (c:gm G):gm (Sm G):=λargs bl ch K=>match ch with
 |.g x::rest=>c args bl [x] λv bl' ch'=>K v bl' (gs ch'++rest)
 |_=>False
theorem Gd {G:Type} [Bl G] {P:Program} {gl:Nat->Option Nat} {f:Nat} {c:gm G} (h:Sound P gl f c):Sound P gl f (Df c):=by
 intro args ids bl ch R ms w0 w K hg hl S hc;unfold Df at hc;split at hc
 ·rename_i x rest;have e:af (.g x::rest:List (Sm G)) R=af [x] (af rest R):=rfl;rw[e]at S;refine(h args ids bl [x] (af rest R) ms w0 w _ hg hl S hc).mono ?_;rintro v w' ⟨y,more,bl',ch',rfl,h1,S1,hK⟩;exact⟨y,more,bl',_,rfl,h1,by rw[Jk];exact S1,hK⟩
 ·exact hc.elim
theorem Ge {G:Type} {c:gm G} (h:cT c):cT (Df c):=by
 intro args bl ch K hc;unfold Df at hc⊢;split at hc
 ·exact h _ _ _ _ hc
 ·exact hc.elim
def PY {G:Type}:List (dI G)->List (dI (Sm G))
 |[]=>[]
 |e::l=>⟨e.f,e.q,Df e.c⟩::PY l
theorem Dg {G:Type} [Bl G] {P:Program} {gl gl':Nat->Option Nat} (hg:∀ids,Gl gl' ids->Gl gl ids):∀{L:List (dI G)},ai P gl L->ai P gl' (PY L)
 |[],_=>ai.nil
 |e::l,h=>ai.cons ⟨Gd ((h e (by simp)).1.gl hg),λhq=>Ge ((h e (by simp)).2 hq)⟩ (Dg hg λx hx=>h x (by simp[hx]))
variable{G:Type} [Bl G]
def acz (P:Program):(Operand->V)->Op->List VB->List G->VK G->Prop:=λe op bl ch K=>match op with
 |.call c=>(match c.callee,c.args.toList,c.argTypes.toList with
  |.builtin .append,[s,xs],[t,tx]=>(match P.underlying t,P.underlying tx with
   |some (.slice T),some (.slice _)=>(match gZ P T,e s,e xs with
    |some (z,cX),.raw (.slice none 0 0),.sl i 0 (m+1) _=>(match bl[i]?with
     |some b=>cond (Nat.beq (eL b.c) ((m+1)*z)&&(mY b.c&&(Nat.ble cX 10000000&&(Nat.ble (m+1) 1000000&&(cH bl.length b.c&&dk bl.length bl)))))
      (∀(c':Nat) (u:List Value),m+1<=c'->eL (b.c++[.rest u])=c'*z->K (.sl bl.length 0 (m+1) c') (bl++[⟨true,T,b.c++[.rest u]⟩]) ch) False
     |none=>False)
    |_,_,_=>False)
   |_,_=>False)
  |_,_,_=>False)
 |_=>False
theorem W_ {P:Program} {gl:Nat->Option Nat}:oA (G:=G) P gl (acz P):=by
 intro e op ids bl ch R ms w0 w K ρ o hg hl S cx ho h;unfold acz at h;split at h
 ·rename_i c;split at h
  ·rename_i s xs t tx eU a9 ju;split at h
   ·rename_i T T' ht o9;split at h
    ·rename_i z cX i m Fw aF qc ow;split at h
     ·rename_i b hb;cases hq:Nat.beq (eL b.c) ((m+1)*z)&&(mY b.c&&(Nat.ble cX 10000000&&(Nat.ble (m+1) 1000000&&(cH bl.length b.c&&dk bl.length bl))))with
      |false=>rw[hq]at h;exact h.elim
      |true=>
       rw[hq]at h;simp only[cond_true]at h;simp only[Bool.and_eq_true]at hq;obtain⟨q3,q4,q5,q6,q9,q10⟩:=hq;have q3:=Nat.eq_of_beq_eq_true q3;have q5:=Nat.le_of_ble_eq_true q5;have q6:=Nat.le_of_ble_eq_true q6;have ba:=(cA hl S hb).2;have qJ:(ab ids b.c).length=(m+1)*z:=by rw[cL,q3]
       have fZ:Src P z tx (.slice (some ⟨ids.getD i 0,0,none⟩) (m+1) Fw) (m+1) (ab ids b.c) w:=by
        refine Src.ofSlice w o9 ⟨ids.getD i 0,0,none⟩ (m+1) Fw _ qJ (λj u hj=>?_) (λu hu=>lJ q4 u hu);rw[Addr.add_lit,cell_of ba];simpa using hj
       have AD:(0+(m+1))*cX<=140737488355328:=Nat.le_trans (Nat.mul_le_mul (by omega:0+(m+1)<=1000000) q5) (by decide);obtain⟨FZ,ar,td⟩:=c;simp only at eU a9 ju;have e2:ar=#[s,xs]:=by rw[<-a9]
       have e3:td=#[t,tx]:=by rw[<-ju]
       subst eU e2 e3;obtain⟨v,w',aY,hc,x',c',bl',rfl,⟨r1,r2,r3⟩,oC⟩:=gE (P:=P) (ty:=o.type) (iO z T) (by simp) cX fZ ht (jR aF) AD (Nat.le_trans (by omega:0+(m+1)<=1000000) (by decide));rcases r3 with⟨_,h0,_⟩|⟨b',tail,rfl,rfl,hlen⟩
       ·omega
       ·obtain⟨hh,hid⟩:=oC _ (List.mem_singleton.2 rfl);have jI:w.heap.size<=b':=by
         rcases hid with⟨u,hu,_⟩|h
         ·cases hu
         ·exact h
        simp only[List.nil_append,Nat.zero_add]at hh hlen r2 aY;have dd:∀(is:List Nat) (u:List Value),ab is (b.c++[.rest u])=ab is b.c++u:=λis u=>by
         rw[bo];simp[ab,cl]
        have PW:cH ids.length (b.c++[.rest tail])=true:=by
         rw[hl];have Mh:∀(x y:List V),cH bl.length x=true->cH bl.length y=true->cH bl.length (x++y)=true:=by
          intro x y;induction x with
          |nil=>intro _ h;simpa using h
          |cons v x ih=>intro h1 h2;simp only[List.cons_append,cH,Bool.and_eq_true]at h1⊢;exact⟨h1.1,ih h1.2 h2⟩
         exact Mh _ _ q9 rfl
        refine⟨_,[b'],_,ch,w',.inl ?_,by simp[hl],?_,h c' tail r2 ?_⟩
        ·have:=bP (P:=P) (ρ:=ρ) (o:=o) ho (sv:=.slice none 0 0) (xv:=.slice (some ⟨ids.getD i 0,0,none⟩) (m+1) Fw) (by rw[cx,qc];simp only[den]) (by rw[cx,ow];simp only[den]) aY;rw[this];simp only[den];rw[<-hl,cy]
        ·rw[aI _ _ _ _ hl,aJ _ _ (by rw[hl];exact q10)];simp only[lits,aE];rw[bU _ PW,dd];have:=S.new hc jI hh;refine this.perm ?_;rw[List.append_assoc (lits ids ids bl)];exact(List.perm_middle).symm
        ·rw[<-cL (ids:=ids),dd,hlen]
     ·exact h.elim
    ·exact h.elim
   ·exact h.elim
  ·exact h.elim
 ·exact h.elim
theorem lO {P:Program} {gl:Nat->Option Nat} {a b:(Operand->V)->Op->List VB->List G->VK G->Prop} (t:(Operand->V)->Op->Bool) (ha:oA P gl a) (hb:oA P gl b):oA P gl (λe op bl ch K=>cond (t e op) (a e op bl ch K) (b e op bl ch K)):=by
 intro e op ids bl ch R ms w0 w K ρ o hg hl S cx ho h;cases ht:t e op with
 |true=>simp only[ht]at h;exact ha e op ids bl ch R ms w0 w K ρ o hg hl S cx ho h
 |false=>simp only[ht]at h;exact hb e op ids bl ch R ms w0 w K ρ o hg hl S cx ho h
def agO (e:Operand->V) (op:Op):Bool:=match op with
 |.call c=>(match c.args.toList with
  |s::_=>(match e s with|.sl _ _ _ _=>true|_=>false)
  |_=>false)
 |_=>false
def PZ (P:Program):(Operand->V)->Op->List VB->List G->VK G->Prop:=λe op bl ch K=>cond (agO e op) (W6 P e op bl ch K) (acz P e op bl ch K)
theorem vf {P:Program} {gl:Nat->Option Nat}:oA (G:=G) P gl (PZ P):=lO agO Jh W_
end Vx
namespace Vx
open Go Sx
section
variable{ids:List Nat} {P:Program} {w:World}
theorem iw0 {n:Nat} (h:n<=1000000):i64.wrap (n:Int)=n:=by simp[IntKind.wrap,IntKind.bits,IntKind.signed];omega
theorem run_mk {t el:TypeId} {n z:Nat} {zc:List V} {inf:TypeInfo} {k1 k2:IntKind} (hu:P.underlying t=some (.slice el)) (hi:P.info? el=some inf) (hz:j_ P el=some (z+1)) (h0:jo P el=some zc) (hl:eL zc=z+1) (h1:1<=n) (hn:n<=1000000) (hb:inf.bytes<=100):
 (Instr.makeSlice t (.int k1 (n:Int)) (.int k2 (n:Int))).run P w=.ok (.slice (some ⟨w.heap.size,0,none⟩) n n) (w.alloc (.cells (ab ids (lK zc n)).toArray el)):=by
 obtain⟨v0,z1,z2⟩:=jM (P:=P) (w:=w) (ids:=ids) h0;have hv:v0.cells.size=z+1:=by rw[<-Array.length_toList,z2,cL,hl]
 have Pw:(Array.range (n*(z+1))).map (λi=>v0.cells[i%v0.cells.size]!)=(ab ids (lK zc n)).toArray:=by
  apply Array.ext';rw[sW v0.cells z hv,z2,CU]
 have hm:inf.bytes*n<=100000000:=Nat.le_trans (Nat.mul_le_mul hb hn) (by decide);have e1:(decide ((n:Int)<0)||decide ((inf.bytes:Int)*(n:Int)>2^48))=false:=by
  have:(inf.bytes:Int)*(n:Int)<=100000000:=by
   have q:=Int.ofNat_le.2 hm;rw[Int.natCast_mul]at q;exact q
  rw[decide_eq_false (by omega),decide_eq_false (by omega)];rfl
 have e2:¬(n*inf.bytes>roomBytes):=by
  have:n*inf.bytes<=100000000:=by rw[Nat.mul_comm];exact hm
  show¬(n*inf.bytes>_);unfold roomBytes;omega
 have e3:¬n*(z+1)=0:=by
  intro h;rcases Nat.mul_eq_zero.1 h with h|h<;>omega
 simp only[Instr.makeSlice,Sem.run_bind,run_underlying hu,Result.andThen_ok,asInt,asIntOf,Sem.run_pure,qz hi,iw0 hn,e1,Bool.false_or,askRoom,if_neg e2,Int.toNat_natCast,bu hz,if_neg e3,z1];simp only[show decide ((n:Int)<0)=false by simp,show decide ((n:Int)>(n:Int))=false by simp,Bool.or_self,Bool.false_eq_true,if_false,Sem.run_bind,Sem.run_pure,Result.andThen_ok,bu hz,if_neg e3,z1];rw[Pw];rfl
end
variable{G:Type} [Bl G]
def lP (P:Program):(Operand->V)->Op->List VB->List G->VK G->Prop:=λe op bl ch K=>match op with
 |.makeSlice t l c=>(match P.underlying t,e l,e c with
  |some (.slice el),.int _ (.ofNat n),.int _ (.ofNat m)=>(match P.info? el,j_ P el,jo P el with
   |some inf,some (z+1),some zc=>cond (Nat.beq n m&&(Nat.beq (eL zc) (z+1)&&(Nat.ble 1 n&&(Nat.ble n 1000000&&(Nat.ble inf.bytes 100&&(dk bl.length bl&&cH bl.length (lK zc n))))))) (K (.sl bl.length 0 n n) (bl++[⟨true,el,lK zc n⟩]) ch) False
   |_,_,_=>False)
  |_,_,_=>False)
 |_=>False
theorem acA {P:Program} {gl:Nat->Option Nat}:oA (G:=G) P gl (lP P):=by
 intro e op ids bl ch R ms w0 w K ρ o hg hl S cx ho h;unfold lP at h;split at h
 ·rename_i t l c;split at h
  ·rename_i el k1 n k2 m hu Fx hec;split at h
   ·rename_i inf z zc hi hz h0;cases hq:Nat.beq n m&&(Nat.beq (eL zc) (z+1)&&(Nat.ble 1 n&&(Nat.ble n 1000000&&(Nat.ble inf.bytes 100&&(dk bl.length bl&&cH bl.length (lK zc n))))))with
    |false=>rw[hq]at h;exact h.elim
    |true=>
     rw[hq]at h;simp only[Bool.and_eq_true]at hq;obtain⟨q1,q2,q3,q4,q5,q6,q7⟩:=hq;obtain rfl:=Nat.eq_of_beq_eq_true q1;have aY:=run_mk (ids:=ids) (w:=w) (k1:=k1) (k2:=k2) hu hi hz h0 (Nat.eq_of_beq_eq_true q2) (Nat.le_of_ble_eq_true q3) (Nat.le_of_ble_eq_true q4) (Nat.le_of_ble_eq_true q5);obtain⟨g1,g2⟩:=grow hl S ⟨true,el,lK zc n⟩ rfl rfl (by rw[hl];exact q6) (by rw[hl];exact q7);refine⟨_,[w.heap.size],_,ch,_,.inl ?_,g2,g1,h⟩;unfold execOp;rw[ho];simp only[cx,Fx,hec,den];have e1:Int.ofNat n=(n:Int):=rfl;rw[e1,Sem.run_bind,aY,Result.andThen_ok,Sem.run_pure,<-hl,cy]
   ·exact h.elim
  ·exact h.elim
 ·exact h.elim
def agP (e:Operand->V) (op:Op):Bool:=match op with
 |.makeSlice _ _ _=>true
 |_=>false
def Dh (P:Program):(Operand->V)->Op->List VB->List G->VK G->Prop:=λe op bl ch K=>cond (agP e op) (lP P e op bl ch K) (PZ P e op bl ch K)
theorem lQ {P:Program} {gl:Nat->Option Nat}:oA (G:=G) P gl (Dh P):=lO agP acA vf
end Vx
