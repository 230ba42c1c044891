/- Part 4 of the proof. -/
import Derived.Test.YtlkpikfddnjilaaGreatDoorQ3
set_option linter.all false
set_option maxRecDepth 100000
set_option maxHeartbeats 4000000
namespace Vx
open Go Sx
def cD:V:=.raw undef
def nth:List V->Nat->V
 |[],_=>cD
 |v::_,0=>v
 |_::l,n+1=>nth l n
def jO:List V->Nat->V->List V
 |[],_,_=>[]
 |_::l,0,x=>x::l
 |v::l,n+1,x=>v::jO l n x
def put (fr:List V) (d:Option Tmp) (v:V):List V:=match d with|some t=>jO fr t v|none=>fr
def Z9:Value->V
 |.int k n=>.int k n
 |.bool b=>.bool b
 |v=>.raw v
def xQ:Value->V
 |.int k n=>.int k n
 |.bool b=>.bool b
 |.agg cs=>.agg (cs.toList.map Z9)
 |v=>.raw v
def zb (p:Sd.Pol) (ka:Nat->Option Addr) (kn kc:Nat->Nat) (o:Nat):V:=
 bif Nat.ble 5 o&&Nat.ble o 8 then .raw (.slice (ka (o-5)) (kn (o-5)) (kc (o-5)))else .int .i64 (p.i o)
def nR:List V->Nat->Option V
 |[],_=>none
 |v::l,o=>match v with
  |.dS k n f=>bif Nat.ble n o then nR l (o-n)else some (.int k (f o))
  |.arr k n f=>bif Nat.ble n o then nR l (o-n)else some (.int k (f o))
  |.jN p ka kn kc=>bif Nat.ble 56 o then nR l (o-56)else some (zb p ka kn kc o)
  |.rest _=>none
  |.fN _ _ _=>none
  |v=>match o with|0=>some v|o+1=>nR l o
def takeN:List V->Nat->Option (List V×List V)
 |l,0=>some ([],l)
 |[],_+1=>none
 |v::l,n+1=>match v with
  |.dS k m f=>bif Nat.ble m (n+1)then(match takeN l (n+1-m)with|some (a,b)=>some (v::a,b)|none=>none)
   else some ([.dS k (n+1) f],.dS k (m-(n+1)) (λj=>f (n+1+j))::l)
  |.arr k m f=>bif Nat.ble m (n+1)then(match takeN l (n+1-m)with|some (a,b)=>some (v::a,b)|none=>none)
   else some ([.arr k (n+1) f],.arr k (m-(n+1)) (λj=>f (n+1+j))::l)
  |.jN .. =>bif Nat.ble 56 (n+1)then(match takeN l (n+1-56)with|some (a,b)=>some (v::a,b)|none=>none)else none
  |.rest _=>none
  |.fN _ _ _=>none
  |_=>match takeN l n with|some (a,b)=>some (v::a,b)|none=>none
def BG (l:List V) (off n:Nat):Option (List V):=match takeN l off with
 |some (_,r)=>(match takeN r n with|some (a,_)=>some a|none=>none)
 |none=>none
def TV (l:List V) (off n:Nat) (vs:List V):Option (List V):=match takeN l off with
 |some (a,r)=>(match takeN r n with|some (_,b)=>some (a++(vs++b))|none=>none)
 |none=>none
def szV:V->Nat
 |.dS _ n _=>n
 |.arr _ n _=>n
 |.jN .. =>56
 |.rest l=>l.length
 |.fN z n g=>((List.range n).flatMap g).length
 |_=>1
def eF:List V->Nat
 |[]=>0
 |v::l=>szV v+eF l
def TW:V->Bool
 |.agg _=>false
 |.aC _=>false
 |.rest l=>l.all (·.oneCell')
 |.fN z n g=>((List.range n).flatMap g).all (·.oneCell')
 |.raw v=>v.oneCell'
 |_=>true
def oL:List V->Bool
 |[]=>true
 |v::l=>TW v&&oL l
def dJ:V->List V
 |.agg l=>l
 |v=>[v]
def Jz:V->Bool
 |.dS .. =>false
 |.arr .. =>false
 |.jN .. =>false
 |.rest _=>false
 |.fN _ _ _=>false
 |.raw v=>v.oneCell'
 |_=>true
section
variable{ids:List Nat}
theorem qa (l:List Value):af ids (l.map Z9)=l:=by
 induction l with
 |nil=>simp[af]
 |cons v l ih=>cases v<;>simp[af,cl,Z9,den,ih]
theorem JA (v:Value):den ids (xQ v)=v:=by
 cases v<;>simp[xQ,den,qa]
theorem ll (fr:List V) (t:Nat):den ids (nth fr t)=(aq ids fr).toArray.getD t undef:=by
 induction fr generalizing t with
 |nil=>simp[nth,aq,cD,den]
 |cons v l ih=>
  cases t with
  |zero=>simp[nth,aq]
  |succ t=>rw[nth,ih];simp[aq,Array.getD]
theorem M8 (fr:List V) (t:Nat) (x:V):(aq ids (jO fr t x)).toArray=(aq ids fr).toArray.setIfInBounds t (den ids x):=by
 apply Array.ext';simp only[Array.toList_setIfInBounds];induction fr generalizing t with
 |nil=>simp[jO,aq]
 |cons v l ih=>cases t<;>simp[jO,aq,ih]
theorem TX (p:Sd.Pol) (ka:Nat->Option Addr) (kn kc:Nat->Nat) {o:Nat} (h:o<56):(tD p ka kn kc)[o]?=some (den ids (zb p ka kn kc o)):=by
 unfold tD zb;rw[List.getElem?_map,List.getElem?_range h];simp only[Option.map_some];cases Nat.ble 5 o&&Nat.ble o 8<;>simp[den]
theorem mA (p:Sd.Pol) (ka:Nat->Option Addr) (kn kc:Nat->Nat):(tD p ka kn kc).length=56:=by simp[tD]
theorem zd {l:List V} {o:Nat} {v:V} (h:nR l o=some v):(af ids l)[o]?=some (den ids v):=by
 induction l generalizing o with
 |nil=>simp[nR]at h
 |cons a l ih=>
  cases a
  case dS k n f=>
   simp only[nR]at h;simp only[af,cl];cases hb:Nat.ble n o with
   |true=>
    rw[hb]at h;have:=Nat.le_of_ble_eq_true hb;rw[List.getElem?_append_right (by simpa using this)];simpa using ih h
   |false=>
    rw[hb]at h;have:o<n:=Nat.lt_of_not_le λe=>by rw[Nat.ble_eq_true_of_le e]at hb;cases hb
    rw[List.getElem?_append_left (by simpa using this)];simp only[cond_false,Option.some.injEq]at h;subst h;simp[List.getElem?_range this,den]
  case arr k n f=>
   simp only[nR]at h;simp only[af,cl];cases hb:Nat.ble n o with
   |true=>
    rw[hb]at h;have:=Nat.le_of_ble_eq_true hb;rw[List.getElem?_append_right (by simpa using this)];simpa using ih h
   |false=>
    rw[hb]at h;have:o<n:=Nat.lt_of_not_le λe=>by rw[Nat.ble_eq_true_of_le e]at hb;cases hb
    rw[List.getElem?_append_left (by simpa using this)];simp only[cond_false,Option.some.injEq]at h;subst h;simp[List.getElem?_range this,den]
  case jN p ka kn kc=>
   simp only[nR]at h;simp only[af,cl];cases hb:Nat.ble 56 o with
   |true=>
    rw[hb]at h;have:=Nat.le_of_ble_eq_true hb;rw[List.getElem?_append_right (by rw[mA];exact this),mA];simpa using ih h
   |false=>
    rw[hb]at h;have:o<56:=Nat.lt_of_not_le λe=>by rw[Nat.ble_eq_true_of_le e]at hb;cases hb
    rw[List.getElem?_append_left (by rw[mA];exact this)];simp only[cond_false,Option.some.injEq]at h;subst h;exact TX _ _ _ _ this
  case rest=>simp[nR]at h
  case fN=>simp[nR]at h
  all_goals
   cases o with
   |zero=>simp only[nR,Option.some.injEq]at h;subst h;simp[af,cl]
   |succ o=>simp only[nR]at h;simpa[af,cl]using ih h
theorem xR (k:IntKind) {m n:Nat} (f:Nat->Int) (h:n<=m):((List.range m).map λj=>Value.int k (f j))=((List.range n).map λj=>Value.int k (f j))++((List.range (m-n)).map λj=>Value.int k (f (n+j))):=by
 obtain⟨d,rfl⟩:=Nat.exists_eq_add_of_le h;rw[List.range_add,List.map_append,List.map_map,Nat.add_sub_cancel_left];rfl
theorem mB {l a b:List V} {n:Nat} (h:takeN l n=some (a,b)):af ids l=af ids a++af ids b/\(af ids a).length=n:=by
 induction l generalizing n a b with
 |nil=>
  cases n with
  |zero=>simp only[takeN,Option.some.injEq,Prod.mk.injEq]at h;obtain⟨rfl,rfl⟩:=h;simp[af]
  |succ n=>simp[takeN]at h
 |cons v l ih=>
  cases n with
  |zero=>simp only[takeN,Option.some.injEq,Prod.mk.injEq]at h;obtain⟨rfl,rfl⟩:=h;simp[af]
  |succ n=>
   cases v
   case dS k m f=>
    simp only[takeN]at h;cases hb:Nat.ble m (n+1)with
    |true=>
     have hm:=Nat.le_of_ble_eq_true hb;rw[hb]at h;simp only[cond_true]at h;split at h
     ·rename_i x y hx;simp only[Option.some.injEq,Prod.mk.injEq]at h;obtain⟨rfl,rfl⟩:=h;obtain⟨i1,i2⟩:=ih hx;simp[af,cl,i1,i2];omega
     ·cases h
    |false=>
     have hm:n+1<m:=Nat.lt_of_not_le λe=>by rw[Nat.ble_eq_true_of_le e]at hb;cases hb
     rw[hb]at h;simp only[cond_false,Option.some.injEq,Prod.mk.injEq]at h;obtain⟨rfl,rfl⟩:=h;simp only[af,cl];rw[xR k f (n:=n+1) (by omega)];simp
   case arr k m f=>
    simp only[takeN]at h;cases hb:Nat.ble m (n+1)with
    |true=>
     have hm:=Nat.le_of_ble_eq_true hb;rw[hb]at h;simp only[cond_true]at h;split at h
     ·rename_i x y hx;simp only[Option.some.injEq,Prod.mk.injEq]at h;obtain⟨rfl,rfl⟩:=h;obtain⟨i1,i2⟩:=ih hx;simp[af,cl,i1,i2];omega
     ·cases h
    |false=>
     have hm:n+1<m:=Nat.lt_of_not_le λe=>by rw[Nat.ble_eq_true_of_le e]at hb;cases hb
     rw[hb]at h;simp only[cond_false,Option.some.injEq,Prod.mk.injEq]at h;obtain⟨rfl,rfl⟩:=h;simp only[af,cl];rw[xR k f (n:=n+1) (by omega)];simp
   case jN p ka kn kc=>
    simp only[takeN]at h;cases hb:Nat.ble 56 (n+1)with
    |true=>
     have hm:=Nat.le_of_ble_eq_true hb;rw[hb]at h;simp only[cond_true]at h;split at h
     ·rename_i x y hx;simp only[Option.some.injEq,Prod.mk.injEq]at h;obtain⟨rfl,rfl⟩:=h;obtain⟨i1,i2⟩:=ih hx;simp[af,cl,i1,i2,mA];omega
     ·cases h
    |false=>rw[hb]at h;simp at h
   case rest=>simp[takeN]at h
   case fN=>simp[takeN]at h
   all_goals
    simp only[takeN]at h;split at h
    ·rename_i x y hx;simp only[Option.some.injEq,Prod.mk.injEq]at h;obtain⟨rfl,rfl⟩:=h;obtain⟨i1,i2⟩:=ih hx;simp[af,cl,i1,i2]
    ·cases h
theorem jY {l c:List V} {off n:Nat} (h:BG l off n=some c):((af ids l).drop off).take n=af ids c/\(af ids c).length=n/\off+n<=(af ids l).length:=by
 unfold BG at h;split at h
 ·rename_i a r ha;split at h
  ·rename_i b s hb;simp only[Option.some.injEq]at h;subst h;obtain⟨a1,a2⟩:=mB (ids:=ids) ha;obtain⟨b1,b2⟩:=mB (ids:=ids) hb;refine⟨?_,b2,?_⟩
   ·rw[a1,<-a2,List.drop_left,b1,<-b2,List.take_left]
   ·rw[a1,b1];simp;omega
  ·cases h
 ·cases h
theorem bj (a b:List V):af ids (a++b)=af ids a++af ids b:=by
 induction a with
 |nil=>simp[af]
 |cons v l ih=>simp[af,ih]
theorem Hs {l c vs:List V} {off n:Nat} (h:TV l off n vs=some c):af ids c=(af ids l).take off++af ids vs++(af ids l).drop (off+n)/\off+n<=(af ids l).length:=by
 unfold TV at h;split at h
 ·rename_i a r ha;split at h
  ·rename_i b s hb;simp only[Option.some.injEq]at h;subst h;obtain⟨a1,a2⟩:=mB (ids:=ids) ha;obtain⟨b1,b2⟩:=mB (ids:=ids) hb;refine⟨?_,?_⟩
   ·rw[bj,bj,a1,b1];have e:off+n=(af ids a++af ids b).length:=by simp[a2,b2]
    have e2:af ids a++(af ids b++af ids s)=(af ids a++af ids b)++af ids s:=by simp
    rw[e,e2,List.drop_left,<-e2,<-a2,List.take_left,List.append_assoc]
   ·rw[a1,b1];simp;omega
  ·cases h
 ·cases h
theorem cP (l:List V):(af ids l).length=eF l:=by
 induction l with
 |nil=>simp[af,eF]
 |cons v l ih=>cases v<;>simp[af,cl,eF,szV,ih,mA]<;>omega
theorem M9 {p:Sd.Pol} {ka:Nat->Option Addr} {kn kc:Nat->Nat} {v:Value} (h:v∈tD p ka kn kc):v.oneCell'=true:=by
 unfold tD at h;rw[List.mem_map]at h;obtain⟨o,_,rfl⟩:=h;cases Nat.ble 5 o&&Nat.ble o 8<;>rfl
theorem ni {l:List V} (h:oL l=true):∀v∈af ids l,v.oneCell'=true:=by
 induction l with
 |nil=>simp[af]
 |cons a l ih=>
  simp only[oL,Bool.and_eq_true]at h;intro v hv;simp only[af,List.mem_append]at hv;rcases hv with hv|hv
  ·unfold cl at hv;cases a
   case dS k n f=>simp at hv;obtain⟨_,_,rfl⟩:=hv;rfl
   case arr k n f=>simp at hv;obtain⟨_,_,rfl⟩:=hv;rfl
   case jN=>exact M9 hv
   case rest l'=>exact(List.all_eq_true.1 (by simpa[TW]using h.1)) v hv
   case fN z n g=>
    have h1:((List.range n).flatMap g).all (·.oneCell')=true:=h.1;exact List.all_eq_true.1 h1 v hv
   all_goals (obtain rfl:v=_:=by simpa using hv);first|rfl|(simp[TW]at h;done)|(have:=h.1;simpa[TW,den]using this)
  ·exact ih h.2 v hv
theorem uP {v:V} (h:Jz v=true):(den ids v).cells.toList=af ids (dJ v):=by
 cases v
 case agg l=>simp[den,Value.cells,dJ]
 case raw v=>cases v<;>simp_all[den,Value.cells,dJ,af,cl,Jz,Value.oneCell']
 case dS=>simp[Jz]at h
 case arr=>simp[Jz]at h
 case jN=>simp[Jz]at h
 case rest=>simp[Jz]at h
 case fN=>simp[Jz]at h
 all_goals simp[den,Value.cells,dJ,af,cl]
end
def M_ (c:Bool) (a b:V):V:=match a,b with
 |.bool x,.bool y=>.bool (cond c x y)
 |.int k x,.int k' y=>(match decEq k k' with|isTrue _=>.int k (cond c x y)|isFalse _=>(match c with|true=>a|false=>b))
 |a,b=>match c with|true=>a|false=>b
def jQ (P:Program) (t:TypeId):Option Nat:=match P.info? t with|some i=>some i.size|none=>none
def Na (k:IntKind):List V->Bool
 |[]=>true
 |.int k' (.ofNat 0)::l=>(match decEq k' k with|isTrue _=>Na k l|isFalse _=>false)
 |_=>false
def Z_ (z:List V):List V:=match z with
 |.int k (.ofNat 0)::l=>bif Nat.ble 63 l.length&&Na k l then[.arr k (l.length+1) λ_=>0]else z
 |_=>z
theorem BH {k:IntKind} (ids:List Nat):∀{l:List V},Na k l=true->af ids l=(List.range l.length).map λ_=>Value.int k 0
 |[],_=>rfl
 |v::l,h=>by
  unfold Na at h;split at h
  ·rename_i heq;cases heq
  ·rename_i k' l' heq;obtain⟨rfl,rfl⟩:=List.cons.inj heq;split at h
   ·rename_i hk _;subst hk;rw[List.length_cons,List.range_succ_eq_map,List.map_cons,List.map_map];simp only[af,cl,den,BH ids h];rfl
   ·cases h
  ·cases h
theorem uQ (ids:List Nat) (z:List V):af ids (Z_ z)=af ids z:=by
 unfold Z_;split
 ·rename_i k l;cases hq:Nat.ble 63 l.length&&Na k l with
  |false=>rfl
  |true=>
   simp only[Bool.and_eq_true]at hq;simp only[cond_true,af,cl,den,BH ids hq.2,List.append_nil];rw[List.range_succ_eq_map,List.map_cons,List.map_map];rfl
 ·rfl
def iS (P:Program) (t:TypeId):Option (List V):=match P.info? t with
 |some i=>(match i.zero with|some v=>some (Z_ (dJ (xQ v)))|none=>none)
 |none=>none
def iG (P:Program) (t:TypeId):Option Bool:=match P.underlying t with|some d=>some (iX d)|none=>none
def Nb (op:BinOp) (x y:V):Option V:=match x,y with
 |.int k a,.int k' b=>(match op with
  |.shl=>(match b with|.ofNat n=>some (.int k (k.wrap (a*2^(min n k.bits))))|_=>none)
  |.shr=>(match b with|.ofNat n=>some (.int k (a.fdiv (2^(min n k.bits))))|_=>none)
  |op=>(match decEq k k' with
   |isFalse _=>none
   |isTrue _=>(match op with
    |.add=>some (.int k (k.wrap (a+b)))
    |.sub=>some (.int k (k.wrap (a-b)))
    |.mul=>some (.int k (k.wrap (a*b)))
    |.and=>some (.int k (bits .and k a b))
    |.or=>some (.int k (bits .or k a b))
    |.xor=>some (.int k (bits .xor k a b))
    |.rem=>(match b with|.ofNat (n+1)=>some (.int k (Int.tmod a (.ofNat (n+1))))|_=>none)
    |.quo=>(match b with|.ofNat (n+1)=>some (.int k (k.wrap (Int.tdiv a (.ofNat (n+1)))))|_=>none)
    |.eql=>some (.bool (a==b))
    |.neq=>some (.bool (a !=b))
    |.lss=>some (.bool (decide (a<b)))
    |.leq=>some (.bool (decide (a<=b)))
    |.gtr=>some (.bool (decide (a>b)))
    |.geq=>some (.bool (decide (a>=b)))
    |_=>none)))
 |_,_=>none
def aaa (op:UnOp) (x:V):Option V:=match op,x with
 |.not,.bool b=>some (.bool (!b))
 |.neg,.int k n=>some (.int k (k.wrap (0-n)))
 |.xor,.int k n=>some (.int k (bits .xor k (bif k.signed then-1 else k.max) n))
 |_,_=>none
section
variable{ids:List Nat} {P:Program} {w:World}
theorem Nc (c:Bool) (a b:V):den ids (M_ c a b)=if c then den ids a else den ids b:=by
 unfold M_;split
 ·cases c<;>simp[den]
 ·split
  ·rename_i hk _;cases c<;>simp[den,hk]
  ·cases c<;>rfl
 ·cases c<;>rfl
theorem tF (op:BinOp) (t:TypeId) (x y:Operand) (k k':IntKind) (a b:Int):(eqGuard op t x y (.int k a) (.int k' b)).run P w=.ok () w:=by
 unfold eqGuard;cases op<;>rfl
theorem Nd {op:BinOp} {x y v:V} (h:Nb op x y=some v) (t:TypeId) (xo yo:Operand):
 ((do eqGuard op t xo yo (den ids x) (den ids y);binOp op t (den ids x) (den ids y)):Sem Value).run P w=.ok (den ids v) w:=by
 unfold Nb at h;split at h
 ·rename_i k a k' b;simp only[den,Sem.run_bind,tF,Result.andThen_ok];split at h
  ·split at h
   ·rename_i n;simp only[Option.some.injEq]at h;subst h;have h0:¬(Int.ofNat n<0):=by have:=Int.natCast_nonneg n;simp only[Int.ofNat_eq_natCast];omega
    simp only[binOp,Op.shift,den,if_neg h0];rfl
   ·cases h
  ·split at h
   ·rename_i n;simp only[Option.some.injEq]at h;subst h;have h0:¬(Int.ofNat n<0):=by have:=Int.natCast_nonneg n;simp only[Int.ofNat_eq_natCast];omega
    simp only[binOp,Op.shift,den,if_neg h0];rfl
   ·cases h
  ·rename_i ah8 ah9;split at h
   ·cases h
   ·rename_i hk _;subst hk;cases op<;>simp only[Option.some.injEq]at h<;>first
     |(subst h;simp[binOp,Op.intArith,Op.intCmp,Op.intBits,Op.intDiv,den,bits];done)
     |(subst h;simp[binOp,Op.intArith,Op.intCmp,Op.intBits,Op.intDiv,den,bits];rfl)
     |(split at h<;>first
       |(simp only[Option.some.injEq]at h
         subst h;rename_i n;have h1:¬((Int.ofNat (n+1))=0):=by simp only[Int.ofNat_eq_natCast];omega
         simp only[binOp,Op.intDiv,den,if_neg h1,ne_eq,not_true_eq_false,if_false,ite_false];rfl)
       |cases h)
     |cases h
     |(exact absurd rfl ah8)
     |(exact absurd rfl ah9)
 ·cases h
theorem TY {op:UnOp} {x v:V} (h:aaa op x=some v):(Op.unary op (den ids x)).run P w=.ok (den ids v) w:=by
 unfold aaa at h;split at h
 ·simp only[Option.some.injEq]at h;subst h;simp[Op.unary,den]
 ·simp only[Option.some.injEq]at h;subst h;simp[Op.unary,Op.intArith,den]
 ·simp only[Option.some.injEq]at h;subst h;rename_i k n;cases hk:k.signed<;>simp[Op.unary,Op.intBits,bits,den,hk]
 ·cases h
end
def s_ (pl:Nat->Option (Nat×Nat)):List V->List (Nat×V)->Option (List V)
 |c,[]=>some c
 |c,(i,v)::l=>match pl i with
  |some (off,n)=>bif Jz v&&Nat.beq (eF (dJ v)) n then(match TV c off n (dJ v)with|some c'=>s_ pl c' l|none=>none)else none
  |none=>none
def placesOf (P:Program) (fs:Array Field) (i:Nat):Option (Nat×Nat):=match fs[i]?with
 |some f=>(match jQ P f.type with|some n=>some (f.offset,n)|none=>none)
 |none=>none
def mC (P:Program) (t:TypeId) (l:List V) (off:Nat):Option V:=match iG P t,jQ P t with
 |some true,some n=>(match BG l off n with|some c=>some (.agg c)|none=>none)
 |some false,_=>nR l off
 |_,_=>none
def zf (e:Operand->V) (ps:Array (Nat×Operand)):List (Nat×V):=ps.toList.map λp=>(p.1,e p.2)
def Nf (P:Program) (fs:Array Field):Bool:=fs.toList.all λf=>match jQ P f.type with|some _=>true|none=>false
section
variable{ids:List Nat} {P:Program} {w:World}
theorem JB (off:Nat):∀(vs:List Value) (cs:Array Value) (k:Nat),off+k+vs.length<=cs.size->
 ((vs.zipIdx k).foldl (λ(cs:Array Value) (x:Value×Nat)=>cs.setIfInBounds (off+x.2) x.1) cs).toList=cs.toList.take (off+k)++vs++cs.toList.drop (off+k+vs.length):=by
 intro vs;induction vs with
 |nil=>intro cs k h;simp
 |cons v l ih=>
  intro cs k h;simp only[List.length_cons]at h;simp only[List.zipIdx_cons,List.foldl_cons];rw[ih _ _ (by simp;omega)];simp only[Array.toList_setIfInBounds];have h1:off+k<cs.toList.length:=by simp;omega
  rw[show off+(k+1)=off+k+1 by omega];rw[List.take_set,List.drop_set,if_pos (by omega),List.take_succ_eq_append_getElem h1,List.set_append_right _ _ (by simp;omega)];simp only[List.length_take,List.length_cons];rw[show off+k-min (off+k) cs.toList.length=0 by omega];simp only[List.set_cons_zero,List.append_assoc,List.cons_append,List.nil_append];rw[show off+k+1+l.length=off+k+(l.length+1) by omega]
theorem zg {pl:Nat->Option (Nat×Nat)} {place:Nat->Option (Nat×Nat)} (hp:∀i x,pl i=some x->place i=some x):∀(l:List (Nat×V)) (c c':List V),s_ pl c l=some c'->
 Instr.fill place (af ids c).toArray (l.map λp=>(p.1,den ids p.2))=some (af ids c').toArray:=by
 intro l;induction l with
 |nil=>intro c c' h;simp only[s_,Option.some.injEq]at h;subst h;simp[Instr.fill]
 |cons a l ih=>
  intro c c' h;obtain⟨i,v⟩:=a;simp only[s_]at h;split at h
  ·rename_i off n hpl;cases hb:Jz v&&Nat.beq (eF (dJ v)) n with
   |false=>rw[hb]at h;simp at h
   |true=>
    rw[hb]at h;simp only[cond_true]at h;simp only[Bool.and_eq_true]at hb;have iQ:eF (dJ v)=n:=Nat.eq_of_beq_eq_true hb.2;split at h
    ·rename_i c1 hc1;obtain⟨s1,s2⟩:=Hs (ids:=ids) hc1;have Ng:=uP (ids:=ids) hb.1;have hlen:(den ids v).cells.size=n:=by rw[<-Array.length_toList,Ng,cP,iQ]
     simp only[List.map_cons,Instr.fill,hp i _ hpl];have ZT:((decide ((den ids v).cells.size≠n))||decide (off+(den ids v).cells.size>(af ids c).toArray.size))=false:=by
      simp[hlen];omega
     rw[if_neg (by simp only[ne_eq,Bool.or_eq_true,decide_eq_true_eq];simp[hlen];omega)];have key:(den ids v).cells.zipIdx.foldl (λ(cs:Array Value) (x:Value×Nat)=>cs.setIfInBounds (off+x.2) x.1) (af ids c).toArray=(af ids c1).toArray:=by
      apply Array.ext';rw[<-Array.foldl_toList,Array.toList_zipIdx,JB off _ _ 0 (by simp[hlen];omega)];rw[Ng,s1];simp[cP,iQ]
     rw[key];exact ih _ _ h
    ·cases h
  ·cases h
theorem qb {t:TypeId} {i:TypeInfo} (h:P.info? t=some i):(typeInfo t).run P w=.ok i w:=by simp[typeInfo,h]
theorem bb {t:TypeId} {n:Nat} (h:jQ P t=some n):(Go.sizeOf t).run P w=.ok n w:=by
 unfold jQ at h;split at h
 ·rename_i i hi;simp only[Option.some.injEq]at h;simp[Go.sizeOf,Sem.run_bind,qb hi,h]
 ·cases h
theorem ju {t:TypeId} {z:List V} (h:iS P t=some z):∃v,(zeroValue t).run P w=.ok v w/\v.cells.toList=af ids z:=by
 unfold iS at h;split at h
 ·rename_i i hi;split at h
  ·rename_i v hv;simp only[Option.some.injEq]at h;subst h;refine⟨v,by simp[zeroValue,Sem.run_bind,qb hi,hv],?_⟩;rw[uQ];cases v<;>simp[Value.cells,xQ,dJ,af,cl,den,qa]
  ·cases h
 ·cases h
theorem BI {t:TypeId} {b:Bool} (h:iG P t=some b):(isAgg t).run P w=.ok b w:=by
 unfold iG at h;split at h
 ·rename_i d hd;simp only[Option.some.injEq]at h;exact gQ (by rw[hd];simp[h]) w
 ·cases h
theorem zh {t:TypeId} {l:List V} {off:Nat} {v:V} (h:mC P t l off=some v):(part t (af ids l).toArray off).run P w=.ok (den ids v) w:=by
 unfold mC at h;split at h
 ·rename_i n ha hn;split at h
  ·rename_i c hc;simp only[Option.some.injEq]at h;subst h;obtain⟨g1,g2,g3⟩:=jY (ids:=ids) hc;simp only[part,Sem.run_bind,BI ha,Result.andThen_ok,if_pos,bb hn,Sem.run_pure];simp only[den];congr 2;apply Array.ext';simp[Array.toList_extract,List.extract,g1]
  ·cases h
 ·rename_i ha;have:=zd (ids:=ids) h;simp only[part,Sem.run_bind,BI ha,Result.andThen_ok,Bool.false_eq_true,if_false];simp[this]
 ·cases h
theorem BJ {fs:List Field} (h:∀f∈fs,∃n,jQ P f.type=some n):(fs.mapM λ(f:Field)=>(do pure (f.offset,<-Go.sizeOf f.type):Sem (Nat×Nat))).run P w=.ok (fs.map λf=>(f.offset,(jQ P f.type).getD 0)) w:=by
 induction fs with
 |nil=>rfl
 |cons f l ih=>
  obtain⟨n,hn⟩:=h f (by simp);have:=ih (λf hf=>h f (by simp[hf]));simp only[List.mapM_cons,Sem.run_bind,bb hn,Result.andThen_ok,Sem.run_pure,this,List.map_cons,hn,Option.getD_some]
end
def JC (P:Program) (t:TypeId) (x y:V):Option Bool:=match P.underlying t,x,y with
 |some .bool,.bool a,.bool b=>some (a==b)
 |some (.pointer _),.ptr _ _,.raw (.pointer none)=>some false
 |some (.pointer _),.raw (.pointer none),.ptr _ _=>some false
 |some (.pointer _),.raw (.pointer none),.raw (.pointer none)=>some true
 |some (.pointer _),.raw (.pointer (some _)),.raw (.pointer none)=>some false
 |some (.slice _),.sl _ _ _ _,.raw (.slice none _ _)=>some false
 |some (.slice _),.raw (.slice (some _) _ _),.raw (.slice none _ _)=>some false
 |some (.slice _),.raw (.slice none _ _),.raw (.slice none _ _)=>some true
 |_,.agg a,.agg b=>bif(cG 0 a&&cG 0 b)&&!(P.eqGuardType P.depth t)then Ys P 10000 t (.agg (af [] a).toArray) (.agg (af [] b).toArray)else none
 |_,_,_=>none
def EE (P:Program) (op:BinOp) (t:TypeId) (x y:V):Option V:=match Nb op x y with
 |some v=>some v
 |none=>match op with
  |.eql=>(match JC P t x y with|some r=>some (.bool r)|none=>none)
  |.neq=>(match JC P t x y with|some r=>some (.bool (!r))|none=>none)
  |_=>none
def Ht (v:V):Option V:=match v with
 |.ptr i o=>some (.ptr i o)
 |.fn f a b=>some (.fn f a b)
 |.pe i o j z k=>some (.pe i o j z k)
 |.raw (.pointer (some a))=>some (.raw (.pointer (some a)))
 |_=>none
def aab (P:Program) (t:TypeId) (x ix:V):Option V:=match P.underlying t,x,ix with
 |some (.array n el),.ptr i off,.int _ (.ofNat j)=>bif Nat.blt j n then(match jQ P el with|some z=>some (.ptr i (off+j*z))|none=>none)else none
 |some (.slice el),.sl i off n _,.int _ (.ofNat j)=>bif Nat.blt j n then(match jQ P el with|some z=>some (.ptr i (off+j*z))|none=>none)else none
 |_,_,_=>none
def aac (P:Program) (s:TypeId) (x:V) (f:Nat):Option V:=match P.underlying s,x with
 |some (.struct fs),.ptr i off=>(match fs[f]?with
  |some fd=>(match jQ P fd.type with|some (_+1)=>some (.ptr i (off+fd.offset))|_=>none)
  |none=>none)
 |some (.struct fs),.pe i o j z k=>(match fs[f]?with
  |some fd=>(match jQ P fd.type with|some (_+1)=>some (.pe i o j z (k+fd.offset))|_=>none)
  |none=>none)
 |_,_=>none
def EF (P:Program) (t:TypeId) (ps:List (Nat×V)):Option V:=match P.underlying t,iS P t with
 |some (.struct fs),some z=>bif Nf P fs then(match s_ (placesOf P fs) z ps with|some c=>some (.agg c)|none=>none)else none
 |some (.array _ el),some z=>(match jQ P el with|some n=>(match s_ (λi=>some (i*n,n)) z ps with|some c=>some (.agg c)|none=>none)|none=>none)
 |_,_=>none
def aad (P:Program) (t:TypeId) (x:V):Option V:=match P.underlying t,x with
 |some (.slice _),.sl _ _ n _=>some (.int .i64 (n:Int))
 |some (.slice _),.ij _ _ n _ _=>some (.int .i64 (n:Int))
 |some (.slice _),.raw (.slice _ n _)=>some (.int .i64 (n:Int))
 |some (.array n _),_=>some (.int .i64 (n:Int))
 |_,_=>none
def zi (x:V) (y:Nat):Option Nat:=match x with
 |.int _ (.ofNat i)=>bif Nat.ble i y then some i else none
 |_=>none
def rO (e:Operand->V) (o:Option Operand) (y d:Nat):Option Nat:=match o with
 |some x=>zi (e x) y
 |none=>some d
def slV (P:Program) (e:Operand->V) (t:TypeId) (x:V) (lo hi:Option Operand):Option V:=match P.underlying t,x with
 |some (.slice el),.sl i off n c=>(match rO e hi c n,jQ P el with
  |some h,some z=>(match rO e lo h 0 with
   |some l=>some (.sl i (bif Nat.beq c l then off else off+l*z) (h-l) (c-l))
   |none=>none)
  |_,_=>none)
 |some (.pointer arr),.ptr i off=>(match P.underlying arr with
  |some (.array n el)=>(match rO e hi n n,jQ P el with
   |some h,some z=>(match rO e lo h 0 with
    |some l=>some (.sl i (bif Nat.beq n l then off else off+l*z) (h-l) (n-l))
    |none=>none)
   |_,_=>none)
  |_=>none)
 |some (.array n el),.ptr i off=>(match rO e hi n n,jQ P el with
  |some h,some z=>(match rO e lo h 0 with
   |some l=>some (.sl i (bif Nat.beq n l then off else off+l*z) (h-l) (n-l))
   |none=>none)
  |_,_=>none)
 |_,_=>none
def aae (P:Program) (e:Operand->V) (t:TypeId) (x:V) (lo:Option Operand) (hi mx:Operand):Option V:=match P.underlying t,x with
 |some (.pointer arr),.ptr i off=>(match P.underlying arr with
  |some (.array n el)=>(match zi (e mx) n,jQ P el with
   |some m,some z=>(match zi (e hi) m with
    |some h=>(match rO e lo h 0 with
     |some l=>some (.sl i (bif Nat.beq m l then off else off+l*z) (h-l) (m-l))
     |none=>none)
    |none=>none)
   |_,_=>none)
  |_=>none)
 |some (.array n el),.ptr i off=>(match zi (e mx) n,jQ P el with
  |some m,some z=>(match zi (e hi) m with
   |some h=>(match rO e lo h 0 with
    |some l=>some (.sl i (bif Nat.beq m l then off else off+l*z) (h-l) (m-l))
    |none=>none)
   |none=>none)
  |_,_=>none)
 |_,_=>none
def aem (x y:V):Option V:=match x,y with
 |.int k a,.int _ b=>some (.int k (if b<a then b else a))
 |_,_=>none
def aen (x y:V):Option V:=match x,y with
 |.int k a,.int _ b=>some (.int k (if b>a then b else a))
 |_,_=>none
def aaf (P:Program) (arr:TypeId) (x:V):Option V:=match P.underlying arr,x with
 |some (.array n _),.sl i off len c=>bif Nat.ble n len then some (.ptr i off)else none
 |_,_=>none
def evQ (P:Program) (e:Operand->V):Op->Option V
 |.move x=>some (e x)
 |.assign x=>some (e x)
 |.pick c a b=>(match e c with|.bool c=>some (M_ c (e a) (e b))|_=>none)
 |.nilCheck x=>Ht (e x)
 |.binOp op t x y _=>EE P op t (e x) (e y)
 |.unOp op _ x=>aaa op (e x)
 |.convert s d x=>(match P.underlying s,P.underlying d,e x with|some _,some (.int k),.int _ n=>some (.int k (k.wrap n))|_,_,_=>none)
 |.makeFunc (.func f) a b=>some (.fn f (a.toList.map e) (b.toList.map e))
 |.makeInterface t x=>(match P.underlying t with|some (.interface _)=>none|some _=>some (.BF t (e x))|none=>none)
 |.build t ps=>EF P t (zf e ps)
 |.fieldAddr s x f=>aac P s (e x) f
 |.field s x f=>(match P.underlying s,e x with
  |some (.struct fs),.agg l=>(match fs[f]?with|some fd=>mC P fd.type l fd.offset|none=>none)
  |_,_=>none)
 |.indexAddr t x ix=>aab P t (e x) (e ix)
 |.index t x ix=>(match P.underlying t,e x,e ix with
  |some (.array n el),.agg l,.int _ (.ofNat j)=>bif Nat.blt j n then(match jQ P el with|some z=>mC P el l (j*z)|none=>none)else none
  |some .string,.raw (.string s),.int _ (.ofNat j)=>(match s[j]?with|some b=>some (.int .u8 b.toNat)|none=>none)
  |_,_,_=>none)
 |.extract x i=>(match e x with|.aC l=>(match l[i]?with|some v=>some v|none=>none)|_=>none)
 |.call c=>(match c.callee,c.args.toList,c.argTypes.toList with
  |.builtin .len,[x],t::_=>aad P t (e x)
  |.builtin .min,[x,y],_=>aem (e x) (e y)
  |.builtin .max,[x,y],_=>aen (e x) (e y)
  |_,_,_=>none)
 |.slice t x lo hi none=>slV P e t (e x) lo hi
 |.slice t x lo (some hi) (some mx)=>aae P e t (e x) lo hi mx
 |.sliceToArrayPointer arr x=>aaf P arr (e x)
 |_=>none
section
variable{ids:List Nat} {P:Program} {w:World} {e:Operand->V} {ρ:Operand->Value}
theorem Hu {t:TypeId} {x y:V} {r:Bool} (h:JC P t x y=some r) (xo yo:Operand) (op:BinOp) (xb:op=.eql\/op=.neq):
 (eqGuard op t xo yo (den ids x) (den ids y)).run P w=.ok () w/\(Op.equal t (den ids x) (den ids y)).run P w=.ok r w:=by
 have g0:∀(a b:Value),(∀x,a≠.agg x)->(a≠.nilIface)->(eqGuard op t xo yo a b).run P w=.ok () w:=by
  intro a b h1 h2;unfold eqGuard;rcases xb with rfl|rfl<;>(cases a<;>first|rfl|(exact absurd rfl h2)|(exact absurd rfl (h1 _)))
 unfold JC at h;split at h
 case h_9=>
  rename_i a b;cases hb:(cG 0 a&&cG 0 b)&&!(P.eqGuardType P.depth t)with
  |false=>rw[hb]at h;simp at h
  |true=>
   rw[hb]at h;simp only[cond_true]at h;simp only[Bool.and_eq_true,Bool.not_eq_true']at hb;have ha:af ids a=af [] a:=by have:=bY (ids:=[]) (more:=ids) a hb.1.1;simpa using this
   have TK:af ids b=af [] b:=by have:=bY (ids:=[]) (more:=ids) b hb.1.2;simpa using this
   refine⟨?_,?_⟩
   ·simp only[den];unfold eqGuard;rcases xb with rfl|rfl<;>simp[hb.2]
   ·have:=tT 10000 t _ _ r h w;simp only[den,ha,TK];exact this
 all_goals first
  |(rename_i hu
    simp only[Option.some.injEq]at h;subst h;refine⟨g0 _ _ (by intro x;simp[den]) (by simp[den]),?_⟩;simp only[den];unfold Op.equal Op.maxDepth Op.equalIn;simp[Sem.run_bind,run_underlying hu]
    done)
  |cases h
theorem uR {t:TypeId} {x y:V} {r:Bool} (h:JC P t x y=some r):(∃b,den ids x=.bool b)\/(∃b,den ids x=.pointer b/\∃c,den ids y=.pointer c)\/(∃b n c,den ids x=.slice b n c)\/(∃b,den ids x=.agg b):=by
 unfold JC at h;split at h<;>first|(exact .inl ⟨_,by simp only[den];rfl⟩)|(exact .inr (.inl ⟨_,by simp only[den];rfl,_,by simp only[den];rfl⟩))|(exact .inr (.inr (.inl ⟨_,_,_,by simp only[den];rfl⟩)))|(exact .inr (.inr (.inr ⟨_,by simp only[den];rfl⟩)))|cases h
theorem JD {op:BinOp} {t:TypeId} {x y v:V} (h:EE P op t x y=some v) (xo yo:Operand):
 ((do eqGuard op t xo yo (den ids x) (den ids y);binOp op t (den ids x) (den ids y)):Sem Value).run P w=.ok (den ids v) w:=by
 unfold EE at h;split at h
 ·rename_i v' hv;simp only[Option.some.injEq]at h;subst h;exact Nd hv t xo yo
 ·split at h
  ·split at h
   ·rename_i r hr;simp only[Option.some.injEq]at h;subst h;obtain⟨h1,h2⟩:=Hu (ids:=ids) (w:=w) hr xo yo .eql (.inl rfl);simp only[Sem.run_bind,h1,Result.andThen_ok];have h3:binOp .eql t (den ids x) (den ids y)=(do pure (.bool (<-Op.equal t (den ids x) (den ids y)))):=by
     rcases uR (ids:=ids) hr with⟨b,hb⟩|⟨b,hb,c,hc⟩|⟨b,n,c,hb⟩|⟨b,hb⟩
     ·rw[hb];rfl
     ·rw[hb,hc];rfl
     ·rw[hb];rfl
     ·rw[hb];rfl
    rw[h3];simp[Sem.run_bind,h2,den]
   ·cases h
  ·split at h
   ·rename_i r hr;simp only[Option.some.injEq]at h;subst h;obtain⟨h1,h2⟩:=Hu (ids:=ids) (w:=w) hr xo yo .neq (.inr rfl);simp only[Sem.run_bind,h1,Result.andThen_ok];have h3:binOp .neq t (den ids x) (den ids y)=(do pure (.bool (!(<-Op.equal t (den ids x) (den ids y))))):=by
     rcases uR (ids:=ids) hr with⟨b,hb⟩|⟨b,hb,c,hc⟩|⟨b,n,c,hb⟩|⟨b,hb⟩
     ·rw[hb];rfl
     ·rw[hb,hc];rfl
     ·rw[hb];rfl
     ·rw[hb];rfl
    rw[h3];simp[Sem.run_bind,h2,den]
   ·cases h
  ·cases h
theorem Nh {x v:V} (h:Ht x=some v):v=x/\(∀(f:Value->Sem Next) (g:Sem Next),(match den ids x with
 |.pointer none|.nilIface|.nilFunc=>g
 |x=>f x)=f (den ids x)):=by
 unfold Ht at h;split at h<;>first|(simp only[Option.some.injEq]at h;subst h;exact⟨rfl,λf g=>by simp[den]⟩)|cases h
theorem fw (b off k:Nat):(⟨b,off,none⟩:Addr).add k=⟨b,off+k,none⟩:=by unfold Addr.add;split<;>simp_all
theorem TZ {t:TypeId} {x ix v:V} (h:aab P t x ix=some v):(Instr.indexAt t (den ids x) (den ids ix)).run P w=.ok (den ids v) w:=by
 unfold aab at h;split at h
 ·rename_i n el i off k j hu;cases hb:Nat.blt j n with
  |false=>rw[hb]at h;simp at h
  |true=>
   rw[hb]at h;simp only[cond_true]at h;have hj:j<n:=by rw[Nat.blt_eq]at hb;exact hb
   split at h
   ·rename_i z hz;simp only[Option.some.injEq]at h;subst h;have h1:(0:Int)<=Int.ofNat j/\Int.ofNat j<(n:Int):=by simp only[Int.ofNat_eq_natCast];omega
    simp only[Instr.indexAt,den,asIntOf,Instr.sureAddr,Sem.run_bind,Sem.run_pure,Result.andThen_ok,run_underlying hu];rw[if_pos h1];simp[Sem.run_bind,bb hz,fw]
   ·cases h
 ·rename_i el i off n c k j hu;cases hb:Nat.blt j n with
  |false=>rw[hb]at h;simp at h
  |true=>
   rw[hb]at h;simp only[cond_true]at h;have hj:j<n:=by rw[Nat.blt_eq]at hb;exact hb
   split at h
   ·rename_i z hz;simp only[Option.some.injEq]at h;subst h;have h1:(0:Int)<=Int.ofNat j/\Int.ofNat j<(n:Int):=by simp only[Int.ofNat_eq_natCast];omega
    simp only[Instr.indexAt,den,asIntOf,Sem.run_bind,Sem.run_pure,Result.andThen_ok,run_underlying hu];rw[if_pos h1];simp[Sem.run_bind,bb hz,fw]
   ·cases h
 ·cases h
theorem T0 {s:TypeId} {x v:V} {f:Nat} (h:aac P s x f=some v):(Instr.fieldAt s (den ids x) f).run P w=.ok (den ids v) w:=by
 unfold aac at h;split at h
 ·rename_i fs i off hu;split at h
  ·rename_i fd hfd;split at h
   ·rename_i n hn;simp only[Option.some.injEq]at h;subst h;simp[Instr.fieldAt,Instr.sureAddr,den,Sem.run_bind,run_underlying hu,hfd,fieldPlace,bb hn,fw]
   ·cases h
  ·cases h
 ·rename_i fs i j z k hu;split at h
  ·rename_i fd hfd;split at h
   ·rename_i n hn;simp only[Option.some.injEq]at h;subst h;simp[Instr.fieldAt,Instr.sureAddr,den,Sem.run_bind,run_underlying hu,hfd,fieldPlace,bb hn,fw,Nat.add_assoc]
   ·cases h
  ·cases h
 ·cases h
theorem JE {t:TypeId} {ps:List (Nat×V)} {v:V} (h:EF P t ps=some v):(Instr.build t (ps.map λp=>(p.1,den ids p.2)).toArray).run P w=.ok (den ids v) w:=by
 unfold EF at h;split at h
 ·rename_i fs z hu hz;cases hk:Nf P fs with
  |false=>rw[hk]at h;simp at h
  |true=>
   rw[hk]at h;simp only[cond_true]at h;split at h
   ·rename_i c hc;simp only[Option.some.injEq]at h;subst h;obtain⟨v0,z1,z2⟩:=ju (P:=P) (w:=w) (ids:=ids) hz;have hm:=BJ (P:=P) (w:=w) (fs:=fs.toList) (λf hf=>by
     have:=(List.all_eq_true.1 hk) f hf;split at this
     ·rename_i n hn;exact⟨n,hn⟩
     ·cases this)
    have Ni:(fs.mapM λ(f:Field)=>(do pure (f.offset,<-Go.sizeOf f.type):Sem (Nat×Nat))).run P w=.ok (fs.toList.map λf=>(f.offset,(jQ P f.type).getD 0)).toArray w:=by
     have e:fs=fs.toList.toArray:=by simp
     rw[e,List.mapM_toArray];simp only[Sem.run_map,hm,Result.andThen_ok]
    have hf:=zg (ids:=ids) (place:=λi=>((fs.toList.map λf=>(f.offset,(jQ P f.type).getD 0)).toArray)[i]?) (λi x hx=>by
     unfold placesOf at hx;split at hx
     ·rename_i f hf;split at hx
      ·rename_i n hn;simp only[Option.some.injEq]at hx;subst hx;simp[hf,hn]
      ·cases hx
     ·cases hx) ps z c hc
    have hz3:v0.cells=(af ids z).toArray:=by apply Array.ext';simpa using z2
    simp only[Instr.build,Sem.run_bind,z1,Result.andThen_ok,run_underlying hu,Ni,hz3];simp only[den];rw[hf];rfl
   ·cases h
 ·rename_i n el z hu hz;split at h
  ·rename_i m hm;split at h
   ·rename_i c hc;simp only[Option.some.injEq]at h;subst h;obtain⟨v0,z1,z2⟩:=ju (P:=P) (w:=w) (ids:=ids) hz;have hf:=zg (ids:=ids) (place:=λi=>some (i*m,m)) (λi x hx=>hx) ps z c hc;have hz3:v0.cells=(af ids z).toArray:=by apply Array.ext';simpa using z2
    simp only[Instr.build,Sem.run_bind,z1,Result.andThen_ok,run_underlying hu,bb hm,hz3];simp only[den];rw[hf];rfl
   ·cases h
  ·cases h
 ·cases h
end
section
variable{ids:List Nat} {P:Program} {w:World} {e:Operand->V} {ρ:Operand->Value}
theorem T4 {t:TypeId} {x v:V} (h:aad P t x=some v) (ty:TypeId) (ts:Array TypeId) (ht:ts[0]?=some t):(Builtin.len_ ts ty #[den ids x]).run P w=.ok (den ids v) w:=by
 unfold aad at h;split at h<;>first
  |(rename_i hu
    simp only[Option.some.injEq]at h;subst h;simp[Builtin.len_,ht,Sem.run_bind,run_underlying hu,den,goInt]
    done)
  |cases h
theorem xS (ps:Array (Nat×Operand)) (cz:∀x,ρ x=den ids (e x)):(ps.map λ(p:Nat×Operand)=>(p.1,ρ p.2))=((zf e ps).map λp=>(p.1,den ids p.2)).toArray:=by
 apply Array.ext';simp[zf,cz]
theorem Nj (l:List Operand) (cz:∀x,ρ x=den ids (e x)):aq ids (l.map e)=l.map ρ:=by
 rw[jX,List.map_map];apply List.map_congr_left;intro x _;exact(cz x).symm
theorem nj {x:V} {y i:Nat} (code:BoundsCode) (h:zi x y=some i):(Instr.sliceBound (den ids x) y code).run P w=.ok i w/\i<=y:=by
 unfold zi at h;split at h
 ·rename_i k j;cases hb:Nat.ble j y with
  |false=>rw[hb]at h;cases h
  |true=>
   rw[hb]at h;obtain rfl:j=i:=by simpa using h
   have hle:=Nat.le_of_ble_eq_true hb;refine⟨?_,hle⟩;have h2:(0:Int)<=Int.ofNat j/\Int.ofNat j<=(y:Int):=⟨Int.natCast_nonneg j,Int.ofNat_le.2 hle⟩;simp only[Instr.sliceBound,den,asIntOf,Sem.run_bind,Sem.run_pure,Result.andThen_ok,if_pos h2];rfl
 ·cases h
theorem uS (cz:∀x,ρ x=den ids (e x)) {lo hi:Option Operand} {len cap h l:Nat} (b:Bool) (h1:rO e hi cap len=some h) (h2:rO e lo h 0=some l):
 (Instr.sliceBounds b len cap (lo.map ρ) (hi.map ρ) none).run P w=.ok (l,h,cap) w:=by
 unfold rO at h1 h2;cases hi with
 |none=>
  obtain rfl:len=h:=by simpa using h1
  cases lo with
  |none=>
   obtain rfl:0=l:=by simpa using h2
   simp[Instr.sliceBounds,Result.andThen]
  |some x=>
   have:=nj (P:=P) (ids:=ids) (w:=w) .sliceB h2;simp[Instr.sliceBounds,Result.andThen,cz,this.1]
 |some y=>
  have a1:=λc=>(nj (P:=P) (ids:=ids) (w:=w) c h1).1;cases lo with
  |none=>
   obtain rfl:0=l:=by simpa using h2
   simp[Instr.sliceBounds,Result.andThen,cz,a1]
  |some x=>
   have:=nj (P:=P) (ids:=ids) (w:=w) .sliceB h2;simp[Instr.sliceBounds,Result.andThen,cz,this.1,a1]
theorem aag (cz:∀x,ρ x=den ids (e x)) {t:TypeId} {x:Operand} {lo hi:Option Operand} {v:V} (h:slV P e t (e x) lo hi=some v):(Instr.sliceAt t (ρ x) (lo.map ρ) (hi.map ρ) none).run P w=.ok (den ids v) w:=by
 unfold slV at h;have fin:∀(c l off z i:Nat),(if c=l then(⟨ids.getD i 0,off,none⟩:Addr)else Addr.add ⟨ids.getD i 0,off,none⟩ (l*z))=⟨ids.getD i 0,bif Nat.beq c l then off else off+l*z,none⟩:=by
  intro c l off z i;by_cases hc:c=l
  ·subst hc;simp
  ·have:Nat.beq c l=false:=by
    cases hb:Nat.beq c l with
    |true=>exact absurd (Nat.eq_of_beq_eq_true hb) hc
    |false=>rfl
   rw[if_neg hc,this,Addr.add_lit];rfl
 split at h
 ·rename_i el i off n c hu hx;split at h
  ·rename_i hh z h1 hz;split at h
   ·rename_i l h2;obtain rfl:=Option.some.inj h;have hb:=uS (P:=P) (w:=w) cz true h1 h2;have hs:=bb (P:=P) (w:=w) hz;have:=fin c l off z i;simp only[den,<-this];have run:(Instr.sliceAt t (ρ x) (lo.map ρ) (hi.map ρ) none).run P w=.ok (.slice (if c=l then some ⟨ids.getD i 0,off,none⟩else some (Addr.add ⟨ids.getD i 0,off,none⟩ (l*z))) (hh-l) (c-l)) w:=by
     simp[Instr.sliceAt,Instr.slice,run_underlying hu,cz,hx,den,hb,hs,Result.andThen]
    rw[run];by_cases hc:c=l
    ·rw[if_pos hc,if_pos hc]
    ·rw[if_neg hc,if_neg hc]
   ·cases h
  ·cases h
 ·rename_i arr i off hu hx;split at h
  ·rename_i n el hu2;split at h
   ·rename_i hh z h1 hz;split at h
    ·rename_i l h2;obtain rfl:=Option.some.inj h;have hb:=uS (P:=P) (w:=w) cz false h1 h2;have hs:=bb (P:=P) (w:=w) hz;have:=fin n l off z i;simp only[den,<-this];simp[Instr.sliceAt,Instr.slice,run_underlying hu,run_underlying hu2,asAddr,cz,hx,den,hb,hs,Result.andThen]
    ·cases h
   ·cases h
  ·cases h
 ·rename_i n el i off hu hx;split at h
  ·rename_i hh z h1 hz;split at h
   ·rename_i l h2;obtain rfl:=Option.some.inj h;have hb:=uS (P:=P) (w:=w) cz false h1 h2;have hs:=bb (P:=P) (w:=w) hz;have:=fin n l off z i;simp only[den,<-this];simp[Instr.sliceAt,Instr.sureAddr,run_underlying hu,cz,hx,den,hb,hs,Result.andThen]
   ·cases h
  ·cases h
 ·cases h
theorem xT (cz:∀x,ρ x=den ids (e x)) {lo:Option Operand} {hi mx:Operand} {len cap m h l:Nat} (b:Bool) (h0:zi (e mx) cap=some m) (h1:zi (e hi) m=some h) (h2:rO e lo h 0=some l):
 (Instr.sliceBounds b len cap (lo.map ρ) (some (ρ hi)) (some (ρ mx))).run P w=.ok (l,h,m) w:=by
 have a0:=λc=>(nj (P:=P) (ids:=ids) (w:=w) c h0).1;have a1:=λc=>(nj (P:=P) (ids:=ids) (w:=w) c h1).1;unfold rO at h2;cases lo with
 |none=>
  obtain rfl:0=l:=by simpa using h2
  simp[Instr.sliceBounds,Result.andThen,cz,a0,a1]
 |some x=>
  have:=λc=>(nj (P:=P) (ids:=ids) (w:=w) c h2).1;simp[Instr.sliceBounds,Result.andThen,cz,a0,a1,this]
theorem T5 (cz:∀x,ρ x=den ids (e x)) {t:TypeId} {x:Operand} {lo:Option Operand} {hi mx:Operand} {v:V} (h:aae P e t (e x) lo hi mx=some v):(Instr.sliceAt t (ρ x) (lo.map ρ) (some (ρ hi)) (some (ρ mx))).run P w=.ok (den ids v) w:=by
 unfold aae at h;have fin:∀(c l off z i:Nat),(if c=l then(⟨ids.getD i 0,off,none⟩:Addr)else Addr.add ⟨ids.getD i 0,off,none⟩ (l*z))=⟨ids.getD i 0,bif Nat.beq c l then off else off+l*z,none⟩:=by
  intro c l off z i;by_cases hc:c=l
  ·subst hc;simp
  ·have:Nat.beq c l=false:=by
    cases hb:Nat.beq c l with
    |true=>exact absurd (Nat.eq_of_beq_eq_true hb) hc
    |false=>rfl
   rw[if_neg hc,this,Addr.add_lit];rfl
 split at h
 ·rename_i arr i off hu hx;split at h
  ·rename_i n el hu2;split at h
   ·rename_i m z h0 hz;split at h
    ·rename_i hh h1;split at h
     ·rename_i l h2;obtain rfl:=Option.some.inj h;have hb:=xT (P:=P) (w:=w) (len:=n) cz false h0 h1 h2;have hs:=bb (P:=P) (w:=w) hz;have:=fin m l off z i;simp only[den,<-this];simp[Instr.sliceAt,Instr.slice,run_underlying hu,run_underlying hu2,asAddr,cz,hx,den,hs,Result.andThen]at hb⊢;simp[hb,hs]
     ·cases h
    ·cases h
   ·cases h
  ·cases h
 ·rename_i n el i off hu hx;split at h
  ·rename_i m z h0 hz;split at h
   ·rename_i hh h1;split at h
    ·rename_i l h2;obtain rfl:=Option.some.inj h;have hb:=xT (P:=P) (w:=w) (len:=n) cz false h0 h1 h2;have hs:=bb (P:=P) (w:=w) hz;have:=fin m l off z i;simp only[den,<-this];simp[Instr.sliceAt,Instr.sureAddr,run_underlying hu,cz,hx,den,hs,Result.andThen]at hb⊢;simp[hb,hs]
    ·cases h
   ·cases h
  ·cases h
 ·cases h
theorem T6 {arr:TypeId} {x v:V} (h:aaf P arr x=some v):(Instr.arrayAt arr (den ids x)).run P w=.ok (den ids v) w:=by
 unfold aaf at h;split at h
 ·rename_i n el i off len c hu;cases hq:Nat.ble n len with
  |false=>rw[hq]at h;cases h
  |true=>
   rw[hq]at h;obtain rfl:=Option.some.inj h;have hle:=Nat.le_of_ble_eq_true hq;simp[Instr.arrayAt,run_underlying hu,den,Result.andThen,Nat.not_lt.2 hle]
 ·cases h
theorem Nk (cz:∀x,ρ x=den ids (e x)) (o:Oper) (v:V) (h:evQ P e o.op=some v):(execOp ρ o).run P w=.ok (.value (den ids v)) w:=by
 unfold execOp;unfold evQ at h;split at h
 ·rename_i x ho;simp only[Option.some.injEq]at h;subst h;simp[ho,cz]
 ·rename_i x ho;simp only[Option.some.injEq]at h;subst h;simp[ho,cz]
 ·rename_i c a b ho;split at h
  ·rename_i cb hc;simp only[Option.some.injEq]at h;subst h;simp only[ho,cz,hc,den,asBool,Sem.run_bind,Sem.run_pure,Result.andThen_ok,Nc]
  ·cases h
 ·rename_i x ho;obtain⟨rfl,hk⟩:=Nh (ids:=ids) h;simp only[ho,cz];unfold Ht at h;split at h<;>first|(simp_all[den];done)|cases h
 ·rename_i op t x y yt ho;simp only[ho,cz];rw[Sem.run_bind,JD h];rfl
 ·rename_i op t x ho;simp only[ho,cz];rw[Sem.run_bind,TY h];rfl
 ·rename_i s d x ho;split at h
  ·rename_i d' k n hs hd hx;simp only[Option.some.injEq]at h;subst h;simp[ho,cz,hx,den,convert,Sem.run_bind,run_underlying hs,run_underlying hd,Conv.intToInt]
  ·cases h
 ·rename_i f a b ho;simp only[Option.some.injEq]at h;subst h;simp only[ho,Instr.makeFunc,den,Nj _ cz,Sem.run_bind,Sem.run_pure,Result.andThen_ok];rw[show a.map ρ=(a.toList.map ρ).toArray from by apply Array.ext';simp,show b.map ρ=(b.toList.map ρ).toArray from by apply Array.ext';simp]
 ·rename_i t x ho;split at h
  ·cases h
  ·rename_i d hd hu;simp only[Option.some.injEq]at h;subst h;simp only[ho,cz,Instr.makeInterface,Sem.run_bind,run_underlying hu,Result.andThen_ok];cases d<;>first|(simp[den];done)|(exact absurd rfl (hd _))
  ·cases h
 ·rename_i t ps ho;try simp only[ho]
  rw[Sem.run_bind];have:=JE (ids:=ids) (w:=w) h;rw[show(ps.map λ(x:Nat×Operand)=>match x with|(i,x)=>(i,ρ x))=(ps.map λ(p:Nat×Operand)=>(p.1,ρ p.2))from rfl,xS ps cz,this];rfl
 ·rename_i s x f ho;simp only[ho,cz];rw[Sem.run_bind,T0 h];rfl
 ·rename_i s x f ho;split at h
  ·rename_i fs l hu hx;split at h
   ·rename_i fd hfd;simp only[ho,cz,hx,den,Instr.field,Sem.run_bind,run_underlying hu,Result.andThen_ok,hfd,asAgg,Sem.run_pure,zh h]
   ·cases h
  ·cases h
 ·rename_i t x ix ho;simp only[ho,cz];rw[Sem.run_bind,TZ h];rfl
 ·rename_i t x ix ho;split at h
  ·rename_i n el l k j hu hx rP;cases hb:Nat.blt j n with
   |false=>rw[hb]at h;simp at h
   |true=>
    rw[hb]at h;simp only[cond_true]at h;have hj:j<n:=by rw[Nat.blt_eq]at hb;exact hb
    split at h
    ·rename_i z hz;have h1:(0:Int)<=Int.ofNat j/\Int.ofNat j<(n:Int):=by simp only[Int.ofNat_eq_natCast];omega
     simp only[ho,cz,hx,rP,den,Instr.index,asIntOf,Sem.run_bind,Sem.run_pure,Result.andThen_ok,run_underlying hu];rw[if_pos h1];have:=zh (ids:=ids) (w:=w) h;simp[Sem.run_bind,bb hz,this]
    ·cases h
  ·rename_i s k j hu hx rP;split at h
   ·rename_i b hb;cases h;have h0:(0:Int)<=Int.ofNat j:=Int.natCast_nonneg j;have h1:(Int.ofNat j).toNat=j:=rfl;simp only[ho,cz,hx,rP,den,Instr.index,asIntOf,Sem.run_bind,Sem.run_pure,Result.andThen_ok,run_underlying hu,if_pos h0,h1,hb]
   ·cases h
  ·cases h
 ·rename_i x i ho;split at h
  ·rename_i l hx;split at h
   ·rename_i u hu;simp only[Option.some.injEq]at h;subst h;simp[ho,cz,hx,den,Instr.extract,jX,hu]
   ·cases h
  ·cases h
 ·rename_i c ho;split at h
  ·rename_i x t ts hc ha ht;obtain⟨callee,args,tys⟩:=c;simp only at hc ha ht;subst hc;have Tf:args=#[x]:=by apply Array.ext';simpa using ha
   have h0:tys[0]?=some t:=by rw[<-Array.getElem?_toList,ht];rfl
   subst Tf;simp only[ho,resolve,Sem.run_bind,Sem.run_pure,Result.andThen_ok,invoke,builtin];rw[show(#[x].map ρ)=#[den ids (e x)] by simp[cz]];rw[T4 h _ _ h0];rfl
  ·rename_i x y hc ha;obtain⟨callee,args,tys⟩:=c;simp only at hc ha;subst hc;have Tf:args=#[x,y]:=by apply Array.ext';simpa using ha
   subst Tf;unfold aem at h;split at h
   ·rename_i k a k2 b hx hy;obtain rfl:=Option.some.inj h;simp[ho,resolve,invoke,builtin,cz,hx,hy,den,Builtin.min_,Builtin.min2,Result.andThen]
   ·cases h
  ·rename_i x y hc ha;obtain⟨callee,args,tys⟩:=c;simp only at hc ha;subst hc;have Tf:args=#[x,y]:=by apply Array.ext';simpa using ha
   subst Tf;unfold aen at h;split at h
   ·rename_i k a k2 b hx hy;obtain rfl:=Option.some.inj h;simp[ho,resolve,invoke,builtin,cz,hx,hy,den,Builtin.max_,Builtin.max2,Result.andThen]
   ·cases h
  ·cases h
 ·rename_i t x lo hi ho;simp only[ho,Option.map_none];rw[Sem.run_bind,aag cz h];rfl
 ·rename_i t x lo hi mx ho;simp only[ho,Option.map_some];rw[Sem.run_bind,T5 cz h];rfl
 ·rename_i arr x ho;simp only[ho,cz];rw[Sem.run_bind,T6 h];rfl
 ·cases h
end
end Vx
namespace Vx
open Go Go.RowKit Go.BigFrame Sx
structure BT where
 t:TypeId
 fz:Nat×Nat
instance(n:Nat):OfNat BT n:=⟨⟨n,(0,0)⟩⟩
instance:Coe TypeId BT:=⟨λt=>⟨t,(0,0)⟩⟩
def BK:BT->TypeId->Bool
 |⟨t,(0,0)⟩,n=>Nat.beq t n
 |_,_=>false
theorem zj {b:BT} {n:Nat} (h:BK b n=true):b=⟨n,(0,0)⟩:=by
 unfold BK at h;split at h
 ·rw[Nat.eq_of_beq_eq_true h]
 ·cases h
structure VB where
 wr:Bool
 ty:BT
 c:List V
def aL (ids:List Nat) (id:Nat) (b:VB):ax:=⟨id,b.wr,.cells (af ids b.c).toArray b.ty.t b.ty.fz⟩
def lits (ids:List Nat):List Nat->List VB->List ax
 |i::is,b::bl=>aL ids i b::lits ids is bl
 |_,_=>[]
def Tg (P:Program) (bl:List VB) (t:TypeId) (x:V):Option V:=match x with
 |.ptr i off=>(match bl[i]?with
  |some b=>mC P t b.c off
  |none=>none)
 |_=>none
def stV (P:Program) (bl:List VB) (t:TypeId) (x v:V):Option (List VB):=match x with
 |.ptr i off=>(match bl[i]?with
  |some ⟨true,⟨ty,(0,0)⟩,c⟩=>(match jQ P t with
   |some n=>bif Jz v&&(oL (dJ v)&&Nat.beq (eF (dJ v)) n)then(match TV c off n (dJ v)with|some c'=>some (bl.set i ⟨true,⟨ty,(0,0)⟩,c'⟩)|none=>none)else none
   |none=>none)
  |_=>none)
 |_=>none
def ln (z:List V):Nat->List V
 |0=>[]
 |n+1=>z++ln z n
def BL (P:Program) (e:Operand->V) (n:Nat):Op->Option (V×VB)
 |.alloc t=>(match iS P t with|some z=>some (.ptr n 0,⟨true,t,z⟩)|none=>none)
 |.box t x=>bif Jz (e x)then some (.ptr n 0,⟨true,t,dJ (e x)⟩)else none
 |.buildSlice t len ps=>(match P.underlying t with
  |some (.slice el)=>(match jQ P el,iS P el with
   |some (z+1),some zc=>bif Nat.beq (eF zc) (z+1)&&(Nat.ble (len*(z+1)) (2^24)&&!(Nat.beq len 0&&Nat.beq z 5))then(match s_ (λi=>some (i*(z+1),z+1)) (ln zc len) (zf e ps)with|some c=>some (.sl n 0 len len,⟨true,el,c⟩)|none=>none)else none
   |_,_=>none)
  |_=>none)
 |_=>none
def dE (n:Nat):List VB->Bool
 |[]=>true
 |b::l=>cG n b.c&&dE n l
section
variable{ids:List Nat} {P:Program} {w w0:World} {ms:List Nat} {e:Operand->V} {ρ:Operand->Value} {bl:List VB} {R:List ax}
theorem ik:∀(is:List Nat) (bl:List VB),is.length=bl.length->(lits ids is bl).length=bl.length
 |[],[],_=>rfl
 |i::is,b::bl,h=>by simp[lits,ik is bl (by simpa using h)]
 |[],_::_,h=>by simp at h
 |_::_,[],h=>by simp at h
theorem zk:∀(is:List Nat) (bl:List VB) {k:Nat} {b:VB},is.length=bl.length->bl[k]?=some b->(lits ids is bl)[k]?=some (aL ids (is.getD k 0) b)
 |[],[],k,b,_,h=>by simp at h
 |i::is,c::bl,k,b,hl,h=>by
  cases k with
  |zero=>simp only[List.getElem?_cons_zero,Option.some.injEq]at h;subst h;simp[lits]
  |succ k=>simpa[lits]using zk is bl (by simpa using hl) (by simpa using h)
 |[],_::_,_,_,h,_=>by simp at h
 |_::_,[],_,_,h,_=>by simp at h
theorem il:∀(is:List Nat) (bl:List VB) (k:Nat) (b:VB),is.length=bl.length->(lits ids is bl).set k (aL ids (is.getD k 0) b)=lits ids is (bl.set k b)
 |[],[],k,b,_=>by simp[lits]
 |i::is,c::bl,k,b,hl=>by
  cases k with
  |zero=>simp[lits]
  |succ k=>simpa[lits]using il is bl k b (by simpa using hl)
 |[],_::_,_,_,h=>by simp at h
 |_::_,[],_,_,h=>by simp at h
theorem aQ (is js:List Nat) (bl cl:List VB) (h:is.length=bl.length):lits ids (is++js) (bl++cl)=lits ids is bl++lits ids js cl:=by
 induction is generalizing bl with
 |nil=>cases bl with
  |nil=>simp[lits]
  |cons=>simp at h
 |cons i is ih=>cases bl with
  |nil=>simp at h
  |cons b bl=>simp[lits,ih bl (by simpa using h)]
theorem aR {more:List Nat}:∀(is:List Nat) (bl:List VB),dE ids.length bl=true->lits (ids++more) is bl=lits ids is bl
 |[],_,_=>by simp[lits]
 |_::_,[],_=>by simp[lits]
 |i::is,b::bl,h=>by
  simp only[dE,Bool.and_eq_true]at h;simp only[lits,aL,bY _ h.1,aR is bl h.2]
theorem cQ (hl:ids.length=bl.length) (S:St ms w0 (lits ids ids bl++R) w) {i:Nat} {b:VB} (h:bl[i]?=some b):
 (lits ids ids bl++R)[i]?=some (aL ids (ids.getD i 0) b)/\w.heap[ids.getD i 0]?=some (.cells (af ids b.c).toArray b.ty.t b.ty.fz):=by
 have h1:=zk (ids:=ids) ids bl hl h;have h2:(lits ids ids bl++R)[i]?=some (aL ids (ids.getD i 0) b):=by
  rw[List.getElem?_append_left (by rw[ik ids bl hl];rcases Nat.lt_or_ge i bl.length with h'|h';exact h';simp[h']at h)];exact h1
 exact⟨h2,S.at_ i _ h2⟩
theorem zl (hl:ids.length=bl.length) (S:St ms w0 (lits ids ids bl++R) w) {t:TypeId} {x v:V} (h:Tg P bl t x=some v):(Instr.loadAt t (den ids x)).run P w=.ok (den ids v) w:=by
 unfold Tg at h;split at h
 ·rename_i i off;split at h
  ·rename_i b hb;have bD:=(cQ hl S hb).2;unfold mC at h;simp only[Instr.loadAt,den,Instr.sureAddr,Sem.run_bind,Sem.run_pure,Result.andThen_ok];split at h
   ·rename_i n ha hn;split at h
    ·rename_i c hc;simp only[Option.some.injEq]at h;subst h;obtain⟨g1,g2,g3⟩:=jY (ids:=ids) hc;refine kA (n:=n) bD ?_ ?_ ?_ ?_
     ·unfold iG at ha;split at ha
      ·rename_i d hd;rw[hd];simpa using ha
      ·cases ha
     ·unfold jQ at hn;split at hn
      ·rename_i d hd;rw[hd];simpa using hn
      ·cases hn
     ·apply Array.ext';simp[Array.toList_extract,List.extract,g1]
     ·simpa using g2
    ·cases h
   ·rename_i ha;have:=zd (ids:=ids) h;refine jg bD ?_ (by simpa using this);unfold iG at ha;split at ha
    ·rename_i d hd;rw[hd];simpa using ha
    ·cases ha
   ·cases h
  ·cases h
 ·cases h
theorem Nl (hl:ids.length=bl.length) (S:St ms w0 (lits ids ids bl++R) w) {t:TypeId} {x v:V} {bl':List VB} (h:stV P bl t x v=some bl'):
 ∃w',(Instr.storeAt t (den ids x) (den ids v)).run P w=.ok () w'/\St ms w0 (lits ids ids bl'++R) w'/\ids.length=bl'.length:=by
 unfold stV at h;split at h
 ·rename_i i off;split at h
  ·rename_i ty c hb;split at h
   ·rename_i n hn;cases hq:Jz v&&(oL (dJ v)&&Nat.beq (eF (dJ v)) n)with
    |false=>rw[hq]at h;simp at h
    |true=>
     rw[hq]at h;simp only[cond_true]at h;simp only[Bool.and_eq_true]at hq;obtain⟨q1,q2,q3⟩:=hq;have q3:=Nat.eq_of_beq_eq_true q3;split at h
     ·rename_i c' Tc;simp only[Option.some.injEq]at h;subst h;obtain⟨s1,s2⟩:=Hs (ids:=ids) Tc;obtain⟨hi,bD⟩:=cQ hl S hb;have hlen:(af ids (dJ v)).length=n:=by rw[cP,q3]
      have a_:=kZ (P:=P) (off:=off) (v:=den ids v) (vs:=af ids (dJ v)) bD (uP q1) (by
       unfold jQ at hn;split at hn
       ·rename_i d hd;rw[hd];simp[hlen]at hn⊢;exact hn
       ·cases hn) (by simpa[hlen]using s2) (by rw[List.all_eq_true];exact ni q2)
      have ng:=S.step hi rfl (Ch.setRow w (ids.getD i 0) _) (setRow_heap w (ids.getD i 0) _ (splice (af ids c).toArray off (af ids (dJ v))) ty (0,0) bD);have Ho:splice (af ids c).toArray off (af ids (dJ v))=(af ids c').toArray:=by
       apply Array.ext';simp[splice,s1,hlen]
      have w8:i<(lits ids ids bl).length:=by rw[ik ids bl hl];rcases Nat.lt_or_ge i bl.length with h'|h';exact h';simp[h']at hb
      refine⟨w.setRow (ids.getD i 0) (splice (af ids c).toArray off (af ids (dJ v))),?_,?_,?_⟩
      ·simp only[Instr.storeAt,den,Instr.sureAddr,Sem.run_bind,Sem.run_pure,Result.andThen_ok];exact a_
      ·have BM:=il (ids:=ids) ids bl i ⟨true,ty,c'⟩ hl;rw[<-BM,<-List.set_append_left _ _ w8];rw[Ho]at ng⊢;exact ng
      ·simpa using hl
     ·cases h
   ·cases h
  ·cases h
 ·cases h
theorem BN (z:List V) (n:Nat):af ids (ln z n)=(List.replicate n (af ids z)).flatten:=by
 induction n with
 |zero=>simp[ln,af]
 |succ n ih=>simp[ln,bj,ih,List.replicate_succ]
theorem rQ (z:Array Value) (m:Nat) (hm:z.size=m+1):∀n,((Array.range (n*(m+1))).map (λi=>z[i%z.size]!)).toList=(List.replicate n z.toList).flatten:=by
 intro n;simp only[Array.toList_map,Array.toList_range];induction n with
 |zero=>simp
 |succ n ih=>
  rw[List.replicate_succ',List.flatten_append,<-ih,Nat.succ_mul,List.range_add,List.map_append,List.map_map];congr 1;simp only[List.flatten_cons,List.flatten_nil,List.append_nil];apply List.ext_getElem?;intro i;rw[List.getElem?_map];by_cases hi:i<m+1
  ·rw[List.getElem?_range hi];simp only[Option.map_some,Function.comp];rw[hm,show(n*(m+1)+i)%(m+1)=i by rw[Nat.mul_comm,Nat.mul_add_mod,Nat.mod_eq_of_lt hi]];simp[getElem!_pos,hm,hi]
  ·rw[List.getElem?_eq_none (by simpa using hi),List.getElem?_eq_none (by simp[hm];omega)];rfl
end
end Vx
