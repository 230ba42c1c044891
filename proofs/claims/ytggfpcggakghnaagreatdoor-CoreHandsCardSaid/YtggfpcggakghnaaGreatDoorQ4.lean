/- Part 4 of the proof. -/
import Derived.Test.YtggfpcggakghnaaGreatDoorQ3
set_option linter.all false
set_option maxRecDepth 100000
set_option maxHeartbeats 4000000
namespace Vx
open Go Sx
def cE:V:=.raw undef
def nth:List V->Nat->V
 |[],_=>cE
 |v::_,0=>v
 |_::l,n+1=>nth l n
def j9:List V->Nat->V->List V
 |[],_,_=>[]
 |_::l,0,x=>x::l
 |v::l,n+1,x=>v::j9 l n x
def put (fr:List V) (d:Option Tmp) (v:V):List V:=match d with|some t=>j9 fr t v|none=>fr
def Eo:Value->V
 |.int k n=>.int k n
 |.bool b=>.bool b
 |v=>.raw v
def zd:Value->V
 |.int k n=>.int k n
 |.bool b=>.bool b
 |.agg cs=>.agg (cs.toList.map Eo)
 |v=>.raw v
def Al (p:Sd.Pol) (ka:Nat->Option Addr) (kn kc:Nat->Nat) (o:Nat):V:=
 bif Nat.ble 5 o&&Nat.ble o 8 then .raw (.slice (ka (o-5)) (kn (o-5)) (kc (o-5)))else .int .i64 (p.i o)
def oz:List V->Nat->Option V
 |[],_=>none
 |v::l,o=>match v with
  |.dC k n f=>bif Nat.ble n o then oz l (o-n)else some (.int k (f o))
  |.arr k n f=>bif Nat.ble n o then oz l (o-n)else some (.int k (f o))
  |.j8 p ka kn kc=>bif Nat.ble 56 o then oz l (o-56)else some (Al p ka kn kc o)
  |.rest _=>none
  |.fp _ _ _=>none
  |v=>match o with|0=>some v|o+1=>oz l o
def takeN:List V->Nat->Option (List V×List V)
 |l,0=>some ([],l)
 |[],_+1=>none
 |v::l,n+1=>match v with
  |.dC k m f=>bif Nat.ble m (n+1)then(match takeN l (n+1-m)with|some (a,b)=>some (v::a,b)|none=>none)
   else some ([.dC k (n+1) f],.dC k (m-(n+1)) (λj=>f (n+1+j))::l)
  |.arr k m f=>bif Nat.ble m (n+1)then(match takeN l (n+1-m)with|some (a,b)=>some (v::a,b)|none=>none)
   else some ([.arr k (n+1) f],.arr k (m-(n+1)) (λj=>f (n+1+j))::l)
  |.j8 .. =>bif Nat.ble 56 (n+1)then(match takeN l (n+1-56)with|some (a,b)=>some (v::a,b)|none=>none)else none
  |.rest _=>none
  |.fp _ _ _=>none
  |_=>match takeN l n with|some (a,b)=>some (v::a,b)|none=>none
def CN (l:List V) (off n:Nat):Option (List V):=match takeN l off with
 |some (_,r)=>(match takeN r n with|some (a,_)=>some a|none=>none)
 |none=>none
def Ws (l:List V) (off n:Nat) (vs:List V):Option (List V):=match takeN l off with
 |some (a,r)=>(match takeN r n with|some (_,b)=>some (a++(vs++b))|none=>none)
 |none=>none
def szV:V->Nat
 |.dC _ n _=>n
 |.arr _ n _=>n
 |.j8 .. =>56
 |.rest l=>l.length
 |.fp z n g=>((List.range n).flatMap g).length
 |_=>1
def eL:List V->Nat
 |[]=>0
 |v::l=>szV v+eL l
def Wt:V->Bool
 |.agg _=>false
 |.az _=>false
 |.rest l=>l.all (·.oneCell')
 |.fp z n g=>((List.range n).flatMap g).all (·.oneCell')
 |.raw v=>v.oneCell'
 |_=>true
def mY:List V->Bool
 |[]=>true
 |v::l=>Wt v&&mY l
def dX:V->List V
 |.agg l=>l
 |v=>[v]
def LR:V->Bool
 |.dC .. =>false
 |.arr .. =>false
 |.j8 .. =>false
 |.rest _=>false
 |.fp _ _ _=>false
 |.raw v=>v.oneCell'
 |_=>true
section
variable{ids:List Nat}
theorem qy (l:List Value):ab ids (l.map Eo)=l:=by
 induction l with
 |nil=>simp[ab]
 |cons v l ih=>cases v<;>simp[ab,cl,Eo,den,ih]
theorem LS (v:Value):den ids (zd v)=v:=by
 cases v<;>simp[zd,den,qy]
theorem lI (fr:List V) (t:Nat):den ids (nth fr t)=(ao ids fr).toArray.getD t undef:=by
 induction fr generalizing t with
 |nil=>simp[nth,ao,cE,den]
 |cons v l ih=>
  cases t with
  |zero=>simp[nth,ao]
  |succ t=>rw[nth,ih];simp[ao,Array.getD]
theorem Ph (fr:List V) (t:Nat) (x:V):(ao ids (j9 fr t x)).toArray=(ao ids fr).toArray.setIfInBounds t (den ids x):=by
 apply Array.ext';simp only[Array.toList_setIfInBounds];induction fr generalizing t with
 |nil=>simp[j9,ao]
 |cons v l ih=>cases t<;>simp[j9,ao,ih]
theorem Wu (p:Sd.Pol) (ka:Nat->Option Addr) (kn kc:Nat->Nat) {o:Nat} (h:o<56):(uE p ka kn kc)[o]?=some (den ids (Al p ka kn kc o)):=by
 unfold uE Al;rw[List.getElem?_map,List.getElem?_range h];simp only[Option.map_some];cases Nat.ble 5 o&&Nat.ble o 8<;>simp[den]
theorem mZ (p:Sd.Pol) (ka:Nat->Option Addr) (kn kc:Nat->Nat):(uE p ka kn kc).length=56:=by simp[uE]
theorem Am {l:List V} {o:Nat} {v:V} (h:oz l o=some v):(ab ids l)[o]?=some (den ids v):=by
 induction l generalizing o with
 |nil=>simp[oz]at h
 |cons a l ih=>
  cases a
  case dC k n f=>
   simp only[oz]at h;simp only[ab,cl];cases hb:Nat.ble n o with
   |true=>
    rw[hb]at h;have:=Nat.le_of_ble_eq_true hb;rw[List.getElem?_append_right (by simpa using this)];simpa using ih h
   |false=>
    rw[hb]at h;have:o<n:=Nat.lt_of_not_le λe=>by rw[Nat.ble_eq_true_of_le e]at hb;cases hb
    rw[List.getElem?_append_left (by simpa using this)];simp only[cond_false,Option.some.injEq]at h;subst h;simp[List.getElem?_range this,den]
  case arr k n f=>
   simp only[oz]at h;simp only[ab,cl];cases hb:Nat.ble n o with
   |true=>
    rw[hb]at h;have:=Nat.le_of_ble_eq_true hb;rw[List.getElem?_append_right (by simpa using this)];simpa using ih h
   |false=>
    rw[hb]at h;have:o<n:=Nat.lt_of_not_le λe=>by rw[Nat.ble_eq_true_of_le e]at hb;cases hb
    rw[List.getElem?_append_left (by simpa using this)];simp only[cond_false,Option.some.injEq]at h;subst h;simp[List.getElem?_range this,den]
  case j8 p ka kn kc=>
   simp only[oz]at h;simp only[ab,cl];cases hb:Nat.ble 56 o with
   |true=>
    rw[hb]at h;have:=Nat.le_of_ble_eq_true hb;rw[List.getElem?_append_right (by rw[mZ];exact this),mZ];simpa using ih h
   |false=>
    rw[hb]at h;have:o<56:=Nat.lt_of_not_le λe=>by rw[Nat.ble_eq_true_of_le e]at hb;cases hb
    rw[List.getElem?_append_left (by rw[mZ];exact this)];simp only[cond_false,Option.some.injEq]at h;subst h;exact Wu _ _ _ _ this
  case rest=>simp[oz]at h
  case fp=>simp[oz]at h
  all_goals
   cases o with
   |zero=>simp only[oz,Option.some.injEq]at h;subst h;simp[ab,cl]
   |succ o=>simp only[oz]at h;simpa[ab,cl]using ih h
theorem zf (k:IntKind) {m n:Nat} (f:Nat->Int) (h:n<=m):((List.range m).map λj=>Value.int k (f j))=((List.range n).map λj=>Value.int k (f j))++((List.range (m-n)).map λj=>Value.int k (f (n+j))):=by
 obtain⟨d,rfl⟩:=Nat.exists_eq_add_of_le h;rw[List.range_add,List.map_append,List.map_map,Nat.add_sub_cancel_left];rfl
theorem m9 {l a b:List V} {n:Nat} (h:takeN l n=some (a,b)):ab ids l=ab ids a++ab ids b/\(ab ids a).length=n:=by
 induction l generalizing n a b with
 |nil=>
  cases n with
  |zero=>simp only[takeN,Option.some.injEq,Prod.mk.injEq]at h;obtain⟨rfl,rfl⟩:=h;simp[ab]
  |succ n=>simp[takeN]at h
 |cons v l ih=>
  cases n with
  |zero=>simp only[takeN,Option.some.injEq,Prod.mk.injEq]at h;obtain⟨rfl,rfl⟩:=h;simp[ab]
  |succ n=>
   cases v
   case dC k m f=>
    simp only[takeN]at h;cases hb:Nat.ble m (n+1)with
    |true=>
     have hm:=Nat.le_of_ble_eq_true hb;rw[hb]at h;simp only[cond_true]at h;split at h
     ·rename_i x y hx;simp only[Option.some.injEq,Prod.mk.injEq]at h;obtain⟨rfl,rfl⟩:=h;obtain⟨i1,i2⟩:=ih hx;simp[ab,cl,i1,i2];omega
     ·cases h
    |false=>
     have hm:n+1<m:=Nat.lt_of_not_le λe=>by rw[Nat.ble_eq_true_of_le e]at hb;cases hb
     rw[hb]at h;simp only[cond_false,Option.some.injEq,Prod.mk.injEq]at h;obtain⟨rfl,rfl⟩:=h;simp only[ab,cl];rw[zf k f (n:=n+1) (by omega)];simp
   case arr k m f=>
    simp only[takeN]at h;cases hb:Nat.ble m (n+1)with
    |true=>
     have hm:=Nat.le_of_ble_eq_true hb;rw[hb]at h;simp only[cond_true]at h;split at h
     ·rename_i x y hx;simp only[Option.some.injEq,Prod.mk.injEq]at h;obtain⟨rfl,rfl⟩:=h;obtain⟨i1,i2⟩:=ih hx;simp[ab,cl,i1,i2];omega
     ·cases h
    |false=>
     have hm:n+1<m:=Nat.lt_of_not_le λe=>by rw[Nat.ble_eq_true_of_le e]at hb;cases hb
     rw[hb]at h;simp only[cond_false,Option.some.injEq,Prod.mk.injEq]at h;obtain⟨rfl,rfl⟩:=h;simp only[ab,cl];rw[zf k f (n:=n+1) (by omega)];simp
   case j8 p ka kn kc=>
    simp only[takeN]at h;cases hb:Nat.ble 56 (n+1)with
    |true=>
     have hm:=Nat.le_of_ble_eq_true hb;rw[hb]at h;simp only[cond_true]at h;split at h
     ·rename_i x y hx;simp only[Option.some.injEq,Prod.mk.injEq]at h;obtain⟨rfl,rfl⟩:=h;obtain⟨i1,i2⟩:=ih hx;simp[ab,cl,i1,i2,mZ];omega
     ·cases h
    |false=>rw[hb]at h;simp at h
   case rest=>simp[takeN]at h
   case fp=>simp[takeN]at h
   all_goals
    simp only[takeN]at h;split at h
    ·rename_i x y hx;simp only[Option.some.injEq,Prod.mk.injEq]at h;obtain⟨rfl,rfl⟩:=h;obtain⟨i1,i2⟩:=ih hx;simp[ab,cl,i1,i2]
    ·cases h
theorem km {l c:List V} {off n:Nat} (h:CN l off n=some c):((ab ids l).drop off).take n=ab ids c/\(ab ids c).length=n/\off+n<=(ab ids l).length:=by
 unfold CN at h;split at h
 ·rename_i a r ha;split at h
  ·rename_i b s hb;simp only[Option.some.injEq]at h;subst h;obtain⟨a1,a2⟩:=m9 (ids:=ids) ha;obtain⟨b1,b2⟩:=m9 (ids:=ids) hb;refine⟨?_,b2,?_⟩
   ·rw[a1,<-a2,List.drop_left,b1,<-b2,List.take_left]
   ·rw[a1,b1];simp;omega
  ·cases h
 ·cases h
theorem bo (a b:List V):ab ids (a++b)=ab ids a++ab ids b:=by
 induction a with
 |nil=>simp[ab]
 |cons v l ih=>simp[ab,ih]
theorem I5 {l c vs:List V} {off n:Nat} (h:Ws l off n vs=some c):ab ids c=(ab ids l).take off++ab ids vs++(ab ids l).drop (off+n)/\off+n<=(ab ids l).length:=by
 unfold Ws at h;split at h
 ·rename_i a r ha;split at h
  ·rename_i b s hb;simp only[Option.some.injEq]at h;subst h;obtain⟨a1,a2⟩:=m9 (ids:=ids) ha;obtain⟨b1,b2⟩:=m9 (ids:=ids) hb;refine⟨?_,?_⟩
   ·rw[bo,bo,a1,b1];have e:off+n=(ab ids a++ab ids b).length:=by simp[a2,b2]
    have e2:ab ids a++(ab ids b++ab ids s)=(ab ids a++ab ids b)++ab ids s:=by simp
    rw[e,e2,List.drop_left,<-e2,<-a2,List.take_left,List.append_assoc]
   ·rw[a1,b1];simp;omega
  ·cases h
 ·cases h
theorem cL (l:List V):(ab ids l).length=eL l:=by
 induction l with
 |nil=>simp[ab,eL]
 |cons v l ih=>cases v<;>simp[ab,cl,eL,szV,ih,mZ]<;>omega
theorem Pj {p:Sd.Pol} {ka:Nat->Option Addr} {kn kc:Nat->Nat} {v:Value} (h:v∈uE p ka kn kc):v.oneCell'=true:=by
 unfold uE at h;rw[List.mem_map]at h;obtain⟨o,_,rfl⟩:=h;cases Nat.ble 5 o&&Nat.ble o 8<;>rfl
theorem lJ {l:List V} (h:mY l=true):∀v∈ab ids l,v.oneCell'=true:=by
 induction l with
 |nil=>simp[ab]
 |cons a l ih=>
  simp only[mY,Bool.and_eq_true]at h;intro v hv;simp only[ab,List.mem_append]at hv;rcases hv with hv|hv
  ·unfold cl at hv;cases a
   case dC k n f=>simp at hv;obtain⟨_,_,rfl⟩:=hv;rfl
   case arr k n f=>simp at hv;obtain⟨_,_,rfl⟩:=hv;rfl
   case j8=>exact Pj hv
   case rest l'=>exact(List.all_eq_true.1 (by simpa[Wt]using h.1)) v hv
   case fp z n g=>
    have h1:((List.range n).flatMap g).all (·.oneCell')=true:=h.1;exact List.all_eq_true.1 h1 v hv
   all_goals (obtain rfl:v=_:=by simpa using hv);first|rfl|(simp[Wt]at h;done)|(have:=h.1;simpa[Wt,den]using this)
  ·exact ih h.2 v hv
theorem vY {v:V} (h:LR v=true):(den ids v).cells.toList=ab ids (dX v):=by
 cases v
 case agg l=>simp[den,Value.cells,dX]
 case raw v=>cases v<;>simp_all[den,Value.cells,dX,ab,cl,LR,Value.oneCell']
 case dC=>simp[LR]at h
 case arr=>simp[LR]at h
 case j8=>simp[LR]at h
 case rest=>simp[LR]at h
 case fp=>simp[LR]at h
 all_goals simp[den,Value.cells,dX,ab,cl]
end
def Pk (c:Bool) (a b:V):V:=match a,b with
 |.bool x,.bool y=>.bool (cond c x y)
 |.int k x,.int k' y=>(match decEq k k' with|isTrue _=>.int k (cond c x y)|isFalse _=>(match c with|true=>a|false=>b))
 |a,b=>match c with|true=>a|false=>b
def j_ (P:Program) (t:TypeId):Option Nat:=match P.info? t with|some i=>some i.size|none=>none
def Pm (k:IntKind):List V->Bool
 |[]=>true
 |.int k' (.ofNat 0)::l=>(match decEq k' k with|isTrue _=>Pm k l|isFalse _=>false)
 |_=>false
def acf (z:List V):List V:=match z with
 |.int k (.ofNat 0)::l=>bif Nat.ble 63 l.length&&Pm k l then[.arr k (l.length+1) λ_=>0]else z
 |_=>z
theorem CO {k:IntKind} (ids:List Nat):∀{l:List V},Pm k l=true->ab ids l=(List.range l.length).map λ_=>Value.int k 0
 |[],_=>rfl
 |v::l,h=>by
  unfold Pm at h;split at h
  ·rename_i heq;cases heq
  ·rename_i k' l' heq;obtain⟨rfl,rfl⟩:=List.cons.inj heq;split at h
   ·rename_i hk _;subst hk;rw[List.length_cons,List.range_succ_eq_map,List.map_cons,List.map_map];simp only[ab,cl,den,CO ids h];rfl
   ·cases h
  ·cases h
theorem vZ (ids:List Nat) (z:List V):ab ids (acf z)=ab ids z:=by
 unfold acf;split
 ·rename_i k l;cases hq:Nat.ble 63 l.length&&Pm k l with
  |false=>rfl
  |true=>
   simp only[Bool.and_eq_true]at hq;simp only[cond_true,ab,cl,den,CO ids hq.2,List.append_nil];rw[List.range_succ_eq_map,List.map_cons,List.map_map];rfl
 ·rfl
def jo (P:Program) (t:TypeId):Option (List V):=match P.info? t with
 |some i=>(match i.zero with|some v=>some (acf (dX (zd v)))|none=>none)
 |none=>none
def jh (P:Program) (t:TypeId):Option Bool:=match P.underlying t with|some d=>some (jt d)|none=>none
def Pn (op:BinOp) (x y:V):Option V:=match x,y with
 |.int k a,.int k' b=>(match op with
  |.shl=>(match b with|.ofNat n=>some (.int k (k.wrap (a*2^(min n k.bits))))|_=>none)
  |.shr=>(match b with|.ofNat n=>some (.int k (a.fdiv (2^(min n k.bits))))|_=>none)
  |op=>(match decEq k k' with
   |isFalse _=>none
   |isTrue _=>(match op with
    |.add=>some (.int k (k.wrap (a+b)))
    |.sub=>some (.int k (k.wrap (a-b)))
    |.mul=>some (.int k (k.wrap (a*b)))
    |.and=>some (.int k (bits .and k a b))
    |.or=>some (.int k (bits .or k a b))
    |.xor=>some (.int k (bits .xor k a b))
    |.rem=>(match b with|.ofNat (n+1)=>some (.int k (Int.tmod a (.ofNat (n+1))))|_=>none)
    |.quo=>(match b with|.ofNat (n+1)=>some (.int k (k.wrap (Int.tdiv a (.ofNat (n+1)))))|_=>none)
    |.eql=>some (.bool (a==b))
    |.neq=>some (.bool (a !=b))
    |.lss=>some (.bool (decide (a<b)))
    |.leq=>some (.bool (decide (a<=b)))
    |.gtr=>some (.bool (decide (a>b)))
    |.geq=>some (.bool (decide (a>=b)))
    |_=>none)))
 |_,_=>none
def acg (op:UnOp) (x:V):Option V:=match op,x with
 |.not,.bool b=>some (.bool (!b))
 |.neg,.int k n=>some (.int k (k.wrap (0-n)))
 |.xor,.int k n=>some (.int k (bits .xor k (bif k.signed then-1 else k.max) n))
 |_,_=>none
section
variable{ids:List Nat} {P:Program} {w:World}
theorem Po (c:Bool) (a b:V):den ids (Pk c a b)=if c then den ids a else den ids b:=by
 unfold Pk;split
 ·cases c<;>simp[den]
 ·split
  ·rename_i hk _;cases c<;>simp[den,hk]
  ·cases c<;>rfl
 ·cases c<;>rfl
theorem uF (op:BinOp) (t:TypeId) (x y:Operand) (k k':IntKind) (a b:Int):(eqGuard op t x y (.int k a) (.int k' b)).run P w=.ok () w:=by
 unfold eqGuard;cases op<;>rfl
theorem Pp {op:BinOp} {x y v:V} (h:Pn op x y=some v) (t:TypeId) (xo yo:Operand):
 ((do eqGuard op t xo yo (den ids x) (den ids y);binOp op t (den ids x) (den ids y)):Sem Value).run P w=.ok (den ids v) w:=by
 unfold Pn at h;split at h
 ·rename_i k a k' b;simp only[den,Sem.run_bind,uF,Result.andThen_ok];split at h
  ·split at h
   ·rename_i n;simp only[Option.some.injEq]at h;subst h;have h0:¬(Int.ofNat n<0):=by have:=Int.natCast_nonneg n;simp only[Int.ofNat_eq_natCast];omega
    simp only[binOp,Op.shift,den,if_neg h0];rfl
   ·cases h
  ·split at h
   ·rename_i n;simp only[Option.some.injEq]at h;subst h;have h0:¬(Int.ofNat n<0):=by have:=Int.natCast_nonneg n;simp only[Int.ofNat_eq_natCast];omega
    simp only[binOp,Op.shift,den,if_neg h0];rfl
   ·cases h
  ·rename_i akz akA;split at h
   ·cases h
   ·rename_i hk _;subst hk;cases op<;>simp only[Option.some.injEq]at h<;>first
     |(subst h;simp[binOp,Op.intArith,Op.intCmp,Op.intBits,Op.intDiv,den,bits];done)
     |(subst h;simp[binOp,Op.intArith,Op.intCmp,Op.intBits,Op.intDiv,den,bits];rfl)
     |(split at h<;>first
       |(simp only[Option.some.injEq]at h
         subst h;rename_i n;have h1:¬((Int.ofNat (n+1))=0):=by simp only[Int.ofNat_eq_natCast];omega
         simp only[binOp,Op.intDiv,den,if_neg h1,ne_eq,not_true_eq_false,if_false,ite_false];rfl)
       |cases h)
     |cases h
     |(exact absurd rfl akz)
     |(exact absurd rfl akA)
 ·cases h
theorem Wv {op:UnOp} {x v:V} (h:acg op x=some v):(Op.unary op (den ids x)).run P w=.ok (den ids v) w:=by
 unfold acg at h;split at h
 ·simp only[Option.some.injEq]at h;subst h;simp[Op.unary,den]
 ·simp only[Option.some.injEq]at h;subst h;simp[Op.unary,Op.intArith,den]
 ·simp only[Option.some.injEq]at h;subst h;rename_i k n;cases hk:k.signed<;>simp[Op.unary,Op.intBits,bits,den,hk]
 ·cases h
end
def ug (pl:Nat->Option (Nat×Nat)):List V->List (Nat×V)->Option (List V)
 |c,[]=>some c
 |c,(i,v)::l=>match pl i with
  |some (off,n)=>bif LR v&&Nat.beq (eL (dX v)) n then(match Ws c off n (dX v)with|some c'=>ug pl c' l|none=>none)else none
  |none=>none
def placesOf (P:Program) (fs:Array Field) (i:Nat):Option (Nat×Nat):=match fs[i]?with
 |some f=>(match j_ P f.type with|some n=>some (f.offset,n)|none=>none)
 |none=>none
def m_ (P:Program) (t:TypeId) (l:List V) (off:Nat):Option V:=match jh P t,j_ P t with
 |some true,some n=>(match CN l off n with|some c=>some (.agg c)|none=>none)
 |some false,_=>oz l off
 |_,_=>none
def An (e:Operand->V) (ps:Array (Nat×Operand)):List (Nat×V):=ps.toList.map λp=>(p.1,e p.2)
def Pq (P:Program) (fs:Array Field):Bool:=fs.toList.all λf=>match j_ P f.type with|some _=>true|none=>false
section
variable{ids:List Nat} {P:Program} {w:World}
theorem LU (off:Nat):∀(vs:List Value) (cs:Array Value) (k:Nat),off+k+vs.length<=cs.size->
 ((vs.zipIdx k).foldl (λ(cs:Array Value) (x:Value×Nat)=>cs.setIfInBounds (off+x.2) x.1) cs).toList=cs.toList.take (off+k)++vs++cs.toList.drop (off+k+vs.length):=by
 intro vs;induction vs with
 |nil=>intro cs k h;simp
 |cons v l ih=>
  intro cs k h;simp only[List.length_cons]at h;simp only[List.zipIdx_cons,List.foldl_cons];rw[ih _ _ (by simp;omega)];simp only[Array.toList_setIfInBounds];have h1:off+k<cs.toList.length:=by simp;omega
  rw[show off+(k+1)=off+k+1 by omega];rw[List.take_set,List.drop_set,if_pos (by omega),List.take_succ_eq_append_getElem h1,List.set_append_right _ _ (by simp;omega)];simp only[List.length_take,List.length_cons];rw[show off+k-min (off+k) cs.toList.length=0 by omega];simp only[List.set_cons_zero,List.append_assoc,List.cons_append,List.nil_append];rw[show off+k+1+l.length=off+k+(l.length+1) by omega]
theorem Ao {pl:Nat->Option (Nat×Nat)} {place:Nat->Option (Nat×Nat)} (hp:∀i x,pl i=some x->place i=some x):∀(l:List (Nat×V)) (c c':List V),ug pl c l=some c'->
 Instr.fill place (ab ids c).toArray (l.map λp=>(p.1,den ids p.2))=some (ab ids c').toArray:=by
 intro l;induction l with
 |nil=>intro c c' h;simp only[ug,Option.some.injEq]at h;subst h;simp[Instr.fill]
 |cons a l ih=>
  intro c c' h;obtain⟨i,v⟩:=a;simp only[ug]at h;split at h
  ·rename_i off n hpl;cases hb:LR v&&Nat.beq (eL (dX v)) n with
   |false=>rw[hb]at h;simp at h
   |true=>
    rw[hb]at h;simp only[cond_true]at h;simp only[Bool.and_eq_true]at hb;have iM:eL (dX v)=n:=Nat.eq_of_beq_eq_true hb.2;split at h
    ·rename_i c1 hc1;obtain⟨s1,s2⟩:=I5 (ids:=ids) hc1;have Pr:=vY (ids:=ids) hb.1;have hlen:(den ids v).cells.size=n:=by rw[<-Array.length_toList,Pr,cL,iM]
     simp only[List.map_cons,Instr.fill,hp i _ hpl];have ab8:((decide ((den ids v).cells.size≠n))||decide (off+(den ids v).cells.size>(ab ids c).toArray.size))=false:=by
      simp[hlen];omega
     rw[if_neg (by simp only[ne_eq,Bool.or_eq_true,decide_eq_true_eq];simp[hlen];omega)];have key:(den ids v).cells.zipIdx.foldl (λ(cs:Array Value) (x:Value×Nat)=>cs.setIfInBounds (off+x.2) x.1) (ab ids c).toArray=(ab ids c1).toArray:=by
      apply Array.ext';rw[<-Array.foldl_toList,Array.toList_zipIdx,LU off _ _ 0 (by simp[hlen];omega)];rw[Pr,s1];simp[cL,iM]
     rw[key];exact ih _ _ h
    ·cases h
  ·cases h
theorem qz {t:TypeId} {i:TypeInfo} (h:P.info? t=some i):(typeInfo t).run P w=.ok i w:=by simp[typeInfo,h]
theorem bu {t:TypeId} {n:Nat} (h:j_ P t=some n):(Go.sizeOf t).run P w=.ok n w:=by
 unfold j_ at h;split at h
 ·rename_i i hi;simp only[Option.some.injEq]at h;simp[Go.sizeOf,Sem.run_bind,qz hi,h]
 ·cases h
theorem jM {t:TypeId} {z:List V} (h:jo P t=some z):∃v,(zeroValue t).run P w=.ok v w/\v.cells.toList=ab ids z:=by
 unfold jo at h;split at h
 ·rename_i i hi;split at h
  ·rename_i v hv;simp only[Option.some.injEq]at h;subst h;refine⟨v,by simp[zeroValue,Sem.run_bind,qz hi,hv],?_⟩;rw[vZ];cases v<;>simp[Value.cells,zd,dX,ab,cl,den,qy]
  ·cases h
 ·cases h
theorem CP {t:TypeId} {b:Bool} (h:jh P t=some b):(isAgg t).run P w=.ok b w:=by
 unfold jh at h;split at h
 ·rename_i d hd;simp only[Option.some.injEq]at h;exact iq (by rw[hd];simp[h]) w
 ·cases h
theorem Ap {t:TypeId} {l:List V} {off:Nat} {v:V} (h:m_ P t l off=some v):(part t (ab ids l).toArray off).run P w=.ok (den ids v) w:=by
 unfold m_ at h;split at h
 ·rename_i n ha hn;split at h
  ·rename_i c hc;simp only[Option.some.injEq]at h;subst h;obtain⟨g1,g2,g3⟩:=km (ids:=ids) hc;simp only[part,Sem.run_bind,CP ha,Result.andThen_ok,if_pos,bu hn,Sem.run_pure];simp only[den];congr 2;apply Array.ext';simp[Array.toList_extract,List.extract,g1]
  ·cases h
 ·rename_i ha;have:=Am (ids:=ids) h;simp only[part,Sem.run_bind,CP ha,Result.andThen_ok,Bool.false_eq_true,if_false];simp[this]
 ·cases h
theorem CQ {fs:List Field} (h:∀f∈fs,∃n,j_ P f.type=some n):(fs.mapM λ(f:Field)=>(do pure (f.offset,<-Go.sizeOf f.type):Sem (Nat×Nat))).run P w=.ok (fs.map λf=>(f.offset,(j_ P f.type).getD 0)) w:=by
 induction fs with
 |nil=>rfl
 |cons f l ih=>
  obtain⟨n,hn⟩:=h f (by simp);have:=ih (λf hf=>h f (by simp[hf]));simp only[List.mapM_cons,Sem.run_bind,bu hn,Result.andThen_ok,Sem.run_pure,this,List.map_cons,hn,Option.getD_some]
end
def LV (P:Program) (t:TypeId) (x y:V):Option Bool:=match P.underlying t,x,y with
 |some .bool,.bool a,.bool b=>some (a==b)
 |some (.pointer _),.ptr _ _,.raw (.pointer none)=>some false
 |some (.pointer _),.raw (.pointer none),.ptr _ _=>some false
 |some (.pointer _),.raw (.pointer none),.raw (.pointer none)=>some true
 |some (.pointer _),.raw (.pointer (some _)),.raw (.pointer none)=>some false
 |some (.slice _),.sl _ _ _ _,.raw (.slice none _ _)=>some false
 |some (.slice _),.raw (.slice (some _) _ _),.raw (.slice none _ _)=>some false
 |some (.slice _),.raw (.slice none _ _),.raw (.slice none _ _)=>some true
 |_,.agg a,.agg b=>bif(cH 0 a&&cH 0 b)&&!(P.eqGuardType P.depth t)then Ic P 10000 t (.agg (ab [] a).toArray) (.agg (ab [] b).toArray)else none
 |_,_,_=>none
def v3 (P:Program) (op:BinOp) (t:TypeId) (x y:V):Option V:=match Pn op x y with
 |some v=>some v
 |none=>match op with
  |.eql=>(match LV P t x y with|some r=>some (.bool r)|none=>none)
  |.neq=>(match LV P t x y with|some r=>some (.bool (!r))|none=>none)
  |_=>none
def I6 (v:V):Option V:=match v with
 |.ptr i o=>some (.ptr i o)
 |.fn f a b=>some (.fn f a b)
 |.pe i o j z k=>some (.pe i o j z k)
 |.raw (.pointer (some a))=>some (.raw (.pointer (some a)))
 |_=>none
def ach (P:Program) (t:TypeId) (x ix:V):Option V:=match P.underlying t,x,ix with
 |some (.array n el),.ptr i off,.int _ (.ofNat j)=>bif Nat.blt j n then(match j_ P el with|some z=>some (.ptr i (off+j*z))|none=>none)else none
 |some (.slice el),.sl i off n _,.int _ (.ofNat j)=>bif Nat.blt j n then(match j_ P el with|some z=>some (.ptr i (off+j*z))|none=>none)else none
 |_,_,_=>none
def aci (P:Program) (s:TypeId) (x:V) (f:Nat):Option V:=match P.underlying s,x with
 |some (.struct fs),.ptr i off=>(match fs[f]?with
  |some fd=>(match j_ P fd.type with|some (_+1)=>some (.ptr i (off+fd.offset))|_=>none)
  |none=>none)
 |some (.struct fs),.pe i o j z k=>(match fs[f]?with
  |some fd=>(match j_ P fd.type with|some (_+1)=>some (.pe i o j z (k+fd.offset))|_=>none)
  |none=>none)
 |_,_=>none
def FR (P:Program) (t:TypeId) (ps:List (Nat×V)):Option V:=match P.underlying t,jo P t with
 |some (.struct fs),some z=>bif Pq P fs then(match ug (placesOf P fs) z ps with|some c=>some (.agg c)|none=>none)else none
 |some (.array _ el),some z=>(match j_ P el with|some n=>(match ug (λi=>some (i*n,n)) z ps with|some c=>some (.agg c)|none=>none)|none=>none)
 |_,_=>none
def acj (P:Program) (t:TypeId) (x:V):Option V:=match P.underlying t,x with
 |some (.slice _),.sl _ _ n _=>some (.int .i64 (n:Int))
 |some (.slice _),.oN _ _ n _ _=>some (.int .i64 (n:Int))
 |some (.slice _),.raw (.slice _ n _)=>some (.int .i64 (n:Int))
 |some (.array n _),_=>some (.int .i64 (n:Int))
 |_,_=>none
def Aq (x:V) (y:Nat):Option Nat:=match x with
 |.int _ (.ofNat i)=>bif Nat.ble i y then some i else none
 |_=>none
def sT (e:Operand->V) (o:Option Operand) (y d:Nat):Option Nat:=match o with
 |some x=>Aq (e x) y
 |none=>some d
def slV (P:Program) (e:Operand->V) (t:TypeId) (x:V) (lo hi:Option Operand):Option V:=match P.underlying t,x with
 |some (.slice el),.sl i off n c=>(match sT e hi c n,j_ P el with
  |some h,some z=>(match sT e lo h 0 with
   |some l=>some (.sl i (bif Nat.beq c l then off else off+l*z) (h-l) (c-l))
   |none=>none)
  |_,_=>none)
 |some (.pointer arr),.ptr i off=>(match P.underlying arr with
  |some (.array n el)=>(match sT e hi n n,j_ P el with
   |some h,some z=>(match sT e lo h 0 with
    |some l=>some (.sl i (bif Nat.beq n l then off else off+l*z) (h-l) (n-l))
    |none=>none)
   |_,_=>none)
  |_=>none)
 |some (.array n el),.ptr i off=>(match sT e hi n n,j_ P el with
  |some h,some z=>(match sT e lo h 0 with
   |some l=>some (.sl i (bif Nat.beq n l then off else off+l*z) (h-l) (n-l))
   |none=>none)
  |_,_=>none)
 |_,_=>none
def ack (P:Program) (e:Operand->V) (t:TypeId) (x:V) (lo:Option Operand) (hi mx:Operand):Option V:=match P.underlying t,x with
 |some (.pointer arr),.ptr i off=>(match P.underlying arr with
  |some (.array n el)=>(match Aq (e mx) n,j_ P el with
   |some m,some z=>(match Aq (e hi) m with
    |some h=>(match sT e lo h 0 with
     |some l=>some (.sl i (bif Nat.beq m l then off else off+l*z) (h-l) (m-l))
     |none=>none)
    |none=>none)
   |_,_=>none)
  |_=>none)
 |some (.array n el),.ptr i off=>(match Aq (e mx) n,j_ P el with
  |some m,some z=>(match Aq (e hi) m with
   |some h=>(match sT e lo h 0 with
    |some l=>some (.sl i (bif Nat.beq m l then off else off+l*z) (h-l) (m-l))
    |none=>none)
   |none=>none)
  |_,_=>none)
 |_,_=>none
def agy (x y:V):Option V:=match x,y with
 |.int k a,.int _ b=>some (.int k (if b<a then b else a))
 |_,_=>none
def agz (x y:V):Option V:=match x,y with
 |.int k a,.int _ b=>some (.int k (if b>a then b else a))
 |_,_=>none
def acm (P:Program) (arr:TypeId) (x:V):Option V:=match P.underlying arr,x with
 |some (.array n _),.sl i off len c=>bif Nat.ble n len then some (.ptr i off)else none
 |_,_=>none
def Ww:BinOp->Operand->Bool
 |.rem,.const (.int .i64 (.ofNat 3))=>true
 |_,_=>false
def evQ (P:Program) (e:Operand->V):Op->Option V
 |.move x=>some (e x)
 |.assign x=>some (e x)
 |.pick c a b=>(match e c with|.bool c=>some (Pk c (e a) (e b))|_=>none)
 |.nilCheck x=>I6 (e x)
 |.binOp op t x y _=>bif Ww op y then none else v3 P op t (e x) (e y)
 |.unOp op _ x=>acg op (e x)
 |.convert s d x=>(match P.underlying s,P.underlying d,e x with|some _,some (.int k),.int _ n=>some (.int k (k.wrap n))|_,_,_=>none)
 |.makeFunc (.func f) a b=>some (.fn f (a.toList.map e) (b.toList.map e))
 |.makeInterface t x=>(match P.underlying t with|some (.interface _)=>none|some _=>some (.CM t (e x))|none=>none)
 |.build t ps=>FR P t (An e ps)
 |.fieldAddr s x f=>aci P s (e x) f
 |.field s x f=>(match P.underlying s,e x with
  |some (.struct fs),.agg l=>(match fs[f]?with|some fd=>m_ P fd.type l fd.offset|none=>none)
  |_,_=>none)
 |.indexAddr t x ix=>ach P t (e x) (e ix)
 |.index t x ix=>(match P.underlying t,e x,e ix with
  |some (.array n el),.agg l,.int _ (.ofNat j)=>bif Nat.blt j n then(match j_ P el with|some z=>m_ P el l (j*z)|none=>none)else none
  |some .string,.raw (.string s),.int _ (.ofNat j)=>(match s[j]?with|some b=>some (.int .u8 b.toNat)|none=>none)
  |_,_,_=>none)
 |.extract x i=>(match e x with|.az l=>(match l[i]?with|some v=>some v|none=>none)|_=>none)
 |.call c=>(match c.callee,c.args.toList,c.argTypes.toList with
  |.builtin .len,[x],t::_=>acj P t (e x)
  |.builtin .min,[x,y],_=>agy (e x) (e y)
  |.builtin .max,[x,y],_=>agz (e x) (e y)
  |_,_,_=>none)
 |.slice t x lo hi none=>slV P e t (e x) lo hi
 |.slice t x lo (some hi) (some mx)=>ack P e t (e x) lo hi mx
 |.sliceToArrayPointer arr x=>acm P arr (e x)
 |_=>none
section
variable{ids:List Nat} {P:Program} {w:World} {e:Operand->V} {ρ:Operand->Value}
theorem I7 {t:TypeId} {x y:V} {r:Bool} (h:LV P t x y=some r) (xo yo:Operand) (op:BinOp) (uh:op=.eql\/op=.neq):
 (eqGuard op t xo yo (den ids x) (den ids y)).run P w=.ok () w/\(Op.equal t (den ids x) (den ids y)).run P w=.ok r w:=by
 have g0:∀(a b:Value),(∀x,a≠.agg x)->(a≠.nilIface)->(eqGuard op t xo yo a b).run P w=.ok () w:=by
  intro a b h1 h2;unfold eqGuard;rcases uh with rfl|rfl<;>(cases a<;>first|rfl|(exact absurd rfl h2)|(exact absurd rfl (h1 _)))
 unfold LV at h;split at h
 case h_9=>
  rename_i a b;cases hb:(cH 0 a&&cH 0 b)&&!(P.eqGuardType P.depth t)with
  |false=>rw[hb]at h;simp at h
  |true=>
   rw[hb]at h;simp only[cond_true]at h;simp only[Bool.and_eq_true,Bool.not_eq_true']at hb;have ha:ab ids a=ab [] a:=by have:=bU (ids:=[]) (more:=ids) a hb.1.1;simpa using this
   have Wh:ab ids b=ab [] b:=by have:=bU (ids:=[]) (more:=ids) b hb.1.2;simpa using this
   refine⟨?_,?_⟩
   ·simp only[den];unfold eqGuard;rcases uh with rfl|rfl<;>simp[hb.2]
   ·have:=uY 10000 t _ _ r h w;simp only[den,ha,Wh];exact this
 all_goals first
  |(rename_i hu
    simp only[Option.some.injEq]at h;subst h;refine⟨g0 _ _ (by intro x;simp[den]) (by simp[den]),?_⟩;simp only[den];unfold Op.equal Op.maxDepth Op.equalIn;simp[Sem.run_bind,run_underlying hu]
    done)
  |cases h
theorem v5 {t:TypeId} {x y:V} {r:Bool} (h:LV P t x y=some r):(∃b,den ids x=.bool b)\/(∃b,den ids x=.pointer b/\∃c,den ids y=.pointer c)\/(∃b n c,den ids x=.slice b n c)\/(∃b,den ids x=.agg b):=by
 unfold LV at h;split at h<;>first|(exact .inl ⟨_,by simp only[den];rfl⟩)|(exact .inr (.inl ⟨_,by simp only[den];rfl,_,by simp only[den];rfl⟩))|(exact .inr (.inr (.inl ⟨_,_,_,by simp only[den];rfl⟩)))|(exact .inr (.inr (.inr ⟨_,by simp only[den];rfl⟩)))|cases h
theorem sU {op:BinOp} {t:TypeId} {x y v:V} (h:v3 P op t x y=some v) (xo yo:Operand):
 ((do eqGuard op t xo yo (den ids x) (den ids y);binOp op t (den ids x) (den ids y)):Sem Value).run P w=.ok (den ids v) w:=by
 unfold v3 at h;split at h
 ·rename_i v' hv;simp only[Option.some.injEq]at h;subst h;exact Pp hv t xo yo
 ·split at h
  ·split at h
   ·rename_i r hr;simp only[Option.some.injEq]at h;subst h;obtain⟨h1,h2⟩:=I7 (ids:=ids) (w:=w) hr xo yo .eql (.inl rfl);simp only[Sem.run_bind,h1,Result.andThen_ok];have h3:binOp .eql t (den ids x) (den ids y)=(do pure (.bool (<-Op.equal t (den ids x) (den ids y)))):=by
     rcases v5 (ids:=ids) hr with⟨b,hb⟩|⟨b,hb,c,hc⟩|⟨b,n,c,hb⟩|⟨b,hb⟩
     ·rw[hb];rfl
     ·rw[hb,hc];rfl
     ·rw[hb];rfl
     ·rw[hb];rfl
    rw[h3];simp[Sem.run_bind,h2,den]
   ·cases h
  ·split at h
   ·rename_i r hr;simp only[Option.some.injEq]at h;subst h;obtain⟨h1,h2⟩:=I7 (ids:=ids) (w:=w) hr xo yo .neq (.inr rfl);simp only[Sem.run_bind,h1,Result.andThen_ok];have h3:binOp .neq t (den ids x) (den ids y)=(do pure (.bool (!(<-Op.equal t (den ids x) (den ids y))))):=by
     rcases v5 (ids:=ids) hr with⟨b,hb⟩|⟨b,hb,c,hc⟩|⟨b,n,c,hb⟩|⟨b,hb⟩
     ·rw[hb];rfl
     ·rw[hb,hc];rfl
     ·rw[hb];rfl
     ·rw[hb];rfl
    rw[h3];simp[Sem.run_bind,h2,den]
   ·cases h
  ·cases h
theorem Ps {x v:V} (h:I6 x=some v):v=x/\(∀(f:Value->Sem Next) (g:Sem Next),(match den ids x with
 |.pointer none|.nilIface|.nilFunc=>g
 |x=>f x)=f (den ids x)):=by
 unfold I6 at h;split at h<;>first|(simp only[Option.some.injEq]at h;subst h;exact⟨rfl,λf g=>by simp[den]⟩)|cases h
theorem fO (b off k:Nat):(⟨b,off,none⟩:Addr).add k=⟨b,off+k,none⟩:=by unfold Addr.add;split<;>simp_all
theorem Wx {t:TypeId} {x ix v:V} (h:ach P t x ix=some v):(Instr.indexAt t (den ids x) (den ids ix)).run P w=.ok (den ids v) w:=by
 unfold ach at h;split at h
 ·rename_i n el i off k j hu;cases hb:Nat.blt j n with
  |false=>rw[hb]at h;simp at h
  |true=>
   rw[hb]at h;simp only[cond_true]at h;have hj:j<n:=by rw[Nat.blt_eq]at hb;exact hb
   split at h
   ·rename_i z hz;simp only[Option.some.injEq]at h;subst h;have h1:(0:Int)<=Int.ofNat j/\Int.ofNat j<(n:Int):=by simp only[Int.ofNat_eq_natCast];omega
    simp only[Instr.indexAt,den,asIntOf,Instr.sureAddr,Sem.run_bind,Sem.run_pure,Result.andThen_ok,run_underlying hu];rw[if_pos h1];simp[Sem.run_bind,bu hz,fO]
   ·cases h
 ·rename_i el i off n c k j hu;cases hb:Nat.blt j n with
  |false=>rw[hb]at h;simp at h
  |true=>
   rw[hb]at h;simp only[cond_true]at h;have hj:j<n:=by rw[Nat.blt_eq]at hb;exact hb
   split at h
   ·rename_i z hz;simp only[Option.some.injEq]at h;subst h;have h1:(0:Int)<=Int.ofNat j/\Int.ofNat j<(n:Int):=by simp only[Int.ofNat_eq_natCast];omega
    simp only[Instr.indexAt,den,asIntOf,Sem.run_bind,Sem.run_pure,Result.andThen_ok,run_underlying hu];rw[if_pos h1];simp[Sem.run_bind,bu hz,fO]
   ·cases h
 ·cases h
theorem Wy {s:TypeId} {x v:V} {f:Nat} (h:aci P s x f=some v):(Instr.fieldAt s (den ids x) f).run P w=.ok (den ids v) w:=by
 unfold aci at h;split at h
 ·rename_i fs i off hu;split at h
  ·rename_i fd hfd;split at h
   ·rename_i n hn;simp only[Option.some.injEq]at h;subst h;simp[Instr.fieldAt,Instr.sureAddr,den,Sem.run_bind,run_underlying hu,hfd,fieldPlace,bu hn,fO]
   ·cases h
  ·cases h
 ·rename_i fs i j z k hu;split at h
  ·rename_i fd hfd;split at h
   ·rename_i n hn;simp only[Option.some.injEq]at h;subst h;simp[Instr.fieldAt,Instr.sureAddr,den,Sem.run_bind,run_underlying hu,hfd,fieldPlace,bu hn,fO,Nat.add_assoc]
   ·cases h
  ·cases h
 ·cases h
theorem LW {t:TypeId} {ps:List (Nat×V)} {v:V} (h:FR P t ps=some v):(Instr.build t (ps.map λp=>(p.1,den ids p.2)).toArray).run P w=.ok (den ids v) w:=by
 unfold FR at h;split at h
 ·rename_i fs z hu hz;cases hk:Pq P fs with
  |false=>rw[hk]at h;simp at h
  |true=>
   rw[hk]at h;simp only[cond_true]at h;split at h
   ·rename_i c hc;simp only[Option.some.injEq]at h;subst h;obtain⟨v0,z1,z2⟩:=jM (P:=P) (w:=w) (ids:=ids) hz;have hm:=CQ (P:=P) (w:=w) (fs:=fs.toList) (λf hf=>by
     have:=(List.all_eq_true.1 hk) f hf;split at this
     ·rename_i n hn;exact⟨n,hn⟩
     ·cases this)
    have Wz:(fs.mapM λ(f:Field)=>(do pure (f.offset,<-Go.sizeOf f.type):Sem (Nat×Nat))).run P w=.ok (fs.toList.map λf=>(f.offset,(j_ P f.type).getD 0)).toArray w:=by
     have e:fs=fs.toList.toArray:=by simp
     rw[e,List.mapM_toArray];simp only[Sem.run_map,hm,Result.andThen_ok]
    have hf:=Ao (ids:=ids) (place:=λi=>((fs.toList.map λf=>(f.offset,(j_ P f.type).getD 0)).toArray)[i]?) (λi x hx=>by
     unfold placesOf at hx;split at hx
     ·rename_i f hf;split at hx
      ·rename_i n hn;simp only[Option.some.injEq]at hx;subst hx;simp[hf,hn]
      ·cases hx
     ·cases hx) ps z c hc
    have Eu:v0.cells=(ab ids z).toArray:=by apply Array.ext';simpa using z2
    simp only[Instr.build,Sem.run_bind,z1,Result.andThen_ok,run_underlying hu,Wz,Eu];simp only[den];rw[hf];rfl
   ·cases h
 ·rename_i n el z hu hz;split at h
  ·rename_i m hm;split at h
   ·rename_i c hc;simp only[Option.some.injEq]at h;subst h;obtain⟨v0,z1,z2⟩:=jM (P:=P) (w:=w) (ids:=ids) hz;have hf:=Ao (ids:=ids) (place:=λi=>some (i*m,m)) (λi x hx=>hx) ps z c hc;have Eu:v0.cells=(ab ids z).toArray:=by apply Array.ext';simpa using z2
    simp only[Instr.build,Sem.run_bind,z1,Result.andThen_ok,run_underlying hu,bu hm,Eu];simp only[den];rw[hf];rfl
   ·cases h
  ·cases h
 ·cases h
end
section
variable{ids:List Nat} {P:Program} {w:World} {e:Operand->V} {ρ:Operand->Value}
theorem WA {t:TypeId} {x v:V} (h:acj P t x=some v) (ty:TypeId) (ts:Array TypeId) (ht:ts[0]?=some t):(Builtin.len_ ts ty #[den ids x]).run P w=.ok (den ids v) w:=by
 unfold acj at h;split at h<;>first
  |(rename_i hu
    simp only[Option.some.injEq]at h;subst h;simp[Builtin.len_,ht,Sem.run_bind,run_underlying hu,den,goInt]
    done)
  |cases h
theorem zg (ps:Array (Nat×Operand)) (cx:∀x,ρ x=den ids (e x)):(ps.map λ(p:Nat×Operand)=>(p.1,ρ p.2))=((An e ps).map λp=>(p.1,den ids p.2)).toArray:=by
 apply Array.ext';simp[An,cx]
theorem Pt (l:List Operand) (cx:∀x,ρ x=den ids (e x)):ao ids (l.map e)=l.map ρ:=by
 rw[kj,List.map_map];apply List.map_congr_left;intro x _;exact(cx x).symm
theorem nN {x:V} {y i:Nat} (code:BoundsCode) (h:Aq x y=some i):(Instr.sliceBound (den ids x) y code).run P w=.ok i w/\i<=y:=by
 unfold Aq at h;split at h
 ·rename_i k j;cases hb:Nat.ble j y with
  |false=>rw[hb]at h;cases h
  |true=>
   rw[hb]at h;obtain rfl:j=i:=by simpa using h
   have hle:=Nat.le_of_ble_eq_true hb;refine⟨?_,hle⟩;have h2:(0:Int)<=Int.ofNat j/\Int.ofNat j<=(y:Int):=⟨Int.natCast_nonneg j,Int.ofNat_le.2 hle⟩;simp only[Instr.sliceBound,den,asIntOf,Sem.run_bind,Sem.run_pure,Result.andThen_ok,if_pos h2];rfl
 ·cases h
theorem v7 (cx:∀x,ρ x=den ids (e x)) {lo hi:Option Operand} {len cap h l:Nat} (b:Bool) (h1:sT e hi cap len=some h) (h2:sT e lo h 0=some l):
 (Instr.sliceBounds b len cap (lo.map ρ) (hi.map ρ) none).run P w=.ok (l,h,cap) w:=by
 unfold sT at h1 h2;cases hi with
 |none=>
  obtain rfl:len=h:=by simpa using h1
  cases lo with
  |none=>
   obtain rfl:0=l:=by simpa using h2
   simp[Instr.sliceBounds,Result.andThen]
  |some x=>
   have:=nN (P:=P) (ids:=ids) (w:=w) .sliceB h2;simp[Instr.sliceBounds,Result.andThen,cx,this.1]
 |some y=>
  have a1:=λc=>(nN (P:=P) (ids:=ids) (w:=w) c h1).1;cases lo with
  |none=>
   obtain rfl:0=l:=by simpa using h2
   simp[Instr.sliceBounds,Result.andThen,cx,a1]
  |some x=>
   have:=nN (P:=P) (ids:=ids) (w:=w) .sliceB h2;simp[Instr.sliceBounds,Result.andThen,cx,this.1,a1]
theorem acn (cx:∀x,ρ x=den ids (e x)) {t:TypeId} {x:Operand} {lo hi:Option Operand} {v:V} (h:slV P e t (e x) lo hi=some v):(Instr.sliceAt t (ρ x) (lo.map ρ) (hi.map ρ) none).run P w=.ok (den ids v) w:=by
 unfold slV at h;have fin:∀(c l off z i:Nat),(if c=l then(⟨ids.getD i 0,off,none⟩:Addr)else Addr.add ⟨ids.getD i 0,off,none⟩ (l*z))=⟨ids.getD i 0,bif Nat.beq c l then off else off+l*z,none⟩:=by
  intro c l off z i;by_cases hc:c=l
  ·subst hc;simp
  ·have:Nat.beq c l=false:=by
    cases hb:Nat.beq c l with
    |true=>exact absurd (Nat.eq_of_beq_eq_true hb) hc
    |false=>rfl
   rw[if_neg hc,this,Addr.add_lit];rfl
 split at h
 ·rename_i el i off n c hu hx;split at h
  ·rename_i hh z h1 hz;split at h
   ·rename_i l h2;obtain rfl:=Option.some.inj h;have hb:=v7 (P:=P) (w:=w) cx true h1 h2;have hs:=bu (P:=P) (w:=w) hz;have:=fin c l off z i;simp only[den,<-this];have run:(Instr.sliceAt t (ρ x) (lo.map ρ) (hi.map ρ) none).run P w=.ok (.slice (if c=l then some ⟨ids.getD i 0,off,none⟩else some (Addr.add ⟨ids.getD i 0,off,none⟩ (l*z))) (hh-l) (c-l)) w:=by
     simp[Instr.sliceAt,Instr.slice,run_underlying hu,cx,hx,den,hb,hs,Result.andThen]
    rw[run];by_cases hc:c=l
    ·rw[if_pos hc,if_pos hc]
    ·rw[if_neg hc,if_neg hc]
   ·cases h
  ·cases h
 ·rename_i arr i off hu hx;split at h
  ·rename_i n el hu2;split at h
   ·rename_i hh z h1 hz;split at h
    ·rename_i l h2;obtain rfl:=Option.some.inj h;have hb:=v7 (P:=P) (w:=w) cx false h1 h2;have hs:=bu (P:=P) (w:=w) hz;have:=fin n l off z i;simp only[den,<-this];simp[Instr.sliceAt,Instr.slice,run_underlying hu,run_underlying hu2,asAddr,cx,hx,den,hb,hs,Result.andThen]
    ·cases h
   ·cases h
  ·cases h
 ·rename_i n el i off hu hx;split at h
  ·rename_i hh z h1 hz;split at h
   ·rename_i l h2;obtain rfl:=Option.some.inj h;have hb:=v7 (P:=P) (w:=w) cx false h1 h2;have hs:=bu (P:=P) (w:=w) hz;have:=fin n l off z i;simp only[den,<-this];simp[Instr.sliceAt,Instr.sureAddr,run_underlying hu,cx,hx,den,hb,hs,Result.andThen]
   ·cases h
  ·cases h
 ·cases h
theorem zh (cx:∀x,ρ x=den ids (e x)) {lo:Option Operand} {hi mx:Operand} {len cap m h l:Nat} (b:Bool) (h0:Aq (e mx) cap=some m) (h1:Aq (e hi) m=some h) (h2:sT e lo h 0=some l):
 (Instr.sliceBounds b len cap (lo.map ρ) (some (ρ hi)) (some (ρ mx))).run P w=.ok (l,h,m) w:=by
 have a0:=λc=>(nN (P:=P) (ids:=ids) (w:=w) c h0).1;have a1:=λc=>(nN (P:=P) (ids:=ids) (w:=w) c h1).1;unfold sT at h2;cases lo with
 |none=>
  obtain rfl:0=l:=by simpa using h2
  simp[Instr.sliceBounds,Result.andThen,cx,a0,a1]
 |some x=>
  have:=λc=>(nN (P:=P) (ids:=ids) (w:=w) c h2).1;simp[Instr.sliceBounds,Result.andThen,cx,a0,a1,this]
theorem WB (cx:∀x,ρ x=den ids (e x)) {t:TypeId} {x:Operand} {lo:Option Operand} {hi mx:Operand} {v:V} (h:ack P e t (e x) lo hi mx=some v):(Instr.sliceAt t (ρ x) (lo.map ρ) (some (ρ hi)) (some (ρ mx))).run P w=.ok (den ids v) w:=by
 unfold ack at h;have fin:∀(c l off z i:Nat),(if c=l then(⟨ids.getD i 0,off,none⟩:Addr)else Addr.add ⟨ids.getD i 0,off,none⟩ (l*z))=⟨ids.getD i 0,bif Nat.beq c l then off else off+l*z,none⟩:=by
  intro c l off z i;by_cases hc:c=l
  ·subst hc;simp
  ·have:Nat.beq c l=false:=by
    cases hb:Nat.beq c l with
    |true=>exact absurd (Nat.eq_of_beq_eq_true hb) hc
    |false=>rfl
   rw[if_neg hc,this,Addr.add_lit];rfl
 split at h
 ·rename_i arr i off hu hx;split at h
  ·rename_i n el hu2;split at h
   ·rename_i m z h0 hz;split at h
    ·rename_i hh h1;split at h
     ·rename_i l h2;obtain rfl:=Option.some.inj h;have hb:=zh (P:=P) (w:=w) (len:=n) cx false h0 h1 h2;have hs:=bu (P:=P) (w:=w) hz;have:=fin m l off z i;simp only[den,<-this];simp[Instr.sliceAt,Instr.slice,run_underlying hu,run_underlying hu2,asAddr,cx,hx,den,hs,Result.andThen]at hb⊢;simp[hb,hs]
     ·cases h
    ·cases h
   ·cases h
  ·cases h
 ·rename_i n el i off hu hx;split at h
  ·rename_i m z h0 hz;split at h
   ·rename_i hh h1;split at h
    ·rename_i l h2;obtain rfl:=Option.some.inj h;have hb:=zh (P:=P) (w:=w) (len:=n) cx false h0 h1 h2;have hs:=bu (P:=P) (w:=w) hz;have:=fin m l off z i;simp only[den,<-this];simp[Instr.sliceAt,Instr.sureAddr,run_underlying hu,cx,hx,den,hs,Result.andThen]at hb⊢;simp[hb,hs]
    ·cases h
   ·cases h
  ·cases h
 ·cases h
theorem WC {arr:TypeId} {x v:V} (h:acm P arr x=some v):(Instr.arrayAt arr (den ids x)).run P w=.ok (den ids v) w:=by
 unfold acm at h;split at h
 ·rename_i n el i off len c hu;cases hq:Nat.ble n len with
  |false=>rw[hq]at h;cases h
  |true=>
   rw[hq]at h;obtain rfl:=Option.some.inj h;have hle:=Nat.le_of_ble_eq_true hq;simp[Instr.arrayAt,run_underlying hu,den,Result.andThen,Nat.not_lt.2 hle]
 ·cases h
theorem Pu (cx:∀x,ρ x=den ids (e x)) (o:Oper) (v:V) (h:evQ P e o.op=some v):(execOp ρ o).run P w=.ok (.value (den ids v)) w:=by
 unfold execOp;unfold evQ at h;split at h
 ·rename_i x ho;simp only[Option.some.injEq]at h;subst h;simp[ho,cx]
 ·rename_i x ho;simp only[Option.some.injEq]at h;subst h;simp[ho,cx]
 ·rename_i c a b ho;split at h
  ·rename_i cb hc;simp only[Option.some.injEq]at h;subst h;simp only[ho,cx,hc,den,asBool,Sem.run_bind,Sem.run_pure,Result.andThen_ok,Po]
  ·cases h
 ·rename_i x ho;obtain⟨rfl,hk⟩:=Ps (ids:=ids) h;simp only[ho,cx];unfold I6 at h;split at h<;>first|(simp_all[den];done)|cases h
 ·rename_i op t x y yt ho;cases hr:Ww op y with
  |true=>rw[hr]at h;cases h
  |false=>
   rw[hr]at h;simp only[cond_false]at h;simp only[ho,cx];rw[Sem.run_bind,sU h];rfl
 ·rename_i op t x ho;simp only[ho,cx];rw[Sem.run_bind,Wv h];rfl
 ·rename_i s d x ho;split at h
  ·rename_i d' k n hs hd hx;simp only[Option.some.injEq]at h;subst h;simp[ho,cx,hx,den,convert,Sem.run_bind,run_underlying hs,run_underlying hd,Conv.intToInt]
  ·cases h
 ·rename_i f a b ho;simp only[Option.some.injEq]at h;subst h;simp only[ho,Instr.makeFunc,den,Pt _ cx,Sem.run_bind,Sem.run_pure,Result.andThen_ok];rw[show a.map ρ=(a.toList.map ρ).toArray from by apply Array.ext';simp,show b.map ρ=(b.toList.map ρ).toArray from by apply Array.ext';simp]
 ·rename_i t x ho;split at h
  ·cases h
  ·rename_i d hd hu;simp only[Option.some.injEq]at h;subst h;simp only[ho,cx,Instr.makeInterface,Sem.run_bind,run_underlying hu,Result.andThen_ok];cases d<;>first|(simp[den];done)|(exact absurd rfl (hd _))
  ·cases h
 ·rename_i t ps ho;try simp only[ho]
  rw[Sem.run_bind];have:=LW (ids:=ids) (w:=w) h;rw[show(ps.map λ(x:Nat×Operand)=>match x with|(i,x)=>(i,ρ x))=(ps.map λ(p:Nat×Operand)=>(p.1,ρ p.2))from rfl,zg ps cx,this];rfl
 ·rename_i s x f ho;simp only[ho,cx];rw[Sem.run_bind,Wy h];rfl
 ·rename_i s x f ho;split at h
  ·rename_i fs l hu hx;split at h
   ·rename_i fd hfd;simp only[ho,cx,hx,den,Instr.field,Sem.run_bind,run_underlying hu,Result.andThen_ok,hfd,asAgg,Sem.run_pure,Ap h]
   ·cases h
  ·cases h
 ·rename_i t x ix ho;simp only[ho,cx];rw[Sem.run_bind,Wx h];rfl
 ·rename_i t x ix ho;split at h
  ·rename_i n el l k j hu hx sV;cases hb:Nat.blt j n with
   |false=>rw[hb]at h;simp at h
   |true=>
    rw[hb]at h;simp only[cond_true]at h;have hj:j<n:=by rw[Nat.blt_eq]at hb;exact hb
    split at h
    ·rename_i z hz;have h1:(0:Int)<=Int.ofNat j/\Int.ofNat j<(n:Int):=by simp only[Int.ofNat_eq_natCast];omega
     simp only[ho,cx,hx,sV,den,Instr.index,asIntOf,Sem.run_bind,Sem.run_pure,Result.andThen_ok,run_underlying hu];rw[if_pos h1];have:=Ap (ids:=ids) (w:=w) h;simp[Sem.run_bind,bu hz,this]
    ·cases h
  ·rename_i s k j hu hx sV;split at h
   ·rename_i b hb;cases h;have h0:(0:Int)<=Int.ofNat j:=Int.natCast_nonneg j;have h1:(Int.ofNat j).toNat=j:=rfl;simp only[ho,cx,hx,sV,den,Instr.index,asIntOf,Sem.run_bind,Sem.run_pure,Result.andThen_ok,run_underlying hu,if_pos h0,h1,hb]
   ·cases h
  ·cases h
 ·rename_i x i ho;split at h
  ·rename_i l hx;split at h
   ·rename_i u hu;simp only[Option.some.injEq]at h;subst h;simp[ho,cx,hx,den,Instr.extract,kj,hu]
   ·cases h
  ·cases h
 ·rename_i c ho;split at h
  ·rename_i x t ts hc ha ht;obtain⟨callee,args,tys⟩:=c;simp only at hc ha ht;subst hc;have VH:args=#[x]:=by apply Array.ext';simpa using ha
   have h0:tys[0]?=some t:=by rw[<-Array.getElem?_toList,ht];rfl
   subst VH;simp only[ho,resolve,Sem.run_bind,Sem.run_pure,Result.andThen_ok,invoke,builtin];rw[show(#[x].map ρ)=#[den ids (e x)] by simp[cx]];rw[WA h _ _ h0];rfl
  ·rename_i x y hc ha;obtain⟨callee,args,tys⟩:=c;simp only at hc ha;subst hc;have VH:args=#[x,y]:=by apply Array.ext';simpa using ha
   subst VH;unfold agy at h;split at h
   ·rename_i k a k2 b hx hy;obtain rfl:=Option.some.inj h;simp[ho,resolve,invoke,builtin,cx,hx,hy,den,Builtin.min_,Builtin.min2,Result.andThen]
   ·cases h
  ·rename_i x y hc ha;obtain⟨callee,args,tys⟩:=c;simp only at hc ha;subst hc;have VH:args=#[x,y]:=by apply Array.ext';simpa using ha
   subst VH;unfold agz at h;split at h
   ·rename_i k a k2 b hx hy;obtain rfl:=Option.some.inj h;simp[ho,resolve,invoke,builtin,cx,hx,hy,den,Builtin.max_,Builtin.max2,Result.andThen]
   ·cases h
  ·cases h
 ·rename_i t x lo hi ho;simp only[ho,Option.map_none];rw[Sem.run_bind,acn cx h];rfl
 ·rename_i t x lo hi mx ho;simp only[ho,Option.map_some];rw[Sem.run_bind,WB cx h];rfl
 ·rename_i arr x ho;simp only[ho,cx];rw[Sem.run_bind,WC h];rfl
 ·cases h
end
end Vx
namespace Vx
open Go Go.RowKit Go.BigFrame Sx
structure BT where
 t:TypeId
 fz:Nat×Nat
instance(n:Nat):OfNat BT n:=⟨⟨n,(0,0)⟩⟩
instance:Coe TypeId BT:=⟨λt=>⟨t,(0,0)⟩⟩
def CR:BT->TypeId->Bool
 |⟨t,(0,0)⟩,n=>Nat.beq t n
 |_,_=>false
theorem Ar {b:BT} {n:Nat} (h:CR b n=true):b=⟨n,(0,0)⟩:=by
 unfold CR at h;split at h
 ·rw[Nat.eq_of_beq_eq_true h]
 ·cases h
structure VB where
 wr:Bool
 ty:BT
 c:List V
def aE (ids:List Nat) (id:Nat) (b:VB):av:=⟨id,b.wr,.cells (ab ids b.c).toArray b.ty.t b.ty.fz⟩
def lits (ids:List Nat):List Nat->List VB->List av
 |i::is,b::bl=>aE ids i b::lits ids is bl
 |_,_=>[]
def VI (P:Program) (bl:List VB) (t:TypeId) (x:V):Option V:=match x with
 |.ptr i off=>(match bl[i]?with
  |some b=>m_ P t b.c off
  |none=>none)
 |_=>none
def stV (P:Program) (bl:List VB) (t:TypeId) (x v:V):Option (List VB):=match x with
 |.ptr i off=>(match bl[i]?with
  |some ⟨true,⟨ty,(0,0)⟩,c⟩=>(match j_ P t with
   |some n=>bif LR v&&(mY (dX v)&&Nat.beq (eL (dX v)) n)then(match Ws c off n (dX v)with|some c'=>some (bl.set i ⟨true,⟨ty,(0,0)⟩,c'⟩)|none=>none)else none
   |none=>none)
  |_=>none)
 |_=>none
def lK (z:List V):Nat->List V
 |0=>[]
 |n+1=>z++lK z n
def CS (P:Program) (e:Operand->V) (n:Nat):Op->Option (V×VB)
 |.alloc t=>(match jo P t with|some z=>some (.ptr n 0,⟨true,t,z⟩)|none=>none)
 |.box t x=>bif LR (e x)then some (.ptr n 0,⟨true,t,dX (e x)⟩)else none
 |.buildSlice t len ps=>(match P.underlying t with
  |some (.slice el)=>(match j_ P el,jo P el with
   |some (z+1),some zc=>bif Nat.beq (eL zc) (z+1)&&(Nat.ble (len*(z+1)) (2^24)&&!(Nat.beq len 0&&(Nat.beq z 5||Nat.beq z 13)))then(match ug (λi=>some (i*(z+1),z+1)) (lK zc len) (An e ps)with|some c=>some (.sl n 0 len len,⟨true,el,c⟩)|none=>none)else none
   |_,_=>none)
  |_=>none)
 |_=>none
def dk (n:Nat):List VB->Bool
 |[]=>true
 |b::l=>cH n b.c&&dk n l
section
variable{ids:List Nat} {P:Program} {w w0:World} {ms:List Nat} {e:Operand->V} {ρ:Operand->Value} {bl:List VB} {R:List av}
theorem iQ:∀(is:List Nat) (bl:List VB),is.length=bl.length->(lits ids is bl).length=bl.length
 |[],[],_=>rfl
 |i::is,b::bl,h=>by simp[lits,iQ is bl (by simpa using h)]
 |[],_::_,h=>by simp at h
 |_::_,[],h=>by simp at h
theorem u_:∀(is:List Nat) (bl:List VB) {k:Nat} {b:VB},is.length=bl.length->bl[k]?=some b->(lits ids is bl)[k]?=some (aE ids (is.getD k 0) b)
 |[],[],k,b,_,h=>by simp at h
 |i::is,c::bl,k,b,hl,h=>by
  cases k with
  |zero=>simp only[List.getElem?_cons_zero,Option.some.injEq]at h;subst h;simp[lits]
  |succ k=>simpa[lits]using u_ is bl (by simpa using hl) (by simpa using h)
 |[],_::_,_,_,h,_=>by simp at h
 |_::_,[],_,_,h,_=>by simp at h
theorem iR:∀(is:List Nat) (bl:List VB) (k:Nat) (b:VB),is.length=bl.length->(lits ids is bl).set k (aE ids (is.getD k 0) b)=lits ids is (bl.set k b)
 |[],[],k,b,_=>by simp[lits]
 |i::is,c::bl,k,b,hl=>by
  cases k with
  |zero=>simp[lits]
  |succ k=>simpa[lits]using iR is bl k b (by simpa using hl)
 |[],_::_,_,_,h=>by simp at h
 |_::_,[],_,_,h=>by simp at h
theorem aI (is js:List Nat) (bl cl:List VB) (h:is.length=bl.length):lits ids (is++js) (bl++cl)=lits ids is bl++lits ids js cl:=by
 induction is generalizing bl with
 |nil=>cases bl with
  |nil=>simp[lits]
  |cons=>simp at h
 |cons i is ih=>cases bl with
  |nil=>simp at h
  |cons b bl=>simp[lits,ih bl (by simpa using h)]
theorem aJ {more:List Nat}:∀(is:List Nat) (bl:List VB),dk ids.length bl=true->lits (ids++more) is bl=lits ids is bl
 |[],_,_=>by simp[lits]
 |_::_,[],_=>by simp[lits]
 |i::is,b::bl,h=>by
  simp only[dk,Bool.and_eq_true]at h;simp only[lits,aE,bU _ h.1,aJ is bl h.2]
theorem cA (hl:ids.length=bl.length) (S:St ms w0 (lits ids ids bl++R) w) {i:Nat} {b:VB} (h:bl[i]?=some b):
 (lits ids ids bl++R)[i]?=some (aE ids (ids.getD i 0) b)/\w.heap[ids.getD i 0]?=some (.cells (ab ids b.c).toArray b.ty.t b.ty.fz):=by
 have h1:=u_ (ids:=ids) ids bl hl h;have h2:(lits ids ids bl++R)[i]?=some (aE ids (ids.getD i 0) b):=by
  rw[List.getElem?_append_left (by rw[iQ ids bl hl];rcases Nat.lt_or_ge i bl.length with h'|h';exact h';simp[h']at h)];exact h1
 exact⟨h2,S.at_ i _ h2⟩
theorem As (hl:ids.length=bl.length) (S:St ms w0 (lits ids ids bl++R) w) {t:TypeId} {x v:V} (h:VI P bl t x=some v):(Instr.loadAt t (den ids x)).run P w=.ok (den ids v) w:=by
 unfold VI at h;split at h
 ·rename_i i off;split at h
  ·rename_i b hb;have ba:=(cA hl S hb).2;unfold m_ at h;simp only[Instr.loadAt,den,Instr.sureAddr,Sem.run_bind,Sem.run_pure,Result.andThen_ok];split at h
   ·rename_i n ha hn;split at h
    ·rename_i c hc;simp only[Option.some.injEq]at h;subst h;obtain⟨g1,g2,g3⟩:=km (ids:=ids) hc;refine kM (n:=n) ba ?_ ?_ ?_ ?_
     ·unfold jh at ha;split at ha
      ·rename_i d hd;rw[hd];simpa using ha
      ·cases ha
     ·unfold j_ at hn;split at hn
      ·rename_i d hd;rw[hd];simpa using hn
      ·cases hn
     ·apply Array.ext';simp[Array.toList_extract,List.extract,g1]
     ·simpa using g2
    ·cases h
   ·rename_i ha;have:=Am (ids:=ids) h;refine jF ba ?_ (by simpa using this);unfold jh at ha;split at ha
    ·rename_i d hd;rw[hd];simpa using ha
    ·cases ha
   ·cases h
  ·cases h
 ·cases h
theorem Pv (hl:ids.length=bl.length) (S:St ms w0 (lits ids ids bl++R) w) {t:TypeId} {x v:V} {bl':List VB} (h:stV P bl t x v=some bl'):
 ∃w',(Instr.storeAt t (den ids x) (den ids v)).run P w=.ok () w'/\St ms w0 (lits ids ids bl'++R) w'/\ids.length=bl'.length:=by
 unfold stV at h;split at h
 ·rename_i i off;split at h
  ·rename_i ty c hb;split at h
   ·rename_i n hn;cases hq:LR v&&(mY (dX v)&&Nat.beq (eL (dX v)) n)with
    |false=>rw[hq]at h;simp at h
    |true=>
     rw[hq]at h;simp only[cond_true]at h;simp only[Bool.and_eq_true]at hq;obtain⟨q1,q2,q3⟩:=hq;have q3:=Nat.eq_of_beq_eq_true q3;split at h
     ·rename_i c' Tt;simp only[Option.some.injEq]at h;subst h;obtain⟨s1,s2⟩:=I5 (ids:=ids) Tt;obtain⟨hi,ba⟩:=cA hl S hb;have hlen:(ab ids (dX v)).length=n:=by rw[cL,q3]
      have aY:=ly (P:=P) (off:=off) (v:=den ids v) (vs:=ab ids (dX v)) ba (vY q1) (by
       unfold j_ at hn;split at hn
       ·rename_i d hd;rw[hd];simp[hlen]at hn⊢;exact hn
       ·cases hn) (by simpa[hlen]using s2) (by rw[List.all_eq_true];exact lJ q2)
      have mK:=S.step hi rfl (Ch.setRow w (ids.getD i 0) _) (setRow_heap w (ids.getD i 0) _ (splice (ab ids c).toArray off (ab ids (dX v))) ty (0,0) ba);have OD:splice (ab ids c).toArray off (ab ids (dX v))=(ab ids c').toArray:=by
       apply Array.ext';simp[splice,s1,hlen]
      have uD:i<(lits ids ids bl).length:=by rw[iQ ids bl hl];rcases Nat.lt_or_ge i bl.length with h'|h';exact h';simp[h']at hb
      refine⟨w.setRow (ids.getD i 0) (splice (ab ids c).toArray off (ab ids (dX v))),?_,?_,?_⟩
      ·simp only[Instr.storeAt,den,Instr.sureAddr,Sem.run_bind,Sem.run_pure,Result.andThen_ok];exact aY
      ·have CT:=iR (ids:=ids) ids bl i ⟨true,ty,c'⟩ hl;rw[<-CT,<-List.set_append_left _ _ uD];rw[OD]at mK⊢;exact mK
      ·simpa using hl
     ·cases h
   ·cases h
  ·cases h
 ·cases h
theorem CU (z:List V) (n:Nat):ab ids (lK z n)=(List.replicate n (ab ids z)).flatten:=by
 induction n with
 |zero=>simp[lK,ab]
 |succ n ih=>simp[lK,bo,ih,List.replicate_succ]
theorem sW (z:Array Value) (m:Nat) (hm:z.size=m+1):∀n,((Array.range (n*(m+1))).map (λi=>z[i%z.size]!)).toList=(List.replicate n z.toList).flatten:=by
 intro n;simp only[Array.toList_map,Array.toList_range];induction n with
 |zero=>simp
 |succ n ih=>
  rw[List.replicate_succ',List.flatten_append,<-ih,Nat.succ_mul,List.range_add,List.map_append,List.map_map];congr 1;simp only[List.flatten_cons,List.flatten_nil,List.append_nil];apply List.ext_getElem?;intro i;rw[List.getElem?_map];by_cases hi:i<m+1
  ·rw[List.getElem?_range hi];simp only[Option.map_some,Function.comp];rw[hm,show(n*(m+1)+i)%(m+1)=i by rw[Nat.mul_comm,Nat.mul_add_mod,Nat.mod_eq_of_lt hi]];simp[getElem!_pos,hm,hi]
  ·rw[List.getElem?_eq_none (by simpa using hi),List.getElem?_eq_none (by simp[hm];omega)];rfl
end
end Vx
