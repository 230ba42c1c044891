/- Part 4 of the proof. -/
import Derived.Test.YtlkpikfddnjilaaGreatDoorE3
set_option linter.all false
set_option maxRecDepth 100000
set_option maxHeartbeats 4000000
namespace Vx
open Go Sx
def cG:V:=.raw undef
def nth:List V->Nat->V
 |[],_=>cG
 |v::_,0=>v
 |_::l,n+1=>nth l n
def jT:List V->Nat->V->List V
 |[],_,_=>[]
 |_::l,0,x=>x::l
 |v::l,n+1,x=>v::jT l n x
def put (fr:List V) (d:Option Tmp) (v:V):List V:=match d with|some t=>jT fr t v|none=>fr
def Yi:Value->V
 |.int k n=>.int k n
 |.bool b=>.bool b
 |v=>.raw v
def xm:Value->V
 |.int k n=>.int k n
 |.bool b=>.bool b
 |.agg cs=>.agg (cs.toList.map Yi)
 |v=>.raw v
def yD (p:Sd.Pol) (ka:Nat->Option Addr) (kn kc:Nat->Nat) (o:Nat):V:=
 bif Nat.ble 5 o&&Nat.ble o 8 then .raw (.slice (ka (o-5)) (kn (o-5)) (kc (o-5)))else .int .i64 (p.i o)
def nN:List V->Nat->Option V
 |[],_=>none
 |v::l,o=>match v with
  |.ew k n f=>bif Nat.ble n o then nN l (o-n)else some (.int k (f o))
  |.arr k n f=>bif Nat.ble n o then nN l (o-n)else some (.int k (f o))
  |.jS p ka kn kc=>bif Nat.ble 56 o then nN l (o-56)else some (yD p ka kn kc o)
  |.rest _=>none
  |.fY _ _ _=>none
  |v=>match o with|0=>some v|o+1=>nN l o
def takeN:List V->Nat->Option (List V×List V)
 |l,0=>some ([],l)
 |[],_+1=>none
 |v::l,n+1=>match v with
  |.ew k m f=>bif Nat.ble m (n+1)then(match takeN l (n+1-m)with|some (a,b)=>some (v::a,b)|none=>none)
   else some ([.ew k (n+1) f],.ew k (m-(n+1)) (λj=>f (n+1+j))::l)
  |.arr k m f=>bif Nat.ble m (n+1)then(match takeN l (n+1-m)with|some (a,b)=>some (v::a,b)|none=>none)
   else some ([.arr k (n+1) f],.arr k (m-(n+1)) (λj=>f (n+1+j))::l)
  |.jS .. =>bif Nat.ble 56 (n+1)then(match takeN l (n+1-56)with|some (a,b)=>some (v::a,b)|none=>none)else none
  |.rest _=>none
  |.fY _ _ _=>none
  |_=>match takeN l n with|some (a,b)=>some (v::a,b)|none=>none
def A1 (l:List V) (off n:Nat):Option (List V):=match takeN l off with
 |some (_,r)=>(match takeN r n with|some (a,_)=>some a|none=>none)
 |none=>none
def R1 (l:List V) (off n:Nat) (vs:List V):Option (List V):=match takeN l off with
 |some (a,r)=>(match takeN r n with|some (_,b)=>some (a++(vs++b))|none=>none)
 |none=>none
def szV:V->Nat
 |.ew _ n _=>n
 |.arr _ n _=>n
 |.jS .. =>56
 |.rest l=>l.length
 |.fY z n g=>((List.range n).flatMap g).length
 |_=>1
def fb:List V->Nat
 |[]=>0
 |v::l=>szV v+fb l
def R2:V->Bool
 |.agg _=>false
 |.aI _=>false
 |.rest l=>l.all (·.oneCell')
 |.fY z n g=>((List.range n).flatMap g).all (·.oneCell')
 |.raw v=>v.oneCell'
 |_=>true
def oF:List V->Bool
 |[]=>true
 |v::l=>R2 v&&oF l
def dP:V->List V
 |.agg l=>l
 |v=>[v]
def IH:V->Bool
 |.ew .. =>false
 |.arr .. =>false
 |.jS .. =>false
 |.rest _=>false
 |.fY _ _ _=>false
 |.raw v=>v.oneCell'
 |_=>true
section
variable{ids:List Nat}
theorem pT (l:List Value):ai ids (l.map Yi)=l:=by
 induction l with
 |nil=>simp[ai]
 |cons v l ih=>cases v<;>simp[ai,cl,Yi,den,ih]
theorem II (v:Value):den ids (xm v)=v:=by
 cases v<;>simp[xm,den,pT]
theorem lL (fr:List V) (t:Nat):den ids (nth fr t)=(az ids fr).toArray.getD t undef:=by
 induction fr generalizing t with
 |nil=>simp[nth,az,cG,den]
 |cons v l ih=>
  cases t with
  |zero=>simp[nth,az]
  |succ t=>rw[nth,ih];simp[az,Array.getD]
theorem Lw (fr:List V) (t:Nat) (x:V):(az ids (jT fr t x)).toArray=(az ids fr).toArray.setIfInBounds t (den ids x):=by
 apply Array.ext';simp only[Array.toList_setIfInBounds];induction fr generalizing t with
 |nil=>simp[jT,az]
 |cons v l ih=>cases t<;>simp[jT,az,ih]
theorem R3 (p:Sd.Pol) (ka:Nat->Option Addr) (kn kc:Nat->Nat) {o:Nat} (h:o<56):(ta p ka kn kc)[o]?=some (den ids (yD p ka kn kc o)):=by
 unfold ta yD;rw[List.getElem?_map,List.getElem?_range h];simp only[Option.map_some];cases Nat.ble 5 o&&Nat.ble o 8<;>simp[den]
theorem mK (p:Sd.Pol) (ka:Nat->Option Addr) (kn kc:Nat->Nat):(ta p ka kn kc).length=56:=by simp[ta]
theorem yE {l:List V} {o:Nat} {v:V} (h:nN l o=some v):(ai ids l)[o]?=some (den ids v):=by
 induction l generalizing o with
 |nil=>simp[nN]at h
 |cons a l ih=>
  cases a
  case ew k n f=>
   simp only[nN]at h;simp only[ai,cl];cases hb:Nat.ble n o with
   |true=>
    rw[hb]at h;have:=Nat.le_of_ble_eq_true hb;rw[List.getElem?_append_right (by simpa using this)];simpa using ih h
   |false=>
    rw[hb]at h;have:o<n:=Nat.lt_of_not_le λe=>by rw[Nat.ble_eq_true_of_le e]at hb;cases hb
    rw[List.getElem?_append_left (by simpa using this)];simp only[cond_false,Option.some.injEq]at h;subst h;simp[List.getElem?_range this,den]
  case arr k n f=>
   simp only[nN]at h;simp only[ai,cl];cases hb:Nat.ble n o with
   |true=>
    rw[hb]at h;have:=Nat.le_of_ble_eq_true hb;rw[List.getElem?_append_right (by simpa using this)];simpa using ih h
   |false=>
    rw[hb]at h;have:o<n:=Nat.lt_of_not_le λe=>by rw[Nat.ble_eq_true_of_le e]at hb;cases hb
    rw[List.getElem?_append_left (by simpa using this)];simp only[cond_false,Option.some.injEq]at h;subst h;simp[List.getElem?_range this,den]
  case jS p ka kn kc=>
   simp only[nN]at h;simp only[ai,cl];cases hb:Nat.ble 56 o with
   |true=>
    rw[hb]at h;have:=Nat.le_of_ble_eq_true hb;rw[List.getElem?_append_right (by rw[mK];exact this),mK];simpa using ih h
   |false=>
    rw[hb]at h;have:o<56:=Nat.lt_of_not_le λe=>by rw[Nat.ble_eq_true_of_le e]at hb;cases hb
    rw[List.getElem?_append_left (by rw[mK];exact this)];simp only[cond_false,Option.some.injEq]at h;subst h;exact R3 _ _ _ _ this
  case rest=>simp[nN]at h
  case fY=>simp[nN]at h
  all_goals
   cases o with
   |zero=>simp only[nN,Option.some.injEq]at h;subst h;simp[ai,cl]
   |succ o=>simp only[nN]at h;simpa[ai,cl]using ih h
theorem xn (k:IntKind) {m n:Nat} (f:Nat->Int) (h:n<=m):((List.range m).map λj=>Value.int k (f j))=((List.range n).map λj=>Value.int k (f j))++((List.range (m-n)).map λj=>Value.int k (f (n+j))):=by
 obtain⟨d,rfl⟩:=Nat.exists_eq_add_of_le h;rw[List.range_add,List.map_append,List.map_map,Nat.add_sub_cancel_left];rfl
theorem mL {l a b:List V} {n:Nat} (h:takeN l n=some (a,b)):ai ids l=ai ids a++ai ids b/\(ai ids a).length=n:=by
 induction l generalizing n a b with
 |nil=>
  cases n with
  |zero=>simp only[takeN,Option.some.injEq,Prod.mk.injEq]at h;obtain⟨rfl,rfl⟩:=h;simp[ai]
  |succ n=>simp[takeN]at h
 |cons v l ih=>
  cases n with
  |zero=>simp only[takeN,Option.some.injEq,Prod.mk.injEq]at h;obtain⟨rfl,rfl⟩:=h;simp[ai]
  |succ n=>
   cases v
   case ew k m f=>
    simp only[takeN]at h;cases hb:Nat.ble m (n+1)with
    |true=>
     have hm:=Nat.le_of_ble_eq_true hb;rw[hb]at h;simp only[cond_true]at h;split at h
     ·rename_i x y hx;simp only[Option.some.injEq,Prod.mk.injEq]at h;obtain⟨rfl,rfl⟩:=h;obtain⟨i1,i2⟩:=ih hx;simp[ai,cl,i1,i2];omega
     ·cases h
    |false=>
     have hm:n+1<m:=Nat.lt_of_not_le λe=>by rw[Nat.ble_eq_true_of_le e]at hb;cases hb
     rw[hb]at h;simp only[cond_false,Option.some.injEq,Prod.mk.injEq]at h;obtain⟨rfl,rfl⟩:=h;simp only[ai,cl];rw[xn k f (n:=n+1) (by omega)];simp
   case arr k m f=>
    simp only[takeN]at h;cases hb:Nat.ble m (n+1)with
    |true=>
     have hm:=Nat.le_of_ble_eq_true hb;rw[hb]at h;simp only[cond_true]at h;split at h
     ·rename_i x y hx;simp only[Option.some.injEq,Prod.mk.injEq]at h;obtain⟨rfl,rfl⟩:=h;obtain⟨i1,i2⟩:=ih hx;simp[ai,cl,i1,i2];omega
     ·cases h
    |false=>
     have hm:n+1<m:=Nat.lt_of_not_le λe=>by rw[Nat.ble_eq_true_of_le e]at hb;cases hb
     rw[hb]at h;simp only[cond_false,Option.some.injEq,Prod.mk.injEq]at h;obtain⟨rfl,rfl⟩:=h;simp only[ai,cl];rw[xn k f (n:=n+1) (by omega)];simp
   case jS p ka kn kc=>
    simp only[takeN]at h;cases hb:Nat.ble 56 (n+1)with
    |true=>
     have hm:=Nat.le_of_ble_eq_true hb;rw[hb]at h;simp only[cond_true]at h;split at h
     ·rename_i x y hx;simp only[Option.some.injEq,Prod.mk.injEq]at h;obtain⟨rfl,rfl⟩:=h;obtain⟨i1,i2⟩:=ih hx;simp[ai,cl,i1,i2,mK];omega
     ·cases h
    |false=>rw[hb]at h;simp at h
   case rest=>simp[takeN]at h
   case fY=>simp[takeN]at h
   all_goals
    simp only[takeN]at h;split at h
    ·rename_i x y hx;simp only[Option.some.injEq,Prod.mk.injEq]at h;obtain⟨rfl,rfl⟩:=h;obtain⟨i1,i2⟩:=ih hx;simp[ai,cl,i1,i2]
    ·cases h
theorem j8 {l c:List V} {off n:Nat} (h:A1 l off n=some c):((ai ids l).drop off).take n=ai ids c/\(ai ids c).length=n/\off+n<=(ai ids l).length:=by
 unfold A1 at h;split at h
 ·rename_i a r ha;split at h
  ·rename_i b s hb;simp only[Option.some.injEq]at h;subst h;obtain⟨a1,a2⟩:=mL (ids:=ids) ha;obtain⟨b1,b2⟩:=mL (ids:=ids) hb;refine⟨?_,b2,?_⟩
   ·rw[a1,<-a2,List.drop_left,b1,<-b2,List.take_left]
   ·rw[a1,b1];simp;omega
  ·cases h
 ·cases h
theorem bH (a b:List V):ai ids (a++b)=ai ids a++ai ids b:=by
 induction a with
 |nil=>simp[ai]
 |cons v l ih=>simp[ai,ih]
theorem GC {l c vs:List V} {off n:Nat} (h:R1 l off n vs=some c):ai ids c=(ai ids l).take off++ai ids vs++(ai ids l).drop (off+n)/\off+n<=(ai ids l).length:=by
 unfold R1 at h;split at h
 ·rename_i a r ha;split at h
  ·rename_i b s hb;simp only[Option.some.injEq]at h;subst h;obtain⟨a1,a2⟩:=mL (ids:=ids) ha;obtain⟨b1,b2⟩:=mL (ids:=ids) hb;refine⟨?_,?_⟩
   ·rw[bH,bH,a1,b1];have e:off+n=(ai ids a++ai ids b).length:=by simp[a2,b2]
    have e2:ai ids a++(ai ids b++ai ids s)=(ai ids a++ai ids b)++ai ids s:=by simp
    rw[e,e2,List.drop_left,<-e2,<-a2,List.take_left,List.append_assoc]
   ·rw[a1,b1];simp;omega
  ·cases h
 ·cases h
theorem cV (l:List V):(ai ids l).length=fb l:=by
 induction l with
 |nil=>simp[ai,fb]
 |cons v l ih=>cases v<;>simp[ai,cl,fb,szV,ih,mK]<;>omega
theorem Lx {p:Sd.Pol} {ka:Nat->Option Addr} {kn kc:Nat->Nat} {v:Value} (h:v∈ta p ka kn kc):v.oneCell'=true:=by
 unfold ta at h;rw[List.mem_map]at h;obtain⟨o,_,rfl⟩:=h;cases Nat.ble 5 o&&Nat.ble o 8<;>rfl
theorem nq {l:List V} (h:oF l=true):∀v∈ai ids l,v.oneCell'=true:=by
 induction l with
 |nil=>simp[ai]
 |cons a l ih=>
  simp only[oF,Bool.and_eq_true]at h;intro v hv;simp only[ai,List.mem_append]at hv;rcases hv with hv|hv
  ·unfold cl at hv;cases a
   case ew k n f=>simp at hv;obtain⟨_,_,rfl⟩:=hv;rfl
   case arr k n f=>simp at hv;obtain⟨_,_,rfl⟩:=hv;rfl
   case jS=>exact Lx hv
   case rest l'=>exact(List.all_eq_true.1 (by simpa[R2]using h.1)) v hv
   case fY z n g=>
    have h1:((List.range n).flatMap g).all (·.oneCell')=true:=h.1;exact List.all_eq_true.1 h1 v hv
   all_goals (obtain rfl:v=_:=by simpa using hv);first|rfl|(simp[R2]at h;done)|(have:=h.1;simpa[R2,den]using this)
  ·exact ih h.2 v hv
theorem uu {v:V} (h:IH v=true):(den ids v).cells.toList=ai ids (dP v):=by
 cases v
 case agg l=>simp[den,Value.cells,dP]
 case raw v=>cases v<;>simp_all[den,Value.cells,dP,ai,cl,IH,Value.oneCell']
 case ew=>simp[IH]at h
 case arr=>simp[IH]at h
 case jS=>simp[IH]at h
 case rest=>simp[IH]at h
 case fY=>simp[IH]at h
 all_goals simp[den,Value.cells,dP,ai,cl]
end
def Ly (c:Bool) (a b:V):V:=match a,b with
 |.bool x,.bool y=>.bool (cond c x y)
 |.int k x,.int k' y=>(match decEq k k' with|isTrue _=>.int k (cond c x y)|isFalse _=>(match c with|true=>a|false=>b))
 |a,b=>match c with|true=>a|false=>b
def kY (P:Program) (t:TypeId):Option Nat:=match P.info? t with|some i=>some i.size|none=>none
def Lz (k:IntKind):List V->Bool
 |[]=>true
 |.int k' (.ofNat 0)::l=>(match decEq k' k with|isTrue _=>Lz k l|isFalse _=>false)
 |_=>false
def Yj (z:List V):List V:=match z with
 |.int k (.ofNat 0)::l=>bif Nat.ble 63 l.length&&Lz k l then[.arr k (l.length+1) λ_=>0]else z
 |_=>z
theorem A2 {k:IntKind} (ids:List Nat):∀{l:List V},Lz k l=true->ai ids l=(List.range l.length).map λ_=>Value.int k 0
 |[],_=>rfl
 |v::l,h=>by
  unfold Lz at h;split at h
  ·rename_i heq;cases heq
  ·rename_i k' l' heq;obtain⟨rfl,rfl⟩:=List.cons.inj heq;split at h
   ·rename_i hk _;subst hk;rw[List.length_cons,List.range_succ_eq_map,List.map_cons,List.map_map];simp only[ai,cl,den,A2 ids h];rfl
   ·cases h
  ·cases h
theorem uv (ids:List Nat) (z:List V):ai ids (Yj z)=ai ids z:=by
 unfold Yj;split
 ·rename_i k l;cases hq:Nat.ble 63 l.length&&Lz k l with
  |false=>rfl
  |true=>
   simp only[Bool.and_eq_true]at hq;simp only[cond_true,ai,cl,den,A2 ids hq.2,List.append_nil];rw[List.range_succ_eq_map,List.map_cons,List.map_map];rfl
 ·rfl
def j9 (P:Program) (t:TypeId):Option (List V):=match P.info? t with
 |some i=>(match i.zero with|some v=>some (Yj (dP (xm v)))|none=>none)
 |none=>none
def iS (P:Program) (t:TypeId):Option Bool:=match P.underlying t with|some d=>some (jc d)|none=>none
def LD (op:BinOp) (x y:V):Option V:=match x,y with
 |.int k a,.int k' b=>(match op with
  |.shl=>(match b with|.ofNat n=>some (.int k (k.wrap (a*2^(min n k.bits))))|_=>none)
  |.shr=>(match b with|.ofNat n=>some (.int k (a.fdiv (2^(min n k.bits))))|_=>none)
  |op=>(match decEq k k' with
   |isFalse _=>none
   |isTrue _=>(match op with
    |.add=>some (.int k (k.wrap (a+b)))
    |.sub=>some (.int k (k.wrap (a-b)))
    |.mul=>some (.int k (k.wrap (a*b)))
    |.and=>some (.int k (bits .and k a b))
    |.or=>some (.int k (bits .or k a b))
    |.xor=>some (.int k (bits .xor k a b))
    |.rem=>(match b with|.ofNat (n+1)=>some (.int k (Int.tmod a (.ofNat (n+1))))|_=>none)
    |.quo=>(match b with|.ofNat (n+1)=>some (.int k (k.wrap (Int.tdiv a (.ofNat (n+1)))))|_=>none)
    |.eql=>some (.bool (a==b))
    |.neq=>some (.bool (a !=b))
    |.lss=>some (.bool (decide (a<b)))
    |.leq=>some (.bool (decide (a<=b)))
    |.gtr=>some (.bool (decide (a>b)))
    |.geq=>some (.bool (decide (a>=b)))
    |_=>none)))
 |_,_=>none
def Yk (op:UnOp) (x:V):Option V:=match op,x with
 |.not,.bool b=>some (.bool (!b))
 |.neg,.int k n=>some (.int k (k.wrap (0-n)))
 |.xor,.int k n=>some (.int k (bits .xor k (bif k.signed then-1 else k.max) n))
 |_,_=>none
section
variable{ids:List Nat} {P:Program} {w:World}
theorem LF (c:Bool) (a b:V):den ids (Ly c a b)=if c then den ids a else den ids b:=by
 unfold Ly;split
 ·cases c<;>simp[den]
 ·split
  ·rename_i hk _;cases c<;>simp[den,hk]
  ·cases c<;>rfl
 ·cases c<;>rfl
theorem td (op:BinOp) (t:TypeId) (x y:Operand) (k k':IntKind) (a b:Int):(eqGuard op t x y (.int k a) (.int k' b)).run P w=.ok () w:=by
 unfold eqGuard;cases op<;>rfl
theorem LJ {op:BinOp} {x y v:V} (h:LD op x y=some v) (t:TypeId) (xo yo:Operand):
 ((do eqGuard op t xo yo (den ids x) (den ids y);binOp op t (den ids x) (den ids y)):Sem Value).run P w=.ok (den ids v) w:=by
 unfold LD at h;split at h
 ·rename_i k a k' b;simp only[den,Sem.run_bind,td,Result.andThen_ok];split at h
  ·split at h
   ·rename_i n;simp only[Option.some.injEq]at h;subst h;have h0:¬(Int.ofNat n<0):=by have:=Int.natCast_nonneg n;simp only[Int.ofNat_eq_natCast];omega
    simp only[binOp,Op.shift,den,if_neg h0];rfl
   ·cases h
  ·split at h
   ·rename_i n;simp only[Option.some.injEq]at h;subst h;have h0:¬(Int.ofNat n<0):=by have:=Int.natCast_nonneg n;simp only[Int.ofNat_eq_natCast];omega
    simp only[binOp,Op.shift,den,if_neg h0];rfl
   ·cases h
  ·rename_i af2 af3;split at h
   ·cases h
   ·rename_i hk _;subst hk;cases op<;>simp only[Option.some.injEq]at h<;>first
     |(subst h;simp[binOp,Op.intArith,Op.intCmp,Op.intBits,Op.intDiv,den,bits];done)
     |(subst h;simp[binOp,Op.intArith,Op.intCmp,Op.intBits,Op.intDiv,den,bits];rfl)
     |(split at h<;>first
       |(simp only[Option.some.injEq]at h
         subst h;rename_i n;have h1:¬((Int.ofNat (n+1))=0):=by simp only[Int.ofNat_eq_natCast];omega
         simp only[binOp,Op.intDiv,den,if_neg h1,ne_eq,not_true_eq_false,if_false,ite_false];rfl)
       |cases h)
     |cases h
     |(exact absurd rfl af2)
     |(exact absurd rfl af3)
 ·cases h
theorem R4 {op:UnOp} {x v:V} (h:Yk op x=some v):(Op.unary op (den ids x)).run P w=.ok (den ids v) w:=by
 unfold Yk at h;split at h
 ·simp only[Option.some.injEq]at h;subst h;simp[Op.unary,den]
 ·simp only[Option.some.injEq]at h;subst h;simp[Op.unary,Op.intArith,den]
 ·simp only[Option.some.injEq]at h;subst h;rename_i k n;cases hk:k.signed<;>simp[Op.unary,Op.intBits,bits,den,hk]
 ·cases h
end
def sQ (pl:Nat->Option (Nat×Nat)):List V->List (Nat×V)->Option (List V)
 |c,[]=>some c
 |c,(i,v)::l=>match pl i with
  |some (off,n)=>bif IH v&&Nat.beq (fb (dP v)) n then(match R1 c off n (dP v)with|some c'=>sQ pl c' l|none=>none)else none
  |none=>none
def placesOf (P:Program) (fs:Array Field) (i:Nat):Option (Nat×Nat):=match fs[i]?with
 |some f=>(match kY P f.type with|some n=>some (f.offset,n)|none=>none)
 |none=>none
def mM (P:Program) (t:TypeId) (l:List V) (off:Nat):Option V:=match iS P t,kY P t with
 |some true,some n=>(match A1 l off n with|some c=>some (.agg c)|none=>none)
 |some false,_=>nN l off
 |_,_=>none
def yF (e:Operand->V) (ps:Array (Nat×Operand)):List (Nat×V):=ps.toList.map λp=>(p.1,e p.2)
def LN (P:Program) (fs:Array Field):Bool:=fs.toList.all λf=>match kY P f.type with|some _=>true|none=>false
section
variable{ids:List Nat} {P:Program} {w:World}
theorem IJ (off:Nat):∀(vs:List Value) (cs:Array Value) (k:Nat),off+k+vs.length<=cs.size->
 ((vs.zipIdx k).foldl (λ(cs:Array Value) (x:Value×Nat)=>cs.setIfInBounds (off+x.2) x.1) cs).toList=cs.toList.take (off+k)++vs++cs.toList.drop (off+k+vs.length):=by
 intro vs;induction vs with
 |nil=>intro cs k h;simp
 |cons v l ih=>
  intro cs k h;simp only[List.length_cons]at h;simp only[List.zipIdx_cons,List.foldl_cons];rw[ih _ _ (by simp;omega)];simp only[Array.toList_setIfInBounds];have h1:off+k<cs.toList.length:=by simp;omega
  rw[show off+(k+1)=off+k+1 by omega];rw[List.take_set,List.drop_set,if_pos (by omega),List.take_succ_eq_append_getElem h1,List.set_append_right _ _ (by simp;omega)];simp only[List.length_take,List.length_cons];rw[show off+k-min (off+k) cs.toList.length=0 by omega];simp only[List.set_cons_zero,List.append_assoc,List.cons_append,List.nil_append];rw[show off+k+1+l.length=off+k+(l.length+1) by omega]
theorem yG {pl:Nat->Option (Nat×Nat)} {place:Nat->Option (Nat×Nat)} (hp:∀i x,pl i=some x->place i=some x):∀(l:List (Nat×V)) (c c':List V),sQ pl c l=some c'->
 Instr.fill place (ai ids c).toArray (l.map λp=>(p.1,den ids p.2))=some (ai ids c').toArray:=by
 intro l;induction l with
 |nil=>intro c c' h;simp only[sQ,Option.some.injEq]at h;subst h;simp[Instr.fill]
 |cons a l ih=>
  intro c c' h;obtain⟨i,v⟩:=a;simp only[sQ]at h;split at h
  ·rename_i off n hpl;cases hb:IH v&&Nat.beq (fb (dP v)) n with
   |false=>rw[hb]at h;simp at h
   |true=>
    rw[hb]at h;simp only[cond_true]at h;simp only[Bool.and_eq_true]at hb;have iZ:fb (dP v)=n:=Nat.eq_of_beq_eq_true hb.2;split at h
    ·rename_i c1 hc1;obtain⟨s1,s2⟩:=GC (ids:=ids) hc1;have LR:=uu (ids:=ids) hb.1;have hlen:(den ids v).cells.size=n:=by rw[<-Array.length_toList,LR,cV,iZ]
     simp only[List.map_cons,Instr.fill,hp i _ hpl];have X6:((decide ((den ids v).cells.size≠n))||decide (off+(den ids v).cells.size>(ai ids c).toArray.size))=false:=by
      simp[hlen];omega
     rw[if_neg (by simp only[ne_eq,Bool.or_eq_true,decide_eq_true_eq];simp[hlen];omega)];have key:(den ids v).cells.zipIdx.foldl (λ(cs:Array Value) (x:Value×Nat)=>cs.setIfInBounds (off+x.2) x.1) (ai ids c).toArray=(ai ids c1).toArray:=by
      apply Array.ext';rw[<-Array.foldl_toList,Array.toList_zipIdx,IJ off _ _ 0 (by simp[hlen];omega)];rw[LR,s1];simp[cV,iZ]
     rw[key];exact ih _ _ h
    ·cases h
  ·cases h
theorem uw {t:TypeId} {i:TypeInfo} (h:P.info? t=some i):(typeInfo t).run P w=.ok i w:=by simp[typeInfo,h]
theorem bA {t:TypeId} {n:Nat} (h:kY P t=some n):(Go.sizeOf t).run P w=.ok n w:=by
 unfold kY at h;split at h
 ·rename_i i hi;simp only[Option.some.injEq]at h;simp[Go.sizeOf,Sem.run_bind,uw hi,h]
 ·cases h
theorem kZ {t:TypeId} {z:List V} (h:j9 P t=some z):∃v,(zeroValue t).run P w=.ok v w/\v.cells.toList=ai ids z:=by
 unfold j9 at h;split at h
 ·rename_i i hi;split at h
  ·rename_i v hv;simp only[Option.some.injEq]at h;subst h;refine⟨v,by simp[zeroValue,Sem.run_bind,uw hi,hv],?_⟩;rw[uv];cases v<;>simp[Value.cells,xm,dP,ai,cl,den,pT]
  ·cases h
 ·cases h
theorem A3 {t:TypeId} {b:Bool} (h:iS P t=some b):(isAgg t).run P w=.ok b w:=by
 unfold iS at h;split at h
 ·rename_i d hd;simp only[Option.some.injEq]at h;exact hJ (by rw[hd];simp[h]) w
 ·cases h
theorem yH {t:TypeId} {l:List V} {off:Nat} {v:V} (h:mM P t l off=some v):(part t (ai ids l).toArray off).run P w=.ok (den ids v) w:=by
 unfold mM at h;split at h
 ·rename_i n ha hn;split at h
  ·rename_i c hc;simp only[Option.some.injEq]at h;subst h;obtain⟨g1,g2,g3⟩:=j8 (ids:=ids) hc;simp only[part,Sem.run_bind,A3 ha,Result.andThen_ok,if_pos,bA hn,Sem.run_pure];simp only[den];congr 2;apply Array.ext';simp[Array.toList_extract,List.extract,g1]
  ·cases h
 ·rename_i ha;have:=yE (ids:=ids) h;simp only[part,Sem.run_bind,A3 ha,Result.andThen_ok,Bool.false_eq_true,if_false];simp[this]
 ·cases h
theorem A4 {fs:List Field} (h:∀f∈fs,∃n,kY P f.type=some n):(fs.mapM λ(f:Field)=>(do pure (f.offset,<-Go.sizeOf f.type):Sem (Nat×Nat))).run P w=.ok (fs.map λf=>(f.offset,(kY P f.type).getD 0)) w:=by
 induction fs with
 |nil=>rfl
 |cons f l ih=>
  obtain⟨n,hn⟩:=h f (by simp);have:=ih (λf hf=>h f (by simp[hf]));simp only[List.mapM_cons,Sem.run_bind,bA hn,Result.andThen_ok,Sem.run_pure,this,List.map_cons,hn,Option.getD_some]
end
def IK (P:Program) (t:TypeId) (x y:V):Option Bool:=match P.underlying t,x,y with
 |some .bool,.bool a,.bool b=>some (a==b)
 |some (.pointer _),.ptr _ _,.raw (.pointer none)=>some false
 |some (.pointer _),.raw (.pointer none),.ptr _ _=>some false
 |some (.pointer _),.raw (.pointer none),.raw (.pointer none)=>some true
 |some (.pointer _),.raw (.pointer (some _)),.raw (.pointer none)=>some false
 |some (.slice _),.sl _ _ _ _,.raw (.slice none _ _)=>some false
 |some (.slice _),.raw (.slice (some _) _ _),.raw (.slice none _ _)=>some false
 |some (.slice _),.raw (.slice none _ _),.raw (.slice none _ _)=>some true
 |_,.agg a,.agg b=>bif(cK 0 a&&cK 0 b)&&!(P.eqGuardType P.depth t)then WB P 10000 t (.agg (ai [] a).toArray) (.agg (ai [] b).toArray)else none
 |_,_,_=>none
def D4 (P:Program) (op:BinOp) (t:TypeId) (x y:V):Option V:=match LD op x y with
 |some v=>some v
 |none=>match op with
  |.eql=>(match IK P t x y with|some r=>some (.bool r)|none=>none)
  |.neq=>(match IK P t x y with|some r=>some (.bool (!r))|none=>none)
  |_=>none
def GD (v:V):Option V:=match v with
 |.ptr i o=>some (.ptr i o)
 |.fn f a b=>some (.fn f a b)
 |.pe i o j z k=>some (.pe i o j z k)
 |.raw (.pointer (some a))=>some (.raw (.pointer (some a)))
 |_=>none
def Yl (P:Program) (t:TypeId) (x ix:V):Option V:=match P.underlying t,x,ix with
 |some (.array n el),.ptr i off,.int _ (.ofNat j)=>bif Nat.blt j n then(match kY P el with|some z=>some (.ptr i (off+j*z))|none=>none)else none
 |some (.slice el),.sl i off n _,.int _ (.ofNat j)=>bif Nat.blt j n then(match kY P el with|some z=>some (.ptr i (off+j*z))|none=>none)else none
 |_,_,_=>none
def Ym (P:Program) (s:TypeId) (x:V) (f:Nat):Option V:=match P.underlying s,x with
 |some (.struct fs),.ptr i off=>(match fs[f]?with
  |some fd=>(match kY P fd.type with|some (_+1)=>some (.ptr i (off+fd.offset))|_=>none)
  |none=>none)
 |some (.struct fs),.pe i o j z k=>(match fs[f]?with
  |some fd=>(match kY P fd.type with|some (_+1)=>some (.pe i o j z (k+fd.offset))|_=>none)
  |none=>none)
 |_,_=>none
def D5 (P:Program) (t:TypeId) (ps:List (Nat×V)):Option V:=match P.underlying t,j9 P t with
 |some (.struct fs),some z=>bif LN P fs then(match sQ (placesOf P fs) z ps with|some c=>some (.agg c)|none=>none)else none
 |some (.array _ el),some z=>(match kY P el with|some n=>(match sQ (λi=>some (i*n,n)) z ps with|some c=>some (.agg c)|none=>none)|none=>none)
 |_,_=>none
def Yn (P:Program) (t:TypeId) (x:V):Option V:=match P.underlying t,x with
 |some (.slice _),.sl _ _ n _=>some (.int .i64 (n:Int))
 |some (.slice _),.je _ _ n _ _=>some (.int .i64 (n:Int))
 |some (.slice _),.raw (.slice _ n _)=>some (.int .i64 (n:Int))
 |some (.array n _),_=>some (.int .i64 (n:Int))
 |_,_=>none
def yI (x:V) (y:Nat):Option Nat:=match x with
 |.int _ (.ofNat i)=>bif Nat.ble i y then some i else none
 |_=>none
def rG (e:Operand->V) (o:Option Operand) (y d:Nat):Option Nat:=match o with
 |some x=>yI (e x) y
 |none=>some d
def slV (P:Program) (e:Operand->V) (t:TypeId) (x:V) (lo hi:Option Operand):Option V:=match P.underlying t,x with
 |some (.slice el),.sl i off n c=>(match rG e hi c n,kY P el with
  |some h,some z=>(match rG e lo h 0 with
   |some l=>some (.sl i (bif Nat.beq c l then off else off+l*z) (h-l) (c-l))
   |none=>none)
  |_,_=>none)
 |some (.pointer arr),.ptr i off=>(match P.underlying arr with
  |some (.array n el)=>(match rG e hi n n,kY P el with
   |some h,some z=>(match rG e lo h 0 with
    |some l=>some (.sl i (bif Nat.beq n l then off else off+l*z) (h-l) (n-l))
    |none=>none)
   |_,_=>none)
  |_=>none)
 |some (.array n el),.ptr i off=>(match rG e hi n n,kY P el with
  |some h,some z=>(match rG e lo h 0 with
   |some l=>some (.sl i (bif Nat.beq n l then off else off+l*z) (h-l) (n-l))
   |none=>none)
  |_,_=>none)
 |_,_=>none
def Yo (P:Program) (e:Operand->V) (t:TypeId) (x:V) (lo:Option Operand) (hi mx:Operand):Option V:=match P.underlying t,x with
 |some (.pointer arr),.ptr i off=>(match P.underlying arr with
  |some (.array n el)=>(match yI (e mx) n,kY P el with
   |some m,some z=>(match yI (e hi) m with
    |some h=>(match rG e lo h 0 with
     |some l=>some (.sl i (bif Nat.beq m l then off else off+l*z) (h-l) (m-l))
     |none=>none)
    |none=>none)
   |_,_=>none)
  |_=>none)
 |some (.array n el),.ptr i off=>(match yI (e mx) n,kY P el with
  |some m,some z=>(match yI (e hi) m with
   |some h=>(match rG e lo h 0 with
    |some l=>some (.sl i (bif Nat.beq m l then off else off+l*z) (h-l) (m-l))
    |none=>none)
   |none=>none)
  |_,_=>none)
 |_,_=>none
def acv (x y:V):Option V:=match x,y with
 |.int k a,.int _ b=>some (.int k (if b<a then b else a))
 |_,_=>none
def acw (x y:V):Option V:=match x,y with
 |.int k a,.int _ b=>some (.int k (if b>a then b else a))
 |_,_=>none
def Yp (P:Program) (arr:TypeId) (x:V):Option V:=match P.underlying arr,x with
 |some (.array n _),.sl i off len c=>bif Nat.ble n len then some (.ptr i off)else none
 |_,_=>none
def evQ (P:Program) (e:Operand->V):Op->Option V
 |.move x=>some (e x)
 |.assign x=>some (e x)
 |.pick c a b=>(match e c with|.bool c=>some (Ly c (e a) (e b))|_=>none)
 |.nilCheck x=>GD (e x)
 |.binOp op t x y _=>D4 P op t (e x) (e y)
 |.unOp op _ x=>Yk op (e x)
 |.convert s d x=>(match P.underlying s,P.underlying d,e x with|some _,some (.int k),.int _ n=>some (.int k (k.wrap n))|_,_,_=>none)
 |.makeFunc (.func f) a b=>some (.fn f (a.toList.map e) (b.toList.map e))
 |.makeInterface t x=>(match P.underlying t with|some (.interface _)=>none|some _=>some (.A0 t (e x))|none=>none)
 |.build t ps=>D5 P t (yF e ps)
 |.fieldAddr s x f=>Ym P s (e x) f
 |.field s x f=>(match P.underlying s,e x with
  |some (.struct fs),.agg l=>(match fs[f]?with|some fd=>mM P fd.type l fd.offset|none=>none)
  |_,_=>none)
 |.indexAddr t x ix=>Yl P t (e x) (e ix)
 |.index t x ix=>(match P.underlying t,e x,e ix with
  |some (.array n el),.agg l,.int _ (.ofNat j)=>bif Nat.blt j n then(match kY P el with|some z=>mM P el l (j*z)|none=>none)else none
  |some .string,.raw (.string s),.int _ (.ofNat j)=>(match s[j]?with|some b=>some (.int .u8 b.toNat)|none=>none)
  |_,_,_=>none)
 |.extract x i=>(match e x with|.aI l=>(match l[i]?with|some v=>some v|none=>none)|_=>none)
 |.call c=>(match c.callee,c.args.toList,c.argTypes.toList with
  |.builtin .len,[x],t::_=>Yn P t (e x)
  |.builtin .min,[x,y],_=>acv (e x) (e y)
  |.builtin .max,[x,y],_=>acw (e x) (e y)
  |_,_,_=>none)
 |.slice t x lo hi none=>slV P e t (e x) lo hi
 |.slice t x lo (some hi) (some mx)=>Yo P e t (e x) lo hi mx
 |.sliceToArrayPointer arr x=>Yp P arr (e x)
 |_=>none
section
variable{ids:List Nat} {P:Program} {w:World} {e:Operand->V} {ρ:Operand->Value}
theorem GF {t:TypeId} {x y:V} {r:Bool} (h:IK P t x y=some r) (xo yo:Operand) (op:BinOp) (wP:op=.eql\/op=.neq):
 (eqGuard op t xo yo (den ids x) (den ids y)).run P w=.ok () w/\(Op.equal t (den ids x) (den ids y)).run P w=.ok r w:=by
 have g0:∀(a b:Value),(∀x,a≠.agg x)->(a≠.nilIface)->(eqGuard op t xo yo a b).run P w=.ok () w:=by
  intro a b h1 h2;unfold eqGuard;rcases wP with rfl|rfl<;>(cases a<;>first|rfl|(exact absurd rfl h2)|(exact absurd rfl (h1 _)))
 unfold IK at h;split at h
 case h_9=>
  rename_i a b;cases hb:(cK 0 a&&cK 0 b)&&!(P.eqGuardType P.depth t)with
  |false=>rw[hb]at h;simp at h
  |true=>
   rw[hb]at h;simp only[cond_true]at h;simp only[Bool.and_eq_true,Bool.not_eq_true']at hb;have ha:ai ids a=ai [] a:=by have:=b_ (ids:=[]) (more:=ids) a hb.1.1;simpa using this
   have WE:ai ids b=ai [] b:=by have:=b_ (ids:=[]) (more:=ids) b hb.1.2;simpa using this
   refine⟨?_,?_⟩
   ·simp only[den];unfold eqGuard;rcases wP with rfl|rfl<;>simp[hb.2]
   ·have:=tz 10000 t _ _ r h w;simp only[den,ha,WE];exact this
 all_goals first
  |(rename_i hu
    simp only[Option.some.injEq]at h;subst h;refine⟨g0 _ _ (by intro x;simp[den]) (by simp[den]),?_⟩;simp only[den];unfold Op.equal Op.maxDepth Op.equalIn;simp[Sem.run_bind,run_underlying hu]
    done)
  |cases h
theorem ux {t:TypeId} {x y:V} {r:Bool} (h:IK P t x y=some r):(∃b,den ids x=.bool b)\/(∃b,den ids x=.pointer b/\∃c,den ids y=.pointer c)\/(∃b n c,den ids x=.slice b n c)\/(∃b,den ids x=.agg b):=by
 unfold IK at h;split at h<;>first|(exact .inl ⟨_,by simp only[den];rfl⟩)|(exact .inr (.inl ⟨_,by simp only[den];rfl,_,by simp only[den];rfl⟩))|(exact .inr (.inr (.inl ⟨_,_,_,by simp only[den];rfl⟩)))|(exact .inr (.inr (.inr ⟨_,by simp only[den];rfl⟩)))|cases h
theorem IL {op:BinOp} {t:TypeId} {x y v:V} (h:D4 P op t x y=some v) (xo yo:Operand):
 ((do eqGuard op t xo yo (den ids x) (den ids y);binOp op t (den ids x) (den ids y)):Sem Value).run P w=.ok (den ids v) w:=by
 unfold D4 at h;split at h
 ·rename_i v' hv;simp only[Option.some.injEq]at h;subst h;exact LJ hv t xo yo
 ·split at h
  ·split at h
   ·rename_i r hr;simp only[Option.some.injEq]at h;subst h;obtain⟨h1,h2⟩:=GF (ids:=ids) (w:=w) hr xo yo .eql (.inl rfl);simp only[Sem.run_bind,h1,Result.andThen_ok];have h3:binOp .eql t (den ids x) (den ids y)=(do pure (.bool (<-Op.equal t (den ids x) (den ids y)))):=by
     rcases ux (ids:=ids) hr with⟨b,hb⟩|⟨b,hb,c,hc⟩|⟨b,n,c,hb⟩|⟨b,hb⟩
     ·rw[hb];rfl
     ·rw[hb,hc];rfl
     ·rw[hb];rfl
     ·rw[hb];rfl
    rw[h3];simp[Sem.run_bind,h2,den]
   ·cases h
  ·split at h
   ·rename_i r hr;simp only[Option.some.injEq]at h;subst h;obtain⟨h1,h2⟩:=GF (ids:=ids) (w:=w) hr xo yo .neq (.inr rfl);simp only[Sem.run_bind,h1,Result.andThen_ok];have h3:binOp .neq t (den ids x) (den ids y)=(do pure (.bool (!(<-Op.equal t (den ids x) (den ids y))))):=by
     rcases ux (ids:=ids) hr with⟨b,hb⟩|⟨b,hb,c,hc⟩|⟨b,n,c,hb⟩|⟨b,hb⟩
     ·rw[hb];rfl
     ·rw[hb,hc];rfl
     ·rw[hb];rfl
     ·rw[hb];rfl
    rw[h3];simp[Sem.run_bind,h2,den]
   ·cases h
  ·cases h
theorem LS {x v:V} (h:GD x=some v):v=x/\(∀(f:Value->Sem Next) (g:Sem Next),(match den ids x with
 |.pointer none|.nilIface|.nilFunc=>g
 |x=>f x)=f (den ids x)):=by
 unfold GD at h;split at h<;>first|(simp only[Option.some.injEq]at h;subst h;exact⟨rfl,λf g=>by simp[den]⟩)|cases h
theorem fA (b off k:Nat):(⟨b,off,none⟩:Addr).add k=⟨b,off+k,none⟩:=by unfold Addr.add;split<;>simp_all
theorem R5 {t:TypeId} {x ix v:V} (h:Yl P t x ix=some v):(Instr.indexAt t (den ids x) (den ids ix)).run P w=.ok (den ids v) w:=by
 unfold Yl at h;split at h
 ·rename_i n el i off k j hu;cases hb:Nat.blt j n with
  |false=>rw[hb]at h;simp at h
  |true=>
   rw[hb]at h;simp only[cond_true]at h;have hj:j<n:=by rw[Nat.blt_eq]at hb;exact hb
   split at h
   ·rename_i z hz;simp only[Option.some.injEq]at h;subst h;have h1:(0:Int)<=Int.ofNat j/\Int.ofNat j<(n:Int):=by simp only[Int.ofNat_eq_natCast];omega
    simp only[Instr.indexAt,den,asIntOf,Instr.sureAddr,Sem.run_bind,Sem.run_pure,Result.andThen_ok,run_underlying hu];rw[if_pos h1];simp[Sem.run_bind,bA hz,fA]
   ·cases h
 ·rename_i el i off n c k j hu;cases hb:Nat.blt j n with
  |false=>rw[hb]at h;simp at h
  |true=>
   rw[hb]at h;simp only[cond_true]at h;have hj:j<n:=by rw[Nat.blt_eq]at hb;exact hb
   split at h
   ·rename_i z hz;simp only[Option.some.injEq]at h;subst h;have h1:(0:Int)<=Int.ofNat j/\Int.ofNat j<(n:Int):=by simp only[Int.ofNat_eq_natCast];omega
    simp only[Instr.indexAt,den,asIntOf,Sem.run_bind,Sem.run_pure,Result.andThen_ok,run_underlying hu];rw[if_pos h1];simp[Sem.run_bind,bA hz,fA]
   ·cases h
 ·cases h
theorem R6 {s:TypeId} {x v:V} {f:Nat} (h:Ym P s x f=some v):(Instr.fieldAt s (den ids x) f).run P w=.ok (den ids v) w:=by
 unfold Ym at h;split at h
 ·rename_i fs i off hu;split at h
  ·rename_i fd hfd;split at h
   ·rename_i n hn;simp only[Option.some.injEq]at h;subst h;simp[Instr.fieldAt,Instr.sureAddr,den,Sem.run_bind,run_underlying hu,hfd,fieldPlace,bA hn,fA]
   ·cases h
  ·cases h
 ·rename_i fs i j z k hu;split at h
  ·rename_i fd hfd;split at h
   ·rename_i n hn;simp only[Option.some.injEq]at h;subst h;simp[Instr.fieldAt,Instr.sureAddr,den,Sem.run_bind,run_underlying hu,hfd,fieldPlace,bA hn,fA,Nat.add_assoc]
   ·cases h
  ·cases h
 ·cases h
theorem IM {t:TypeId} {ps:List (Nat×V)} {v:V} (h:D5 P t ps=some v):(Instr.build t (ps.map λp=>(p.1,den ids p.2)).toArray).run P w=.ok (den ids v) w:=by
 unfold D5 at h;split at h
 ·rename_i fs z hu hz;cases hk:LN P fs with
  |false=>rw[hk]at h;simp at h
  |true=>
   rw[hk]at h;simp only[cond_true]at h;split at h
   ·rename_i c hc;simp only[Option.some.injEq]at h;subst h;obtain⟨v0,z1,z2⟩:=kZ (P:=P) (w:=w) (ids:=ids) hz;have hm:=A4 (P:=P) (w:=w) (fs:=fs.toList) (λf hf=>by
     have:=(List.all_eq_true.1 hk) f hf;split at this
     ·rename_i n hn;exact⟨n,hn⟩
     ·cases this)
    have LU:(fs.mapM λ(f:Field)=>(do pure (f.offset,<-Go.sizeOf f.type):Sem (Nat×Nat))).run P w=.ok (fs.toList.map λf=>(f.offset,(kY P f.type).getD 0)).toArray w:=by
     have e:fs=fs.toList.toArray:=by simp
     rw[e,List.mapM_toArray];simp only[Sem.run_map,hm,Result.andThen_ok]
    have hf:=yG (ids:=ids) (place:=λi=>((fs.toList.map λf=>(f.offset,(kY P f.type).getD 0)).toArray)[i]?) (λi x hx=>by
     unfold placesOf at hx;split at hx
     ·rename_i f hf;split at hx
      ·rename_i n hn;simp only[Option.some.injEq]at hx;subst hx;simp[hf,hn]
      ·cases hx
     ·cases hx) ps z c hc
    have Yq:v0.cells=(ai ids z).toArray:=by apply Array.ext';simpa using z2
    simp only[Instr.build,Sem.run_bind,z1,Result.andThen_ok,run_underlying hu,LU,Yq];simp only[den];rw[hf];rfl
   ·cases h
 ·rename_i n el z hu hz;split at h
  ·rename_i m hm;split at h
   ·rename_i c hc;simp only[Option.some.injEq]at h;subst h;obtain⟨v0,z1,z2⟩:=kZ (P:=P) (w:=w) (ids:=ids) hz;have hf:=yG (ids:=ids) (place:=λi=>some (i*m,m)) (λi x hx=>hx) ps z c hc;have Yq:v0.cells=(ai ids z).toArray:=by apply Array.ext';simpa using z2
    simp only[Instr.build,Sem.run_bind,z1,Result.andThen_ok,run_underlying hu,bA hm,Yq];simp only[den];rw[hf];rfl
   ·cases h
  ·cases h
 ·cases h
end
section
variable{ids:List Nat} {P:Program} {w:World} {e:Operand->V} {ρ:Operand->Value}
theorem R7 {t:TypeId} {x v:V} (h:Yn P t x=some v) (ty:TypeId) (ts:Array TypeId) (ht:ts[0]?=some t):(Builtin.len_ ts ty #[den ids x]).run P w=.ok (den ids v) w:=by
 unfold Yn at h;split at h<;>first
  |(rename_i hu
    simp only[Option.some.injEq]at h;subst h;simp[Builtin.len_,ht,Sem.run_bind,run_underlying hu,den,goInt]
    done)
  |cases h
theorem xp (ps:Array (Nat×Operand)) (cX:∀x,ρ x=den ids (e x)):(ps.map λ(p:Nat×Operand)=>(p.1,ρ p.2))=((yF e ps).map λp=>(p.1,den ids p.2)).toArray:=by
 apply Array.ext';simp[yF,cX]
theorem LV (l:List Operand) (cX:∀x,ρ x=den ids (e x)):az ids (l.map e)=l.map ρ:=by
 rw[j7,List.map_map];apply List.map_congr_left;intro x _;exact(cX x).symm
theorem nr {x:V} {y i:Nat} (code:BoundsCode) (h:yI x y=some i):(Instr.sliceBound (den ids x) y code).run P w=.ok i w/\i<=y:=by
 unfold yI at h;split at h
 ·rename_i k j;cases hb:Nat.ble j y with
  |false=>rw[hb]at h;cases h
  |true=>
   rw[hb]at h;obtain rfl:j=i:=by simpa using h
   have hle:=Nat.le_of_ble_eq_true hb;refine⟨?_,hle⟩;have h2:(0:Int)<=Int.ofNat j/\Int.ofNat j<=(y:Int):=⟨Int.natCast_nonneg j,Int.ofNat_le.2 hle⟩;simp only[Instr.sliceBound,den,asIntOf,Sem.run_bind,Sem.run_pure,Result.andThen_ok,if_pos h2];rfl
 ·cases h
theorem uy (cX:∀x,ρ x=den ids (e x)) {lo hi:Option Operand} {len cap h l:Nat} (b:Bool) (h1:rG e hi cap len=some h) (h2:rG e lo h 0=some l):
 (Instr.sliceBounds b len cap (lo.map ρ) (hi.map ρ) none).run P w=.ok (l,h,cap) w:=by
 unfold rG at h1 h2;cases hi with
 |none=>
  obtain rfl:len=h:=by simpa using h1
  cases lo with
  |none=>
   obtain rfl:0=l:=by simpa using h2
   simp[Instr.sliceBounds,Result.andThen]
  |some x=>
   have:=nr (P:=P) (ids:=ids) (w:=w) .sliceB h2;simp[Instr.sliceBounds,Result.andThen,cX,this.1]
 |some y=>
  have a1:=λc=>(nr (P:=P) (ids:=ids) (w:=w) c h1).1;cases lo with
  |none=>
   obtain rfl:0=l:=by simpa using h2
   simp[Instr.sliceBounds,Result.andThen,cX,a1]
  |some x=>
   have:=nr (P:=P) (ids:=ids) (w:=w) .sliceB h2;simp[Instr.sliceBounds,Result.andThen,cX,this.1,a1]
theorem Yr (cX:∀x,ρ x=den ids (e x)) {t:TypeId} {x:Operand} {lo hi:Option Operand} {v:V} (h:slV P e t (e x) lo hi=some v):(Instr.sliceAt t (ρ x) (lo.map ρ) (hi.map ρ) none).run P w=.ok (den ids v) w:=by
 unfold slV at h;have fin:∀(c l off z i:Nat),(if c=l then(⟨ids.getD i 0,off,none⟩:Addr)else Addr.add ⟨ids.getD i 0,off,none⟩ (l*z))=⟨ids.getD i 0,bif Nat.beq c l then off else off+l*z,none⟩:=by
  intro c l off z i;by_cases hc:c=l
  ·subst hc;simp
  ·have:Nat.beq c l=false:=by
    cases hb:Nat.beq c l with
    |true=>exact absurd (Nat.eq_of_beq_eq_true hb) hc
    |false=>rfl
   rw[if_neg hc,this,Addr.add_lit];rfl
 split at h
 ·rename_i el i off n c hu hx;split at h
  ·rename_i hh z h1 hz;split at h
   ·rename_i l h2;obtain rfl:=Option.some.inj h;have hb:=uy (P:=P) (w:=w) cX true h1 h2;have hs:=bA (P:=P) (w:=w) hz;have:=fin c l off z i;simp only[den,<-this];have run:(Instr.sliceAt t (ρ x) (lo.map ρ) (hi.map ρ) none).run P w=.ok (.slice (if c=l then some ⟨ids.getD i 0,off,none⟩else some (Addr.add ⟨ids.getD i 0,off,none⟩ (l*z))) (hh-l) (c-l)) w:=by
     simp[Instr.sliceAt,Instr.slice,run_underlying hu,cX,hx,den,hb,hs,Result.andThen]
    rw[run];by_cases hc:c=l
    ·rw[if_pos hc,if_pos hc]
    ·rw[if_neg hc,if_neg hc]
   ·cases h
  ·cases h
 ·rename_i arr i off hu hx;split at h
  ·rename_i n el hu2;split at h
   ·rename_i hh z h1 hz;split at h
    ·rename_i l h2;obtain rfl:=Option.some.inj h;have hb:=uy (P:=P) (w:=w) cX false h1 h2;have hs:=bA (P:=P) (w:=w) hz;have:=fin n l off z i;simp only[den,<-this];simp[Instr.sliceAt,Instr.slice,run_underlying hu,run_underlying hu2,asAddr,cX,hx,den,hb,hs,Result.andThen]
    ·cases h
   ·cases h
  ·cases h
 ·rename_i n el i off hu hx;split at h
  ·rename_i hh z h1 hz;split at h
   ·rename_i l h2;obtain rfl:=Option.some.inj h;have hb:=uy (P:=P) (w:=w) cX false h1 h2;have hs:=bA (P:=P) (w:=w) hz;have:=fin n l off z i;simp only[den,<-this];simp[Instr.sliceAt,Instr.sureAddr,run_underlying hu,cX,hx,den,hb,hs,Result.andThen]
   ·cases h
  ·cases h
 ·cases h
theorem xq (cX:∀x,ρ x=den ids (e x)) {lo:Option Operand} {hi mx:Operand} {len cap m h l:Nat} (b:Bool) (h0:yI (e mx) cap=some m) (h1:yI (e hi) m=some h) (h2:rG e lo h 0=some l):
 (Instr.sliceBounds b len cap (lo.map ρ) (some (ρ hi)) (some (ρ mx))).run P w=.ok (l,h,m) w:=by
 have a0:=λc=>(nr (P:=P) (ids:=ids) (w:=w) c h0).1;have a1:=λc=>(nr (P:=P) (ids:=ids) (w:=w) c h1).1;unfold rG at h2;cases lo with
 |none=>
  obtain rfl:0=l:=by simpa using h2
  simp[Instr.sliceBounds,Result.andThen,cX,a0,a1]
 |some x=>
  have:=λc=>(nr (P:=P) (ids:=ids) (w:=w) c h2).1;simp[Instr.sliceBounds,Result.andThen,cX,a0,a1,this]
theorem R8 (cX:∀x,ρ x=den ids (e x)) {t:TypeId} {x:Operand} {lo:Option Operand} {hi mx:Operand} {v:V} (h:Yo P e t (e x) lo hi mx=some v):(Instr.sliceAt t (ρ x) (lo.map ρ) (some (ρ hi)) (some (ρ mx))).run P w=.ok (den ids v) w:=by
 unfold Yo at h;have fin:∀(c l off z i:Nat),(if c=l then(⟨ids.getD i 0,off,none⟩:Addr)else Addr.add ⟨ids.getD i 0,off,none⟩ (l*z))=⟨ids.getD i 0,bif Nat.beq c l then off else off+l*z,none⟩:=by
  intro c l off z i;by_cases hc:c=l
  ·subst hc;simp
  ·have:Nat.beq c l=false:=by
    cases hb:Nat.beq c l with
    |true=>exact absurd (Nat.eq_of_beq_eq_true hb) hc
    |false=>rfl
   rw[if_neg hc,this,Addr.add_lit];rfl
 split at h
 ·rename_i arr i off hu hx;split at h
  ·rename_i n el hu2;split at h
   ·rename_i m z h0 hz;split at h
    ·rename_i hh h1;split at h
     ·rename_i l h2;obtain rfl:=Option.some.inj h;have hb:=xq (P:=P) (w:=w) (len:=n) cX false h0 h1 h2;have hs:=bA (P:=P) (w:=w) hz;have:=fin m l off z i;simp only[den,<-this];simp[Instr.sliceAt,Instr.slice,run_underlying hu,run_underlying hu2,asAddr,cX,hx,den,hs,Result.andThen]at hb⊢;simp[hb,hs]
     ·cases h
    ·cases h
   ·cases h
  ·cases h
 ·rename_i n el i off hu hx;split at h
  ·rename_i m z h0 hz;split at h
   ·rename_i hh h1;split at h
    ·rename_i l h2;obtain rfl:=Option.some.inj h;have hb:=xq (P:=P) (w:=w) (len:=n) cX false h0 h1 h2;have hs:=bA (P:=P) (w:=w) hz;have:=fin m l off z i;simp only[den,<-this];simp[Instr.sliceAt,Instr.sureAddr,run_underlying hu,cX,hx,den,hs,Result.andThen]at hb⊢;simp[hb,hs]
    ·cases h
   ·cases h
  ·cases h
 ·cases h
theorem R9 {arr:TypeId} {x v:V} (h:Yp P arr x=some v):(Instr.arrayAt arr (den ids x)).run P w=.ok (den ids v) w:=by
 unfold Yp at h;split at h
 ·rename_i n el i off len c hu;cases hq:Nat.ble n len with
  |false=>rw[hq]at h;cases h
  |true=>
   rw[hq]at h;obtain rfl:=Option.some.inj h;have hle:=Nat.le_of_ble_eq_true hq;simp[Instr.arrayAt,run_underlying hu,den,Result.andThen,Nat.not_lt.2 hle]
 ·cases h
theorem LW (cX:∀x,ρ x=den ids (e x)) (o:Oper) (v:V) (h:evQ P e o.op=some v):(execOp ρ o).run P w=.ok (.value (den ids v)) w:=by
 unfold execOp;unfold evQ at h;split at h
 ·rename_i x ho;simp only[Option.some.injEq]at h;subst h;simp[ho,cX]
 ·rename_i x ho;simp only[Option.some.injEq]at h;subst h;simp[ho,cX]
 ·rename_i c a b ho;split at h
  ·rename_i cb hc;simp only[Option.some.injEq]at h;subst h;simp only[ho,cX,hc,den,asBool,Sem.run_bind,Sem.run_pure,Result.andThen_ok,LF]
  ·cases h
 ·rename_i x ho;obtain⟨rfl,hk⟩:=LS (ids:=ids) h;simp only[ho,cX];unfold GD at h;split at h<;>first|(simp_all[den];done)|cases h
 ·rename_i op t x y yt ho;simp only[ho,cX];rw[Sem.run_bind,IL h];rfl
 ·rename_i op t x ho;simp only[ho,cX];rw[Sem.run_bind,R4 h];rfl
 ·rename_i s d x ho;split at h
  ·rename_i d' k n hs hd hx;simp only[Option.some.injEq]at h;subst h;simp[ho,cX,hx,den,convert,Sem.run_bind,run_underlying hs,run_underlying hd,Conv.intToInt]
  ·cases h
 ·rename_i f a b ho;simp only[Option.some.injEq]at h;subst h;simp only[ho,Instr.makeFunc,den,LV _ cX,Sem.run_bind,Sem.run_pure,Result.andThen_ok];rw[show a.map ρ=(a.toList.map ρ).toArray from by apply Array.ext';simp,show b.map ρ=(b.toList.map ρ).toArray from by apply Array.ext';simp]
 ·rename_i t x ho;split at h
  ·cases h
  ·rename_i d hd hu;simp only[Option.some.injEq]at h;subst h;simp only[ho,cX,Instr.makeInterface,Sem.run_bind,run_underlying hu,Result.andThen_ok];cases d<;>first|(simp[den];done)|(exact absurd rfl (hd _))
  ·cases h
 ·rename_i t ps ho;try simp only[ho]
  rw[Sem.run_bind];have:=IM (ids:=ids) (w:=w) h;rw[show(ps.map λ(x:Nat×Operand)=>match x with|(i,x)=>(i,ρ x))=(ps.map λ(p:Nat×Operand)=>(p.1,ρ p.2))from rfl,xp ps cX,this];rfl
 ·rename_i s x f ho;simp only[ho,cX];rw[Sem.run_bind,R6 h];rfl
 ·rename_i s x f ho;split at h
  ·rename_i fs l hu hx;split at h
   ·rename_i fd hfd;simp only[ho,cX,hx,den,Instr.field,Sem.run_bind,run_underlying hu,Result.andThen_ok,hfd,asAgg,Sem.run_pure,yH h]
   ·cases h
  ·cases h
 ·rename_i t x ix ho;simp only[ho,cX];rw[Sem.run_bind,R5 h];rfl
 ·rename_i t x ix ho;split at h
  ·rename_i n el l k j hu hx rH;cases hb:Nat.blt j n with
   |false=>rw[hb]at h;simp at h
   |true=>
    rw[hb]at h;simp only[cond_true]at h;have hj:j<n:=by rw[Nat.blt_eq]at hb;exact hb
    split at h
    ·rename_i z hz;have h1:(0:Int)<=Int.ofNat j/\Int.ofNat j<(n:Int):=by simp only[Int.ofNat_eq_natCast];omega
     simp only[ho,cX,hx,rH,den,Instr.index,asIntOf,Sem.run_bind,Sem.run_pure,Result.andThen_ok,run_underlying hu];rw[if_pos h1];have:=yH (ids:=ids) (w:=w) h;simp[Sem.run_bind,bA hz,this]
    ·cases h
  ·rename_i s k j hu hx rH;split at h
   ·rename_i b hb;cases h;have h0:(0:Int)<=Int.ofNat j:=Int.natCast_nonneg j;have h1:(Int.ofNat j).toNat=j:=rfl;simp only[ho,cX,hx,rH,den,Instr.index,asIntOf,Sem.run_bind,Sem.run_pure,Result.andThen_ok,run_underlying hu,if_pos h0,h1,hb]
   ·cases h
  ·cases h
 ·rename_i x i ho;split at h
  ·rename_i l hx;split at h
   ·rename_i u hu;simp only[Option.some.injEq]at h;subst h;simp[ho,cX,hx,den,Instr.extract,j7,hu]
   ·cases h
  ·cases h
 ·rename_i c ho;split at h
  ·rename_i x t ts hc ha ht;obtain⟨callee,args,tys⟩:=c;simp only at hc ha ht;subst hc;have R_:args=#[x]:=by apply Array.ext';simpa using ha
   have h0:tys[0]?=some t:=by rw[<-Array.getElem?_toList,ht];rfl
   subst R_;simp only[ho,resolve,Sem.run_bind,Sem.run_pure,Result.andThen_ok,invoke,builtin];rw[show(#[x].map ρ)=#[den ids (e x)] by simp[cX]];rw[R7 h _ _ h0];rfl
  ·rename_i x y hc ha;obtain⟨callee,args,tys⟩:=c;simp only at hc ha;subst hc;have R_:args=#[x,y]:=by apply Array.ext';simpa using ha
   subst R_;unfold acv at h;split at h
   ·rename_i k a k2 b hx hy;obtain rfl:=Option.some.inj h;simp[ho,resolve,invoke,builtin,cX,hx,hy,den,Builtin.min_,Builtin.min2,Result.andThen]
   ·cases h
  ·rename_i x y hc ha;obtain⟨callee,args,tys⟩:=c;simp only at hc ha;subst hc;have R_:args=#[x,y]:=by apply Array.ext';simpa using ha
   subst R_;unfold acw at h;split at h
   ·rename_i k a k2 b hx hy;obtain rfl:=Option.some.inj h;simp[ho,resolve,invoke,builtin,cX,hx,hy,den,Builtin.max_,Builtin.max2,Result.andThen]
   ·cases h
  ·cases h
 ·rename_i t x lo hi ho;simp only[ho,Option.map_none];rw[Sem.run_bind,Yr cX h];rfl
 ·rename_i t x lo hi mx ho;simp only[ho,Option.map_some];rw[Sem.run_bind,R8 cX h];rfl
 ·rename_i arr x ho;simp only[ho,cX];rw[Sem.run_bind,R9 h];rfl
 ·cases h
end
end Vx
namespace Vx
open Go Go.RowKit Go.BigFrame Sx
structure BT where
 t:TypeId
 fz:Nat×Nat
instance(n:Nat):OfNat BT n:=⟨⟨n,(0,0)⟩⟩
instance:Coe TypeId BT:=⟨λt=>⟨t,(0,0)⟩⟩
def A5:BT->Nat->Bool
 |⟨t,(0,0)⟩,n=>Nat.beq t n
 |_,_=>false
theorem yJ {b:BT} {n:Nat} (h:A5 b n=true):b=⟨n,(0,0)⟩:=by
 unfold A5 at h;split at h
 ·rw[Nat.eq_of_beq_eq_true h]
 ·cases h
structure VB where
 wr:Bool
 ty:BT
 c:List V
def aW (ids:List Nat) (id:Nat) (b:VB):aC:=⟨id,b.wr,.cells (ai ids b.c).toArray b.ty.t b.ty.fz⟩
def lits (ids:List Nat):List Nat->List VB->List aC
 |i::is,b::bl=>aW ids i b::lits ids is bl
 |_,_=>[]
def Rq (P:Program) (bl:List VB) (t:TypeId) (x:V):Option V:=match x with
 |.ptr i off=>(match bl[i]?with
  |some b=>mM P t b.c off
  |none=>none)
 |_=>none
def stV (P:Program) (bl:List VB) (t:TypeId) (x v:V):Option (List VB):=match x with
 |.ptr i off=>(match bl[i]?with
  |some ⟨true,⟨ty,(0,0)⟩,c⟩=>(match kY P t with
   |some n=>bif IH v&&(oF (dP v)&&Nat.beq (fb (dP v)) n)then(match R1 c off n (dP v)with|some c'=>some (bl.set i ⟨true,⟨ty,(0,0)⟩,c'⟩)|none=>none)else none
   |none=>none)
  |_=>none)
 |_=>none
def lM (z:List V):Nat->List V
 |0=>[]
 |n+1=>z++lM z n
def A6 (P:Program) (e:Operand->V) (n:Nat):Op->Option (V×VB)
 |.alloc t=>(match j9 P t with|some z=>some (.ptr n 0,⟨true,t,z⟩)|none=>none)
 |.box t x=>bif IH (e x)then some (.ptr n 0,⟨true,t,dP (e x)⟩)else none
 |.buildSlice t len ps=>(match P.underlying t with
  |some (.slice el)=>(match kY P el,j9 P el with
   |some (z+1),some zc=>bif Nat.beq (fb zc) (z+1)&&(Nat.ble (len*(z+1)) (2^24)&&!(Nat.beq len 0&&Nat.beq z 5))then(match sQ (λi=>some (i*(z+1),z+1)) (lM zc len) (yF e ps)with|some c=>some (.sl n 0 len len,⟨true,el,c⟩)|none=>none)else none
   |_,_=>none)
  |_=>none)
 |_=>none
def ez (n:Nat):List VB->Bool
 |[]=>true
 |b::l=>cK n b.c&&ez n l
section
variable{ids:List Nat} {P:Program} {w w0:World} {ms:List Nat} {e:Operand->V} {ρ:Operand->Value} {bl:List VB} {R:List aC}
theorem jC:∀(is:List Nat) (bl:List VB),is.length=bl.length->(lits ids is bl).length=bl.length
 |[],[],_=>rfl
 |i::is,b::bl,h=>by simp[lits,jC is bl (by simpa using h)]
 |[],_::_,h=>by simp at h
 |_::_,[],h=>by simp at h
theorem yK:∀(is:List Nat) (bl:List VB) {k:Nat} {b:VB},is.length=bl.length->bl[k]?=some b->(lits ids is bl)[k]?=some (aW ids (is.getD k 0) b)
 |[],[],k,b,_,h=>by simp at h
 |i::is,c::bl,k,b,hl,h=>by
  cases k with
  |zero=>simp only[List.getElem?_cons_zero,Option.some.injEq]at h;subst h;simp[lits]
  |succ k=>simpa[lits]using yK is bl (by simpa using hl) (by simpa using h)
 |[],_::_,_,_,h,_=>by simp at h
 |_::_,[],_,_,h,_=>by simp at h
theorem jD:∀(is:List Nat) (bl:List VB) (k:Nat) (b:VB),is.length=bl.length->(lits ids is bl).set k (aW ids (is.getD k 0) b)=lits ids is (bl.set k b)
 |[],[],k,b,_=>by simp[lits]
 |i::is,c::bl,k,b,hl=>by
  cases k with
  |zero=>simp[lits]
  |succ k=>simpa[lits]using jD is bl k b (by simpa using hl)
 |[],_::_,_,_,h=>by simp at h
 |_::_,[],_,_,h=>by simp at h
theorem aY (is js:List Nat) (bl cl:List VB) (h:is.length=bl.length):lits ids (is++js) (bl++cl)=lits ids is bl++lits ids js cl:=by
 induction is generalizing bl with
 |nil=>cases bl with
  |nil=>simp[lits]
  |cons=>simp at h
 |cons i is ih=>cases bl with
  |nil=>simp at h
  |cons b bl=>simp[lits,ih bl (by simpa using h)]
theorem a_ {more:List Nat}:∀(is:List Nat) (bl:List VB),ez ids.length bl=true->lits (ids++more) is bl=lits ids is bl
 |[],_,_=>by simp[lits]
 |_::_,[],_=>by simp[lits]
 |i::is,b::bl,h=>by
  simp only[ez,Bool.and_eq_true]at h;simp only[lits,aW,b_ _ h.1,a_ is bl h.2]
theorem dY (hl:ids.length=bl.length) (S:St ms w0 (lits ids ids bl++R) w) {i:Nat} {b:VB} (h:bl[i]?=some b):
 (lits ids ids bl++R)[i]?=some (aW ids (ids.getD i 0) b)/\w.heap[ids.getD i 0]?=some (.cells (ai ids b.c).toArray b.ty.t b.ty.fz):=by
 have h1:=yK (ids:=ids) ids bl hl h;have h2:(lits ids ids bl++R)[i]?=some (aW ids (ids.getD i 0) b):=by
  rw[List.getElem?_append_left (by rw[jC ids bl hl];rcases Nat.lt_or_ge i bl.length with h'|h';exact h';simp[h']at h)];exact h1
 exact⟨h2,S.at_ i _ h2⟩
theorem yL (hl:ids.length=bl.length) (S:St ms w0 (lits ids ids bl++R) w) {t:TypeId} {x v:V} (h:Rq P bl t x=some v):(Instr.loadAt t (den ids x)).run P w=.ok (den ids v) w:=by
 unfold Rq at h;split at h
 ·rename_i i off;split at h
  ·rename_i b hb;have cD:=(dY hl S hb).2;unfold mM at h;simp only[Instr.loadAt,den,Instr.sureAddr,Sem.run_bind,Sem.run_pure,Result.andThen_ok];split at h
   ·rename_i n ha hn;split at h
    ·rename_i c hc;simp only[Option.some.injEq]at h;subst h;obtain⟨g1,g2,g3⟩:=j8 (ids:=ids) hc;refine kN (n:=n) cD ?_ ?_ ?_ ?_
     ·unfold iS at ha;split at ha
      ·rename_i d hd;rw[hd];simpa using ha
      ·cases ha
     ·unfold kY at hn;split at hn
      ·rename_i d hd;rw[hd];simpa using hn
      ·cases hn
     ·apply Array.ext';simp[Array.toList_extract,List.extract,g1]
     ·simpa using g2
    ·cases h
   ·rename_i ha;have:=yE (ids:=ids) h;refine jo cD ?_ (by simpa using this);unfold iS at ha;split at ha
    ·rename_i d hd;rw[hd];simpa using ha
    ·cases ha
   ·cases h
  ·cases h
 ·cases h
theorem LX (hl:ids.length=bl.length) (S:St ms w0 (lits ids ids bl++R) w) {t:TypeId} {x v:V} {bl':List VB} (h:stV P bl t x v=some bl'):
 ∃w',(Instr.storeAt t (den ids x) (den ids v)).run P w=.ok () w'/\St ms w0 (lits ids ids bl'++R) w'/\ids.length=bl'.length:=by
 unfold stV at h;split at h
 ·rename_i i off;split at h
  ·rename_i ty c hb;split at h
   ·rename_i n hn;cases hq:IH v&&(oF (dP v)&&Nat.beq (fb (dP v)) n)with
    |false=>rw[hq]at h;simp at h
    |true=>
     rw[hq]at h;simp only[cond_true]at h;simp only[Bool.and_eq_true]at hq;obtain⟨q1,q2,q3⟩:=hq;have q3:=Nat.eq_of_beq_eq_true q3;split at h
     ·rename_i c' Rn;simp only[Option.some.injEq]at h;subst h;obtain⟨s1,s2⟩:=GC (ids:=ids) Rn;obtain⟨hi,cD⟩:=dY hl S hb;have hlen:(ai ids (dP v)).length=n:=by rw[cV,q3]
      have bO:=lF (P:=P) (off:=off) (v:=den ids v) (vs:=ai ids (dP v)) cD (uu q1) (by
       unfold kY at hn;split at hn
       ·rename_i d hd;rw[hd];simp[hlen]at hn⊢;exact hn
       ·cases hn) (by simpa[hlen]using s2) (by rw[List.all_eq_true];exact nq q2)
      have nY:=S.step hi rfl (Ch.setRow w (ids.getD i 0) _) (setRow_heap w (ids.getD i 0) _ (splice (ai ids c).toArray off (ai ids (dP v))) ty (0,0) cD);have Gy:splice (ai ids c).toArray off (ai ids (dP v))=(ai ids c').toArray:=by
       apply Array.ext';simp[splice,s1,hlen]
      have wz:i<(lits ids ids bl).length:=by rw[jC ids bl hl];rcases Nat.lt_or_ge i bl.length with h'|h';exact h';simp[h']at hb
      refine⟨w.setRow (ids.getD i 0) (splice (ai ids c).toArray off (ai ids (dP v))),?_,?_,?_⟩
      ·simp only[Instr.storeAt,den,Instr.sureAddr,Sem.run_bind,Sem.run_pure,Result.andThen_ok];exact bO
      ·have A7:=jD (ids:=ids) ids bl i ⟨true,ty,c'⟩ hl;rw[<-A7,<-List.set_append_left _ _ wz];rw[Gy]at nY⊢;exact nY
      ·simpa using hl
     ·cases h
   ·cases h
  ·cases h
 ·cases h
theorem A8 (z:List V) (n:Nat):ai ids (lM z n)=(List.replicate n (ai ids z)).flatten:=by
 induction n with
 |zero=>simp[lM,ai]
 |succ n ih=>simp[lM,bH,ih,List.replicate_succ]
theorem xu (z:Array Value) (m:Nat) (hm:z.size=m+1):∀n,((Array.range (n*(m+1))).map (λi=>z[i%z.size]!)).toList=(List.replicate n z.toList).flatten:=by
 intro n;simp only[Array.toList_map,Array.toList_range];induction n with
 |zero=>simp
 |succ n ih=>
  rw[List.replicate_succ',List.flatten_append,<-ih,Nat.succ_mul,List.range_add,List.map_append,List.map_map];congr 1;simp only[List.flatten_cons,List.flatten_nil,List.append_nil];apply List.ext_getElem?;intro i;rw[List.getElem?_map];by_cases hi:i<m+1
  ·rw[List.getElem?_range hi];simp only[Option.map_some,Function.comp];rw[hm,show(n*(m+1)+i)%(m+1)=i by rw[Nat.mul_comm,Nat.mul_add_mod,Nat.mod_eq_of_lt hi]];simp[getElem!_pos,hm,hi]
  ·rw[List.getElem?_eq_none (by simpa using hi),List.getElem?_eq_none (by simp[hm];omega)];rfl
end
end Vx
