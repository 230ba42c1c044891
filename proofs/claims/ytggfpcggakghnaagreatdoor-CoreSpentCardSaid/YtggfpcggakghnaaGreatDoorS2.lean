/- Part 2 of the proof. -/
import Derived.Test.YtggfpcggakghnaaGreatDoorS1
set_option linter.all false
set_option maxRecDepth 100000
set_option maxHeartbeats 4000000
namespace Vx
open Go Sx
def LV (P:Program) (t:TypeId) (x y:V):Option Bool:=match P.underlying t,x,y with
 |some .bool,.bool a,.bool b=>some (a==b)
 |some (.pointer _),.ptr _ _,.raw (.pointer none)=>some false
 |some (.pointer _),.raw (.pointer none),.ptr _ _=>some false
 |some (.pointer _),.raw (.pointer none),.raw (.pointer none)=>some true
 |some (.pointer _),.raw (.pointer (some _)),.raw (.pointer none)=>some false
 |some (.slice _),.sl _ _ _ _,.raw (.slice none _ _)=>some false
 |some (.slice _),.raw (.slice (some _) _ _),.raw (.slice none _ _)=>some false
 |some (.slice _),.raw (.slice none _ _),.raw (.slice none _ _)=>some true
 |_,.agg a,.agg b=>bif(cH 0 a&&cH 0 b)&&!(P.eqGuardType P.depth t)then Ic P 10000 t (.agg (ab [] a).toArray) (.agg (ab [] b).toArray)else none
 |_,_,_=>none
def v3 (P:Program) (op:BinOp) (t:TypeId) (x y:V):Option V:=match Pn op x y with
 |some v=>some v
 |none=>match op with
  |.eql=>(match LV P t x y with|some r=>some (.bool r)|none=>none)
  |.neq=>(match LV P t x y with|some r=>some (.bool (!r))|none=>none)
  |_=>none
def I6 (v:V):Option V:=match v with
 |.ptr i o=>some (.ptr i o)
 |.fn f a b=>some (.fn f a b)
 |.pe i o j z k=>some (.pe i o j z k)
 |.raw (.pointer (some a))=>some (.raw (.pointer (some a)))
 |_=>none
def ach (P:Program) (t:TypeId) (x ix:V):Option V:=match P.underlying t,x,ix with
 |some (.array n el),.ptr i off,.int _ (.ofNat j)=>bif Nat.blt j n then(match j_ P el with|some z=>some (.ptr i (off+j*z))|none=>none)else none
 |some (.slice el),.sl i off n _,.int _ (.ofNat j)=>bif Nat.blt j n then(match j_ P el with|some z=>some (.ptr i (off+j*z))|none=>none)else none
 |_,_,_=>none
def aci (P:Program) (s:TypeId) (x:V) (f:Nat):Option V:=match P.underlying s,x with
 |some (.struct fs),.ptr i off=>(match fs[f]?with
  |some fd=>(match j_ P fd.type with|some (_+1)=>some (.ptr i (off+fd.offset))|_=>none)
  |none=>none)
 |some (.struct fs),.pe i o j z k=>(match fs[f]?with
  |some fd=>(match j_ P fd.type with|some (_+1)=>some (.pe i o j z (k+fd.offset))|_=>none)
  |none=>none)
 |_,_=>none
def FR (P:Program) (t:TypeId) (ps:List (Nat×V)):Option V:=match P.underlying t,jo P t with
 |some (.struct fs),some z=>bif Pq P fs then(match ug (placesOf P fs) z ps with|some c=>some (.agg c)|none=>none)else none
 |some (.array _ el),some z=>(match j_ P el with|some n=>(match ug (λi=>some (i*n,n)) z ps with|some c=>some (.agg c)|none=>none)|none=>none)
 |_,_=>none
def acj (P:Program) (t:TypeId) (x:V):Option V:=match P.underlying t,x with
 |some (.slice _),.sl _ _ n _=>some (.int .i64 (n:Int))
 |some (.slice _),.oN _ _ n _ _=>some (.int .i64 (n:Int))
 |some (.slice _),.raw (.slice _ n _)=>some (.int .i64 (n:Int))
 |some (.array n _),_=>some (.int .i64 (n:Int))
 |_,_=>none
def Aq (x:V) (y:Nat):Option Nat:=match x with
 |.int _ (.ofNat i)=>bif Nat.ble i y then some i else none
 |_=>none
def sT (e:Operand->V) (o:Option Operand) (y d:Nat):Option Nat:=match o with
 |some x=>Aq (e x) y
 |none=>some d
def slV (P:Program) (e:Operand->V) (t:TypeId) (x:V) (lo hi:Option Operand):Option V:=match P.underlying t,x with
 |some (.slice el),.sl i off n c=>(match sT e hi c n,j_ P el with
  |some h,some z=>(match sT e lo h 0 with
   |some l=>some (.sl i (bif Nat.beq c l then off else off+l*z) (h-l) (c-l))
   |none=>none)
  |_,_=>none)
 |some (.pointer arr),.ptr i off=>(match P.underlying arr with
  |some (.array n el)=>(match sT e hi n n,j_ P el with
   |some h,some z=>(match sT e lo h 0 with
    |some l=>some (.sl i (bif Nat.beq n l then off else off+l*z) (h-l) (n-l))
    |none=>none)
   |_,_=>none)
  |_=>none)
 |some (.array n el),.ptr i off=>(match sT e hi n n,j_ P el with
  |some h,some z=>(match sT e lo h 0 with
   |some l=>some (.sl i (bif Nat.beq n l then off else off+l*z) (h-l) (n-l))
   |none=>none)
  |_,_=>none)
 |_,_=>none
def ack (P:Program) (e:Operand->V) (t:TypeId) (x:V) (lo:Option Operand) (hi mx:Operand):Option V:=match P.underlying t,x with
 |some (.pointer arr),.ptr i off=>(match P.underlying arr with
  |some (.array n el)=>(match Aq (e mx) n,j_ P el with
   |some m,some z=>(match Aq (e hi) m with
    |some h=>(match sT e lo h 0 with
     |some l=>some (.sl i (bif Nat.beq m l then off else off+l*z) (h-l) (m-l))
     |none=>none)
    |none=>none)
   |_,_=>none)
  |_=>none)
 |some (.array n el),.ptr i off=>(match Aq (e mx) n,j_ P el with
  |some m,some z=>(match Aq (e hi) m with
   |some h=>(match sT e lo h 0 with
    |some l=>some (.sl i (bif Nat.beq m l then off else off+l*z) (h-l) (m-l))
    |none=>none)
   |none=>none)
  |_,_=>none)
 |_,_=>none
def agy (x y:V):Option V:=match x,y with
 |.int k a,.int _ b=>some (.int k (if b<a then b else a))
 |_,_=>none
def agz (x y:V):Option V:=match x,y with
 |.int k a,.int _ b=>some (.int k (if b>a then b else a))
 |_,_=>none
def acm (P:Program) (arr:TypeId) (x:V):Option V:=match P.underlying arr,x with
 |some (.array n _),.sl i off len c=>bif Nat.ble n len then some (.ptr i off)else none
 |_,_=>none
def Ww:BinOp->Operand->Bool
 |.rem,.const (.int .i64 (.ofNat 3))=>true
 |_,_=>false
def evQ (P:Program) (e:Operand->V):Op->Option V
 |.move x=>some (e x)
 |.assign x=>some (e x)
 |.pick c a b=>(match e c with|.bool c=>some (Pk c (e a) (e b))|_=>none)
 |.nilCheck x=>I6 (e x)
 |.binOp op t x y _=>bif Ww op y then none else v3 P op t (e x) (e y)
 |.unOp op _ x=>acg op (e x)
 |.convert s d x=>(match P.underlying s,P.underlying d,e x with|some _,some (.int k),.int _ n=>some (.int k (k.wrap n))|_,_,_=>none)
 |.makeFunc (.func f) a b=>some (.fn f (a.toList.map e) (b.toList.map e))
 |.makeInterface t x=>(match P.underlying t with|some (.interface _)=>none|some _=>some (.CM t (e x))|none=>none)
 |.build t ps=>FR P t (An e ps)
 |.fieldAddr s x f=>aci P s (e x) f
 |.field s x f=>(match P.underlying s,e x with
  |some (.struct fs),.agg l=>(match fs[f]?with|some fd=>m_ P fd.type l fd.offset|none=>none)
  |_,_=>none)
 |.indexAddr t x ix=>ach P t (e x) (e ix)
 |.index t x ix=>(match P.underlying t,e x,e ix with
  |some (.array n el),.agg l,.int _ (.ofNat j)=>bif Nat.blt j n then(match j_ P el with|some z=>m_ P el l (j*z)|none=>none)else none
  |some .string,.raw (.string s),.int _ (.ofNat j)=>(match s[j]?with|some b=>some (.int .u8 b.toNat)|none=>none)
  |_,_,_=>none)
 |.extract x i=>(match e x with|.az l=>(match l[i]?with|some v=>some v|none=>none)|_=>none)
 |.call c=>(match c.callee,c.args.toList,c.argTypes.toList with
  |.builtin .len,[x],t::_=>acj P t (e x)
  |.builtin .min,[x,y],_=>agy (e x) (e y)
  |.builtin .max,[x,y],_=>agz (e x) (e y)
  |_,_,_=>none)
 |.slice t x lo hi none=>slV P e t (e x) lo hi
 |.slice t x lo (some hi) (some mx)=>ack P e t (e x) lo hi mx
 |.sliceToArrayPointer arr x=>acm P arr (e x)
 |_=>none
section
variable{ids:List Nat} {P:Program} {w:World} {e:Operand->V} {ρ:Operand->Value}
theorem I7 {t:TypeId} {x y:V} {r:Bool} (h:LV P t x y=some r) (xo yo:Operand) (op:BinOp) (uh:op=.eql\/op=.neq):
 (eqGuard op t xo yo (den ids x) (den ids y)).run P w=.ok () w/\(Op.equal t (den ids x) (den ids y)).run P w=.ok r w:=by
 have g0:∀(a b:Value),(∀x,a≠.agg x)->(a≠.nilIface)->(eqGuard op t xo yo a b).run P w=.ok () w:=by
  intro a b h1 h2;unfold eqGuard;rcases uh with rfl|rfl<;>(cases a<;>first|rfl|(exact absurd rfl h2)|(exact absurd rfl (h1 _)))
 unfold LV at h;split at h
 case h_9=>
  rename_i a b;cases hb:(cH 0 a&&cH 0 b)&&!(P.eqGuardType P.depth t)with
  |false=>rw[hb]at h;simp at h
  |true=>
   rw[hb]at h;simp only[cond_true]at h;simp only[Bool.and_eq_true,Bool.not_eq_true']at hb;have ha:ab ids a=ab [] a:=by have:=bU (ids:=[]) (more:=ids) a hb.1.1;simpa using this
   have Wh:ab ids b=ab [] b:=by have:=bU (ids:=[]) (more:=ids) b hb.1.2;simpa using this
   refine⟨?_,?_⟩
   ·simp only[den];unfold eqGuard;rcases uh with rfl|rfl<;>simp[hb.2]
   ·have:=uY 10000 t _ _ r h w;simp only[den,ha,Wh];exact this
 all_goals first
  |(rename_i hu
    simp only[Option.some.injEq]at h;subst h;refine⟨g0 _ _ (by intro x;simp[den]) (by simp[den]),?_⟩;simp only[den];unfold Op.equal Op.maxDepth Op.equalIn;simp[Sem.run_bind,run_underlying hu]
    done)
  |cases h
theorem v5 {t:TypeId} {x y:V} {r:Bool} (h:LV P t x y=some r):(∃b,den ids x=.bool b)\/(∃b,den ids x=.pointer b/\∃c,den ids y=.pointer c)\/(∃b n c,den ids x=.slice b n c)\/(∃b,den ids x=.agg b):=by
 unfold LV at h;split at h<;>first|(exact .inl ⟨_,by simp only[den];rfl⟩)|(exact .inr (.inl ⟨_,by simp only[den];rfl,_,by simp only[den];rfl⟩))|(exact .inr (.inr (.inl ⟨_,_,_,by simp only[den];rfl⟩)))|(exact .inr (.inr (.inr ⟨_,by simp only[den];rfl⟩)))|cases h
theorem sU {op:BinOp} {t:TypeId} {x y v:V} (h:v3 P op t x y=some v) (xo yo:Operand):
 ((do eqGuard op t xo yo (den ids x) (den ids y);binOp op t (den ids x) (den ids y)):Sem Value).run P w=.ok (den ids v) w:=by
 unfold v3 at h;split at h
 ·rename_i v' hv;simp only[Option.some.injEq]at h;subst h;exact Pp hv t xo yo
 ·split at h
  ·split at h
   ·rename_i r hr;simp only[Option.some.injEq]at h;subst h;obtain⟨h1,h2⟩:=I7 (ids:=ids) (w:=w) hr xo yo .eql (.inl rfl);simp only[Sem.run_bind,h1,Result.andThen_ok];have h3:binOp .eql t (den ids x) (den ids y)=(do pure (.bool (<-Op.equal t (den ids x) (den ids y)))):=by
     rcases v5 (ids:=ids) hr with⟨b,hb⟩|⟨b,hb,c,hc⟩|⟨b,n,c,hb⟩|⟨b,hb⟩
     ·rw[hb];rfl
     ·rw[hb,hc];rfl
     ·rw[hb];rfl
     ·rw[hb];rfl
    rw[h3];simp[Sem.run_bind,h2,den]
   ·cases h
  ·split at h
   ·rename_i r hr;simp only[Option.some.injEq]at h;subst h;obtain⟨h1,h2⟩:=I7 (ids:=ids) (w:=w) hr xo yo .neq (.inr rfl);simp only[Sem.run_bind,h1,Result.andThen_ok];have h3:binOp .neq t (den ids x) (den ids y)=(do pure (.bool (!(<-Op.equal t (den ids x) (den ids y))))):=by
     rcases v5 (ids:=ids) hr with⟨b,hb⟩|⟨b,hb,c,hc⟩|⟨b,n,c,hb⟩|⟨b,hb⟩
     ·rw[hb];rfl
     ·rw[hb,hc];rfl
     ·rw[hb];rfl
     ·rw[hb];rfl
    rw[h3];simp[Sem.run_bind,h2,den]
   ·cases h
  ·cases h
theorem Ps {x v:V} (h:I6 x=some v):v=x/\(∀(f:Value->Sem Next) (g:Sem Next),(match den ids x with
 |.pointer none|.nilIface|.nilFunc=>g
 |x=>f x)=f (den ids x)):=by
 unfold I6 at h;split at h<;>first|(simp only[Option.some.injEq]at h;subst h;exact⟨rfl,λf g=>by simp[den]⟩)|cases h
theorem fO (b off k:Nat):(⟨b,off,none⟩:Addr).add k=⟨b,off+k,none⟩:=by unfold Addr.add;split<;>simp_all
theorem Wx {t:TypeId} {x ix v:V} (h:ach P t x ix=some v):(Instr.indexAt t (den ids x) (den ids ix)).run P w=.ok (den ids v) w:=by
 unfold ach at h;split at h
 ·rename_i n el i off k j hu;cases hb:Nat.blt j n with
  |false=>rw[hb]at h;simp at h
  |true=>
   rw[hb]at h;simp only[cond_true]at h;have hj:j<n:=by rw[Nat.blt_eq]at hb;exact hb
   split at h
   ·rename_i z hz;simp only[Option.some.injEq]at h;subst h;have h1:(0:Int)<=Int.ofNat j/\Int.ofNat j<(n:Int):=by simp only[Int.ofNat_eq_natCast];omega
    simp only[Instr.indexAt,den,asIntOf,Instr.sureAddr,Sem.run_bind,Sem.run_pure,Result.andThen_ok,run_underlying hu];rw[if_pos h1];simp[Sem.run_bind,bu hz,fO]
   ·cases h
 ·rename_i el i off n c k j hu;cases hb:Nat.blt j n with
  |false=>rw[hb]at h;simp at h
  |true=>
   rw[hb]at h;simp only[cond_true]at h;have hj:j<n:=by rw[Nat.blt_eq]at hb;exact hb
   split at h
   ·rename_i z hz;simp only[Option.some.injEq]at h;subst h;have h1:(0:Int)<=Int.ofNat j/\Int.ofNat j<(n:Int):=by simp only[Int.ofNat_eq_natCast];omega
    simp only[Instr.indexAt,den,asIntOf,Sem.run_bind,Sem.run_pure,Result.andThen_ok,run_underlying hu];rw[if_pos h1];simp[Sem.run_bind,bu hz,fO]
   ·cases h
 ·cases h
theorem Wy {s:TypeId} {x v:V} {f:Nat} (h:aci P s x f=some v):(Instr.fieldAt s (den ids x) f).run P w=.ok (den ids v) w:=by
 unfold aci at h;split at h
 ·rename_i fs i off hu;split at h
  ·rename_i fd hfd;split at h
   ·rename_i n hn;simp only[Option.some.injEq]at h;subst h;simp[Instr.fieldAt,Instr.sureAddr,den,Sem.run_bind,run_underlying hu,hfd,fieldPlace,bu hn,fO]
   ·cases h
  ·cases h
 ·rename_i fs i j z k hu;split at h
  ·rename_i fd hfd;split at h
   ·rename_i n hn;simp only[Option.some.injEq]at h;subst h;simp[Instr.fieldAt,Instr.sureAddr,den,Sem.run_bind,run_underlying hu,hfd,fieldPlace,bu hn,fO,Nat.add_assoc]
   ·cases h
  ·cases h
 ·cases h
theorem LW {t:TypeId} {ps:List (Nat×V)} {v:V} (h:FR P t ps=some v):(Instr.build t (ps.map λp=>(p.1,den ids p.2)).toArray).run P w=.ok (den ids v) w:=by
 unfold FR at h;split at h
 ·rename_i fs z hu hz;cases hk:Pq P fs with
  |false=>rw[hk]at h;simp at h
  |true=>
   rw[hk]at h;simp only[cond_true]at h;split at h
   ·rename_i c hc;simp only[Option.some.injEq]at h;subst h;obtain⟨v0,z1,z2⟩:=jM (P:=P) (w:=w) (ids:=ids) hz;have hm:=CQ (P:=P) (w:=w) (fs:=fs.toList) (λf hf=>by
     have:=(List.all_eq_true.1 hk) f hf;split at this
     ·rename_i n hn;exact⟨n,hn⟩
     ·cases this)
    have Wz:(fs.mapM λ(f:Field)=>(do pure (f.offset,<-Go.sizeOf f.type):Sem (Nat×Nat))).run P w=.ok (fs.toList.map λf=>(f.offset,(j_ P f.type).getD 0)).toArray w:=by
     have e:fs=fs.toList.toArray:=by simp
     rw[e,List.mapM_toArray];simp only[Sem.run_map,hm,Result.andThen_ok]
    have hf:=Ao (ids:=ids) (place:=λi=>((fs.toList.map λf=>(f.offset,(j_ P f.type).getD 0)).toArray)[i]?) (λi x hx=>by
     unfold placesOf at hx;split at hx
     ·rename_i f hf;split at hx
      ·rename_i n hn;simp only[Option.some.injEq]at hx;subst hx;simp[hf,hn]
      ·cases hx
     ·cases hx) ps z c hc
    have Eu:v0.cells=(ab ids z).toArray:=by apply Array.ext';simpa using z2
    simp only[Instr.build,Sem.run_bind,z1,Result.andThen_ok,run_underlying hu,Wz,Eu];simp only[den];rw[hf];rfl
   ·cases h
 ·rename_i n el z hu hz;split at h
  ·rename_i m hm;split at h
   ·rename_i c hc;simp only[Option.some.injEq]at h;subst h;obtain⟨v0,z1,z2⟩:=jM (P:=P) (w:=w) (ids:=ids) hz;have hf:=Ao (ids:=ids) (place:=λi=>some (i*m,m)) (λi x hx=>hx) ps z c hc;have Eu:v0.cells=(ab ids z).toArray:=by apply Array.ext';simpa using z2
    simp only[Instr.build,Sem.run_bind,z1,Result.andThen_ok,run_underlying hu,bu hm,Eu];simp only[den];rw[hf];rfl
   ·cases h
  ·cases h
 ·cases h
end
section
variable{ids:List Nat} {P:Program} {w:World} {e:Operand->V} {ρ:Operand->Value}
theorem WA {t:TypeId} {x v:V} (h:acj P t x=some v) (ty:TypeId) (ts:Array TypeId) (ht:ts[0]?=some t):(Builtin.len_ ts ty #[den ids x]).run P w=.ok (den ids v) w:=by
 unfold acj at h;split at h<;>first
  |(rename_i hu
    simp only[Option.some.injEq]at h;subst h;simp[Builtin.len_,ht,Sem.run_bind,run_underlying hu,den,goInt]
    done)
  |cases h
theorem zg (ps:Array (Nat×Operand)) (cx:∀x,ρ x=den ids (e x)):(ps.map λ(p:Nat×Operand)=>(p.1,ρ p.2))=((An e ps).map λp=>(p.1,den ids p.2)).toArray:=by
 apply Array.ext';simp[An,cx]
theorem Pt (l:List Operand) (cx:∀x,ρ x=den ids (e x)):ao ids (l.map e)=l.map ρ:=by
 rw[kj,List.map_map];apply List.map_congr_left;intro x _;exact(cx x).symm
theorem nN {x:V} {y i:Nat} (code:BoundsCode) (h:Aq x y=some i):(Instr.sliceBound (den ids x) y code).run P w=.ok i w/\i<=y:=by
 unfold Aq at h;split at h
 ·rename_i k j;cases hb:Nat.ble j y with
  |false=>rw[hb]at h;cases h
  |true=>
   rw[hb]at h;obtain rfl:j=i:=by simpa using h
   have hle:=Nat.le_of_ble_eq_true hb;refine⟨?_,hle⟩;have h2:(0:Int)<=Int.ofNat j/\Int.ofNat j<=(y:Int):=⟨Int.natCast_nonneg j,Int.ofNat_le.2 hle⟩;simp only[Instr.sliceBound,den,asIntOf,Sem.run_bind,Sem.run_pure,Result.andThen_ok,if_pos h2];rfl
 ·cases h
theorem v7 (cx:∀x,ρ x=den ids (e x)) {lo hi:Option Operand} {len cap h l:Nat} (b:Bool) (h1:sT e hi cap len=some h) (h2:sT e lo h 0=some l):
 (Instr.sliceBounds b len cap (lo.map ρ) (hi.map ρ) none).run P w=.ok (l,h,cap) w:=by
 unfold sT at h1 h2;cases hi with
 |none=>
  obtain rfl:len=h:=by simpa using h1
  cases lo with
  |none=>
   obtain rfl:0=l:=by simpa using h2
   simp[Instr.sliceBounds,Result.andThen]
  |some x=>
   have:=nN (P:=P) (ids:=ids) (w:=w) .sliceB h2;simp[Instr.sliceBounds,Result.andThen,cx,this.1]
 |some y=>
  have a1:=λc=>(nN (P:=P) (ids:=ids) (w:=w) c h1).1;cases lo with
  |none=>
   obtain rfl:0=l:=by simpa using h2
   simp[Instr.sliceBounds,Result.andThen,cx,a1]
  |some x=>
   have:=nN (P:=P) (ids:=ids) (w:=w) .sliceB h2;simp[Instr.sliceBounds,Result.andThen,cx,this.1,a1]
theorem acn (cx:∀x,ρ x=den ids (e x)) {t:TypeId} {x:Operand} {lo hi:Option Operand} {v:V} (h:slV P e t (e x) lo hi=some v):(Instr.sliceAt t (ρ x) (lo.map ρ) (hi.map ρ) none).run P w=.ok (den ids v) w:=by
 unfold slV at h;have fin:∀(c l off z i:Nat),(if c=l then(⟨ids.getD i 0,off,none⟩:Addr)else Addr.add ⟨ids.getD i 0,off,none⟩ (l*z))=⟨ids.getD i 0,bif Nat.beq c l then off else off+l*z,none⟩:=by
  intro c l off z i;by_cases hc:c=l
  ·subst hc;simp
  ·have:Nat.beq c l=false:=by
    cases hb:Nat.beq c l with
    |true=>exact absurd (Nat.eq_of_beq_eq_true hb) hc
    |false=>rfl
   rw[if_neg hc,this,Addr.add_lit];rfl
 split at h
 ·rename_i el i off n c hu hx;split at h
  ·rename_i hh z h1 hz;split at h
   ·rename_i l h2;obtain rfl:=Option.some.inj h;have hb:=v7 (P:=P) (w:=w) cx true h1 h2;have hs:=bu (P:=P) (w:=w) hz;have:=fin c l off z i;simp only[den,<-this];have run:(Instr.sliceAt t (ρ x) (lo.map ρ) (hi.map ρ) none).run P w=.ok (.slice (if c=l then some ⟨ids.getD i 0,off,none⟩else some (Addr.add ⟨ids.getD i 0,off,none⟩ (l*z))) (hh-l) (c-l)) w:=by
     simp[Instr.sliceAt,Instr.slice,run_underlying hu,cx,hx,den,hb,hs,Result.andThen]
    rw[run];by_cases hc:c=l
    ·rw[if_pos hc,if_pos hc]
    ·rw[if_neg hc,if_neg hc]
   ·cases h
  ·cases h
 ·rename_i arr i off hu hx;split at h
  ·rename_i n el hu2;split at h
   ·rename_i hh z h1 hz;split at h
    ·rename_i l h2;obtain rfl:=Option.some.inj h;have hb:=v7 (P:=P) (w:=w) cx false h1 h2;have hs:=bu (P:=P) (w:=w) hz;have:=fin n l off z i;simp only[den,<-this];simp[Instr.sliceAt,Instr.slice,run_underlying hu,run_underlying hu2,asAddr,cx,hx,den,hb,hs,Result.andThen]
    ·cases h
   ·cases h
  ·cases h
 ·rename_i n el i off hu hx;split at h
  ·rename_i hh z h1 hz;split at h
   ·rename_i l h2;obtain rfl:=Option.some.inj h;have hb:=v7 (P:=P) (w:=w) cx false h1 h2;have hs:=bu (P:=P) (w:=w) hz;have:=fin n l off z i;simp only[den,<-this];simp[Instr.sliceAt,Instr.sureAddr,run_underlying hu,cx,hx,den,hb,hs,Result.andThen]
   ·cases h
  ·cases h
 ·cases h
theorem zh (cx:∀x,ρ x=den ids (e x)) {lo:Option Operand} {hi mx:Operand} {len cap m h l:Nat} (b:Bool) (h0:Aq (e mx) cap=some m) (h1:Aq (e hi) m=some h) (h2:sT e lo h 0=some l):
 (Instr.sliceBounds b len cap (lo.map ρ) (some (ρ hi)) (some (ρ mx))).run P w=.ok (l,h,m) w:=by
 have a0:=λc=>(nN (P:=P) (ids:=ids) (w:=w) c h0).1;have a1:=λc=>(nN (P:=P) (ids:=ids) (w:=w) c h1).1;unfold sT at h2;cases lo with
 |none=>
  obtain rfl:0=l:=by simpa using h2
  simp[Instr.sliceBounds,Result.andThen,cx,a0,a1]
 |some x=>
  have:=λc=>(nN (P:=P) (ids:=ids) (w:=w) c h2).1;simp[Instr.sliceBounds,Result.andThen,cx,a0,a1,this]
theorem WB (cx:∀x,ρ x=den ids (e x)) {t:TypeId} {x:Operand} {lo:Option Operand} {hi mx:Operand} {v:V} (h:ack P e t (e x) lo hi mx=some v):(Instr.sliceAt t (ρ x) (lo.map ρ) (some (ρ hi)) (some (ρ mx))).run P w=.ok (den ids v) w:=by
 unfold ack at h;have fin:∀(c l off z i:Nat),(if c=l then(⟨ids.getD i 0,off,none⟩:Addr)else Addr.add ⟨ids.getD i 0,off,none⟩ (l*z))=⟨ids.getD i 0,bif Nat.beq c l then off else off+l*z,none⟩:=by
  intro c l off z i;by_cases hc:c=l
  ·subst hc;simp
  ·have:Nat.beq c l=false:=by
    cases hb:Nat.beq c l with
    |true=>exact absurd (Nat.eq_of_beq_eq_true hb) hc
    |false=>rfl
   rw[if_neg hc,this,Addr.add_lit];rfl
 split at h
 ·rename_i arr i off hu hx;split at h
  ·rename_i n el hu2;split at h
   ·rename_i m z h0 hz;split at h
    ·rename_i hh h1;split at h
     ·rename_i l h2;obtain rfl:=Option.some.inj h;have hb:=zh (P:=P) (w:=w) (len:=n) cx false h0 h1 h2;have hs:=bu (P:=P) (w:=w) hz;have:=fin m l off z i;simp only[den,<-this];simp[Instr.sliceAt,Instr.slice,run_underlying hu,run_underlying hu2,asAddr,cx,hx,den,hs,Result.andThen]at hb⊢;simp[hb,hs]
     ·cases h
    ·cases h
   ·cases h
  ·cases h
 ·rename_i n el i off hu hx;split at h
  ·rename_i m z h0 hz;split at h
   ·rename_i hh h1;split at h
    ·rename_i l h2;obtain rfl:=Option.some.inj h;have hb:=zh (P:=P) (w:=w) (len:=n) cx false h0 h1 h2;have hs:=bu (P:=P) (w:=w) hz;have:=fin m l off z i;simp only[den,<-this];simp[Instr.sliceAt,Instr.sureAddr,run_underlying hu,cx,hx,den,hs,Result.andThen]at hb⊢;simp[hb,hs]
    ·cases h
   ·cases h
  ·cases h
 ·cases h
theorem WC {arr:TypeId} {x v:V} (h:acm P arr x=some v):(Instr.arrayAt arr (den ids x)).run P w=.ok (den ids v) w:=by
 unfold acm at h;split at h
 ·rename_i n el i off len c hu;cases hq:Nat.ble n len with
  |false=>rw[hq]at h;cases h
  |true=>
   rw[hq]at h;obtain rfl:=Option.some.inj h;have hle:=Nat.le_of_ble_eq_true hq;simp[Instr.arrayAt,run_underlying hu,den,Result.andThen,Nat.not_lt.2 hle]
 ·cases h
theorem Pu (cx:∀x,ρ x=den ids (e x)) (o:Oper) (v:V) (h:evQ P e o.op=some v):(execOp ρ o).run P w=.ok (.value (den ids v)) w:=by
 unfold execOp;unfold evQ at h;split at h
 ·rename_i x ho;simp only[Option.some.injEq]at h;subst h;simp[ho,cx]
 ·rename_i x ho;simp only[Option.some.injEq]at h;subst h;simp[ho,cx]
 ·rename_i c a b ho;split at h
  ·rename_i cb hc;simp only[Option.some.injEq]at h;subst h;simp only[ho,cx,hc,den,asBool,Sem.run_bind,Sem.run_pure,Result.andThen_ok,Po]
  ·cases h
 ·rename_i x ho;obtain⟨rfl,hk⟩:=Ps (ids:=ids) h;simp only[ho,cx];unfold I6 at h;split at h<;>first|(simp_all[den];done)|cases h
 ·rename_i op t x y yt ho;cases hr:Ww op y with
  |true=>rw[hr]at h;cases h
  |false=>
   rw[hr]at h;simp only[cond_false]at h;simp only[ho,cx];rw[Sem.run_bind,sU h];rfl
 ·rename_i op t x ho;simp only[ho,cx];rw[Sem.run_bind,Wv h];rfl
 ·rename_i s d x ho;split at h
  ·rename_i d' k n hs hd hx;simp only[Option.some.injEq]at h;subst h;simp[ho,cx,hx,den,convert,Sem.run_bind,run_underlying hs,run_underlying hd,Conv.intToInt]
  ·cases h
 ·rename_i f a b ho;simp only[Option.some.injEq]at h;subst h;simp only[ho,Instr.makeFunc,den,Pt _ cx,Sem.run_bind,Sem.run_pure,Result.andThen_ok];rw[show a.map ρ=(a.toList.map ρ).toArray from by apply Array.ext';simp,show b.map ρ=(b.toList.map ρ).toArray from by apply Array.ext';simp]
 ·rename_i t x ho;split at h
  ·cases h
  ·rename_i d hd hu;simp only[Option.some.injEq]at h;subst h;simp only[ho,cx,Instr.makeInterface,Sem.run_bind,run_underlying hu,Result.andThen_ok];cases d<;>first|(simp[den];done)|(exact absurd rfl (hd _))
  ·cases h
 ·rename_i t ps ho;try simp only[ho]
  rw[Sem.run_bind];have:=LW (ids:=ids) (w:=w) h;rw[show(ps.map λ(x:Nat×Operand)=>match x with|(i,x)=>(i,ρ x))=(ps.map λ(p:Nat×Operand)=>(p.1,ρ p.2))from rfl,zg ps cx,this];rfl
 ·rename_i s x f ho;simp only[ho,cx];rw[Sem.run_bind,Wy h];rfl
 ·rename_i s x f ho;split at h
  ·rename_i fs l hu hx;split at h
   ·rename_i fd hfd;simp only[ho,cx,hx,den,Instr.field,Sem.run_bind,run_underlying hu,Result.andThen_ok,hfd,asAgg,Sem.run_pure,Ap h]
   ·cases h
  ·cases h
 ·rename_i t x ix ho;simp only[ho,cx];rw[Sem.run_bind,Wx h];rfl
 ·rename_i t x ix ho;split at h
  ·rename_i n el l k j hu hx sV;cases hb:Nat.blt j n with
   |false=>rw[hb]at h;simp at h
   |true=>
    rw[hb]at h;simp only[cond_true]at h;have hj:j<n:=by rw[Nat.blt_eq]at hb;exact hb
    split at h
    ·rename_i z hz;have h1:(0:Int)<=Int.ofNat j/\Int.ofNat j<(n:Int):=by simp only[Int.ofNat_eq_natCast];omega
     simp only[ho,cx,hx,sV,den,Instr.index,asIntOf,Sem.run_bind,Sem.run_pure,Result.andThen_ok,run_underlying hu];rw[if_pos h1];have:=Ap (ids:=ids) (w:=w) h;simp[Sem.run_bind,bu hz,this]
    ·cases h
  ·rename_i s k j hu hx sV;split at h
   ·rename_i b hb;cases h;have h0:(0:Int)<=Int.ofNat j:=Int.natCast_nonneg j;have h1:(Int.ofNat j).toNat=j:=rfl;simp only[ho,cx,hx,sV,den,Instr.index,asIntOf,Sem.run_bind,Sem.run_pure,Result.andThen_ok,run_underlying hu,if_pos h0,h1,hb]
   ·cases h
  ·cases h
 ·rename_i x i ho;split at h
  ·rename_i l hx;split at h
   ·rename_i u hu;simp only[Option.some.injEq]at h;subst h;simp[ho,cx,hx,den,Instr.extract,kj,hu]
   ·cases h
  ·cases h
 ·rename_i c ho;split at h
  ·rename_i x t ts hc ha ht;obtain⟨callee,args,tys⟩:=c;simp only at hc ha ht;subst hc;have VH:args=#[x]:=by apply Array.ext';simpa using ha
   have h0:tys[0]?=some t:=by rw[<-Array.getElem?_toList,ht];rfl
   subst VH;simp only[ho,resolve,Sem.run_bind,Sem.run_pure,Result.andThen_ok,invoke,builtin];rw[show(#[x].map ρ)=#[den ids (e x)] by simp[cx]];rw[WA h _ _ h0];rfl
  ·rename_i x y hc ha;obtain⟨callee,args,tys⟩:=c;simp only at hc ha;subst hc;have VH:args=#[x,y]:=by apply Array.ext';simpa using ha
   subst VH;unfold agy at h;split at h
   ·rename_i k a k2 b hx hy;obtain rfl:=Option.some.inj h;simp[ho,resolve,invoke,builtin,cx,hx,hy,den,Builtin.min_,Builtin.min2,Result.andThen]
   ·cases h
  ·rename_i x y hc ha;obtain⟨callee,args,tys⟩:=c;simp only at hc ha;subst hc;have VH:args=#[x,y]:=by apply Array.ext';simpa using ha
   subst VH;unfold agz at h;split at h
   ·rename_i k a k2 b hx hy;obtain rfl:=Option.some.inj h;simp[ho,resolve,invoke,builtin,cx,hx,hy,den,Builtin.max_,Builtin.max2,Result.andThen]
   ·cases h
  ·cases h
 ·rename_i t x lo hi ho;simp only[ho,Option.map_none];rw[Sem.run_bind,acn cx h];rfl
 ·rename_i t x lo hi mx ho;simp only[ho,Option.map_some];rw[Sem.run_bind,WB cx h];rfl
 ·rename_i arr x ho;simp only[ho,cx];rw[Sem.run_bind,WC h];rfl
 ·cases h
end
end Vx
namespace Vx
open Go Go.RowKit Go.BigFrame Sx
structure BT where
 t:TypeId
 fz:Nat×Nat
instance(n:Nat):OfNat BT n:=⟨⟨n,(0,0)⟩⟩
instance:Coe TypeId BT:=⟨λt=>⟨t,(0,0)⟩⟩
def CR:BT->TypeId->Bool
 |⟨t,(0,0)⟩,n=>Nat.beq t n
 |_,_=>false
theorem Ar {b:BT} {n:Nat} (h:CR b n=true):b=⟨n,(0,0)⟩:=by
 unfold CR at h;split at h
 ·rw[Nat.eq_of_beq_eq_true h]
 ·cases h
structure VB where
 wr:Bool
 ty:BT
 c:List V
def aE (ids:List Nat) (id:Nat) (b:VB):av:=⟨id,b.wr,.cells (ab ids b.c).toArray b.ty.t b.ty.fz⟩
def lits (ids:List Nat):List Nat->List VB->List av
 |i::is,b::bl=>aE ids i b::lits ids is bl
 |_,_=>[]
def VI (P:Program) (bl:List VB) (t:TypeId) (x:V):Option V:=match x with
 |.ptr i off=>(match bl[i]?with
  |some b=>m_ P t b.c off
  |none=>none)
 |_=>none
def stV (P:Program) (bl:List VB) (t:TypeId) (x v:V):Option (List VB):=match x with
 |.ptr i off=>(match bl[i]?with
  |some ⟨true,⟨ty,(0,0)⟩,c⟩=>(match j_ P t with
   |some n=>bif LR v&&(mY (dX v)&&Nat.beq (eL (dX v)) n)then(match Ws c off n (dX v)with|some c'=>some (bl.set i ⟨true,⟨ty,(0,0)⟩,c'⟩)|none=>none)else none
   |none=>none)
  |_=>none)
 |_=>none
def lK (z:List V):Nat->List V
 |0=>[]
 |n+1=>z++lK z n
def CS (P:Program) (e:Operand->V) (n:Nat):Op->Option (V×VB)
 |.alloc t=>(match jo P t with|some z=>some (.ptr n 0,⟨true,t,z⟩)|none=>none)
 |.box t x=>bif LR (e x)then some (.ptr n 0,⟨true,t,dX (e x)⟩)else none
 |.buildSlice t len ps=>(match P.underlying t with
  |some (.slice el)=>(match j_ P el,jo P el with
   |some (z+1),some zc=>bif Nat.beq (eL zc) (z+1)&&(Nat.ble (len*(z+1)) (2^24)&&!(Nat.beq len 0&&(Nat.beq z 5||Nat.beq z 13)))then(match ug (λi=>some (i*(z+1),z+1)) (lK zc len) (An e ps)with|some c=>some (.sl n 0 len len,⟨true,el,c⟩)|none=>none)else none
   |_,_=>none)
  |_=>none)
 |_=>none
def dk (n:Nat):List VB->Bool
 |[]=>true
 |b::l=>cH n b.c&&dk n l
section
variable{ids:List Nat} {P:Program} {w w0:World} {ms:List Nat} {e:Operand->V} {ρ:Operand->Value} {bl:List VB} {R:List av}
theorem iQ:∀(is:List Nat) (bl:List VB),is.length=bl.length->(lits ids is bl).length=bl.length
 |[],[],_=>rfl
 |i::is,b::bl,h=>by simp[lits,iQ is bl (by simpa using h)]
 |[],_::_,h=>by simp at h
 |_::_,[],h=>by simp at h
theorem u_:∀(is:List Nat) (bl:List VB) {k:Nat} {b:VB},is.length=bl.length->bl[k]?=some b->(lits ids is bl)[k]?=some (aE ids (is.getD k 0) b)
 |[],[],k,b,_,h=>by simp at h
 |i::is,c::bl,k,b,hl,h=>by
  cases k with
  |zero=>simp only[List.getElem?_cons_zero,Option.some.injEq]at h;subst h;simp[lits]
  |succ k=>simpa[lits]using u_ is bl (by simpa using hl) (by simpa using h)
 |[],_::_,_,_,h,_=>by simp at h
 |_::_,[],_,_,h,_=>by simp at h
theorem iR:∀(is:List Nat) (bl:List VB) (k:Nat) (b:VB),is.length=bl.length->(lits ids is bl).set k (aE ids (is.getD k 0) b)=lits ids is (bl.set k b)
 |[],[],k,b,_=>by simp[lits]
 |i::is,c::bl,k,b,hl=>by
  cases k with
  |zero=>simp[lits]
  |succ k=>simpa[lits]using iR is bl k b (by simpa using hl)
 |[],_::_,_,_,h=>by simp at h
 |_::_,[],_,_,h=>by simp at h
theorem aI (is js:List Nat) (bl cl:List VB) (h:is.length=bl.length):lits ids (is++js) (bl++cl)=lits ids is bl++lits ids js cl:=by
 induction is generalizing bl with
 |nil=>cases bl with
  |nil=>simp[lits]
  |cons=>simp at h
 |cons i is ih=>cases bl with
  |nil=>simp at h
  |cons b bl=>simp[lits,ih bl (by simpa using h)]
theorem aJ {more:List Nat}:∀(is:List Nat) (bl:List VB),dk ids.length bl=true->lits (ids++more) is bl=lits ids is bl
 |[],_,_=>by simp[lits]
 |_::_,[],_=>by simp[lits]
 |i::is,b::bl,h=>by
  simp only[dk,Bool.and_eq_true]at h;simp only[lits,aE,bU _ h.1,aJ is bl h.2]
theorem cA (hl:ids.length=bl.length) (S:St ms w0 (lits ids ids bl++R) w) {i:Nat} {b:VB} (h:bl[i]?=some b):
 (lits ids ids bl++R)[i]?=some (aE ids (ids.getD i 0) b)/\w.heap[ids.getD i 0]?=some (.cells (ab ids b.c).toArray b.ty.t b.ty.fz):=by
 have h1:=u_ (ids:=ids) ids bl hl h;have h2:(lits ids ids bl++R)[i]?=some (aE ids (ids.getD i 0) b):=by
  rw[List.getElem?_append_left (by rw[iQ ids bl hl];rcases Nat.lt_or_ge i bl.length with h'|h';exact h';simp[h']at h)];exact h1
 exact⟨h2,S.at_ i _ h2⟩
theorem As (hl:ids.length=bl.length) (S:St ms w0 (lits ids ids bl++R) w) {t:TypeId} {x v:V} (h:VI P bl t x=some v):(Instr.loadAt t (den ids x)).run P w=.ok (den ids v) w:=by
 unfold VI at h;split at h
 ·rename_i i off;split at h
  ·rename_i b hb;have ba:=(cA hl S hb).2;unfold m_ at h;simp only[Instr.loadAt,den,Instr.sureAddr,Sem.run_bind,Sem.run_pure,Result.andThen_ok];split at h
   ·rename_i n ha hn;split at h
    ·rename_i c hc;simp only[Option.some.injEq]at h;subst h;obtain⟨g1,g2,g3⟩:=km (ids:=ids) hc;refine kM (n:=n) ba ?_ ?_ ?_ ?_
     ·unfold jh at ha;split at ha
      ·rename_i d hd;rw[hd];simpa using ha
      ·cases ha
     ·unfold j_ at hn;split at hn
      ·rename_i d hd;rw[hd];simpa using hn
      ·cases hn
     ·apply Array.ext';simp[Array.toList_extract,List.extract,g1]
     ·simpa using g2
    ·cases h
   ·rename_i ha;have:=Am (ids:=ids) h;refine jF ba ?_ (by simpa using this);unfold jh at ha;split at ha
    ·rename_i d hd;rw[hd];simpa using ha
    ·cases ha
   ·cases h
  ·cases h
 ·cases h
theorem Pv (hl:ids.length=bl.length) (S:St ms w0 (lits ids ids bl++R) w) {t:TypeId} {x v:V} {bl':List VB} (h:stV P bl t x v=some bl'):
 ∃w',(Instr.storeAt t (den ids x) (den ids v)).run P w=.ok () w'/\St ms w0 (lits ids ids bl'++R) w'/\ids.length=bl'.length:=by
 unfold stV at h;split at h
 ·rename_i i off;split at h
  ·rename_i ty c hb;split at h
   ·rename_i n hn;cases hq:LR v&&(mY (dX v)&&Nat.beq (eL (dX v)) n)with
    |false=>rw[hq]at h;simp at h
    |true=>
     rw[hq]at h;simp only[cond_true]at h;simp only[Bool.and_eq_true]at hq;obtain⟨q1,q2,q3⟩:=hq;have q3:=Nat.eq_of_beq_eq_true q3;split at h
     ·rename_i c' Tt;simp only[Option.some.injEq]at h;subst h;obtain⟨s1,s2⟩:=I5 (ids:=ids) Tt;obtain⟨hi,ba⟩:=cA hl S hb;have hlen:(ab ids (dX v)).length=n:=by rw[cL,q3]
      have aY:=ly (P:=P) (off:=off) (v:=den ids v) (vs:=ab ids (dX v)) ba (vY q1) (by
       unfold j_ at hn;split at hn
       ·rename_i d hd;rw[hd];simp[hlen]at hn⊢;exact hn
       ·cases hn) (by simpa[hlen]using s2) (by rw[List.all_eq_true];exact lJ q2)
      have mK:=S.step hi rfl (Ch.setRow w (ids.getD i 0) _) (setRow_heap w (ids.getD i 0) _ (splice (ab ids c).toArray off (ab ids (dX v))) ty (0,0) ba);have OD:splice (ab ids c).toArray off (ab ids (dX v))=(ab ids c').toArray:=by
       apply Array.ext';simp[splice,s1,hlen]
      have uD:i<(lits ids ids bl).length:=by rw[iQ ids bl hl];rcases Nat.lt_or_ge i bl.length with h'|h';exact h';simp[h']at hb
      refine⟨w.setRow (ids.getD i 0) (splice (ab ids c).toArray off (ab ids (dX v))),?_,?_,?_⟩
      ·simp only[Instr.storeAt,den,Instr.sureAddr,Sem.run_bind,Sem.run_pure,Result.andThen_ok];exact aY
      ·have CT:=iR (ids:=ids) ids bl i ⟨true,ty,c'⟩ hl;rw[<-CT,<-List.set_append_left _ _ uD];rw[OD]at mK⊢;exact mK
      ·simpa using hl
     ·cases h
   ·cases h
  ·cases h
 ·cases h
theorem CU (z:List V) (n:Nat):ab ids (lK z n)=(List.replicate n (ab ids z)).flatten:=by
 induction n with
 |zero=>simp[lK,ab]
 |succ n ih=>simp[lK,bo,ih,List.replicate_succ]
theorem sW (z:Array Value) (m:Nat) (hm:z.size=m+1):∀n,((Array.range (n*(m+1))).map (λi=>z[i%z.size]!)).toList=(List.replicate n z.toList).flatten:=by
 intro n;simp only[Array.toList_map,Array.toList_range];induction n with
 |zero=>simp
 |succ n ih=>
  rw[List.replicate_succ',List.flatten_append,<-ih,Nat.succ_mul,List.range_add,List.map_append,List.map_map];congr 1;simp only[List.flatten_cons,List.flatten_nil,List.append_nil];apply List.ext_getElem?;intro i;rw[List.getElem?_map];by_cases hi:i<m+1
  ·rw[List.getElem?_range hi];simp only[Option.map_some,Function.comp];rw[hm,show(n*(m+1)+i)%(m+1)=i by rw[Nat.mul_comm,Nat.mul_add_mod,Nat.mod_eq_of_lt hi]];simp[getElem!_pos,hm,hi]
  ·rw[List.getElem?_eq_none (by simpa using hi),List.getElem?_eq_none (by simp[hm];omega)];rfl
end
section
variable{ids:List Nat} {P:Program} {w w0:World} {ms:List Nat} {e:Operand->V} {ρ:Operand->Value} {bl:List VB} {R:List av}
theorem cy (b:Nat):(ids++[b]).getD ids.length 0=b:=by simp[List.getD]
theorem na {t el:TypeId} {len z:Nat} {zc c:List V} {ps:List (Nat×V)} (hu:P.underlying t=some (.slice el)) (hz:j_ P el=some (z+1)) (h0:jo P el=some zc) (hl:eL zc=z+1) (hb:len*(z+1)<=2^24)
 (hf:ug (λi=>some (i*(z+1),z+1)) (lK zc len) ps=some c):(Instr.buildSlice t len (ps.map λp=>(p.1,den ids p.2)).toArray).run P w=.ok (.slice (some ⟨w.heap.size,0,none⟩) len len) (w.alloc (.cells (ab ids c).toArray el)):=by
 have hf':=Ao (ids:=ids) (place:=λi=>some (i*(z+1),z+1)) (λi x hx=>hx) ps _ c hf;obtain⟨v0,z1,z2⟩:=jM (P:=P) (w:=w) (ids:=ids) h0;have Wh:¬(len*(z+1)>2^24):=by omega
 have hv:v0.cells.size=z+1:=by rw[<-Array.length_toList,z2,cL,hl]
 have Pw:(Array.range (len*(z+1))).map (λi=>v0.cells[i%v0.cells.size]!)=(ab ids (lK zc len)).toArray:=by
  apply Array.ext';rw[sW v0.cells z hv,z2,CU]
 by_cases Cv:len*(z+1)=0
 ·have Px:len=0:=by rcases Nat.mul_eq_zero.1 Cv with h|h;exact h;omega
  subst Px;simp only[Instr.buildSlice,Sem.run_bind,run_underlying hu,Result.andThen_ok,bu hz,if_neg Wh];simp only[lK,ab]at hf';simp only[Nat.zero_mul,if_true,Sem.run_bind,Sem.run_pure,Result.andThen_ok,List.toList_toArray,show Array.range 0=#[]from rfl,Array.map_empty];rw[hf'];rfl
 ·simp only[Instr.buildSlice,Sem.run_bind,run_underlying hu,Result.andThen_ok,bu hz,if_neg Wh,if_neg Cv,z1,Sem.run_pure,List.toList_toArray];rw[Pw,hf'];rfl
theorem Py (cx:∀x,ρ x=den ids (e x)) (o:Oper) {v:V} {b:VB} (h:CS P e ids.length o.op=some (v,b)):
 (execOp ρ o).run P w=.ok (.value (den (ids++[w.heap.size]) v)) (w.alloc (.cells (ab ids b.c).toArray b.ty.t))/\b.wr=true/\b.ty.fz=(0,0):=by
 unfold execOp;unfold CS at h;split at h
 ·rename_i t ho;split at h
  ·rename_i z hz;simp only[Option.some.injEq,Prod.mk.injEq]at h;obtain⟨rfl,rfl⟩:=h;obtain⟨v0,z1,z2⟩:=jM (P:=P) (w:=w) (ids:=ids) hz;have Eu:v0.cells=(ab ids z).toArray:=by apply Array.ext';simpa using z2
   refine⟨?_,rfl,rfl⟩;simp only[ho,Instr.alloc,Sem.run_bind,z1,Result.andThen_ok,newVar,newRow,Eu,den,cy];rfl
  ·cases h
 ·rename_i t x ho;cases hq:LR (e x)with
  |false=>rw[hq]at h;simp at h
  |true=>
   rw[hq]at h;simp only[cond_true,Option.some.injEq,Prod.mk.injEq]at h;obtain⟨rfl,rfl⟩:=h;have hc:(ρ x).cells=(ab ids (dX (e x))).toArray:=by apply Array.ext';rw[cx,vY hq]
   refine⟨?_,rfl,rfl⟩;simp only[ho,Instr.box,Sem.run_bind,newVar,newRow,hc,den,cy];rfl
 ·rename_i t len ps ho;split at h
  ·rename_i el hu;split at h
   ·rename_i z zc hz hzc;cases hq:Nat.beq (eL zc) (z+1)&&(Nat.ble (len*(z+1)) (2^24)&&!(Nat.beq len 0&&(Nat.beq z 5||Nat.beq z 13)))with
    |false=>rw[hq]at h;simp at h
    |true=>
     rw[hq]at h;simp only[cond_true]at h;simp only[Bool.and_eq_true]at hq;split at h
     ·rename_i c hc;simp only[Option.some.injEq,Prod.mk.injEq]at h;obtain⟨rfl,rfl⟩:=h;have:=na (ids:=ids) (w:=w) hu hz hzc (Nat.eq_of_beq_eq_true hq.1) (Nat.le_of_ble_eq_true hq.2.1) hc;refine⟨?_,rfl,rfl⟩;simp only[ho];rw[Sem.run_bind,show(ps.map λ(x:Nat×Operand)=>match x with|(i,x)=>(i,ρ x))=(ps.map λ(p:Nat×Operand)=>(p.1,ρ p.2))from rfl,zg ps cx,this];simp[den,cy]
     ·cases h
   ·cases h
  ·cases h
 ·cases h
theorem grow (hl:ids.length=bl.length) (S:St ms w0 (lits ids ids bl++R) w) (b:VB) (hw:b.wr=true) (hf:b.ty.fz=(0,0)) (h1:dk ids.length bl=true) (h2:cH ids.length b.c=true):
 St ms w0 (lits (ids++[w.heap.size]) (ids++[w.heap.size]) (bl++[b])++R) (w.alloc (.cells (ab ids b.c).toArray b.ty.t))/\(ids++[w.heap.size]).length=(bl++[b]).length:=by
 refine⟨?_,by simp[hl]⟩;have h:=S.new (Ch.alloc [] w (.cells (ab ids b.c).toArray b.ty.t)) (Nat.le_refl _) (heap_alloc_new w _);have e:aE (ids++[w.heap.size]) w.heap.size b=⟨w.heap.size,true,.cells (ab ids b.c).toArray b.ty.t (0,0)⟩:=by
  simp only[aE,bU _ h2,hw,hf]
 rw[aI _ _ _ _ hl,aJ _ _ h1];simp only[lits,e];refine h.perm ?_;rw[List.append_assoc];exact List.perm_middle.symm
end
def WD:List V->Option (IntKind×Nat×(Nat->Int))
 |.arr k n f::_=>some (k,n,f)
 |_=>none
def upF (f:Nat->Int) (i:Nat) (v:Int):Nat->Int:=λj=>bif Nat.beq j i then v else f j
def hdS (i:Nat) (v:Int):List V->List V
 |.arr k n f::r=>.arr k n (upF f i v)::r
 |l=>l
def Pz:List V->Option (List Bool)
 |[]=>some []
 |.bool b::l=>(match Pz l with|some r=>some (b::r)|none=>none)
 |_=>none
def aa8 (P:Program) (t:TypeId):Bool:=match P.underlying t with|some .bool=>true|_=>false
def agA (l:List Bool) (j:Nat):Bool:=l.getD j false
def Ev (P:Program) (bl:List VB) (t:TypeId) (x:V):Option (Prop×V):=match x with
 |.pe i o j z k=>(match bl[i]?with
  |some b=>(match b.c with
   |.fp z' n g::_=>(match o with
    |0=>bif Nat.beq z z' then(match m_ P t ((g j).map Eo) k with|some v=>some ((j<n/\∀j,(g j).length=z),v)|none=>none)else none
    |_=>none)
   |.rest pre::.fp z' n g::_=>bif Nat.beq z z' then(match m_ P t ((g j).map Eo) k with|some v=>some ((o=pre.length/\j<n/\∀j,(g j).length=z),v)|none=>none)else none
   |c=>(match WD c,z,k,jh P t with
    |some (kd,n,f),1,0,some false=>some (o+j<n,.int kd (f (o+j)))
    |none,1,0,some false=>(match CN c o 5 with|some l=>(match Pz l with|some r=>some (j<5,.bool (agA r j))|none=>none)|none=>none)
    |_,_,_,_=>none))
  |none=>none)
 |_=>none
def EF (P:Program) (bl:List VB) (t:TypeId) (x v:V):Prop:=VI P bl t x=some v\/∃p,Ev P bl t x=some (p,v)/\p
def hfN (P:Program) (e:Operand->V) (bl:List VB):Op->Option (Prop×V)
 |.indexAddr t x ix=>(match e x with
  |.sl i o n _=>(match bl[i]?with
   |some b=>(match b.c with
    |.fp z' _ _::_=>(match o with
     |0=>(match P.underlying t,e ix with
      |some (.slice el),.int _ m=>(match j_ P el with
       |some z=>bif Nat.beq z z' then some ((0<=m/\m<(n:Int)),.pe i 0 m.toNat z 0)else none
       |none=>none)
      |_,_=>none)
     |_=>none)
    |.rest pre::.fp z' _ _::_=>(match P.underlying t,e ix with
     |some (.slice el),.int _ m=>(match j_ P el with
      |some z=>bif Nat.beq z z' then some ((0<=m/\m<(n:Int)),.pe i o m.toNat z 0)else none
      |none=>none)
     |_,_=>none)
    |c=>(match WD c,P.underlying t,e ix with
     |some _,some (.slice el),.int _ m=>(match j_ P el with
      |some 1=>some ((0<=m/\m<(n:Int)),.pe i o m.toNat 1 0)
      |_=>none)
     |_,_,_=>none))
   |none=>none)
  |.ptr i o=>(match bl[i]?with
   |some b=>(match WD b.c,P.underlying t,e ix with
    |some _,some (.array n el),.int _ m=>(match j_ P el with
     |some 1=>some ((0<=m/\m<(n:Int)),.pe i o m.toNat 1 0)
     |_=>none)
    |none,some (.array n el),.int _ m=>bif Nat.beq n 5&&aa8 P el then(match j_ P el with
     |some 1=>some ((0<=m/\m<(n:Int)),.pe i o m.toNat 1 0)
     |_=>none)else none
    |_,_,_=>none)
   |none=>none)
  |.oN i o n _ _=>(match bl[i]?with
   |some b=>(match b.c with
    |.fp z' _ _::_=>(match o with
     |0=>(match P.underlying t,e ix with
      |some (.slice el),.int _ m=>(match j_ P el with
       |some z=>bif Nat.beq z z' then some ((0<=m/\m<(n:Int)),.pe i 0 m.toNat z 0)else none
       |none=>none)
      |_,_=>none)
     |_=>none)
    |.rest pre::.fp z' _ _::_=>(match P.underlying t,e ix with
     |some (.slice el),.int _ m=>(match j_ P el with
      |some z=>bif Nat.beq z z' then some ((0<=m/\m<(n:Int)),.pe i o m.toNat z 0)else none
      |none=>none)
     |_,_=>none)
    |_=>none)
   |none=>none)
  |_=>none)
 |.slice t x none (some hi) none=>(match e x with
  |.sl i o n c=>(match bl[i]?with
   |some b=>(match b.c with
    |.fp z' _ _::_=>(match o with
     |0=>(match P.underlying t,e hi with
      |some (.slice el),.int _ m=>(match j_ P el with
       |some z=>some ((0<=m/\m<=(c:Int)),.sl i 0 m.toNat c)
       |none=>none)
      |_,_=>none)
     |_=>none)
    |.rest pre::.fp z' _ _::_=>(match P.underlying t,e hi with
     |some (.slice el),.int _ m=>(match j_ P el with
      |some z=>some ((0<=m/\m<=(c:Int)),.sl i o m.toNat c)
      |none=>none)
     |_,_=>none)
    |_=>none)
   |none=>none)
  |.raw (.slice a n c)=>(match P.underlying t,e hi with
   |some (.slice el),.int _ m=>(match j_ P el with
    |some z=>some ((0<=m/\m<=(c:Int)),.raw (.slice a m.toNat c))
    |none=>none)
   |_,_=>none)
  |_=>none)
 |.index t x ix=>(match P.underlying t,e x,e ix with
  |some (.array n el),.agg l,.int _ m=>(match WD l,j_ P el,jh P el with
   |some (kd,N,f),some 1,some false=>some (((0<=m/\m<(n:Int))/\m.toNat<N),.int kd (f m.toNat))
   |_,_,_=>none)
  |_,_,_=>none)
 |.slice t x (some lo) none none=>(match e x,P.underlying t,e lo with
  |.raw (.slice (some ⟨b,q,none⟩) n c),some (.slice el),.int _ (.ofNat k)=>(match j_ P el with
   |some 1=>some ((k<n/\n<=c),.raw (.slice (some ⟨b,q+k,none⟩) (n-k) (c-k)))
   |_=>none)
  |_,_,_=>none)
 |_=>none
def hfS (P:Program) (bl:List VB) (t:TypeId) (x y:V):Option (Prop×List VB):=match x,y with
 |.pe i o j 1 0,.int kd' v=>(match bl[i]?with
  |some ⟨true,⟨ty,(0,0)⟩,c⟩=>(match WD c,jh P t,j_ P t with
   |some (kd,n,f),some false,some 1=>(match decEq kd kd' with
    |isTrue _=>some (o+j<n,bl.set i ⟨true,⟨ty,(0,0)⟩,hdS (o+j) v c⟩)
    |isFalse _=>none)
   |_,_,_=>none)
  |_=>none)
 |.pe i o j 1 0,.bool b=>(match stV P bl t (.ptr i (o+j)) (.bool b)with|some bl'=>some (True,bl')|none=>none)
 |_,_=>none
section
variable{ids:List Nat} {P:Program} {w w0:World} {ms:List Nat} {e:Operand->V} {ρ:Operand->Value} {bl:List VB} {R:List av}
theorem FT {k:IntKind} {n q:Nat} {f:Nat->Int} {v:Int} {r:List Value} (h:q<n):((((List.range n).map λj=>Value.int k (f j))++r).take q++[.int k v])++(((List.range n).map λj=>Value.int k (f j))++r).drop (q+1)=((List.range n).map λj=>Value.int k (upF f q v j))++r:=by
 have e:=List.set_eq_take_append_cons_drop (l:=((List.range n).map λj=>Value.int k (f j))++r) (i:=q) (a:=.int k v);rw[if_pos (by simp;omega)]at e;rw[List.append_assoc,List.singleton_append,<-e,List.set_append_left _ _ (by simpa using h)];congr 1;apply List.ext_getElem?;intro i;rw[List.getElem?_set];by_cases hi:q=i
 ·subst hi;simp[h,upF]
 ·rw[if_neg hi];simp only[List.getElem?_map];cases hr:(List.range n)[i]?with
  |none=>rfl
  |some y=>
   obtain rfl:y=i:=by
    rcases Nat.lt_or_ge i n with h1|h1
    ·rw[List.getElem?_range h1]at hr;exact(Option.some.inj hr).symm
    ·rw[List.getElem?_eq_none (by simpa using h1)]at hr;cases hr
   have hb:Nat.beq y q=false:=by
    cases hb:Nat.beq y q with
    |false=>rfl
    |true=>exact absurd (Nat.eq_of_beq_eq_true hb).symm hi
   simp only[Option.map_some,upF,hb,cond_false]
theorem I8 {l:List V} {k:IntKind} {n:Nat} {f:Nat->Int} (h:WD l=some (k,n,f)) (ids:List Nat):ab ids l=((List.range n).map λj=>Value.int k (f j))++ab ids (l.drop 1):=by
 unfold WD at h;split at h
 ·simp only[Option.some.injEq,Prod.mk.injEq]at h;obtain⟨rfl,rfl,rfl⟩:=h;simp only[ab,cl,List.drop_succ_cons,List.drop_zero]
 ·cases h
theorem At:∀{l:List V} {r:List Bool},Pz l=some r->∀ids,ab ids l=r.map Value.bool
 |[],r,h,ids=>by simp only[Pz,Option.some.injEq]at h;subst h;rfl
 |v::l,r,h,ids=>by
  unfold Pz at h;split at h
  ·rename_i e;cases e
  ·rename_i b l' e;cases e;split at h
   ·rename_i r' hr;simp only[Option.some.injEq]at h;subst h;simp only[ab,cl,den,At hr ids,List.map_cons,List.cons_append,List.nil_append]
   ·cases h
  ·cases h
theorem CV {bl ex:List VB} {i:Nat} {b:VB} (h:bl[i]?=some b):(bl++ex)[i]?=some b:=by
 have hi:i<bl.length:=by rcases Nat.lt_or_ge i bl.length with h'|h';exact h';simp[h']at h
 rw[List.getElem?_append_left hi,h]
theorem WE {t:TypeId} {x:V} {p:Prop} {v:V} {ex:List VB} (h:Ev P bl t x=some (p,v)):Ev P (bl++ex) t x=some (p,v):=by
 unfold Ev at h⊢;split at h
 ·split at h
  ·rename_i hb;rw[CV hb];exact h
  ·cases h
 ·cases h
theorem PA {z:Nat} (g:Nat->List Value) (hz:∀j,(g j).length=z):∀(n j:Nat),j<n->(((List.range n).flatMap g).drop (j*z)).take z=g j:=by
 intro n;induction n with
 |zero=>intro j h;omega
 |succ n ih=>
  intro j h;have hl:((List.range n).flatMap g).length=n*z:=by
   clear ih h;induction n with
   |zero=>simp
   |succ n ih=>rw[List.range_succ,List.flatMap_append,List.length_append,ih];simp[hz,Nat.add_mul]
  rw[List.range_succ,List.flatMap_append];rcases Nat.lt_or_ge j n with h1|h1
  ·have h2:j*z+z<=n*z:=by rw[<-Nat.succ_mul];exact Nat.mul_le_mul_right z h1
   rw[List.drop_append_of_le_length (by omega),List.take_append_of_le_length (by rw[List.length_drop];omega)];exact ih j h1
  ·obtain rfl:j=n:=by omega
   rw[List.drop_append,List.drop_eq_nil_of_le (by omega),hl,Nat.sub_self];simp only[List.nil_append,List.flatMap_cons,List.flatMap_nil,List.append_nil,List.drop_zero];exact List.take_of_length_le (Nat.le_of_eq (hz j))
theorem CW {z n j k m:Nat} {g:Nat->List Value} {r:List Value} (hz:∀j,(g j).length=z) (hj:j<n) (hk:k+m<=z):((((List.range n).flatMap g)++r).drop (j*z+k)).take m=((g j).drop k).take m:=by
 have h1:=PA g hz n j hj;have hl:((List.range n).flatMap g).length=n*z:=by
  clear h1 hj;induction n with
  |zero=>simp
  |succ n ih=>rw[List.range_succ,List.flatMap_append,List.length_append,ih];simp[hz,Nat.add_mul]
 have h2:j*z+z<=n*z:=by rw[<-Nat.succ_mul];exact Nat.mul_le_mul_right z hj
 rw[<-h1];apply List.ext_getElem?;intro i;simp only[List.getElem?_take,List.getElem?_drop];split
 ·rename_i hi;rw[if_pos (by omega),List.getElem?_append_left (by omega),Nat.add_assoc]
 ·rfl
theorem CX {α:Type} (pre l:List α) (i:Nat):(pre++l).drop (pre.length+i)=l.drop i:=by
 rw[List.drop_append,List.drop_eq_nil_of_le (by omega)];simp
theorem CY (hl:ids.length=bl.length) (S:St ms w0 (lits ids ids bl++R) w) {t:TypeId} {u:V} {i o j z k n:Nat} {g:Nat->List Value} {pre r:List Value} {b:VB} (hb:bl[i]?=some b) (hD:ab ids b.c=pre++(((List.range n).flatMap g)++r)) (ho:o=pre.length) (hu:m_ P t ((g j).map Eo) k=some u) (hj:j<n) (hz:∀j,(g j).length=z):
 (Instr.loadAt t (den ids (.pe i o j z k))).run P w=.ok (den ids u) w:=by
 subst ho;have ba:=(cA hl S hb).2;rw[hD]at ba;have hg:ab ids ((g j).map Eo)=g j:=qy (g j);unfold m_ at hu;simp only[Instr.loadAt,den,Instr.sureAddr,Sem.run_bind,Sem.run_pure,Result.andThen_ok];split at hu
 ·rename_i m ha hn;split at hu
  ·rename_i c OG;simp only[Option.some.injEq]at hu;subst hu;obtain⟨g1,g2,g3⟩:=km (ids:=ids) OG;rw[hg]at g1 g3;rw[hz]at g3;refine kM (n:=m) ba ?_ ?_ ?_ ?_
   ·unfold jh at ha;split at ha
    ·rename_i d hd;rw[hd];simpa using ha
    ·cases ha
   ·unfold j_ at hn;split at hn
    ·rename_i d hd;rw[hd];simpa using hn
    ·cases hn
   ·apply Array.ext';have:=CW (r:=r) (n:=n) hz hj g3;simp only[Array.toList_extract,List.extract];rw[show pre.length+(j*z+k)+m-(pre.length+(j*z+k))=m by omega,CX,this,g1]
   ·simpa using g2
  ·cases hu
 ·rename_i ha;have h1:=Am (ids:=ids) hu;rw[hg]at h1;have hkz:k<z:=by
   rcases Nat.lt_or_ge k z with h|h
   ·exact h
   ·rw[List.getElem?_eq_none (by rw[hz];exact h)]at h1;cases h1
  have h2:=CW (r:=r) (n:=n) (j:=j) (k:=k) (m:=1) hz hj (by omega);have h3:(pre++((List.flatMap g (List.range n))++r))[pre.length+(j*z+k)]?=(g j)[k]?:=by
   rw[<-CX pre]at h2;have:=congrArg (λl=>l[0]?) h2;simp only[List.getElem?_take,List.getElem?_drop,Nat.add_zero]at this;simpa using this
  refine jF ba ?_ (by rw[List.getElem?_toArray,h3,h1]);unfold jh at ha;split at ha
  ·rename_i d hd;rw[hd];simpa using ha
  ·cases ha
 ·cases hu
theorem PB (hl:ids.length=bl.length) (S:St ms w0 (lits ids ids bl++R) w) {t:TypeId} {x v:V} {p:Prop} (h:Ev P bl t x=some (p,v)) (hp:p):(Instr.loadAt t (den ids x)).run P w=.ok (den ids v) w:=by
 unfold Ev at h;split at h
 ·rename_i i o j z k;split at h
  ·rename_i b hb;split at h
   ·rename_i z' n g r hc;split at h
    ·cases hq:Nat.beq z z' with
     |false=>rw[hq]at h;simp at h
     |true=>
      rw[hq]at h;simp only[cond_true]at h;split at h
      ·rename_i u hu;simp only[Option.some.injEq,Prod.mk.injEq]at h;obtain⟨rfl,rfl⟩:=h;exact CY hl S (pre:=[]) hb (by rw[hc];simp only[ab,cl,List.nil_append];rfl) rfl hu hp.1 hp.2
      ·cases h
    ·cases h
   ·rename_i pre z' n g r hc;cases hq:Nat.beq z z' with
    |false=>rw[hq]at h;simp at h
    |true=>
     rw[hq]at h;simp only[cond_true]at h;split at h
     ·rename_i u hu;simp only[Option.some.injEq,Prod.mk.injEq]at h;obtain⟨rfl,rfl⟩:=h;exact CY hl S (pre:=pre) hb (by rw[hc];simp only[ab,cl];rfl) hp.1 hu hp.2.1 hp.2.2
     ·cases h
   ·split at h
    ·rename_i kd n f hA uG;simp only[Option.some.injEq,Prod.mk.injEq]at h;obtain⟨rfl,rfl⟩:=h;have ba:=(cA hl S hb).2;simp only[Instr.loadAt,den,Instr.sureAddr,Sem.run_bind,Sem.run_pure,Result.andThen_ok];refine jF ba ?_ ?_
     ·unfold jh at uG;split at uG
      ·rename_i d hd;rw[hd];simpa using uG
      ·cases uG
     ·rw[List.getElem?_toArray,I8 hA ids,show o+(j*1+0)=o+j by omega,List.getElem?_append_left (by simpa using hp)];simp[List.getElem?_range hp]
    ·rename_i hA uG;split at h
     ·rename_i l hg;split at h
      ·rename_i r hr;simp only[Option.some.injEq,Prod.mk.injEq]at h;obtain⟨rfl,rfl⟩:=h;have ba:=(cA hl S hb).2;obtain⟨g1,g2,g3⟩:=km (ids:=ids) hg;rw[At hr]at g1;have hr5:r.length=5:=by have:=g2;rw[At hr]at this;simpa using this
       simp only[Instr.loadAt,den,Instr.sureAddr,Sem.run_bind,Sem.run_pure,Result.andThen_ok];refine jF ba ?_ ?_
       ·unfold jh at uG;split at uG
        ·rename_i d hd;rw[hd];simpa using uG
        ·cases uG
       ·have h1:=congrArg (λl=>l[j]?) g1;simp only[List.getElem?_take,List.getElem?_drop,if_pos hp,List.getElem?_map]at h1;rw[List.getElem?_toArray,show o+(j*1+0)=o+j by omega,h1,List.getElem?_eq_getElem (by omega)];simp[agA,List.getD,List.getElem?_eq_getElem (show j<r.length by omega)]
      ·cases h
     ·cases h
    ·cases h
  ·cases h
 ·cases h
theorem EF.run (hl:ids.length=bl.length) (S:St ms w0 (lits ids ids bl++R) w) {t:TypeId} {x v:V} (h:EF P bl t x v):(Instr.loadAt t (den ids x)).run P w=.ok (den ids v) w:=by
 rcases h with h|⟨p,h,hp⟩
 ·exact As (P:=P) hl S h
 ·exact PB hl S h hp
theorem PC (cx:∀x,ρ x=den ids (e x)) (o:Oper) {p:Prop} {v:V} (h:hfN P e bl o.op=some (p,v)) (hp:p):(execOp ρ o).run P w=.ok (.value (den ids v)) w:=by
 generalize uh:o.op=op at h;unfold hfN at h;split at h
 ·rename_i t x ix;split at h
  ·rename_i i o n c hx;split at h
   ·rename_i b hb;split at h
    ·rename_i z' n' g r hc;split at h
     ·split at h
      ·rename_i el kk m hu sV;split at h
       ·rename_i z hz;cases hq:Nat.beq z z' with
        |false=>rw[hq]at h;simp at h
        |true=>
         rw[hq]at h;simp only[cond_true,Option.some.injEq,Prod.mk.injEq]at h;obtain⟨rfl,rfl⟩:=h;unfold execOp;simp only[uh,cx,hx,sV,den,Instr.indexAt,asIntOf,Instr.sureAddr,Sem.run_bind,Sem.run_pure,Result.andThen_ok,run_underlying hu];rw[if_pos hp];simp[Sem.run_bind,bu hz,fO]
       ·cases h
      ·cases h
     ·cases h
    ·rename_i pre z' n' g r hc;split at h
     ·rename_i el kk m hu sV;split at h
      ·rename_i z hz;cases hq:Nat.beq z z' with
       |false=>rw[hq]at h;simp at h
       |true=>
        rw[hq]at h;simp only[cond_true,Option.some.injEq,Prod.mk.injEq]at h;obtain⟨rfl,rfl⟩:=h;unfold execOp;simp only[uh,cx,hx,sV,den,Instr.indexAt,asIntOf,Instr.sureAddr,Sem.run_bind,Sem.run_pure,Result.andThen_ok,run_underlying hu];rw[if_pos hp];simp[Sem.run_bind,bu hz,fO]
      ·cases h
     ·cases h
    ·split at h
     ·rename_i el kk m hA hu sV;split at h
      ·rename_i hz;simp only[Option.some.injEq,Prod.mk.injEq]at h;obtain⟨rfl,rfl⟩:=h;unfold execOp;simp only[uh,cx,hx,sV,den,Instr.indexAt,asIntOf,Instr.sureAddr,Sem.run_bind,Sem.run_pure,Result.andThen_ok,run_underlying hu];rw[if_pos hp];simp[Sem.run_bind,bu hz,fO]
      ·cases h
     ·cases h
   ·cases h
  ·rename_i i o hx;split at h
   ·rename_i b hb;split at h
    ·rename_i n el kk m hA hu sV;split at h
     ·rename_i hz;simp only[Option.some.injEq,Prod.mk.injEq]at h;obtain⟨rfl,rfl⟩:=h;unfold execOp;simp only[uh,cx,hx,sV,den,Instr.indexAt,asIntOf,Instr.sureAddr,Sem.run_bind,Sem.run_pure,Result.andThen_ok,run_underlying hu];rw[if_pos hp];simp[Sem.run_bind,bu hz,fO]
     ·cases h
    ·rename_i n el kk m hA hu sV;cases hq:Nat.beq n 5&&aa8 P el with
     |false=>rw[hq]at h;simp at h
     |true=>
      rw[hq]at h;simp only[cond_true]at h;split at h
      ·rename_i hz;simp only[Option.some.injEq,Prod.mk.injEq]at h;obtain⟨rfl,rfl⟩:=h;unfold execOp;simp only[uh,cx,hx,sV,den,Instr.indexAt,asIntOf,Instr.sureAddr,Sem.run_bind,Sem.run_pure,Result.andThen_ok,run_underlying hu];rw[if_pos hp];simp[Sem.run_bind,bu hz,fO]
      ·cases h
    ·cases h
   ·cases h
  ·rename_i i o n c y hx;split at h
   ·rename_i b hb;split at h
    ·rename_i z' n' g r hc;split at h
     ·split at h
      ·rename_i el kk m hu sV;split at h
       ·rename_i z hz;cases hq:Nat.beq z z' with
        |false=>rw[hq]at h;simp at h
        |true=>
         rw[hq]at h;simp only[cond_true,Option.some.injEq,Prod.mk.injEq]at h;obtain⟨rfl,rfl⟩:=h;have hn0:Nat.beq n 0=false:=by
          cases WG:Nat.beq n 0 with
          |false=>rfl
          |true=>exact absurd (Nat.eq_of_beq_eq_true WG) (by omega)
         unfold execOp;simp only[uh,cx,hx,sV,den,hn0,cond_false,Instr.indexAt,asIntOf,Instr.sureAddr,Sem.run_bind,Sem.run_pure,Result.andThen_ok,run_underlying hu];rw[if_pos hp];simp[Sem.run_bind,bu hz,fO]
       ·cases h
      ·cases h
     ·cases h
    ·rename_i pre z' n' g r hc;split at h
     ·rename_i el kk m hu sV;split at h
      ·rename_i z hz;cases hq:Nat.beq z z' with
       |false=>rw[hq]at h;simp at h
       |true=>
        rw[hq]at h;simp only[cond_true,Option.some.injEq,Prod.mk.injEq]at h;obtain⟨rfl,rfl⟩:=h;have hn0:Nat.beq n 0=false:=by
         cases WG:Nat.beq n 0 with
         |false=>rfl
         |true=>exact absurd (Nat.eq_of_beq_eq_true WG) (by omega)
        unfold execOp;simp only[uh,cx,hx,sV,den,hn0,cond_false,Instr.indexAt,asIntOf,Instr.sureAddr,Sem.run_bind,Sem.run_pure,Result.andThen_ok,run_underlying hu];rw[if_pos hp];simp[Sem.run_bind,bu hz,fO]
      ·cases h
     ·cases h
    ·cases h
   ·cases h
  ·cases h
 ·rename_i t x hi;split at h
  ·rename_i i o n c hx;split at h
   ·rename_i b hb;split at h
    ·rename_i z' n' g r hc;split at h
     ·split at h
      ·rename_i el kk m hu sV;split at h
       ·rename_i z hz;simp only[Option.some.injEq,Prod.mk.injEq]at h;obtain⟨rfl,rfl⟩:=h;have va:∀code,(Instr.sliceBound (.int kk m) c code).run P w=.ok m.toNat w:=by
         intro code;simp only[Instr.sliceBound,asIntOf,Sem.run_bind,Sem.run_pure,Result.andThen_ok];rw[if_pos hp];rfl
        have hs:=bu (P:=P) (w:=w) hz;unfold execOp;simp[uh,cx,hx,sV,den,Instr.sliceAt,Instr.slice,Instr.sliceBounds,run_underlying hu,va,hs,Result.andThen,Addr.add]
       ·cases h
      ·cases h
     ·cases h
    ·rename_i pre z' n' g r hc;split at h
     ·rename_i el kk m hu sV;split at h
      ·rename_i z hz;simp only[Option.some.injEq,Prod.mk.injEq]at h;obtain⟨rfl,rfl⟩:=h;have va:∀code,(Instr.sliceBound (.int kk m) c code).run P w=.ok m.toNat w:=by
        intro code;simp only[Instr.sliceBound,asIntOf,Sem.run_bind,Sem.run_pure,Result.andThen_ok];rw[if_pos hp];rfl
       have hs:=bu (P:=P) (w:=w) hz;unfold execOp;simp[uh,cx,hx,sV,den,Instr.sliceAt,Instr.slice,Instr.sliceBounds,run_underlying hu,va,hs,Result.andThen,Addr.add]
      ·cases h
     ·cases h
    ·cases h
   ·cases h
  ·rename_i a n c hx;split at h
   ·rename_i el kk m hu sV;split at h
    ·rename_i z hz;simp only[Option.some.injEq,Prod.mk.injEq]at h;obtain⟨rfl,rfl⟩:=h;have va:∀code,(Instr.sliceBound (.int kk m) c code).run P w=.ok m.toNat w:=by
      intro code;simp only[Instr.sliceBound,asIntOf,Sem.run_bind,Sem.run_pure,Result.andThen_ok];rw[if_pos hp];rfl
     have hs:=bu (P:=P) (w:=w) hz;unfold execOp;cases a<;>simp[uh,cx,hx,sV,den,Instr.sliceAt,Instr.slice,Instr.sliceBounds,run_underlying hu,va,hs,Result.andThen,Addr.add]
    ·cases h
   ·cases h
  ·cases h
 ·rename_i t x ix;split at h
  ·rename_i n el l kk m hu hx sV;split at h
   ·rename_i kd N f hA hz uG;simp only[Option.some.injEq,Prod.mk.injEq]at h;obtain⟨rfl,rfl⟩:=h;unfold execOp;simp only[uh,cx,hx,sV,den,Instr.index,asIntOf,Sem.run_bind,Sem.run_pure,Result.andThen_ok,run_underlying hu];rw[if_pos hp.1];have hg:oz l m.toNat=some (.int kd (f m.toNat)):=by
     unfold WD at hA;split at hA
     ·rename_i k2 n2 f2 r;cases hA;have:Nat.ble N m.toNat=false:=by
       cases hb:Nat.ble N m.toNat with
       |false=>rfl
       |true=>exact absurd (Nat.le_of_ble_eq_true hb) (by have:=hp.2;omega)
      simp only[oz,this,cond_false]
     ·cases hA
    have:=Ap (ids:=ids) (w:=w) (t:=el) (l:=l) (off:=m.toNat*1) (v:=.int kd (f m.toNat)) (by unfold m_;rw[uG];simpa using hg);simp[Sem.run_bind,bu hz]at this⊢;rw[this];rfl
   ·cases h
  ·cases h
 ·rename_i t x lo;split at h
  ·rename_i b q n c el kd k hx hu hlo;split at h
   ·rename_i hz;simp only[Option.some.injEq,Prod.mk.injEq]at h;obtain⟨rfl,rfl⟩:=h;have hs:(P.info? el).map (·.size)=some 1:=by
     unfold j_ at hz;split at hz
     ·rename_i inf hi;rw[hi];exact hz
     ·cases hz
    exact Pc (o:=o) (w:=w) (k:=k) (kd:=kd) (by omega) hp.2 (q+k) (by rw[if_neg (by omega)]) uh hu hs (by rw[cx,hx];rfl) (by rw[cx,hlo];rfl)
   ·cases h
  ·cases h
 ·cases h
theorem aco (hl:ids.length=bl.length) (S:St ms w0 (lits ids ids bl++R) w) {t:TypeId} {x y:V} {p:Prop} {bl':List VB} (h:hfS P bl t x y=some (p,bl')) (hp:p):
 ∃w',(Instr.storeAt t (den ids x) (den ids y)).run P w=.ok () w'/\St ms w0 (lits ids ids bl'++R) w'/\ids.length=bl'.length:=by
 unfold hfS at h;split at h
 ·rename_i i o j kd' v;split at h
  ·rename_i ty c hb;split at h
   ·rename_i kd n f hA uG hz;split at h
    ·rename_i hk _;subst hk;simp only[Option.some.injEq,Prod.mk.injEq]at h;obtain⟨rfl,rfl⟩:=h;obtain⟨hi,ba⟩:=cA hl S hb;have hc:=I8 hA ids;have aY:=ly (P:=P) (off:=o+(j*1+0)) (v:=.int kd v) (vs:=[.int kd v]) (ty:=t) ba rfl (by
      unfold j_ at hz;split at hz
      ·rename_i d hd;rw[hd];simpa using hz
      ·cases hz) (by simp only[List.length_singleton,List.size_toArray];rw[hc];simp;omega) (by rfl)
     have mK:=S.step hi rfl (Ch.setRow w (ids.getD i 0) _) (setRow_heap w (ids.getD i 0) _ (splice (ab ids c).toArray (o+(j*1+0)) [.int kd v]) ty (0,0) ba);have OD:splice (ab ids c).toArray (o+(j*1+0)) [.int kd v]=(ab ids (hdS (o+j) v c)).toArray:=by
      unfold WD at hA;split at hA
      ·cases hA;apply Array.ext';simp only[splice,hdS,ab,cl,show o+(j*1+0)=o+j by omega,List.length_singleton];exact FT hp
      ·cases hA
     have uD:i<(lits ids ids bl).length:=by rw[iQ ids bl hl];rcases Nat.lt_or_ge i bl.length with h'|h';exact h';simp[h']at hb
     refine⟨w.setRow (ids.getD i 0) (splice (ab ids c).toArray (o+(j*1+0)) [.int kd v]),?_,?_,by simpa using hl⟩
     ·simp only[Instr.storeAt,den,Instr.sureAddr,Sem.run_bind,Sem.run_pure,Result.andThen_ok];exact aY
     ·have CT:=iR (ids:=ids) ids bl i ⟨true,⟨ty,(0,0)⟩,hdS (o+j) v c⟩ hl;rw[<-CT,<-List.set_append_left _ _ uD];rw[OD]at mK⊢;exact mK
    ·cases h
   ·cases h
  ·cases h
 ·rename_i i o j b;split at h
  ·rename_i bl2 hs;simp only[Option.some.injEq,Prod.mk.injEq]at h;obtain⟨-,rfl⟩:=h;have:=Pv (P:=P) hl S hs;simpa[den,show o+(j*1+0)=o+j by omega]using this
  ·cases h
 ·cases h
end
class Bl (G:Type) where
 B:G->List av
abbrev VK (G:Type):=V->List VB->List G->Prop
abbrev gm (G:Type):=List V->List VB->List G->VK G->Prop
variable{G:Type} [Bl G]
def af:List G->List av->List av
 |[],R=>R
 |b::l,R=>Bl.B b++af l R
def Gl (gl:Nat->Option Nat) (ids:List Nat):Prop:=∀g i,gl g=some i->i<ids.length/\ids.getD i 0=g
def Sound (P:Program) (gl:Nat->Option Nat) (f:FuncId) (c:gm G):Prop:=∀(args:List V) (ids:List Nat) (bl:List VB) (ch:List G) (R:List av) (ms:List Nat) (w0 w:World) (K:VK G),
 Gl gl ids->ids.length=bl.length->St ms w0 (lits ids ids bl++af ch R) w->c args bl ch K->aj P f (ao ids args).toArray w λv w'=>
  ∃x more bl' ch',v=den (ids++more) x/\(ids++more).length=bl'.length/\St ms w0 (lits (ids++more) (ids++more) bl'++af ch' R) w'/\K x bl' ch'
def oA (P:Program) (gl:Nat->Option Nat) (h:(Operand->V)->Op->List VB->List G->VK G->Prop):Prop:=∀(e:Operand->V) (op:Op) (ids:List Nat) (bl:List VB) (ch:List G) (R:List av) (ms:List Nat) (w0 w:World) (K:VK G) (ρ:Operand->Value) (o:Oper),
 Gl gl ids->ids.length=bl.length->St ms w0 (lits ids ids bl++af ch R) w->(∀x,ρ x=den ids (e x))->o.op=op->h e op bl ch K->
  ∃x more bl' ch' w',((execOp ρ o).run P w=.ok (.value (den (ids++more) x)) w'\/((execOp ρ o).run P w=.ok .skip w'/\x=cE))/\(ids++more).length=bl'.length/\St ms w0 (lits (ids++more) (ids++more) bl'++af ch' R) w'/\K x bl' ch'
def noH:(Operand->V)->Op->List VB->List G->VK G->Prop:=λ_ _ _ _ _=>False
theorem FU {P:Program} {gl:Nat->Option Nat}:oA (G:=G) P gl noH:=λ_ _ _ _ _ _ _ _ _ _ _ _ _ _ _ _ _ h=>h.elim
def kV:Op->Bool
 |.call ⟨.builtin .append,_,_⟩=>true
 |.call ⟨.builtin .copy,_,_⟩=>true
 |.buildSlice _ n _=>Nat.beq n 0
 |.makeMap .. =>true
 |.makeSlice .. =>true
 |.lookup .. =>true
 |.insert .. =>true
 |.mapUpdate .. =>true
 |.typeAssert .. =>true
 |.binOp op _ _ y _=>Ww op y
 |_=>false
def fill:List (Option V)->(Nat->Value)->Nat->List V
 |[],_,_=>[]
 |some v::l,g,i=>v::fill l g (i+1)
 |none::l,g,i=>.raw (g i)::fill l g (i+1)
def SG (n:Nat):List (Option V)->List V->Prop
 |[],[]=>True
 |some v::l,u::fr=>u=v/\fK n v=true/\SG n l fr
 |none::l,_::fr=>SG n l fr
 |_,_=>False
structure Lp (G:Type) where
 X:Type
 m:X->Nat
 fr:X->List (Option V)
 bl:X->List VB
 ch:X->List G
 en0:List V->List VB->List G->Prop
 en:X->List V->List VB->List G->Prop
 ok0:∀fr' bl' ch',en0 fr' bl' ch'->∃x,SG bl'.length (fr x) fr'/\bl x=bl'/\ch x=ch'
 ok:∀x fr' bl' ch',en x fr' bl' ch'->∃y,m y<m x/\SG (bl x).length (fr y) fr'/\(bl y).length=(bl x).length/\dk (bl x).length (bl y)=true/\(∃j,bl'=bl y++j)/\ch y=ch'
structure Ctx (G:Type) [Bl G] where
 P:Program
 T:FuncId->Option (gm G)
 gl:Nat->Option Nat
 q:Nat->Bool
 h:(Operand->V)->Op->List VB->List G->VK G->Prop
 hok:oA P gl h
 lp:Nat->List V->Option (Lp G)
def ev (gl:Nat->Option Nat) (fr:List V):Operand->V
 |.tmp t=>nth fr t
 |.const v=>zd v
 |.global g=>match gl g with|some i=>.ptr i 0|none=>.raw (.pointer (some ⟨g,0,none⟩))
 |.func f=>.fn f [] []
def okF (P:Program) (f:FuncId):Bool:=match P.funcs[f]?with
 |some fn=>!(fn.name== "runtime.NumGoroutine")&&!fn.body.isNone
 |none=>false
def acp (P:Program) (bl:List VB) (t:TypeId) (v:V) (name:String):Option (FuncId×V):=
 match P.info? t with
 |some i=>(match i.methods.find? (·.name==name)with
  |some m=>(match m.path.toList,m.func,P.underlying t with
   |[],some (f,true),some (.pointer _)=>some (f,v)
   |[],some (f,false),some (.pointer el)=>(match v with
    |.ptr j o=>(match VI P bl el (.ptr j o)with|some u=>some (f,u)|none=>none)
    |_=>none)
   |[],some (f,false),some (.slice _)=>some (f,v)
   |_,_,_=>none)
  |none=>none)
 |none=>none
def callee (P:Program) (e:Operand->V) (bl:List VB):Op->Option (FuncId×List V)
 |.call c=>(match c.callee with
  |.value f=>(match e f with
   |.fn g a b=>bif okF P g then some (g,a++c.args.toList.map e++b)else none
   |_=>none)
  |.invoke r name=>(match e r with
   |.CM t v=>(match acp P bl t v name with
    |some (g,u)=>bif okF P g then some (g,u::c.args.toList.map e)else none
    |none=>none)
   |_=>none)
  |_=>none)
 |_=>none
abbrev gG (G:Type):=FuncId->List V->List VB->List G->VK G->Prop
abbrev yG (G:Type):=List V->List VB->List G->Prop
def kW (C:Ctx G) (call:gG G) (o:Oper) (fr:List V) (bl:List VB) (ch:List G) (k:yG G):Prop:=
 match o.op with
 |.load t x=>(match VI C.P bl t (ev C.gl fr x)with|some v=>k (put fr o.dst v) bl ch|none=>(match Ev C.P bl t (ev C.gl fr x)with|some (p,v)=>p/\k (put fr o.dst v) bl ch|none=>False))
 |.store t x y=>(match stV C.P bl t (ev C.gl fr x) (ev C.gl fr y)with|some bl'=>k (put fr o.dst cE) bl' ch|none=>(match hfS C.P bl t (ev C.gl fr x) (ev C.gl fr y)with|some (p,bl')=>p/\k (put fr o.dst cE) bl' ch|none=>False))
 |op=>match hfN C.P (ev C.gl fr) bl op with
  |some (p,v)=>p/\k (put fr o.dst v) bl ch
  |none=>match evQ C.P (ev C.gl fr) op with
  |some v=>k (put fr o.dst v) bl ch
  |none=>match CS C.P (ev C.gl fr) bl.length op with
   |some (v,b)=>cond (cH bl.length fr&&(dk bl.length bl&&cH bl.length b.c)) (k (put fr o.dst v) (bl++[b]) ch) False
   |none=>match callee C.P (ev C.gl fr) bl op with
    |some (f,args)=>cond (cH bl.length fr) (call f args bl ch λv bl' ch'=>k (put fr o.dst v) bl' ch') False
    |none=>cond (kV op&&cH bl.length fr) (C.h (ev C.gl fr) op bl ch λv bl' ch'=>k (put fr o.dst v) bl' ch') False
def ui (ops:Array Oper) (j:Nat):Option Tmp:=match ops[j]?with|some o=>o.dst|none=>none
def uH (C:Ctx G) (call:gG G) (ops:Array Oper):List Oper->List V->List VB->List G->yG G->Prop
 |[],fr,bl,ch,K=>K fr bl ch
 |o::l,fr,bl,ch,K=>match o.guard with
  |none=>kW C call o fr bl ch λfr bl ch=>uH C call ops l fr bl ch K
  |some (j,want)=>match ui ops j with
   |none=>False
   |some t=>match nth fr t with
    |.bool b=>cond b
     (cond want (kW C call o (j9 fr t (.bool true)) bl ch λfr bl ch=>uH C call ops l fr bl ch K) (uH C call ops l (put (j9 fr t (.bool true)) o.dst cE) bl ch K))
     (cond want (uH C call ops l (put (j9 fr t (.bool false)) o.dst cE) bl ch K) (kW C call o (j9 fr t (.bool false)) bl ch λfr bl ch=>uH C call ops l fr bl ch K))
    |.raw (.tuple _)=>uH C call ops l (put fr o.dst cE) bl ch K
    |_=>False
def act (ids:List Nat) (fr:List V):Act:=⟨(ao ids fr).toArray,[]⟩
def sY (P:Program) (gl:Nat->Option Nat) (call:gG G):Prop:=∀f,okF P f=true->Sound P gl f (call f)
section
variable{ids:List Nat} {w w0:World} {ms:List Nat} {bl:List VB} {ch:List G} {R:List av} {fr:List V} {C:Ctx G} {call:gG G}
theorem Gl.app {gl:Nat->Option Nat} (h:Gl gl ids) (more:List Nat):Gl gl (ids++more):=λg i hg=>by
 obtain⟨h1,h2⟩:=h g i hg;refine⟨by simp;omega,?_⟩;rw[kU (by rw[Nat.blt_eq];exact h1),h2]
theorem aa9 {gl:Nat->Option Nat} (hg:Gl gl ids) (x:Operand):(act ids fr).eval x=den ids (ev gl fr x):=by
 cases x with
 |tmp t=>simp only[Act.eval,act,ev,lI]
 |const v=>simp only[Act.eval,ev,LS]
 |global g=>
  simp only[Act.eval,ev];split
  ·rename_i i hi;simp only[den,(hg g i hi).2]
  ·simp[den]
 |func f=>simp[Act.eval,ev,den,ao]
theorem I9 (d:Option Tmp) (v:V):(act ids fr).put d (den ids v)=act ids (put fr d v):=by
 cases d with
 |none=>rfl
 |some t=>simp only[act,Act.put,put,Ph]
theorem WH {more:List Nat} (h:cH ids.length fr=true):act (ids++more) fr=act ids fr:=by simp only[act,dW fr h]
theorem sZ {P:Program} {t:TypeId} {i:TypeInfo} (h:P.info? t=some i) (w:World):(typeInfo t).run P w=.ok i w:=by simp[typeInfo,h]
theorem qA {P:Program} {f:FuncId} (hk:okF P f=true) (args:Array Value) (w:World):(callFunc f args).run P w=.ok (.enter f args) w:=by
 unfold okF at hk;split at hk
 ·rename_i fn hfn;simp only[Bool.and_eq_true,Bool.not_eq_true']at hk;simp only[callFunc,Sem.run_bind,run_program,Result.andThen_ok,hfn];rw[if_neg (by simp[hk.1]),if_neg (by simp[hk.2])];simp only[Sem.run_pure]
 ·cases hk
theorem WI {P:Program} (hl:ids.length=bl.length) (S:St ms w0 (lits ids ids bl++R) w) {t:TypeId} {v u:V} {name:String} {f:FuncId} (h:acp P bl t v name=some (f,u)) (n:Nat):
 (method (n+1) t (den ids v) name).run P w=.ok (f,den ids u) w:=by
 unfold acp at h;split at h
 ·rename_i i hi;split at h
  ·rename_i m hm;split at h
   ·rename_i f' el hp hf hu;cases h;simp only[method,Sem.run_bind,sZ hi,Result.andThen_ok,hm,hp,hf,follow,Sem.run_pure,receiverAt,run_underlying hu,Place.get]
   ·rename_i f' el hp hf hu;split at h
    ·rename_i j o;split at h
     ·rename_i u' hv;cases h;have hld:=As (P:=P) hl S hv;have e1:m.path.isEmpty=true:=by simpa using hp
      have hw:∀(a:Addr) (nm:String),Builtin.ssaWrapNilChk_ #[t] t #[.pointer (some a),strVal "",strVal nm]=pure (.pointer (some a)):=λ_ _=>rfl;have akB:(loadVar el ⟨ids.getD j 0,o,none⟩).run P w=.ok (den ids u) w:=hld;simp only[method,Sem.run_bind,sZ hi,Result.andThen_ok,hm,hp,hf,follow,Sem.run_pure,receiverAt,run_underlying hu,Place.get,e1,if_true,den,hw,asAddr];rw[akB];rfl
     ·cases h
    ·cases h
   ·rename_i f' el hp hf hu;cases h;simp only[method,Sem.run_bind,sZ hi,Result.andThen_ok,hm,hp,hf,follow,Sem.run_pure,receiverAt,run_underlying hu,Place.get]
   ·cases h
  ·cases h
 ·cases h
theorem LX {P:Program} {ρ:Operand->Value} {e:Operand->V} (cx:∀x,ρ x=den ids (e x)) (hl:ids.length=bl.length) (S:St ms w0 (lits ids ids bl++R) w) (o:Oper) {f:FuncId} {args:List V} (h:callee P e bl o.op=some (f,args)):
 (execOp ρ o).run P w=.ok (.enter f (ao ids args).toArray) w/\okF P f=true:=by
 have LY:∀l:List Operand,l.map ρ=ao ids (l.map e):=λl=>by
  rw[kj,List.map_map];exact List.map_congr_left λx _=>cx x
 unfold callee at h;split at h
 ·rename_i c ho;split at h
  ·rename_i fo hc;split at h
   ·rename_i g a b hf;cases hk:okF P g with
    |false=>rw[hk]at h;simp at h
    |true=>
     rw[hk]at h;simp only[cond_true,Option.some.injEq,Prod.mk.injEq]at h;obtain⟨rfl,rfl⟩:=h;refine⟨?_,hk⟩;have a9:(ao ids a).toArray++c.args.map ρ++(ao ids b).toArray=(ao ids (a++c.args.toList.map e++b)).toArray:=by
      apply Array.ext';simp only[Array.toList_append,Array.toList_map,LY];simp only[kj,List.map_append]
     simp only[execOp,ho,resolve,hc,cx,hf,den,Deferred.ofValue,Sem.run_bind,Sem.run_pure,Result.andThen_ok,invoke,qA hk];rw[<-a9]
   ·cases h
  ·rename_i r name hc;split at h
   ·rename_i t v hr;split at h
    ·rename_i g u hm;cases hk:okF P g with
     |false=>rw[hk]at h;simp at h
     |true=>
      rw[hk]at h;simp only[cond_true,Option.some.injEq,Prod.mk.injEq]at h;obtain⟨rfl,rfl⟩:=h;refine⟨?_,hk⟩;have hmt:=λn=>WI (P:=P) hl S hm n;have hfu:∀n:Nat,n+Made.depth=(n+99)+1:=λn=>rfl;have a9:#[den ids u]++c.args.map ρ=(ao ids (u::c.args.toList.map e)).toArray:=by
       apply Array.ext';simp only[Array.toList_append,Array.toList_map,LY,ao];rfl
      have hex:(#[den ids (.CM t v)]++c.args.map ρ).extract 1 (#[den ids (.CM t v)]++c.args.map ρ).size=c.args.map ρ:=by
       apply Array.ext';simp;exact List.take_of_length_le (by simp)
      have h0:(#[den ids (.CM t v)]++c.args.map ρ)[0]?=some (.iface t (den ids v)):=by
       simp[Array.getElem?_append,den]
      simp only[execOp,ho,resolve,hc,cx,hr,Sem.run_bind,Sem.run_pure,Result.andThen_ok,invoke,h0,hex,callMethod,run_program,hfu,hmt,qA hk];rw[<-a9]
    ·cases h
   ·cases h
  ·cases h
 ·cases h
theorem v8 (hc:sY C.P C.gl call) (hg:Gl C.gl ids) (hl:ids.length=bl.length) (S:St ms w0 (lits ids ids bl++af ch R) w) {o:Oper} {k:yG G} (h:kW C call o fr bl ch k) {a:Act}
 (ha:execOp a.eval o=execOp (act ids fr).eval o) {next:Act->World->Prop} {Q:Exit->Act->World->Prop}
 (hk:∀x more bl' ch' w',(ids++more).length=bl'.length->St ms w0 (lits (ids++more) (ids++more) bl'++af ch' R) w'->k (put fr o.dst x) bl' ch'->more=[]\/cH ids.length fr=true->next (a.put o.dst (den (ids++more) x)) w'):
 o.wp C.P a w next Q:=by
 have cx:=λx=>aa9 (fr:=fr) hg x;have OF:∀x bl' w',ids.length=bl'.length->St ms w0 (lits ids ids bl'++af ch R) w'->k (put fr o.dst x) bl' ch->next (a.put o.dst (den ids x)) w':=λx bl' w' h1 h2 h3=>by
  have:=hk x [] bl' ch w' (by simpa using h1) (by simpa using h2) h3 (.inl rfl);simpa using this
 unfold Oper.wp;rw[ha];unfold kW at h;split at h
 ·rename_i t x ho;split at h
  ·rename_i v hv;have:=As (P:=C.P) hl S hv;have e:(execOp (act ids fr).eval o).run C.P w=.ok (.value (den ids v)) w:=by
    unfold execOp;simp only[ho,cx,Sem.run_bind,this];rfl
   rw[e];simp only[Oper.upon_value];exact OF _ _ _ hl S h
  ·split at h
   ·rename_i p v hv;have:=PB (P:=C.P) hl S hv h.1;have e:(execOp (act ids fr).eval o).run C.P w=.ok (.value (den ids v)) w:=by
     unfold execOp;simp only[ho,cx,Sem.run_bind,this];rfl
    rw[e];simp only[Oper.upon_value];exact OF _ _ _ hl S h.2
   ·exact h.elim
 ·rename_i t x y ho;split at h
  ·rename_i bl' hv;obtain⟨w',h1,h2,h3⟩:=Pv (P:=C.P) hl S hv;have e:(execOp (act ids fr).eval o).run C.P w=.ok .skip w':=by
    unfold execOp;simp only[ho,cx,Sem.run_bind,h1];rfl
   rw[e];simp only[Oper.upon_skip];rw[show(undef:Value)=den ids cE by simp[cE,den]];exact OF _ _ _ h3 h2 h
  ·split at h
   ·rename_i p bl' hv;obtain⟨w',h1,h2,h3⟩:=aco (P:=C.P) hl S hv h.1;have e:(execOp (act ids fr).eval o).run C.P w=.ok .skip w':=by
     unfold execOp;simp only[ho,cx,Sem.run_bind,h1];rfl
    rw[e];simp only[Oper.upon_skip];rw[show(undef:Value)=den ids cE by simp[cE,den]];exact OF _ _ _ h3 h2 h.2
   ·exact h.elim
 ·split at h
  ·rename_i p v hv;rw[PC cx o hv h.1];simp only[Oper.upon_value];exact OF _ _ _ hl S h.2
  ·split at h
   ·rename_i v hv;rw[Pu cx o v hv];simp only[Oper.upon_value];exact OF _ _ _ hl S h
   ·split at h
    ·rename_i v b hv;cases hq:cH bl.length fr&&(dk bl.length bl&&cH bl.length b.c)with
     |false=>rw[hq]at h;exact h.elim
     |true=>
      rw[hq]at h;simp only[Bool.and_eq_true]at hq;rw[<-hl]at hv hq;obtain⟨h1,h2,h2f⟩:=Py (w:=w) cx o hv;obtain⟨h3,h4⟩:=grow hl S b h2 h2f hq.2.1 hq.2.2;rw[h1];simp only[Oper.upon_value];exact hk _ _ _ _ _ h4 h3 h (.inr hq.1)
    ·split at h
     ·rename_i f args hv;cases hq:cH bl.length fr with
      |false=>rw[hq]at h;exact h.elim
      |true=>
       rw[hq]at h;rw[<-hl]at hq;obtain⟨h1,h2⟩:=LX cx hl S o hv;rw[h1,Oper.upon_enter];refine Calls.mono (hc f h2 args ids bl ch R ms w0 w _ hg hl S h) ?_;rintro e w' ⟨v,rfl,x,more,bl',ch',rfl,g1,g2,g3⟩;exact hk _ _ _ _ _ g1 g2 g3 (.inr hq)
     ·cases hq:kV o.op&&cH bl.length fr with
      |false=>rw[hq]at h;exact h.elim
      |true=>
       rw[hq]at h;rw[<-hl]at hq;simp only[Bool.and_eq_true]at hq;obtain⟨x,more,bl',ch',w',h1,g1,g2,g3⟩:=C.hok _ _ ids bl ch R ms w0 w _ _ o hg hl S cx rfl h;rcases h1 with h1|⟨h1,rfl⟩
       ·rw[h1];simp only[Oper.upon_value];exact hk _ _ _ _ _ g1 g2 g3 (.inr hq.2)
       ·rw[h1];simp only[Oper.upon_skip];have:=hk _ _ _ _ _ g1 g2 g3 (.inr hq.2);simpa[cE,den]using this
theorem PD {more:List Nat} (h:more=[]\/cH ids.length fr=true):act (ids++more) fr=act ids fr:=by
 rcases h with rfl|h
 ·simp
 ·exact WH h
end
end Vx
namespace Vx
open Go Go.RowKit Go.BigFrame Sx
variable{G:Type} [Bl G]
section
variable{C:Ctx G} {call:gG G}
theorem qB:∀(fr:List V) (t:Nat),j9 fr t (nth fr t)=fr
 |[],_=>rfl
 |_::_,0=>rfl
 |v::l,t+1=>by simp[j9,nth,qB l t]
theorem FV {ids:List Nat} {fr:List V} {ops:Array Oper} {j t:Nat} {b:Bool} (hd:ui ops j=some t) (h:nth fr t=.bool b):yielded ops (act ids fr).tmps j=some b:=by
 have h1:(ops[j]?).bind (·.dst)=some t:=by
  unfold ui at hd;split at hd
  ·rename_i o ho;rw[ho];simpa using hd
  ·cases hd
 have h2:(act ids fr).tmps[t]?=some (.bool b):=by
  have h3:=lI (ids:=ids) fr t;rw[h]at h3;have h4:t<(ao ids fr).toArray.size:=by
   rcases Nat.lt_or_ge t (ao ids fr).toArray.size with h5|h5
   ·exact h5
   ·exfalso;rw[Array.getD,dif_neg (by omega)]at h3;simp[den,undef]at h3
  rw[Array.getD,dif_pos h4]at h3;simp only[act];rw[Array.getElem?_eq_getElem h4];simp only[den]at h3;exact congrArg some h3.symm
 simp[yielded,h1,h2]
theorem FW {ids:List Nat} {fr:List V} {ops:Array Oper} {j t:Nat} {vs:Array Value} (hd:ui ops j=some t) (h:nth fr t=.raw (.tuple vs)):yielded ops (act ids fr).tmps j=none:=by
 have h1:(ops[j]?).bind (·.dst)=some t:=by
  unfold ui at hd;split at hd
  ·rename_i o ho;rw[ho];simpa using hd
  ·cases hd
 unfold yielded;rw[h1];simp only[Option.bind_some];by_cases h4:t<(ao ids fr).toArray.size
 ·have h3:=lI (ids:=ids) fr t;rw[h,Array.getD,dif_pos h4]at h3;simp only[act];rw[Array.getElem?_eq_getElem h4];simp only[den]at h3;rw[Array.getInternal_eq_getElem]at h3;rw[<-h3]
 ·simp only[act];rw[Array.getElem?_eq_none (by omega)]
theorem FX (hc:sY C.P C.gl call) {ops:Array Oper} {R:List av} {ms:List Nat} {w0:World} {Q:Exit->Act->World->Prop} {k:yG G}:∀(l:List Oper) {ids:List Nat} {bl:List VB} {ch:List G} {fr:List V} {w:World},
 Gl C.gl ids->ids.length=bl.length->St ms w0 (lits ids ids bl++af ch R) w->uH C call ops l fr bl ch k->
 (∀fr' more bl' ch' w',(ids++more).length=bl'.length->St ms w0 (lits (ids++more) (ids++more) bl'++af ch' R) w'->k fr' bl' ch'->Q .normal (act (ids++more) fr') w')->
 WL C.P ops Q l (act ids fr) w
 |[],ids,bl,ch,fr,w,hg,hl,S,h,hk=>by
  refine aw ?_;have:=hk fr [] bl ch w (by simpa using hl) (by simpa using S) h;simpa using this
 |o::l,ids,bl,ch,fr,w,hg,hl,S,h,hk=>by
  have go:∀fr,Region.wanted o (yielded ops (act ids fr).tmps)=true->kW C call o fr bl ch (λfr bl ch=>uH C call ops l fr bl ch k)->WL C.P ops Q (o::l) (act ids fr) w:=by
   intro fr hw h;refine WL.want hw λK hK=>v8 hc hg hl S h rfl ?_;intro x more bl' ch' w' g1 g2 g3 g4;rw[<-PD g4,I9];refine hK _ _ (FX hc l (hg.app more) g1 g2 g3 ?_);intro VJ aP bl2 ch2 w2 e1 e2 e3;have:=hk VJ (more++aP) bl2 ch2 w2 (by rw[<-List.append_assoc];exact e1) (by rw[<-List.append_assoc];exact e2) e3;rw[<-List.append_assoc]at this;exact this
  have sk:∀fr,Region.wanted o (yielded ops (act ids fr).tmps)=false->uH C call ops l (put fr o.dst cE) bl ch k->WL C.P ops Q (o::l) (act ids fr) w:=by
   intro fr hw h;refine qg ?_ hw;rw[show(undef:Value)=den ids cE by simp[cE,den],I9];exact FX hc l hg hl S h hk
  simp only[uH]at h;split at h
  ·rename_i U8;exact go fr (by simp[Region.wanted,U8]) h
  ·rename_i j want U8;split at h
   ·exact h.elim
   ·rename_i t hd;split at h
    ·rename_i b hb;have hy:=FV (ids:=ids) hd hb;have hwt:Region.wanted o (yielded ops (act ids fr).tmps)=(b==want):=by
      simp only[Region.wanted,U8,hy];cases b<;>cases want<;>rfl
     have hs:=qB fr t;rw[hb]at hs;cases b with
     |true=>
      rw[hs]at h;cases want with
      |true=>exact go fr (by rw[hwt];rfl) h
      |false=>exact sk fr (by rw[hwt];rfl) h
     |false=>
      rw[hs]at h;cases want with
      |true=>exact sk fr (by rw[hwt];rfl) h
      |false=>exact go fr (by rw[hwt];rfl) h
    ·rename_i vs hb;exact sk fr (by simp only[Region.wanted,U8,FW (ids:=ids) hd hb];rfl) h
    ·exact h.elim
end
inductive Cl where|f|a|x
 deriving DecidableEq
def fH (o:Oper):Cl:=match o.op with
 |.alloc _=>.a
 |.move _=>.f
 |.assign _=>.f
 |.pick .. =>.f
 |.load .. =>.f
 |.nilCheck _=>.f
 |.binOp op _ _ y _=>bif Ww op y then .x else .f
 |.unOp .. =>.f
 |.convert .. =>.f
 |.makeFunc .. =>.f
 |.makeInterface .. =>.f
 |.build .. =>.f
 |.fieldAddr .. =>.f
 |.field .. =>.f
 |.indexAddr .. =>.f
 |.index .. =>.f
 |.extract .. =>.f
 |.call ⟨.builtin .len,_,_⟩=>.f
 |.call ⟨.builtin .min,_,_⟩=>.f
 |.call ⟨.builtin .max,_,_⟩=>.f
 |.slice .. =>.f
 |.sliceToArrayPointer .. =>.f
 |_=>.x
def yz (o:Oper):Bool:=match fH o with|.f=>true|_=>false
def oO (o:Oper):Bool:=match fH o with|.a=>true|_=>false
def zi (o:Oper):Bool:=match fH o with|.x=>true|_=>false
def acq (o:Oper):Bool:=match o.op with|.load .. =>true|_=>false
def kD (q:Nat->Bool) (o:Oper):Bool:=match o.op with
 |.box .. =>true
 |.buildSlice _ n _=>!(Nat.beq n 0)
 |.call ⟨.value (.func f),_,_⟩=>q f
 |_=>false
def WJ (pm:List Nat):List Edge->Nat
 |[]=>0
 |e::l=>bif Region.binds .any e then WJ pm l|||(2^e.on|||pm.getD e.on 0)else WJ pm l
def I_:List Oper->List Nat->List Nat
 |[],pm=>pm
 |o::l,pm=>I_ l (pm++[WJ pm o.after.toList])
def nO (pm:List Nat) (i j:Nat):Bool:=(pm.getD j 0).testBit i
def yH (l:List Oper) (pm:List Nat):Bool:=Nat.beq pm.length l.length&&(l.zip pm).all λp=>Nat.beq p.2 (WJ pm p.1.after.toList)
def aK (l:List Oper) (i:Nat):Oper:=match l[i]?with|some o=>o|none=>default
def eT (p:Nat->Nat->Bool):List Nat->Bool
 |[]=>true
 |i::l=>l.all (p i)&&eT p l
def jN (l:List Oper):List Nat->Option Nat
 |[]=>none
 |i::r=>bif oO (aK l i)then jN l r else some i
def fR (l:List Oper) (pm:List Nat):List Nat->Bool
 |[]=>true
 |i::r=>(bif oO (aK l i)then(match jN l r with|some x=>zi (aK l x)&&nO pm i x|none=>false)else true)&&fR l pm r
def looks (l:List Oper) (i:Nat):List Tmp:=Oper.looksAt l.toArray (aK l i)
def WK (t:Tmp) (l:List Tmp):Bool:=l.any λu=>Nat.beq u t
def lL (q:Nat->Bool) (l:List Oper) (pm:List Nat) (i j:Nat):Bool:=
 !(nO pm j i)&&(nO pm i j||
   (bif zi (aK l i)then oO (aK l j)else true)&&
   (bif zi (aK l j)&&acq (aK l i)then kD q (aK l j)else true))&&
 (match(aK l i).dst with|some t=>(bif WK t (looks l j)then nO pm i j else true)&&(match(aK l j).dst with|some u=>!(Nat.beq t u)|none=>true)|none=>true)&&
 (match(aK l j).dst with|some t=>(bif WK t (looks l i)then nO pm i j else true)|none=>true)
def Ja (C:Ctx G) (n:Nat) (o:Oper):Bool:=
 (match o.dst with|some t=>Nat.blt t n|none=>true)&&(match o.op with|.select .. =>false|_=>true)&&
 (bif oO o then(match o.guard,o.dst,o.op with|none,some _,.alloc t=>(match jo C.P t with|some _=>true|none=>false)|_,_,_=>false)else true)
def VL (l:List Oper) (ts:List Nat):List Oper:=ts.map (aK l)
def s9:List Nat->Bool
 |[]=>true
 |i::l=>!(l.any λj=>Nat.beq j i)&&s9 l
def kp (l:List Oper) (n:Nat):Bool:=l.all λo=>o.after.all λe=>!Region.binds .any e||Nat.blt e.on n
def Jb (C:Ctx G) (q:Nat->Bool) (l:List Oper) (pm ts:List Nat):Bool:=
 yH l pm&&kp l l.length&&C.P.follows .mixedOrders&&Nat.beq ts.length l.length&&ts.all (λi=>Nat.blt i l.length)&&s9 ts&&
 eT (lL q l pm) ts&&fR l pm ts&&ts.all (λi=>!(nO pm i i))
def v9 (C:Ctx G) (q:Nat->Bool) (l:List Oper) (pm ts:List Nat) (n:Nat):Bool:=Jb C q l pm ts&&l.all (Ja C n)
def FY (pm:List Nat) (done m:Nat) (l:List Oper) (c:Oper->Bool) (am:Nat):Nat->Option Nat
 |0=>none
 |k+1=>match FY pm done m l c am k with
  |some i=>some i
  |none=>bif Nat.testBit done k then none else bif c (aK l k)&&Nat.beq ((pm.getD k 0)|||(done|||am)) (done|||am)then some k else none
def PE (l:List Oper):Nat->Nat
 |0=>0
 |k+1=>bif oO (aK l k)then PE l k|||2^k else PE l k
def PF (pm:List Nat) (l:List Oper) (done j:Nat):Nat->List Nat
 |0=>[]
 |k+1=>PF pm l done j k++(bif oO (aK l k)&&(nO pm k j&&!(Nat.testBit done k))then[k]else[])
def sched (pm:List Nat) (l:List Oper) (am:Nat):Nat->Nat->List Nat
 |0,_=>[]
 |n+1,done=>match FY pm done l.length l yz 0 l.length with
  |some i=>i::sched pm l am n (done|||2^i)
  |none=>match FY pm done l.length l zi am l.length with
   |some j=>PF pm l done j l.length++(j::sched pm l am n ((PF pm l done j l.length).foldl (λs i=>s|||2^i) (done|||2^j)))
   |none=>[]
def nQ (l:List Oper) (pm:List Nat):List Nat:=sched pm l (PE l l.length) l.length 0
def upE (i:Nat) (o:Oper):Oper:={o with after:=o.after.push ⟨i,.data⟩}
def fb (l:List Oper) (i j:Nat):List Oper:=match l[j]?with|some o=>l.set j (upE i o)|none=>l
def wa:List Oper->List Nat->List Nat->List Nat
 |[],pm,_=>pm
 |o::l,pm,old=>wa l (pm++[WJ (pm++old) o.after.toList]) old.tail
def pa (l:List Oper):List Nat->Option (Nat×List Nat)
 |[]=>none
 |i::r=>bif zi (aK l i)then some (i,r)else pa l r
def okS (C:Ctx G) (l:List Oper) (pm ts:List Nat) (i n:Nat):Bool:=v9 C C.q l pm ts n&&(l.all λo=>!(oO o))&&(match pa l ts with|some (x,_)=>Nat.beq x i|none=>false)
section
variable{l:List Oper} {pm:List Nat}
theorem vb (pm:List Nat) (i:Nat):∀es:List Edge,(WJ pm es).testBit i=true↔∃e∈es,Region.binds .any e=true/\(e.on=i\/(pm.getD e.on 0).testBit i=true)
 |[]=>by simp[WJ]
 |e::l=>by
  unfold WJ;cases hb:Region.binds .any e with
  |false=>simp[hb,vb pm i l]
  |true=>
   simp only[cond_true,Nat.testBit_or,Bool.or_eq_true,vb pm i l,Nat.testBit_two_pow,decide_eq_true_eq];constructor
   ·rintro(⟨x,hx,h1,h2⟩|h2)
    ·exact⟨x,by simp[hx],h1,h2⟩
    ·exact⟨e,by simp,hb,h2⟩
   ·rintro⟨x,hx,h1,h2⟩;rcases List.mem_cons.1 hx with rfl|hx
    ·exact .inr h2
    ·exact .inl ⟨x,hx,h1,h2⟩
theorem aa_ (h:yH l pm=true) {j:Nat} {o:Oper} (ho:l[j]?=some o):pm.getD j 0=WJ pm o.after.toList:=by
 unfold yH at h;simp only[Bool.and_eq_true]at h;have hlen:=Nat.eq_of_beq_eq_true h.1;have hj:j<l.length:=by rcases Nat.lt_or_ge j l.length with h'|h';exact h';simp[h']at ho
 have hm:(l.zip pm)[j]?=some (o,pm[j]):=by
  rw[List.getElem?_zip_eq_some];exact⟨ho,by simp⟩
 have:=List.all_eq_true.1 h.2 _ (List.mem_of_getElem? hm);have:=Nat.eq_of_beq_eq_true this;simp only[List.getD,List.getElem?_eq_getElem (show j<pm.length by omega),Option.getD_some];exact this
theorem nR {i:Nat} {o:Oper} (h:l[i]?=some o):aK l i=o:=by unfold aK;rw[h]
theorem PG {i t:Nat} (h:(aK l i).dst=some t):l[i]?=some (aK l i):=by
 unfold aK at h⊢;cases hi:l[i]?with
 |some o=>rfl
 |none=>rw[hi]at h;cases h
theorem zj (h:yH l pm=true) {i j:Nat} {o:Oper} (ho:l[j]?=some o) (hb:nO pm i j=true):∃e∈o.after,Region.binds .any e=true/\(e.on=i\/nO pm i e.on=true):=by
 unfold nO at hb;rw[aa_ h ho]at hb;obtain⟨e,he,h1,h2⟩:=(vb pm _ _).1 hb;exact⟨e,by simpa using he,h1,h2⟩
theorem gu {p:Nat->Nat->Bool}:∀{a b:List Nat},eT p (a++b)=true->(∀i∈a,∀j∈b,p i j=true)/\eT p a=true/\eT p b=true
 |[],b,h=>⟨by simp,rfl,h⟩
 |x::a,b,h=>by
  simp only[List.cons_append,eT,Bool.and_eq_true,List.all_eq_true]at h;obtain⟨i1,i2,i3⟩:=gu h.2;refine⟨?_,?_,i3⟩
  ·intro i hi j hj;rcases List.mem_cons.1 hi with rfl|hi
   ·exact h.1 j (by simp[hj])
   ·exact i1 i hi j hj
  ·simp only[eT,Bool.and_eq_true,List.all_eq_true];exact⟨λj hj=>h.1 j (by simp[hj]),i2⟩
theorem s_ {p:Nat->Nat->Bool}:∀{a:List Nat},eT p a=true->∀i∈a,∀j∈a,i≠j->p i j=true\/p j i=true
 |[],_,_,hi,_,_,_=>by cases hi
 |x::a,h,i,hi,j,hj,e_=>by
  simp only[eT,Bool.and_eq_true,List.all_eq_true]at h;rcases List.mem_cons.1 hi with e1|uD
  ·rcases List.mem_cons.1 hj with e2|yF
   ·exact absurd (e1.trans e2.symm) e_
   ·rw[e1];exact .inl (h.1 j yF)
  ·rcases List.mem_cons.1 hj with e2|yF
   ·rw[e2];exact .inr (h.1 i uD)
   ·exact s_ h.2 i uD j yF e_
theorem pd:∀{a:List Nat},s9 a=true->a.Nodup
 |[],_=>List.nodup_nil
 |i::a,h=>by
  simp only[s9,Bool.and_eq_true,Bool.not_eq_true']at h;refine List.nodup_cons.2 ⟨?_,pd h.2⟩;intro hm;have:=List.any_eq_false.1 h.1 i hm;simp[Nat.beq_refl]at this
theorem CZ {t:Tmp} {ts:List Tmp}:WK t ts=true↔t∈ts:=by
 unfold WK;rw[List.any_eq_true];constructor
 ·rintro⟨u,hu,h⟩;obtain rfl:=Nat.eq_of_beq_eq_true h;exact hu
 ·intro h;exact⟨t,h,Nat.beq_refl t⟩
theorem gX (o:Oper):(yz o=true/\oO o=false/\zi o=false)\/(yz o=false/\oO o=true/\zi o=false)\/(yz o=false/\oO o=false/\zi o=true):=by
 unfold yz oO zi;cases fH o<;>simp
structure PH (q:Nat->Bool) (l:List Oper) (pm:List Nat) (i j:Nat):Prop where
 nb:nO pm j i=false
 xj:zi (aK l i)=true->oO (aK l j)=false->nO pm i j=true
 ld:zi (aK l j)=true->acq (aK l i)=true->nO pm i j=true\/kD q (aK l j)=true
 wi:∀t,(aK l i).dst=some t->t∈looks l j->nO pm i j=true
 wj:∀t,(aK l j).dst=some t->t∈looks l i->nO pm i j=true
 ww:∀t,(aK l i).dst=some t->(aK l j).dst≠some t
theorem nf {q:Nat->Bool} {i j:Nat} (h:lL q l pm i j=true):PH q l pm i j:=by
 unfold lL at h;simp only[Bool.and_eq_true,Bool.not_eq_true']at h;obtain⟨⟨⟨h1,h2⟩,h3⟩,h4⟩:=h;refine⟨h1,?_,?_,?_,?_,?_⟩
 ·intro hx ha;rcases Bool.or_eq_true _ _▸h2 with h2|h2
  ·exact h2
  ·rw[hx,ha]at h2;simp at h2
 ·intro hx hl;rcases Bool.or_eq_true _ _▸h2 with h2|h2
  ·exact .inl h2
  ·rw[hx,hl]at h2;simp only[Bool.and_eq_true,Bool.and_self,cond_true]at h2;exact .inr h2.2
 ·intro t ht hm;rw[ht]at h3;simp only[Bool.and_eq_true,CZ.2 hm,cond_true]at h3;exact h3.1
 ·intro t ht hm;rw[ht]at h4;simpa only[CZ.2 hm,cond_true]using h4
 ·intro t ht e;rw[ht,e]at h3;simp[Nat.beq_refl]at h3
end
def gOK (l:List Oper) (fr:List V) (o:Oper) (b:Bool):Prop:=match o.guard with
 |none=>b=true
 |some (g,want)=>∃t,ui l.toArray g=some t/\((∃c,nth fr t=.bool c/\b=(c==want))\/(∃vs,nth fr t=.raw (.tuple vs)/\b=false))
def EvS (C:Ctx G) (bl:List VB) (fr:List V) (o:Oper) (v:V):Prop:=(evQ C.P (ev C.gl fr) o.op=some v\/∃b0 p,hfN C.P (ev C.gl fr) b0 o.op=some (p,v)/\p)\/(∃t x,o.op=.load t x/\EF C.P bl t (ev C.gl fr x) v)
structure Rec (C:Ctx G) (l:List Oper) (pm:List Nat) (jv fr:List V) (bl:List VB) (i:Nat) (wb:List V) (v:V) (b:Bool):Prop where
 w1:∀t∈looks l i,∀h,(aK l h).dst=some t->nO pm h i=true->nth wb t=nth fr t
 w0:∀t∈looks l i,(∀h,(aK l h).dst=some t->nO pm h i=false)->nth wb t=nth jv t
 val:∀d,(aK l i).dst=some d->nth fr d=v
 g:gOK l wb (aK l i) b
 e:if b then EvS C bl wb (aK l i) v else v=cE
section
variable{C:Ctx G} {l:List Oper} {pm:List Nat} {ids:List Nat} {w:World}
theorem wc (a:Act) (t:Tmp):a.eval (.tmp t)=fI a t:=rfl
theorem Au {fr:List V} (t:Nat):fI (act ids fr) t=den ids (nth fr t):=by rw[<-wc];simp only[Act.eval,act,lI]
theorem PI {a:Act} {t:Tmp} {b:Bool} (h:fI a t=.bool b):a.tmps[t]?=some (.bool b):=by
 have h':a.tmps.getD t undef=.bool b:=h;by_cases h1:t<a.tmps.size
 ·rw[Array.getD,dif_pos h1]at h';rw[Array.getElem?_eq_getElem h1];exact congrArg some h'
 ·rw[Array.getD,dif_neg h1]at h';cases h'
theorem WM {a:Act} {t:Tmp} {vs:Array Value} (h:fI a t=.tuple vs):a.tmps[t]?=none\/a.tmps[t]?=some (.tuple vs):=by
 have h':a.tmps.getD t undef=.tuple vs:=h;by_cases h1:t<a.tmps.size
 ·rw[Array.getD,dif_pos h1]at h';rw[Array.getElem?_eq_getElem h1];exact .inr (congrArg some h')
 ·exact .inl (Array.getElem?_eq_none (Nat.le_of_not_lt h1))
theorem PJ {ops:Array Oper} {g t:Nat} (h:ui ops g=some t):(ops[g]?).bind (·.dst)=some t:=by
 unfold ui at h;split at h
 ·rename_i o ho;rw[ho];simpa using h
 ·cases h
theorem lM {a:Act} {fr:List V} {o:Oper} {b:Bool} (hy:∀t∈Oper.looksAt l.toArray o,fI a t=den ids (nth fr t)) (hg:gOK l fr o b):Region.wanted o (yielded l.toArray a.tmps)=b:=by
 unfold gOK at hg;unfold Region.wanted;split at hg
 ·rename_i h;rw[h];exact hg.symm
 ·rename_i g want h;rw[h];obtain⟨t,ht,hc⟩:=hg;have hb:=PJ ht;have hm:t∈Oper.looksAt l.toArray o:=by
   unfold Oper.looksAt;rw[h];refine List.mem_append_right _ ?_;simp only[hb];simp
  have hyt:=hy t hm;simp only[yielded,hb,Option.bind_some];rcases hc with⟨c,h1,h2⟩|⟨vs,h1,h2⟩
  ·rw[h1]at hyt;rw[PI (b:=c) (by rw[hyt];simp only[den])];simp only;rw[h2];cases c<;>cases want<;>rfl
  ·rw[h1]at hyt;rcases WM (a:=a) (t:=t) (vs:=vs) (by rw[hyt];simp only[den])with h3|h3
   ·rw[h3,h2];rfl
   ·rw[h3,h2];rfl
theorem jO {a:Act} {fr:List V} {o:Oper} (hs:∀cs b,o.op≠.select cs b) (hy:∀t∈Oper.looksAt l.toArray o,fI a t=den ids (nth fr t)):execOp a.eval o=execOp (act ids fr).eval o:=by
 refine execOp_congr o hs ?_;intro x hx;cases x with
 |tmp t=>
  rw[wc,wc,Au];refine hy t ?_;unfold Oper.looksAt;exact List.mem_append_left _ (List.mem_filterMap.2 ⟨.tmp t,by simpa using hx,rfl⟩)
 |const v=>rfl
 |global g=>rfl
 |func f=>rfl
theorem Av {bl:List VB} {R:List av} {ms:List Nat} {w0:World} {fr:List V} {o:Oper} {v:V} (hg:Gl C.gl ids) (hl:ids.length=bl.length) (S:St ms w0 (lits ids ids bl++R) w) (h:EvS C bl fr o v):
 (execOp (act ids fr).eval o).run C.P w=.ok (.value (den ids v)) w:=by
 have cx:=λx=>aa9 (fr:=fr) hg x;rcases h with(h|⟨b0,p,h,hp⟩)|⟨t,x,ho,h⟩
 ·exact Pu cx o v h
 ·exact PC cx o h hp
 ·have:=h.run hl S;unfold execOp;simp only[ho,cx,Sem.run_bind,this];rfl
theorem agB {call:gG G} {o:Oper} {fr:List V} {bl:List VB} {ch:List G} {k:yG G} (hf:yz o=true) (h:kW C call o fr bl ch k):∃v,EvS C bl fr o v/\k (put fr o.dst v) bl ch:=by
 unfold kW at h;split at h
 ·rename_i t x ho;split at h
  ·rename_i v hv;exact⟨v,.inr ⟨t,x,ho,.inl hv⟩,h⟩
  ·split at h
   ·rename_i p v hv;exact⟨v,.inr ⟨t,x,ho,.inr ⟨p,hv,h.1⟩⟩,h.2⟩
   ·exact h.elim
 ·rename_i t x y ho;simp[yz,fH,ho]at hf
 ·rename_i op h1 h2;split at h
  ·rename_i p v hv;exact⟨v,.inl (.inr ⟨_,p,hv,h.1⟩),h.2⟩
  split at h
  ·rename_i v hv;exact⟨v,.inl (.inl hv),h⟩
  ·exfalso;unfold yz fH at hf;split at h
   ·rename_i v b hv;unfold CS at hv;split at hv<;>simp_all
   ·split at h
    ·rename_i f args hv;unfold callee at hv;split at hv
     ·rename_i c hc;split at hv
      ·rename_i fo hfo;obtain⟨FZ,ar,ts⟩:=c;simp only at hfo;subst hfo;rw[hc]at hf;simp at hf
      ·rename_i r nm hfo;obtain⟨FZ,ar,ts⟩:=c;simp only at hfo;subst hfo;rw[hc]at hf;simp at hf
      ·cases hv
     ·cases hv
    ·cases hq:kV o.op with
     |false=>rw[hq]at h;exact h
     |true=>
      unfold kV at hq;split at hq<;>simp_all
end
structure DI (C:Ctx G) (call:gG G) (q:Nat->Bool) (l:List Oper) (pm:List Nat) (R:List av) (ms:List Nat) (w0:World) (k:yG G) (jv:List V) (rA:List Nat)
 (b9 rest:List Nat) (fr:List V) (ids:List Nat) (bl:List VB) (ch:List G) (Z:List (Nat×av)) (listed:Array Bool) (a:Act) (w:World):Prop where
 gH:eT (lL q l pm) (b9++rest)=true
 WN:fR l pm rest=true
 C0:∀i,i<l.length->i∈b9++rest
 C1:∀i∈b9++rest,i<l.length
 nd:(b9++rest).Nodup
 pg:l.all (Ja C fr.length)=true
 WO:∀i∈b9++rest,nO pm i i=false
 ls:listed.size=l.length
 OH:∀i∈b9,yz (aK l i)=false->listed[i]?=some true
 mE:∀i∈rest,oO (aK l i)=false->listed[i]?=some false
 back:∀j,listed[j]?=some true->∀i,nO pm i j=true->listed[i]?=some true
 vc:uH C call l.toArray (VL l rest) fr bl ch k
 sz:a.tmps.size=fr.length
 df:a.defers=[]
 slot:∀t,(∀i∈b9,(aK l i).dst=some t->listed[i]?=some true)->(∀i∈rest,(aK l i).dst=some t->listed[i]?=some false)->fI a t=den ids (nth fr t)
 old:∀i∈b9,listed[i]?=some false->∀t,(aK l i).dst=some t->fI a t=den ids (nth jv t)
 we:∀t,(∀i∈b9,(aK l i).dst≠some t)->nth fr t=nth jv t
 recs:∀i∈b9,listed[i]?=some false->∃wb v b,Rec C l pm jv fr bl i wb v b
 OI:∀i∈rest,listed[i]?=some true->∃b t z d,(i,(⟨b,true,.cells (ab [] z).toArray t (0,0)⟩:av))∈Z/\(aK l i).op=.alloc t/\jo C.P t=some z/\(aK l i).dst=some d/\fI a d=.pointer (some ⟨b,0,none⟩)
 oB:∀p∈Z,p.1∈rest/\listed[p.1]?=some true
 SL:(Z.map (·.1)).Nodup
 S:St ms w0 (lits ids ids bl++af ch (Z.map (·.2)++R)) w
 hl:ids.length=bl.length
 gl:Gl C.gl ids
 EG:cH ids.length jv=true
 SN:∃m,ids=rA++m
section
variable{C:Ctx G} {call:gG G} {q:Nat->Bool} {l:List Oper} {pm:List Nat} {R:List av} {ms:List Nat} {w0:World} {k:yG G} {jv fr:List V} {rA:List Nat}
 {b9 rest:List Nat} {ids:List Nat} {bl:List VB} {ch:List G} {Z:List (Nat×av)} {listed:Array Bool} {a:Act} {w:World} {Q:Exit->Act->World->Prop}
theorem C2:∀(fr:List V) (t:Nat) (x:V),(j9 fr t x).length=fr.length
 |[],_,_=>rfl
 |_::_,0,_=>rfl
 |_::l,t+1,x=>by simp[j9,C2 l t x]
theorem nT (d:Option Tmp) (x:V):(put fr d x).length=fr.length:=by cases d<;>simp[put,C2]
theorem wg:∀(fr:List V) (t u:Nat) (x:V),t<fr.length->nth (j9 fr t x) u=if u=t then x else nth fr u
 |[],t,u,x,h=>by simp at h
 |v::l,0,0,x,_=>by simp[j9,nth]
 |v::l,0,u+1,x,_=>by simp[j9,nth]
 |v::l,t+1,0,x,_=>by simp[j9,nth]
 |v::l,t+1,u+1,x,h=>by simp[j9,nth,wg l t u x (by simpa using h)]
theorem Aw {d:Option Tmp} {x:V} (t:Tmp) (hd:∀u,d=some u->u<fr.length):(d=some t->nth (put fr d x) t=x)/\(d≠some t->nth (put fr d x) t=nth fr t):=by
 cases d with
 |none=>exact⟨λh=>(nomatch h),λ_=>rfl⟩
 |some u=>
  refine⟨λh=>?_,λh=>?_⟩
  ·cases h;simp only[put];rw[wg _ _ _ _ (hd _ rfl),if_pos rfl]
  ·simp only[put];rw[wg _ _ _ _ (hd u rfl),if_neg (λe=>h (by rw[e]))]
theorem ng {n:Nat} (h:l.all (Ja C n)=true) {i:Nat} {o:Oper} (ho:l[i]?=some o):(∀t,o.dst=some t->t<n)/\(∀cs b,o.op≠.select cs b)/\
 (oO o=true->o.guard=none/\∃d t z,o.dst=some d/\o.op=.alloc t/\jo C.P t=some z):=by
 have h1:=List.all_eq_true.1 h o (List.mem_of_getElem? ho);unfold Ja at h1;simp only[Bool.and_eq_true]at h1;obtain⟨⟨a1,a2⟩,a3⟩:=h1;refine⟨?_,?_,?_⟩
 ·intro t ht;rw[ht]at a1;rw[Nat.blt_eq]at a1;exact a1
 ·intro cs b e;rw[e]at a2;cases a2
 ·intro ha;rw[ha]at a3;simp only[cond_true]at a3;split at a3
  ·rename_i d t hg hd ho;split at a3
   ·rename_i z hz;exact⟨hg,d,t,z,hd,ho,hz⟩
   ·cases a3
  ·cases a3
namespace DI
theorem at_ (D:DI C call q l pm R ms w0 k jv rA b9 rest fr ids bl ch Z listed a w) {i:Nat} (h:i∈b9++rest):l[i]?=some (aK l i):=by
 have:=D.C1 i h;rw[List.getElem?_eq_getElem this];rw[nR (List.getElem?_eq_getElem this)]
theorem mem_of (D:DI C call q l pm R ms w0 k jv rA b9 rest fr ids bl ch Z listed a w) {i t:Nat} (h:(aK l i).dst=some t):i∈b9++rest:=by
 have:=PG h;exact D.C0 i (by rcases Nat.lt_or_ge i l.length with h'|h';exact h';simp[h']at this)
theorem bit (D:DI C call q l pm R ms w0 k jv rA b9 rest fr ids bl ch Z listed a w) {i:Nat} (h:i∈b9++rest):listed[i]?=some true\/listed[i]?=some false:=d_ D.ls (D.C1 i h)
theorem uniq (D:DI C call q l pm R ms w0 k jv rA b9 rest fr ids bl ch Z listed a w) {i j t:Nat} (hi:(aK l i).dst=some t) (hj:(aK l j).dst=some t):i=j:=by
 refine Classical.byContradiction λe_=>?_;rcases s_ D.gH i (D.mem_of hi) j (D.mem_of hj) e_ with h|h
 ·exact(nf h).ww t hi hj
 ·exact(nf h).ww t hj hi
theorem ahead (D:DI C call q l pm R ms w0 k jv rA b9 rest fr ids bl ch Z listed a w) {i j:Nat} (hi:i∈b9) (hj:j∈rest):PH q l pm i j:=nf ((gu D.gH).1 i hi j hj)
theorem apart (D:DI C call q l pm R ms w0 k jv rA b9 rest fr ids bl ch Z listed a w) {i:Nat} (hi:i∈b9) (hj:i∈rest):False:=(List.nodup_append.1 D.nd).2.2 i hi i hj rfl
theorem wk (D:DI C call q l pm R ms w0 k jv rA b9 rest fr ids bl ch Z listed a w) {i:Nat} (hi:i∈b9) (hu:listed[i]?=some false) (hp:∀h,nO pm h i=true->listed[h]?=some true) {wb:List V} {v:V} {b:Bool}
 (r:Rec C l pm jv fr bl i wb v b):∀t∈looks l i,fI a t=den ids (nth wb t):=by
 intro t ht;by_cases hw:∃h,(aK l h).dst=some t
 ·obtain⟨h,hd⟩:=hw;cases hb:nO pm h i with
  |true=>
   rw[r.w1 t ht h hd hb];refine D.slot t ?_ ?_
   ·intro i' uD nU;rw[D.uniq nU hd];exact hp h hb
   ·intro i' uD nU;have:=(D.ahead hi (D.uniq nU hd▸uD)).nb;rw[hb]at this;cases this
  |false=>
   rw[r.w0 t ht (λh' nU=>by rw[D.uniq nU hd];exact hb)];by_cases he:h=i
   ·subst he;exact D.old h hi hu t hd
   ·have hm:=D.mem_of hd;have hbi:nO pm i h=true:=by
     rcases s_ D.gH h hm i (by simp[hi]) he with p|p
     ·have:=(nf p).wi t hd ht;rw[hb]at this;cases this
     ·exact(nf p).wj t hd ht
    have hun:listed[h]?=some false:=by
     rcases D.bit hm with e|e
     ·have:=D.back h e i hbi;rw[hu]at this;cases this
     ·exact e
    rcases List.mem_append.1 hm with hm|hm
    ·exact D.old h hm hun t hd
    ·rw[<-D.we t (λi' uD nU=>D.apart uD (D.uniq nU hd▸hm))];refine D.slot t ?_ ?_
     ·intro i' uD nU;exact(D.apart uD (D.uniq nU hd▸hm)).elim
     ·intro i' uD nU;rw[D.uniq nU hd];exact hun
 ·rw[r.w0 t ht (λh hd=>(hw ⟨h,hd⟩).elim),<-D.we t (λi' _ nU=>hw ⟨i',nU⟩)];exact D.slot t (λi' _ nU=>(hw ⟨i',nU⟩).elim) (λi' _ nU=>(hw ⟨i',nU⟩).elim)
theorem LZ (D:DI C call q l pm R ms w0 k jv rA b9 rest fr ids bl ch Z listed a w) {i:Nat} {r:List Nat} (hr:rest=i::r) (hu:listed[i]?=some false) (hp:∀h,nO pm h i=true->listed[h]?=some true):
 ∀t∈looks l i,fI a t=den ids (nth fr t):=by
 intro t ht;refine D.slot t ?_ ?_
 ·intro h hh hd;exact hp h ((D.ahead hh (by rw[hr];simp)).wi t hd ht)
 ·intro h hh hd;rcases D.bit (i:=h) (by simp[hh])with e|e
  ·exfalso;rw[hr]at hh;rcases List.mem_cons.1 hh with rfl|hh
   ·rw[hu]at e;cases e
   ·have WQ:=(gu D.gH).2.2;rw[hr]at WQ;simp only[eT,Bool.and_eq_true,List.all_eq_true]at WQ;have:=(nf (WQ.1 h hh)).wj t hd ht;have:=D.back h e i this;rw[hu]at this;cases this
  ·exact e
end DI
end
section
variable{C:Ctx G} {call:gG G} {q:Nat->Bool} {l:List Oper} {pm:List Nat} {R:List av} {ms:List Nat} {w0:World} {k:yG G} {jv fr:List V} {rA:List Nat}
 {b9 rest:List Nat} {ids:List Nat} {bl:List VB} {ch:List G} {Z:List (Nat×av)} {listed:Array Bool} {a:Act} {w:World} {Q:Exit->Act->World->Prop}
theorem Ax {i j:Nat} {b:Bool} (hi:i<listed.size):(listed.setIfInBounds i true)[j]?=some b↔(j=i/\b=true)\/(j≠i/\listed[j]?=some b):=by
 rw[Array.getElem?_setIfInBounds];by_cases h:i=j
 ·subst h;simp[hi]
 ·rw[if_neg h];constructor
  ·intro e;exact .inr ⟨λx=>h x.symm,e⟩
  ·rintro(⟨e,_⟩|⟨_,e⟩)
   ·exact absurd e.symm h
   ·exact e
theorem wm {a:Act} {d:Option Tmp} {v:Value} (hd:∀u,d=some u->u<a.tmps.size) (t:Tmp):(d=some t->fI (a.put d v) t=v)/\(d≠some t->fI (a.put d v) t=fI a t):=by
 cases d with
 |none=>exact⟨λh=>(nomatch h),λ_=>rfl⟩
 |some u=>
  refine⟨λh=>?_,λh=>?_⟩
  ·cases h;rw[kh _ _ _ _ (hd _ rfl),if_pos rfl]
  ·rw[kh _ _ _ _ (hd u rfl),if_neg (λe=>h (by rw[e]))]
namespace DI
theorem did (D:DI C call q l pm R ms w0 k jv rA b9 rest fr ids bl ch Z listed a w) {i:Nat} (hi:i∈b9) (hu:listed[i]?=some false) (hp:∀h,nO pm h i=true->listed[h]?=some true) {wb:List V} {v:V} {b:Bool}
 (r:Rec C l pm jv fr bl i wb v b):DI C call q l pm R ms w0 k jv rA b9 rest fr ids bl ch Z (listed.setIfInBounds i true) (a.put (aK l i).dst (den ids v)) w:=by
 have sL:i<listed.size:=by rw[D.ls];exact D.C1 i (by simp[hi])
 have sg:=λj b=>Ax (listed:=listed) (j:=j) (b:=b) sL;have hd:∀u,(aK l i).dst=some u->u<a.tmps.size:=λu hu=>by rw[D.sz];exact(ng D.pg (D.at_ (by simp[hi]))).1 u hu
 have yp:=wm (v:=den ids v) hd;refine{D with ls:=by simpa using D.ls,OH:=?_,mE:=?_,back:=?_,sz:=by rw[size_put];exact D.sz,df:=by rw[gp];exact D.df,slot:=?_,old:=?_,recs:=?_,OI:=?_,oB:=λp hp=>⟨(D.oB p hp).1,(sg _ _).2 (.inr ⟨λe=>D.apart hi (e▸(D.oB p hp).1),(D.oB p hp).2⟩)⟩}
 ·intro j hj hf;exact(sg _ _).2 (by by_cases e:j=i;exact .inl ⟨e,rfl⟩;exact .inr ⟨e,D.OH j hj hf⟩)
 ·intro j hj hf;exact(sg _ _).2 (.inr ⟨λe=>D.apart hi (e▸hj),D.mE j hj hf⟩)
 ·intro j hj h hb;refine(sg _ _).2 ?_;rcases(sg _ _).1 hj with⟨rfl,_⟩|⟨e_,hj⟩
  ·by_cases e:h=j
   ·exact .inl ⟨e,rfl⟩
   ·exact .inr ⟨e,hp h hb⟩
  ·by_cases e:h=i
   ·exact .inl ⟨e,rfl⟩
   ·exact .inr ⟨e,D.back j hj h hb⟩
 ·intro t h1 h2;by_cases e:(aK l i).dst=some t
  ·rw[(yp t).1 e,r.val t e]
  ·rw[(yp t).2 e];refine D.slot t ?_ ?_
   ·intro j hj nU;rcases(sg _ _).1 (h1 j hj nU)with⟨rfl,_⟩|⟨_,h⟩
    ·exact absurd nU e
    ·exact h
   ·intro j hj nU;rcases(sg _ _).1 (h2 j hj nU)with⟨_,h⟩|⟨_,h⟩
    ·cases h
    ·exact h
 ·intro j hj jJ t ht;rcases(sg _ _).1 jJ with⟨_,h⟩|⟨e_,h⟩
  ·cases h
  ·rw[(yp t).2 (λe=>e_ (D.uniq ht e))];exact D.old j hj h t ht
 ·intro j hj jJ;rcases(sg _ _).1 jJ with⟨_,h⟩|⟨e_,h⟩
  ·cases h
  ·exact D.recs j hj h
 ·intro j hj jJ;rcases(sg _ _).1 jJ with⟨rfl,_⟩|⟨e_,h⟩
  ·exact(D.apart hi hj).elim
  ·obtain⟨b,t,z,d,h1,h2,h3,h4,h5⟩:=D.OI j hj h;exact⟨b,t,z,d,h1,h2,h3,h4,by rw[(yp d).2 (λe=>e_ (D.uniq h4 e))];exact h5⟩
theorem ph (b:av) (X:List av):∀ch:List G,(b::af ch X).Perm (af ch (b::X))
 |[]=>List.Perm.refl _
 |c::ch=>by
  simp only[af];exact(List.perm_middle.symm).trans (List.Perm.append_left (Bl.B c) (ph b X ch))
theorem L_ {P:Program} {t:TypeId} {z:List V} (h:jo P t=some z) (ids:List Nat):ab ids z=ab [] z:=by
 unfold jo at h;split at h
 ·split at h
  ·rename_i v hv;simp only[Option.some.injEq]at h;subst h;rw[vZ,vZ];cases v<;>simp[zd,dX,ab,cl,den,qy]
  ·cases h
 ·cases h
theorem WR (D:DI C call q l pm R ms w0 k jv rA b9 rest fr ids bl ch Z listed a w) {i d:Nat} {t:TypeId} {z:List V} (hi:i∈rest) (hu:listed[i]?=some false) (hp:∀h,nO pm h i=true->listed[h]?=some true)
 (ho:(aK l i).op=.alloc t) (hz:jo C.P t=some z) (hd:(aK l i).dst=some d):
 DI C call q l pm R ms w0 k jv rA b9 rest fr ids bl ch ((i,⟨w.heap.size,true,.cells (ab [] z).toArray t (0,0)⟩)::Z) (listed.setIfInBounds i true) (a.put (aK l i).dst (.pointer (some ⟨w.heap.size,0,none⟩))) (w.alloc (.cells (ab [] z).toArray t)):=by
 have sL:i<listed.size:=by rw[D.ls];exact D.C1 i (by simp[hi])
 have sg:=λj b=>Ax (listed:=listed) (j:=j) (b:=b) sL;have hdl:∀u,(aK l i).dst=some u->u<a.tmps.size:=λu hu=>by rw[D.sz];exact(ng D.pg (D.at_ (by simp[hi]))).1 u hu
 have yp:=wm (v:=(.pointer (some ⟨w.heap.size,0,none⟩):Value)) hdl;have hA:oO (aK l i)=true:=by simp[oO,fH,ho]
 have hF:yz (aK l i)=false:=by simp[yz,fH,ho]
 refine{D with ls:=by simpa using D.ls,OH:=?_,mE:=?_,back:=?_,sz:=by rw[size_put];exact D.sz,df:=by rw[gp];exact D.df,slot:=?_,old:=?_,recs:=?_,OI:=?_,oB:=?_,SL:=?_,S:=?_}
 ·intro j hj hf;exact(sg _ _).2 (by by_cases e:j=i;exact .inl ⟨e,rfl⟩;exact .inr ⟨e,D.OH j hj hf⟩)
 ·intro j hj hf;exact(sg _ _).2 (.inr ⟨λe=>(by rw[e,hA]at hf;cases hf),D.mE j hj hf⟩)
 ·intro j hj h hb;refine(sg _ _).2 ?_;rcases(sg _ _).1 hj with⟨rfl,_⟩|⟨e_,hj⟩
  ·by_cases e:h=j
   ·exact .inl ⟨e,rfl⟩
   ·exact .inr ⟨e,hp h hb⟩
  ·by_cases e:h=i
   ·exact .inl ⟨e,rfl⟩
   ·exact .inr ⟨e,D.back j hj h hb⟩
 ·intro t h1 h2;by_cases e:(aK l i).dst=some t
  ·rcases(sg _ _).1 (h2 i hi e)with⟨_,h⟩|⟨h,_⟩
   ·cases h
   ·exact absurd rfl h
  ·rw[(yp t).2 e];refine D.slot t ?_ ?_
   ·intro j hj nU;rcases(sg _ _).1 (h1 j hj nU)with⟨rfl,_⟩|⟨_,h⟩
    ·exact absurd nU e
    ·exact h
   ·intro j hj nU;rcases(sg _ _).1 (h2 j hj nU)with⟨_,h⟩|⟨_,h⟩
    ·cases h
    ·exact h
 ·intro j hj jJ t ht;rcases(sg _ _).1 jJ with⟨_,h⟩|⟨e_,h⟩
  ·cases h
  ·rw[(yp t).2 (λe=>e_ (D.uniq ht e))];exact D.old j hj h t ht
 ·intro j hj jJ;rcases(sg _ _).1 jJ with⟨_,h⟩|⟨e_,h⟩
  ·cases h
  ·exact D.recs j hj h
 ·intro j hj jJ;rcases(sg _ _).1 jJ with⟨rfl,_⟩|⟨e_,h⟩
  ·exact⟨_,_,_,_,List.mem_cons_self ..,ho,hz,hd,(yp d).1 hd⟩
  ·obtain⟨b,t,z,d,h1,h2,h3,h4,h5⟩:=D.OI j hj h;exact⟨b,t,z,d,List.mem_cons_of_mem _ h1,h2,h3,h4,by rw[(yp d).2 (λe=>e_ (D.uniq h4 e))];exact h5⟩
 ·intro p hp;rcases List.mem_cons.1 hp with rfl|hp
  ·exact⟨hi,(sg _ _).2 (.inl ⟨rfl,rfl⟩)⟩
  ·exact⟨(D.oB p hp).1,(sg _ _).2 (by by_cases e:p.1=i;exact .inl ⟨e,rfl⟩;exact .inr ⟨e,(D.oB p hp).2⟩)⟩
 ·simp only[List.map_cons,List.nodup_cons];refine⟨?_,D.SL⟩;intro hm;obtain⟨p,hp,e⟩:=List.mem_map.1 hm;have:=(D.oB p hp).2;rw[e,hu]at this;cases this
 ·have h:=D.S.new (Ch.alloc [] w (.cells (ab [] z).toArray t)) (Nat.le_refl _) (heap_alloc_new w _);refine h.perm ?_;simp only[List.map_cons,List.cons_append];exact(List.perm_middle.symm).trans (List.Perm.append_left _ (ph _ _ _))
end DI
end
end Vx
