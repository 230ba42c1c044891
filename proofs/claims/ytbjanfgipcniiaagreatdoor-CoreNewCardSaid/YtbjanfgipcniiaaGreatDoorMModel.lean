/- The plain model of the program's core: plain Lean, no program in sight. -/
namespace Sd

/-- bytes, by place -/
abbrev Byt := Nat → Int

structure Timer where
  n : Int
  most : Int
deriving DecidableEq, Inhabited

structure Tok where
  holder : Int
  epoch : Int
  offer : Int
  oa : Timer
  la : Timer
  bad : Bool
deriving DecidableEq, Inhabited

structure Label where
  rule : Int
  source : Int
  seq : Int
deriving DecidableEq, Inhabited

structure X4 where
  a : Int
  b : Int
  c : Int
  d : Int
deriving DecidableEq, Inhabited

def X4.get (x : X4) (i : Nat) : Int := match i with | 0 => x.a | 1 => x.b | 2 => x.c | _ => x.d
def X4.map (f : Int → Int) (x : X4) : X4 := ⟨f x.a, f x.b, f x.c, f x.d⟩
def X4.zip (f : Int → Int → Int) (x y : X4) : X4 := ⟨f x.a y.a, f x.b y.b, f x.c y.c, f x.d y.d⟩
def X4.zero : X4 := ⟨0, 0, 0, 0⟩

structure Point where
  cls : Int
  to_ : X4
  now : X4
  by_ : Label
deriving DecidableEq, Inhabited

structure Rec where
  kind : Int
  source : Int
  seq : Int
  epoch : Int
  code : Int
  how : Int
deriving DecidableEq, Inhabited

structure Msg where
  kind : Int
  seq : Int
  role : Int
  to_ : Int
  epoch : Int
  mode : Int
  cls : Int
  now : Bool
  x : X4
deriving DecidableEq, Inhabited

structure Reply where
  kind : Int
  seq : Int := 0
  role : Int := 0
  who : Int := 0
  epoch : Int := 0
  code : Int := 0
  nonce : Byt := fun _ => 0
deriving Inhabited

structure Sample where
  valid : Bool
  x : X4
  give : Bool
deriving DecidableEq, Inhabited

structure Window where
  any : Bool
  high : Int
  seen : Int
deriving DecidableEq, Inhabited

structure Ask where
  source : Int
  rank : Int
  age : Timer
deriving DecidableEq, Inhabited

structure Door where
  many : Int
  opn : Bool
  nonce : Byt
deriving Inhabited

structure Session where
  on : Bool
  silent : Timer
  role : Int
  key : Byt
  seen : Window
deriving Inhabited

structure Act where
  mode : Int
  cls : Int
  out : X4
  modeBy : Label
  pointBy : Label
deriving DecidableEq, Inhabited

/-- numbers by cell, keys by place (0 to 2, and the master's: 3) -/
structure Pol where
  i : Nat → Int
  k : Nat → Nat × Byt

namespace Pol
def order (p : Pol) (k : Nat) : Int := p.i k
def roles (p : Pol) (s : Nat) : Int := p.i (9 + s)
def table (p : Pol) (m r : Nat) : Int := p.i (14 + 4 * m + r)
def graph (p : Pol) (m : Nat) : Int := p.i (34 + m)
def start (p : Pol) : Int := p.i 39
def safe (p : Pol) : Int := p.i 40
def lost (p : Pol) : Int := p.i 41
def beat (p : Pol) : Int := p.i 42
def lose (p : Pol) : Int := p.i 43
def offer (p : Pol) : Int := p.i 44
def ask (p : Pol) : Int := p.i 45
def stick (p : Pol) : Int := p.i 46
def beyond (p : Pol) : Int := p.i 47
def queue (p : Pol) : Int := p.i 48
def sessions (p : Pol) : Int := p.i 49
def most (p : Pol) (c : Nat) : Int := p.i (50 + c)
def rate (p : Pol) : Int := p.i 54
def epoch (p : Pol) : Int := p.i 55
end Pol
end Sd

namespace Sd

/-! ### num, tick, rule -/
def sat (n most : Int) : Int := if n < most then n + 1 else most
def clamp (n low high : Int) : Int := if n < low then low else if high < n then high else n
def toward (now to_ by_ : Int) : Int :=
  if by_ < 1 then now
  else if now ≤ to_ then (if to_ - now ≤ by_ then to_ else now + by_)
  else (if now - to_ ≤ by_ then to_ else now - by_)
def has (set i : Int) : Bool := decide (0 ≤ set) && decide (0 ≤ i) && decide (i ≤ 62) && decide (set / 2 ^ i.toNat % 2 = 1)

namespace Timer
def zero : Timer := ⟨0, 0⟩
def start (most : Int) : Timer := ⟨0, max most 0⟩
def step (t : Timer) : Timer := { t with n := sat t.n t.most }
def due (t : Timer) : Bool := decide (t.most ≤ t.n)
end Timer

def placeOf (p : Pol) (s : Int) : Int :=
  if p.i 0 = s then 0 else if p.i 1 = s then 1 else if p.i 2 = s then 2 else if p.i 3 = s then 3 else if p.i 4 = s then 4 else -1
def rank (p : Pol) (s : Int) : Int := placeOf p s
def higher (p : Pol) (a b : Int) : Bool := decide (placeOf p a ≠ -1) && decide (placeOf p b ≠ -1) && decide (placeOf p a < placeOf p b)
def below (n bound : Int) : Bool := decide (0 ≤ n) && decide (n < bound)
def takes (p : Pol) (source role : Int) : Bool := below source 5 && below role 4 && has (p.roles source.toNat) role
def may (p : Pol) (mode role cls : Int) : Bool := below mode 5 && below role 4 && below cls 4 && has (p.table mode.toNat role.toNat) cls
def goes (p : Pol) (from_ to_ : Int) : Bool := below from_ 5 && below to_ 5 && has (p.graph from_.toNat) to_

/-! ### token, offer -/
namespace Tok
def pass (t : Tok) (to_ epoch : Int) : Tok := ⟨to_, epoch, -1, .zero, .zero, t.bad⟩
def new (p : Pol) : Tok := ⟨4, p.epoch, -1, .zero, .zero, false⟩
def grant (t : Tok) (to_ : Int) : Tok × Int :=
  if to_ < 0 ∨ 5 ≤ to_ then (t, 1) else if to_ = t.holder then (t, 25) else if 65535 ≤ t.epoch then (t, 24)
  else (t.pass to_ (t.epoch + 1), 0)
def seize (t : Tok) : Tok := t.pass 4 (if t.holder ≠ 4 then sat t.epoch 65535 else t.epoch)
def endOffer (t : Tok) : Tok := { t with offer := -1, oa := .zero }
def make (p : Pol) (t : Tok) (from_ to_ : Int) (there : Bool) : Tok × Int :=
  if from_ ≠ t.holder then (t, 20) else if 65535 ≤ t.epoch then (t, 24) else if to_ = from_ then (t, 25)
  else if to_ < 1 ∨ 3 < to_ ∨ there = false then (t, 2) else if 0 ≤ t.offer then (t, 28)
  else ({ t with offer := to_, oa := .start p.offer }, 0)
def accept (t : Tok) (from_ epoch : Int) : Tok × Int :=
  if t.offer < 0 ∨ t.offer ≠ from_ then (t, 28) else if epoch ≠ t.epoch then (t, 21) else t.grant from_
def deny (t : Tok) (from_ : Int) : Tok × Int :=
  if t.offer < 0 ∨ t.offer ≠ from_ then (t, 28) else (t.endOffer, 0)
def drop (t : Tok) (source : Int) : Tok × Bool :=
  if t.offer < 0 ∨ t.offer ≠ source then (t, false) else (t.endOffer, true)
end Tok

/-! ### queue: who waits, in order -/
namespace Q
def waits (l : List Ask) (s : Int) : Bool := l.any fun a => decide (a.source = s)
def insert (l : List Ask) (a : Ask) : List Ask := (l.takeWhile fun x => decide (x.rank ≤ a.rank)) ++ a :: (l.dropWhile fun x => decide (x.rank ≤ a.rank))
def push (most : Int) (l : List Ask) (a : Ask) : List Ask × Int :=
  if waits l a.source then (l, 27) else if most ≤ l.length then (l, 3) else (insert l a, 0)
def drop (l : List Ask) (s : Int) : List Ask := l.filter fun a => decide (a.source ≠ s)
def aged (l : List Ask) : List Ask := l.map fun a => { a with age := a.age.step }
def gone (l : List Ask) : List Ask := (aged l).filter fun a => a.age.due
end Q

/-! ### claim -/
def askTok (p : Pol) (t : Tok) (most : Int) (q : List Ask) (from_ : Int) (now : Bool) : Tok × Int × Int × List Ask :=
  if t.bad then (t, 0, 29, q) else if from_ = t.holder then (t, 0, 25, q) else if 65535 ≤ t.epoch then (t, 0, 24, q)
  else if t.holder = 4 ∨ (now = true ∧ higher p from_ t.holder = true) then
    (if (t.grant from_).2 ≠ 0 then (t, 0, (t.grant from_).2, q) else ((t.grant from_).1, 3, 0, Q.drop q from_))
  else if now then (t, 0, 26, q)
  else (t, 0, (Q.push most q ⟨from_, rank p from_, .start p.ask⟩).2, (Q.push most q ⟨from_, rank p from_, .start p.ask⟩).1)
def toFirst (t : Tok) (q : List Ask) : Tok × Int × List Ask :=
  match q with
  | [] => (t, 2, q)
  | a :: _ => if (t.grant a.source).2 ≠ 0 then (t, (t.grant a.source).2, q) else ((t.grant a.source).1, 0, Q.drop q a.source)
def releaseTok (t : Tok) (q : List Ask) (from_ : Int) : Tok × Int × List Ask :=
  if from_ ≠ t.holder then (t, 20, q) else if 65535 ≤ t.epoch then (t, 24, q) else toFirst t q
def loseTok (p : Pol) (t : Tok) (q : List Ask) (there : Bool) : Tok × Int × List Ask :=
  if t.holder = 4 ∨ there = true then ({ t with la := .zero }, 0, q)
  else
    let la := (if t.la.most = 0 then Timer.start p.lose else t.la).step
    let t1 : Tok := { t with la := la }
    if la.due = false then (t1, 0, q)
    else if 65535 ≤ t.epoch then (t1.seize, 6, q)
    else if (toFirst t1 q).2.1 ≠ 0 then ((t1.grant 4).1, 5, (toFirst t1 q).2.2)
    else ((toFirst t1 q).1, 5, (toFirst t1 q).2.2)

/-! ### limit, stick, gate, window -/
namespace Point
def set (p : Pol) (pt : Point) (cls : Int) (x : X4) (by_ : Label) : Point :=
  { pt with cls := cls, by_ := by_, to_ := if cls < 0 ∨ 4 ≤ cls then .zero else x.map fun n => clamp n (-(p.most cls.toNat)) (p.most cls.toNat) }
def hold (pt : Point) (by_ : Label) : Point := { pt with to_ := .zero, by_ := by_ }
def step (p : Pol) (pt : Point) : Point :=
  let now := X4.zip (fun a b => toward a b p.rate) pt.now pt.to_
  { pt with now := now, by_ := if now = pt.now then pt.by_ else { pt.by_ with rule := 4 } }
end Point
def far (most : Int) (x : X4) : Bool :=
  (decide (x.a < -most) || decide (most < x.a)) || (decide (x.b < -most) || decide (most < x.b)) || (decide (x.c < -most) || decide (most < x.c)) || (decide (x.d < -most) || decide (most < x.d))
def see (p : Pol) (run : Int) (s : Sample) : Int × Bool :=
  if s.valid = false ∨ far p.beyond s.x = false then (0, false)
  else (sat (max run 0) p.stick, decide (p.stick ≤ sat (max run 0) p.stick))
def judge (p : Pol) (t : Tok) (source role mode : Int) (m : Msg) : Int :=
  if m.kind ≠ 10 ∧ m.kind ≠ 11 then 1 else if source ≠ t.holder then 20 else if m.epoch ≠ t.epoch then 21
  else if may p mode role (if m.kind = 10 then 0 else m.cls) = false then 22
  else if m.kind = 10 ∧ goes p mode m.mode = false then 23 else 0
end Sd

namespace Sd
/-- what is done to bytes (n of them, as f tells): their own texts say which -/
structure Crypt where
  take : Nat → Byt → Option Msg
  nonce : Nat × Byt → Int → Int → Byt
  right : Nat × Byt → Int → Int → Byt → Byt → Bool
  key : Nat × Byt → Int → Int → Byt → Byt
  opens : Byt → Int → Nat → Byt → Bool
  next : Byt → Rec → Byt
  see : Window → Int → Window

/-! ### table -/
structure Tab where
  sticks : Bool × Timer
  ses : Nat → Session

def Session.zero : Session := ⟨false, .zero, 0, fun _ => 0, ⟨false, 0, 0⟩⟩
namespace Tab
def new : Tab := ⟨(false, .zero), fun _ => .zero⟩
def ofOn (t : Tab) (s : Int) : Bool := decide (1 ≤ s) && decide (s ≤ 3) && (t.ses (s.toNat - 1)).on
def on (t : Tab) (s : Int) : Bool := if s = 4 then true else if s = 0 then t.sticks.1 else t.ofOn s
def role (t : Tab) (s : Int) : Int := if t.ofOn s then (t.ses (s.toNat - 1)).role else 0
def many (t : Tab) : Int := (if (t.ses 0).on then 1 else 0) + (if (t.ses 1).on then 1 else 0) + (if (t.ses 2).on then 1 else 0)
def setS (t : Tab) (i : Nat) (s : Session) : Tab := { t with ses := fun j => if j = i then s else t.ses j }
/-- what a session's message says, or why none -/
def take (C : Crypt) (p : Pol) (t : Tab) (s : Int) (n : Nat) (f : Byt) : Tab × Except Int Msg :=
  if t.ofOn s = false then (t, .error 16) else
  if n < 8 ∨ C.opens (t.ses (s.toNat - 1)).key s n f = false then (t, .error 14) else
    match C.take (n - 8) f with
    | none => (t, .error 13)
    | some m =>
      if m.kind = 1 ∨ m.kind = 2 then (t, .error 13)
      else if C.see (t.ses (s.toNat - 1)).seen m.seq = (t.ses (s.toNat - 1)).seen then (t, .error 15)
      else (t.setS (s.toNat - 1) { (t.ses (s.toNat - 1)) with seen := C.see (t.ses (s.toNat - 1)).seen m.seq, on := true, silent := .start p.beat }, .ok m)
def end_ (t : Tab) (s : Int) : Tab := if t.ofOn s then t.setS (s.toNat - 1) .zero else t
end Tab

/-! ### core -/
structure Core where
  p : Pol
  t : Tok
  q : List Ask
  doors : Nat → Door
  tab : Tab
  samples : Int
  beyond : Int
  mode : Int
  modeBy : Label
  pt : Point
  head : Byt

structure Scene where
  c : Core
  sent : List (Int × Reply)
  recs : List Rec

def failsafe : Label := ⟨2, 4, 0⟩
def linked (s : Int) : Bool := decide (1 ≤ s) && decide (s ≤ 3)
def Door.zero : Door := ⟨0, false, fun _ => 0⟩
def Core.new (p : Pol) : Core :=
  ⟨p, .new p, [], fun _ => .zero, .new, 0, 0, p.start, failsafe, ⟨1, .zero, .zero, failsafe⟩, fun _ => 0⟩
namespace Scene
variable (C : Crypt)
def tell (s : Scene) (l : Int) (r : Reply) : Scene := { s with sent := s.sent ++ [(l, r)] }
def hear (s : Scene) (l : Int) (r : Reply) : Scene := if linked l && s.c.tab.on l then s.tell l r else s
def record (s : Scene) (kind source seq code how : Int) : Scene :=
  let r : Rec := ⟨kind, source, seq, s.c.t.epoch, code, how⟩
  { s with recs := s.recs ++ [r], c := { s.c with head := C.next s.c.head r } }
def refuse (s : Scene) (l n code : Int) : Scene := (s.tell l { kind := 132, seq := n, code := code }).record C 7 l n code 0
def done (s : Scene) (l n : Int) : Scene := s.tell l { kind := 131, seq := n }
def goes (s : Scene) (t : Tok) (how n : Int) : Scene :=
  let a := s.c.t.holder
  let s1 : Scene := { s with c := { s.c with t := t, q := Q.drop s.c.q t.holder } }
  let s2 := s1.hear a { kind := 134, who := t.holder, epoch := t.epoch }
  let s3 := s2.hear t.holder { kind := 133, epoch := t.epoch }
  s3.record C 8 t.holder n 0 how
def gone (s : Scene) (l who code : Int) : Scene := s.hear l { kind := 136, who := who, code := code }
def leave (s : Scene) (source : Int) : Scene :=
  let s1 : Scene := { s with c := { s.c with q := Q.drop s.c.q source } }
  if (s1.c.t.drop source).2 = false then s1
  else (({ s1 with c := { s1.c with t := (s1.c.t.drop source).1 } } : Scene).gone (s1.c.t.drop source).1.holder source 16).record C 12 source 0 16 0
def fall (s : Scene) (mode : Int) (by_ : Label) : Scene := { s with c := { s.c with mode := mode, modeBy := by_, pt := s.c.pt.hold by_ } }

def setTok (s : Scene) (t : Tok) : Scene := { s with c := { s.c with t := t } }
def bye (s : Scene) (l : Int) (m : Msg) : Scene :=
  ((({ s with c := { s.c with tab := s.c.tab.end_ l } } : Scene).leave C l).record C 4 l m.seq 0 0).done l m.seq
def ask (s : Scene) (l : Int) (m : Msg) : Scene :=
  let (t, how, e, q) := askTok s.c.p s.c.t s.c.p.queue s.c.q l m.now
  if e ≠ 0 then s.refuse C l m.seq e
  else
    let s1 : Scene := { s with c := { s.c with q := q } }
    (if 0 < how then s1.goes C t how m.seq else (s1.setTok t).record C 10 l m.seq 0 0).done l m.seq
def offer (s : Scene) (l : Int) (m : Msg) : Scene :=
  let (t, e) := Tok.make s.c.p s.c.t l m.to_ (s.c.tab.on m.to_)
  if e ≠ 0 then s.refuse C l m.seq e
  else ((((s.setTok t).hear m.to_ { kind := 135, who := l, epoch := t.epoch }).record C 9 l m.seq 0 m.to_)).done l m.seq
def accept (s : Scene) (l : Int) (m : Msg) : Scene :=
  let (t, e) := s.c.t.accept l m.epoch
  if e ≠ 0 then s.refuse C l m.seq e else (s.goes C t 1 m.seq).done l m.seq
def deny (s : Scene) (l : Int) (m : Msg) : Scene :=
  let (t, e) := s.c.t.deny l
  if e ≠ 0 then s.refuse C l m.seq e
  else ((((s.setTok t).gone t.holder l 0).record C 11 l m.seq 0 0)).done l m.seq
def release (s : Scene) (l : Int) (m : Msg) : Scene :=
  let (t, e, q) := releaseTok s.c.t s.c.q l
  if e ≠ 0 then s.refuse C l m.seq e else (({ s with c := { s.c with q := q } } : Scene).goes C t 2 m.seq).done l m.seq
def command (s : Scene) (l : Int) (m : Msg) : Scene :=
  let e := judge s.c.p s.c.t l (s.c.tab.role l) s.c.mode m
  if e ≠ 0 then s.refuse C l m.seq e
  else
    let by_ : Label := ⟨1, l, m.seq⟩
    let s1 : Scene := if m.kind = 10 then { s with c := { s.c with mode := m.mode, modeBy := by_ } }
      else { s with c := { s.c with pt := s.c.pt.set s.c.p m.cls m.x by_ } }
    (s1.record C 6 l m.seq 0 0).done l m.seq
def say (s : Scene) (l : Int) (m : Msg) : Scene :=
  if m.kind = 3 then s.done l m.seq else if m.kind = 4 then s.bye C l m else if m.kind = 5 then s.ask C l m
  else if m.kind = 6 then s.offer C l m else if m.kind = 7 then s.accept C l m else if m.kind = 8 then s.deny C l m
  else if m.kind = 9 then s.release C l m else if m.kind = 10 ∨ m.kind = 11 then s.command C l m else s
def lose (s : Scene) : Scene :=
  let (t, how, q) := loseTok s.c.p s.c.t s.c.q (s.c.tab.on s.c.t.holder)
  if how ≤ 0 then s.setTok t
  else
    let s1 := ({ s with c := { s.c with q := q } } : Scene).goes C t how 0
    if how = 5 then s1.fall s1.c.p.lost ⟨3, 4, 0⟩ else s1.fall s1.c.p.safe failsafe
end Scene
end Sd
