/- The plain model of the program's core: plain Lean, no program in sight. -/
namespace Sd

structure Timer where
  n : Int
  most : Int
deriving DecidableEq, Inhabited

structure Tok where
  holder : Int
  epoch : Int
  offer : Int
  oa : Timer
  la : Timer
  bad : Bool
deriving DecidableEq, Inhabited

structure Label where
  rule : Int
  source : Int
  seq : Int
deriving DecidableEq, Inhabited

structure X4 where
  a : Int
  b : Int
  c : Int
  d : Int
deriving DecidableEq, Inhabited

def X4.get (x : X4) (i : Nat) : Int := match i with | 0 => x.a | 1 => x.b | 2 => x.c | _ => x.d
def X4.map (f : Int → Int) (x : X4) : X4 := ⟨f x.a, f x.b, f x.c, f x.d⟩
def X4.zip (f : Int → Int → Int) (x y : X4) : X4 := ⟨f x.a y.a, f x.b y.b, f x.c y.c, f x.d y.d⟩
def X4.zero : X4 := ⟨0, 0, 0, 0⟩

structure Point where
  cls : Int
  to_ : X4
  now : X4
  by_ : Label
deriving DecidableEq, Inhabited

structure Rec where
  kind : Int
  source : Int
  seq : Int
  epoch : Int
  code : Int
  how : Int
deriving DecidableEq, Inhabited

structure Msg where
  kind : Int
  seq : Int
  role : Int
  to_ : Int
  epoch : Int
  mode : Int
  cls : Int
  now : Bool
  x : X4
deriving DecidableEq, Inhabited

structure Reply where
  kind : Int
  seq : Int := 0
  role : Int := 0
  who : Int := 0
  epoch : Int := 0
  code : Int := 0
  nonce : List UInt8 := [0, 0, 0, 0, 0, 0, 0, 0]
deriving DecidableEq, Inhabited

structure Sample where
  valid : Bool
  x : X4
  give : Bool
deriving DecidableEq, Inhabited

structure Window where
  any : Bool
  high : Int
  seen : Int
deriving DecidableEq, Inhabited

structure Ask where
  source : Int
  rank : Int
  age : Timer
deriving DecidableEq, Inhabited

structure Door where
  many : Int
  opn : Bool
  nonce : List UInt8
deriving DecidableEq, Inhabited

structure Session where
  on : Bool
  silent : Timer
  role : Int
  key : List UInt8
  seen : Window
deriving DecidableEq, Inhabited

structure Act where
  mode : Int
  cls : Int
  out : X4
  modeBy : Label
  pointBy : Label
deriving DecidableEq, Inhabited

/-- numbers by cell, keys by place (0 to 2, and the master's: 3) -/
structure Pol where
  i : Nat → Int
  k : Nat → List UInt8

namespace Pol
def order (p : Pol) (k : Nat) : Int := p.i k
def roles (p : Pol) (s : Nat) : Int := p.i (9 + s)
def table (p : Pol) (m r : Nat) : Int := p.i (14 + 4 * m + r)
def graph (p : Pol) (m : Nat) : Int := p.i (34 + m)
def start (p : Pol) : Int := p.i 39
def safe (p : Pol) : Int := p.i 40
def lost (p : Pol) : Int := p.i 41
def beat (p : Pol) : Int := p.i 42
def lose (p : Pol) : Int := p.i 43
def offer (p : Pol) : Int := p.i 44
def ask (p : Pol) : Int := p.i 45
def stick (p : Pol) : Int := p.i 46
def beyond (p : Pol) : Int := p.i 47
def queue (p : Pol) : Int := p.i 48
def sessions (p : Pol) : Int := p.i 49
def most (p : Pol) (c : Nat) : Int := p.i (50 + c)
def rate (p : Pol) : Int := p.i 54
def epoch (p : Pol) : Int := p.i 55
end Pol
end Sd

namespace Sd

/-! ### num, tick, rule -/
def sat (n most : Int) : Int := if n < most then n + 1 else most
def clamp (n low high : Int) : Int := if n < low then low else if high < n then high else n
def toward (now to_ by_ : Int) : Int :=
  if by_ < 1 then now
  else if now ≤ to_ then (if to_ - now ≤ by_ then to_ else now + by_)
  else (if now - to_ ≤ by_ then to_ else now - by_)
def has (set i : Int) : Bool := decide (0 ≤ set) && decide (0 ≤ i) && decide (i ≤ 62) && decide (set / 2 ^ i.toNat % 2 = 1)

namespace Timer
def zero : Timer := ⟨0, 0⟩
def start (most : Int) : Timer := ⟨0, max most 0⟩
def step (t : Timer) : Timer := { t with n := sat t.n t.most }
def due (t : Timer) : Bool := decide (t.most ≤ t.n)
end Timer

def placeOf (p : Pol) (s : Int) : Int :=
  if p.i 0 = s then 0 else if p.i 1 = s then 1 else if p.i 2 = s then 2 else if p.i 3 = s then 3 else if p.i 4 = s then 4 else -1
def rank (p : Pol) (s : Int) : Int := placeOf p s
def higher (p : Pol) (a b : Int) : Bool := decide (placeOf p a ≠ -1) && decide (placeOf p b ≠ -1) && decide (placeOf p a < placeOf p b)
def below (n bound : Int) : Bool := decide (0 ≤ n) && decide (n < bound)
def takes (p : Pol) (source role : Int) : Bool := below source 5 && below role 4 && has (p.roles source.toNat) role
def may (p : Pol) (mode role cls : Int) : Bool := below mode 5 && below role 4 && below cls 4 && has (p.table mode.toNat role.toNat) cls
def goes (p : Pol) (from_ to_ : Int) : Bool := below from_ 5 && below to_ 5 && has (p.graph from_.toNat) to_

/-! ### token, offer -/
namespace Tok
def pass (t : Tok) (to_ epoch : Int) : Tok := ⟨to_, epoch, -1, .zero, .zero, t.bad⟩
def new (p : Pol) : Tok := ⟨4, p.epoch, -1, .zero, .zero, false⟩
def grant (t : Tok) (to_ : Int) : Tok × Int :=
  if to_ < 0 ∨ 5 ≤ to_ then (t, 1) else if to_ = t.holder then (t, 25) else if 65535 ≤ t.epoch then (t, 24)
  else (t.pass to_ (t.epoch + 1), 0)
def seize (t : Tok) : Tok := t.pass 4 (if t.holder ≠ 4 then sat t.epoch 65535 else t.epoch)
def endOffer (t : Tok) : Tok := { t with offer := -1, oa := .zero }
def make (p : Pol) (t : Tok) (from_ to_ : Int) (there : Bool) : Tok × Int :=
  if from_ ≠ t.holder then (t, 20) else if 65535 ≤ t.epoch then (t, 24) else if to_ = from_ then (t, 25)
  else if to_ < 1 ∨ 3 < to_ ∨ there = false then (t, 2) else if 0 ≤ t.offer then (t, 28)
  else ({ t with offer := to_, oa := .start p.offer }, 0)
def accept (t : Tok) (from_ epoch : Int) : Tok × Int :=
  if t.offer < 0 ∨ t.offer ≠ from_ then (t, 28) else if epoch ≠ t.epoch then (t, 21) else t.grant from_
def deny (t : Tok) (from_ : Int) : Tok × Int :=
  if t.offer < 0 ∨ t.offer ≠ from_ then (t, 28) else (t.endOffer, 0)
def drop (t : Tok) (source : Int) : Tok × Bool :=
  if t.offer < 0 ∨ t.offer ≠ source then (t, false) else (t.endOffer, true)
def tick (t : Tok) : Tok × Int :=
  if t.offer < 0 then (t, -1)
  else if t.oa.step.due then (({ t with oa := t.oa.step } : Tok).endOffer, t.offer)
  else ({ t with oa := t.oa.step }, -1)
end Tok

/-! ### queue: who waits, in order -/
namespace Q
def waits (l : List Ask) (s : Int) : Bool := l.any fun a => decide (a.source = s)
def insert (l : List Ask) (a : Ask) : List Ask := (l.takeWhile fun x => decide (x.rank ≤ a.rank)) ++ a :: (l.dropWhile fun x => decide (x.rank ≤ a.rank))
def push (most : Int) (l : List Ask) (a : Ask) : List Ask × Int :=
  if waits l a.source then (l, 27) else if most ≤ l.length then (l, 3) else (insert l a, 0)
def drop (l : List Ask) (s : Int) : List Ask := l.filter fun a => decide (a.source ≠ s)
def aged (l : List Ask) : List Ask := l.map fun a => { a with age := a.age.step }
def gone (l : List Ask) : List Ask := (aged l).filter fun a => a.age.due
def kept (l : List Ask) : List Ask := (aged l).filter fun a => !a.age.due
end Q

/-! ### claim -/
def askTok (p : Pol) (t : Tok) (most : Int) (q : List Ask) (from_ : Int) (now : Bool) : Tok × Int × Int × List Ask :=
  if t.bad then (t, 0, 29, q) else if from_ = t.holder then (t, 0, 25, q) else if 65535 ≤ t.epoch then (t, 0, 24, q)
  else if t.holder = 4 ∨ (now = true ∧ higher p from_ t.holder = true) then
    (if (t.grant from_).2 ≠ 0 then (t, 0, (t.grant from_).2, q) else ((t.grant from_).1, 3, 0, Q.drop q from_))
  else if now then (t, 0, 26, q)
  else (t, 0, (Q.push most q ⟨from_, rank p from_, .start p.ask⟩).2, (Q.push most q ⟨from_, rank p from_, .start p.ask⟩).1)
def toFirst (t : Tok) (q : List Ask) : Tok × Int × List Ask :=
  match q with
  | [] => (t, 2, q)
  | a :: _ => if (t.grant a.source).2 ≠ 0 then (t, (t.grant a.source).2, q) else ((t.grant a.source).1, 0, Q.drop q a.source)
def releaseTok (t : Tok) (q : List Ask) (from_ : Int) : Tok × Int × List Ask :=
  if from_ ≠ t.holder then (t, 20, q) else if 65535 ≤ t.epoch then (t, 24, q) else toFirst t q
def loseTok (p : Pol) (t : Tok) (q : List Ask) (there : Bool) : Tok × Int × List Ask :=
  if t.holder = 4 ∨ there = true then ({ t with la := .zero }, 0, q)
  else
    let la := (if t.la.most = 0 then Timer.start p.lose else t.la).step
    let t1 : Tok := { t with la := la }
    if la.due = false then (t1, 0, q)
    else if 65535 ≤ t.epoch then (t1.seize, 6, q)
    else if (toFirst t1 q).2.1 ≠ 0 then ((t1.grant 4).1, 5, (toFirst t1 q).2.2)
    else ((toFirst t1 q).1, 5, (toFirst t1 q).2.2)

/-! ### limit, stick, gate, window -/
namespace Point
def set (p : Pol) (pt : Point) (cls : Int) (x : X4) (by_ : Label) : Point :=
  { pt with cls := cls, by_ := by_, to_ := if cls < 0 ∨ 4 ≤ cls then .zero else x.map fun n => clamp n (-(p.most cls.toNat)) (p.most cls.toNat) }
def hold (pt : Point) (by_ : Label) : Point := { pt with to_ := .zero, by_ := by_ }
def step (p : Pol) (pt : Point) : Point :=
  let now := X4.zip (fun a b => toward a b p.rate) pt.now pt.to_
  { pt with now := now, by_ := if now = pt.now then pt.by_ else { pt.by_ with rule := 4 } }
end Point
def far (most : Int) (x : X4) : Bool :=
  (decide (x.a < -most) || decide (most < x.a)) || (decide (x.b < -most) || decide (most < x.b)) || (decide (x.c < -most) || decide (most < x.c)) || (decide (x.d < -most) || decide (most < x.d))
def see (p : Pol) (run : Int) (s : Sample) : Int × Bool :=
  if s.valid = false ∨ far p.beyond s.x = false then (0, false)
  else (sat (max run 0) p.stick, decide (p.stick ≤ sat (max run 0) p.stick))
def judge (p : Pol) (t : Tok) (source role mode : Int) (m : Msg) : Int :=
  if m.kind ≠ 10 ∧ m.kind ≠ 11 then 1 else if source ≠ t.holder then 20 else if m.epoch ≠ t.epoch then 21
  else if may p mode role (if m.kind = 10 then 0 else m.cls) = false then 22
  else if m.kind = 10 ∧ goes p mode m.mode = false then 23 else 0
def winSeen (w : Window) (n : Int) : Window :=
  if n < 0 ∨ 4294967295 < n then w
  else if w.any = false then ⟨true, n, 1⟩
  else if w.high < n then ⟨true, n, (if 64 ≤ n - w.high then 0 else w.seen * 2 ^ (n - w.high).toNat % 2 ^ 64) / 2 * 2 + 1⟩
  else if w.high - n < 64 then (if w.seen / 2 ^ (w.high - n).toNat % 2 = 1 then w else { w with seen := w.seen + 2 ^ (w.high - n).toNat })
  else w
end Sd

namespace Sd
/-! ### bytes, messages -/
def be (l : List UInt8) : Nat := l.foldl (fun n c => n * 256 + c.toNat) 0
def putBe (size : Nat) (n : Nat) : List UInt8 := (List.range size).map fun i => UInt8.ofNat (n / 256 ^ (size - 1 - i))
def sgn (n : Nat) : Int := if 32767 < n then (n : Int) - 65536 else n
def zeroMsg (k : Int) : Msg := ⟨k, 0, 0, 0, 0, 0, 0, false, .zero⟩

def takeMsg (b : List UInt8) : Option Msg :=
  match b with
  | [] => none
  | c :: r =>
    let k := c.toNat
    let m := zeroMsg k
    let seq : Int := be (r.take 4)
    if k = 1 ∨ k = 2 then (if r.length = 1 ∧ be r ≤ 3 then some { m with role := be r } else none)
    else if k = 3 ∨ k = 4 ∨ k = 8 ∨ k = 9 then (if r.length = 4 then some { m with seq := seq } else none)
    else if k = 5 then (if r.length = 5 ∧ be (r.drop 4) ≤ 1 then some { m with seq := seq, now := decide (be (r.drop 4) = 1) } else none)
    else if k = 6 then (if r.length = 5 ∧ be (r.drop 4) ≤ 4 then some { m with seq := seq, to_ := be (r.drop 4) } else none)
    else if k = 7 then (if r.length = 6 then some { m with seq := seq, epoch := be (r.drop 4) } else none)
    else if k = 10 then (if r.length = 7 ∧ be (r.drop 6) ≤ 4 then some { m with seq := seq, epoch := be ((r.drop 4).take 2), mode := be (r.drop 6) } else none)
    else if k = 11 then
      (if r.length = 15 ∧ 1 ≤ be ((r.drop 6).take 1) ∧ be ((r.drop 6).take 1) ≤ 3 then
        some { m with seq := seq, epoch := be ((r.drop 4).take 2), cls := be ((r.drop 6).take 1), x := ⟨sgn (be ((r.drop 7).take 2)), sgn (be ((r.drop 9).take 2)), sgn (be ((r.drop 11).take 2)), sgn (be (r.drop 13))⟩ } else none)
    else none

/-- the bytes of a reply whose numbers are in bounds -/
def replyBytes (r : Reply) : List UInt8 :=
  UInt8.ofNat r.kind.toNat ::
    (if r.kind = 129 then r.nonce
     else if r.kind = 130 then putBe 1 r.role.toNat ++ putBe 1 r.who.toNat ++ putBe 2 r.epoch.toNat
     else if r.kind = 131 then putBe 4 r.seq.toNat
     else if r.kind = 132 then putBe 4 r.seq.toNat ++ putBe 1 r.code.toNat
     else if r.kind = 133 then putBe 2 r.epoch.toNat
     else if r.kind = 134 ∨ r.kind = 135 then putBe 1 r.who.toNat ++ putBe 2 r.epoch.toNat
     else putBe 1 r.who.toNat ++ putBe 1 r.code.toNat)

/-- the sums and tags, as functions of bytes: their own texts say which -/
structure Crypt where
  nonce : List UInt8 → Int → Int → List UInt8
  proof : List UInt8 → Int → Int → List UInt8 → List UInt8
  key : List UInt8 → Int → Int → List UInt8 → List UInt8
  close : List UInt8 → Int → List UInt8 → List UInt8
  next : List UInt8 → Rec → List UInt8

def openBody (C : Crypt) (key : List UInt8) (source : Int) (b : List UInt8) : Option (List UInt8) :=
  if b.length < 8 ∨ b ≠ C.close key source (b.take (b.length - 8)) then none else some (b.take (b.length - 8))

/-! ### table -/
structure Tab where
  sticks : Bool × Timer
  ses : Nat → Session

def Session.zero : Session := ⟨false, .zero, 0, List.replicate 32 0, ⟨false, 0, 0⟩⟩
namespace Tab
def new : Tab := ⟨(false, .zero), fun _ => .zero⟩
def ofOn (t : Tab) (s : Int) : Bool := decide (1 ≤ s) && decide (s ≤ 3) && (t.ses (s.toNat - 1)).on
def on (t : Tab) (s : Int) : Bool := if s = 4 then true else if s = 0 then t.sticks.1 else t.ofOn s
def role (t : Tab) (s : Int) : Int := if t.ofOn s then (t.ses (s.toNat - 1)).role else 0
def many (t : Tab) : Int := (if (t.ses 0).on then 1 else 0) + (if (t.ses 1).on then 1 else 0) + (if (t.ses 2).on then 1 else 0)
def setS (t : Tab) (i : Nat) (s : Session) : Tab := { t with ses := fun j => if j = i then s else t.ses j }
def begin_ (p : Pol) (t : Tab) (s r : Int) (key : List UInt8) : Tab × Int :=
  if s < 1 ∨ 3 < s ∨ r < 0 ∨ 4 ≤ r then (t, 1)
  else if t.ofOn s = false ∧ p.sessions ≤ t.many then (t, 19)
  else (t.setS (s.toNat - 1) ⟨true, .start p.beat, r, key, ⟨false, 0, 0⟩⟩, 0)
/-- what a session's message says, or why none -/
def take (C : Crypt) (p : Pol) (t : Tab) (s : Int) (b : List UInt8) : Tab × Except Int Msg :=
  if t.ofOn s = false then (t, .error 16) else
  match openBody C (t.ses (s.toNat - 1)).key s b with
  | none => (t, .error 14)
  | some body =>
    match takeMsg body with
    | none => (t, .error 13)
    | some m =>
      if m.kind = 1 ∨ m.kind = 2 then (t, .error 13)
      else if winSeen (t.ses (s.toNat - 1)).seen m.seq = (t.ses (s.toNat - 1)).seen then (t, .error 15)
      else (t.setS (s.toNat - 1) { (t.ses (s.toNat - 1)) with seen := winSeen (t.ses (s.toNat - 1)).seen m.seq, on := true, silent := .start p.beat }, .ok m)
def end_ (t : Tab) (s : Int) : Tab := if t.ofOn s then t.setS (s.toNat - 1) .zero else t
def sample (p : Pol) (t : Tab) : Tab := { t with sticks := (true, .start p.beat) }
def sticksOver (t : Tab) : Bool := t.sticks.1 && t.sticks.2.step.due
def sesOver (t : Tab) (i : Nat) : Bool := (t.ses i).on && (t.ses i).silent.step.due
def tick (t : Tab) : Tab :=
  { sticks := if t.sticks.1 then (if t.sticks.2.step.due then (false, .zero) else (true, t.sticks.2.step)) else t.sticks, ses := fun i => if (t.ses i).on then (if (t.ses i).silent.step.due then Session.zero else { (t.ses i) with silent := (t.ses i).silent.step }) else t.ses i }
def ended (t : Tab) : List Int :=
  (if t.sticksOver then [0] else []) ++ (if t.sesOver 0 then [1] else []) ++ (if t.sesOver 1 then [2] else []) ++ (if t.sesOver 2 then [3] else [])
end Tab

/-! ### core -/
structure Core where
  p : Pol
  t : Tok
  q : List Ask
  doors : Nat → Door
  tab : Tab
  samples : Int
  beyond : Int
  mode : Int
  modeBy : Label
  pt : Point
  head : List UInt8

structure Scene where
  c : Core
  sent : List (Int × Reply)
  recs : List Rec

def failsafe : Label := ⟨2, 4, 0⟩
def linked (s : Int) : Bool := decide (1 ≤ s) && decide (s ≤ 3)
def Door.zero : Door := ⟨0, false, List.replicate 8 0⟩
def Core.new (p : Pol) : Core :=
  ⟨p, .new p, [], fun _ => .zero, .new, 0, 0, p.start, failsafe, ⟨1, .zero, .zero, failsafe⟩, List.replicate 32 0⟩
def Core.act (c : Core) : Act := ⟨c.mode, c.pt.cls, c.pt.now, c.modeBy, c.pt.by_⟩

namespace Scene
variable (C : Crypt)
def tell (s : Scene) (l : Int) (r : Reply) : Scene := { s with sent := s.sent ++ [(l, r)] }
def hear (s : Scene) (l : Int) (r : Reply) : Scene := if linked l && s.c.tab.on l then s.tell l r else s
def record (s : Scene) (kind source seq code how : Int) : Scene :=
  let r : Rec := ⟨kind, source, seq, s.c.t.epoch, code, how⟩
  { s with recs := s.recs ++ [r], c := { s.c with head := C.next s.c.head r } }
def refuse (s : Scene) (l n code : Int) : Scene := (s.tell l { kind := 132, seq := n, code := code }).record C 7 l n code 0
def reject (s : Scene) (l code : Int) : Scene := s.record C 1 l 0 code 0
def done (s : Scene) (l n : Int) : Scene := s.tell l { kind := 131, seq := n }
def goes (s : Scene) (t : Tok) (how n : Int) : Scene :=
  let a := s.c.t.holder
  let s1 : Scene := { s with c := { s.c with t := t, q := Q.drop s.c.q t.holder } }
  let s2 := s1.hear a { kind := 134, who := t.holder, epoch := t.epoch }
  let s3 := s2.hear t.holder { kind := 133, epoch := t.epoch }
  s3.record C 8 t.holder n 0 how
def gone (s : Scene) (l who code : Int) : Scene := s.hear l { kind := 136, who := who, code := code }
def leave (s : Scene) (source : Int) : Scene :=
  let s1 : Scene := { s with c := { s.c with q := Q.drop s.c.q source } }
  if (s1.c.t.drop source).2 = false then s1
  else (({ s1 with c := { s1.c with t := (s1.c.t.drop source).1 } } : Scene).gone (s1.c.t.drop source).1.holder source 16).record C 12 source 0 16 0
def fall (s : Scene) (mode : Int) (by_ : Label) : Scene := { s with c := { s.c with mode := mode, modeBy := by_, pt := s.c.pt.hold by_ } }

def hello (s : Scene) (l : Int) (b : List UInt8) : Scene :=
  match takeMsg b with
  | none => s.reject C l 13
  | some m =>
    if takes s.c.p l m.role = false then s.refuse C l 0 18
    else
      let d := s.c.doors (l.toNat - 1)
      if 4294967295 ≤ d.many then s.refuse C l 0 24
      else
        let n := C.nonce (s.c.p.k 3) l (d.many + 1)
        let s1 : Scene := { s with c := { s.c with doors := fun j => if j = l.toNat - 1 then ⟨d.many + 1, true, n⟩ else s.c.doors j } }
        (s1.tell l { kind := 129, nonce := n }).record C 2 l 0 0 0
def prove (s : Scene) (l : Int) (b : List UInt8) : Scene :=
  if b.length ≠ 10 then s.reject C l 13
  else match takeMsg (b.take 2) with
  | none => s.reject C l 13
  | some m =>
    let d := s.c.doors (l.toNat - 1)
    if d.opn = false then s.refuse C l 0 17
    else
      let s1 : Scene := { s with c := { s.c with doors := fun j => if j = l.toNat - 1 then ⟨d.many, false, List.replicate 8 0⟩ else s.c.doors j } }
      if b.drop 2 ≠ C.proof (s.c.p.k (l.toNat - 1)) l m.role d.nonce then s1.reject C l 14
      else if takes s.c.p l m.role = false then s1.refuse C l 0 18
      else
        let (tab, e) := Tab.begin_ s.c.p s.c.tab l m.role (C.key (s.c.p.k (l.toNat - 1)) l m.role d.nonce)
        if e ≠ 0 then s1.refuse C l 0 e
        else
          let s2 : Scene := { s1 with c := { s1.c with tab := tab } }
          (s2.tell l { kind := 130, role := m.role, who := s.c.t.holder, epoch := s.c.t.epoch }).record C 3 l 0 0 0

def setTok (s : Scene) (t : Tok) : Scene := { s with c := { s.c with t := t } }
def bye (s : Scene) (l : Int) (m : Msg) : Scene :=
  ((({ s with c := { s.c with tab := s.c.tab.end_ l } } : Scene).leave C l).record C 4 l m.seq 0 0).done l m.seq
def ask (s : Scene) (l : Int) (m : Msg) : Scene :=
  let (t, how, e, q) := askTok s.c.p s.c.t s.c.p.queue s.c.q l m.now
  if e ≠ 0 then s.refuse C l m.seq e
  else
    let s1 : Scene := { s with c := { s.c with q := q } }
    (if 0 < how then s1.goes C t how m.seq else (s1.setTok t).record C 10 l m.seq 0 0).done l m.seq
def offer (s : Scene) (l : Int) (m : Msg) : Scene :=
  let (t, e) := Tok.make s.c.p s.c.t l m.to_ (s.c.tab.on m.to_)
  if e ≠ 0 then s.refuse C l m.seq e
  else ((((s.setTok t).hear m.to_ { kind := 135, who := l, epoch := t.epoch }).record C 9 l m.seq 0 m.to_)).done l m.seq
def accept (s : Scene) (l : Int) (m : Msg) : Scene :=
  let (t, e) := s.c.t.accept l m.epoch
  if e ≠ 0 then s.refuse C l m.seq e else (s.goes C t 1 m.seq).done l m.seq
def deny (s : Scene) (l : Int) (m : Msg) : Scene :=
  let (t, e) := s.c.t.deny l
  if e ≠ 0 then s.refuse C l m.seq e
  else ((((s.setTok t).gone t.holder l 0).record C 11 l m.seq 0 0)).done l m.seq
def release (s : Scene) (l : Int) (m : Msg) : Scene :=
  let (t, e, q) := releaseTok s.c.t s.c.q l
  if e ≠ 0 then s.refuse C l m.seq e else (({ s with c := { s.c with q := q } } : Scene).goes C t 2 m.seq).done l m.seq
def command (s : Scene) (l : Int) (m : Msg) : Scene :=
  let e := judge s.c.p s.c.t l (s.c.tab.role l) s.c.mode m
  if e ≠ 0 then s.refuse C l m.seq e
  else
    let by_ : Label := ⟨1, l, m.seq⟩
    let s1 : Scene := if m.kind = 10 then { s with c := { s.c with mode := m.mode, modeBy := by_ } }
      else { s with c := { s.c with pt := s.c.pt.set s.c.p m.cls m.x by_ } }
    (s1.record C 6 l m.seq 0 0).done l m.seq
def say (s : Scene) (l : Int) (m : Msg) : Scene :=
  if m.kind = 3 then s.done l m.seq else if m.kind = 4 then s.bye C l m else if m.kind = 5 then s.ask C l m
  else if m.kind = 6 then s.offer C l m else if m.kind = 7 then s.accept C l m else if m.kind = 8 then s.deny C l m
  else if m.kind = 9 then s.release C l m else if m.kind = 10 ∨ m.kind = 11 then s.command C l m else s
def item (s : Scene) (l code : Int) (b : List UInt8) : Scene :=
  if code ≠ 0 then s.reject C l code
  else if b.head? = some 1 then s.hello C l b
  else if b.head? = some 2 then s.prove C l b
  else
    match s.c.tab.take C s.c.p l b with
    | (_, .error e) => s.reject C l e
    | (tab, .ok m) => ({ s with c := { s.c with tab := tab } } : Scene).say C l m

def sample (s : Scene) (x : Sample) : Scene :=
  if x.valid = false then { s with c := { s.c with beyond := 0 } }
  else
    let n := sat s.c.samples 4294967295
    let r := see s.c.p s.c.beyond x
    let s1 : Scene := { s with c := { s.c with samples := n, tab := s.c.tab.sample s.c.p, beyond := r.1 } }
    if s.c.t.holder = 0 ∧ x.give = true then
      let (t, e, q) := releaseTok s.c.t s.c.q 0
      if e ≠ 0 then s1.record C 7 0 n e 0 else ({ s1 with c := { s1.c with q := q } } : Scene).goes C t 2 n
    else if s.c.t.holder = 0 then
      let e := judge s.c.p s.c.t 0 0 s.c.mode { zeroMsg 11 with epoch := s.c.t.epoch, cls := 1 }
      if e ≠ 0 then s1.record C 7 0 n e 0
      else ({ s1 with c := { s1.c with pt := s1.c.pt.set s.c.p 1 x.x ⟨1, 0, n⟩ } } : Scene).record C 6 0 n 0 0
    else if r.2 then
      let (t, e) := s.c.t.grant 0
      if e ≠ 0 then s1.record C 7 0 n e 0 else s1.goes C t 4 n
    else s1

def health (s : Scene) (bad : Bool) : Scene :=
  let s1 := s.setTok { s.c.t with bad := bad }
  if bad = false then s1
  else
    let t := s1.c.t.seize
    let s2 := if s1.c.t.holder ≠ 4 then s1.goes C t 6 0 else s1.setTok t
    let s3 := s2.c.q.foldl (fun (s : Scene) (a : Ask) => ({ s with c := { s.c with q := Q.drop s.c.q a.source } } : Scene).gone a.source 4 29) s2
    s3.fall s3.c.p.safe failsafe

def lose (s : Scene) : Scene :=
  let (t, how, q) := loseTok s.c.p s.c.t s.c.q (s.c.tab.on s.c.t.holder)
  if how ≤ 0 then s.setTok t
  else
    let s1 := ({ s with c := { s.c with q := q } } : Scene).goes C t how 0
    if how = 5 then s1.fall s1.c.p.lost ⟨3, 4, 0⟩ else s1.fall s1.c.p.safe failsafe
def tick (s : Scene) : Scene :=
  let gone0 := s.c.tab.ended
  let s0 : Scene := { s with c := { s.c with tab := s.c.tab.tick } }
  let s1 := gone0.foldl (fun (s : Scene) (x : Int) => let s := s.record C 5 x 0 0 0; if linked x then s.leave C x else s) s0
  let (t, whose) := s1.c.t.tick
  let s2 := s1.setTok t
  let s3 := if 0 ≤ whose then (s2.gone t.holder whose 30).record C 12 whose 0 30 0 else s2
  let late := Q.gone s3.c.q
  let s4 : Scene := { s3 with c := { s3.c with q := Q.kept s3.c.q } }
  let s5 := late.foldl (fun (s : Scene) (a : Ask) => (s.gone a.source a.source 30).record C 12 a.source 0 30 0) s4
  let s6 := s5.lose C
  { s6 with c := { s6.c with pt := s6.c.pt.step s6.c.p } }
end Scene
end Sd
