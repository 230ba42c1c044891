/- The plain model: Inv. -/
import Derived.Test.YtgbgjbjlblcpaaaGreatDoorMModel
namespace Sd

structure PolOK (p : Pol) : Prop where
  o0 : p.i 0 = 0
  o4 : p.i 4 = 4
  perm : (p.i 1 = 1 ∧ p.i 2 = 2 ∧ p.i 3 = 3) ∨ (p.i 1 = 1 ∧ p.i 2 = 3 ∧ p.i 3 = 2) ∨ (p.i 1 = 2 ∧ p.i 2 = 1 ∧ p.i 3 = 3) ∨
    (p.i 1 = 2 ∧ p.i 2 = 3 ∧ p.i 3 = 1) ∨ (p.i 1 = 3 ∧ p.i 2 = 1 ∧ p.i 3 = 2) ∨ (p.i 1 = 3 ∧ p.i 2 = 2 ∧ p.i 3 = 1)
  start : 0 ≤ p.start ∧ p.start ≤ 4
  safe : 0 ≤ p.safe ∧ p.safe ≤ 4
  lost : 0 ≤ p.lost ∧ p.lost ≤ 4
  beat : 1 ≤ p.beat ∧ p.beat ≤ 1000
  lose : 1 ≤ p.lose ∧ p.lose ≤ 1000
  offer : 1 ≤ p.offer ∧ p.offer ≤ 1000
  ask : 1 ≤ p.ask ∧ p.ask ≤ 1000
  stick : 1 ≤ p.stick ∧ p.stick ≤ 1000
  beyond : 0 ≤ p.beyond ∧ p.beyond ≤ 1000
  queue : 1 ≤ p.queue ∧ p.queue ≤ 3
  sessions : 1 ≤ p.sessions ∧ p.sessions ≤ 3
  most : ∀ c, c < 4 → 0 ≤ p.most c ∧ p.most c ≤ 1000
  rate : 1 ≤ p.rate ∧ p.rate ≤ 1000
  epoch : 0 ≤ p.epoch ∧ p.epoch ≤ 65535

theorem place_range {p : Pol} (h : PolOK p) (s : Int) (h0 : 0 ≤ s) (h4 : s ≤ 4) : 0 ≤ placeOf p s ∧ placeOf p s ≤ 4 := by
  have e : s = 0 ∨ s = 1 ∨ s = 2 ∨ s = 3 ∨ s = 4 := by omega
  have := h.o0; have := h.o4
  rcases e with rfl | rfl | rfl | rfl | rfl <;> rcases h.perm with ⟨a, b, c⟩ | ⟨a, b, c⟩ | ⟨a, b, c⟩ | ⟨a, b, c⟩ | ⟨a, b, c⟩ | ⟨a, b, c⟩ <;> simp [placeOf, *]

theorem place_inj {p : Pol} (h : PolOK p) {s t : Int} (hs : 0 ≤ s ∧ s ≤ 4) (ht : 0 ≤ t ∧ t ≤ 4) (e : placeOf p s = placeOf p t) : s = t := by
  have es : s = 0 ∨ s = 1 ∨ s = 2 ∨ s = 3 ∨ s = 4 := by omega
  have et : t = 0 ∨ t = 1 ∨ t = 2 ∨ t = 3 ∨ t = 4 := by omega
  have := h.o0; have := h.o4
  rcases es with rfl | rfl | rfl | rfl | rfl <;> rcases et with rfl | rfl | rfl | rfl | rfl <;> first | rfl | (rcases h.perm with ⟨a, b, c⟩ | ⟨a, b, c⟩ | ⟨a, b, c⟩ | ⟨a, b, c⟩ | ⟨a, b, c⟩ | ⟨a, b, c⟩ <;> simp [placeOf, *] at e)

theorem higher_eq {p : Pol} (h : PolOK p) {s t : Int} (hs : 0 ≤ s ∧ s ≤ 4) (ht : 0 ≤ t ∧ t ≤ 4) : higher p s t = decide (rank p s < rank p t) := by
  have a := place_range h s hs.1 hs.2
  have b := place_range h t ht.1 ht.2
  unfold higher rank
  have a' : placeOf p s ≠ -1 := by omega
  have b' : placeOf p t ≠ -1 := by omega
  simp [a', b']

theorem place4 {p : Pol} (h : PolOK p) {s : Int} (hs : 0 ≤ s ∧ s ≤ 3) : rank p s < rank p 4 := by
  have es : s = 0 ∨ s = 1 ∨ s = 2 ∨ s = 3 := by omega
  have := h.o0; have := h.o4
  unfold rank
  rcases es with rfl | rfl | rfl | rfl <;> rcases h.perm with ⟨a, b, c⟩ | ⟨a, b, c⟩ | ⟨a, b, c⟩ | ⟨a, b, c⟩ | ⟨a, b, c⟩ | ⟨a, b, c⟩ <;> simp [placeOf, *]

/-- who waits, in order -/
structure QOK (p : Pol) (t : Tab) (holder : Int) (q : List Ask) : Prop where
  each : ∀ a ∈ q, a.rank = rank p a.source ∧ 1 ≤ a.source ∧ a.source ≤ 3 ∧ t.on a.source = true ∧ a.source ≠ holder ∧ a.age.most = p.ask ∧ 0 ≤ a.age.n ∧ a.age.n < p.ask
  sorted : q.Pairwise fun a b => a.rank < b.rank
  len : (q.length : Int) ≤ p.queue

structure TokOK (p : Pol) (tab : Tab) (t : Tok) : Prop where
  holder : 0 ≤ t.holder ∧ t.holder ≤ 4
  epoch : p.epoch ≤ t.epoch ∧ t.epoch ≤ 65535
  offer : t.offer = -1 ∨ (1 ≤ t.offer ∧ t.offer ≤ 3 ∧ t.offer ≠ t.holder ∧ tab.on t.offer = true ∧ t.oa.most = p.offer ∧ 0 ≤ t.oa.n ∧ t.oa.n < p.offer)
  lost : (t.la.most = 0 ∧ t.la.n = 0) ∨ (t.la.most = p.lose ∧ 0 ≤ t.la.n ∧ t.la.n < p.lose)

structure TabOK (p : Pol) (t : Tab) : Prop where
  sticks : t.sticks.1 = true → t.sticks.2.most = p.beat ∧ 0 ≤ t.sticks.2.n ∧ t.sticks.2.n < p.beat
  ses : ∀ i, i < 3 → (t.ses i).on = true → (t.ses i).silent.most = p.beat ∧ 0 ≤ (t.ses i).silent.n ∧ (t.ses i).silent.n < p.beat ∧ 0 ≤ (t.ses i).role ∧ (t.ses i).role ≤ 3

structure Inv (c : Core) : Prop where
  p : PolOK c.p
  tok : TokOK c.p c.tab c.t
  q : QOK c.p c.tab c.t.holder c.q
  tab : TabOK c.p c.tab
  samples : 0 ≤ c.samples ∧ c.samples ≤ 4294967295
  mode : 0 ≤ c.mode ∧ c.mode ≤ 4
  doors : ∀ i, i < 3 → 0 ≤ (c.doors i).many

theorem sat_bd {n m : Int} (h : 0 ≤ n) (hm : 0 ≤ m) (hn : n ≤ m) : 0 ≤ sat n m ∧ sat n m ≤ m := by unfold sat; split <;> omega

theorem Inv.new {p : Pol} (h : PolOK p) : Inv (Core.new p) where
  p := h
  tok := ⟨by simp [Core.new, Tok.new], by simp [Core.new, Tok.new]; exact h.epoch.2, .inl rfl, .inl ⟨rfl, rfl⟩⟩
  q := ⟨by simp [Core.new], by simp [Core.new], by simp [Core.new]; have := h.queue; omega⟩
  tab := ⟨by simp [Core.new, Tab.new], by simp [Core.new, Tab.new, Session.zero]⟩
  samples := by simp [Core.new]
  mode := h.start
  doors := by simp [Core.new, Door.zero]
end Sd
