/- The plain model: Inv. -/
import Derived.Test.YtbjanfgipcniiaaGreatDoorMModel
namespace Sd

structure PolOK (p : Pol) : Prop where
  o0 : p.i 0 = 0
  o4 : p.i 4 = 4
  perm : (p.i 1 = 1 ∧ p.i 2 = 2 ∧ p.i 3 = 3) ∨ (p.i 1 = 1 ∧ p.i 2 = 3 ∧ p.i 3 = 2) ∨ (p.i 1 = 2 ∧ p.i 2 = 1 ∧ p.i 3 = 3) ∨
    (p.i 1 = 2 ∧ p.i 2 = 3 ∧ p.i 3 = 1) ∨ (p.i 1 = 3 ∧ p.i 2 = 1 ∧ p.i 3 = 2) ∨ (p.i 1 = 3 ∧ p.i 2 = 2 ∧ p.i 3 = 1)
  start : 0 ≤ p.start ∧ p.start ≤ 4
  safe : 0 ≤ p.safe ∧ p.safe ≤ 4
  lost : 0 ≤ p.lost ∧ p.lost ≤ 4
  beat : 1 ≤ p.beat ∧ p.beat ≤ 1000
  lose : 1 ≤ p.lose ∧ p.lose ≤ 1000
  offer : 1 ≤ p.offer ∧ p.offer ≤ 1000
  ask : 1 ≤ p.ask ∧ p.ask ≤ 1000
  stick : 1 ≤ p.stick ∧ p.stick ≤ 1000
  beyond : 0 ≤ p.beyond ∧ p.beyond ≤ 1000
  queue : 1 ≤ p.queue ∧ p.queue ≤ 3
  sessions : 1 ≤ p.sessions ∧ p.sessions ≤ 3
  most : ∀ c, c < 4 → 0 ≤ p.most c ∧ p.most c ≤ 1000
  rate : 1 ≤ p.rate ∧ p.rate ≤ 1000
  epoch : 0 ≤ p.epoch ∧ p.epoch ≤ 65535

/-- who waits, in order -/
structure QOK (p : Pol) (t : Tab) (holder : Int) (q : List Ask) : Prop where
  each : ∀ a ∈ q, a.rank = rank p a.source ∧ 1 ≤ a.source ∧ a.source ≤ 3 ∧ t.on a.source = true ∧ a.source ≠ holder ∧ a.age.most = p.ask ∧ 0 ≤ a.age.n ∧ a.age.n < p.ask
  sorted : q.Pairwise fun a b => a.rank < b.rank
  len : (q.length : Int) ≤ p.queue

structure TokOK (p : Pol) (tab : Tab) (t : Tok) : Prop where
  holder : 0 ≤ t.holder ∧ t.holder ≤ 4
  epoch : p.epoch ≤ t.epoch ∧ t.epoch ≤ 65535
  offer : t.offer = -1 ∨ (1 ≤ t.offer ∧ t.offer ≤ 3 ∧ t.offer ≠ t.holder ∧ tab.on t.offer = true ∧ t.oa.most = p.offer ∧ 0 ≤ t.oa.n ∧ t.oa.n < p.offer)
  lost : (t.la.most = 0 ∧ t.la.n = 0) ∨ (t.la.most = p.lose ∧ 0 ≤ t.la.n ∧ t.la.n < p.lose)

structure TabOK (p : Pol) (t : Tab) : Prop where
  sticks : t.sticks.1 = true → t.sticks.2.most = p.beat ∧ 0 ≤ t.sticks.2.n ∧ t.sticks.2.n < p.beat
  ses : ∀ i, i < 3 → (t.ses i).on = true → (t.ses i).silent.most = p.beat ∧ 0 ≤ (t.ses i).silent.n ∧ (t.ses i).silent.n < p.beat ∧ 0 ≤ (t.ses i).role ∧ (t.ses i).role ≤ 3 ∧ 0 ≤ (t.ses i).seen.high ∧ (t.ses i).seen.high ≤ 4294967295

structure Inv (c : Core) : Prop where
  p : PolOK c.p
  tok : TokOK c.p c.tab c.t
  q : QOK c.p c.tab c.t.holder c.q
  tab : TabOK c.p c.tab
  samples : 0 ≤ c.samples ∧ c.samples ≤ 4294967295
  mode : 0 ≤ c.mode ∧ c.mode ≤ 4
  doors : ∀ i, i < 3 → 0 ≤ (c.doors i).many

theorem Inv.new {p : Pol} (h : PolOK p) : Inv (Core.new p) where
  p := h
  tok := ⟨by simp [Core.new, Tok.new], by simp [Core.new, Tok.new]; exact h.epoch.2, .inl rfl, .inl ⟨rfl, rfl⟩⟩
  q := ⟨by simp [Core.new], by simp [Core.new], by simp [Core.new]; have := h.queue; omega⟩
  tab := ⟨by simp [Core.new, Tab.new], by simp [Core.new, Tab.new, Session.zero]⟩
  samples := by simp [Core.new]
  mode := h.start
  doors := by simp [Core.new, Door.zero]
end Sd
