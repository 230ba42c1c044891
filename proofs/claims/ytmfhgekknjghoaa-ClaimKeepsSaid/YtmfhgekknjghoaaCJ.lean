/- Package queue, up to three who wait: the contracts, joined. -/
import Derived.Test.YtmfhgekknjghoaaCP
import Derived.Test.YtmfhgekknjghoaaCH
namespace Go.Proofs.Ytmfhgekknjghoaa
open Go Go.RowKit Go.BigFrame Sx
set_option linter.unusedVariables false
set_option linter.unusedSimpArgs false


def QS (bq : Nat) (most : Int) (L : List Sd.Ask) (bl : List Blk) : Prop := ∃ es x c came rows, bl = ⟨bq, true, .cells #[.slice x es.length c, .int .i64 most, .int .u64 came] 71 (0, 0)⟩ :: rows ∧ rowv 5 76 (onesV es) x es.length c rows ∧ HeapOk es ∧ absL es = L
section
variable {bq : Nat} {most : Int} {L : List Sd.Ask} {bl : List Blk} {ms : List Nat} {w0 w : World} {bs : List Blk}
theorem q_out {V : Prop} {M : List Sd.Ask} {w1 : World} (h : ∃ es x c1 cm rows, V ∧ HeapOk es ∧ absL es = M ∧ rowv 5 76 (onesV es) x es.length c1 rows ∧ St ms w0 (⟨bq, true, .cells #[.slice x es.length c1, .int .i64 most, .int .u64 cm] 71 (0, 0)⟩ :: (rows ++ bs)) w1) :
    ∃ bl', V ∧ QS bq most M bl' ∧ St ms w0 (bl' ++ bs) w1 := by
  obtain ⟨es, x, c1, cm, rows, h1, h2, h3, h4, h5⟩ := h
  exact ⟨_ :: rows, h1, ⟨es, x, c1, cm, rows, rfl, h4, h2, h3⟩, h5⟩
theorem q_drop (s : Int) (hQ : QS bq most L bl) (S0 : St ms w0 (bl ++ bs) w) :
    Gives Try.prog 17 #[.pointer (some ⟨bq, 0, none⟩), .int .i64 s] w fun v w1 => ∃ bl', v = .bool (Sd.Q.waits L s) ∧ QS bq most (Sd.Q.drop L s) bl' ∧ St ms w0 (bl' ++ bs) w1 := by
  obtain ⟨es, x, c, came, rows, rfl, ⟨_, hle, hrow⟩, hH, rfl⟩ := hQ
  rcases hrow with ⟨rfl, h0, rfl, rfl⟩ | ⟨bl, tl, rfl, rfl, hlen⟩
  · match es, h0, hH, S0 with
    | [], _, hH, S0 => exact (drop_0z bq most came s hH w S0).mono fun v w1 h => q_out h
  · match es, hle, hlen, hH, S0 with
    | [], hle, hlen, hH, S0 => exact (drop_0 bq bl c tl most came s hle hlen hH w S0).mono fun v w1 h => q_out h
    | [e0], hle, hlen, hH, S0 => exact (drop_1 bq bl c tl most came s e0 hle hlen hH w S0).mono fun v w1 h => q_out h
    | [e0, e1], hle, hlen, hH, S0 => exact (drop_2 bq bl c tl most came s e0 e1 hle hlen hH w S0).mono fun v w1 h => q_out h
    | [e0, e1, e2], hle, hlen, hH, S0 => exact (drop_3 bq bl c tl most came s e0 e1 e2 hle hlen hH w S0).mono fun v w1 h => q_out h
    | _ :: _ :: _ :: _ :: _, _, _, hH, _ => exact absurd hH (by simp [HeapOk])
theorem q_push (a : Sd.Ask) (hQ : QS bq most L bl) (hm : most ≤ 3) (hr : ∀ e ∈ L, e.source = a.source ∨ ¬ e.rank = a.rank) (S0 : St ms w0 (bl ++ bs) w) :
    Gives Try.prog 11 #[.pointer (some ⟨bq, 0, none⟩), .agg (askC a)] w fun v w1 => ∃ bl', v = .int .i64 (Sd.Q.push most L a).2 ∧ QS bq most (Sd.Q.push most L a).1 bl' ∧ St ms w0 (bl' ++ bs) w1 := by
  obtain ⟨es, x, c, came, rows, rfl, ⟨_, hle, hrow⟩, hH, rfl⟩ := hQ
  have h3 : ∀ e0 e1 e2 : One, (∀ e ∈ absL [e0, e1, e2], e.source = a.source ∨ ¬ e.rank = a.rank) → (e0.a.source = a.source ∨ ¬ e0.a.rank = a.rank) ∧ (e1.a.source = a.source ∨ ¬ e1.a.rank = a.rank) ∧ (e2.a.source = a.source ∨ ¬ e2.a.rank = a.rank) := by
    intro e0 e1 e2 h
    simp only [absL] at h
    split at h <;> exact ⟨h _ (by simp), h _ (by simp), h _ (by simp)⟩
  rcases hrow with ⟨rfl, h0, rfl, rfl⟩ | ⟨bl, tl, rfl, rfl, hlen⟩
  · match es, h0, hH, S0 with
    | [], _, hH, S0 => exact (push_0z bq most came a hH hm w S0).mono fun v w1 h => q_out h
  · match es, hle, hlen, hH, S0, hr with
    | [], hle, hlen, hH, S0, _ => exact (push_0 bq bl c tl most came a hle hlen hH hm w S0).mono fun v w1 h => q_out h
    | [e0], hle, hlen, hH, S0, hr => exact (push_1 bq bl c tl most came a e0 hle hlen hH (hr e0.a (by simp [absL])) hm w S0).mono fun v w1 h => q_out h
    | [e0, e1], hle, hlen, hH, S0, hr => exact (push_2 bq bl c tl most came a e0 e1 hle hlen hH (hr e0.a (by simp [absL])) (hr e1.a (by simp [absL])) hm w S0).mono fun v w1 h => q_out h
    | [e0, e1, e2], hle, hlen, hH, S0, hr => exact (push_3 bq bl c tl most came a e0 e1 e2 hle hlen hH (h3 e0 e1 e2 hr).1 (h3 e0 e1 e2 hr).2.1 (h3 e0 e1 e2 hr).2.2 hm w S0).mono fun v w1 h => q_out h
    | _ :: _ :: _ :: _ :: _, _, _, hH, _, _ => exact absurd hH (by simp [HeapOk])
theorem q_list (hQ : QS bq most L bl) (S0 : St ms w0 (bl ++ bs) w) :
    Gives Try.prog 12 #[.pointer (some ⟨bq, 0, none⟩)] w fun v w1 => ∃ x c1 rows, v = .slice x L.length c1 ∧ rowv 4 32 (asksV L) x L.length c1 rows ∧ St ms w0 (rows ++ (bl ++ bs)) w1 := by
  obtain ⟨es, x, c, came, rows, rfl, ⟨_, hle, hrow⟩, hH, rfl⟩ := hQ
  rcases hrow with ⟨rfl, h0, rfl, rfl⟩ | ⟨bl, tl, rfl, rfl, hlen⟩
  · match es, h0, hH, S0 with
    | [], _, hH, S0 => exact (list_0z bq most came hH w S0).mono fun v w1 ⟨l, x, c1, rows, h1, h2, h3, h4⟩ => ⟨x, c1, rows, by rw [h2]; exact h1, by rw [h2]; exact h3, h4⟩
  · match es, hle, hlen, hH, S0 with
    | [], hle, hlen, hH, S0 => exact (list_0 bq bl c tl most came hle hlen hH w S0).mono fun v w1 ⟨l, x, c1, rows, h1, h2, h3, h4⟩ => ⟨x, c1, rows, by rw [h2]; exact h1, by rw [h2]; exact h3, h4⟩
    | [e0], hle, hlen, hH, S0 => exact (list_1 bq bl c tl most came e0 hle hlen hH w S0).mono fun v w1 ⟨l, x, c1, rows, h1, h2, h3, h4⟩ => ⟨x, c1, rows, by rw [h2]; exact h1, by rw [h2]; exact h3, h4⟩
    | [e0, e1], hle, hlen, hH, S0 => exact (list_2 bq bl c tl most came e0 e1 hle hlen hH w S0).mono fun v w1 ⟨l, x, c1, rows, h1, h2, h3, h4⟩ => ⟨x, c1, rows, by rw [h2]; exact h1, by rw [h2]; exact h3, h4⟩
    | [e0, e1, e2], hle, hlen, hH, S0 => exact (list_3 bq bl c tl most came e0 e1 e2 hle hlen hH w S0).mono fun v w1 ⟨l, x, c1, rows, h1, h2, h3, h4⟩ => ⟨x, c1, rows, by rw [h2]; exact h1, by rw [h2]; exact h3, h4⟩
    | _ :: _ :: _ :: _ :: _, _, _, hH, _ => exact absurd hH (by simp [HeapOk])
def headL : List Sd.Ask → Sd.Ask × Int
  | [] => (⟨0, 0, ⟨0, 0⟩⟩, 2)
  | a :: _ => (a, 0)
theorem q_head (hQ : QS bq most L bl) (S0 : St ms w0 (bl ++ bs) w) :
    Gives Try.prog 15 #[.pointer (some ⟨bq, 0, none⟩)] w fun v w1 => v = .tuple #[.agg (askC (headL L).1), .int .i64 (headL L).2] ∧ Ch [] w w1 := by
  obtain ⟨es, x, c, came, rows, rfl, ⟨_, hle, hrow⟩, hH, rfl⟩ := hQ
  have hq := S0.at' (x := ⟨bq, true, .cells #[.slice x es.length c, .int .i64 most, .int .u64 came] 71 (0, 0)⟩) (by simp)
  rcases hrow with ⟨rfl, h0, rfl, rfl⟩ | ⟨bl, tl, rfl, rfl, hlen⟩
  · match es, h0, hH, hq with
    | [], _, hH, hq => exact head_0z bq most came hH w hq
  · have hb := S0.at' (x := ⟨bl, true, .cells (onesV es ++ tl).toArray 76 (0, 0)⟩) (by simp)
    match es, hle, hlen, hH, hq, hb with
    | [], hle, hlen, hH, hq, hb => exact head_0 bq bl c tl most came hle hlen hH w hq hb
    | [e0], hle, hlen, hH, hq, hb => exact head_1 bq bl c tl most came e0 hle hlen hH w hq hb
    | [e0, e1], hle, hlen, hH, hq, hb => exact head_2 bq bl c tl most came e0 e1 hle hlen hH w hq hb
    | [e0, e1, e2], hle, hlen, hH, hq, hb => exact (head_3 bq bl c tl most came e0 e1 e2 hle hlen hH w hq hb).mono fun v w1 h => ⟨h.1.trans (by simp only [absL]; split <;> rfl), h.2⟩
    | _ :: _ :: _ :: _ :: _, _, _, hH, _, _ => exact absurd hH (by simp [HeapOk])
end

end Go.Proofs.Ytmfhgekknjghoaa
