/- Fit, and who waits, for the laws of package claim. -/
import Derived.Test.YtmfhgekknjghoaaCC
import Derived.Test.YtmfhgekknjghoaaXFit
import Derived.Test.YtmfhgekknjghoaaSCY
namespace Go.Proofs.Ytmfhgekknjghoaa
open Go Go.RowKit Go.BigFrame Sx
set_option linter.unusedVariables false
set_option linter.unusedSimpArgs false

theorem fit_ok {q : Nat → Int} {o1 o2 o3 : Int} (hO : OrdR q o1 o2 o3) : Sd.PolOK ⟨fitQ q o1 o2 o3, default⟩ := by
  have h3 := fun n => modI_bd n 3 (by omega)
  have h5 := fun n => modI_bd n 5 (by omega)
  have h1000 := fun n => modI_bd n 1000 (by omega)
  have h1001 := fun n => modI_bd n 1001 (by omega)
  constructor
  · rfl
  · rfl
  · exact hO.perm
  · show 0 ≤ modI (q 39) 5 ∧ modI (q 39) 5 ≤ 4; have := h5 (q 39); omega
  · show 0 ≤ modI (q 40) 5 ∧ modI (q 40) 5 ≤ 4; have := h5 (q 40); omega
  · show 0 ≤ modI (q 41) 5 ∧ modI (q 41) 5 ≤ 4; have := h5 (q 41); omega
  · show 1 ≤ 1 + modI (q 42) 1000 ∧ 1 + modI (q 42) 1000 ≤ 1000; have := h1000 (q 42); omega
  · show 1 ≤ 1 + modI (q 43) 1000 ∧ 1 + modI (q 43) 1000 ≤ 1000; have := h1000 (q 43); omega
  · show 1 ≤ 1 + modI (q 44) 1000 ∧ 1 + modI (q 44) 1000 ≤ 1000; have := h1000 (q 44); omega
  · show 1 ≤ 1 + modI (q 45) 1000 ∧ 1 + modI (q 45) 1000 ≤ 1000; have := h1000 (q 45); omega
  · show 1 ≤ 1 + modI (q 46) 1000 ∧ 1 + modI (q 46) 1000 ≤ 1000; have := h1000 (q 46); omega
  · show 0 ≤ modI (q 47) 1001 ∧ modI (q 47) 1001 ≤ 1000; have := h1001 (q 47); omega
  · show 1 ≤ 1 + modI (q 48) 3 ∧ 1 + modI (q 48) 3 ≤ 3; have := h3 (q 48); omega
  · show 1 ≤ 1 + modI (q 49) 3 ∧ 1 + modI (q 49) 3 ≤ 3; have := h3 (q 49); omega
  · intro c hc
    match c, hc with
    | 0, _ => show (0 : Int) ≤ 0 ∧ (0 : Int) ≤ 1000; omega
    | 1, _ => show 0 ≤ modI (q 51) 1001 ∧ modI (q 51) 1001 ≤ 1000; have := h1001 (q 51); omega
    | 2, _ => show 0 ≤ modI (q 52) 1001 ∧ modI (q 52) 1001 ≤ 1000; have := h1001 (q 52); omega
    | 3, _ => show 0 ≤ modI (q 53) 1001 ∧ modI (q 53) 1001 ≤ 1000; have := h1001 (q 53); omega
    | c + 4, h => exact absurd h (by omega)
  · show 1 ≤ 1 + modI (q 54) 1000 ∧ 1 + modI (q 54) 1000 ≤ 1000; have := h1000 (q 54); omega
  · show 0 ≤ q 55 % 65536 ∧ q 55 % 65536 ≤ 65535; omega
/-- a policy made one that may be: any such one -/
theorem fitP_ (q : Nat → Int) (ka : Nat → Option Addr) (kn kc : Nat → Nat) (kb : Nat → Nat → Int) (w0 w : World) (hc : Ch [] w0 w) (hq : ∀ i, -9223372036854775808 ≤ q i ∧ q i ≤ 9223372036854775807) (hK : ∀ i, i < 4 → KeyIn [] w0 (ka i) (kn i) (kc i) (kb i)) :
    Gives Try.prog 19 #[.agg (polC q ka kn kc)] w fun v w1 => ∃ p xa xn xc, Sd.PolOK p ∧ v = .agg (polP p xa xn xc) ∧ Ch [] w w1 := by
  have S0 : St [] w0 [] w := (St.nil [] w0).quiet hc
  have hK' : ∀ i, i < 4 → KeyIn [] w (ka i) (kn i) (kc i) (kb i) := fun i hi => ⟨(hK i hi).1, (hK i hi).2.1, fun ad ha => ⟨by simp, fun j hj => by
    have h := ((hK i hi).2.2 ad ha).2 j hj
    rcases e : ad.add j with ⟨b, o, sp⟩
    rw [e] at h
    have hb : b < w0.heap.size := by
      unfold World.cell? at h
      split at h
      · next h2 => exact heap_lt h2
      · exact absurd h (by simp)
    have h3 := hc.block b hb (by simp)
    unfold World.cell? at h ⊢
    simpa only [h3] using h⟩⟩
  refine (fit_ q ka kn kc kb w (St.nil [] w) hq hK').mono ?_
  rintro v w1 ⟨o1, o2, o3, b, c, tl, hO, rfl, _, S⟩
  exact ⟨⟨fitQ q o1 o2 o3, default⟩, (fun i => some ⟨b i, 0, none⟩), (fun i => (keyL (kn i) (kb i)).length), c, fit_ok hO, rfl, S.ch⟩

theorem q_ty {bq : Nat} {most : Int} {L : List Sd.Ask} {bl : List Blk} (h : QS bq most L bl) : Ty [71, 76] bl := by
  obtain ⟨es, x, c, came, rows, rfl, hr, _⟩ := h
  exact Ty.cons rfl hr.ty
theorem q_headX {bq : Nat} {most : Int} {L : List Sd.Ask} {bl : List Blk} (hQ : QS bq most L bl) {ms : List Nat} {w0 w : World} {bs : List Blk} (S0 : St ms w0 (bl ++ bs) w) :
    Gives Try.prog 15 #[.pointer (some ⟨bq, 0, none⟩)] w fun v w1 => v = .tuple #[.agg (askC (headL L).1), .int .i64 (headL L).2] ∧ St ms w0 (bl ++ bs) w1 :=
  (q_head hQ S0).mono fun v w1 h => ⟨h.1, S0.quiet h.2⟩
theorem q_len {bq : Nat} {most : Int} {L : List Sd.Ask} {bl : List Blk} (h : QS bq most L bl) : L.length ≤ 3 := by
  obtain ⟨es, x, c, came, rows, rfl, hr, hH, rfl⟩ := h
  match es, hH with
  | [], _ => simp [absL]
  | [_], _ => simp [absL]
  | [_, _], _ => simp [absL]
  | [_, _, _], _ => simp only [absL]; split <;> simp
  | _ :: _ :: _ :: _ :: _, h => exact absurd h (by simp [HeapOk])
/-- who waits, waits by its rank -/
def RK (p : Sd.Pol) (L : List Sd.Ask) : Prop := ∀ e ∈ L, e.rank = Sd.placeOf p e.source ∧ 1 ≤ e.source ∧ e.source ≤ 3
theorem RK.nil (p : Sd.Pol) : RK p [] := fun e h => by cases h
theorem RK.drop {p : Sd.Pol} {L : List Sd.Ask} (h : RK p L) (s : Int) : RK p (Sd.Q.drop L s) := fun e he => h e ((List.mem_filter.1 he).1)
theorem mem_insert {L : List Sd.Ask} {a e : Sd.Ask} (h : e ∈ Sd.Q.insert L a) : e ∈ L ∨ e = a := by
  unfold Sd.Q.insert at h
  rcases List.mem_append.1 h with h | h
  · exact .inl ((List.takeWhile_sublist _).subset h)
  · rcases List.mem_cons.1 h with h | h
    · exact .inr h
    · exact .inl ((List.dropWhile_sublist _).subset h)
theorem RK.push {p : Sd.Pol} {L : List Sd.Ask} (h : RK p L) (m : Int) (a : Sd.Ask) (ha : a.rank = Sd.placeOf p a.source) (hs : 1 ≤ a.source ∧ a.source ≤ 3) : RK p (Sd.Q.push m L a).1 := fun e he => by
  unfold Sd.Q.push at he
  split at he
  · exact h e he
  · split at he
    · exact h e he
    · rcases mem_insert he with h1 | rfl
      · exact h e h1
      · exact ⟨ha, hs⟩
theorem place_ge (p : Sd.Pol) (s : Int) : -1 ≤ Sd.placeOf p s ∧ Sd.placeOf p s ≤ 4 := by
  unfold Sd.placeOf; (repeat' split) <;> omega
theorem place_one {p : Sd.Pol} (h : Sd.PolOK p) {s t : Int} (hs : 1 ≤ s ∧ s ≤ 3) (e : Sd.placeOf p s = Sd.placeOf p t) : s = t := by
  have es : s = 1 ∨ s = 2 ∨ s = 3 := by omega
  have h0 := h.o0; have h4 := h.o4
  rcases es with rfl | rfl | rfl <;> rcases h.perm with ⟨a, b, c⟩ | ⟨a, b, c⟩ | ⟨a, b, c⟩ | ⟨a, b, c⟩ | ⟨a, b, c⟩ | ⟨a, b, c⟩ <;> (simp [Sd.placeOf, a, b, c, h0, h4] at e; (repeat' split at e) <;> omega)
theorem RK.hr {p : Sd.Pol} {L : List Sd.Ask} (h : RK p L) (hp : Sd.PolOK p) (f : Int) : ∀ e ∈ L, e.source = f ∨ ¬ e.rank = Sd.placeOf p f := fun e he => by
  obtain ⟨h1, h2⟩ := h e he
  by_cases hx : e.rank = Sd.placeOf p f
  · exact .inl (place_one hp h2 (by rw [← h1, hx]))
  · exact .inr hx
theorem drop_mem {L : List Sd.Ask} {s : Int} {e : Sd.Ask} (h : e ∈ Sd.Q.drop L s) : e ∈ L := (List.mem_filter.1 h).1
theorem RK.first {p : Sd.Pol} {t : Sd.Tok} {L : List Sd.Ask} (h : RK p L) : RK p (Sd.toFirst t L).2.2 := by
  unfold Sd.toFirst; split
  · exact h
  · split
    · exact h
    · exact h.drop _
theorem RK.release {p : Sd.Pol} {t : Sd.Tok} {L : List Sd.Ask} {f : Int} (h : RK p L) : RK p (Sd.releaseTok t L f).2.2 := by
  unfold Sd.releaseTok; split
  · exact h
  · split
    · exact h
    · exact h.first
theorem RK.lose {p : Sd.Pol} {t : Sd.Tok} {L : List Sd.Ask} {b : Bool} (h : RK p L) : RK p (Sd.loseTok p t L b).2.2 := by
  unfold Sd.loseTok; dsimp only; (repeat' split) <;> first | exact h | exact h.first
theorem RK.ask {p : Sd.Pol} {t : Sd.Tok} {m : Int} {L : List Sd.Ask} {f : Int} {b : Bool} (h : RK p L) (hf : 1 ≤ f ∧ f ≤ 3) : RK p (Sd.askTok p t m L f b).2.2.2 := by
  unfold Sd.askTok
  (repeat' split) <;> first | exact h | exact h.drop _ | exact h.push _ _ rfl hf

set_option maxRecDepth 100000 in
set_option maxHeartbeats 4000000 in
theorem newq_ (m : Int) (hm : 1 ≤ m ∧ m ≤ 64) (w : World) {ms : List Nat} {w0 : World} {bs : List Blk} (S0 : St ms w0 bs w) :
    Gives Try.prog 10 #[.int .i64 m] w fun v w1 => ∃ b bl, v = .tuple #[.pointer (some ⟨b, 0, none⟩), .int .i64 0] ∧ QS b m [] bl ∧ St ms w0 (bl ++ bs) w1 := by
 refine enter_ Try.func10 rfl ?_
 refine seq_ (reg_ ?_)
 refine pure_ (.pointer none) ?_
 refine pure_ (.int .i64 0) ?_
 refine nil_ (then_n (seq_ (seq_ (reg_ ?_))))
 refine pure_ (.int .i64 m) ?_
 refine pureE_ (.bool (decide (m < 1))) (.bool false) (congrArg Value.bool (ltF (by omega))) ?_
 refine pure_ (.bool false) ?_
 refine pure_ (.int .i64 m) ?_
 refine pureE_ (.bool (decide (64 < m))) (.bool false) (congrArg Value.bool (ltF (by omega))) ?_
 refine pure_ (.bool false) ?_
 refine nil_ (then_n (cond_F ?_))
 refine wp_skip (then_n (seq_ (reg_ ?_)))
 refine pure_ (.int .i64 m) ?_
 refine pure_ (.agg #[.slice none 0 0, .int .i64 m, .int .u64 0]) ?_
 refine new_ S0 (fun b => .pointer (some ⟨b, 0, none⟩)) (.cells #[.slice none 0 0, .int .i64 m, .int .u64 0] 71) ?_
 intro zb1 zw2 zS3
 refine assign_ ?_
 refine pure_ (.int .i64 0) ?_
 refine nil_ (then_n (wp_ret ?_))
 refine ret_ rfl (res_ [.tmp 2, .tmp 3] [.pointer (some ⟨zb1, 0, none⟩), .int .i64 0] (.tuple #[.pointer (some ⟨zb1, 0, none⟩), .int .i64 0]) ⟨res_tmp, res_tmp, trivial⟩) ?_
 exact ⟨zb1, [⟨zb1, true, .cells #[.slice none 0 0, .int .i64 m, .int .u64 0] 71 (0, 0)⟩], rfl, ⟨[], none, 0, 0, [], rfl, rowv_nil _ _, trivial, rfl⟩, zS3.re (R := bs) [[⟨zb1, true, .cells #[.slice none 0 0, .int .i64 m, .int .u64 0] 71 (0, 0)⟩]] [0]⟩

def bitB (b : Int) (s : Nat) : Bool := ((Int.fdiv b (2 ^ s)) % 2 == 1)
def pw (p : Sd.Pol) (b : Int) (s : Nat) (L : List Sd.Ask) : List Sd.Ask := bif bitB b s then (Sd.Q.push 3 L ⟨(s : Int), Sd.placeOf p s, ⟨0, 9⟩⟩).1 else L
/-- who waits, by the bits -/
def waitsL (p : Sd.Pol) (b : Int) : List Sd.Ask := pw p b 3 (pw p b 2 (pw p b 1 []))
def bs1 (p : Sd.Pol) (b but : Int) (s : Nat) (t o : Int) : Int := bif (bitB b s && (t != but && (o == 0 || Sd.higher p t o))) then t else o
def bestP (p : Sd.Pol) (b but : Int) : Int := bs1 p b but 3 3 (bs1 p b but 2 2 (bs1 p b but 1 1 0))
theorem RK.pw {p : Sd.Pol} {b : Int} {s : Nat} {L : List Sd.Ask} (h : RK p L) (hs : 1 ≤ s ∧ s ≤ 3) : RK p (pw p b s L) := by
  unfold Proofs.Ytmfhgekknjghoaa.pw
  cases bitB b s
  · exact h
  · exact h.push _ _ rfl ⟨by simp; omega, by simp; omega⟩
theorem RK.waits (p : Sd.Pol) (b : Int) : RK p (waitsL p b) := ((RK.nil p).pw ⟨by decide, by decide⟩ |>.pw ⟨by decide, by decide⟩).pw ⟨by decide, by decide⟩

set_option maxRecDepth 100000 in
set_option maxHeartbeats 4000000 in
theorem rank13_ (p : Sd.Pol) (ka : Nat → Option Addr) (kn kc : Nat → Nat) (s : Int) (w : World) :
    Gives Try.prog 31 #[.agg (polP p ka kn kc), .int .i64 s] w fun v w1 => v = .int .i64 (Sd.placeOf p s) ∧ Ch [] w w1 := by
 have S0 := St.nil [] w
 refine enter_ Try.func31 rfl ?_
 refine seq_ (reg_ ?_)
 refine new_ S0 (fun b => .pointer (some ⟨b, 0, none⟩)) (.cells (polP p ka kn kc) 48) ?_
 intro zb1 zw2 zS3
 refine pure_ (.int .i64 0) ?_
 refine nil_ (then_n (seq_ (seq_ (reg_ ?_))))
 refine pure_ (.int .i64 0) ?_
 refine nil_ (then_n (wp_block (loop_ 24 (seq_ (seq_ (reg_ ?_))))))
 refine pure_ (.int .i64 0) ?_
 refine pure_ (.bool true) ?_
 refine nil_ (then_n (cond_T ?_))
 refine wp_skip (then_n (seq_ (wp_block (seq_ (reg_ ?_)))))
 refine pure_ (.int .i64 0) ?_
 refine pure_ (.pointer (some ⟨zb1, 0, none⟩)) ?_
 refine pure_ (.pointer (some ⟨zb1, 0, none⟩)) ?_
 refine load1_ zS3 0 (.int .i64 (p.i 0)) zb1 0 ?_
 refine pure_ (.int .i64 s) ?_
 refine pure_ (.bool ((p.i 0) == s)) ?_
 refine nil_ (then_n ?_)
 refine cond_S ((p.i 0) == s) ?_ ?_
 · intro zh4
   have zh5 := eqT' zh4
   refine seq_ (reg_ ?_)
   refine pure_ (.int .i64 0) ?_
   refine pure_ (.int .i64 0) ?_
   refine nil_ (then_n (wp_ret (blk_r (then_r (then_r (blk_r (then_r ?_)))))))
   refine ret_ rfl (res_ [.tmp 4] [.int .i64 0] (.int .i64 0) ⟨res_tmp, trivial⟩) ?_
   exact ⟨congrArg _ (by unfold Sd.placeOf; (repeat' split) <;> first | rfl | omega), zS3.ch⟩
 intro zh6
 have zh7 := eqF' zh6
 refine wp_skip (blk_n (then_n (reg_ ?_)))
 refine pure_ (.int .i64 0) ?_
 refine pure_ (.int .i64 1) ?_
 refine pure_ (.int .i64 1) ?_
 refine nil_ (again_ (seq_ (seq_ (reg_ ?_))))
 refine pure_ (.int .i64 1) ?_
 refine pure_ (.bool true) ?_
 refine nil_ (then_n (cond_T ?_))
 refine wp_skip (then_n (seq_ (wp_block (seq_ (reg_ ?_)))))
 refine pure_ (.int .i64 1) ?_
 refine pure_ (.pointer (some ⟨zb1, 0, none⟩)) ?_
 refine pure_ (.pointer (some ⟨zb1, 1, none⟩)) ?_
 refine load1_ zS3 0 (.int .i64 (p.i 1)) zb1 1 ?_
 refine pure_ (.int .i64 s) ?_
 refine pure_ (.bool ((p.i 1) == s)) ?_
 refine nil_ (then_n ?_)
 refine cond_S ((p.i 1) == s) ?_ ?_
 · intro zh8
   have zh9 := eqT' zh8
   refine seq_ (reg_ ?_)
   refine pure_ (.int .i64 1) ?_
   refine pure_ (.int .i64 1) ?_
   refine nil_ (then_n (wp_ret (blk_r (then_r (then_r (blk_r (then_r ?_)))))))
   refine ret_ rfl (res_ [.tmp 4] [.int .i64 1] (.int .i64 1) ⟨res_tmp, trivial⟩) ?_
   exact ⟨congrArg _ (by unfold Sd.placeOf; (repeat' split) <;> first | rfl | omega), zS3.ch⟩
 intro zh10
 have zh11 := eqF' zh10
 refine wp_skip (blk_n (then_n (reg_ ?_)))
 refine pure_ (.int .i64 1) ?_
 refine pure_ (.int .i64 2) ?_
 refine pure_ (.int .i64 2) ?_
 refine nil_ (again_ (seq_ (seq_ (reg_ ?_))))
 refine pure_ (.int .i64 2) ?_
 refine pure_ (.bool true) ?_
 refine nil_ (then_n (cond_T ?_))
 refine wp_skip (then_n (seq_ (wp_block (seq_ (reg_ ?_)))))
 refine pure_ (.int .i64 2) ?_
 refine pure_ (.pointer (some ⟨zb1, 0, none⟩)) ?_
 refine pure_ (.pointer (some ⟨zb1, 2, none⟩)) ?_
 refine load1_ zS3 0 (.int .i64 (p.i 2)) zb1 2 ?_
 refine pure_ (.int .i64 s) ?_
 refine pure_ (.bool ((p.i 2) == s)) ?_
 refine nil_ (then_n ?_)
 refine cond_S ((p.i 2) == s) ?_ ?_
 · intro zh12
   have zh13 := eqT' zh12
   refine seq_ (reg_ ?_)
   refine pure_ (.int .i64 2) ?_
   refine pure_ (.int .i64 2) ?_
   refine nil_ (then_n (wp_ret (blk_r (then_r (then_r (blk_r (then_r ?_)))))))
   refine ret_ rfl (res_ [.tmp 4] [.int .i64 2] (.int .i64 2) ⟨res_tmp, trivial⟩) ?_
   exact ⟨congrArg _ (by unfold Sd.placeOf; (repeat' split) <;> first | rfl | omega), zS3.ch⟩
 intro zh14
 have zh15 := eqF' zh14
 refine wp_skip (blk_n (then_n (reg_ ?_)))
 refine pure_ (.int .i64 2) ?_
 refine pure_ (.int .i64 3) ?_
 refine pure_ (.int .i64 3) ?_
 refine nil_ (again_ (seq_ (seq_ (reg_ ?_))))
 refine pure_ (.int .i64 3) ?_
 refine pure_ (.bool true) ?_
 refine nil_ (then_n (cond_T ?_))
 refine wp_skip (then_n (seq_ (wp_block (seq_ (reg_ ?_)))))
 refine pure_ (.int .i64 3) ?_
 refine pure_ (.pointer (some ⟨zb1, 0, none⟩)) ?_
 refine pure_ (.pointer (some ⟨zb1, 3, none⟩)) ?_
 refine load1_ zS3 0 (.int .i64 (p.i 3)) zb1 3 ?_
 refine pure_ (.int .i64 s) ?_
 refine pure_ (.bool ((p.i 3) == s)) ?_
 refine nil_ (then_n ?_)
 refine cond_S ((p.i 3) == s) ?_ ?_
 · intro zh16
   have zh17 := eqT' zh16
   refine seq_ (reg_ ?_)
   refine pure_ (.int .i64 3) ?_
   refine pure_ (.int .i64 3) ?_
   refine nil_ (then_n (wp_ret (blk_r (then_r (then_r (blk_r (then_r ?_)))))))
   refine ret_ rfl (res_ [.tmp 4] [.int .i64 3] (.int .i64 3) ⟨res_tmp, trivial⟩) ?_
   exact ⟨congrArg _ (by unfold Sd.placeOf; (repeat' split) <;> first | rfl | omega), zS3.ch⟩
 intro zh18
 have zh19 := eqF' zh18
 refine wp_skip (blk_n (then_n (reg_ ?_)))
 refine pure_ (.int .i64 3) ?_
 refine pure_ (.int .i64 4) ?_
 refine pure_ (.int .i64 4) ?_
 refine nil_ (again_ (seq_ (seq_ (reg_ ?_))))
 refine pure_ (.int .i64 4) ?_
 refine pure_ (.bool true) ?_
 refine nil_ (then_n (cond_T ?_))
 refine wp_skip (then_n (seq_ (wp_block (seq_ (reg_ ?_)))))
 refine pure_ (.int .i64 4) ?_
 refine pure_ (.pointer (some ⟨zb1, 0, none⟩)) ?_
 refine pure_ (.pointer (some ⟨zb1, 4, none⟩)) ?_
 refine load1_ zS3 0 (.int .i64 (p.i 4)) zb1 4 ?_
 refine pure_ (.int .i64 s) ?_
 refine pure_ (.bool ((p.i 4) == s)) ?_
 refine nil_ (then_n ?_)
 refine cond_S ((p.i 4) == s) ?_ ?_
 · intro zh20
   have zh21 := eqT' zh20
   refine seq_ (reg_ ?_)
   refine pure_ (.int .i64 4) ?_
   refine pure_ (.int .i64 4) ?_
   refine nil_ (then_n (wp_ret (blk_r (then_r (then_r (blk_r (then_r ?_)))))))
   refine ret_ rfl (res_ [.tmp 4] [.int .i64 4] (.int .i64 4) ⟨res_tmp, trivial⟩) ?_
   exact ⟨congrArg _ (by unfold Sd.placeOf; (repeat' split) <;> first | rfl | omega), zS3.ch⟩
 intro zh22
 have zh23 := eqF' zh22
 refine wp_skip (blk_n (then_n (reg_ ?_)))
 refine pure_ (.int .i64 4) ?_
 refine pure_ (.int .i64 5) ?_
 refine pure_ (.int .i64 5) ?_
 refine nil_ (again_ (seq_ (seq_ (reg_ ?_))))
 refine pure_ (.int .i64 5) ?_
 refine pure_ (.bool false) ?_
 refine nil_ (then_n (cond_F ?_))
 refine wp_exit (then_e (then_e (blk_e (then_n (seq_ (reg_ ?_))))))
 refine pure_ (.int .i64 (-1)) ?_
 refine nil_ (then_n (wp_ret ?_))
 refine ret_ rfl (res_ [.tmp 4] [.int .i64 (-1)] (.int .i64 (-1)) ⟨res_tmp, trivial⟩) ?_
 exact ⟨congrArg _ (by unfold Sd.placeOf; (repeat' split) <;> first | rfl | omega), zS3.ch⟩

set_option maxRecDepth 100000 in
set_option maxHeartbeats 4000000 in
theorem higher13_ (p : Sd.Pol) (ka : Nat → Option Addr) (kn kc : Nat → Nat) (a : Int) (b : Int) (w : World) :
    Gives Try.prog 33 #[.agg (polP p ka kn kc), .int .i64 a, .int .i64 b] w fun v w1 => v = .bool (Sd.higher p a b) ∧ Ch [] w w1 := by
 have S0 := St.nil [] w
 refine enter_ Try.func33 rfl ?_
 refine seq_ (reg_ ?_)
 refine new_ S0 (fun b => .pointer (some ⟨b, 0, none⟩)) (.cells (polP p ka kn kc) 48) ?_
 intro zb1 zw2 zS3
 refine pure_ (.bool false) ?_
 refine nil_ (then_n (seq_ (reg_ ?_)))
 refine loadN_ zS3 0 56 (polP p ka kn kc) zb1 0 ?_
 refine pure_ (.int .i64 a) ?_
 refine call_ 31 #[.agg (polP p ka kn kc), .int .i64 a] ?_
 refine (rank13_ p ka kn kc a _ ).mono ?_; rintro _ zw4 ⟨rfl, zh5⟩
 have zS6 := zS3.quiet zh5
 refine assign_ ?_
 refine nil_ (then_n (seq_ (reg_ ?_)))
 refine loadN_ zS6 0 56 (polP p ka kn kc) zb1 0 ?_
 refine pure_ (.int .i64 b) ?_
 refine call_ 31 #[.agg (polP p ka kn kc), .int .i64 b] ?_
 refine (rank13_ p ka kn kc b _ ).mono ?_; rintro _ zw7 ⟨rfl, zh8⟩
 have zS9 := zS6.quiet zh8
 refine assign_ ?_
 refine nil_ (then_n (seq_ (reg_ ?_)))
 refine move_ ?_
 refine pure_ (.bool (decide (0 ≤ (Sd.placeOf p a)))) ?_
 refine move_ ?_
 refine slot_ 17 (decide (0 ≤ (Sd.placeOf p a))) ?_ ?_
 · intro zh10
   have zh11 := leT' zh10
   refine move_ ?_
   refine pure_ (.bool (decide (0 ≤ (Sd.placeOf p b)))) ?_
   refine pure_ (.bool (decide (0 ≤ (Sd.placeOf p b)))) ?_
   refine move_ ?_
   refine slot_ 21 (decide (0 ≤ (Sd.placeOf p b))) ?_ ?_
   · intro zh12
     have zh13 := leT' zh12
     refine move_ ?_
     refine move_ ?_
     refine pure_ (.bool (decide ((Sd.placeOf p a) < (Sd.placeOf p b)))) ?_
     refine pure_ (.bool (decide ((Sd.placeOf p a) < (Sd.placeOf p b)))) ?_
     refine assign_ ?_
     refine nil_ (then_n (wp_ret ?_))
     refine ret_ rfl (res_ [.tmp 6] [.bool (decide ((Sd.placeOf p a) < (Sd.placeOf p b)))] (.bool (decide ((Sd.placeOf p a) < (Sd.placeOf p b)))) ⟨res_tmp, trivial⟩) ?_
     exact ⟨congrArg Value.bool (by have za := place_ge p a; have zb := place_ge p b; simp [Sd.higher, zh10, zh12]; omega), zS9.ch⟩
   intro zh14
   have zh15 := leF' zh14
   refine skip_ ?_
   refine skip_ ?_
   refine skip_ ?_
   refine pure_ (.bool false) ?_
   refine pure_ (.bool false) ?_
   refine nil_ (then_n (wp_ret ?_))
   refine ret_ rfl (res_ [.tmp 6] [.bool false] (.bool false) ⟨res_tmp, trivial⟩) ?_
   exact ⟨congrArg Value.bool (by have za := place_ge p a; have zb := place_ge p b; simp [Sd.higher, zh10, zh14]; omega), zS9.ch⟩
 intro zh16
 have zh17 := leF' zh16
 refine skip_ ?_
 refine skip_ ?_
 refine pure_ (.bool false) ?_
 refine pure_ (.bool false) ?_
 refine skip_ ?_
 refine skip_ ?_
 refine skip_ ?_
 refine pure_ (.bool false) ?_
 refine pure_ (.bool false) ?_
 refine nil_ (then_n (wp_ret ?_))
 refine ret_ rfl (res_ [.tmp 6] [.bool false] (.bool false) ⟨res_tmp, trivial⟩) ?_
 exact ⟨congrArg Value.bool (by have za := place_ge p a; have zb := place_ge p b; simp [Sd.higher, zh16]; omega), zS9.ch⟩

set_option maxRecDepth 100000 in
set_option maxHeartbeats 4000000 in
theorem waits_ (p : Sd.Pol) (ka : Nat → Option Addr) (kn kc : Nat → Nat) (b : Int) (hp : Sd.PolOK p) (w : World) {ms : List Nat} {w0 : World} {bs : List Blk} (S0 : St ms w0 bs w) :
    Gives Try.prog 20 #[.agg (polP p ka kn kc), .int .u8 b] w fun v w1 => ∃ bq bl, v = .pointer (some ⟨bq, 0, none⟩) ∧ QS bq 3 (waitsL p b) bl ∧ St ms w0 (bl ++ bs) w1 := by
 refine enter_ Try.func20 rfl ?_
 refine seq_ (reg_ ?_)
 refine new_ S0 (fun b => .pointer (some ⟨b, 0, none⟩)) (.cells (polP p ka kn kc) 48) ?_
 intro zb1 zw2 zS3
 refine pure_ (.pointer none) ?_
 refine nil_ (then_n (seq_ (reg_ ?_)))
 refine call_ 10 #[.int .i64 3] ?_
 have zS7 : St ms w0 ([⟨zb1, true, .cells (polP p ka kn kc) 48 (0, 0)⟩] ++ bs) zw2 := zS3.re (R := bs) [[⟨zb1, true, .cells (polP p ka kn kc) 48 (0, 0)⟩]] [0]
 refine (newq_ 3 (by omega) _ zS7).mono ?_; rintro _ zw8 ⟨zb4, zq5, rfl, zh6, zS9⟩
 have zS11 : St ms w0 ([⟨zb1, true, .cells (polP p ka kn kc) 48 (0, 0)⟩] ++ (zq5 ++ bs)) zw8 := zS9.re (R := bs) [zq5, [⟨zb1, true, .cells (polP p ka kn kc) 48 (0, 0)⟩]] [1, 0]
 refine move_ ?_
 refine pure_ (.pointer (some ⟨zb4, 0, none⟩)) ?_
 refine pure_ (.int .i64 0) ?_
 refine assign_ ?_
 refine pure_ (.int .i64 0) ?_
 refine nil_ (then_n (seq_ (seq_ (reg_ ?_))))
 refine pure_ (.int .i64 1) ?_
 refine nil_ (then_n (wp_block (loop_ 24 (seq_ (seq_ (reg_ ?_))))))
 refine pure_ (.int .i64 1) ?_
 refine pure_ (.bool true) ?_
 refine pure_ (.bool true) ?_
 refine move_ ?_
 refine pure_ (.bool true) ?_
 refine pure_ (.bool true) ?_
 refine nil_ (then_n (cond_T ?_))
 refine wp_skip (then_n (seq_ (wp_block (seq_ (reg_ ?_)))))
 refine pure_ (.int .u8 b) ?_
 refine pure_ (.int .i64 1) ?_
 refine pure_ (.int .u8 (Int.fdiv b (2 ^ 1))) ?_
 refine pureE_ (.int .u8 (bits .and .u8 (Int.fdiv b (2 ^ 1)) 1)) (.int .u8 ((Int.fdiv b (2 ^ 1)) % 2)) (congrArg _ (and_mask .u8 (Int.fdiv b (2 ^ 1)) 1 2 1 (by decide) (by decide) (by decide))) ?_
 refine pure_ (.bool (((Int.fdiv b (2 ^ 1)) % 2) == 1)) ?_
 refine nil_ (then_n ?_)
 refine cond_S (((Int.fdiv b (2 ^ 1)) % 2) == 1) ?_ ?_
 · intro zh13
   have zh14 := eqT' zh13
   refine reg_ ?_
   refine move_ ?_
   refine pure_ (.int .i64 1) ?_
   refine loadN_ zS11 0 56 (polP p ka kn kc) zb1 0 ?_
   refine pure_ (.int .i64 1) ?_
   refine call_ 31 #[.agg (polP p ka kn kc), .int .i64 1] ?_
   refine (rank13_ p ka kn kc 1 _ ).mono ?_; rintro _ zw15 ⟨rfl, zh16⟩
   have zS17 := zS11.quiet zh16
   refine pure_ (.agg #[.int .i64 0, .int .i64 9]) ?_
   refine pure_ (.agg #[.int .i64 1, .int .i64 (Sd.placeOf p 1), .int .i64 0, .int .i64 9]) ?_
   refine call_ 11 #[.pointer (some ⟨zb4, 0, none⟩), .agg #[.int .i64 1, .int .i64 (Sd.placeOf p 1), .int .i64 0, .int .i64 9]] ?_
   have zS20 : St ms w0 (zq5 ++ ([⟨zb1, true, .cells (polP p ka kn kc) 48 (0, 0)⟩] ++ bs)) zw15 := zS17.re (R := bs) [[⟨zb1, true, .cells (polP p ka kn kc) 48 (0, 0)⟩], zq5] [1, 0]
   refine (q_push (⟨1, (Sd.placeOf p 1), (⟨0, 9⟩ : Sd.Timer)⟩ : Sd.Ask) zh6 (by omega) (RK.hr (RK.nil _) hp 1) zS20).mono ?_; rintro _ zw21 ⟨zq18, rfl, zh19, zS22⟩
   have zS24 : St ms w0 ([⟨zb1, true, .cells (polP p ka kn kc) 48 (0, 0)⟩] ++ (zq18 ++ bs)) zw21 := zS22.re (R := bs) [zq18, [⟨zb1, true, .cells (polP p ka kn kc) 48 (0, 0)⟩]] [1, 0]
   refine nil_ (blk_n (then_n (reg_ ?_)))
   refine pure_ (.int .i64 1) ?_
   refine pure_ (.int .i64 2) ?_
   refine pure_ (.int .i64 2) ?_
   refine nil_ (again_ (seq_ (seq_ (reg_ ?_))))
   refine pure_ (.int .i64 2) ?_
   refine pure_ (.bool true) ?_
   refine pure_ (.bool true) ?_
   refine move_ ?_
   refine pure_ (.bool true) ?_
   refine pure_ (.bool true) ?_
   refine nil_ (then_n (cond_T ?_))
   refine wp_skip (then_n (seq_ (wp_block (seq_ (reg_ ?_)))))
   refine pure_ (.int .u8 b) ?_
   refine pure_ (.int .i64 2) ?_
   refine pure_ (.int .u8 (Int.fdiv b (2 ^ 2))) ?_
   refine pureE_ (.int .u8 (bits .and .u8 (Int.fdiv b (2 ^ 2)) 1)) (.int .u8 ((Int.fdiv b (2 ^ 2)) % 2)) (congrArg _ (and_mask .u8 (Int.fdiv b (2 ^ 2)) 1 2 1 (by decide) (by decide) (by decide))) ?_
   refine pure_ (.bool (((Int.fdiv b (2 ^ 2)) % 2) == 1)) ?_
   refine nil_ (then_n ?_)
   refine cond_S (((Int.fdiv b (2 ^ 2)) % 2) == 1) ?_ ?_
   · intro zh26
     have zh27 := eqT' zh26
     refine reg_ ?_
     refine move_ ?_
     refine pure_ (.int .i64 2) ?_
     refine loadN_ zS24 0 56 (polP p ka kn kc) zb1 0 ?_
     refine pure_ (.int .i64 2) ?_
     refine call_ 31 #[.agg (polP p ka kn kc), .int .i64 2] ?_
     refine (rank13_ p ka kn kc 2 _ ).mono ?_; rintro _ zw28 ⟨rfl, zh29⟩
     have zS30 := zS24.quiet zh29
     refine pure_ (.agg #[.int .i64 0, .int .i64 9]) ?_
     refine pure_ (.agg #[.int .i64 2, .int .i64 (Sd.placeOf p 2), .int .i64 0, .int .i64 9]) ?_
     refine call_ 11 #[.pointer (some ⟨zb4, 0, none⟩), .agg #[.int .i64 2, .int .i64 (Sd.placeOf p 2), .int .i64 0, .int .i64 9]] ?_
     have zS33 : St ms w0 (zq18 ++ ([⟨zb1, true, .cells (polP p ka kn kc) 48 (0, 0)⟩] ++ bs)) zw28 := zS30.re (R := bs) [[⟨zb1, true, .cells (polP p ka kn kc) 48 (0, 0)⟩], zq18] [1, 0]
     refine (q_push (⟨2, (Sd.placeOf p 2), (⟨0, 9⟩ : Sd.Timer)⟩ : Sd.Ask) zh19 (by omega) (RK.hr (RK.push (RK.nil _) _ _ rfl (by dsimp only; omega)) hp 2) zS33).mono ?_; rintro _ zw34 ⟨zq31, rfl, zh32, zS35⟩
     have zS37 : St ms w0 ([⟨zb1, true, .cells (polP p ka kn kc) 48 (0, 0)⟩] ++ (zq31 ++ bs)) zw34 := zS35.re (R := bs) [zq31, [⟨zb1, true, .cells (polP p ka kn kc) 48 (0, 0)⟩]] [1, 0]
     refine nil_ (blk_n (then_n (reg_ ?_)))
     refine pure_ (.int .i64 2) ?_
     refine pure_ (.int .i64 3) ?_
     refine pure_ (.int .i64 3) ?_
     refine nil_ (again_ (seq_ (seq_ (reg_ ?_))))
     refine pure_ (.int .i64 3) ?_
     refine pure_ (.bool true) ?_
     refine pure_ (.bool true) ?_
     refine move_ ?_
     refine pure_ (.bool true) ?_
     refine pure_ (.bool true) ?_
     refine nil_ (then_n (cond_T ?_))
     refine wp_skip (then_n (seq_ (wp_block (seq_ (reg_ ?_)))))
     refine pure_ (.int .u8 b) ?_
     refine pure_ (.int .i64 3) ?_
     refine pure_ (.int .u8 (Int.fdiv b (2 ^ 3))) ?_
     refine pureE_ (.int .u8 (bits .and .u8 (Int.fdiv b (2 ^ 3)) 1)) (.int .u8 ((Int.fdiv b (2 ^ 3)) % 2)) (congrArg _ (and_mask .u8 (Int.fdiv b (2 ^ 3)) 1 2 1 (by decide) (by decide) (by decide))) ?_
     refine pure_ (.bool (((Int.fdiv b (2 ^ 3)) % 2) == 1)) ?_
     refine nil_ (then_n ?_)
     refine cond_S (((Int.fdiv b (2 ^ 3)) % 2) == 1) ?_ ?_
     · intro zh39
       have zh40 := eqT' zh39
       refine reg_ ?_
       refine move_ ?_
       refine pure_ (.int .i64 3) ?_
       refine loadN_ zS37 0 56 (polP p ka kn kc) zb1 0 ?_
       refine pure_ (.int .i64 3) ?_
       refine call_ 31 #[.agg (polP p ka kn kc), .int .i64 3] ?_
       refine (rank13_ p ka kn kc 3 _ ).mono ?_; rintro _ zw41 ⟨rfl, zh42⟩
       have zS43 := zS37.quiet zh42
       refine pure_ (.agg #[.int .i64 0, .int .i64 9]) ?_
       refine pure_ (.agg #[.int .i64 3, .int .i64 (Sd.placeOf p 3), .int .i64 0, .int .i64 9]) ?_
       refine call_ 11 #[.pointer (some ⟨zb4, 0, none⟩), .agg #[.int .i64 3, .int .i64 (Sd.placeOf p 3), .int .i64 0, .int .i64 9]] ?_
       have zS46 : St ms w0 (zq31 ++ ([⟨zb1, true, .cells (polP p ka kn kc) 48 (0, 0)⟩] ++ bs)) zw41 := zS43.re (R := bs) [[⟨zb1, true, .cells (polP p ka kn kc) 48 (0, 0)⟩], zq31] [1, 0]
       refine (q_push (⟨3, (Sd.placeOf p 3), (⟨0, 9⟩ : Sd.Timer)⟩ : Sd.Ask) zh32 (by omega) (RK.hr (RK.push (RK.push (RK.nil _) _ _ rfl (by dsimp only; omega)) _ _ rfl (by dsimp only; omega)) hp 3) zS46).mono ?_; rintro _ zw47 ⟨zq44, rfl, zh45, zS48⟩
       have zS50 : St ms w0 ([⟨zb1, true, .cells (polP p ka kn kc) 48 (0, 0)⟩] ++ (zq44 ++ bs)) zw47 := zS48.re (R := bs) [zq44, [⟨zb1, true, .cells (polP p ka kn kc) 48 (0, 0)⟩]] [1, 0]
       refine nil_ (blk_n (then_n (reg_ ?_)))
       refine pure_ (.int .i64 3) ?_
       refine pure_ (.int .i64 4) ?_
       refine pure_ (.int .i64 4) ?_
       refine nil_ (again_ (seq_ (seq_ (reg_ ?_))))
       refine pure_ (.int .i64 4) ?_
       refine pure_ (.bool false) ?_
       refine pure_ (.bool false) ?_
       refine skip_ ?_
       refine skip_ ?_
       refine pure_ (.bool false) ?_
       refine nil_ (then_n (cond_F ?_))
       refine wp_exit (then_e (then_e (blk_e (then_n (seq_ (reg_ ?_))))))
       refine move_ ?_
       refine assign_ ?_
       refine nil_ (then_n (wp_ret ?_))
       refine ret_ rfl (res_ [.tmp 4] [.pointer (some ⟨zb4, 0, none⟩)] (.pointer (some ⟨zb4, 0, none⟩)) ⟨res_tmp, trivial⟩) ?_
       have ze : waitsL p b = (Sd.Q.push 3 ((Sd.Q.push 3 ((Sd.Q.push 3 ([]) (⟨1, (Sd.placeOf p 1), (⟨0, 9⟩ : Sd.Timer)⟩ : Sd.Ask)).1) (⟨2, (Sd.placeOf p 2), (⟨0, 9⟩ : Sd.Timer)⟩ : Sd.Ask)).1) (⟨3, (Sd.placeOf p 3), (⟨0, 9⟩ : Sd.Timer)⟩ : Sd.Ask)).1 := by unfold waitsL pw bitB; simp only [zh13, zh26, zh39, cond_true, cond_false]; try rfl
       exact ⟨zb4, zq44, rfl, by rw [ze]; exact zh45, zS50.re (R := bs) [[⟨zb1, true, .cells (polP p ka kn kc) 48 (0, 0)⟩], zq44] [1]⟩
     intro zh51
     have zh52 := eqF' zh51
     refine wp_skip (blk_n (then_n (reg_ ?_)))
     refine pure_ (.int .i64 3) ?_
     refine pure_ (.int .i64 4) ?_
     refine pure_ (.int .i64 4) ?_
     refine nil_ (again_ (seq_ (seq_ (reg_ ?_))))
     refine pure_ (.int .i64 4) ?_
     refine pure_ (.bool false) ?_
     refine pure_ (.bool false) ?_
     refine skip_ ?_
     refine skip_ ?_
     refine pure_ (.bool false) ?_
     refine nil_ (then_n (cond_F ?_))
     refine wp_exit (then_e (then_e (blk_e (then_n (seq_ (reg_ ?_))))))
     refine move_ ?_
     refine assign_ ?_
     refine nil_ (then_n (wp_ret ?_))
     refine ret_ rfl (res_ [.tmp 4] [.pointer (some ⟨zb4, 0, none⟩)] (.pointer (some ⟨zb4, 0, none⟩)) ⟨res_tmp, trivial⟩) ?_
     have ze : waitsL p b = (Sd.Q.push 3 ((Sd.Q.push 3 ([]) (⟨1, (Sd.placeOf p 1), (⟨0, 9⟩ : Sd.Timer)⟩ : Sd.Ask)).1) (⟨2, (Sd.placeOf p 2), (⟨0, 9⟩ : Sd.Timer)⟩ : Sd.Ask)).1 := by unfold waitsL pw bitB; simp only [zh13, zh26, zh51, cond_true, cond_false]; try rfl
     exact ⟨zb4, zq31, rfl, by rw [ze]; exact zh32, zS37.re (R := bs) [[⟨zb1, true, .cells (polP p ka kn kc) 48 (0, 0)⟩], zq31] [1]⟩
   intro zh53
   have zh54 := eqF' zh53
   refine wp_skip (blk_n (then_n (reg_ ?_)))
   refine pure_ (.int .i64 2) ?_
   refine pure_ (.int .i64 3) ?_
   refine pure_ (.int .i64 3) ?_
   refine nil_ (again_ (seq_ (seq_ (reg_ ?_))))
   refine pure_ (.int .i64 3) ?_
   refine pure_ (.bool true) ?_
   refine pure_ (.bool true) ?_
   refine move_ ?_
   refine pure_ (.bool true) ?_
   refine pure_ (.bool true) ?_
   refine nil_ (then_n (cond_T ?_))
   refine wp_skip (then_n (seq_ (wp_block (seq_ (reg_ ?_)))))
   refine pure_ (.int .u8 b) ?_
   refine pure_ (.int .i64 3) ?_
   refine pure_ (.int .u8 (Int.fdiv b (2 ^ 3))) ?_
   refine pureE_ (.int .u8 (bits .and .u8 (Int.fdiv b (2 ^ 3)) 1)) (.int .u8 ((Int.fdiv b (2 ^ 3)) % 2)) (congrArg _ (and_mask .u8 (Int.fdiv b (2 ^ 3)) 1 2 1 (by decide) (by decide) (by decide))) ?_
   refine pure_ (.bool (((Int.fdiv b (2 ^ 3)) % 2) == 1)) ?_
   refine nil_ (then_n ?_)
   refine cond_S (((Int.fdiv b (2 ^ 3)) % 2) == 1) ?_ ?_
   · intro zh56
     have zh57 := eqT' zh56
     refine reg_ ?_
     refine move_ ?_
     refine pure_ (.int .i64 3) ?_
     refine loadN_ zS24 0 56 (polP p ka kn kc) zb1 0 ?_
     refine pure_ (.int .i64 3) ?_
     refine call_ 31 #[.agg (polP p ka kn kc), .int .i64 3] ?_
     refine (rank13_ p ka kn kc 3 _ ).mono ?_; rintro _ zw58 ⟨rfl, zh59⟩
     have zS60 := zS24.quiet zh59
     refine pure_ (.agg #[.int .i64 0, .int .i64 9]) ?_
     refine pure_ (.agg #[.int .i64 3, .int .i64 (Sd.placeOf p 3), .int .i64 0, .int .i64 9]) ?_
     refine call_ 11 #[.pointer (some ⟨zb4, 0, none⟩), .agg #[.int .i64 3, .int .i64 (Sd.placeOf p 3), .int .i64 0, .int .i64 9]] ?_
     have zS63 : St ms w0 (zq18 ++ ([⟨zb1, true, .cells (polP p ka kn kc) 48 (0, 0)⟩] ++ bs)) zw58 := zS60.re (R := bs) [[⟨zb1, true, .cells (polP p ka kn kc) 48 (0, 0)⟩], zq18] [1, 0]
     refine (q_push (⟨3, (Sd.placeOf p 3), (⟨0, 9⟩ : Sd.Timer)⟩ : Sd.Ask) zh19 (by omega) (RK.hr (RK.push (RK.nil _) _ _ rfl (by dsimp only; omega)) hp 3) zS63).mono ?_; rintro _ zw64 ⟨zq61, rfl, zh62, zS65⟩
     have zS67 : St ms w0 ([⟨zb1, true, .cells (polP p ka kn kc) 48 (0, 0)⟩] ++ (zq61 ++ bs)) zw64 := zS65.re (R := bs) [zq61, [⟨zb1, true, .cells (polP p ka kn kc) 48 (0, 0)⟩]] [1, 0]
     refine nil_ (blk_n (then_n (reg_ ?_)))
     refine pure_ (.int .i64 3) ?_
     refine pure_ (.int .i64 4) ?_
     refine pure_ (.int .i64 4) ?_
     refine nil_ (again_ (seq_ (seq_ (reg_ ?_))))
     refine pure_ (.int .i64 4) ?_
     refine pure_ (.bool false) ?_
     refine pure_ (.bool false) ?_
     refine skip_ ?_
     refine skip_ ?_
     refine pure_ (.bool false) ?_
     refine nil_ (then_n (cond_F ?_))
     refine wp_exit (then_e (then_e (blk_e (then_n (seq_ (reg_ ?_))))))
     refine move_ ?_
     refine assign_ ?_
     refine nil_ (then_n (wp_ret ?_))
     refine ret_ rfl (res_ [.tmp 4] [.pointer (some ⟨zb4, 0, none⟩)] (.pointer (some ⟨zb4, 0, none⟩)) ⟨res_tmp, trivial⟩) ?_
     have ze : waitsL p b = (Sd.Q.push 3 ((Sd.Q.push 3 ([]) (⟨1, (Sd.placeOf p 1), (⟨0, 9⟩ : Sd.Timer)⟩ : Sd.Ask)).1) (⟨3, (Sd.placeOf p 3), (⟨0, 9⟩ : Sd.Timer)⟩ : Sd.Ask)).1 := by unfold waitsL pw bitB; simp only [zh13, zh53, zh56, cond_true, cond_false]; try rfl
     exact ⟨zb4, zq61, rfl, by rw [ze]; exact zh62, zS67.re (R := bs) [[⟨zb1, true, .cells (polP p ka kn kc) 48 (0, 0)⟩], zq61] [1]⟩
   intro zh68
   have zh69 := eqF' zh68
   refine wp_skip (blk_n (then_n (reg_ ?_)))
   refine pure_ (.int .i64 3) ?_
   refine pure_ (.int .i64 4) ?_
   refine pure_ (.int .i64 4) ?_
   refine nil_ (again_ (seq_ (seq_ (reg_ ?_))))
   refine pure_ (.int .i64 4) ?_
   refine pure_ (.bool false) ?_
   refine pure_ (.bool false) ?_
   refine skip_ ?_
   refine skip_ ?_
   refine pure_ (.bool false) ?_
   refine nil_ (then_n (cond_F ?_))
   refine wp_exit (then_e (then_e (blk_e (then_n (seq_ (reg_ ?_))))))
   refine move_ ?_
   refine assign_ ?_
   refine nil_ (then_n (wp_ret ?_))
   refine ret_ rfl (res_ [.tmp 4] [.pointer (some ⟨zb4, 0, none⟩)] (.pointer (some ⟨zb4, 0, none⟩)) ⟨res_tmp, trivial⟩) ?_
   have ze : waitsL p b = (Sd.Q.push 3 ([]) (⟨1, (Sd.placeOf p 1), (⟨0, 9⟩ : Sd.Timer)⟩ : Sd.Ask)).1 := by unfold waitsL pw bitB; simp only [zh13, zh53, zh68, cond_true, cond_false]; try rfl
   exact ⟨zb4, zq18, rfl, by rw [ze]; exact zh19, zS24.re (R := bs) [[⟨zb1, true, .cells (polP p ka kn kc) 48 (0, 0)⟩], zq18] [1]⟩
 intro zh70
 have zh71 := eqF' zh70
 refine wp_skip (blk_n (then_n (reg_ ?_)))
 refine pure_ (.int .i64 1) ?_
 refine pure_ (.int .i64 2) ?_
 refine pure_ (.int .i64 2) ?_
 refine nil_ (again_ (seq_ (seq_ (reg_ ?_))))
 refine pure_ (.int .i64 2) ?_
 refine pure_ (.bool true) ?_
 refine pure_ (.bool true) ?_
 refine move_ ?_
 refine pure_ (.bool true) ?_
 refine pure_ (.bool true) ?_
 refine nil_ (then_n (cond_T ?_))
 refine wp_skip (then_n (seq_ (wp_block (seq_ (reg_ ?_)))))
 refine pure_ (.int .u8 b) ?_
 refine pure_ (.int .i64 2) ?_
 refine pure_ (.int .u8 (Int.fdiv b (2 ^ 2))) ?_
 refine pureE_ (.int .u8 (bits .and .u8 (Int.fdiv b (2 ^ 2)) 1)) (.int .u8 ((Int.fdiv b (2 ^ 2)) % 2)) (congrArg _ (and_mask .u8 (Int.fdiv b (2 ^ 2)) 1 2 1 (by decide) (by decide) (by decide))) ?_
 refine pure_ (.bool (((Int.fdiv b (2 ^ 2)) % 2) == 1)) ?_
 refine nil_ (then_n ?_)
 refine cond_S (((Int.fdiv b (2 ^ 2)) % 2) == 1) ?_ ?_
 · intro zh73
   have zh74 := eqT' zh73
   refine reg_ ?_
   refine move_ ?_
   refine pure_ (.int .i64 2) ?_
   refine loadN_ zS11 0 56 (polP p ka kn kc) zb1 0 ?_
   refine pure_ (.int .i64 2) ?_
   refine call_ 31 #[.agg (polP p ka kn kc), .int .i64 2] ?_
   refine (rank13_ p ka kn kc 2 _ ).mono ?_; rintro _ zw75 ⟨rfl, zh76⟩
   have zS77 := zS11.quiet zh76
   refine pure_ (.agg #[.int .i64 0, .int .i64 9]) ?_
   refine pure_ (.agg #[.int .i64 2, .int .i64 (Sd.placeOf p 2), .int .i64 0, .int .i64 9]) ?_
   refine call_ 11 #[.pointer (some ⟨zb4, 0, none⟩), .agg #[.int .i64 2, .int .i64 (Sd.placeOf p 2), .int .i64 0, .int .i64 9]] ?_
   have zS80 : St ms w0 (zq5 ++ ([⟨zb1, true, .cells (polP p ka kn kc) 48 (0, 0)⟩] ++ bs)) zw75 := zS77.re (R := bs) [[⟨zb1, true, .cells (polP p ka kn kc) 48 (0, 0)⟩], zq5] [1, 0]
   refine (q_push (⟨2, (Sd.placeOf p 2), (⟨0, 9⟩ : Sd.Timer)⟩ : Sd.Ask) zh6 (by omega) (RK.hr (RK.nil _) hp 2) zS80).mono ?_; rintro _ zw81 ⟨zq78, rfl, zh79, zS82⟩
   have zS84 : St ms w0 ([⟨zb1, true, .cells (polP p ka kn kc) 48 (0, 0)⟩] ++ (zq78 ++ bs)) zw81 := zS82.re (R := bs) [zq78, [⟨zb1, true, .cells (polP p ka kn kc) 48 (0, 0)⟩]] [1, 0]
   refine nil_ (blk_n (then_n (reg_ ?_)))
   refine pure_ (.int .i64 2) ?_
   refine pure_ (.int .i64 3) ?_
   refine pure_ (.int .i64 3) ?_
   refine nil_ (again_ (seq_ (seq_ (reg_ ?_))))
   refine pure_ (.int .i64 3) ?_
   refine pure_ (.bool true) ?_
   refine pure_ (.bool true) ?_
   refine move_ ?_
   refine pure_ (.bool true) ?_
   refine pure_ (.bool true) ?_
   refine nil_ (then_n (cond_T ?_))
   refine wp_skip (then_n (seq_ (wp_block (seq_ (reg_ ?_)))))
   refine pure_ (.int .u8 b) ?_
   refine pure_ (.int .i64 3) ?_
   refine pure_ (.int .u8 (Int.fdiv b (2 ^ 3))) ?_
   refine pureE_ (.int .u8 (bits .and .u8 (Int.fdiv b (2 ^ 3)) 1)) (.int .u8 ((Int.fdiv b (2 ^ 3)) % 2)) (congrArg _ (and_mask .u8 (Int.fdiv b (2 ^ 3)) 1 2 1 (by decide) (by decide) (by decide))) ?_
   refine pure_ (.bool (((Int.fdiv b (2 ^ 3)) % 2) == 1)) ?_
   refine nil_ (then_n ?_)
   refine cond_S (((Int.fdiv b (2 ^ 3)) % 2) == 1) ?_ ?_
   · intro zh86
     have zh87 := eqT' zh86
     refine reg_ ?_
     refine move_ ?_
     refine pure_ (.int .i64 3) ?_
     refine loadN_ zS84 0 56 (polP p ka kn kc) zb1 0 ?_
     refine pure_ (.int .i64 3) ?_
     refine call_ 31 #[.agg (polP p ka kn kc), .int .i64 3] ?_
     refine (rank13_ p ka kn kc 3 _ ).mono ?_; rintro _ zw88 ⟨rfl, zh89⟩
     have zS90 := zS84.quiet zh89
     refine pure_ (.agg #[.int .i64 0, .int .i64 9]) ?_
     refine pure_ (.agg #[.int .i64 3, .int .i64 (Sd.placeOf p 3), .int .i64 0, .int .i64 9]) ?_
     refine call_ 11 #[.pointer (some ⟨zb4, 0, none⟩), .agg #[.int .i64 3, .int .i64 (Sd.placeOf p 3), .int .i64 0, .int .i64 9]] ?_
     have zS93 : St ms w0 (zq78 ++ ([⟨zb1, true, .cells (polP p ka kn kc) 48 (0, 0)⟩] ++ bs)) zw88 := zS90.re (R := bs) [[⟨zb1, true, .cells (polP p ka kn kc) 48 (0, 0)⟩], zq78] [1, 0]
     refine (q_push (⟨3, (Sd.placeOf p 3), (⟨0, 9⟩ : Sd.Timer)⟩ : Sd.Ask) zh79 (by omega) (RK.hr (RK.push (RK.nil _) _ _ rfl (by dsimp only; omega)) hp 3) zS93).mono ?_; rintro _ zw94 ⟨zq91, rfl, zh92, zS95⟩
     have zS97 : St ms w0 ([⟨zb1, true, .cells (polP p ka kn kc) 48 (0, 0)⟩] ++ (zq91 ++ bs)) zw94 := zS95.re (R := bs) [zq91, [⟨zb1, true, .cells (polP p ka kn kc) 48 (0, 0)⟩]] [1, 0]
     refine nil_ (blk_n (then_n (reg_ ?_)))
     refine pure_ (.int .i64 3) ?_
     refine pure_ (.int .i64 4) ?_
     refine pure_ (.int .i64 4) ?_
     refine nil_ (again_ (seq_ (seq_ (reg_ ?_))))
     refine pure_ (.int .i64 4) ?_
     refine pure_ (.bool false) ?_
     refine pure_ (.bool false) ?_
     refine skip_ ?_
     refine skip_ ?_
     refine pure_ (.bool false) ?_
     refine nil_ (then_n (cond_F ?_))
     refine wp_exit (then_e (then_e (blk_e (then_n (seq_ (reg_ ?_))))))
     refine move_ ?_
     refine assign_ ?_
     refine nil_ (then_n (wp_ret ?_))
     refine ret_ rfl (res_ [.tmp 4] [.pointer (some ⟨zb4, 0, none⟩)] (.pointer (some ⟨zb4, 0, none⟩)) ⟨res_tmp, trivial⟩) ?_
     have ze : waitsL p b = (Sd.Q.push 3 ((Sd.Q.push 3 ([]) (⟨2, (Sd.placeOf p 2), (⟨0, 9⟩ : Sd.Timer)⟩ : Sd.Ask)).1) (⟨3, (Sd.placeOf p 3), (⟨0, 9⟩ : Sd.Timer)⟩ : Sd.Ask)).1 := by unfold waitsL pw bitB; simp only [zh70, zh73, zh86, cond_true, cond_false]; try rfl
     exact ⟨zb4, zq91, rfl, by rw [ze]; exact zh92, zS97.re (R := bs) [[⟨zb1, true, .cells (polP p ka kn kc) 48 (0, 0)⟩], zq91] [1]⟩
   intro zh98
   have zh99 := eqF' zh98
   refine wp_skip (blk_n (then_n (reg_ ?_)))
   refine pure_ (.int .i64 3) ?_
   refine pure_ (.int .i64 4) ?_
   refine pure_ (.int .i64 4) ?_
   refine nil_ (again_ (seq_ (seq_ (reg_ ?_))))
   refine pure_ (.int .i64 4) ?_
   refine pure_ (.bool false) ?_
   refine pure_ (.bool false) ?_
   refine skip_ ?_
   refine skip_ ?_
   refine pure_ (.bool false) ?_
   refine nil_ (then_n (cond_F ?_))
   refine wp_exit (then_e (then_e (blk_e (then_n (seq_ (reg_ ?_))))))
   refine move_ ?_
   refine assign_ ?_
   refine nil_ (then_n (wp_ret ?_))
   refine ret_ rfl (res_ [.tmp 4] [.pointer (some ⟨zb4, 0, none⟩)] (.pointer (some ⟨zb4, 0, none⟩)) ⟨res_tmp, trivial⟩) ?_
   have ze : waitsL p b = (Sd.Q.push 3 ([]) (⟨2, (Sd.placeOf p 2), (⟨0, 9⟩ : Sd.Timer)⟩ : Sd.Ask)).1 := by unfold waitsL pw bitB; simp only [zh70, zh73, zh98, cond_true, cond_false]; try rfl
   exact ⟨zb4, zq78, rfl, by rw [ze]; exact zh79, zS84.re (R := bs) [[⟨zb1, true, .cells (polP p ka kn kc) 48 (0, 0)⟩], zq78] [1]⟩
 intro zh100
 have zh101 := eqF' zh100
 refine wp_skip (blk_n (then_n (reg_ ?_)))
 refine pure_ (.int .i64 2) ?_
 refine pure_ (.int .i64 3) ?_
 refine pure_ (.int .i64 3) ?_
 refine nil_ (again_ (seq_ (seq_ (reg_ ?_))))
 refine pure_ (.int .i64 3) ?_
 refine pure_ (.bool true) ?_
 refine pure_ (.bool true) ?_
 refine move_ ?_
 refine pure_ (.bool true) ?_
 refine pure_ (.bool true) ?_
 refine nil_ (then_n (cond_T ?_))
 refine wp_skip (then_n (seq_ (wp_block (seq_ (reg_ ?_)))))
 refine pure_ (.int .u8 b) ?_
 refine pure_ (.int .i64 3) ?_
 refine pure_ (.int .u8 (Int.fdiv b (2 ^ 3))) ?_
 refine pureE_ (.int .u8 (bits .and .u8 (Int.fdiv b (2 ^ 3)) 1)) (.int .u8 ((Int.fdiv b (2 ^ 3)) % 2)) (congrArg _ (and_mask .u8 (Int.fdiv b (2 ^ 3)) 1 2 1 (by decide) (by decide) (by decide))) ?_
 refine pure_ (.bool (((Int.fdiv b (2 ^ 3)) % 2) == 1)) ?_
 refine nil_ (then_n ?_)
 refine cond_S (((Int.fdiv b (2 ^ 3)) % 2) == 1) ?_ ?_
 · intro zh103
   have zh104 := eqT' zh103
   refine reg_ ?_
   refine move_ ?_
   refine pure_ (.int .i64 3) ?_
   refine loadN_ zS11 0 56 (polP p ka kn kc) zb1 0 ?_
   refine pure_ (.int .i64 3) ?_
   refine call_ 31 #[.agg (polP p ka kn kc), .int .i64 3] ?_
   refine (rank13_ p ka kn kc 3 _ ).mono ?_; rintro _ zw105 ⟨rfl, zh106⟩
   have zS107 := zS11.quiet zh106
   refine pure_ (.agg #[.int .i64 0, .int .i64 9]) ?_
   refine pure_ (.agg #[.int .i64 3, .int .i64 (Sd.placeOf p 3), .int .i64 0, .int .i64 9]) ?_
   refine call_ 11 #[.pointer (some ⟨zb4, 0, none⟩), .agg #[.int .i64 3, .int .i64 (Sd.placeOf p 3), .int .i64 0, .int .i64 9]] ?_
   have zS110 : St ms w0 (zq5 ++ ([⟨zb1, true, .cells (polP p ka kn kc) 48 (0, 0)⟩] ++ bs)) zw105 := zS107.re (R := bs) [[⟨zb1, true, .cells (polP p ka kn kc) 48 (0, 0)⟩], zq5] [1, 0]
   refine (q_push (⟨3, (Sd.placeOf p 3), (⟨0, 9⟩ : Sd.Timer)⟩ : Sd.Ask) zh6 (by omega) (RK.hr (RK.nil _) hp 3) zS110).mono ?_; rintro _ zw111 ⟨zq108, rfl, zh109, zS112⟩
   have zS114 : St ms w0 ([⟨zb1, true, .cells (polP p ka kn kc) 48 (0, 0)⟩] ++ (zq108 ++ bs)) zw111 := zS112.re (R := bs) [zq108, [⟨zb1, true, .cells (polP p ka kn kc) 48 (0, 0)⟩]] [1, 0]
   refine nil_ (blk_n (then_n (reg_ ?_)))
   refine pure_ (.int .i64 3) ?_
   refine pure_ (.int .i64 4) ?_
   refine pure_ (.int .i64 4) ?_
   refine nil_ (again_ (seq_ (seq_ (reg_ ?_))))
   refine pure_ (.int .i64 4) ?_
   refine pure_ (.bool false) ?_
   refine pure_ (.bool false) ?_
   refine skip_ ?_
   refine skip_ ?_
   refine pure_ (.bool false) ?_
   refine nil_ (then_n (cond_F ?_))
   refine wp_exit (then_e (then_e (blk_e (then_n (seq_ (reg_ ?_))))))
   refine move_ ?_
   refine assign_ ?_
   refine nil_ (then_n (wp_ret ?_))
   refine ret_ rfl (res_ [.tmp 4] [.pointer (some ⟨zb4, 0, none⟩)] (.pointer (some ⟨zb4, 0, none⟩)) ⟨res_tmp, trivial⟩) ?_
   have ze : waitsL p b = (Sd.Q.push 3 ([]) (⟨3, (Sd.placeOf p 3), (⟨0, 9⟩ : Sd.Timer)⟩ : Sd.Ask)).1 := by unfold waitsL pw bitB; simp only [zh70, zh100, zh103, cond_true, cond_false]; try rfl
   exact ⟨zb4, zq108, rfl, by rw [ze]; exact zh109, zS114.re (R := bs) [[⟨zb1, true, .cells (polP p ka kn kc) 48 (0, 0)⟩], zq108] [1]⟩
 intro zh115
 have zh116 := eqF' zh115
 refine wp_skip (blk_n (then_n (reg_ ?_)))
 refine pure_ (.int .i64 3) ?_
 refine pure_ (.int .i64 4) ?_
 refine pure_ (.int .i64 4) ?_
 refine nil_ (again_ (seq_ (seq_ (reg_ ?_))))
 refine pure_ (.int .i64 4) ?_
 refine pure_ (.bool false) ?_
 refine pure_ (.bool false) ?_
 refine skip_ ?_
 refine skip_ ?_
 refine pure_ (.bool false) ?_
 refine nil_ (then_n (cond_F ?_))
 refine wp_exit (then_e (then_e (blk_e (then_n (seq_ (reg_ ?_))))))
 refine move_ ?_
 refine assign_ ?_
 refine nil_ (then_n (wp_ret ?_))
 refine ret_ rfl (res_ [.tmp 4] [.pointer (some ⟨zb4, 0, none⟩)] (.pointer (some ⟨zb4, 0, none⟩)) ⟨res_tmp, trivial⟩) ?_
 have ze : waitsL p b = [] := by unfold waitsL pw bitB; simp only [zh70, zh100, zh115, cond_true, cond_false]; try rfl
 exact ⟨zb4, zq5, rfl, by rw [ze]; exact zh6, zS11.re (R := bs) [[⟨zb1, true, .cells (polP p ka kn kc) 48 (0, 0)⟩], zq5] [1]⟩

set_option maxRecDepth 100000 in
set_option maxHeartbeats 4000000 in
theorem best_ (p : Sd.Pol) (ka : Nat → Option Addr) (kn kc : Nat → Nat) (b : Int) (f : Int) (w : World) :
    Gives Try.prog 22 #[.agg (polP p ka kn kc), .int .u8 b, .int .i64 f] w fun v w1 => v = .int .i64 (bestP p b f) ∧ Ch [] w w1 := by
 have S0 := St.nil [] w
 refine enter_ Try.func22 rfl ?_
 refine seq_ (reg_ ?_)
 refine new_ S0 (fun b => .pointer (some ⟨b, 0, none⟩)) (.cells (polP p ka kn kc) 48) ?_
 intro zb1 zw2 zS3
 refine pure_ (.int .i64 0) ?_
 refine nil_ (then_n (seq_ (reg_ ?_)))
 refine pure_ (.int .i64 0) ?_
 refine nil_ (then_n (seq_ (seq_ (reg_ ?_))))
 refine pure_ (.int .i64 1) ?_
 refine nil_ (then_n (wp_block (loop_ 24 (seq_ (seq_ (reg_ ?_))))))
 refine pure_ (.int .i64 1) ?_
 refine pure_ (.bool true) ?_
 refine nil_ (then_n (cond_T ?_))
 refine wp_skip (then_n (seq_ (wp_block (seq_ (reg_ ?_)))))
 refine loadN_ zS3 0 56 (polP p ka kn kc) zb1 0 ?_
 refine pure_ (.int .i64 1) ?_
 refine pure_ (.int .i64 0) ?_
 refine call_ 33 #[.agg (polP p ka kn kc), .int .i64 1, .int .i64 0] ?_
 refine (higher13_ p ka kn kc 1 0 _ ).mono ?_; rintro _ zw4 ⟨rfl, zh5⟩
 have zS6 := zS3.quiet zh5
 refine pure_ (.bool (Sd.higher p 1 0)) ?_
 refine nil_ (then_n (seq_ (reg_ ?_)))
 refine pure_ (.int .u8 b) ?_
 refine pure_ (.int .i64 1) ?_
 refine pure_ (.int .u8 (Int.fdiv b (2 ^ 1))) ?_
 refine pureE_ (.int .u8 (bits .and .u8 (Int.fdiv b (2 ^ 1)) 1)) (.int .u8 ((Int.fdiv b (2 ^ 1)) % 2)) (congrArg _ (and_mask .u8 (Int.fdiv b (2 ^ 1)) 1 2 1 (by decide) (by decide) (by decide))) ?_
 refine pure_ (.bool (((Int.fdiv b (2 ^ 1)) % 2) == 1)) ?_
 refine move_ ?_
 refine slot_ 23 (((Int.fdiv b (2 ^ 1)) % 2) == 1) ?_ ?_
 · intro zh8
   have zh9 := eqT' zh8
   refine pure_ (.int .i64 1) ?_
   refine pure_ (.int .i64 f) ?_
   refine pure_ (.bool (1 != f)) ?_
   refine pure_ (.bool (1 != f)) ?_
   refine pure_ (.bool (1 != f)) ?_
   refine slot_ 28 (1 != f) ?_ ?_
   · intro zh10
     have zh11 := neT' zh10
     refine pure_ (.int .i64 0) ?_
     refine pure_ (.bool true) ?_
     refine pure_ (.bool true) ?_
     refine skip_ ?_
     refine pure_ (.bool true) ?_
     refine pure_ (.bool true) ?_
     refine nil_ (then_n (cond_T ?_))
     refine reg_ ?_
     refine pure_ (.int .i64 1) ?_
     refine pure_ (.int .i64 1) ?_
     refine nil_ (blk_n (then_n (reg_ ?_)))
     refine pure_ (.int .i64 1) ?_
     refine pure_ (.int .i64 2) ?_
     refine pure_ (.int .i64 2) ?_
     refine nil_ (again_ (seq_ (seq_ (reg_ ?_))))
     refine pure_ (.int .i64 2) ?_
     refine pure_ (.bool true) ?_
     refine nil_ (then_n (cond_T ?_))
     refine wp_skip (then_n (seq_ (wp_block (seq_ (reg_ ?_)))))
     refine loadN_ zS6 0 56 (polP p ka kn kc) zb1 0 ?_
     refine pure_ (.int .i64 2) ?_
     refine pure_ (.int .i64 1) ?_
     refine call_ 33 #[.agg (polP p ka kn kc), .int .i64 2, .int .i64 1] ?_
     refine (higher13_ p ka kn kc 2 1 _ ).mono ?_; rintro _ zw12 ⟨rfl, zh13⟩
     have zS14 := zS6.quiet zh13
     refine pure_ (.bool (Sd.higher p 2 1)) ?_
     refine nil_ (then_n (seq_ (reg_ ?_)))
     refine pure_ (.int .u8 b) ?_
     refine pure_ (.int .i64 2) ?_
     refine pure_ (.int .u8 (Int.fdiv b (2 ^ 2))) ?_
     refine pureE_ (.int .u8 (bits .and .u8 (Int.fdiv b (2 ^ 2)) 1)) (.int .u8 ((Int.fdiv b (2 ^ 2)) % 2)) (congrArg _ (and_mask .u8 (Int.fdiv b (2 ^ 2)) 1 2 1 (by decide) (by decide) (by decide))) ?_
     refine pure_ (.bool (((Int.fdiv b (2 ^ 2)) % 2) == 1)) ?_
     refine move_ ?_
     refine slot_ 23 (((Int.fdiv b (2 ^ 2)) % 2) == 1) ?_ ?_
     · intro zh16
       have zh17 := eqT' zh16
       refine pure_ (.int .i64 2) ?_
       refine pure_ (.int .i64 f) ?_
       refine pure_ (.bool (2 != f)) ?_
       refine pure_ (.bool (2 != f)) ?_
       refine pure_ (.bool (2 != f)) ?_
       refine slot_ 28 (2 != f) ?_ ?_
       · intro zh18
         have zh19 := neT' zh18
         refine pure_ (.int .i64 1) ?_
         refine pure_ (.bool false) ?_
         refine pure_ (.bool false) ?_
         refine pure_ (.bool (Sd.higher p 2 1)) ?_
         refine pure_ (.bool (Sd.higher p 2 1)) ?_
         refine pure_ (.bool (Sd.higher p 2 1)) ?_
         refine nil_ (then_n ?_)
         refine cond_S (Sd.higher p 2 1) ?_ ?_
         · intro zh20
           refine reg_ ?_
           refine pure_ (.int .i64 2) ?_
           refine pure_ (.int .i64 2) ?_
           refine nil_ (blk_n (then_n (reg_ ?_)))
           refine pure_ (.int .i64 2) ?_
           refine pure_ (.int .i64 3) ?_
           refine pure_ (.int .i64 3) ?_
           refine nil_ (again_ (seq_ (seq_ (reg_ ?_))))
           refine pure_ (.int .i64 3) ?_
           refine pure_ (.bool true) ?_
           refine nil_ (then_n (cond_T ?_))
           refine wp_skip (then_n (seq_ (wp_block (seq_ (reg_ ?_)))))
           refine loadN_ zS14 0 56 (polP p ka kn kc) zb1 0 ?_
           refine pure_ (.int .i64 3) ?_
           refine pure_ (.int .i64 2) ?_
           refine call_ 33 #[.agg (polP p ka kn kc), .int .i64 3, .int .i64 2] ?_
           refine (higher13_ p ka kn kc 3 2 _ ).mono ?_; rintro _ zw21 ⟨rfl, zh22⟩
           have zS23 := zS14.quiet zh22
           refine pure_ (.bool (Sd.higher p 3 2)) ?_
           refine nil_ (then_n (seq_ (reg_ ?_)))
           refine pure_ (.int .u8 b) ?_
           refine pure_ (.int .i64 3) ?_
           refine pure_ (.int .u8 (Int.fdiv b (2 ^ 3))) ?_
           refine pureE_ (.int .u8 (bits .and .u8 (Int.fdiv b (2 ^ 3)) 1)) (.int .u8 ((Int.fdiv b (2 ^ 3)) % 2)) (congrArg _ (and_mask .u8 (Int.fdiv b (2 ^ 3)) 1 2 1 (by decide) (by decide) (by decide))) ?_
           refine pure_ (.bool (((Int.fdiv b (2 ^ 3)) % 2) == 1)) ?_
           refine move_ ?_
           refine slot_ 23 (((Int.fdiv b (2 ^ 3)) % 2) == 1) ?_ ?_
           · intro zh25
             have zh26 := eqT' zh25
             refine pure_ (.int .i64 3) ?_
             refine pure_ (.int .i64 f) ?_
             refine pure_ (.bool (3 != f)) ?_
             refine pure_ (.bool (3 != f)) ?_
             refine pure_ (.bool (3 != f)) ?_
             refine slot_ 28 (3 != f) ?_ ?_
             · intro zh27
               have zh28 := neT' zh27
               refine pure_ (.int .i64 2) ?_
               refine pure_ (.bool false) ?_
               refine pure_ (.bool false) ?_
               refine pure_ (.bool (Sd.higher p 3 2)) ?_
               refine pure_ (.bool (Sd.higher p 3 2)) ?_
               refine pure_ (.bool (Sd.higher p 3 2)) ?_
               refine nil_ (then_n ?_)
               refine cond_S (Sd.higher p 3 2) ?_ ?_
               · intro zh29
                 refine reg_ ?_
                 refine pure_ (.int .i64 3) ?_
                 refine pure_ (.int .i64 3) ?_
                 refine nil_ (blk_n (then_n (reg_ ?_)))
                 refine pure_ (.int .i64 3) ?_
                 refine pure_ (.int .i64 4) ?_
                 refine pure_ (.int .i64 4) ?_
                 refine nil_ (again_ (seq_ (seq_ (reg_ ?_))))
                 refine pure_ (.int .i64 4) ?_
                 refine pure_ (.bool false) ?_
                 refine nil_ (then_n (cond_F ?_))
                 refine wp_exit (then_e (then_e (blk_e (then_n (seq_ (reg_ ?_))))))
                 refine pure_ (.int .i64 3) ?_
                 refine pure_ (.int .i64 3) ?_
                 refine nil_ (then_n (wp_ret ?_))
                 refine ret_ rfl (res_ [.tmp 6] [.int .i64 3] (.int .i64 3) ⟨res_tmp, trivial⟩) ?_
                 exact ⟨congrArg _ (by unfold bestP bs1 bitB; simp only [zh8, zh10, zh16, zh18, zh20, zh25, zh27, zh29, (show ((1 : Int) != f) = true from zh10), (show ((2 : Int) != f) = true from zh18), (show ((3 : Int) != f) = true from zh27), cond_true, cond_false, Bool.true_and, Bool.false_and, Bool.and_true, Bool.and_false, Bool.true_or, Bool.or_true, Bool.false_or, Bool.or_false, beq_self_eq_true, (by decide : ((1 : Int) == 0) = false), (by decide : ((2 : Int) == 0) = false), (by decide : ((3 : Int) == 0) = false)]; try rfl), zS23.ch⟩
               intro zh30
               refine wp_skip (blk_n (then_n (reg_ ?_)))
               refine pure_ (.int .i64 3) ?_
               refine pure_ (.int .i64 4) ?_
               refine pure_ (.int .i64 4) ?_
               refine nil_ (again_ (seq_ (seq_ (reg_ ?_))))
               refine pure_ (.int .i64 4) ?_
               refine pure_ (.bool false) ?_
               refine nil_ (then_n (cond_F ?_))
               refine wp_exit (then_e (then_e (blk_e (then_n (seq_ (reg_ ?_))))))
               refine pure_ (.int .i64 2) ?_
               refine pure_ (.int .i64 2) ?_
               refine nil_ (then_n (wp_ret ?_))
               refine ret_ rfl (res_ [.tmp 6] [.int .i64 2] (.int .i64 2) ⟨res_tmp, trivial⟩) ?_
               exact ⟨congrArg _ (by unfold bestP bs1 bitB; simp only [zh8, zh10, zh16, zh18, zh20, zh25, zh27, zh30, (show ((1 : Int) != f) = true from zh10), (show ((2 : Int) != f) = true from zh18), (show ((3 : Int) != f) = true from zh27), cond_true, cond_false, Bool.true_and, Bool.false_and, Bool.and_true, Bool.and_false, Bool.true_or, Bool.or_true, Bool.false_or, Bool.or_false, beq_self_eq_true, (by decide : ((1 : Int) == 0) = false), (by decide : ((2 : Int) == 0) = false), (by decide : ((3 : Int) == 0) = false)]; try rfl), zS23.ch⟩
             intro zh31
             have zh32 := neF' zh31
             refine skip_ ?_
             refine skip_ ?_
             refine skip_ ?_
             refine skip_ ?_
             refine skip_ ?_
             refine pure_ (.bool false) ?_
             refine nil_ (then_n (cond_F ?_))
             refine wp_skip (blk_n (then_n (reg_ ?_)))
             refine pure_ (.int .i64 3) ?_
             refine pure_ (.int .i64 4) ?_
             refine pure_ (.int .i64 4) ?_
             refine nil_ (again_ (seq_ (seq_ (reg_ ?_))))
             refine pure_ (.int .i64 4) ?_
             refine pure_ (.bool false) ?_
             refine nil_ (then_n (cond_F ?_))
             refine wp_exit (then_e (then_e (blk_e (then_n (seq_ (reg_ ?_))))))
             refine pure_ (.int .i64 2) ?_
             refine pure_ (.int .i64 2) ?_
             refine nil_ (then_n (wp_ret ?_))
             refine ret_ rfl (res_ [.tmp 6] [.int .i64 2] (.int .i64 2) ⟨res_tmp, trivial⟩) ?_
             exact ⟨congrArg _ (by unfold bestP bs1 bitB; simp only [zh8, zh10, zh16, zh18, zh20, zh25, zh31, (show ((1 : Int) != f) = true from zh10), (show ((2 : Int) != f) = true from zh18), (show ((3 : Int) != f) = false from zh31), cond_true, cond_false, Bool.true_and, Bool.false_and, Bool.and_true, Bool.and_false, Bool.true_or, Bool.or_true, Bool.false_or, Bool.or_false, beq_self_eq_true, (by decide : ((1 : Int) == 0) = false), (by decide : ((2 : Int) == 0) = false), (by decide : ((3 : Int) == 0) = false)]; try rfl), zS23.ch⟩
           intro zh33
           have zh34 := eqF' zh33
           refine skip_ ?_
           refine skip_ ?_
           refine skip_ ?_
           refine pure_ (.bool false) ?_
           refine pure_ (.bool false) ?_
           refine skip_ ?_
           refine skip_ ?_
           refine skip_ ?_
           refine skip_ ?_
           refine skip_ ?_
           refine pure_ (.bool false) ?_
           refine nil_ (then_n (cond_F ?_))
           refine wp_skip (blk_n (then_n (reg_ ?_)))
           refine pure_ (.int .i64 3) ?_
           refine pure_ (.int .i64 4) ?_
           refine pure_ (.int .i64 4) ?_
           refine nil_ (again_ (seq_ (seq_ (reg_ ?_))))
           refine pure_ (.int .i64 4) ?_
           refine pure_ (.bool false) ?_
           refine nil_ (then_n (cond_F ?_))
           refine wp_exit (then_e (then_e (blk_e (then_n (seq_ (reg_ ?_))))))
           refine pure_ (.int .i64 2) ?_
           refine pure_ (.int .i64 2) ?_
           refine nil_ (then_n (wp_ret ?_))
           refine ret_ rfl (res_ [.tmp 6] [.int .i64 2] (.int .i64 2) ⟨res_tmp, trivial⟩) ?_
           exact ⟨congrArg _ (by unfold bestP bs1 bitB; simp only [zh8, zh10, zh16, zh18, zh20, zh33, (show ((1 : Int) != f) = true from zh10), (show ((2 : Int) != f) = true from zh18), cond_true, cond_false, Bool.true_and, Bool.false_and, Bool.and_true, Bool.and_false, Bool.true_or, Bool.or_true, Bool.false_or, Bool.or_false, beq_self_eq_true, (by decide : ((1 : Int) == 0) = false), (by decide : ((2 : Int) == 0) = false), (by decide : ((3 : Int) == 0) = false)]; try rfl), zS23.ch⟩
         intro zh35
         refine wp_skip (blk_n (then_n (reg_ ?_)))
         refine pure_ (.int .i64 2) ?_
         refine pure_ (.int .i64 3) ?_
         refine pure_ (.int .i64 3) ?_
         refine nil_ (again_ (seq_ (seq_ (reg_ ?_))))
         refine pure_ (.int .i64 3) ?_
         refine pure_ (.bool true) ?_
         refine nil_ (then_n (cond_T ?_))
         refine wp_skip (then_n (seq_ (wp_block (seq_ (reg_ ?_)))))
         refine loadN_ zS14 0 56 (polP p ka kn kc) zb1 0 ?_
         refine pure_ (.int .i64 3) ?_
         refine pure_ (.int .i64 1) ?_
         refine call_ 33 #[.agg (polP p ka kn kc), .int .i64 3, .int .i64 1] ?_
         refine (higher13_ p ka kn kc 3 1 _ ).mono ?_; rintro _ zw36 ⟨rfl, zh37⟩
         have zS38 := zS14.quiet zh37
         refine pure_ (.bool (Sd.higher p 3 1)) ?_
         refine nil_ (then_n (seq_ (reg_ ?_)))
         refine pure_ (.int .u8 b) ?_
         refine pure_ (.int .i64 3) ?_
         refine pure_ (.int .u8 (Int.fdiv b (2 ^ 3))) ?_
         refine pureE_ (.int .u8 (bits .and .u8 (Int.fdiv b (2 ^ 3)) 1)) (.int .u8 ((Int.fdiv b (2 ^ 3)) % 2)) (congrArg _ (and_mask .u8 (Int.fdiv b (2 ^ 3)) 1 2 1 (by decide) (by decide) (by decide))) ?_
         refine pure_ (.bool (((Int.fdiv b (2 ^ 3)) % 2) == 1)) ?_
         refine move_ ?_
         refine slot_ 23 (((Int.fdiv b (2 ^ 3)) % 2) == 1) ?_ ?_
         · intro zh40
           have zh41 := eqT' zh40
           refine pure_ (.int .i64 3) ?_
           refine pure_ (.int .i64 f) ?_
           refine pure_ (.bool (3 != f)) ?_
           refine pure_ (.bool (3 != f)) ?_
           refine pure_ (.bool (3 != f)) ?_
           refine slot_ 28 (3 != f) ?_ ?_
           · intro zh42
             have zh43 := neT' zh42
             refine pure_ (.int .i64 1) ?_
             refine pure_ (.bool false) ?_
             refine pure_ (.bool false) ?_
             refine pure_ (.bool (Sd.higher p 3 1)) ?_
             refine pure_ (.bool (Sd.higher p 3 1)) ?_
             refine pure_ (.bool (Sd.higher p 3 1)) ?_
             refine nil_ (then_n ?_)
             refine cond_S (Sd.higher p 3 1) ?_ ?_
             · intro zh44
               refine reg_ ?_
               refine pure_ (.int .i64 3) ?_
               refine pure_ (.int .i64 3) ?_
               refine nil_ (blk_n (then_n (reg_ ?_)))
               refine pure_ (.int .i64 3) ?_
               refine pure_ (.int .i64 4) ?_
               refine pure_ (.int .i64 4) ?_
               refine nil_ (again_ (seq_ (seq_ (reg_ ?_))))
               refine pure_ (.int .i64 4) ?_
               refine pure_ (.bool false) ?_
               refine nil_ (then_n (cond_F ?_))
               refine wp_exit (then_e (then_e (blk_e (then_n (seq_ (reg_ ?_))))))
               refine pure_ (.int .i64 3) ?_
               refine pure_ (.int .i64 3) ?_
               refine nil_ (then_n (wp_ret ?_))
               refine ret_ rfl (res_ [.tmp 6] [.int .i64 3] (.int .i64 3) ⟨res_tmp, trivial⟩) ?_
               exact ⟨congrArg _ (by unfold bestP bs1 bitB; simp only [zh8, zh10, zh16, zh18, zh35, zh40, zh42, zh44, (show ((1 : Int) != f) = true from zh10), (show ((2 : Int) != f) = true from zh18), (show ((3 : Int) != f) = true from zh42), cond_true, cond_false, Bool.true_and, Bool.false_and, Bool.and_true, Bool.and_false, Bool.true_or, Bool.or_true, Bool.false_or, Bool.or_false, beq_self_eq_true, (by decide : ((1 : Int) == 0) = false), (by decide : ((2 : Int) == 0) = false), (by decide : ((3 : Int) == 0) = false)]; try rfl), zS38.ch⟩
             intro zh45
             refine wp_skip (blk_n (then_n (reg_ ?_)))
             refine pure_ (.int .i64 3) ?_
             refine pure_ (.int .i64 4) ?_
             refine pure_ (.int .i64 4) ?_
             refine nil_ (again_ (seq_ (seq_ (reg_ ?_))))
             refine pure_ (.int .i64 4) ?_
             refine pure_ (.bool false) ?_
             refine nil_ (then_n (cond_F ?_))
             refine wp_exit (then_e (then_e (blk_e (then_n (seq_ (reg_ ?_))))))
             refine pure_ (.int .i64 1) ?_
             refine pure_ (.int .i64 1) ?_
             refine nil_ (then_n (wp_ret ?_))
             refine ret_ rfl (res_ [.tmp 6] [.int .i64 1] (.int .i64 1) ⟨res_tmp, trivial⟩) ?_
             exact ⟨congrArg _ (by unfold bestP bs1 bitB; simp only [zh8, zh10, zh16, zh18, zh35, zh40, zh42, zh45, (show ((1 : Int) != f) = true from zh10), (show ((2 : Int) != f) = true from zh18), (show ((3 : Int) != f) = true from zh42), cond_true, cond_false, Bool.true_and, Bool.false_and, Bool.and_true, Bool.and_false, Bool.true_or, Bool.or_true, Bool.false_or, Bool.or_false, beq_self_eq_true, (by decide : ((1 : Int) == 0) = false), (by decide : ((2 : Int) == 0) = false), (by decide : ((3 : Int) == 0) = false)]; try rfl), zS38.ch⟩
           intro zh46
           have zh47 := neF' zh46
           refine skip_ ?_
           refine skip_ ?_
           refine skip_ ?_
           refine skip_ ?_
           refine skip_ ?_
           refine pure_ (.bool false) ?_
           refine nil_ (then_n (cond_F ?_))
           refine wp_skip (blk_n (then_n (reg_ ?_)))
           refine pure_ (.int .i64 3) ?_
           refine pure_ (.int .i64 4) ?_
           refine pure_ (.int .i64 4) ?_
           refine nil_ (again_ (seq_ (seq_ (reg_ ?_))))
           refine pure_ (.int .i64 4) ?_
           refine pure_ (.bool false) ?_
           refine nil_ (then_n (cond_F ?_))
           refine wp_exit (then_e (then_e (blk_e (then_n (seq_ (reg_ ?_))))))
           refine pure_ (.int .i64 1) ?_
           refine pure_ (.int .i64 1) ?_
           refine nil_ (then_n (wp_ret ?_))
           refine ret_ rfl (res_ [.tmp 6] [.int .i64 1] (.int .i64 1) ⟨res_tmp, trivial⟩) ?_
           exact ⟨congrArg _ (by unfold bestP bs1 bitB; simp only [zh8, zh10, zh16, zh18, zh35, zh40, zh46, (show ((1 : Int) != f) = true from zh10), (show ((2 : Int) != f) = true from zh18), (show ((3 : Int) != f) = false from zh46), cond_true, cond_false, Bool.true_and, Bool.false_and, Bool.and_true, Bool.and_false, Bool.true_or, Bool.or_true, Bool.false_or, Bool.or_false, beq_self_eq_true, (by decide : ((1 : Int) == 0) = false), (by decide : ((2 : Int) == 0) = false), (by decide : ((3 : Int) == 0) = false)]; try rfl), zS38.ch⟩
         intro zh48
         have zh49 := eqF' zh48
         refine skip_ ?_
         refine skip_ ?_
         refine skip_ ?_
         refine pure_ (.bool false) ?_
         refine pure_ (.bool false) ?_
         refine skip_ ?_
         refine skip_ ?_
         refine skip_ ?_
         refine skip_ ?_
         refine skip_ ?_
         refine pure_ (.bool false) ?_
         refine nil_ (then_n (cond_F ?_))
         refine wp_skip (blk_n (then_n (reg_ ?_)))
         refine pure_ (.int .i64 3) ?_
         refine pure_ (.int .i64 4) ?_
         refine pure_ (.int .i64 4) ?_
         refine nil_ (again_ (seq_ (seq_ (reg_ ?_))))
         refine pure_ (.int .i64 4) ?_
         refine pure_ (.bool false) ?_
         refine nil_ (then_n (cond_F ?_))
         refine wp_exit (then_e (then_e (blk_e (then_n (seq_ (reg_ ?_))))))
         refine pure_ (.int .i64 1) ?_
         refine pure_ (.int .i64 1) ?_
         refine nil_ (then_n (wp_ret ?_))
         refine ret_ rfl (res_ [.tmp 6] [.int .i64 1] (.int .i64 1) ⟨res_tmp, trivial⟩) ?_
         exact ⟨congrArg _ (by unfold bestP bs1 bitB; simp only [zh8, zh10, zh16, zh18, zh35, zh48, (show ((1 : Int) != f) = true from zh10), (show ((2 : Int) != f) = true from zh18), cond_true, cond_false, Bool.true_and, Bool.false_and, Bool.and_true, Bool.and_false, Bool.true_or, Bool.or_true, Bool.false_or, Bool.or_false, beq_self_eq_true, (by decide : ((1 : Int) == 0) = false), (by decide : ((2 : Int) == 0) = false), (by decide : ((3 : Int) == 0) = false)]; try rfl), zS38.ch⟩
       intro zh50
       have zh51 := neF' zh50
       refine skip_ ?_
       refine skip_ ?_
       refine skip_ ?_
       refine skip_ ?_
       refine skip_ ?_
       refine pure_ (.bool false) ?_
       refine nil_ (then_n (cond_F ?_))
       refine wp_skip (blk_n (then_n (reg_ ?_)))
       refine pure_ (.int .i64 2) ?_
       refine pure_ (.int .i64 3) ?_
       refine pure_ (.int .i64 3) ?_
       refine nil_ (again_ (seq_ (seq_ (reg_ ?_))))
       refine pure_ (.int .i64 3) ?_
       refine pure_ (.bool true) ?_
       refine nil_ (then_n (cond_T ?_))
       refine wp_skip (then_n (seq_ (wp_block (seq_ (reg_ ?_)))))
       refine loadN_ zS14 0 56 (polP p ka kn kc) zb1 0 ?_
       refine pure_ (.int .i64 3) ?_
       refine pure_ (.int .i64 1) ?_
       refine call_ 33 #[.agg (polP p ka kn kc), .int .i64 3, .int .i64 1] ?_
       refine (higher13_ p ka kn kc 3 1 _ ).mono ?_; rintro _ zw52 ⟨rfl, zh53⟩
       have zS54 := zS14.quiet zh53
       refine pure_ (.bool (Sd.higher p 3 1)) ?_
       refine nil_ (then_n (seq_ (reg_ ?_)))
       refine pure_ (.int .u8 b) ?_
       refine pure_ (.int .i64 3) ?_
       refine pure_ (.int .u8 (Int.fdiv b (2 ^ 3))) ?_
       refine pureE_ (.int .u8 (bits .and .u8 (Int.fdiv b (2 ^ 3)) 1)) (.int .u8 ((Int.fdiv b (2 ^ 3)) % 2)) (congrArg _ (and_mask .u8 (Int.fdiv b (2 ^ 3)) 1 2 1 (by decide) (by decide) (by decide))) ?_
       refine pure_ (.bool (((Int.fdiv b (2 ^ 3)) % 2) == 1)) ?_
       refine move_ ?_
       refine slot_ 23 (((Int.fdiv b (2 ^ 3)) % 2) == 1) ?_ ?_
       · intro zh56
         have zh57 := eqT' zh56
         refine pure_ (.int .i64 3) ?_
         refine pure_ (.int .i64 f) ?_
         refine pureE_ (.bool (3 != f)) (.bool true) (congrArg Value.bool (neT (by omega))) ?_
         refine pure_ (.bool true) ?_
         refine pure_ (.bool true) ?_
         refine pure_ (.int .i64 1) ?_
         refine pure_ (.bool false) ?_
         refine pure_ (.bool false) ?_
         refine pure_ (.bool (Sd.higher p 3 1)) ?_
         refine pure_ (.bool (Sd.higher p 3 1)) ?_
         refine pure_ (.bool (Sd.higher p 3 1)) ?_
         refine nil_ (then_n ?_)
         refine cond_S (Sd.higher p 3 1) ?_ ?_
         · intro zh58
           refine reg_ ?_
           refine pure_ (.int .i64 3) ?_
           refine pure_ (.int .i64 3) ?_
           refine nil_ (blk_n (then_n (reg_ ?_)))
           refine pure_ (.int .i64 3) ?_
           refine pure_ (.int .i64 4) ?_
           refine pure_ (.int .i64 4) ?_
           refine nil_ (again_ (seq_ (seq_ (reg_ ?_))))
           refine pure_ (.int .i64 4) ?_
           refine pure_ (.bool false) ?_
           refine nil_ (then_n (cond_F ?_))
           refine wp_exit (then_e (then_e (blk_e (then_n (seq_ (reg_ ?_))))))
           refine pure_ (.int .i64 3) ?_
           refine pure_ (.int .i64 3) ?_
           refine nil_ (then_n (wp_ret ?_))
           refine ret_ rfl (res_ [.tmp 6] [.int .i64 3] (.int .i64 3) ⟨res_tmp, trivial⟩) ?_
           exact ⟨congrArg _ (by unfold bestP bs1 bitB; simp only [zh8, zh10, zh16, zh50, zh56, zh58, (show ((1 : Int) != f) = true from zh10), (show ((2 : Int) != f) = false from zh50), (show ((3 : Int) != f) = true from neT (by omega)), cond_true, cond_false, Bool.true_and, Bool.false_and, Bool.and_true, Bool.and_false, Bool.true_or, Bool.or_true, Bool.false_or, Bool.or_false, beq_self_eq_true, (by decide : ((1 : Int) == 0) = false), (by decide : ((2 : Int) == 0) = false), (by decide : ((3 : Int) == 0) = false)]; try rfl), zS54.ch⟩
         intro zh59
         refine wp_skip (blk_n (then_n (reg_ ?_)))
         refine pure_ (.int .i64 3) ?_
         refine pure_ (.int .i64 4) ?_
         refine pure_ (.int .i64 4) ?_
         refine nil_ (again_ (seq_ (seq_ (reg_ ?_))))
         refine pure_ (.int .i64 4) ?_
         refine pure_ (.bool false) ?_
         refine nil_ (then_n (cond_F ?_))
         refine wp_exit (then_e (then_e (blk_e (then_n (seq_ (reg_ ?_))))))
         refine pure_ (.int .i64 1) ?_
         refine pure_ (.int .i64 1) ?_
         refine nil_ (then_n (wp_ret ?_))
         refine ret_ rfl (res_ [.tmp 6] [.int .i64 1] (.int .i64 1) ⟨res_tmp, trivial⟩) ?_
         exact ⟨congrArg _ (by unfold bestP bs1 bitB; simp only [zh8, zh10, zh16, zh50, zh56, zh59, (show ((1 : Int) != f) = true from zh10), (show ((2 : Int) != f) = false from zh50), (show ((3 : Int) != f) = true from neT (by omega)), cond_true, cond_false, Bool.true_and, Bool.false_and, Bool.and_true, Bool.and_false, Bool.true_or, Bool.or_true, Bool.false_or, Bool.or_false, beq_self_eq_true, (by decide : ((1 : Int) == 0) = false), (by decide : ((2 : Int) == 0) = false), (by decide : ((3 : Int) == 0) = false)]; try rfl), zS54.ch⟩
       intro zh60
       have zh61 := eqF' zh60
       refine skip_ ?_
       refine skip_ ?_
       refine skip_ ?_
       refine pure_ (.bool false) ?_
       refine pure_ (.bool false) ?_
       refine skip_ ?_
       refine skip_ ?_
       refine skip_ ?_
       refine skip_ ?_
       refine skip_ ?_
       refine pure_ (.bool false) ?_
       refine nil_ (then_n (cond_F ?_))
       refine wp_skip (blk_n (then_n (reg_ ?_)))
       refine pure_ (.int .i64 3) ?_
       refine pure_ (.int .i64 4) ?_
       refine pure_ (.int .i64 4) ?_
       refine nil_ (again_ (seq_ (seq_ (reg_ ?_))))
       refine pure_ (.int .i64 4) ?_
       refine pure_ (.bool false) ?_
       refine nil_ (then_n (cond_F ?_))
       refine wp_exit (then_e (then_e (blk_e (then_n (seq_ (reg_ ?_))))))
       refine pure_ (.int .i64 1) ?_
       refine pure_ (.int .i64 1) ?_
       refine nil_ (then_n (wp_ret ?_))
       refine ret_ rfl (res_ [.tmp 6] [.int .i64 1] (.int .i64 1) ⟨res_tmp, trivial⟩) ?_
       exact ⟨congrArg _ (by unfold bestP bs1 bitB; simp only [zh8, zh10, zh16, zh50, zh60, (show ((1 : Int) != f) = true from zh10), (show ((2 : Int) != f) = false from zh50), (show ((3 : Int) != f) = true from neT (by omega)), cond_true, cond_false, Bool.true_and, Bool.false_and, Bool.and_true, Bool.and_false, Bool.true_or, Bool.or_true, Bool.false_or, Bool.or_false, beq_self_eq_true, (by decide : ((1 : Int) == 0) = false), (by decide : ((2 : Int) == 0) = false), (by decide : ((3 : Int) == 0) = false)]; try rfl), zS54.ch⟩
     intro zh62
     have zh63 := eqF' zh62
     refine skip_ ?_
     refine skip_ ?_
     refine skip_ ?_
     refine pure_ (.bool false) ?_
     refine pure_ (.bool false) ?_
     refine skip_ ?_
     refine skip_ ?_
     refine skip_ ?_
     refine skip_ ?_
     refine skip_ ?_
     refine pure_ (.bool false) ?_
     refine nil_ (then_n (cond_F ?_))
     refine wp_skip (blk_n (then_n (reg_ ?_)))
     refine pure_ (.int .i64 2) ?_
     refine pure_ (.int .i64 3) ?_
     refine pure_ (.int .i64 3) ?_
     refine nil_ (again_ (seq_ (seq_ (reg_ ?_))))
     refine pure_ (.int .i64 3) ?_
     refine pure_ (.bool true) ?_
     refine nil_ (then_n (cond_T ?_))
     refine wp_skip (then_n (seq_ (wp_block (seq_ (reg_ ?_)))))
     refine loadN_ zS14 0 56 (polP p ka kn kc) zb1 0 ?_
     refine pure_ (.int .i64 3) ?_
     refine pure_ (.int .i64 1) ?_
     refine call_ 33 #[.agg (polP p ka kn kc), .int .i64 3, .int .i64 1] ?_
     refine (higher13_ p ka kn kc 3 1 _ ).mono ?_; rintro _ zw64 ⟨rfl, zh65⟩
     have zS66 := zS14.quiet zh65
     refine pure_ (.bool (Sd.higher p 3 1)) ?_
     refine nil_ (then_n (seq_ (reg_ ?_)))
     refine pure_ (.int .u8 b) ?_
     refine pure_ (.int .i64 3) ?_
     refine pure_ (.int .u8 (Int.fdiv b (2 ^ 3))) ?_
     refine pureE_ (.int .u8 (bits .and .u8 (Int.fdiv b (2 ^ 3)) 1)) (.int .u8 ((Int.fdiv b (2 ^ 3)) % 2)) (congrArg _ (and_mask .u8 (Int.fdiv b (2 ^ 3)) 1 2 1 (by decide) (by decide) (by decide))) ?_
     refine pure_ (.bool (((Int.fdiv b (2 ^ 3)) % 2) == 1)) ?_
     refine move_ ?_
     refine slot_ 23 (((Int.fdiv b (2 ^ 3)) % 2) == 1) ?_ ?_
     · intro zh68
       have zh69 := eqT' zh68
       refine pure_ (.int .i64 3) ?_
       refine pure_ (.int .i64 f) ?_
       refine pure_ (.bool (3 != f)) ?_
       refine pure_ (.bool (3 != f)) ?_
       refine pure_ (.bool (3 != f)) ?_
       refine slot_ 28 (3 != f) ?_ ?_
       · intro zh70
         have zh71 := neT' zh70
         refine pure_ (.int .i64 1) ?_
         refine pure_ (.bool false) ?_
         refine pure_ (.bool false) ?_
         refine pure_ (.bool (Sd.higher p 3 1)) ?_
         refine pure_ (.bool (Sd.higher p 3 1)) ?_
         refine pure_ (.bool (Sd.higher p 3 1)) ?_
         refine nil_ (then_n ?_)
         refine cond_S (Sd.higher p 3 1) ?_ ?_
         · intro zh72
           refine reg_ ?_
           refine pure_ (.int .i64 3) ?_
           refine pure_ (.int .i64 3) ?_
           refine nil_ (blk_n (then_n (reg_ ?_)))
           refine pure_ (.int .i64 3) ?_
           refine pure_ (.int .i64 4) ?_
           refine pure_ (.int .i64 4) ?_
           refine nil_ (again_ (seq_ (seq_ (reg_ ?_))))
           refine pure_ (.int .i64 4) ?_
           refine pure_ (.bool false) ?_
           refine nil_ (then_n (cond_F ?_))
           refine wp_exit (then_e (then_e (blk_e (then_n (seq_ (reg_ ?_))))))
           refine pure_ (.int .i64 3) ?_
           refine pure_ (.int .i64 3) ?_
           refine nil_ (then_n (wp_ret ?_))
           refine ret_ rfl (res_ [.tmp 6] [.int .i64 3] (.int .i64 3) ⟨res_tmp, trivial⟩) ?_
           exact ⟨congrArg _ (by unfold bestP bs1 bitB; simp only [zh8, zh10, zh62, zh68, zh70, zh72, (show ((1 : Int) != f) = true from zh10), (show ((3 : Int) != f) = true from zh70), cond_true, cond_false, Bool.true_and, Bool.false_and, Bool.and_true, Bool.and_false, Bool.true_or, Bool.or_true, Bool.false_or, Bool.or_false, beq_self_eq_true, (by decide : ((1 : Int) == 0) = false), (by decide : ((2 : Int) == 0) = false), (by decide : ((3 : Int) == 0) = false)]; try rfl), zS66.ch⟩
         intro zh73
         refine wp_skip (blk_n (then_n (reg_ ?_)))
         refine pure_ (.int .i64 3) ?_
         refine pure_ (.int .i64 4) ?_
         refine pure_ (.int .i64 4) ?_
         refine nil_ (again_ (seq_ (seq_ (reg_ ?_))))
         refine pure_ (.int .i64 4) ?_
         refine pure_ (.bool false) ?_
         refine nil_ (then_n (cond_F ?_))
         refine wp_exit (then_e (then_e (blk_e (then_n (seq_ (reg_ ?_))))))
         refine pure_ (.int .i64 1) ?_
         refine pure_ (.int .i64 1) ?_
         refine nil_ (then_n (wp_ret ?_))
         refine ret_ rfl (res_ [.tmp 6] [.int .i64 1] (.int .i64 1) ⟨res_tmp, trivial⟩) ?_
         exact ⟨congrArg _ (by unfold bestP bs1 bitB; simp only [zh8, zh10, zh62, zh68, zh70, zh73, (show ((1 : Int) != f) = true from zh10), (show ((3 : Int) != f) = true from zh70), cond_true, cond_false, Bool.true_and, Bool.false_and, Bool.and_true, Bool.and_false, Bool.true_or, Bool.or_true, Bool.false_or, Bool.or_false, beq_self_eq_true, (by decide : ((1 : Int) == 0) = false), (by decide : ((2 : Int) == 0) = false), (by decide : ((3 : Int) == 0) = false)]; try rfl), zS66.ch⟩
       intro zh74
       have zh75 := neF' zh74
       refine skip_ ?_
       refine skip_ ?_
       refine skip_ ?_
       refine skip_ ?_
       refine skip_ ?_
       refine pure_ (.bool false) ?_
       refine nil_ (then_n (cond_F ?_))
       refine wp_skip (blk_n (then_n (reg_ ?_)))
       refine pure_ (.int .i64 3) ?_
       refine pure_ (.int .i64 4) ?_
       refine pure_ (.int .i64 4) ?_
       refine nil_ (again_ (seq_ (seq_ (reg_ ?_))))
       refine pure_ (.int .i64 4) ?_
       refine pure_ (.bool false) ?_
       refine nil_ (then_n (cond_F ?_))
       refine wp_exit (then_e (then_e (blk_e (then_n (seq_ (reg_ ?_))))))
       refine pure_ (.int .i64 1) ?_
       refine pure_ (.int .i64 1) ?_
       refine nil_ (then_n (wp_ret ?_))
       refine ret_ rfl (res_ [.tmp 6] [.int .i64 1] (.int .i64 1) ⟨res_tmp, trivial⟩) ?_
       exact ⟨congrArg _ (by unfold bestP bs1 bitB; simp only [zh8, zh10, zh62, zh68, zh74, (show ((1 : Int) != f) = true from zh10), (show ((2 : Int) != f) = true from neT (by omega)), (show ((3 : Int) != f) = false from zh74), cond_true, cond_false, Bool.true_and, Bool.false_and, Bool.and_true, Bool.and_false, Bool.true_or, Bool.or_true, Bool.false_or, Bool.or_false, beq_self_eq_true, (by decide : ((1 : Int) == 0) = false), (by decide : ((2 : Int) == 0) = false), (by decide : ((3 : Int) == 0) = false)]; try rfl), zS66.ch⟩
     intro zh76
     have zh77 := eqF' zh76
     refine skip_ ?_
     refine skip_ ?_
     refine skip_ ?_
     refine pure_ (.bool false) ?_
     refine pure_ (.bool false) ?_
     refine skip_ ?_
     refine skip_ ?_
     refine skip_ ?_
     refine skip_ ?_
     refine skip_ ?_
     refine pure_ (.bool false) ?_
     refine nil_ (then_n (cond_F ?_))
     refine wp_skip (blk_n (then_n (reg_ ?_)))
     refine pure_ (.int .i64 3) ?_
     refine pure_ (.int .i64 4) ?_
     refine pure_ (.int .i64 4) ?_
     refine nil_ (again_ (seq_ (seq_ (reg_ ?_))))
     refine pure_ (.int .i64 4) ?_
     refine pure_ (.bool false) ?_
     refine nil_ (then_n (cond_F ?_))
     refine wp_exit (then_e (then_e (blk_e (then_n (seq_ (reg_ ?_))))))
     refine pure_ (.int .i64 1) ?_
     refine pure_ (.int .i64 1) ?_
     refine nil_ (then_n (wp_ret ?_))
     refine ret_ rfl (res_ [.tmp 6] [.int .i64 1] (.int .i64 1) ⟨res_tmp, trivial⟩) ?_
     exact ⟨congrArg _ (by unfold bestP bs1 bitB; simp only [zh8, zh10, zh62, zh76, (show ((1 : Int) != f) = true from zh10), cond_true, cond_false, Bool.true_and, Bool.false_and, Bool.and_true, Bool.and_false, Bool.true_or, Bool.or_true, Bool.false_or, Bool.or_false, beq_self_eq_true, (by decide : ((1 : Int) == 0) = false), (by decide : ((2 : Int) == 0) = false), (by decide : ((3 : Int) == 0) = false)]; try rfl), zS66.ch⟩
   intro zh78
   have zh79 := neF' zh78
   refine skip_ ?_
   refine skip_ ?_
   refine skip_ ?_
   refine skip_ ?_
   refine skip_ ?_
   refine pure_ (.bool false) ?_
   refine nil_ (then_n (cond_F ?_))
   refine wp_skip (blk_n (then_n (reg_ ?_)))
   refine pure_ (.int .i64 1) ?_
   refine pure_ (.int .i64 2) ?_
   refine pure_ (.int .i64 2) ?_
   refine nil_ (again_ (seq_ (seq_ (reg_ ?_))))
   refine pure_ (.int .i64 2) ?_
   refine pure_ (.bool true) ?_
   refine nil_ (then_n (cond_T ?_))
   refine wp_skip (then_n (seq_ (wp_block (seq_ (reg_ ?_)))))
   refine loadN_ zS6 0 56 (polP p ka kn kc) zb1 0 ?_
   refine pure_ (.int .i64 2) ?_
   refine pure_ (.int .i64 0) ?_
   refine call_ 33 #[.agg (polP p ka kn kc), .int .i64 2, .int .i64 0] ?_
   refine (higher13_ p ka kn kc 2 0 _ ).mono ?_; rintro _ zw80 ⟨rfl, zh81⟩
   have zS82 := zS6.quiet zh81
   refine pure_ (.bool (Sd.higher p 2 0)) ?_
   refine nil_ (then_n (seq_ (reg_ ?_)))
   refine pure_ (.int .u8 b) ?_
   refine pure_ (.int .i64 2) ?_
   refine pure_ (.int .u8 (Int.fdiv b (2 ^ 2))) ?_
   refine pureE_ (.int .u8 (bits .and .u8 (Int.fdiv b (2 ^ 2)) 1)) (.int .u8 ((Int.fdiv b (2 ^ 2)) % 2)) (congrArg _ (and_mask .u8 (Int.fdiv b (2 ^ 2)) 1 2 1 (by decide) (by decide) (by decide))) ?_
   refine pure_ (.bool (((Int.fdiv b (2 ^ 2)) % 2) == 1)) ?_
   refine move_ ?_
   refine slot_ 23 (((Int.fdiv b (2 ^ 2)) % 2) == 1) ?_ ?_
   · intro zh84
     have zh85 := eqT' zh84
     refine pure_ (.int .i64 2) ?_
     refine pure_ (.int .i64 f) ?_
     refine pureE_ (.bool (2 != f)) (.bool true) (congrArg Value.bool (neT (by omega))) ?_
     refine pure_ (.bool true) ?_
     refine pure_ (.bool true) ?_
     refine pure_ (.int .i64 0) ?_
     refine pure_ (.bool true) ?_
     refine pure_ (.bool true) ?_
     refine skip_ ?_
     refine pure_ (.bool true) ?_
     refine pure_ (.bool true) ?_
     refine nil_ (then_n (cond_T ?_))
     refine reg_ ?_
     refine pure_ (.int .i64 2) ?_
     refine pure_ (.int .i64 2) ?_
     refine nil_ (blk_n (then_n (reg_ ?_)))
     refine pure_ (.int .i64 2) ?_
     refine pure_ (.int .i64 3) ?_
     refine pure_ (.int .i64 3) ?_
     refine nil_ (again_ (seq_ (seq_ (reg_ ?_))))
     refine pure_ (.int .i64 3) ?_
     refine pure_ (.bool true) ?_
     refine nil_ (then_n (cond_T ?_))
     refine wp_skip (then_n (seq_ (wp_block (seq_ (reg_ ?_)))))
     refine loadN_ zS82 0 56 (polP p ka kn kc) zb1 0 ?_
     refine pure_ (.int .i64 3) ?_
     refine pure_ (.int .i64 2) ?_
     refine call_ 33 #[.agg (polP p ka kn kc), .int .i64 3, .int .i64 2] ?_
     refine (higher13_ p ka kn kc 3 2 _ ).mono ?_; rintro _ zw86 ⟨rfl, zh87⟩
     have zS88 := zS82.quiet zh87
     refine pure_ (.bool (Sd.higher p 3 2)) ?_
     refine nil_ (then_n (seq_ (reg_ ?_)))
     refine pure_ (.int .u8 b) ?_
     refine pure_ (.int .i64 3) ?_
     refine pure_ (.int .u8 (Int.fdiv b (2 ^ 3))) ?_
     refine pureE_ (.int .u8 (bits .and .u8 (Int.fdiv b (2 ^ 3)) 1)) (.int .u8 ((Int.fdiv b (2 ^ 3)) % 2)) (congrArg _ (and_mask .u8 (Int.fdiv b (2 ^ 3)) 1 2 1 (by decide) (by decide) (by decide))) ?_
     refine pure_ (.bool (((Int.fdiv b (2 ^ 3)) % 2) == 1)) ?_
     refine move_ ?_
     refine slot_ 23 (((Int.fdiv b (2 ^ 3)) % 2) == 1) ?_ ?_
     · intro zh90
       have zh91 := eqT' zh90
       refine pure_ (.int .i64 3) ?_
       refine pure_ (.int .i64 f) ?_
       refine pureE_ (.bool (3 != f)) (.bool true) (congrArg Value.bool (neT (by omega))) ?_
       refine pure_ (.bool true) ?_
       refine pure_ (.bool true) ?_
       refine pure_ (.int .i64 2) ?_
       refine pure_ (.bool false) ?_
       refine pure_ (.bool false) ?_
       refine pure_ (.bool (Sd.higher p 3 2)) ?_
       refine pure_ (.bool (Sd.higher p 3 2)) ?_
       refine pure_ (.bool (Sd.higher p 3 2)) ?_
       refine nil_ (then_n ?_)
       refine cond_S (Sd.higher p 3 2) ?_ ?_
       · intro zh92
         refine reg_ ?_
         refine pure_ (.int .i64 3) ?_
         refine pure_ (.int .i64 3) ?_
         refine nil_ (blk_n (then_n (reg_ ?_)))
         refine pure_ (.int .i64 3) ?_
         refine pure_ (.int .i64 4) ?_
         refine pure_ (.int .i64 4) ?_
         refine nil_ (again_ (seq_ (seq_ (reg_ ?_))))
         refine pure_ (.int .i64 4) ?_
         refine pure_ (.bool false) ?_
         refine nil_ (then_n (cond_F ?_))
         refine wp_exit (then_e (then_e (blk_e (then_n (seq_ (reg_ ?_))))))
         refine pure_ (.int .i64 3) ?_
         refine pure_ (.int .i64 3) ?_
         refine nil_ (then_n (wp_ret ?_))
         refine ret_ rfl (res_ [.tmp 6] [.int .i64 3] (.int .i64 3) ⟨res_tmp, trivial⟩) ?_
         exact ⟨congrArg _ (by unfold bestP bs1 bitB; simp only [zh8, zh78, zh84, zh90, zh92, (show ((1 : Int) != f) = false from zh78), (show ((2 : Int) != f) = true from neT (by omega)), (show ((3 : Int) != f) = true from neT (by omega)), cond_true, cond_false, Bool.true_and, Bool.false_and, Bool.and_true, Bool.and_false, Bool.true_or, Bool.or_true, Bool.false_or, Bool.or_false, beq_self_eq_true, (by decide : ((1 : Int) == 0) = false), (by decide : ((2 : Int) == 0) = false), (by decide : ((3 : Int) == 0) = false)]; try rfl), zS88.ch⟩
       intro zh93
       refine wp_skip (blk_n (then_n (reg_ ?_)))
       refine pure_ (.int .i64 3) ?_
       refine pure_ (.int .i64 4) ?_
       refine pure_ (.int .i64 4) ?_
       refine nil_ (again_ (seq_ (seq_ (reg_ ?_))))
       refine pure_ (.int .i64 4) ?_
       refine pure_ (.bool false) ?_
       refine nil_ (then_n (cond_F ?_))
       refine wp_exit (then_e (then_e (blk_e (then_n (seq_ (reg_ ?_))))))
       refine pure_ (.int .i64 2) ?_
       refine pure_ (.int .i64 2) ?_
       refine nil_ (then_n (wp_ret ?_))
       refine ret_ rfl (res_ [.tmp 6] [.int .i64 2] (.int .i64 2) ⟨res_tmp, trivial⟩) ?_
       exact ⟨congrArg _ (by unfold bestP bs1 bitB; simp only [zh8, zh78, zh84, zh90, zh93, (show ((1 : Int) != f) = false from zh78), (show ((2 : Int) != f) = true from neT (by omega)), (show ((3 : Int) != f) = true from neT (by omega)), cond_true, cond_false, Bool.true_and, Bool.false_and, Bool.and_true, Bool.and_false, Bool.true_or, Bool.or_true, Bool.false_or, Bool.or_false, beq_self_eq_true, (by decide : ((1 : Int) == 0) = false), (by decide : ((2 : Int) == 0) = false), (by decide : ((3 : Int) == 0) = false)]; try rfl), zS88.ch⟩
     intro zh94
     have zh95 := eqF' zh94
     refine skip_ ?_
     refine skip_ ?_
     refine skip_ ?_
     refine pure_ (.bool false) ?_
     refine pure_ (.bool false) ?_
     refine skip_ ?_
     refine skip_ ?_
     refine skip_ ?_
     refine skip_ ?_
     refine skip_ ?_
     refine pure_ (.bool false) ?_
     refine nil_ (then_n (cond_F ?_))
     refine wp_skip (blk_n (then_n (reg_ ?_)))
     refine pure_ (.int .i64 3) ?_
     refine pure_ (.int .i64 4) ?_
     refine pure_ (.int .i64 4) ?_
     refine nil_ (again_ (seq_ (seq_ (reg_ ?_))))
     refine pure_ (.int .i64 4) ?_
     refine pure_ (.bool false) ?_
     refine nil_ (then_n (cond_F ?_))
     refine wp_exit (then_e (then_e (blk_e (then_n (seq_ (reg_ ?_))))))
     refine pure_ (.int .i64 2) ?_
     refine pure_ (.int .i64 2) ?_
     refine nil_ (then_n (wp_ret ?_))
     refine ret_ rfl (res_ [.tmp 6] [.int .i64 2] (.int .i64 2) ⟨res_tmp, trivial⟩) ?_
     exact ⟨congrArg _ (by unfold bestP bs1 bitB; simp only [zh8, zh78, zh84, zh94, (show ((1 : Int) != f) = false from zh78), (show ((2 : Int) != f) = true from neT (by omega)), (show ((3 : Int) != f) = true from neT (by omega)), cond_true, cond_false, Bool.true_and, Bool.false_and, Bool.and_true, Bool.and_false, Bool.true_or, Bool.or_true, Bool.false_or, Bool.or_false, beq_self_eq_true, (by decide : ((1 : Int) == 0) = false), (by decide : ((2 : Int) == 0) = false), (by decide : ((3 : Int) == 0) = false)]; try rfl), zS88.ch⟩
   intro zh96
   have zh97 := eqF' zh96
   refine skip_ ?_
   refine skip_ ?_
   refine skip_ ?_
   refine pure_ (.bool false) ?_
   refine pure_ (.bool false) ?_
   refine skip_ ?_
   refine skip_ ?_
   refine skip_ ?_
   refine skip_ ?_
   refine skip_ ?_
   refine pure_ (.bool false) ?_
   refine nil_ (then_n (cond_F ?_))
   refine wp_skip (blk_n (then_n (reg_ ?_)))
   refine pure_ (.int .i64 2) ?_
   refine pure_ (.int .i64 3) ?_
   refine pure_ (.int .i64 3) ?_
   refine nil_ (again_ (seq_ (seq_ (reg_ ?_))))
   refine pure_ (.int .i64 3) ?_
   refine pure_ (.bool true) ?_
   refine nil_ (then_n (cond_T ?_))
   refine wp_skip (then_n (seq_ (wp_block (seq_ (reg_ ?_)))))
   refine loadN_ zS82 0 56 (polP p ka kn kc) zb1 0 ?_
   refine pure_ (.int .i64 3) ?_
   refine pure_ (.int .i64 0) ?_
   refine call_ 33 #[.agg (polP p ka kn kc), .int .i64 3, .int .i64 0] ?_
   refine (higher13_ p ka kn kc 3 0 _ ).mono ?_; rintro _ zw98 ⟨rfl, zh99⟩
   have zS100 := zS82.quiet zh99
   refine pure_ (.bool (Sd.higher p 3 0)) ?_
   refine nil_ (then_n (seq_ (reg_ ?_)))
   refine pure_ (.int .u8 b) ?_
   refine pure_ (.int .i64 3) ?_
   refine pure_ (.int .u8 (Int.fdiv b (2 ^ 3))) ?_
   refine pureE_ (.int .u8 (bits .and .u8 (Int.fdiv b (2 ^ 3)) 1)) (.int .u8 ((Int.fdiv b (2 ^ 3)) % 2)) (congrArg _ (and_mask .u8 (Int.fdiv b (2 ^ 3)) 1 2 1 (by decide) (by decide) (by decide))) ?_
   refine pure_ (.bool (((Int.fdiv b (2 ^ 3)) % 2) == 1)) ?_
   refine move_ ?_
   refine slot_ 23 (((Int.fdiv b (2 ^ 3)) % 2) == 1) ?_ ?_
   · intro zh102
     have zh103 := eqT' zh102
     refine pure_ (.int .i64 3) ?_
     refine pure_ (.int .i64 f) ?_
     refine pureE_ (.bool (3 != f)) (.bool true) (congrArg Value.bool (neT (by omega))) ?_
     refine pure_ (.bool true) ?_
     refine pure_ (.bool true) ?_
     refine pure_ (.int .i64 0) ?_
     refine pure_ (.bool true) ?_
     refine pure_ (.bool true) ?_
     refine skip_ ?_
     refine pure_ (.bool true) ?_
     refine pure_ (.bool true) ?_
     refine nil_ (then_n (cond_T ?_))
     refine reg_ ?_
     refine pure_ (.int .i64 3) ?_
     refine pure_ (.int .i64 3) ?_
     refine nil_ (blk_n (then_n (reg_ ?_)))
     refine pure_ (.int .i64 3) ?_
     refine pure_ (.int .i64 4) ?_
     refine pure_ (.int .i64 4) ?_
     refine nil_ (again_ (seq_ (seq_ (reg_ ?_))))
     refine pure_ (.int .i64 4) ?_
     refine pure_ (.bool false) ?_
     refine nil_ (then_n (cond_F ?_))
     refine wp_exit (then_e (then_e (blk_e (then_n (seq_ (reg_ ?_))))))
     refine pure_ (.int .i64 3) ?_
     refine pure_ (.int .i64 3) ?_
     refine nil_ (then_n (wp_ret ?_))
     refine ret_ rfl (res_ [.tmp 6] [.int .i64 3] (.int .i64 3) ⟨res_tmp, trivial⟩) ?_
     exact ⟨congrArg _ (by unfold bestP bs1 bitB; simp only [zh8, zh78, zh96, zh102, (show ((1 : Int) != f) = false from zh78), (show ((2 : Int) != f) = true from neT (by omega)), (show ((3 : Int) != f) = true from neT (by omega)), cond_true, cond_false, Bool.true_and, Bool.false_and, Bool.and_true, Bool.and_false, Bool.true_or, Bool.or_true, Bool.false_or, Bool.or_false, beq_self_eq_true, (by decide : ((1 : Int) == 0) = false), (by decide : ((2 : Int) == 0) = false), (by decide : ((3 : Int) == 0) = false)]; try rfl), zS100.ch⟩
   intro zh104
   have zh105 := eqF' zh104
   refine skip_ ?_
   refine skip_ ?_
   refine skip_ ?_
   refine pure_ (.bool false) ?_
   refine pure_ (.bool false) ?_
   refine skip_ ?_
   refine skip_ ?_
   refine skip_ ?_
   refine skip_ ?_
   refine skip_ ?_
   refine pure_ (.bool false) ?_
   refine nil_ (then_n (cond_F ?_))
   refine wp_skip (blk_n (then_n (reg_ ?_)))
   refine pure_ (.int .i64 3) ?_
   refine pure_ (.int .i64 4) ?_
   refine pure_ (.int .i64 4) ?_
   refine nil_ (again_ (seq_ (seq_ (reg_ ?_))))
   refine pure_ (.int .i64 4) ?_
   refine pure_ (.bool false) ?_
   refine nil_ (then_n (cond_F ?_))
   refine wp_exit (then_e (then_e (blk_e (then_n (seq_ (reg_ ?_))))))
   refine pure_ (.int .i64 0) ?_
   refine pure_ (.int .i64 0) ?_
   refine nil_ (then_n (wp_ret ?_))
   refine ret_ rfl (res_ [.tmp 6] [.int .i64 0] (.int .i64 0) ⟨res_tmp, trivial⟩) ?_
   exact ⟨congrArg _ (by unfold bestP bs1 bitB; simp only [zh8, zh78, zh96, zh104, (show ((1 : Int) != f) = false from zh78), (show ((2 : Int) != f) = true from neT (by omega)), (show ((3 : Int) != f) = true from neT (by omega)), cond_true, cond_false, Bool.true_and, Bool.false_and, Bool.and_true, Bool.and_false, Bool.true_or, Bool.or_true, Bool.false_or, Bool.or_false, beq_self_eq_true, (by decide : ((1 : Int) == 0) = false), (by decide : ((2 : Int) == 0) = false), (by decide : ((3 : Int) == 0) = false)]; try rfl), zS100.ch⟩
 intro zh106
 have zh107 := eqF' zh106
 refine skip_ ?_
 refine skip_ ?_
 refine skip_ ?_
 refine pure_ (.bool false) ?_
 refine pure_ (.bool false) ?_
 refine skip_ ?_
 refine skip_ ?_
 refine skip_ ?_
 refine skip_ ?_
 refine skip_ ?_
 refine pure_ (.bool false) ?_
 refine nil_ (then_n (cond_F ?_))
 refine wp_skip (blk_n (then_n (reg_ ?_)))
 refine pure_ (.int .i64 1) ?_
 refine pure_ (.int .i64 2) ?_
 refine pure_ (.int .i64 2) ?_
 refine nil_ (again_ (seq_ (seq_ (reg_ ?_))))
 refine pure_ (.int .i64 2) ?_
 refine pure_ (.bool true) ?_
 refine nil_ (then_n (cond_T ?_))
 refine wp_skip (then_n (seq_ (wp_block (seq_ (reg_ ?_)))))
 refine loadN_ zS6 0 56 (polP p ka kn kc) zb1 0 ?_
 refine pure_ (.int .i64 2) ?_
 refine pure_ (.int .i64 0) ?_
 refine call_ 33 #[.agg (polP p ka kn kc), .int .i64 2, .int .i64 0] ?_
 refine (higher13_ p ka kn kc 2 0 _ ).mono ?_; rintro _ zw108 ⟨rfl, zh109⟩
 have zS110 := zS6.quiet zh109
 refine pure_ (.bool (Sd.higher p 2 0)) ?_
 refine nil_ (then_n (seq_ (reg_ ?_)))
 refine pure_ (.int .u8 b) ?_
 refine pure_ (.int .i64 2) ?_
 refine pure_ (.int .u8 (Int.fdiv b (2 ^ 2))) ?_
 refine pureE_ (.int .u8 (bits .and .u8 (Int.fdiv b (2 ^ 2)) 1)) (.int .u8 ((Int.fdiv b (2 ^ 2)) % 2)) (congrArg _ (and_mask .u8 (Int.fdiv b (2 ^ 2)) 1 2 1 (by decide) (by decide) (by decide))) ?_
 refine pure_ (.bool (((Int.fdiv b (2 ^ 2)) % 2) == 1)) ?_
 refine move_ ?_
 refine slot_ 23 (((Int.fdiv b (2 ^ 2)) % 2) == 1) ?_ ?_
 · intro zh112
   have zh113 := eqT' zh112
   refine pure_ (.int .i64 2) ?_
   refine pure_ (.int .i64 f) ?_
   refine pure_ (.bool (2 != f)) ?_
   refine pure_ (.bool (2 != f)) ?_
   refine pure_ (.bool (2 != f)) ?_
   refine slot_ 28 (2 != f) ?_ ?_
   · intro zh114
     have zh115 := neT' zh114
     refine pure_ (.int .i64 0) ?_
     refine pure_ (.bool true) ?_
     refine pure_ (.bool true) ?_
     refine skip_ ?_
     refine pure_ (.bool true) ?_
     refine pure_ (.bool true) ?_
     refine nil_ (then_n (cond_T ?_))
     refine reg_ ?_
     refine pure_ (.int .i64 2) ?_
     refine pure_ (.int .i64 2) ?_
     refine nil_ (blk_n (then_n (reg_ ?_)))
     refine pure_ (.int .i64 2) ?_
     refine pure_ (.int .i64 3) ?_
     refine pure_ (.int .i64 3) ?_
     refine nil_ (again_ (seq_ (seq_ (reg_ ?_))))
     refine pure_ (.int .i64 3) ?_
     refine pure_ (.bool true) ?_
     refine nil_ (then_n (cond_T ?_))
     refine wp_skip (then_n (seq_ (wp_block (seq_ (reg_ ?_)))))
     refine loadN_ zS110 0 56 (polP p ka kn kc) zb1 0 ?_
     refine pure_ (.int .i64 3) ?_
     refine pure_ (.int .i64 2) ?_
     refine call_ 33 #[.agg (polP p ka kn kc), .int .i64 3, .int .i64 2] ?_
     refine (higher13_ p ka kn kc 3 2 _ ).mono ?_; rintro _ zw116 ⟨rfl, zh117⟩
     have zS118 := zS110.quiet zh117
     refine pure_ (.bool (Sd.higher p 3 2)) ?_
     refine nil_ (then_n (seq_ (reg_ ?_)))
     refine pure_ (.int .u8 b) ?_
     refine pure_ (.int .i64 3) ?_
     refine pure_ (.int .u8 (Int.fdiv b (2 ^ 3))) ?_
     refine pureE_ (.int .u8 (bits .and .u8 (Int.fdiv b (2 ^ 3)) 1)) (.int .u8 ((Int.fdiv b (2 ^ 3)) % 2)) (congrArg _ (and_mask .u8 (Int.fdiv b (2 ^ 3)) 1 2 1 (by decide) (by decide) (by decide))) ?_
     refine pure_ (.bool (((Int.fdiv b (2 ^ 3)) % 2) == 1)) ?_
     refine move_ ?_
     refine slot_ 23 (((Int.fdiv b (2 ^ 3)) % 2) == 1) ?_ ?_
     · intro zh120
       have zh121 := eqT' zh120
       refine pure_ (.int .i64 3) ?_
       refine pure_ (.int .i64 f) ?_
       refine pure_ (.bool (3 != f)) ?_
       refine pure_ (.bool (3 != f)) ?_
       refine pure_ (.bool (3 != f)) ?_
       refine slot_ 28 (3 != f) ?_ ?_
       · intro zh122
         have zh123 := neT' zh122
         refine pure_ (.int .i64 2) ?_
         refine pure_ (.bool false) ?_
         refine pure_ (.bool false) ?_
         refine pure_ (.bool (Sd.higher p 3 2)) ?_
         refine pure_ (.bool (Sd.higher p 3 2)) ?_
         refine pure_ (.bool (Sd.higher p 3 2)) ?_
         refine nil_ (then_n ?_)
         refine cond_S (Sd.higher p 3 2) ?_ ?_
         · intro zh124
           refine reg_ ?_
           refine pure_ (.int .i64 3) ?_
           refine pure_ (.int .i64 3) ?_
           refine nil_ (blk_n (then_n (reg_ ?_)))
           refine pure_ (.int .i64 3) ?_
           refine pure_ (.int .i64 4) ?_
           refine pure_ (.int .i64 4) ?_
           refine nil_ (again_ (seq_ (seq_ (reg_ ?_))))
           refine pure_ (.int .i64 4) ?_
           refine pure_ (.bool false) ?_
           refine nil_ (then_n (cond_F ?_))
           refine wp_exit (then_e (then_e (blk_e (then_n (seq_ (reg_ ?_))))))
           refine pure_ (.int .i64 3) ?_
           refine pure_ (.int .i64 3) ?_
           refine nil_ (then_n (wp_ret ?_))
           refine ret_ rfl (res_ [.tmp 6] [.int .i64 3] (.int .i64 3) ⟨res_tmp, trivial⟩) ?_
           exact ⟨congrArg _ (by unfold bestP bs1 bitB; simp only [zh106, zh112, zh114, zh120, zh122, zh124, (show ((2 : Int) != f) = true from zh114), (show ((3 : Int) != f) = true from zh122), cond_true, cond_false, Bool.true_and, Bool.false_and, Bool.and_true, Bool.and_false, Bool.true_or, Bool.or_true, Bool.false_or, Bool.or_false, beq_self_eq_true, (by decide : ((1 : Int) == 0) = false), (by decide : ((2 : Int) == 0) = false), (by decide : ((3 : Int) == 0) = false)]; try rfl), zS118.ch⟩
         intro zh125
         refine wp_skip (blk_n (then_n (reg_ ?_)))
         refine pure_ (.int .i64 3) ?_
         refine pure_ (.int .i64 4) ?_
         refine pure_ (.int .i64 4) ?_
         refine nil_ (again_ (seq_ (seq_ (reg_ ?_))))
         refine pure_ (.int .i64 4) ?_
         refine pure_ (.bool false) ?_
         refine nil_ (then_n (cond_F ?_))
         refine wp_exit (then_e (then_e (blk_e (then_n (seq_ (reg_ ?_))))))
         refine pure_ (.int .i64 2) ?_
         refine pure_ (.int .i64 2) ?_
         refine nil_ (then_n (wp_ret ?_))
         refine ret_ rfl (res_ [.tmp 6] [.int .i64 2] (.int .i64 2) ⟨res_tmp, trivial⟩) ?_
         exact ⟨congrArg _ (by unfold bestP bs1 bitB; simp only [zh106, zh112, zh114, zh120, zh122, zh125, (show ((2 : Int) != f) = true from zh114), (show ((3 : Int) != f) = true from zh122), cond_true, cond_false, Bool.true_and, Bool.false_and, Bool.and_true, Bool.and_false, Bool.true_or, Bool.or_true, Bool.false_or, Bool.or_false, beq_self_eq_true, (by decide : ((1 : Int) == 0) = false), (by decide : ((2 : Int) == 0) = false), (by decide : ((3 : Int) == 0) = false)]; try rfl), zS118.ch⟩
       intro zh126
       have zh127 := neF' zh126
       refine skip_ ?_
       refine skip_ ?_
       refine skip_ ?_
       refine skip_ ?_
       refine skip_ ?_
       refine pure_ (.bool false) ?_
       refine nil_ (then_n (cond_F ?_))
       refine wp_skip (blk_n (then_n (reg_ ?_)))
       refine pure_ (.int .i64 3) ?_
       refine pure_ (.int .i64 4) ?_
       refine pure_ (.int .i64 4) ?_
       refine nil_ (again_ (seq_ (seq_ (reg_ ?_))))
       refine pure_ (.int .i64 4) ?_
       refine pure_ (.bool false) ?_
       refine nil_ (then_n (cond_F ?_))
       refine wp_exit (then_e (then_e (blk_e (then_n (seq_ (reg_ ?_))))))
       refine pure_ (.int .i64 2) ?_
       refine pure_ (.int .i64 2) ?_
       refine nil_ (then_n (wp_ret ?_))
       refine ret_ rfl (res_ [.tmp 6] [.int .i64 2] (.int .i64 2) ⟨res_tmp, trivial⟩) ?_
       exact ⟨congrArg _ (by unfold bestP bs1 bitB; simp only [zh106, zh112, zh114, zh120, zh126, (show ((1 : Int) != f) = true from neT (by omega)), (show ((2 : Int) != f) = true from zh114), (show ((3 : Int) != f) = false from zh126), cond_true, cond_false, Bool.true_and, Bool.false_and, Bool.and_true, Bool.and_false, Bool.true_or, Bool.or_true, Bool.false_or, Bool.or_false, beq_self_eq_true, (by decide : ((1 : Int) == 0) = false), (by decide : ((2 : Int) == 0) = false), (by decide : ((3 : Int) == 0) = false)]; try rfl), zS118.ch⟩
     intro zh128
     have zh129 := eqF' zh128
     refine skip_ ?_
     refine skip_ ?_
     refine skip_ ?_
     refine pure_ (.bool false) ?_
     refine pure_ (.bool false) ?_
     refine skip_ ?_
     refine skip_ ?_
     refine skip_ ?_
     refine skip_ ?_
     refine skip_ ?_
     refine pure_ (.bool false) ?_
     refine nil_ (then_n (cond_F ?_))
     refine wp_skip (blk_n (then_n (reg_ ?_)))
     refine pure_ (.int .i64 3) ?_
     refine pure_ (.int .i64 4) ?_
     refine pure_ (.int .i64 4) ?_
     refine nil_ (again_ (seq_ (seq_ (reg_ ?_))))
     refine pure_ (.int .i64 4) ?_
     refine pure_ (.bool false) ?_
     refine nil_ (then_n (cond_F ?_))
     refine wp_exit (then_e (then_e (blk_e (then_n (seq_ (reg_ ?_))))))
     refine pure_ (.int .i64 2) ?_
     refine pure_ (.int .i64 2) ?_
     refine nil_ (then_n (wp_ret ?_))
     refine ret_ rfl (res_ [.tmp 6] [.int .i64 2] (.int .i64 2) ⟨res_tmp, trivial⟩) ?_
     exact ⟨congrArg _ (by unfold bestP bs1 bitB; simp only [zh106, zh112, zh114, zh128, (show ((2 : Int) != f) = true from zh114), cond_true, cond_false, Bool.true_and, Bool.false_and, Bool.and_true, Bool.and_false, Bool.true_or, Bool.or_true, Bool.false_or, Bool.or_false, beq_self_eq_true, (by decide : ((1 : Int) == 0) = false), (by decide : ((2 : Int) == 0) = false), (by decide : ((3 : Int) == 0) = false)]; try rfl), zS118.ch⟩
   intro zh130
   have zh131 := neF' zh130
   refine skip_ ?_
   refine skip_ ?_
   refine skip_ ?_
   refine skip_ ?_
   refine skip_ ?_
   refine pure_ (.bool false) ?_
   refine nil_ (then_n (cond_F ?_))
   refine wp_skip (blk_n (then_n (reg_ ?_)))
   refine pure_ (.int .i64 2) ?_
   refine pure_ (.int .i64 3) ?_
   refine pure_ (.int .i64 3) ?_
   refine nil_ (again_ (seq_ (seq_ (reg_ ?_))))
   refine pure_ (.int .i64 3) ?_
   refine pure_ (.bool true) ?_
   refine nil_ (then_n (cond_T ?_))
   refine wp_skip (then_n (seq_ (wp_block (seq_ (reg_ ?_)))))
   refine loadN_ zS110 0 56 (polP p ka kn kc) zb1 0 ?_
   refine pure_ (.int .i64 3) ?_
   refine pure_ (.int .i64 0) ?_
   refine call_ 33 #[.agg (polP p ka kn kc), .int .i64 3, .int .i64 0] ?_
   refine (higher13_ p ka kn kc 3 0 _ ).mono ?_; rintro _ zw132 ⟨rfl, zh133⟩
   have zS134 := zS110.quiet zh133
   refine pure_ (.bool (Sd.higher p 3 0)) ?_
   refine nil_ (then_n (seq_ (reg_ ?_)))
   refine pure_ (.int .u8 b) ?_
   refine pure_ (.int .i64 3) ?_
   refine pure_ (.int .u8 (Int.fdiv b (2 ^ 3))) ?_
   refine pureE_ (.int .u8 (bits .and .u8 (Int.fdiv b (2 ^ 3)) 1)) (.int .u8 ((Int.fdiv b (2 ^ 3)) % 2)) (congrArg _ (and_mask .u8 (Int.fdiv b (2 ^ 3)) 1 2 1 (by decide) (by decide) (by decide))) ?_
   refine pure_ (.bool (((Int.fdiv b (2 ^ 3)) % 2) == 1)) ?_
   refine move_ ?_
   refine slot_ 23 (((Int.fdiv b (2 ^ 3)) % 2) == 1) ?_ ?_
   · intro zh136
     have zh137 := eqT' zh136
     refine pure_ (.int .i64 3) ?_
     refine pure_ (.int .i64 f) ?_
     refine pureE_ (.bool (3 != f)) (.bool true) (congrArg Value.bool (neT (by omega))) ?_
     refine pure_ (.bool true) ?_
     refine pure_ (.bool true) ?_
     refine pure_ (.int .i64 0) ?_
     refine pure_ (.bool true) ?_
     refine pure_ (.bool true) ?_
     refine skip_ ?_
     refine pure_ (.bool true) ?_
     refine pure_ (.bool true) ?_
     refine nil_ (then_n (cond_T ?_))
     refine reg_ ?_
     refine pure_ (.int .i64 3) ?_
     refine pure_ (.int .i64 3) ?_
     refine nil_ (blk_n (then_n (reg_ ?_)))
     refine pure_ (.int .i64 3) ?_
     refine pure_ (.int .i64 4) ?_
     refine pure_ (.int .i64 4) ?_
     refine nil_ (again_ (seq_ (seq_ (reg_ ?_))))
     refine pure_ (.int .i64 4) ?_
     refine pure_ (.bool false) ?_
     refine nil_ (then_n (cond_F ?_))
     refine wp_exit (then_e (then_e (blk_e (then_n (seq_ (reg_ ?_))))))
     refine pure_ (.int .i64 3) ?_
     refine pure_ (.int .i64 3) ?_
     refine nil_ (then_n (wp_ret ?_))
     refine ret_ rfl (res_ [.tmp 6] [.int .i64 3] (.int .i64 3) ⟨res_tmp, trivial⟩) ?_
     exact ⟨congrArg _ (by unfold bestP bs1 bitB; simp only [zh106, zh112, zh130, zh136, (show ((1 : Int) != f) = true from neT (by omega)), (show ((2 : Int) != f) = false from zh130), (show ((3 : Int) != f) = true from neT (by omega)), cond_true, cond_false, Bool.true_and, Bool.false_and, Bool.and_true, Bool.and_false, Bool.true_or, Bool.or_true, Bool.false_or, Bool.or_false, beq_self_eq_true, (by decide : ((1 : Int) == 0) = false), (by decide : ((2 : Int) == 0) = false), (by decide : ((3 : Int) == 0) = false)]; try rfl), zS134.ch⟩
   intro zh138
   have zh139 := eqF' zh138
   refine skip_ ?_
   refine skip_ ?_
   refine skip_ ?_
   refine pure_ (.bool false) ?_
   refine pure_ (.bool false) ?_
   refine skip_ ?_
   refine skip_ ?_
   refine skip_ ?_
   refine skip_ ?_
   refine skip_ ?_
   refine pure_ (.bool false) ?_
   refine nil_ (then_n (cond_F ?_))
   refine wp_skip (blk_n (then_n (reg_ ?_)))
   refine pure_ (.int .i64 3) ?_
   refine pure_ (.int .i64 4) ?_
   refine pure_ (.int .i64 4) ?_
   refine nil_ (again_ (seq_ (seq_ (reg_ ?_))))
   refine pure_ (.int .i64 4) ?_
   refine pure_ (.bool false) ?_
   refine nil_ (then_n (cond_F ?_))
   refine wp_exit (then_e (then_e (blk_e (then_n (seq_ (reg_ ?_))))))
   refine pure_ (.int .i64 0) ?_
   refine pure_ (.int .i64 0) ?_
   refine nil_ (then_n (wp_ret ?_))
   refine ret_ rfl (res_ [.tmp 6] [.int .i64 0] (.int .i64 0) ⟨res_tmp, trivial⟩) ?_
   exact ⟨congrArg _ (by unfold bestP bs1 bitB; simp only [zh106, zh112, zh130, zh138, (show ((1 : Int) != f) = true from neT (by omega)), (show ((2 : Int) != f) = false from zh130), (show ((3 : Int) != f) = true from neT (by omega)), cond_true, cond_false, Bool.true_and, Bool.false_and, Bool.and_true, Bool.and_false, Bool.true_or, Bool.or_true, Bool.false_or, Bool.or_false, beq_self_eq_true, (by decide : ((1 : Int) == 0) = false), (by decide : ((2 : Int) == 0) = false), (by decide : ((3 : Int) == 0) = false)]; try rfl), zS134.ch⟩
 intro zh140
 have zh141 := eqF' zh140
 refine skip_ ?_
 refine skip_ ?_
 refine skip_ ?_
 refine pure_ (.bool false) ?_
 refine pure_ (.bool false) ?_
 refine skip_ ?_
 refine skip_ ?_
 refine skip_ ?_
 refine skip_ ?_
 refine skip_ ?_
 refine pure_ (.bool false) ?_
 refine nil_ (then_n (cond_F ?_))
 refine wp_skip (blk_n (then_n (reg_ ?_)))
 refine pure_ (.int .i64 2) ?_
 refine pure_ (.int .i64 3) ?_
 refine pure_ (.int .i64 3) ?_
 refine nil_ (again_ (seq_ (seq_ (reg_ ?_))))
 refine pure_ (.int .i64 3) ?_
 refine pure_ (.bool true) ?_
 refine nil_ (then_n (cond_T ?_))
 refine wp_skip (then_n (seq_ (wp_block (seq_ (reg_ ?_)))))
 refine loadN_ zS110 0 56 (polP p ka kn kc) zb1 0 ?_
 refine pure_ (.int .i64 3) ?_
 refine pure_ (.int .i64 0) ?_
 refine call_ 33 #[.agg (polP p ka kn kc), .int .i64 3, .int .i64 0] ?_
 refine (higher13_ p ka kn kc 3 0 _ ).mono ?_; rintro _ zw142 ⟨rfl, zh143⟩
 have zS144 := zS110.quiet zh143
 refine pure_ (.bool (Sd.higher p 3 0)) ?_
 refine nil_ (then_n (seq_ (reg_ ?_)))
 refine pure_ (.int .u8 b) ?_
 refine pure_ (.int .i64 3) ?_
 refine pure_ (.int .u8 (Int.fdiv b (2 ^ 3))) ?_
 refine pureE_ (.int .u8 (bits .and .u8 (Int.fdiv b (2 ^ 3)) 1)) (.int .u8 ((Int.fdiv b (2 ^ 3)) % 2)) (congrArg _ (and_mask .u8 (Int.fdiv b (2 ^ 3)) 1 2 1 (by decide) (by decide) (by decide))) ?_
 refine pure_ (.bool (((Int.fdiv b (2 ^ 3)) % 2) == 1)) ?_
 refine move_ ?_
 refine slot_ 23 (((Int.fdiv b (2 ^ 3)) % 2) == 1) ?_ ?_
 · intro zh146
   have zh147 := eqT' zh146
   refine pure_ (.int .i64 3) ?_
   refine pure_ (.int .i64 f) ?_
   refine pure_ (.bool (3 != f)) ?_
   refine pure_ (.bool (3 != f)) ?_
   refine pure_ (.bool (3 != f)) ?_
   refine slot_ 28 (3 != f) ?_ ?_
   · intro zh148
     have zh149 := neT' zh148
     refine pure_ (.int .i64 0) ?_
     refine pure_ (.bool true) ?_
     refine pure_ (.bool true) ?_
     refine skip_ ?_
     refine pure_ (.bool true) ?_
     refine pure_ (.bool true) ?_
     refine nil_ (then_n (cond_T ?_))
     refine reg_ ?_
     refine pure_ (.int .i64 3) ?_
     refine pure_ (.int .i64 3) ?_
     refine nil_ (blk_n (then_n (reg_ ?_)))
     refine pure_ (.int .i64 3) ?_
     refine pure_ (.int .i64 4) ?_
     refine pure_ (.int .i64 4) ?_
     refine nil_ (again_ (seq_ (seq_ (reg_ ?_))))
     refine pure_ (.int .i64 4) ?_
     refine pure_ (.bool false) ?_
     refine nil_ (then_n (cond_F ?_))
     refine wp_exit (then_e (then_e (blk_e (then_n (seq_ (reg_ ?_))))))
     refine pure_ (.int .i64 3) ?_
     refine pure_ (.int .i64 3) ?_
     refine nil_ (then_n (wp_ret ?_))
     refine ret_ rfl (res_ [.tmp 6] [.int .i64 3] (.int .i64 3) ⟨res_tmp, trivial⟩) ?_
     exact ⟨congrArg _ (by unfold bestP bs1 bitB; simp only [zh106, zh140, zh146, zh148, (show ((3 : Int) != f) = true from zh148), cond_true, cond_false, Bool.true_and, Bool.false_and, Bool.and_true, Bool.and_false, Bool.true_or, Bool.or_true, Bool.false_or, Bool.or_false, beq_self_eq_true, (by decide : ((1 : Int) == 0) = false), (by decide : ((2 : Int) == 0) = false), (by decide : ((3 : Int) == 0) = false)]; try rfl), zS144.ch⟩
   intro zh150
   have zh151 := neF' zh150
   refine skip_ ?_
   refine skip_ ?_
   refine skip_ ?_
   refine skip_ ?_
   refine skip_ ?_
   refine pure_ (.bool false) ?_
   refine nil_ (then_n (cond_F ?_))
   refine wp_skip (blk_n (then_n (reg_ ?_)))
   refine pure_ (.int .i64 3) ?_
   refine pure_ (.int .i64 4) ?_
   refine pure_ (.int .i64 4) ?_
   refine nil_ (again_ (seq_ (seq_ (reg_ ?_))))
   refine pure_ (.int .i64 4) ?_
   refine pure_ (.bool false) ?_
   refine nil_ (then_n (cond_F ?_))
   refine wp_exit (then_e (then_e (blk_e (then_n (seq_ (reg_ ?_))))))
   refine pure_ (.int .i64 0) ?_
   refine pure_ (.int .i64 0) ?_
   refine nil_ (then_n (wp_ret ?_))
   refine ret_ rfl (res_ [.tmp 6] [.int .i64 0] (.int .i64 0) ⟨res_tmp, trivial⟩) ?_
   exact ⟨congrArg _ (by unfold bestP bs1 bitB; simp only [zh106, zh140, zh146, zh150, (show ((1 : Int) != f) = true from neT (by omega)), (show ((2 : Int) != f) = true from neT (by omega)), (show ((3 : Int) != f) = false from zh150), cond_true, cond_false, Bool.true_and, Bool.false_and, Bool.and_true, Bool.and_false, Bool.true_or, Bool.or_true, Bool.false_or, Bool.or_false, beq_self_eq_true, (by decide : ((1 : Int) == 0) = false), (by decide : ((2 : Int) == 0) = false), (by decide : ((3 : Int) == 0) = false)]; try rfl), zS144.ch⟩
 intro zh152
 have zh153 := eqF' zh152
 refine skip_ ?_
 refine skip_ ?_
 refine skip_ ?_
 refine pure_ (.bool false) ?_
 refine pure_ (.bool false) ?_
 refine skip_ ?_
 refine skip_ ?_
 refine skip_ ?_
 refine skip_ ?_
 refine skip_ ?_
 refine pure_ (.bool false) ?_
 refine nil_ (then_n (cond_F ?_))
 refine wp_skip (blk_n (then_n (reg_ ?_)))
 refine pure_ (.int .i64 3) ?_
 refine pure_ (.int .i64 4) ?_
 refine pure_ (.int .i64 4) ?_
 refine nil_ (again_ (seq_ (seq_ (reg_ ?_))))
 refine pure_ (.int .i64 4) ?_
 refine pure_ (.bool false) ?_
 refine nil_ (then_n (cond_F ?_))
 refine wp_exit (then_e (then_e (blk_e (then_n (seq_ (reg_ ?_))))))
 refine pure_ (.int .i64 0) ?_
 refine pure_ (.int .i64 0) ?_
 refine nil_ (then_n (wp_ret ?_))
 refine ret_ rfl (res_ [.tmp 6] [.int .i64 0] (.int .i64 0) ⟨res_tmp, trivial⟩) ?_
 exact ⟨congrArg _ (by unfold bestP bs1 bitB; simp only [zh106, zh140, zh152, cond_true, cond_false, Bool.true_and, Bool.false_and, Bool.and_true, Bool.and_false, Bool.true_or, Bool.or_true, Bool.false_or, Bool.or_false, beq_self_eq_true, (by decide : ((1 : Int) == 0) = false), (by decide : ((2 : Int) == 0) = false), (by decide : ((3 : Int) == 0) = false)]; try rfl), zS144.ch⟩

end Go.Proofs.Ytmfhgekknjghoaa
