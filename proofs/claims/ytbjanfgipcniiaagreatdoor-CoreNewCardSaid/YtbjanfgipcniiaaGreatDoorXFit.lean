/- Fit: a policy made one that may be. -/
import Derived.Test.YtbjanfgipcniiaaGreatDoorSQE
import Derived.Test.YtbjanfgipcniiaaGreatDoorXBase
import Derived.Test.YtbjanfgipcniiaaGreatDoorRows
namespace Go.Proofs.YtbjanfgipcniiaaGreatDoor
open Go Go.RowKit Go.BigFrame Sx
set_option linter.unusedVariables false
set_option linter.unusedSimpArgs false

def kmin (n : Nat) : Nat := min n 64
theorem kmin_is (n : Nat) : (if (64 : Int) < ((n : Nat) : Int) then 64 else ((n : Nat) : Int)) = ((kmin n : Nat) : Int) := by unfold kmin; split <;> omega
theorem kmin_le {n c : Nat} (h : n ≤ c) : kmin n ≤ c := by unfold kmin; omega
/-- the bytes of a key that may be -/
def keyL (n : Nat) (kb : Nat → Int) : List Int := bif Nat.beq n 0 then [7] else (List.range (kmin n)).map kb
def keyV (l : List Int) : List Value := l.map (Value.int .u8)
theorem keyL_len (n : Nat) (kb : Nat → Int) : 1 ≤ (keyL n kb).length ∧ (keyL n kb).length ≤ 64 := by
  unfold keyL
  cases h : Nat.beq n 0 with
  | true => simp
  | false =>
    have : n ≠ 0 := fun e => by rw [e] at h; simp at h
    simp [kmin]; omega
theorem keyL_0 {n : Nat} (kb : Nat → Int) (h : ((n : Nat) : Int) = 0) : keyL n kb = [7] := by
  obtain rfl : n = 0 := by omega
  rfl
theorem keyL_1 {n : Nat} (kb : Nat → Int) (h : ¬ ((n : Nat) : Int) = 0) : keyL n kb = (List.range (kmin n)).map kb := by
  unfold keyL
  cases hb : Nat.beq n 0 with
  | true => exact absurd (Nat.eq_of_beq_eq_true hb) (by omega)
  | false => rfl
theorem src_bytes {P : Program} {ms : List Nat} {w0 w : World} {bs : List Blk} (S : St ms w0 bs w) {ad : Addr} {n c m : Nat} {kb : Nat → Int} {tx e' : TypeId} (hk : P.underlying tx = some (.slice e')) (hm : ad.block ∉ ms) (hn : m ≤ n)
    (h : ∀ j, j < n → w0.cell? (ad.add j) = some (υ (kb j))) : Src P 1 tx (.slice (some ad) m c) m (keyV ((List.range m).map kb)) w := by
  refine srcO S _ hk (by simp [keyV]) (fun j u hj => ?_) hm (fun u hu => ?_)
  · have hj' : j < m := by
      rcases Nat.lt_or_ge j m with h1 | h1
      · exact h1
      · simp [keyV, List.getElem?_eq_none, h1] at hj
    simp [keyV, hj'] at hj
    rw [← hj]; exact h j (by omega)
  · simp only [keyV, List.mem_map] at hu
    obtain ⟨x, _, rfl⟩ := hu
    rfl
def modI (n m : Int) : Int := (Int.tmod n m + m) % m
theorem modI_bd (n m : Int) (h : 0 < m) : 0 ≤ modI n m ∧ modI n m < m := ⟨Int.emod_nonneg _ (by omega), Int.emod_lt_of_pos _ h⟩
theorem and14 (n : Int) : bits .and .i64 n 14 = n % 16 - n % 2 := by
  have h15 := and_mask .i64 n 15 16 4 (by decide) (by decide) (by decide)
  have h1 := and_mask .i64 n 1 2 1 (by decide) (by decide) (by decide)
  unfold bits at *
  simp only [BitVec.toNat_and] at *
  have hk : ∀ m : Nat, m &&& 14 = (m &&& 15) - (m &&& 1) := by
    intro m
    have e1 : m &&& 15 = m % 16 := Nat.and_two_pow_sub_one_eq_mod m 4
    have e2 : m &&& 1 = m % 2 := Nat.and_two_pow_sub_one_eq_mod m 1
    have e3 : m &&& 14 = (m % 16) &&& 14 := by
      rw [← e1, Nat.and_assoc]; rfl
    have e4 : m % 2 = (m % 16) % 2 := by omega
    rw [e1, e2, e3, e4]
    have h : m % 16 < 16 := Nat.mod_lt _ (by omega)
    generalize m % 16 = k at h
    match k, h with
    | 0, _ => rfl | 1, _ => rfl | 2, _ => rfl | 3, _ => rfl | 4, _ => rfl | 5, _ => rfl | 6, _ => rfl | 7, _ => rfl
    | 8, _ => rfl | 9, _ => rfl | 10, _ => rfl | 11, _ => rfl | 12, _ => rfl | 13, _ => rfl | 14, _ => rfl | 15, _ => rfl
    | k + 16, h => exact absurd h (by omega)
  have c14 : (BitVec.ofInt IntKind.i64.bits 14).toNat = 14 := by decide
  have c15 : (BitVec.ofInt IntKind.i64.bits 15).toNat = 15 := by decide
  have c1 : (BitVec.ofInt IntKind.i64.bits 1).toNat = 1 := by decide
  rw [c14]; rw [c15] at h15; rw [c1] at h1
  rw [hk]
  generalize (BitVec.ofInt IntKind.i64.bits n).toNat = m at *
  have hs15 : m &&& 15 < 16 := Nat.lt_of_le_of_lt Nat.and_le_right (by omega)
  have hs1 : m &&& 1 < 2 := Nat.lt_of_le_of_lt Nat.and_le_right (by omega)
  have w15 : IntKind.i64.wrap ((m &&& 15 : Nat) : Int) = ((m &&& 15 : Nat) : Int) := by rw [IntKind.wrap_i64]; omega
  have w1 : IntKind.i64.wrap ((m &&& 1 : Nat) : Int) = ((m &&& 1 : Nat) : Int) := by rw [IntKind.wrap_i64]; omega
  rw [w15] at h15; rw [w1] at h1
  rw [IntKind.wrap_i64]
  omega

set_option maxRecDepth 100000 in
set_option maxHeartbeats 4000000 in
theorem keyS_ (ad : Addr) (n c : Nat) (kb : Nat → Int) (w : World) {ms : List Nat} {w0 : World} {bs : List Blk} (S0 : St ms w0 bs w) (hm : ad.block ∉ ms) (hc : n ≤ c) (hb : ∀ j, j < n → w0.cell? (ad.add j) = some (υ (kb j))) :
    Gives Tryz.prog 47 #[.slice (some ad) n c] w fun v w1 => ∃ b c1 tl, v = σ b 0 (keyL n kb).length c1 ∧ (keyL n kb).length ≤ c1 ∧ (keyV (keyL n kb) ++ tl).length = c1 ∧ St ms w0 ((β b ((keyV (keyL n kb) ++ tl).toArray) 5) :: bs) w1 := by
 have hk64 : kmin n ≤ 64 ∧ kmin n ≤ n := by unfold kmin; omega
 refine enter_ Tryz.func47 rfl (seq_ (reg_ (pure_ (.slice none 0 0) (nil_ (then_n (seq_ (seq_ (reg_ (pure_ (.slice (some ad) n c) (pure_ (ι ((n : Nat) : Int)) (pure_ (.bool (((n : Nat) : Int) == 0)) (nil_ (then_n ?_)))))))))))))
 refine cond_S (((n : Nat) : Int) == 0) ?_ ?_
 · intro zh1
   have zh2 := eqT' zh1
   refine seq_ (reg_ ?_)
   refine new_ S0 (fun b => σ b 0 1 1) (.cells #[υ 7] 5) ?_
   intro zb3 zw4 zS5
   refine assign_ (nil_ (then_n (wp_ret (then_r (ret_ rfl (res_ [.tmp 2] [σ zb3 0 1 1] (σ zb3 0 1 1) ⟨res_tmp, trivial⟩) ?_)))))
   have ze := keyL_0 kb (by omega : ((n : Nat) : Int) = 0)
   exact ⟨zb3, 1, [], by rw [ze]; rfl, by rw [ze]; decide, by rw [ze]; rfl, by rw [ze]; exact zS5.conv (by kernel_rfl)⟩
 intro zh6
 have zh7 := eqF' zh6
 refine wp_skip (then_n (seq_ (reg_ ?_)))
 refine new_ S0 (fun b => σ b 0 0 0) (.cells #[] 5) ?_
 intro zb8 zw9 zS10
 refine pure_ (.slice (some ad) n c) (pure_ (.slice (some ad) n c) (pure_ (ι ((n : Nat) : Int)) (pureE_ (ι (if 64 < ((n : Nat) : Int) then 64 else ((n : Nat) : Int))) (ι ((kmin n : Nat) : Int)) (congrArg _ (kmin_is _)) ?_)))
 refine pure_ (.slice (some ad) (kmin n) c) ?_ (h := run_cut (n := n) (e := 5) (kd := .i64) (kmin n) (kmin_le hc))
 refine appendZ_ (T := 5) (xv := .slice (some ad) (kmin n) c) zS10 (src_bytes zS10 (tx := 23) (e' := 5) (m := (kmin n)) (c := c) (by kernel_rfl) hm (n := n) (by unfold kmin; omega) hb) 1 rfl ((by unfold kmin; omega)) (by omega) (by unfold maxLen; omega) ?_ (some ⟨zb8, 0, none⟩)
 intro zb11 zc12 zt13 zw14 zh16 zh17 zS15
 refine assign_ (nil_ (then_n (wp_ret (ret_ rfl (res_ [.tmp 2] [σ zb11 0 (kmin n) zc12] (σ zb11 0 (kmin n) zc12) ⟨res_tmp, trivial⟩) ?_))))
 have ze := keyL_1 kb (by omega : ¬ ((n : Nat) : Int) = 0)
 exact ⟨zb11, zc12, zt13, by rw [ze]; simp, by rw [ze]; simpa using zh17, by rw [ze]; simpa [keyV] using zh16, by rw [ze]; exact (zS15.pickT (A := [(β zb11 (((keyV ((List.range (kmin n)).map kb)) ++ zt13).toArray) 5)]) (T := bs) [0] 2 (by kernel_rfl) (by kernel_rfl) (by decide) rfl)⟩

set_option maxRecDepth 100000 in
set_option maxHeartbeats 4000000 in
theorem keyN_ (kb : Nat → Int) (w : World) {ms : List Nat} {w0 : World} {bs : List Blk} (S0 : St ms w0 bs w) :
    Gives Tryz.prog 47 #[.slice none 0 0] w fun v w1 => ∃ b c1 tl, v = σ b 0 (keyL 0 kb).length c1 ∧ (keyL 0 kb).length ≤ c1 ∧ (keyV (keyL 0 kb) ++ tl).length = c1 ∧ St ms w0 ((β b ((keyV (keyL 0 kb) ++ tl).toArray) 5) :: bs) w1 := by
 refine enter_ Tryz.func47 rfl (seq_ (reg_ (pure_ (.slice none 0 0) (nil_ (then_n (seq_ (seq_ (reg_ (pure_ (.slice none 0 0) (pure_ (ι 0) (pure_ (τ) (nil_ (then_n (cond_T (seq_ (reg_ ?_))))))))))))))))
 refine new_ S0 (fun b => σ b 0 1 1) (.cells #[υ 7] 5) ?_
 intro zb1 zw2 zS3
 refine assign_ (nil_ (then_n (wp_ret (then_r (ret_ rfl (res_ [.tmp 2] [σ zb1 0 1 1] (σ zb1 0 1 1) ⟨res_tmp, trivial⟩) ?_)))))
 exact ⟨zb1, 1, [], rfl, Nat.le_refl _, rfl, zS3.conv (by kernel_rfl)⟩

/-- the numbers of a policy made one that may be; o1 o2 o3: its order -/
def fitQ (q : Nat → Int) (o1 o2 o3 : Int) : Nat → Int := fun k => ([0, o1, o2, o3, 4, 0, 0, 0, 0, 1, ((q 10) % 16 - (q 10) % 2), ((q 11) % 16 - (q 11) % 2), ((q 12) % 16 - (q 12) % 2), 0, ((q 14) % 16), ((q 15) % 16), ((q 16) % 16), ((q 17) % 16), ((q 18) % 16), ((q 19) % 16), ((q 20) % 16), ((q 21) % 16), ((q 22) % 16), ((q 23) % 16), ((q 24) % 16), ((q 25) % 16), ((q 26) % 16), ((q 27) % 16), ((q 28) % 16), ((q 29) % 16), ((q 30) % 16), ((q 31) % 16), ((q 32) % 16), ((q 33) % 16), ((q 34) % 32), ((q 35) % 32), ((q 36) % 32), ((q 37) % 32), ((q 38) % 32), (modI (q 39) 5), (modI (q 40) 5), (modI (q 41) 5), (1 + (modI (q 42) 1000)), (1 + (modI (q 43) 1000)), (1 + (modI (q 44) 1000)), (1 + (modI (q 45) 1000)), (1 + (modI (q 46) 1000)), (modI (q 47) 1001), (1 + (modI (q 48) 3)), (1 + (modI (q 49) 3)), 0, (modI (q 51) 1001), (modI (q 52) 1001), (modI (q 53) 1001), (1 + (modI (q 54) 1000)), ((q 55) % 65536)] : List Int).getD k 0
def Sw1 (k a b c : Int) : Prop := (k = 0 ∧ a = 1 ∧ b = 2 ∧ c = 3) ∨ (k = 1 ∧ a = 2 ∧ b = 1 ∧ c = 3) ∨ (k = 2 ∧ a = 3 ∧ b = 2 ∧ c = 1)
/-- the order, as Fit makes it -/
def OrdR (q : Nat → Int) (o1 o2 o3 : Int) : Prop := ∃ b c, Sw1 (modI (q 1) 3) o1 b c ∧ ((modI (q 2) 2 = 0 ∧ o2 = b ∧ o3 = c) ∨ (modI (q 2) 2 = 1 ∧ o2 = c ∧ o3 = b))
theorem OrdR.perm {q : Nat → Int} {o1 o2 o3 : Int} (h : OrdR q o1 o2 o3) : (o1 = 1 ∧ o2 = 2 ∧ o3 = 3) ∨ (o1 = 1 ∧ o2 = 3 ∧ o3 = 2) ∨ (o1 = 2 ∧ o2 = 1 ∧ o3 = 3) ∨ (o1 = 2 ∧ o2 = 3 ∧ o3 = 1) ∨ (o1 = 3 ∧ o2 = 1 ∧ o3 = 2) ∨ (o1 = 3 ∧ o2 = 2 ∧ o3 = 1) := by
  obtain ⟨b, c, h1, h2⟩ := h
  rcases h1 with ⟨_, rfl, rfl, rfl⟩ | ⟨_, rfl, rfl, rfl⟩ | ⟨_, rfl, rfl, rfl⟩ <;> rcases h2 with ⟨_, rfl, rfl⟩ | ⟨_, rfl, rfl⟩ <;> simp
theorem OrdR.one {q : Nat → Int} {a b c a' b' c' : Int} (h : OrdR q a b c) (k : OrdR q a' b' c') : a = a' ∧ b = b' ∧ c = c' := by
  obtain ⟨_, _, h1, h2⟩ := h
  obtain ⟨_, _, k1, k2⟩ := k
  rcases h1 with ⟨e, rfl, rfl, rfl⟩ | ⟨e, rfl, rfl, rfl⟩ | ⟨e, rfl, rfl, rfl⟩ <;> rcases k1 with ⟨f, rfl, rfl, rfl⟩ | ⟨f, rfl, rfl, rfl⟩ | ⟨f, rfl, rfl, rfl⟩ <;> first | (exfalso; rw [e] at f; revert f; decide) | (rcases h2 with ⟨e2, rfl, rfl⟩ | ⟨e2, rfl, rfl⟩ <;> rcases k2 with ⟨f2, rfl, rfl⟩ | ⟨f2, rfl, rfl⟩ <;> first | (exfalso; rw [e2] at f2; revert f2; decide) | exact ⟨rfl, rfl, rfl⟩)
/-- a slice of bytes that came in: its bytes -/
def KeyIn (ms : List Nat) (w0 : World) (a : Option Addr) (n c : Nat) (kb : Nat → Int) : Prop := n ≤ c ∧ (a = none → n = 0 ∧ c = 0) ∧ ∀ ad, a = some ad → ad.block ∉ ms ∧ ∀ j, j < n → w0.cell? (ad.add j) = some (υ (kb j))

theorem key_ (a : Option Addr) (n c : Nat) (kb : Nat → Int) (w : World) {ms : List Nat} {w0 : World} {bs : List Blk} (S0 : St ms w0 bs w) (h : KeyIn ms w0 a n c kb) :
    Gives Tryz.prog 47 #[.slice a n c] w fun v w1 => ∃ b c1 tl, v = σ b 0 (keyL n kb).length c1 ∧ (keyL n kb).length ≤ c1 ∧ (keyV (keyL n kb) ++ tl).length = c1 ∧ St ms w0 ((β b ((keyV (keyL n kb) ++ tl).toArray) 5) :: bs) w1 := by
  cases a with
  | none =>
    obtain ⟨rfl, rfl⟩ := h.2.1 rfl
    exact keyN_ kb w S0
  | some ad => exact keyS_ ad n c kb w S0 (h.2.2 ad rfl).1 h.1 (h.2.2 ad rfl).2

set_option maxRecDepth 100000 in
set_option maxHeartbeats 4000000 in
theorem mod_ (n m : Int) (hn : -9223372036854775808 ≤ n ∧ n ≤ 9223372036854775807) (hm : 0 < m ∧ m ≤ 100000) (w : World) :
    Gives Tryz.prog 48 #[ι n, ι m] w fun v w1 => v = ι (modI n m) ∧ Ch [] w w1 := by
 have S0 := St.nil [] w
 refine enter_ Tryz.func48 rfl (seq_ (reg_ (pure_ (ι 0) (nsr_ (pure_ (ι n) (pure_ (ι m) ?_))))))
 refine remS_ .i64 n m (by omega) ?_
 have zh1 := tmod_bd n m (by omega)
 refine pure_ (ι m) (sum_ .i64 ((Int.tmod n m) + m) (IntWalk.i64_in _ (by omega)) (pure_ (ι m) ?_))
 refine remS_ .i64 ((Int.tmod n m) + m) m (by omega) ?_
 have zh2 : Int.tmod ((Int.tmod n m) + m) m = ((Int.tmod n m) + m) % m := IntWalk.rem_in _ _ (by omega)
 rw [zh2]
 refine assign_ (nil_ (then_n (wp_ret (ret_ rfl (res_ [.tmp 4] [ι (((Int.tmod n m) + m) % m)] (ι (((Int.tmod n m) + m) % m)) ⟨res_tmp, trivial⟩) ?_))))
 exact ⟨rfl, S0.ch⟩

set_option maxRecDepth 100000 in
set_option maxHeartbeats 4000000 in
theorem fit_ (q : Nat → Int) (ka : Nat → Option Addr) (kn kc : Nat → Nat) (kb : Nat → Nat → Int) (w : World) {ms : List Nat} {w0 : World} {bs : List Blk} (S0 : St ms w0 bs w) (hq : ∀ i, -9223372036854775808 ≤ q i ∧ q i ≤ 9223372036854775807) (hK : ∀ i, i < 4 → KeyIn ms w0 (ka i) (kn i) (kc i) (kb i)) :
    Gives Tryz.prog 18 #[.agg (polC q ka kn kc)] w fun v w1 => ∃ (o1 o2 o3 : Int) (b c : Nat → Nat) (tl : Nat → List Value), OrdR q o1 o2 o3 ∧ v = .agg (polC (fitQ q o1 o2 o3) (fun i => some ⟨b i, 0, none⟩) (fun i => (keyL (kn i) (kb i)).length) c) ∧ (∀ i, i < 4 → (keyL (kn i) (kb i)).length ≤ c i ∧ (keyV (keyL (kn i) (kb i)) ++ tl i).length = c i) ∧ St ms w0 ([(β (b 0) ((keyV (keyL (kn 0) (kb 0)) ++ tl 0).toArray) 5), (β (b 1) ((keyV (keyL (kn 1) (kb 1)) ++ tl 1).toArray) 5), (β (b 2) ((keyV (keyL (kn 2) (kb 2)) ++ tl 2).toArray) 5), (β (b 3) ((keyV (keyL (kn 3) (kb 3)) ++ tl 3).toArray) 5)] ++ bs) w1 := by
 refine enter_ Tryz.func18 rfl (seq_ (reg_ ?_))
 refine new_ S0 (fun b => π b 0) (.cells (polC q ka kn kc) 28) ?_
 intro zb1 zw2 zS3
 refine new_ zS3 (fun b => π b 0) (.cells #[ι 0, ι 0, ι 0, ι 0, ι 0, .slice none 0 0, .slice none 0 0, .slice none 0 0, .slice none 0 0, ι 0, ι 0, ι 0, ι 0, ι 0, ι 0, ι 0, ι 0, ι 0, ι 0, ι 0, ι 0, ι 0, ι 0, ι 0, ι 0, ι 0, ι 0, ι 0, ι 0, ι 0, ι 0, ι 0, ι 0, ι 0, ι 0, ι 0, ι 0, ι 0, ι 0, ι 0, ι 0, ι 0, ι 0, ι 0, ι 0, ι 0, ι 0, ι 0, ι 0, ι 0, ι 0, ι 0, ι 0, ι 0, ι 0, ι 0] 28) ?_
 intro zb4 zw5 zS6
 refine nsr_ (pure_ (.agg #[ι 0, ι 1, ι 2, ι 3, ι 4]) (pure_ (π zb1 8) (load1_ zS6 1 (.slice (ka 3) (kn 3) (kc 3)) zb1 8 (call_ 47 #[.slice (ka 3) (kn 3) (kc 3)] ?_))))
 refine (key_ (ka 3) (kn 3) (kc 3) (kb 3) _ zS6 (hK 3 (by omega))).mono ?_; rintro _ zw7 ⟨zb9, zc10, zt11, rfl, zh13, zh12, zS8⟩
 refine pure_ (.agg #[ι 0, ι 1, ι 2, ι 3, ι 4, .slice none 0 0, .slice none 0 0, .slice none 0 0, σ zb9 0 (keyL (kn 3) (kb 3)).length zc10, ι 0, ι 0, ι 0, ι 0, ι 0, ι 0, ι 0, ι 0, ι 0, ι 0, ι 0, ι 0, ι 0, ι 0, ι 0, ι 0, ι 0, ι 0, ι 0, ι 0, ι 0, ι 0, ι 0, ι 0, ι 0, ι 0, ι 0, ι 0, ι 0, ι 0, ι 0, ι 0, ι 0, ι 0, ι 0, ι 0, ι 0, ι 0, ι 0, ι 0, ι 0, ι 0, ι 0, ι 0, ι 0, ι 0, ι 0]) ?_
 refine new_ zS8 (fun b => π b 0) (.cells #[ι 0, ι 0, ι 0, ι 0, ι 0, .slice none 0 0, .slice none 0 0, .slice none 0 0, .slice none 0 0, ι 0, ι 0, ι 0, ι 0, ι 0, ι 0, ι 0, ι 0, ι 0, ι 0, ι 0, ι 0, ι 0, ι 0, ι 0, ι 0, ι 0, ι 0, ι 0, ι 0, ι 0, ι 0, ι 0, ι 0, ι 0, ι 0, ι 0, ι 0, ι 0, ι 0, ι 0, ι 0, ι 0, ι 0, ι 0, ι 0, ι 0, ι 0, ι 0, ι 0, ι 0, ι 0, ι 0, ι 0, ι 0, ι 0, ι 0] 28) ?_
 intro zb14 zw15 zS16
 refine store_ zS16 0 (.agg #[ι 0, ι 1, ι 2, ι 3, ι 4, .slice none 0 0, .slice none 0 0, .slice none 0 0, σ zb9 0 (keyL (kn 3) (kb 3)).length zc10, ι 0, ι 0, ι 0, ι 0, ι 0, ι 0, ι 0, ι 0, ι 0, ι 0, ι 0, ι 0, ι 0, ι 0, ι 0, ι 0, ι 0, ι 0, ι 0, ι 0, ι 0, ι 0, ι 0, ι 0, ι 0, ι 0, ι 0, ι 0, ι 0, ι 0, ι 0, ι 0, ι 0, ι 0, ι 0, ι 0, ι 0, ι 0, ι 0, ι 0, ι 0, ι 0, ι 0, ι 0, ι 0, ι 0, ι 0]) zb14 0 ?_
 intro zw17 zS18
 refine nil_ (then_n (seq_ (seq_ (reg_ (pure_ (ι 1) (nil_ (then_n ?_)))))))
 refine cut_ (fun za zw => ∃ (o1 : Int) (o2 : Int) (o3 : Int) (zj19 : Nat → Value), (OrdR q o1 o2 o3) ∧ za = ⟨#[.agg (polC q ka kn kc), π zb1 0, π zb4 0, π zb14 0, (zj19 0), (zj19 1), (zj19 2), undef, undef, undef, undef, .agg #[ι 0, ι 1, ι 2, ι 3, ι 4], π zb1 8, .slice (ka 3) (kn 3) (kc 3), σ zb9 0 (keyL (kn 3) (kb 3)).length zc10, .agg #[ι 0, ι 1, ι 2, ι 3, ι 4, .slice none 0 0, .slice none 0 0, .slice none 0 0, σ zb9 0 (keyL (kn 3) (kb 3)).length zc10, ι 0, ι 0, ι 0, ι 0, ι 0, ι 0, ι 0, ι 0, ι 0, ι 0, ι 0, ι 0, ι 0, ι 0, ι 0, ι 0, ι 0, ι 0, ι 0, ι 0, ι 0, ι 0, ι 0, ι 0, ι 0, ι 0, ι 0, ι 0, ι 0, ι 0, ι 0, ι 0, ι 0, ι 0, ι 0, ι 0, ι 0, ι 0, ι 0, ι 0, ι 0, ι 0, ι 0, ι 0, ι 0, ι 0, ι 0], (zj19 3), (zj19 4), (zj19 5), (zj19 6), (zj19 7), (zj19 8), (zj19 9), (zj19 10), (zj19 11), (zj19 12), (zj19 13), (zj19 14), (zj19 15), (zj19 16), (zj19 17), (zj19 18), (zj19 19), (zj19 20), (zj19 21), (zj19 22), (zj19 23), (zj19 24), (zj19 25), (zj19 26), (zj19 27), (zj19 28), (zj19 29), (zj19 30), undef, undef, undef, undef, undef, undef, undef, undef, undef, undef, undef, undef, undef, undef, undef, undef, undef, undef, undef, undef, undef, undef, undef, undef, undef, undef, undef, undef, undef, undef, undef, undef, undef, undef, undef, undef, undef, undef, undef, undef, undef, undef, undef, undef, undef, undef, undef, undef, undef, undef, undef, undef, undef, undef, undef, undef, undef, undef, undef, undef, undef, undef, undef, undef, undef, undef, undef, undef, undef, undef, undef, undef, undef, undef, undef, undef, undef, undef, undef, undef, undef, undef, undef, undef, undef, undef, undef, undef, undef, undef, undef, undef, undef, undef, undef, undef, undef, undef, undef, undef, undef, undef, undef, undef, undef, undef, undef, undef, undef, undef, undef, undef, undef, undef, undef, undef, undef, undef, undef, undef, undef, undef, undef, undef, undef, undef, undef], []⟩ ∧ St ms w0 ([(β zb14 #[ι 0, ι o1, ι o2, ι o3, ι 4, .slice none 0 0, .slice none 0 0, .slice none 0 0, σ zb9 0 (keyL (kn 3) (kb 3)).length zc10, ι 0, ι 0, ι 0, ι 0, ι 0, ι 0, ι 0, ι 0, ι 0, ι 0, ι 0, ι 0, ι 0, ι 0, ι 0, ι 0, ι 0, ι 0, ι 0, ι 0, ι 0, ι 0, ι 0, ι 0, ι 0, ι 0, ι 0, ι 0, ι 0, ι 0, ι 0, ι 0, ι 0, ι 0, ι 0, ι 0, ι 0, ι 0, ι 0, ι 0, ι 0, ι 0, ι 0, ι 0, ι 0, ι 0, ι 0] 28), (β zb9 ((keyV (keyL (kn 3) (kb 3)) ++ zt11).toArray) 5), (β zb4 #[ι 0, ι 0, ι 0, ι 0, ι 0, .slice none 0 0, .slice none 0 0, .slice none 0 0, .slice none 0 0, ι 0, ι 0, ι 0, ι 0, ι 0, ι 0, ι 0, ι 0, ι 0, ι 0, ι 0, ι 0, ι 0, ι 0, ι 0, ι 0, ι 0, ι 0, ι 0, ι 0, ι 0, ι 0, ι 0, ι 0, ι 0, ι 0, ι 0, ι 0, ι 0, ι 0, ι 0, ι 0, ι 0, ι 0, ι 0, ι 0, ι 0, ι 0, ι 0, ι 0, ι 0, ι 0, ι 0, ι 0, ι 0, ι 0, ι 0] 28), (β zb1 (polC q ka kn kc) 28)] ++ bs) zw) ?_ ?_
 · refine wp_block (loop_ 24 (seq_ (seq_ (reg_ (pure_ (ι 1) (pure_ (τ) (nil_ (then_n (cond_T (wp_skip (then_n (seq_ (wp_block (seq_ (reg_ (pure_ (ι 1) (pure_ (ι 1) (pure_ (π zb1 0) (pure_ (π zb1 1) (load1_ zS18 3 (ι (q 1)) zb1 1 (pure_ (ι 1) (pure_ (ι 3) (call_ 48 #[ι (q 1), ι 3] ?_)))))))))))))))))))))))
   refine (mod_ (q 1) 3 (hq 1) (by omega) _).mono ?_; rintro _ zw20 ⟨rfl, zh21⟩
   have zS22 := zS18.quiet zh21
   have zh23 := modI_bd (q 1) 3 (by omega)
   refine sum_ .i64 (1 + (modI (q 1) 3)) (IntWalk.i64_in _ (by omega)) (assign_ (nsr_ (pure_ (ι 1) (pure_ (π zb14 0) (pure_ (π zb14 1) (load1_ zS22 0 (ι 1) zb14 1 (pure_ (ι 1) (nsr_ (pure_ (ι 1) (move_ (pure_ (π zb14 0) ?_)))))))))))
   refine split_b ((1 + (modI (q 1) 3)) == 1) ?_ ?_
   · intro zh24
     have zh25 := eqT' zh24
     refine slotI_ 34 .i64 (1 + (modI (q 1) 3)) 1 (by omega) ?_
     have zh26 : (1 + (modI (q 1) 3)) = 1 := by omega
     refine pure_ (π zb14 1) (load1_ zS22 0 (ι 1) zb14 1 (pure_ (π zb14 0) (pure_ (π zb14 1) ?_)))
     refine store_ zS22 0 (ι 1) zb14 1 ?_
     intro zw27 zS28
     refine ns_ (move_ (pure_ (ι 1) (pure_ (π zb14 0) (slotI_ 40 .i64 (1 + (modI (q 1) 3)) 1 (by omega) ?_))))
     have zh29 : (1 + (modI (q 1) 3)) = 1 := by omega
     refine pure_ (π zb14 1) ?_
     refine store_ zS28 0 (ι 1) zb14 1 ?_
     intro zw30 zS31
     refine nil_ (blk_n (then_n (reg_ (pure_ (ι 1) (pure_ (ι 2) (pure_ (ι 2) (nil_ (again_ (seq_ (seq_ (reg_ (pure_ (ι 2) (pure_ (τ) (nil_ (then_n (cond_T (wp_skip (then_n (seq_ (wp_block (seq_ (reg_ (pure_ (ι 2) (pure_ (ι 2) (pure_ (π zb1 0) (pure_ (π zb1 2) (load1_ zS31 3 (ι (q 2)) zb1 2 (pure_ (ι 2) (pure_ (ι 2) (call_ 48 #[ι (q 2), ι 2] ?_))))))))))))))))))))))))))))))
     refine (mod_ (q 2) 2 (hq 2) (by omega) _).mono ?_; rintro _ zw32 ⟨rfl, zh33⟩
     have zS34 := zS31.quiet zh33
     have zh35 := modI_bd (q 2) 2 (by omega)
     refine sum_ .i64 (2 + (modI (q 2) 2)) (IntWalk.i64_in _ (by omega)) (assign_ (nsr_ (pure_ (ι 2) (pure_ (π zb14 0) (pure_ (π zb14 2) (load1_ zS34 0 (ι 2) zb14 2 (pure_ (ι 2) (nsr_ (pure_ (ι 2) (move_ (pure_ (π zb14 0) ?_)))))))))))
     refine split_b ((2 + (modI (q 2) 2)) == 2) ?_ ?_
     · intro zh36
       have zh37 := eqT' zh36
       refine slotI_ 34 .i64 (2 + (modI (q 2) 2)) 2 (by omega) ?_
       have zh38 : (2 + (modI (q 2) 2)) = 2 := by omega
       refine pure_ (π zb14 2) (load1_ zS34 0 (ι 2) zb14 2 (pure_ (π zb14 0) (pure_ (π zb14 2) ?_)))
       refine store_ zS34 0 (ι 2) zb14 2 ?_
       intro zw39 zS40
       refine ns_ (move_ (pure_ (ι 2) (pure_ (π zb14 0) (slotI_ 40 .i64 (2 + (modI (q 2) 2)) 2 (by omega) ?_))))
       have zh41 : (2 + (modI (q 2) 2)) = 2 := by omega
       refine pure_ (π zb14 2) ?_
       refine store_ zS40 0 (ι 2) zb14 2 ?_
       intro zw42 zS43
       refine nil_ (blk_n (then_n (reg_ (pure_ (ι 2) (pure_ (ι 3) (pure_ (ι 3) (nil_ (again_ (seq_ (seq_ (reg_ (pure_ (ι 3) (pure_ (φ) (nil_ (then_n (cond_F (wp_exit (then_e (then_e (blk_e ?_))))))))))))))))))))
       refine then_i ?_
       exact ⟨(1 : Int), (2 : Int), (3 : Int), (fun k => [ι 3, ι (2 + (modI (q 2) 2)), ι 2, ι 3, φ, ι 2, ι 3, ι 2, ι 2, π zb1 0, π zb1 2, ι (q 2), ι 2, ι 2, ι (modI (q 2) 2), ι (2 + (modI (q 2) 2)), ι 2, π zb14 0, π zb14 2, ι 2, ι 2, ι 2, π zb14 0, π zb14 2, ι 2, π zb14 0, π zb14 2, ι 2, ι 2, π zb14 0, π zb14 2].getD k undef), by unfold OrdR Sw1; first | exact ⟨2, 3, by omega, by omega⟩ | exact ⟨1, 3, by omega, by omega⟩ | exact ⟨2, 1, by omega, by omega⟩, by kernel_rfl, zS43.pickT [0, 1, 2, 3] 4 (by kernel_rfl) (by kernel_rfl) (by decide) rfl⟩
     intro zh44
     have zh45 := eqF' zh44
     refine slotI_ 34 .i64 (2 + (modI (q 2) 2)) 3 (by omega) ?_
     have zh46 : (2 + (modI (q 2) 2)) = 3 := by omega
     refine pure_ (π zb14 3) (load1_ zS34 0 (ι 3) zb14 3 (pure_ (π zb14 0) (pure_ (π zb14 2) ?_)))
     refine store_ zS34 0 (ι 3) zb14 2 ?_
     intro zw47 zS48
     refine ns_ (move_ (pure_ (ι 2) (pure_ (π zb14 0) (slotI_ 40 .i64 (2 + (modI (q 2) 2)) 3 (by omega) ?_))))
     have zh49 : (2 + (modI (q 2) 2)) = 3 := by omega
     refine pure_ (π zb14 3) ?_
     refine store_ zS48 0 (ι 2) zb14 3 ?_
     intro zw50 zS51
     refine nil_ (blk_n (then_n (reg_ (pure_ (ι 2) (pure_ (ι 3) (pure_ (ι 3) (nil_ (again_ (seq_ (seq_ (reg_ (pure_ (ι 3) (pure_ (φ) (nil_ (then_n (cond_F (wp_exit (then_e (then_e (blk_e ?_))))))))))))))))))))
     refine then_i ?_
     exact ⟨(1 : Int), (3 : Int), (2 : Int), (fun k => [ι 3, ι (2 + (modI (q 2) 2)), ι 2, ι 3, φ, ι 2, ι 3, ι 2, ι 2, π zb1 0, π zb1 2, ι (q 2), ι 2, ι 2, ι (modI (q 2) 2), ι (2 + (modI (q 2) 2)), ι 2, π zb14 0, π zb14 2, ι 2, ι 2, ι 3, π zb14 0, π zb14 3, ι 3, π zb14 0, π zb14 2, ι 3, ι 2, π zb14 0, π zb14 3].getD k undef), by unfold OrdR Sw1; first | exact ⟨2, 3, by omega, by omega⟩ | exact ⟨1, 3, by omega, by omega⟩ | exact ⟨2, 1, by omega, by omega⟩, by kernel_rfl, zS51.pickT [0, 1, 2, 3] 4 (by kernel_rfl) (by kernel_rfl) (by decide) rfl⟩
   intro zh52
   have zh53 := eqF' zh52
   refine split_b ((1 + (modI (q 1) 3)) == 2) ?_ ?_
   · intro zh54
     have zh55 := eqT' zh54
     refine slotI_ 34 .i64 (1 + (modI (q 1) 3)) 2 (by omega) ?_
     have zh56 : (1 + (modI (q 1) 3)) = 2 := by omega
     refine pure_ (π zb14 2) (load1_ zS22 0 (ι 2) zb14 2 (pure_ (π zb14 0) (pure_ (π zb14 1) ?_)))
     refine store_ zS22 0 (ι 2) zb14 1 ?_
     intro zw57 zS58
     refine ns_ (move_ (pure_ (ι 1) (pure_ (π zb14 0) (slotI_ 40 .i64 (1 + (modI (q 1) 3)) 2 (by omega) ?_))))
     have zh59 : (1 + (modI (q 1) 3)) = 2 := by omega
     refine pure_ (π zb14 2) ?_
     refine store_ zS58 0 (ι 1) zb14 2 ?_
     intro zw60 zS61
     refine nil_ (blk_n (then_n (reg_ (pure_ (ι 1) (pure_ (ι 2) (pure_ (ι 2) (nil_ (again_ (seq_ (seq_ (reg_ (pure_ (ι 2) (pure_ (τ) (nil_ (then_n (cond_T (wp_skip (then_n (seq_ (wp_block (seq_ (reg_ (pure_ (ι 2) (pure_ (ι 2) (pure_ (π zb1 0) (pure_ (π zb1 2) (load1_ zS61 3 (ι (q 2)) zb1 2 (pure_ (ι 2) (pure_ (ι 2) (call_ 48 #[ι (q 2), ι 2] ?_))))))))))))))))))))))))))))))
     refine (mod_ (q 2) 2 (hq 2) (by omega) _).mono ?_; rintro _ zw62 ⟨rfl, zh63⟩
     have zS64 := zS61.quiet zh63
     have zh65 := modI_bd (q 2) 2 (by omega)
     refine sum_ .i64 (2 + (modI (q 2) 2)) (IntWalk.i64_in _ (by omega)) (assign_ (nsr_ (pure_ (ι 2) (pure_ (π zb14 0) (pure_ (π zb14 2) (load1_ zS64 0 (ι 1) zb14 2 (pure_ (ι 1) (nsr_ (pure_ (ι 2) (move_ (pure_ (π zb14 0) ?_)))))))))))
     refine split_b ((2 + (modI (q 2) 2)) == 2) ?_ ?_
     · intro zh66
       have zh67 := eqT' zh66
       refine slotI_ 34 .i64 (2 + (modI (q 2) 2)) 2 (by omega) ?_
       have zh68 : (2 + (modI (q 2) 2)) = 2 := by omega
       refine pure_ (π zb14 2) (load1_ zS64 0 (ι 1) zb14 2 (pure_ (π zb14 0) (pure_ (π zb14 2) ?_)))
       refine store_ zS64 0 (ι 1) zb14 2 ?_
       intro zw69 zS70
       refine ns_ (move_ (pure_ (ι 1) (pure_ (π zb14 0) (slotI_ 40 .i64 (2 + (modI (q 2) 2)) 2 (by omega) ?_))))
       have zh71 : (2 + (modI (q 2) 2)) = 2 := by omega
       refine pure_ (π zb14 2) ?_
       refine store_ zS70 0 (ι 1) zb14 2 ?_
       intro zw72 zS73
       refine nil_ (blk_n (then_n (reg_ (pure_ (ι 2) (pure_ (ι 3) (pure_ (ι 3) (nil_ (again_ (seq_ (seq_ (reg_ (pure_ (ι 3) (pure_ (φ) (nil_ (then_n (cond_F (wp_exit (then_e (then_e (blk_e ?_))))))))))))))))))))
       refine then_i ?_
       exact ⟨(2 : Int), (1 : Int), (3 : Int), (fun k => [ι 3, ι (2 + (modI (q 2) 2)), ι 1, ι 3, φ, ι 2, ι 3, ι 2, ι 2, π zb1 0, π zb1 2, ι (q 2), ι 2, ι 2, ι (modI (q 2) 2), ι (2 + (modI (q 2) 2)), ι 2, π zb14 0, π zb14 2, ι 1, ι 2, ι 2, π zb14 0, π zb14 2, ι 1, π zb14 0, π zb14 2, ι 2, ι 1, π zb14 0, π zb14 2].getD k undef), by unfold OrdR Sw1; first | exact ⟨2, 3, by omega, by omega⟩ | exact ⟨1, 3, by omega, by omega⟩ | exact ⟨2, 1, by omega, by omega⟩, by kernel_rfl, zS73.pickT [0, 1, 2, 3] 4 (by kernel_rfl) (by kernel_rfl) (by decide) rfl⟩
     intro zh74
     have zh75 := eqF' zh74
     refine slotI_ 34 .i64 (2 + (modI (q 2) 2)) 3 (by omega) ?_
     have zh76 : (2 + (modI (q 2) 2)) = 3 := by omega
     refine pure_ (π zb14 3) (load1_ zS64 0 (ι 3) zb14 3 (pure_ (π zb14 0) (pure_ (π zb14 2) ?_)))
     refine store_ zS64 0 (ι 3) zb14 2 ?_
     intro zw77 zS78
     refine ns_ (move_ (pure_ (ι 1) (pure_ (π zb14 0) (slotI_ 40 .i64 (2 + (modI (q 2) 2)) 3 (by omega) ?_))))
     have zh79 : (2 + (modI (q 2) 2)) = 3 := by omega
     refine pure_ (π zb14 3) ?_
     refine store_ zS78 0 (ι 1) zb14 3 ?_
     intro zw80 zS81
     refine nil_ (blk_n (then_n (reg_ (pure_ (ι 2) (pure_ (ι 3) (pure_ (ι 3) (nil_ (again_ (seq_ (seq_ (reg_ (pure_ (ι 3) (pure_ (φ) (nil_ (then_n (cond_F (wp_exit (then_e (then_e (blk_e ?_))))))))))))))))))))
     refine then_i ?_
     exact ⟨(2 : Int), (3 : Int), (1 : Int), (fun k => [ι 3, ι (2 + (modI (q 2) 2)), ι 1, ι 3, φ, ι 2, ι 3, ι 2, ι 2, π zb1 0, π zb1 2, ι (q 2), ι 2, ι 2, ι (modI (q 2) 2), ι (2 + (modI (q 2) 2)), ι 2, π zb14 0, π zb14 2, ι 1, ι 2, ι 3, π zb14 0, π zb14 3, ι 3, π zb14 0, π zb14 2, ι 3, ι 1, π zb14 0, π zb14 3].getD k undef), by unfold OrdR Sw1; first | exact ⟨2, 3, by omega, by omega⟩ | exact ⟨1, 3, by omega, by omega⟩ | exact ⟨2, 1, by omega, by omega⟩, by kernel_rfl, zS81.pickT [0, 1, 2, 3] 4 (by kernel_rfl) (by kernel_rfl) (by decide) rfl⟩
   intro zh82
   have zh83 := eqF' zh82
   refine slotI_ 34 .i64 (1 + (modI (q 1) 3)) 3 (by omega) ?_
   have zh84 : (1 + (modI (q 1) 3)) = 3 := by omega
   refine pure_ (π zb14 3) (load1_ zS22 0 (ι 3) zb14 3 (pure_ (π zb14 0) (pure_ (π zb14 1) ?_)))
   refine store_ zS22 0 (ι 3) zb14 1 ?_
   intro zw85 zS86
   refine ns_ (move_ (pure_ (ι 1) (pure_ (π zb14 0) (slotI_ 40 .i64 (1 + (modI (q 1) 3)) 3 (by omega) ?_))))
   have zh87 : (1 + (modI (q 1) 3)) = 3 := by omega
   refine pure_ (π zb14 3) ?_
   refine store_ zS86 0 (ι 1) zb14 3 ?_
   intro zw88 zS89
   refine nil_ (blk_n (then_n (reg_ (pure_ (ι 1) (pure_ (ι 2) (pure_ (ι 2) (nil_ (again_ (seq_ (seq_ (reg_ (pure_ (ι 2) (pure_ (τ) (nil_ (then_n (cond_T (wp_skip (then_n (seq_ (wp_block (seq_ (reg_ (pure_ (ι 2) (pure_ (ι 2) (pure_ (π zb1 0) (pure_ (π zb1 2) (load1_ zS89 3 (ι (q 2)) zb1 2 (pure_ (ι 2) (pure_ (ι 2) (call_ 48 #[ι (q 2), ι 2] ?_))))))))))))))))))))))))))))))
   refine (mod_ (q 2) 2 (hq 2) (by omega) _).mono ?_; rintro _ zw90 ⟨rfl, zh91⟩
   have zS92 := zS89.quiet zh91
   have zh93 := modI_bd (q 2) 2 (by omega)
   refine sum_ .i64 (2 + (modI (q 2) 2)) (IntWalk.i64_in _ (by omega)) (assign_ (nsr_ (pure_ (ι 2) (pure_ (π zb14 0) (pure_ (π zb14 2) (load1_ zS92 0 (ι 2) zb14 2 (pure_ (ι 2) (nsr_ (pure_ (ι 2) (move_ (pure_ (π zb14 0) ?_)))))))))))
   refine split_b ((2 + (modI (q 2) 2)) == 2) ?_ ?_
   · intro zh94
     have zh95 := eqT' zh94
     refine slotI_ 34 .i64 (2 + (modI (q 2) 2)) 2 (by omega) ?_
     have zh96 : (2 + (modI (q 2) 2)) = 2 := by omega
     refine pure_ (π zb14 2) (load1_ zS92 0 (ι 2) zb14 2 (pure_ (π zb14 0) (pure_ (π zb14 2) ?_)))
     refine store_ zS92 0 (ι 2) zb14 2 ?_
     intro zw97 zS98
     refine ns_ (move_ (pure_ (ι 2) (pure_ (π zb14 0) (slotI_ 40 .i64 (2 + (modI (q 2) 2)) 2 (by omega) ?_))))
     have zh99 : (2 + (modI (q 2) 2)) = 2 := by omega
     refine pure_ (π zb14 2) ?_
     refine store_ zS98 0 (ι 2) zb14 2 ?_
     intro zw100 zS101
     refine nil_ (blk_n (then_n (reg_ (pure_ (ι 2) (pure_ (ι 3) (pure_ (ι 3) (nil_ (again_ (seq_ (seq_ (reg_ (pure_ (ι 3) (pure_ (φ) (nil_ (then_n (cond_F (wp_exit (then_e (then_e (blk_e ?_))))))))))))))))))))
     refine then_i ?_
     exact ⟨(3 : Int), (2 : Int), (1 : Int), (fun k => [ι 3, ι (2 + (modI (q 2) 2)), ι 2, ι 3, φ, ι 2, ι 3, ι 2, ι 2, π zb1 0, π zb1 2, ι (q 2), ι 2, ι 2, ι (modI (q 2) 2), ι (2 + (modI (q 2) 2)), ι 2, π zb14 0, π zb14 2, ι 2, ι 2, ι 2, π zb14 0, π zb14 2, ι 2, π zb14 0, π zb14 2, ι 2, ι 2, π zb14 0, π zb14 2].getD k undef), by unfold OrdR Sw1; first | exact ⟨2, 3, by omega, by omega⟩ | exact ⟨1, 3, by omega, by omega⟩ | exact ⟨2, 1, by omega, by omega⟩, by kernel_rfl, zS101.pickT [0, 1, 2, 3] 4 (by kernel_rfl) (by kernel_rfl) (by decide) rfl⟩
   intro zh102
   have zh103 := eqF' zh102
   refine slotI_ 34 .i64 (2 + (modI (q 2) 2)) 3 (by omega) ?_
   have zh104 : (2 + (modI (q 2) 2)) = 3 := by omega
   refine pure_ (π zb14 3) (load1_ zS92 0 (ι 1) zb14 3 (pure_ (π zb14 0) (pure_ (π zb14 2) ?_)))
   refine store_ zS92 0 (ι 1) zb14 2 ?_
   intro zw105 zS106
   refine ns_ (move_ (pure_ (ι 2) (pure_ (π zb14 0) (slotI_ 40 .i64 (2 + (modI (q 2) 2)) 3 (by omega) ?_))))
   have zh107 : (2 + (modI (q 2) 2)) = 3 := by omega
   refine pure_ (π zb14 3) ?_
   refine store_ zS106 0 (ι 2) zb14 3 ?_
   intro zw108 zS109
   refine nil_ (blk_n (then_n (reg_ (pure_ (ι 2) (pure_ (ι 3) (pure_ (ι 3) (nil_ (again_ (seq_ (seq_ (reg_ (pure_ (ι 3) (pure_ (φ) (nil_ (then_n (cond_F (wp_exit (then_e (then_e (blk_e ?_))))))))))))))))))))
   refine then_i ?_
   exact ⟨(3 : Int), (1 : Int), (2 : Int), (fun k => [ι 3, ι (2 + (modI (q 2) 2)), ι 2, ι 3, φ, ι 2, ι 3, ι 2, ι 2, π zb1 0, π zb1 2, ι (q 2), ι 2, ι 2, ι (modI (q 2) 2), ι (2 + (modI (q 2) 2)), ι 2, π zb14 0, π zb14 2, ι 2, ι 2, ι 3, π zb14 0, π zb14 3, ι 1, π zb14 0, π zb14 2, ι 3, ι 2, π zb14 0, π zb14 3].getD k undef), by unfold OrdR Sw1; first | exact ⟨2, 3, by omega, by omega⟩ | exact ⟨1, 3, by omega, by omega⟩ | exact ⟨2, 1, by omega, by omega⟩, by kernel_rfl, zS109.pickT [0, 1, 2, 3] 4 (by kernel_rfl) (by kernel_rfl) (by decide) rfl⟩
 rintro za112 zw110 ⟨o1, o2, o3, zj19, zf113, rfl, zS111⟩
 refine then_n (seq_ (seq_ (reg_ (pure_ (ι 0) (nil_ (then_n (wp_block (loop_ 24 (seq_ (seq_ (reg_ (pure_ (ι 0) (pure_ (τ) (nil_ (then_n (cond_T (wp_skip (then_n (seq_ (wp_block (reg_ (pure_ (ι 0) (pure_ (ι 0) (pure_ (π zb1 5) (pure_ (π zb1 5) (load1_ zS111 3 (.slice (ka 0) (kn 0) (kc 0)) zb1 5 (call_ 47 #[.slice (ka 0) (kn 0) (kc 0)] ?_)))))))))))))))))))))))))))
 refine (key_ (ka 0) (kn 0) (kc 0) (kb 0) _ zS111 (hK 0 (by omega))).mono ?_; rintro _ zw114 ⟨zb116, zc117, zt118, rfl, zh120, zh119, zS115⟩
 refine pure_ (π zb14 5) (pure_ (π zb14 5) ?_)
 refine store_ zS115 1 (σ zb116 0 (keyL (kn 0) (kb 0)).length zc117) zb14 5 ?_
 intro zw121 zS122
 refine nil_ (blk_n (then_n (reg_ (pure_ (ι 0) (pure_ (ι 1) (pure_ (ι 1) (nil_ (again_ (seq_ (seq_ (reg_ (pure_ (ι 1) (pure_ (τ) (nil_ (then_n (cond_T (wp_skip (then_n (seq_ (wp_block (reg_ (pure_ (ι 1) (pure_ (ι 1) (pure_ (π zb1 5) (pure_ (π zb1 6) (load1_ zS122 4 (.slice (ka 1) (kn 1) (kc 1)) zb1 6 (call_ 47 #[.slice (ka 1) (kn 1) (kc 1)] ?_)))))))))))))))))))))))))))
 refine (key_ (ka 1) (kn 1) (kc 1) (kb 1) _ zS122 (hK 1 (by omega))).mono ?_; rintro _ zw123 ⟨zb125, zc126, zt127, rfl, zh129, zh128, zS124⟩
 refine pure_ (π zb14 5) (pure_ (π zb14 6) ?_)
 refine store_ zS124 2 (σ zb125 0 (keyL (kn 1) (kb 1)).length zc126) zb14 6 ?_
 intro zw130 zS131
 refine nil_ (blk_n (then_n (reg_ (pure_ (ι 1) (pure_ (ι 2) (pure_ (ι 2) (nil_ (again_ (seq_ (seq_ (reg_ (pure_ (ι 2) (pure_ (τ) (nil_ (then_n (cond_T (wp_skip (then_n (seq_ (wp_block (reg_ (pure_ (ι 2) (pure_ (ι 2) (pure_ (π zb1 5) (pure_ (π zb1 7) (load1_ zS131 5 (.slice (ka 2) (kn 2) (kc 2)) zb1 7 (call_ 47 #[.slice (ka 2) (kn 2) (kc 2)] ?_)))))))))))))))))))))))))))
 refine (key_ (ka 2) (kn 2) (kc 2) (kb 2) _ zS131 (hK 2 (by omega))).mono ?_; rintro _ zw132 ⟨zb134, zc135, zt136, rfl, zh138, zh137, zS133⟩
 refine pure_ (π zb14 5) (pure_ (π zb14 7) ?_)
 refine store_ zS133 3 (σ zb134 0 (keyL (kn 2) (kb 2)).length zc135) zb14 7 ?_
 intro zw139 zS140
 refine nil_ (blk_n (then_n (reg_ (pure_ (ι 2) (pure_ (ι 3) (pure_ (ι 3) (nil_ (again_ (seq_ (seq_ (reg_ (pure_ (ι 3) (pure_ (φ) (nil_ (then_n (cond_F (wp_exit (then_e (then_e (blk_e (then_n (seq_ (reg_ (pure_ (π zb1 9) (pure_ (π zb1 10) (load1_ zS140 6 (ι (q 10)) zb1 10 (pureE_ (ι (bits .and .i64 (q 10) 14)) (ι ((q 10) % 16 - (q 10) % 2)) (congrArg _ (and14 _)) (pure_ (π zb1 9) (pure_ (π zb1 11) (load1_ zS140 6 (ι (q 11)) zb1 11 (pureE_ (ι (bits .and .i64 (q 11) 14)) (ι ((q 11) % 16 - (q 11) % 2)) (congrArg _ (and14 _)) (pure_ (π zb1 9) (pure_ (π zb1 12) (load1_ zS140 6 (ι (q 12)) zb1 12 (pureE_ (ι (bits .and .i64 (q 12) 14)) (ι ((q 12) % 16 - (q 12) % 2)) (congrArg _ (and14 _)) (pure_ (.agg #[ι 1, ι ((q 10) % 16 - (q 10) % 2), ι ((q 11) % 16 - (q 11) % 2), ι ((q 12) % 16 - (q 12) % 2), ι 0]) (pure_ (π zb14 9) ?_)))))))))))))))))))))))))))))))))))))
 refine store_ zS140 3 (.agg #[ι 1, ι ((q 10) % 16 - (q 10) % 2), ι ((q 11) % 16 - (q 11) % 2), ι ((q 12) % 16 - (q 12) % 2), ι 0]) zb14 9 ?_
 intro zw141 zS142
 refine nil_ (then_n (seq_ (seq_ (reg_ (pure_ (ι 0) (nil_ (then_n (wp_block (loop_ 24 (seq_ (seq_ (reg_ (pure_ (ι 0) (pure_ (τ) (nil_ (then_n (cond_T (wp_skip (then_n (seq_ (wp_block (seq_ (seq_ (reg_ (pure_ (ι 0) (nil_ (then_n (wp_block (loop_ 24 (seq_ (seq_ (reg_ (pure_ (ι 0) (pure_ (τ) (nil_ (then_n (cond_T (wp_skip (then_n (seq_ (wp_block ?_)))))))))))))))))))))))))))))))))))))))))
 refine quietL_ 11 [ι 0, ι 0, ι 0, ι 0, π zb1 14, π zb1 14, π zb1 14, ι (q 14), ι ((q 14) % 16), π zb14 14, π zb14 14] [[11, 0], [11, 1], [11, 2], [11, 3], [11, 4], [11, 5], [11, 6], [11, 7], [11, 8], [11, 10, 9], [11, 10], [12, 0], [12, 1], [12, 2], [12, 3], [12, 4], [12, 5], [12, 6], [12, 7], [12, 8], [12, 11, 10, 9], [12, 11, 10], [12, 11]] (step_cons qP_ (step_cons qP_ (step_cons qP_ (step_cons qP_ (step_cons qP_ (step_cons qP_ (step_cons qP_ (step_cons (qL_ zS142 6 zb1 14) (step_cons (qE_ (ι (bits .and .i64 (q 14) 15)) (congrArg _ (and_mask .i64 (q 14) 15 16 4 (by decide) (by decide) (by decide)))) (step_cons qP_ (step_cons qP_ (step_nil)))))))))))) ?_
 intro zw144 zh146
 have zS145 := zS142.quiet zh146
 refine pure_ (π zb14 14) ?_
 refine store_ zS145 3 (ι ((q 14) % 16)) zb14 14 ?_
 intro zw147 zS148
 refine nil_ (blk_n (then_n (reg_ (pure_ (ι 0) (pure_ (ι 1) (pure_ (ι 1) (nil_ (again_ (seq_ (seq_ (reg_ (pure_ (ι 1) (pure_ (τ) (nil_ (then_n (cond_T (wp_skip (then_n (seq_ (wp_block ?_))))))))))))))))))))
 refine quietL_ 11 [ι 0, ι 1, ι 0, ι 1, π zb1 14, π zb1 14, π zb1 15, ι (q 15), ι ((q 15) % 16), π zb14 14, π zb14 14] [[11, 0], [11, 1], [11, 2], [11, 3], [11, 4], [11, 5], [11, 6], [11, 7], [11, 8], [11, 10, 9], [11, 10], [12, 0], [12, 1], [12, 2], [12, 3], [12, 4], [12, 5], [12, 6], [12, 7], [12, 8], [12, 11, 10, 9], [12, 11, 10], [12, 11]] (step_cons qP_ (step_cons qP_ (step_cons qP_ (step_cons qP_ (step_cons qP_ (step_cons qP_ (step_cons qP_ (step_cons (qL_ zS148 6 zb1 15) (step_cons (qE_ (ι (bits .and .i64 (q 15) 15)) (congrArg _ (and_mask .i64 (q 15) 15 16 4 (by decide) (by decide) (by decide)))) (step_cons qP_ (step_cons qP_ (step_nil)))))))))))) ?_
 intro zw150 zh152
 have zS151 := zS148.quiet zh152
 refine pure_ (π zb14 15) ?_
 refine store_ zS151 3 (ι ((q 15) % 16)) zb14 15 ?_
 intro zw153 zS154
 refine nil_ (blk_n (then_n (reg_ (pure_ (ι 1) (pure_ (ι 2) (pure_ (ι 2) (nil_ (again_ (seq_ (seq_ (reg_ (pure_ (ι 2) (pure_ (τ) (nil_ (then_n (cond_T (wp_skip (then_n (seq_ (wp_block ?_))))))))))))))))))))
 refine quietL_ 11 [ι 0, ι 2, ι 0, ι 2, π zb1 14, π zb1 14, π zb1 16, ι (q 16), ι ((q 16) % 16), π zb14 14, π zb14 14] [[11, 0], [11, 1], [11, 2], [11, 3], [11, 4], [11, 5], [11, 6], [11, 7], [11, 8], [11, 10, 9], [11, 10], [12, 0], [12, 1], [12, 2], [12, 3], [12, 4], [12, 5], [12, 6], [12, 7], [12, 8], [12, 11, 10, 9], [12, 11, 10], [12, 11]] (step_cons qP_ (step_cons qP_ (step_cons qP_ (step_cons qP_ (step_cons qP_ (step_cons qP_ (step_cons qP_ (step_cons (qL_ zS154 6 zb1 16) (step_cons (qE_ (ι (bits .and .i64 (q 16) 15)) (congrArg _ (and_mask .i64 (q 16) 15 16 4 (by decide) (by decide) (by decide)))) (step_cons qP_ (step_cons qP_ (step_nil)))))))))))) ?_
 intro zw156 zh158
 have zS157 := zS154.quiet zh158
 refine pure_ (π zb14 16) ?_
 refine store_ zS157 3 (ι ((q 16) % 16)) zb14 16 ?_
 intro zw159 zS160
 refine nil_ (blk_n (then_n (reg_ (pure_ (ι 2) (pure_ (ι 3) (pure_ (ι 3) (nil_ (again_ (seq_ (seq_ (reg_ (pure_ (ι 3) (pure_ (τ) (nil_ (then_n (cond_T (wp_skip (then_n (seq_ (wp_block ?_))))))))))))))))))))
 refine quietL_ 11 [ι 0, ι 3, ι 0, ι 3, π zb1 14, π zb1 14, π zb1 17, ι (q 17), ι ((q 17) % 16), π zb14 14, π zb14 14] [[11, 0], [11, 1], [11, 2], [11, 3], [11, 4], [11, 5], [11, 6], [11, 7], [11, 8], [11, 10, 9], [11, 10], [12, 0], [12, 1], [12, 2], [12, 3], [12, 4], [12, 5], [12, 6], [12, 7], [12, 8], [12, 11, 10, 9], [12, 11, 10], [12, 11]] (step_cons qP_ (step_cons qP_ (step_cons qP_ (step_cons qP_ (step_cons qP_ (step_cons qP_ (step_cons qP_ (step_cons (qL_ zS160 6 zb1 17) (step_cons (qE_ (ι (bits .and .i64 (q 17) 15)) (congrArg _ (and_mask .i64 (q 17) 15 16 4 (by decide) (by decide) (by decide)))) (step_cons qP_ (step_cons qP_ (step_nil)))))))))))) ?_
 intro zw162 zh164
 have zS163 := zS160.quiet zh164
 refine pure_ (π zb14 17) ?_
 refine store_ zS163 3 (ι ((q 17) % 16)) zb14 17 ?_
 intro zw165 zS166
 refine nil_ (blk_n (then_n (reg_ (pure_ (ι 3) (pure_ (ι 4) (pure_ (ι 4) (nil_ (again_ (seq_ (seq_ (reg_ (pure_ (ι 4) (pure_ (φ) (nil_ (then_n (cond_F (wp_exit (then_e (then_e (blk_e (then_n (reg_ (pure_ (ι 0) (pure_ (ι 0) (pure_ (π zb1 34) (pure_ (π zb1 34) (load1_ zS166 6 (ι (q 34)) zb1 34 (pureE_ (ι (bits .and .i64 (q 34) 31)) (ι ((q 34) % 32)) (congrArg _ (and_mask .i64 (q 34) 31 32 5 (by decide) (by decide) (by decide))) (pure_ (π zb14 34) (pure_ (π zb14 34) ?_))))))))))))))))))))))))))))))
 refine store_ zS166 3 (ι ((q 34) % 32)) zb14 34 ?_
 intro zw168 zS169
 refine nil_ (blk_n (then_n (reg_ (pure_ (ι 0) (pure_ (ι 1) (pure_ (ι 1) (nil_ (again_ (seq_ (seq_ (reg_ (pure_ (ι 1) (pure_ (τ) (nil_ (then_n (cond_T (wp_skip (then_n (seq_ (wp_block (seq_ (seq_ (reg_ (pure_ (ι 0) (nil_ (then_n (wp_block (loop_ 24 (seq_ (seq_ (reg_ (pure_ (ι 0) (pure_ (τ) (nil_ (then_n (cond_T (wp_skip (then_n (seq_ (wp_block ?_))))))))))))))))))))))))))))))))))))))))
 refine quietL_ 11 [ι 1, ι 0, ι 1, ι 0, π zb1 14, π zb1 18, π zb1 18, ι (q 18), ι ((q 18) % 16), π zb14 14, π zb14 18] [[11, 0], [11, 1], [11, 2], [11, 3], [11, 4], [11, 5], [11, 6], [11, 7], [11, 8], [11, 10, 9], [11, 10], [12, 0], [12, 1], [12, 2], [12, 3], [12, 4], [12, 5], [12, 6], [12, 7], [12, 8], [12, 11, 10, 9], [12, 11, 10], [12, 11]] (step_cons qP_ (step_cons qP_ (step_cons qP_ (step_cons qP_ (step_cons qP_ (step_cons qP_ (step_cons qP_ (step_cons (qL_ zS169 6 zb1 18) (step_cons (qE_ (ι (bits .and .i64 (q 18) 15)) (congrArg _ (and_mask .i64 (q 18) 15 16 4 (by decide) (by decide) (by decide)))) (step_cons qP_ (step_cons qP_ (step_nil)))))))))))) ?_
 intro zw171 zh173
 have zS172 := zS169.quiet zh173
 refine pure_ (π zb14 18) ?_
 refine store_ zS172 3 (ι ((q 18) % 16)) zb14 18 ?_
 intro zw174 zS175
 refine nil_ (blk_n (then_n (reg_ (pure_ (ι 0) (pure_ (ι 1) (pure_ (ι 1) (nil_ (again_ (seq_ (seq_ (reg_ (pure_ (ι 1) (pure_ (τ) (nil_ (then_n (cond_T (wp_skip (then_n (seq_ (wp_block ?_))))))))))))))))))))
 refine quietL_ 11 [ι 1, ι 1, ι 1, ι 1, π zb1 14, π zb1 18, π zb1 19, ι (q 19), ι ((q 19) % 16), π zb14 14, π zb14 18] [[11, 0], [11, 1], [11, 2], [11, 3], [11, 4], [11, 5], [11, 6], [11, 7], [11, 8], [11, 10, 9], [11, 10], [12, 0], [12, 1], [12, 2], [12, 3], [12, 4], [12, 5], [12, 6], [12, 7], [12, 8], [12, 11, 10, 9], [12, 11, 10], [12, 11]] (step_cons qP_ (step_cons qP_ (step_cons qP_ (step_cons qP_ (step_cons qP_ (step_cons qP_ (step_cons qP_ (step_cons (qL_ zS175 6 zb1 19) (step_cons (qE_ (ι (bits .and .i64 (q 19) 15)) (congrArg _ (and_mask .i64 (q 19) 15 16 4 (by decide) (by decide) (by decide)))) (step_cons qP_ (step_cons qP_ (step_nil)))))))))))) ?_
 intro zw177 zh179
 have zS178 := zS175.quiet zh179
 refine pure_ (π zb14 19) ?_
 refine store_ zS178 3 (ι ((q 19) % 16)) zb14 19 ?_
 intro zw180 zS181
 refine nil_ (blk_n (then_n (reg_ (pure_ (ι 1) (pure_ (ι 2) (pure_ (ι 2) (nil_ (again_ (seq_ (seq_ (reg_ (pure_ (ι 2) (pure_ (τ) (nil_ (then_n (cond_T (wp_skip (then_n (seq_ (wp_block ?_))))))))))))))))))))
 refine quietL_ 11 [ι 1, ι 2, ι 1, ι 2, π zb1 14, π zb1 18, π zb1 20, ι (q 20), ι ((q 20) % 16), π zb14 14, π zb14 18] [[11, 0], [11, 1], [11, 2], [11, 3], [11, 4], [11, 5], [11, 6], [11, 7], [11, 8], [11, 10, 9], [11, 10], [12, 0], [12, 1], [12, 2], [12, 3], [12, 4], [12, 5], [12, 6], [12, 7], [12, 8], [12, 11, 10, 9], [12, 11, 10], [12, 11]] (step_cons qP_ (step_cons qP_ (step_cons qP_ (step_cons qP_ (step_cons qP_ (step_cons qP_ (step_cons qP_ (step_cons (qL_ zS181 6 zb1 20) (step_cons (qE_ (ι (bits .and .i64 (q 20) 15)) (congrArg _ (and_mask .i64 (q 20) 15 16 4 (by decide) (by decide) (by decide)))) (step_cons qP_ (step_cons qP_ (step_nil)))))))))))) ?_
 intro zw183 zh185
 have zS184 := zS181.quiet zh185
 refine pure_ (π zb14 20) ?_
 refine store_ zS184 3 (ι ((q 20) % 16)) zb14 20 ?_
 intro zw186 zS187
 refine nil_ (blk_n (then_n (reg_ (pure_ (ι 2) (pure_ (ι 3) (pure_ (ι 3) (nil_ (again_ (seq_ (seq_ (reg_ (pure_ (ι 3) (pure_ (τ) (nil_ (then_n (cond_T (wp_skip (then_n (seq_ (wp_block ?_))))))))))))))))))))
 refine quietL_ 11 [ι 1, ι 3, ι 1, ι 3, π zb1 14, π zb1 18, π zb1 21, ι (q 21), ι ((q 21) % 16), π zb14 14, π zb14 18] [[11, 0], [11, 1], [11, 2], [11, 3], [11, 4], [11, 5], [11, 6], [11, 7], [11, 8], [11, 10, 9], [11, 10], [12, 0], [12, 1], [12, 2], [12, 3], [12, 4], [12, 5], [12, 6], [12, 7], [12, 8], [12, 11, 10, 9], [12, 11, 10], [12, 11]] (step_cons qP_ (step_cons qP_ (step_cons qP_ (step_cons qP_ (step_cons qP_ (step_cons qP_ (step_cons qP_ (step_cons (qL_ zS187 6 zb1 21) (step_cons (qE_ (ι (bits .and .i64 (q 21) 15)) (congrArg _ (and_mask .i64 (q 21) 15 16 4 (by decide) (by decide) (by decide)))) (step_cons qP_ (step_cons qP_ (step_nil)))))))))))) ?_
 intro zw189 zh191
 have zS190 := zS187.quiet zh191
 refine pure_ (π zb14 21) ?_
 refine store_ zS190 3 (ι ((q 21) % 16)) zb14 21 ?_
 intro zw192 zS193
 refine nil_ (blk_n (then_n (reg_ (pure_ (ι 3) (pure_ (ι 4) (pure_ (ι 4) (nil_ (again_ (seq_ (seq_ (reg_ (pure_ (ι 4) (pure_ (φ) (nil_ (then_n (cond_F (wp_exit (then_e (then_e (blk_e (then_n (reg_ (pure_ (ι 1) (pure_ (ι 1) (pure_ (π zb1 34) (pure_ (π zb1 35) (load1_ zS193 6 (ι (q 35)) zb1 35 (pureE_ (ι (bits .and .i64 (q 35) 31)) (ι ((q 35) % 32)) (congrArg _ (and_mask .i64 (q 35) 31 32 5 (by decide) (by decide) (by decide))) (pure_ (π zb14 34) (pure_ (π zb14 35) ?_))))))))))))))))))))))))))))))
 refine store_ zS193 3 (ι ((q 35) % 32)) zb14 35 ?_
 intro zw195 zS196
 refine nil_ (blk_n (then_n (reg_ (pure_ (ι 1) (pure_ (ι 2) (pure_ (ι 2) (nil_ (again_ (seq_ (seq_ (reg_ (pure_ (ι 2) (pure_ (τ) (nil_ (then_n (cond_T (wp_skip (then_n (seq_ (wp_block (seq_ (seq_ (reg_ (pure_ (ι 0) (nil_ (then_n (wp_block (loop_ 24 (seq_ (seq_ (reg_ (pure_ (ι 0) (pure_ (τ) (nil_ (then_n (cond_T (wp_skip (then_n (seq_ (wp_block ?_))))))))))))))))))))))))))))))))))))))))
 refine quietL_ 11 [ι 2, ι 0, ι 2, ι 0, π zb1 14, π zb1 22, π zb1 22, ι (q 22), ι ((q 22) % 16), π zb14 14, π zb14 22] [[11, 0], [11, 1], [11, 2], [11, 3], [11, 4], [11, 5], [11, 6], [11, 7], [11, 8], [11, 10, 9], [11, 10], [12, 0], [12, 1], [12, 2], [12, 3], [12, 4], [12, 5], [12, 6], [12, 7], [12, 8], [12, 11, 10, 9], [12, 11, 10], [12, 11]] (step_cons qP_ (step_cons qP_ (step_cons qP_ (step_cons qP_ (step_cons qP_ (step_cons qP_ (step_cons qP_ (step_cons (qL_ zS196 6 zb1 22) (step_cons (qE_ (ι (bits .and .i64 (q 22) 15)) (congrArg _ (and_mask .i64 (q 22) 15 16 4 (by decide) (by decide) (by decide)))) (step_cons qP_ (step_cons qP_ (step_nil)))))))))))) ?_
 intro zw198 zh200
 have zS199 := zS196.quiet zh200
 refine pure_ (π zb14 22) ?_
 refine store_ zS199 3 (ι ((q 22) % 16)) zb14 22 ?_
 intro zw201 zS202
 refine nil_ (blk_n (then_n (reg_ (pure_ (ι 0) (pure_ (ι 1) (pure_ (ι 1) (nil_ (again_ (seq_ (seq_ (reg_ (pure_ (ι 1) (pure_ (τ) (nil_ (then_n (cond_T (wp_skip (then_n (seq_ (wp_block ?_))))))))))))))))))))
 refine quietL_ 11 [ι 2, ι 1, ι 2, ι 1, π zb1 14, π zb1 22, π zb1 23, ι (q 23), ι ((q 23) % 16), π zb14 14, π zb14 22] [[11, 0], [11, 1], [11, 2], [11, 3], [11, 4], [11, 5], [11, 6], [11, 7], [11, 8], [11, 10, 9], [11, 10], [12, 0], [12, 1], [12, 2], [12, 3], [12, 4], [12, 5], [12, 6], [12, 7], [12, 8], [12, 11, 10, 9], [12, 11, 10], [12, 11]] (step_cons qP_ (step_cons qP_ (step_cons qP_ (step_cons qP_ (step_cons qP_ (step_cons qP_ (step_cons qP_ (step_cons (qL_ zS202 6 zb1 23) (step_cons (qE_ (ι (bits .and .i64 (q 23) 15)) (congrArg _ (and_mask .i64 (q 23) 15 16 4 (by decide) (by decide) (by decide)))) (step_cons qP_ (step_cons qP_ (step_nil)))))))))))) ?_
 intro zw204 zh206
 have zS205 := zS202.quiet zh206
 refine pure_ (π zb14 23) ?_
 refine store_ zS205 3 (ι ((q 23) % 16)) zb14 23 ?_
 intro zw207 zS208
 refine nil_ (blk_n (then_n (reg_ (pure_ (ι 1) (pure_ (ι 2) (pure_ (ι 2) (nil_ (again_ (seq_ (seq_ (reg_ (pure_ (ι 2) (pure_ (τ) (nil_ (then_n (cond_T (wp_skip (then_n (seq_ (wp_block ?_))))))))))))))))))))
 refine quietL_ 11 [ι 2, ι 2, ι 2, ι 2, π zb1 14, π zb1 22, π zb1 24, ι (q 24), ι ((q 24) % 16), π zb14 14, π zb14 22] [[11, 0], [11, 1], [11, 2], [11, 3], [11, 4], [11, 5], [11, 6], [11, 7], [11, 8], [11, 10, 9], [11, 10], [12, 0], [12, 1], [12, 2], [12, 3], [12, 4], [12, 5], [12, 6], [12, 7], [12, 8], [12, 11, 10, 9], [12, 11, 10], [12, 11]] (step_cons qP_ (step_cons qP_ (step_cons qP_ (step_cons qP_ (step_cons qP_ (step_cons qP_ (step_cons qP_ (step_cons (qL_ zS208 6 zb1 24) (step_cons (qE_ (ι (bits .and .i64 (q 24) 15)) (congrArg _ (and_mask .i64 (q 24) 15 16 4 (by decide) (by decide) (by decide)))) (step_cons qP_ (step_cons qP_ (step_nil)))))))))))) ?_
 intro zw210 zh212
 have zS211 := zS208.quiet zh212
 refine pure_ (π zb14 24) ?_
 refine store_ zS211 3 (ι ((q 24) % 16)) zb14 24 ?_
 intro zw213 zS214
 refine nil_ (blk_n (then_n (reg_ (pure_ (ι 2) (pure_ (ι 3) (pure_ (ι 3) (nil_ (again_ (seq_ (seq_ (reg_ (pure_ (ι 3) (pure_ (τ) (nil_ (then_n (cond_T (wp_skip (then_n (seq_ (wp_block ?_))))))))))))))))))))
 refine quietL_ 11 [ι 2, ι 3, ι 2, ι 3, π zb1 14, π zb1 22, π zb1 25, ι (q 25), ι ((q 25) % 16), π zb14 14, π zb14 22] [[11, 0], [11, 1], [11, 2], [11, 3], [11, 4], [11, 5], [11, 6], [11, 7], [11, 8], [11, 10, 9], [11, 10], [12, 0], [12, 1], [12, 2], [12, 3], [12, 4], [12, 5], [12, 6], [12, 7], [12, 8], [12, 11, 10, 9], [12, 11, 10], [12, 11]] (step_cons qP_ (step_cons qP_ (step_cons qP_ (step_cons qP_ (step_cons qP_ (step_cons qP_ (step_cons qP_ (step_cons (qL_ zS214 6 zb1 25) (step_cons (qE_ (ι (bits .and .i64 (q 25) 15)) (congrArg _ (and_mask .i64 (q 25) 15 16 4 (by decide) (by decide) (by decide)))) (step_cons qP_ (step_cons qP_ (step_nil)))))))))))) ?_
 intro zw216 zh218
 have zS217 := zS214.quiet zh218
 refine pure_ (π zb14 25) ?_
 refine store_ zS217 3 (ι ((q 25) % 16)) zb14 25 ?_
 intro zw219 zS220
 refine nil_ (blk_n (then_n (reg_ (pure_ (ι 3) (pure_ (ι 4) (pure_ (ι 4) (nil_ (again_ (seq_ (seq_ (reg_ (pure_ (ι 4) (pure_ (φ) (nil_ (then_n (cond_F (wp_exit (then_e (then_e (blk_e (then_n (reg_ (pure_ (ι 2) (pure_ (ι 2) (pure_ (π zb1 34) (pure_ (π zb1 36) (load1_ zS220 6 (ι (q 36)) zb1 36 (pureE_ (ι (bits .and .i64 (q 36) 31)) (ι ((q 36) % 32)) (congrArg _ (and_mask .i64 (q 36) 31 32 5 (by decide) (by decide) (by decide))) (pure_ (π zb14 34) (pure_ (π zb14 36) ?_))))))))))))))))))))))))))))))
 refine store_ zS220 3 (ι ((q 36) % 32)) zb14 36 ?_
 intro zw222 zS223
 refine nil_ (blk_n (then_n (reg_ (pure_ (ι 2) (pure_ (ι 3) (pure_ (ι 3) (nil_ (again_ (seq_ (seq_ (reg_ (pure_ (ι 3) (pure_ (τ) (nil_ (then_n (cond_T (wp_skip (then_n (seq_ (wp_block (seq_ (seq_ (reg_ (pure_ (ι 0) (nil_ (then_n (wp_block (loop_ 24 (seq_ (seq_ (reg_ (pure_ (ι 0) (pure_ (τ) (nil_ (then_n (cond_T (wp_skip (then_n (seq_ (wp_block ?_))))))))))))))))))))))))))))))))))))))))
 refine quietL_ 11 [ι 3, ι 0, ι 3, ι 0, π zb1 14, π zb1 26, π zb1 26, ι (q 26), ι ((q 26) % 16), π zb14 14, π zb14 26] [[11, 0], [11, 1], [11, 2], [11, 3], [11, 4], [11, 5], [11, 6], [11, 7], [11, 8], [11, 10, 9], [11, 10], [12, 0], [12, 1], [12, 2], [12, 3], [12, 4], [12, 5], [12, 6], [12, 7], [12, 8], [12, 11, 10, 9], [12, 11, 10], [12, 11]] (step_cons qP_ (step_cons qP_ (step_cons qP_ (step_cons qP_ (step_cons qP_ (step_cons qP_ (step_cons qP_ (step_cons (qL_ zS223 6 zb1 26) (step_cons (qE_ (ι (bits .and .i64 (q 26) 15)) (congrArg _ (and_mask .i64 (q 26) 15 16 4 (by decide) (by decide) (by decide)))) (step_cons qP_ (step_cons qP_ (step_nil)))))))))))) ?_
 intro zw225 zh227
 have zS226 := zS223.quiet zh227
 refine pure_ (π zb14 26) ?_
 refine store_ zS226 3 (ι ((q 26) % 16)) zb14 26 ?_
 intro zw228 zS229
 refine nil_ (blk_n (then_n (reg_ (pure_ (ι 0) (pure_ (ι 1) (pure_ (ι 1) (nil_ (again_ (seq_ (seq_ (reg_ (pure_ (ι 1) (pure_ (τ) (nil_ (then_n (cond_T (wp_skip (then_n (seq_ (wp_block ?_))))))))))))))))))))
 refine quietL_ 11 [ι 3, ι 1, ι 3, ι 1, π zb1 14, π zb1 26, π zb1 27, ι (q 27), ι ((q 27) % 16), π zb14 14, π zb14 26] [[11, 0], [11, 1], [11, 2], [11, 3], [11, 4], [11, 5], [11, 6], [11, 7], [11, 8], [11, 10, 9], [11, 10], [12, 0], [12, 1], [12, 2], [12, 3], [12, 4], [12, 5], [12, 6], [12, 7], [12, 8], [12, 11, 10, 9], [12, 11, 10], [12, 11]] (step_cons qP_ (step_cons qP_ (step_cons qP_ (step_cons qP_ (step_cons qP_ (step_cons qP_ (step_cons qP_ (step_cons (qL_ zS229 6 zb1 27) (step_cons (qE_ (ι (bits .and .i64 (q 27) 15)) (congrArg _ (and_mask .i64 (q 27) 15 16 4 (by decide) (by decide) (by decide)))) (step_cons qP_ (step_cons qP_ (step_nil)))))))))))) ?_
 intro zw231 zh233
 have zS232 := zS229.quiet zh233
 refine pure_ (π zb14 27) ?_
 refine store_ zS232 3 (ι ((q 27) % 16)) zb14 27 ?_
 intro zw234 zS235
 refine nil_ (blk_n (then_n (reg_ (pure_ (ι 1) (pure_ (ι 2) (pure_ (ι 2) (nil_ (again_ (seq_ (seq_ (reg_ (pure_ (ι 2) (pure_ (τ) (nil_ (then_n (cond_T (wp_skip (then_n (seq_ (wp_block ?_))))))))))))))))))))
 refine quietL_ 11 [ι 3, ι 2, ι 3, ι 2, π zb1 14, π zb1 26, π zb1 28, ι (q 28), ι ((q 28) % 16), π zb14 14, π zb14 26] [[11, 0], [11, 1], [11, 2], [11, 3], [11, 4], [11, 5], [11, 6], [11, 7], [11, 8], [11, 10, 9], [11, 10], [12, 0], [12, 1], [12, 2], [12, 3], [12, 4], [12, 5], [12, 6], [12, 7], [12, 8], [12, 11, 10, 9], [12, 11, 10], [12, 11]] (step_cons qP_ (step_cons qP_ (step_cons qP_ (step_cons qP_ (step_cons qP_ (step_cons qP_ (step_cons qP_ (step_cons (qL_ zS235 6 zb1 28) (step_cons (qE_ (ι (bits .and .i64 (q 28) 15)) (congrArg _ (and_mask .i64 (q 28) 15 16 4 (by decide) (by decide) (by decide)))) (step_cons qP_ (step_cons qP_ (step_nil)))))))))))) ?_
 intro zw237 zh239
 have zS238 := zS235.quiet zh239
 refine pure_ (π zb14 28) ?_
 refine store_ zS238 3 (ι ((q 28) % 16)) zb14 28 ?_
 intro zw240 zS241
 refine nil_ (blk_n (then_n (reg_ (pure_ (ι 2) (pure_ (ι 3) (pure_ (ι 3) (nil_ (again_ (seq_ (seq_ (reg_ (pure_ (ι 3) (pure_ (τ) (nil_ (then_n (cond_T (wp_skip (then_n (seq_ (wp_block ?_))))))))))))))))))))
 refine quietL_ 11 [ι 3, ι 3, ι 3, ι 3, π zb1 14, π zb1 26, π zb1 29, ι (q 29), ι ((q 29) % 16), π zb14 14, π zb14 26] [[11, 0], [11, 1], [11, 2], [11, 3], [11, 4], [11, 5], [11, 6], [11, 7], [11, 8], [11, 10, 9], [11, 10], [12, 0], [12, 1], [12, 2], [12, 3], [12, 4], [12, 5], [12, 6], [12, 7], [12, 8], [12, 11, 10, 9], [12, 11, 10], [12, 11]] (step_cons qP_ (step_cons qP_ (step_cons qP_ (step_cons qP_ (step_cons qP_ (step_cons qP_ (step_cons qP_ (step_cons (qL_ zS241 6 zb1 29) (step_cons (qE_ (ι (bits .and .i64 (q 29) 15)) (congrArg _ (and_mask .i64 (q 29) 15 16 4 (by decide) (by decide) (by decide)))) (step_cons qP_ (step_cons qP_ (step_nil)))))))))))) ?_
 intro zw243 zh245
 have zS244 := zS241.quiet zh245
 refine pure_ (π zb14 29) ?_
 refine store_ zS244 3 (ι ((q 29) % 16)) zb14 29 ?_
 intro zw246 zS247
 refine nil_ (blk_n (then_n (reg_ (pure_ (ι 3) (pure_ (ι 4) (pure_ (ι 4) (nil_ (again_ (seq_ (seq_ (reg_ (pure_ (ι 4) (pure_ (φ) (nil_ (then_n (cond_F (wp_exit (then_e (then_e (blk_e (then_n (reg_ (pure_ (ι 3) (pure_ (ι 3) (pure_ (π zb1 34) (pure_ (π zb1 37) (load1_ zS247 6 (ι (q 37)) zb1 37 (pureE_ (ι (bits .and .i64 (q 37) 31)) (ι ((q 37) % 32)) (congrArg _ (and_mask .i64 (q 37) 31 32 5 (by decide) (by decide) (by decide))) (pure_ (π zb14 34) (pure_ (π zb14 37) ?_))))))))))))))))))))))))))))))
 refine store_ zS247 3 (ι ((q 37) % 32)) zb14 37 ?_
 intro zw249 zS250
 refine nil_ (blk_n (then_n (reg_ (pure_ (ι 3) (pure_ (ι 4) (pure_ (ι 4) (nil_ (again_ (seq_ (seq_ (reg_ (pure_ (ι 4) (pure_ (τ) (nil_ (then_n (cond_T (wp_skip (then_n (seq_ (wp_block (seq_ (seq_ (reg_ (pure_ (ι 0) (nil_ (then_n (wp_block (loop_ 24 (seq_ (seq_ (reg_ (pure_ (ι 0) (pure_ (τ) (nil_ (then_n (cond_T (wp_skip (then_n (seq_ (wp_block ?_))))))))))))))))))))))))))))))))))))))))
 refine quietL_ 11 [ι 4, ι 0, ι 4, ι 0, π zb1 14, π zb1 30, π zb1 30, ι (q 30), ι ((q 30) % 16), π zb14 14, π zb14 30] [[11, 0], [11, 1], [11, 2], [11, 3], [11, 4], [11, 5], [11, 6], [11, 7], [11, 8], [11, 10, 9], [11, 10], [12, 0], [12, 1], [12, 2], [12, 3], [12, 4], [12, 5], [12, 6], [12, 7], [12, 8], [12, 11, 10, 9], [12, 11, 10], [12, 11]] (step_cons qP_ (step_cons qP_ (step_cons qP_ (step_cons qP_ (step_cons qP_ (step_cons qP_ (step_cons qP_ (step_cons (qL_ zS250 6 zb1 30) (step_cons (qE_ (ι (bits .and .i64 (q 30) 15)) (congrArg _ (and_mask .i64 (q 30) 15 16 4 (by decide) (by decide) (by decide)))) (step_cons qP_ (step_cons qP_ (step_nil)))))))))))) ?_
 intro zw252 zh254
 have zS253 := zS250.quiet zh254
 refine pure_ (π zb14 30) ?_
 refine store_ zS253 3 (ι ((q 30) % 16)) zb14 30 ?_
 intro zw255 zS256
 refine nil_ (blk_n (then_n (reg_ (pure_ (ι 0) (pure_ (ι 1) (pure_ (ι 1) (nil_ (again_ (seq_ (seq_ (reg_ (pure_ (ι 1) (pure_ (τ) (nil_ (then_n (cond_T (wp_skip (then_n (seq_ (wp_block ?_))))))))))))))))))))
 refine quietL_ 11 [ι 4, ι 1, ι 4, ι 1, π zb1 14, π zb1 30, π zb1 31, ι (q 31), ι ((q 31) % 16), π zb14 14, π zb14 30] [[11, 0], [11, 1], [11, 2], [11, 3], [11, 4], [11, 5], [11, 6], [11, 7], [11, 8], [11, 10, 9], [11, 10], [12, 0], [12, 1], [12, 2], [12, 3], [12, 4], [12, 5], [12, 6], [12, 7], [12, 8], [12, 11, 10, 9], [12, 11, 10], [12, 11]] (step_cons qP_ (step_cons qP_ (step_cons qP_ (step_cons qP_ (step_cons qP_ (step_cons qP_ (step_cons qP_ (step_cons (qL_ zS256 6 zb1 31) (step_cons (qE_ (ι (bits .and .i64 (q 31) 15)) (congrArg _ (and_mask .i64 (q 31) 15 16 4 (by decide) (by decide) (by decide)))) (step_cons qP_ (step_cons qP_ (step_nil)))))))))))) ?_
 intro zw258 zh260
 have zS259 := zS256.quiet zh260
 refine pure_ (π zb14 31) ?_
 refine store_ zS259 3 (ι ((q 31) % 16)) zb14 31 ?_
 intro zw261 zS262
 refine nil_ (blk_n (then_n (reg_ (pure_ (ι 1) (pure_ (ι 2) (pure_ (ι 2) (nil_ (again_ (seq_ (seq_ (reg_ (pure_ (ι 2) (pure_ (τ) (nil_ (then_n (cond_T (wp_skip (then_n (seq_ (wp_block ?_))))))))))))))))))))
 refine quietL_ 11 [ι 4, ι 2, ι 4, ι 2, π zb1 14, π zb1 30, π zb1 32, ι (q 32), ι ((q 32) % 16), π zb14 14, π zb14 30] [[11, 0], [11, 1], [11, 2], [11, 3], [11, 4], [11, 5], [11, 6], [11, 7], [11, 8], [11, 10, 9], [11, 10], [12, 0], [12, 1], [12, 2], [12, 3], [12, 4], [12, 5], [12, 6], [12, 7], [12, 8], [12, 11, 10, 9], [12, 11, 10], [12, 11]] (step_cons qP_ (step_cons qP_ (step_cons qP_ (step_cons qP_ (step_cons qP_ (step_cons qP_ (step_cons qP_ (step_cons (qL_ zS262 6 zb1 32) (step_cons (qE_ (ι (bits .and .i64 (q 32) 15)) (congrArg _ (and_mask .i64 (q 32) 15 16 4 (by decide) (by decide) (by decide)))) (step_cons qP_ (step_cons qP_ (step_nil)))))))))))) ?_
 intro zw264 zh266
 have zS265 := zS262.quiet zh266
 refine pure_ (π zb14 32) ?_
 refine store_ zS265 3 (ι ((q 32) % 16)) zb14 32 ?_
 intro zw267 zS268
 refine nil_ (blk_n (then_n (reg_ (pure_ (ι 2) (pure_ (ι 3) (pure_ (ι 3) (nil_ (again_ (seq_ (seq_ (reg_ (pure_ (ι 3) (pure_ (τ) (nil_ (then_n (cond_T (wp_skip (then_n (seq_ (wp_block ?_))))))))))))))))))))
 refine quietL_ 11 [ι 4, ι 3, ι 4, ι 3, π zb1 14, π zb1 30, π zb1 33, ι (q 33), ι ((q 33) % 16), π zb14 14, π zb14 30] [[11, 0], [11, 1], [11, 2], [11, 3], [11, 4], [11, 5], [11, 6], [11, 7], [11, 8], [11, 10, 9], [11, 10], [12, 0], [12, 1], [12, 2], [12, 3], [12, 4], [12, 5], [12, 6], [12, 7], [12, 8], [12, 11, 10, 9], [12, 11, 10], [12, 11]] (step_cons qP_ (step_cons qP_ (step_cons qP_ (step_cons qP_ (step_cons qP_ (step_cons qP_ (step_cons qP_ (step_cons (qL_ zS268 6 zb1 33) (step_cons (qE_ (ι (bits .and .i64 (q 33) 15)) (congrArg _ (and_mask .i64 (q 33) 15 16 4 (by decide) (by decide) (by decide)))) (step_cons qP_ (step_cons qP_ (step_nil)))))))))))) ?_
 intro zw270 zh272
 have zS271 := zS268.quiet zh272
 refine pure_ (π zb14 33) ?_
 refine store_ zS271 3 (ι ((q 33) % 16)) zb14 33 ?_
 intro zw273 zS274
 refine nil_ (blk_n (then_n (reg_ (pure_ (ι 3) (pure_ (ι 4) (pure_ (ι 4) (nil_ (again_ (seq_ (seq_ (reg_ (pure_ (ι 4) (pure_ (φ) (nil_ (then_n (cond_F (wp_exit (then_e (then_e (blk_e (then_n (reg_ (pure_ (ι 4) (pure_ (ι 4) (pure_ (π zb1 34) (pure_ (π zb1 38) (load1_ zS274 6 (ι (q 38)) zb1 38 (pureE_ (ι (bits .and .i64 (q 38) 31)) (ι ((q 38) % 32)) (congrArg _ (and_mask .i64 (q 38) 31 32 5 (by decide) (by decide) (by decide))) (pure_ (π zb14 34) (pure_ (π zb14 38) ?_))))))))))))))))))))))))))))))
 refine store_ zS274 3 (ι ((q 38) % 32)) zb14 38 ?_
 intro zw276 zS277
 refine nil_ (blk_n (then_n (reg_ (pure_ (ι 4) (pure_ (ι 5) (pure_ (ι 5) (nil_ (again_ (seq_ (seq_ (reg_ (pure_ (ι 5) (pure_ (φ) (nil_ (then_n (cond_F (wp_exit (then_e (then_e (blk_e (then_n (seq_ (reg_ (pure_ (π zb1 39) (load1_ zS277 6 (ι (q 39)) zb1 39 (call_ 48 #[ι (q 39), ι 5] ?_))))))))))))))))))))))))))
 refine (mod_ (q 39) 5 (hq 39) (by omega) _).mono ?_; rintro _ zw278 ⟨rfl, zh279⟩
 have zS280 := zS277.quiet zh279
 have zh281 := modI_bd (q 39) 5 (by omega)
 refine pure_ (π zb14 39) ?_
 refine store_ zS280 3 (ι (modI (q 39) 5)) zb14 39 ?_
 intro zw282 zS283
 refine nsr_ (pure_ (π zb1 40) (load1_ zS283 6 (ι (q 40)) zb1 40 (call_ 48 #[ι (q 40), ι 5] ?_)))
 refine (mod_ (q 40) 5 (hq 40) (by omega) _).mono ?_; rintro _ zw284 ⟨rfl, zh285⟩
 have zS286 := zS283.quiet zh285
 have zh287 := modI_bd (q 40) 5 (by omega)
 refine pure_ (π zb14 40) ?_
 refine store_ zS286 3 (ι (modI (q 40) 5)) zb14 40 ?_
 intro zw288 zS289
 refine nsr_ (pure_ (π zb1 41) (load1_ zS289 6 (ι (q 41)) zb1 41 (call_ 48 #[ι (q 41), ι 5] ?_)))
 refine (mod_ (q 41) 5 (hq 41) (by omega) _).mono ?_; rintro _ zw290 ⟨rfl, zh291⟩
 have zS292 := zS289.quiet zh291
 have zh293 := modI_bd (q 41) 5 (by omega)
 refine pure_ (π zb14 41) ?_
 refine store_ zS292 3 (ι (modI (q 41) 5)) zb14 41 ?_
 intro zw294 zS295
 refine nsr_ (pure_ (π zb1 42) (load1_ zS295 6 (ι (q 42)) zb1 42 (call_ 48 #[ι (q 42), ι 1000] ?_)))
 refine (mod_ (q 42) 1000 (hq 42) (by omega) _).mono ?_; rintro _ zw296 ⟨rfl, zh297⟩
 have zS298 := zS295.quiet zh297
 have zh299 := modI_bd (q 42) 1000 (by omega)
 refine sum_ .i64 (1 + (modI (q 42) 1000)) (IntWalk.i64_in _ (by omega)) (pure_ (π zb14 42) ?_)
 refine store_ zS298 3 (ι (1 + (modI (q 42) 1000))) zb14 42 ?_
 intro zw300 zS301
 refine nsr_ (pure_ (π zb1 43) (load1_ zS301 6 (ι (q 43)) zb1 43 (call_ 48 #[ι (q 43), ι 1000] ?_)))
 refine (mod_ (q 43) 1000 (hq 43) (by omega) _).mono ?_; rintro _ zw302 ⟨rfl, zh303⟩
 have zS304 := zS301.quiet zh303
 have zh305 := modI_bd (q 43) 1000 (by omega)
 refine sum_ .i64 (1 + (modI (q 43) 1000)) (IntWalk.i64_in _ (by omega)) (pure_ (π zb14 43) ?_)
 refine store_ zS304 3 (ι (1 + (modI (q 43) 1000))) zb14 43 ?_
 intro zw306 zS307
 refine nsr_ (pure_ (π zb1 44) (load1_ zS307 6 (ι (q 44)) zb1 44 (call_ 48 #[ι (q 44), ι 1000] ?_)))
 refine (mod_ (q 44) 1000 (hq 44) (by omega) _).mono ?_; rintro _ zw308 ⟨rfl, zh309⟩
 have zS310 := zS307.quiet zh309
 have zh311 := modI_bd (q 44) 1000 (by omega)
 refine sum_ .i64 (1 + (modI (q 44) 1000)) (IntWalk.i64_in _ (by omega)) (pure_ (π zb14 44) ?_)
 refine store_ zS310 3 (ι (1 + (modI (q 44) 1000))) zb14 44 ?_
 intro zw312 zS313
 refine nsr_ (pure_ (π zb1 45) (load1_ zS313 6 (ι (q 45)) zb1 45 (call_ 48 #[ι (q 45), ι 1000] ?_)))
 refine (mod_ (q 45) 1000 (hq 45) (by omega) _).mono ?_; rintro _ zw314 ⟨rfl, zh315⟩
 have zS316 := zS313.quiet zh315
 have zh317 := modI_bd (q 45) 1000 (by omega)
 refine sum_ .i64 (1 + (modI (q 45) 1000)) (IntWalk.i64_in _ (by omega)) (pure_ (π zb14 45) ?_)
 refine store_ zS316 3 (ι (1 + (modI (q 45) 1000))) zb14 45 ?_
 intro zw318 zS319
 refine nsr_ (pure_ (π zb1 46) (load1_ zS319 6 (ι (q 46)) zb1 46 (call_ 48 #[ι (q 46), ι 1000] ?_)))
 refine (mod_ (q 46) 1000 (hq 46) (by omega) _).mono ?_; rintro _ zw320 ⟨rfl, zh321⟩
 have zS322 := zS319.quiet zh321
 have zh323 := modI_bd (q 46) 1000 (by omega)
 refine sum_ .i64 (1 + (modI (q 46) 1000)) (IntWalk.i64_in _ (by omega)) (pure_ (π zb14 46) ?_)
 refine store_ zS322 3 (ι (1 + (modI (q 46) 1000))) zb14 46 ?_
 intro zw324 zS325
 refine nsr_ (pure_ (π zb1 47) (load1_ zS325 6 (ι (q 47)) zb1 47 (call_ 48 #[ι (q 47), ι 1001] ?_)))
 refine (mod_ (q 47) 1001 (hq 47) (by omega) _).mono ?_; rintro _ zw326 ⟨rfl, zh327⟩
 have zS328 := zS325.quiet zh327
 have zh329 := modI_bd (q 47) 1001 (by omega)
 refine pure_ (π zb14 47) ?_
 refine store_ zS328 3 (ι (modI (q 47) 1001)) zb14 47 ?_
 intro zw330 zS331
 refine nsr_ (pure_ (π zb1 48) (load1_ zS331 6 (ι (q 48)) zb1 48 (call_ 48 #[ι (q 48), ι 3] ?_)))
 refine (mod_ (q 48) 3 (hq 48) (by omega) _).mono ?_; rintro _ zw332 ⟨rfl, zh333⟩
 have zS334 := zS331.quiet zh333
 have zh335 := modI_bd (q 48) 3 (by omega)
 refine sum_ .i64 (1 + (modI (q 48) 3)) (IntWalk.i64_in _ (by omega)) (pure_ (π zb14 48) ?_)
 refine store_ zS334 3 (ι (1 + (modI (q 48) 3))) zb14 48 ?_
 intro zw336 zS337
 refine nsr_ (pure_ (π zb1 49) (load1_ zS337 6 (ι (q 49)) zb1 49 (call_ 48 #[ι (q 49), ι 3] ?_)))
 refine (mod_ (q 49) 3 (hq 49) (by omega) _).mono ?_; rintro _ zw338 ⟨rfl, zh339⟩
 have zS340 := zS337.quiet zh339
 have zh341 := modI_bd (q 49) 3 (by omega)
 refine sum_ .i64 (1 + (modI (q 49) 3)) (IntWalk.i64_in _ (by omega)) (pure_ (π zb14 49) ?_)
 refine store_ zS340 3 (ι (1 + (modI (q 49) 3))) zb14 49 ?_
 intro zw342 zS343
 refine nil_ (then_n (seq_ (seq_ (reg_ (pure_ (ι 1) (nil_ (then_n (wp_block (loop_ 24 (seq_ (seq_ (reg_ (pure_ (ι 1) (pure_ (τ) (nil_ (then_n (cond_T (wp_skip (then_n (seq_ (wp_block (reg_ (pure_ (ι 1) (pure_ (ι 1) (pure_ (π zb1 50) (pure_ (π zb1 51) (load1_ zS343 6 (ι (q 51)) zb1 51 (call_ 48 #[ι (q 51), ι 1001] ?_))))))))))))))))))))))))))))
 refine (mod_ (q 51) 1001 (hq 51) (by omega) _).mono ?_; rintro _ zw344 ⟨rfl, zh345⟩
 have zS346 := zS343.quiet zh345
 have zh347 := modI_bd (q 51) 1001 (by omega)
 refine pure_ (π zb14 50) (pure_ (π zb14 51) ?_)
 refine store_ zS346 3 (ι (modI (q 51) 1001)) zb14 51 ?_
 intro zw348 zS349
 refine nil_ (blk_n (then_n (reg_ (pure_ (ι 1) (pure_ (ι 2) (pure_ (ι 2) (nil_ (again_ (seq_ (seq_ (reg_ (pure_ (ι 2) (pure_ (τ) (nil_ (then_n (cond_T (wp_skip (then_n (seq_ (wp_block (reg_ (pure_ (ι 2) (pure_ (ι 2) (pure_ (π zb1 50) (pure_ (π zb1 52) (load1_ zS349 6 (ι (q 52)) zb1 52 (call_ 48 #[ι (q 52), ι 1001] ?_)))))))))))))))))))))))))))
 refine (mod_ (q 52) 1001 (hq 52) (by omega) _).mono ?_; rintro _ zw350 ⟨rfl, zh351⟩
 have zS352 := zS349.quiet zh351
 have zh353 := modI_bd (q 52) 1001 (by omega)
 refine pure_ (π zb14 50) (pure_ (π zb14 52) ?_)
 refine store_ zS352 3 (ι (modI (q 52) 1001)) zb14 52 ?_
 intro zw354 zS355
 refine nil_ (blk_n (then_n (reg_ (pure_ (ι 2) (pure_ (ι 3) (pure_ (ι 3) (nil_ (again_ (seq_ (seq_ (reg_ (pure_ (ι 3) (pure_ (τ) (nil_ (then_n (cond_T (wp_skip (then_n (seq_ (wp_block (reg_ (pure_ (ι 3) (pure_ (ι 3) (pure_ (π zb1 50) (pure_ (π zb1 53) (load1_ zS355 6 (ι (q 53)) zb1 53 (call_ 48 #[ι (q 53), ι 1001] ?_)))))))))))))))))))))))))))
 refine (mod_ (q 53) 1001 (hq 53) (by omega) _).mono ?_; rintro _ zw356 ⟨rfl, zh357⟩
 have zS358 := zS355.quiet zh357
 have zh359 := modI_bd (q 53) 1001 (by omega)
 refine pure_ (π zb14 50) (pure_ (π zb14 53) ?_)
 refine store_ zS358 3 (ι (modI (q 53) 1001)) zb14 53 ?_
 intro zw360 zS361
 refine nil_ (blk_n (then_n (reg_ (pure_ (ι 3) (pure_ (ι 4) (pure_ (ι 4) (nil_ (again_ (seq_ (seq_ (reg_ (pure_ (ι 4) (pure_ (φ) (nil_ (then_n (cond_F (wp_exit (then_e (then_e (blk_e (then_n (seq_ (reg_ (pure_ (π zb1 54) (load1_ zS361 6 (ι (q 54)) zb1 54 (call_ 48 #[ι (q 54), ι 1000] ?_))))))))))))))))))))))))))
 refine (mod_ (q 54) 1000 (hq 54) (by omega) _).mono ?_; rintro _ zw362 ⟨rfl, zh363⟩
 have zS364 := zS361.quiet zh363
 have zh365 := modI_bd (q 54) 1000 (by omega)
 refine sum_ .i64 (1 + (modI (q 54) 1000)) (IntWalk.i64_in _ (by omega)) (pure_ (π zb14 54) ?_)
 refine store_ zS364 3 (ι (1 + (modI (q 54) 1000))) zb14 54 ?_
 intro zw366 zS367
 refine nsr_ (pure_ (π zb1 55) (load1_ zS367 6 (ι (q 55)) zb1 55 (pureE_ (ι (bits .and .i64 (q 55) 65535)) (ι ((q 55) % 65536)) (congrArg _ (and_mask .i64 (q 55) 65535 65536 16 (by decide) (by decide) (by decide))) (pure_ (π zb14 55) ?_))))
 refine store_ zS367 3 (ι ((q 55) % 65536)) zb14 55 ?_
 intro zw369 zS370
 refine nsr_ ?_
 refine loadN_ zS370 3 56 #[ι 0, ι o1, ι o2, ι o3, ι 4, σ zb116 0 (keyL (kn 0) (kb 0)).length zc117, σ zb125 0 (keyL (kn 1) (kb 1)).length zc126, σ zb134 0 (keyL (kn 2) (kb 2)).length zc135, σ zb9 0 (keyL (kn 3) (kb 3)).length zc10, ι 1, ι ((q 10) % 16 - (q 10) % 2), ι ((q 11) % 16 - (q 11) % 2), ι ((q 12) % 16 - (q 12) % 2), ι 0, ι ((q 14) % 16), ι ((q 15) % 16), ι ((q 16) % 16), ι ((q 17) % 16), ι ((q 18) % 16), ι ((q 19) % 16), ι ((q 20) % 16), ι ((q 21) % 16), ι ((q 22) % 16), ι ((q 23) % 16), ι ((q 24) % 16), ι ((q 25) % 16), ι ((q 26) % 16), ι ((q 27) % 16), ι ((q 28) % 16), ι ((q 29) % 16), ι ((q 30) % 16), ι ((q 31) % 16), ι ((q 32) % 16), ι ((q 33) % 16), ι ((q 34) % 32), ι ((q 35) % 32), ι ((q 36) % 32), ι ((q 37) % 32), ι ((q 38) % 32), ι (modI (q 39) 5), ι (modI (q 40) 5), ι (modI (q 41) 5), ι (1 + (modI (q 42) 1000)), ι (1 + (modI (q 43) 1000)), ι (1 + (modI (q 44) 1000)), ι (1 + (modI (q 45) 1000)), ι (1 + (modI (q 46) 1000)), ι (modI (q 47) 1001), ι (1 + (modI (q 48) 3)), ι (1 + (modI (q 49) 3)), ι 0, ι (modI (q 51) 1001), ι (modI (q 52) 1001), ι (modI (q 53) 1001), ι (1 + (modI (q 54) 1000)), ι ((q 55) % 65536)] zb14 0 ?_
 refine store_ zS370 5 (.agg #[ι 0, ι o1, ι o2, ι o3, ι 4, σ zb116 0 (keyL (kn 0) (kb 0)).length zc117, σ zb125 0 (keyL (kn 1) (kb 1)).length zc126, σ zb134 0 (keyL (kn 2) (kb 2)).length zc135, σ zb9 0 (keyL (kn 3) (kb 3)).length zc10, ι 1, ι ((q 10) % 16 - (q 10) % 2), ι ((q 11) % 16 - (q 11) % 2), ι ((q 12) % 16 - (q 12) % 2), ι 0, ι ((q 14) % 16), ι ((q 15) % 16), ι ((q 16) % 16), ι ((q 17) % 16), ι ((q 18) % 16), ι ((q 19) % 16), ι ((q 20) % 16), ι ((q 21) % 16), ι ((q 22) % 16), ι ((q 23) % 16), ι ((q 24) % 16), ι ((q 25) % 16), ι ((q 26) % 16), ι ((q 27) % 16), ι ((q 28) % 16), ι ((q 29) % 16), ι ((q 30) % 16), ι ((q 31) % 16), ι ((q 32) % 16), ι ((q 33) % 16), ι ((q 34) % 32), ι ((q 35) % 32), ι ((q 36) % 32), ι ((q 37) % 32), ι ((q 38) % 32), ι (modI (q 39) 5), ι (modI (q 40) 5), ι (modI (q 41) 5), ι (1 + (modI (q 42) 1000)), ι (1 + (modI (q 43) 1000)), ι (1 + (modI (q 44) 1000)), ι (1 + (modI (q 45) 1000)), ι (1 + (modI (q 46) 1000)), ι (modI (q 47) 1001), ι (1 + (modI (q 48) 3)), ι (1 + (modI (q 49) 3)), ι 0, ι (modI (q 51) 1001), ι (modI (q 52) 1001), ι (modI (q 53) 1001), ι (1 + (modI (q 54) 1000)), ι ((q 55) % 65536)]) zb4 0 ?_
 intro zw371 zS372
 refine nil_ (then_n (wp_ret ?_))
 refine ret_ rfl (res_ [.cell 2 28] [.agg #[ι 0, ι o1, ι o2, ι o3, ι 4, σ zb116 0 (keyL (kn 0) (kb 0)).length zc117, σ zb125 0 (keyL (kn 1) (kb 1)).length zc126, σ zb134 0 (keyL (kn 2) (kb 2)).length zc135, σ zb9 0 (keyL (kn 3) (kb 3)).length zc10, ι 1, ι ((q 10) % 16 - (q 10) % 2), ι ((q 11) % 16 - (q 11) % 2), ι ((q 12) % 16 - (q 12) % 2), ι 0, ι ((q 14) % 16), ι ((q 15) % 16), ι ((q 16) % 16), ι ((q 17) % 16), ι ((q 18) % 16), ι ((q 19) % 16), ι ((q 20) % 16), ι ((q 21) % 16), ι ((q 22) % 16), ι ((q 23) % 16), ι ((q 24) % 16), ι ((q 25) % 16), ι ((q 26) % 16), ι ((q 27) % 16), ι ((q 28) % 16), ι ((q 29) % 16), ι ((q 30) % 16), ι ((q 31) % 16), ι ((q 32) % 16), ι ((q 33) % 16), ι ((q 34) % 32), ι ((q 35) % 32), ι ((q 36) % 32), ι ((q 37) % 32), ι ((q 38) % 32), ι (modI (q 39) 5), ι (modI (q 40) 5), ι (modI (q 41) 5), ι (1 + (modI (q 42) 1000)), ι (1 + (modI (q 43) 1000)), ι (1 + (modI (q 44) 1000)), ι (1 + (modI (q 45) 1000)), ι (1 + (modI (q 46) 1000)), ι (modI (q 47) 1001), ι (1 + (modI (q 48) 3)), ι (1 + (modI (q 49) 3)), ι 0, ι (modI (q 51) 1001), ι (modI (q 52) 1001), ι (modI (q 53) 1001), ι (1 + (modI (q 54) 1000)), ι ((q 55) % 65536)]] (.agg #[ι 0, ι o1, ι o2, ι o3, ι 4, σ zb116 0 (keyL (kn 0) (kb 0)).length zc117, σ zb125 0 (keyL (kn 1) (kb 1)).length zc126, σ zb134 0 (keyL (kn 2) (kb 2)).length zc135, σ zb9 0 (keyL (kn 3) (kb 3)).length zc10, ι 1, ι ((q 10) % 16 - (q 10) % 2), ι ((q 11) % 16 - (q 11) % 2), ι ((q 12) % 16 - (q 12) % 2), ι 0, ι ((q 14) % 16), ι ((q 15) % 16), ι ((q 16) % 16), ι ((q 17) % 16), ι ((q 18) % 16), ι ((q 19) % 16), ι ((q 20) % 16), ι ((q 21) % 16), ι ((q 22) % 16), ι ((q 23) % 16), ι ((q 24) % 16), ι ((q 25) % 16), ι ((q 26) % 16), ι ((q 27) % 16), ι ((q 28) % 16), ι ((q 29) % 16), ι ((q 30) % 16), ι ((q 31) % 16), ι ((q 32) % 16), ι ((q 33) % 16), ι ((q 34) % 32), ι ((q 35) % 32), ι ((q 36) % 32), ι ((q 37) % 32), ι ((q 38) % 32), ι (modI (q 39) 5), ι (modI (q 40) 5), ι (modI (q 41) 5), ι (1 + (modI (q 42) 1000)), ι (1 + (modI (q 43) 1000)), ι (1 + (modI (q 44) 1000)), ι (1 + (modI (q 45) 1000)), ι (1 + (modI (q 46) 1000)), ι (modI (q 47) 1001), ι (1 + (modI (q 48) 3)), ι (1 + (modI (q 49) 3)), ι 0, ι (modI (q 51) 1001), ι (modI (q 52) 1001), ι (modI (q 53) 1001), ι (1 + (modI (q 54) 1000)), ι ((q 55) % 65536)]) ⟨res_cellN zS372 5 56 zb4 0, trivial⟩) ?_
 exact ⟨o1, o2, o3, (fun i => [zb116, zb125, zb134, zb9].getD i 0), (fun i => [zc117, zc126, zc135, zc10].getD i 0), (fun i => ([zt118, zt127, zt136, zt11] : List (List Value)).getD i []), zf113, by kernel_rfl, fun i hi => by
   match i, hi with
   | 0, _ => exact ⟨zh120, zh119⟩
   | 1, _ => exact ⟨zh129, zh128⟩
   | 2, _ => exact ⟨zh138, zh137⟩
   | 3, _ => exact ⟨zh13, zh12⟩
   | i + 4, h => exact absurd h (by omega), zS372.pickT (A := [(β zb116 ((keyV (keyL (kn 0) (kb 0)) ++ zt118).toArray) 5), (β zb125 ((keyV (keyL (kn 1) (kb 1)) ++ zt127).toArray) 5), (β zb134 ((keyV (keyL (kn 2) (kb 2)) ++ zt136).toArray) 5), (β zb9 ((keyV (keyL (kn 3) (kb 3)) ++ zt11).toArray) 5)]) (T := bs) [2, 1, 0, 4] 7 (by kernel_rfl) (by kernel_rfl) (by decide) rfl⟩

end Go.Proofs.YtbjanfgipcniiaaGreatDoor
