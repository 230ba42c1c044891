/- QueueOrders: whichever number and row of asks, the law returns true. Conditions: none. -/
import Derived.Test.YtciiaficfmbimaaB5
import Derived.Test.YtciiaficfmbimaaChecked
import Derived.Test.YtciiaficfmbimaaRows
import Derived.Lib.SmallJoins
set_option linter.unusedVariables false
set_option linter.unusedSimpArgs false
set_option linter.unusedSectionVars false
noncomputable section
namespace Vx
open Go Go.RowKit Go.BigFrame Sx
variable {G : Type} [Bl G]
def cpyA (P : Program) (J : VB) : (Operand → V) → Op → List VB → List G → VK G → Prop := fun e op bl ch K => match op with
  | .buildSlice t 0 ps => (match ps.toList, P.underlying t with
    | [], some (.slice T) => (match szT P T, zeroT P T with
      | some (z + 1), some zc => cond (Nat.beq (szL zc) (z + 1)) (∀ a : Addr, K (.raw (.slice (some a) 0 0)) bl ch) False
      | _, _ => False)
    | _, _ => False)
  | .call c => (match c.callee, c.args.toList, c.argTypes.toList with
    | .builtin .append, [s, xs], [t, tx] => (match P.underlying t, P.underlying tx with
      | some (.slice T), some (.slice _) => (match rowInfo P T, e s, e xs with
        | some (z, by_), .raw (.slice (some a) 0 0), .osl i 0 m _ _ => (match bl[i]? with
          | some ⟨_, _, [.rowp z' m' g, .rest _]⟩ => cond (Nat.beq z z' && (Nat.ble by_ 10000000 && (wfB bl.length bl && wfL 0 J.c)))
              ((m' = m ∧ m ≤ 1000000 ∧ (∀ j, (g j).length = z) ∧ (∀ j u, u ∈ g j → u.oneCell' = true) ∧ J.wr = false ∧ ∃ k : Nat, bl[k]? = some J) ∧
                ∀ (ty : TypeId) (fz : Nat × Nat) (c' : Nat) (x' : Option Addr) (u : List Value), m ≤ c' → K (.osl bl.length 0 m c' x') (bl ++ [⟨false, ⟨ty, fz⟩, [.rowp z m g, .rest u]⟩]) ch) False
          | _ => False)
        | _, _, _ => False)
      | _, _ => False)
    | _, _, _ => False)
  | _ => False
theorem cpyA_ok {P : Program} {J : VB} {gl : Nat → Option Nat} : HOk (G := G) P gl (cpyA P J) := by
  intro e op ids bl ch R ms w0 w K ρ o hg hl S hρ ho h
  unfold cpyA at h
  split at h
  · rename_i t ps
    split at h
    · rename_i T hps hu
      split at h
      · rename_i z zc hz hzc
        cases hq : Nat.beq (szL zc) (z + 1) with
        | false => rw [hq] at h; exact h.elim
        | true =>
          rw [hq] at h
          simp only [cond_true] at h
          have hrun := run_buildSlice (P := P) (ids := ids) (w := w) (len := 0) (ps := []) (c := []) hu hz hzc (Nat.eq_of_beq_eq_true hq) (by simp) rfl
          have hn := S.new (Ch.alloc [] w (.cells #[] T)) (Nat.le_refl _) (heap_alloc_new w _)
          refine ⟨_, [], bl, ch, w.alloc (.cells #[] T), .inl ?_, by simpa using hl, ?_, h ⟨w.heap.size, 0, none⟩⟩
          · unfold execOp
            have hp0 : ps = #[] := by apply Array.ext'; simpa using hps
            subst hp0
            simp only [ho]
            rw [Sem.run_bind]
            have h2 : (Instr.buildSlice t 0 #[]).run P w = .ok (.slice (some ⟨w.heap.size, 0, none⟩) 0 0) (w.alloc (.cells #[] T)) := hrun
            have h3 : ((#[] : Array (Nat × Operand)).map fun (x : Nat × Operand) => match x with | (i, x) => (i, ρ x)) = #[] := by simp
            rw [h3, h2]
            rfl
          · rw [List.append_nil]
            exact hn.sub (List.sublist_cons_self _ _)
      · exact h.elim
    · exact h.elim
  · rename_i c
    split at h
    · rename_i s xs t tx hcal hargs hts
      split at h
      · rename_i T T' ht htx
        split at h
        · rename_i z by_ a i m cc2 xx hinfo hes hxs
          split at h
          · rename_i wr ty z' m' g us hb
            cases hq : Nat.beq z z' && (Nat.ble by_ 10000000 && (wfB bl.length bl && wfL 0 J.c)) with
            | false => rw [hq] at h; exact h.elim
            | true =>
              rw [hq] at h
              simp only [cond_true] at h
              simp only [Bool.and_eq_true] at hq
              obtain ⟨q1, q5, q10, q11⟩ := hq
              obtain rfl := Nat.eq_of_beq_eq_true q1
              have q5 := Nat.le_of_ble_eq_true q5
              obtain ⟨⟨rfl, q6, hgl, hone, hJ, k, hk⟩, h⟩ := h
              obtain ⟨cal, ar, ats⟩ := c
              simp only at hcal hargs hts
              have e2 : ar = #[s, xs] := by rw [← hargs]
              have e3 : ats = #[t, tx] := by rw [← hts]
              subst hcal e2 e3
              by_cases hm0 : m' = 0
              · subst hm0
                have hinf : ∃ inf, P.info? T = some inf := by
                  unfold rowInfo at hinfo
                  split at hinfo
                  · rename_i inf hi; exact ⟨inf, hi⟩
                  · cases hinfo
                obtain ⟨inf, hinf⟩ := hinf
                have hsx : Src P inf.size tx (.slice xx 0 cc2) 0 [] w := by
                  cases xx with
                  | none => exact Src.ofNil w htx cc2
                  | some y => exact Src.ofSlice w htx y 0 cc2 [] (by simp) (fun j u hj => by simp at hj) (fun u hu => by simp at hu)
                have hrun := run_append_nothing (P := P) w t tx o.type T inf ht hinf (some a) 0 0 (Nat.le_refl _) (.slice xx 0 cc2) hsx
                have hj := (at_lit hl S hk).1
                refine ⟨.osl bl.length 0 0 0 (some a), [ids.getD k 0], bl ++ [⟨false, ⟨J.ty.t, J.ty.fz⟩, [.rowp z 0 g, .rest (denC [] J.c)]⟩], ch, w, .inl ?_, by simp [hl], ?_, h J.ty.t J.ty.fz 0 (some a) (denC [] J.c) (Nat.le_refl _)⟩
                · have := append_op (P := P) (ρ := ρ) (o := o) ho (sv := .slice (some a) 0 0) (xv := .slice xx 0 cc2) (by rw [hρ, hes]; simp only [den]) (by rw [hρ, hxs]; rfl) hrun
                  rw [this]
                  rfl
                · rw [lits_app _ _ _ _ hl, lits_ids _ _ (by rw [hl]; exact q10)]
                  have hd : denC ids J.c = denC [] J.c := by have := denC_app (ids := []) (more := ids) J.c q11; simpa using this
                  have hjj : mkB ids (ids.getD k 0) J = ⟨ids.getD k 0, false, .cells (denC [] J.c).toArray J.ty.t J.ty.fz⟩ := by simp only [mkB, hJ, hd]
                  rw [hjj] at hj
                  have hb2 : lits (ids ++ [ids.getD k 0]) [ids.getD k 0] [(⟨false, ⟨J.ty.t, J.ty.fz⟩, [.rowp z 0 g, .rest (denC [] J.c)]⟩ : VB)] = [⟨ids.getD k 0, false, .cells (denC [] J.c).toArray J.ty.t J.ty.fz⟩] := by
                    simp [lits, mkB, denC, cl]
                  rw [hb2]
                  refine (St.dupQ S (List.mem_of_getElem? hj) rfl).perm ?_
                  rw [List.append_assoc (lits ids ids bl)]
                  exact (List.perm_middle).symm
              · have hat := (at_lit hl S hb).2
                have hnews : ((List.range m').flatMap g).length = m' * z := flatL hgl m'
                have hcells : ∀ is : List Nat, denC is [V.rowp z m' g, .rest us] = (List.range m').flatMap g ++ us := fun is => by simp [denC, cl]
                have hsrc : Src P z tx (.slice (some ⟨ids.getD i 0, 0, none⟩) m' cc2) m' ((List.range m').flatMap g) w := by
                  refine Src.ofSlice w htx ⟨ids.getD i 0, 0, none⟩ m' cc2 _ hnews (fun j u hj => ?_) (fun u hu => ?_)
                  · rw [Addr.add_lit, cell_of hat]
                    simp only [hcells]
                    have hj2 : j < ((List.range m').flatMap g).length := by
                      rcases Nat.lt_or_ge j ((List.range m').flatMap g).length with h | h
                      · exact h
                      · rw [List.getElem?_eq_none h] at hj; cases hj
                    rw [List.getElem?_toArray, Nat.zero_add, List.getElem?_append_left hj2]
                    exact hj
                  · obtain ⟨j, _, hj⟩ := List.mem_flatMap.1 hu
                    exact hone j u hj
                have hb1 : m' * by_ ≤ 140737488355328 := Nat.le_trans (Nat.mul_le_mul q6 q5) (by decide)
                have hbq : Nat.beq m' 0 = false := by cases m' with | zero => exact absurd rfl hm0 | succ n => rfl
                obtain ⟨b', c', tail, w', hrun, hc, hge, hh, hlen, r2⟩ := run_append_e (P := P) (ty := o.type) (x := some a) by_ hsrc (by omega) ht (rowInfo_ok hinfo) hb1 (Nat.le_trans q6 (by decide))
                refine ⟨.osl bl.length 0 m' c' none, [b'], bl ++ [⟨false, ⟨T, (0, 0)⟩, [.rowp z m' g, .rest tail]⟩], ch, w', .inl ?_, by simp [hl], ?_, h T (0, 0) c' none tail r2⟩
                · have := append_op (P := P) (ρ := ρ) (o := o) ho (sv := .slice (some a) 0 0) (xv := .slice (some ⟨ids.getD i 0, 0, none⟩) m' cc2) (by rw [hρ, hes]; simp only [den]) (by rw [hρ, hxs]; simp only [den, hbq, cond_false]) hrun
                  rw [this]
                  simp only [den, hbq, cond_false]
                  rw [← hl, getD_last]
                · rw [lits_app _ _ _ _ hl, lits_ids _ _ (by rw [hl]; exact q10)]
                  have e4 : denC (ids ++ [b']) [V.rowp z m' g, .rest tail] = (List.range m').flatMap g ++ tail := by simp [denC, cl]
                  simp only [lits, mkB]
                  rw [e4]
                  have := St.roQ (S.new hc hge hh)
                  refine this.perm ?_
                  rw [List.append_assoc (lits ids ids bl)]
                  exact (List.perm_middle).symm
          · exact h.elim
        · exact h.elim
      · exact h.elim
    · exact h.elim
  · exact h.elim
end Vx
namespace Go.Proofs.Ytciiaficfmbimaa
open Go Go.RowKit Go.BigFrame Sx Vx
set_option maxRecDepth 100000
structure HdA (n : Nat) where
  j : Nat
  hj : j ≤ n
  h2 : j ≤ 20
  m : QM
  hc : m.came ≤ j
structure HdB where
  j : Nat
  hj : j ≤ 21
  m : QM
structure HdC (J : Int) where
  j : Nat
  hJ : (j : Int) = J
  m : QM
  k : Nat
  hk : k ≤ m.L.length
  g : Nat → List Value
  hg : ∀ i, (g i).length = 4
  wr : Bool
  ty' : TypeId
  fz : Nat × Nat
  c' : Nat
  x : Option Addr
  us : List Value
  hw : 0 < m.L.length → wr = true ∧ fz = (0, 0)
  ty2 : TypeId
  fz2 : Nat × Nat
  c2 : Nat
  x2 : Option Addr
  us2 : List Value
  hle : m.L.length ≤ c2
section
variable (ty : BT) (pre post : List Value) (n o c : Nat) (a : Option Addr) (fs : Nat → Sd.Wt)
def hdaV (m : QM) (j : Int) : List V := [.osl 0 o n c a, m.v, .int .i64 j]
def hdaB : List VB := [inB ty pre n fs post, jnk]
def hdaLp : Lp QL := mkLp (X := HdA n) (fun y => 20 - y.j) 142 2 [0, 4, 6] (fun y => hdaV n o c a y.m y.j) (fun _ => hdaB ty pre post n fs) (fun y => [.qu y.m]) (fun _ => rfl) (fun _ => by kernel_rfl) (fun _ => rfl)
def hdbV (m : QM) (j : Int) : List V := [m.v, .int .i64 j]
def hdbLp : Lp QL := mkLp (X := HdB) (fun y => 21 - y.j) 142 2 [4, 7] (fun y => hdbV y.m y.j) (fun _ => hdaB ty pre post n fs) (fun y => [.qu y.m]) (fun _ => rfl) (fun _ => by kernel_rfl) (fun _ => rfl)
def hdcV (m : QM) (L : List Sd.Wt) (j : Int) (c' c2 : Nat) (x x2 : Option Addr) (cd k : Int) : List V := [m.v, .int .i64 j, .osl 2 0 L.length c' x, .ptr 3 0, .int .i64 cd, .osl 4 0 L.length c2 x2, .int .i64 k]
def hdcB (L : List Sd.Wt) (wr : Bool) (ty' : TypeId) (fz : Nat × Nat) (g : Nat → List Value) (us : List Value) (ty2 : TypeId) (fz2 : Nat × Nat) (us2 : List Value) : List VB :=
  [inB ty pre n fs post, jnk, ⟨wr, ⟨ty', fz⟩, [.rowp 4 L.length g, .rest us]⟩, ⟨true, ⟨32, (0, 0)⟩, askW (hdW L)⟩, ⟨false, ⟨ty2, fz2⟩, [.rowp 4 L.length (akF L), .rest us2]⟩]
def hdcV' {J : Int} (y : HdC J) : List V := hdcV y.m y.m.L y.j y.c' y.c2 y.x y.x2 (cdW y.m.L) y.k
def hdcB' {J : Int} (y : HdC J) : List VB := hdcB ty pre post n fs y.m.L y.wr y.ty' y.fz y.g y.us y.ty2 y.fz2 y.us2
def hdcLp (J : Int) : Lp QL := mkLp (X := HdC J) (fun y => y.m.L.length - y.k) 142 5 [4, 7, 8, 9, 10, 11, 12] hdcV' (hdcB' ty pre post n fs) (fun y => [.qu y.m]) (fun _ => rfl) (fun _ => by kernel_rfl) (fun _ => rfl)
def hdL : Nat → List V → Option (Lp QL) := fun i fr => match i with
  | 0 => some (hdaLp ty pre post n o c a fs)
  | 2 => some (hdbLp ty pre post n fs)
  | 4 => (match nth fr 7 with
    | .int .i64 J => some (hdcLp ty pre post n fs J)
    | _ => none)
  | _ => none
noncomputable abbrev Chd : Ctx QL := mkHL Try.prog gN0 LLw (cpyA Try.prog jnk) cpyA_ok (hdL ty pre post n o c a fs)
def hdFr (l : V) : List V := put (put (put ([l] ++ repU 141) (some 2) (.bool false)) (some 17) (.bool true)) (some 3) (.bool true)
end
end Go.Proofs.Ytciiaficfmbimaa
noncomputable section
namespace Go.Proofs.Ytciiaficfmbimaa
open Go Go.RowKit Go.BigFrame Sx Vx
set_option maxRecDepth 100000
def or0 (b : Bool) : Bool := bif false then true else b
def askB (x : Sd.Wt) : VB := ⟨true, ⟨32, (0, 0)⟩, askW x⟩
section
variable (ty : BT) (pre post : List Value) (n o c : Nat) (a : Option Addr) (fs : Nat → Sd.Wt) (P : V → Prop)
def hdEn (z : HdB) {J : Int} (u : HdC J) (m5 : QM) : Prop := true = true ∧ enD (fun y : HdB => 21 - y.j) (fun y => hdbV y.m y.j) (fun _ => hdaB ty pre post n fs) (fun y => [QL.qu y.m]) z (hdbV u.m (wI ((u.j : Int) + 1))) (hdaB ty pre post n fs) [.qu m5]
def hdLeft (z : HdB) {J : Int} (u : HdC J) (bl : List VB) (m4 : QM) : Prop := lstQ u.m m4 bl fun m5 wr5 ty5 fz5 c5 x5 us5 =>
  let L := u.m.L
  let fin := cond ((L.length : Int) == 0) (cond (or0 (an ((m4.L.length : Int) != 0))) (P (.bool false)) (hdEn ty pre post n fs z u m5)) (hdEn ty pre post n fs z u m5)
  cond (decide ((L.length : Int) > 0)) ((0 < L.length ∧ 1 ≤ L.length ∧ L.length ≤ u.c2) ∧ (∃ (a : Sd.Wt) (A : List Sd.Wt), akF m4.L = akF A ∧ akF L = akF (a :: A) ∧ m4.L.length = m4.L.length ∧ L.length = L.length - 1 + 1 ∧ m4.L.length = L.length - 1 ∧ m4.L.length ≤ 100 ∧ (0 < m4.L.length → (bif Nat.beq u.c2 1 then 0 else 1 * 4) = 4)) ∧ fin) fin
def hdRest (z : HdB) {J : Int} (u : HdC J) : Prop := lstQ u.m u.m (hdcB' ty pre post n fs u) fun m3 wr3 ty3 fz3 c3 x3 us3 =>
  let L := u.m.L
  (∃ A : List Sd.Wt, akF L = akF A ∧ akF L = akF A ∧ L.length = L.length ∧ L.length = L.length ∧ L.length = L.length ∧ L.length ≤ 100) ∧ popQ u.m m3 fun m4 =>
    let bl := hdcB' ty pre post n fs u ++ [rwB wr3 ty3 fz3 L us3] ++ [askB (hdW m3.L)]
    let left := hdLeft ty pre post n fs P z u bl m4
    let code2 := cond (cdW L != 0) (cond (or0 (an (cdW L != 2))) (P (.bool false)) left) left
    cond (or0 (!eqA (hdW L) (hdW m3.L))) (P (.bool false)) (cond (or0 (cdW L != cdW m3.L)) (P (.bool false)) (cond (or0 ((cdW L == 0) != decide ((L.length : Int) > 0))) (P (.bool false))
      (cond (cdW L == 0) ((0 ≤ (0 : Int) ∧ (0 : Int) < (L.length : Int)) ∧ ((0 : Int).toNat < L.length ∧ ∀ j, (akF L j).length = 4) ∧ cond (or0 (an (!eqA (hdW L) L.toArray[(0 : Int).toNat]!))) (P (.bool false)) code2) code2)))
def hdRound (z : HdB) : Prop := lstQ z.m z.m (hdaB ty pre post n fs) fun m1 wr ty' fz c' x us => headQ z.m m1 fun m2 => ∀ a : Addr,
  (z.m.L.length = z.m.L.length ∧ z.m.L.length ≤ 1000000 ∧ (∀ j, (akF z.m.L j).length = 4) ∧ (∀ (j : Nat) (u : Value), u ∈ akF z.m.L j → u.oneCell' = true) ∧ jnk.wr = false ∧ ∃ k : Nat, (hdaB ty pre post n fs ++ [rwB wr ty' fz z.m.L us] ++ [askB (hdW m1.L)])[k]? = some jnk) ∧
  ∀ (ty2 : TypeId) (fz2 : Nat × Nat) (c2 : Nat) (x2 : Option Addr) (us2 : List Value), z.m.L.length ≤ c2 →
    (true = true ∧ enD0 (hdcV' (J := z.j)) (hdcB' ty pre post n fs) (fun y => [QL.qu y.m]) (hdcV z.m z.m.L z.j c' c2 x x2 (cdW m1.L) 0) [inB ty pre n fs post, jnk, rwB wr ty' fz z.m.L us, askB (hdW m1.L), ⟨false, ⟨ty2, fz2⟩, [.rowp 4 z.m.L.length (akF z.m.L), .rest us2]⟩] [.qu m2]) ∧
    ∀ (u : HdC z.j) (g : Nat → Value), cond (decide ((u.k : Int) < (u.m.L.length : Int)))
      (idx u.k u.m.L.length ∧ ((u.wr = true ∧ u.fz = (0, 0)) ∧ (u.k : Int).toNat < u.m.L.length ∧ ∀ i, (u.g i).length = 4) ∧
        true = true ∧ enD (fun y : HdC z.j => y.m.L.length - y.k) (hdcV' (J := z.j)) (hdcB' ty pre post n fs) (fun y => [QL.qu y.m]) u (hdcV u.m u.m.L u.j u.c' u.c2 u.x u.x2 (cdW u.m.L) (wI ((u.k : Int) + 1)))
          (hdcB ty pre post n fs u.m.L u.wr u.ty' u.fz (Vx.upG u.g (u.k : Int).toNat (denC [] [.int .i64 (-9), .int .i64 0, .int .i64 0, .int .i64 0])) u.us u.ty2 u.fz2 u.us2) [.qu u.m])
      (hdRest ty pre post n fs P z u)
def hdTail (y : HdA n) : Prop := (true = true ∧ enD0 (fun y : HdB => hdbV y.m y.j) (fun _ => hdaB ty pre post n fs) (fun y => [QL.qu y.m]) (hdbV y.m 0) (hdaB ty pre post n fs) [.qu y.m]) ∧
  ∀ (z : HdB) (g : Nat → Value), cond (decide ((z.j : Int) < 21)) (hdRound ty pre post n fs P z) (P (.bool true))
def hdBody (y : HdA n) : Prop :=
  let x := fs (y.j : Int).toNat
  idx y.j n ∧ (o = pre.length ∧ (y.j : Int).toNat < n ∧ ∀ i, (akI fs i).length = 4) ∧ pushQ y.m y.m x.src x.rank x.at_ x.most fun m' =>
    true = true ∧ enD (fun y : HdA n => 20 - y.j) (fun y => hdaV n o c a y.m y.j) (fun _ => hdaB ty pre post n fs) (fun y => [QL.qu y.m]) y (hdaV n o c a y.m (wI ((y.j : Int) + 1))) (hdaB ty pre post n fs) [.qu m']
def hdXX : Prop := ((1 : Int) ≤ 20 ∧ (20 : Int) ≤ 64) ∧ ∀ m0 : QM, m0.most = 20 → m0.came = 0 → m0.L = [] →
  (true = true ∧ enD0 (fun y : HdA n => hdaV n o c a y.m y.j) (fun _ => hdaB ty pre post n fs) (fun y => [QL.qu y.m]) (hdaV n o c a m0 0) (hdaB ty pre post n fs) [.qu m0]) ∧
  ∀ (y : HdA n) (g : Nat → Value), cond (decide ((y.j : Int) < (n : Int))) (cond (an (decide ((y.j : Int) < 20))) (hdBody ty pre post n o c a fs y) (hdTail ty pre post n fs P y)) (hdTail ty pre post n fs P y)
theorem hd_vc : vcC (Chd ty pre post n o c a fs) 60 (cC 4) (hdFr (.osl 0 o n c a)) [inB ty pre n fs post, jnk] [] (retK Try.prog (fnL 4) fun v _ _ => P v) = hdXX ty pre post n o c a fs P := by kernel_rfl
end
end Go.Proofs.Ytciiaficfmbimaa
noncomputable section
namespace Go.Proofs.Ytciiaficfmbimaa
open Go Go.RowKit Go.BigFrame Sx Vx
set_option maxRecDepth 100000
theorem cd_len (L : List Sd.Wt) : ((cdW L == 0) != decide ((L.length : Int) > 0)) = false := by
  cases L with
  | nil => rfl
  | cons x l => have h : ((x :: l).length : Int) > 0 := by simp
                rw [decide_eq_true h]; rfl
theorem cd_none (L : List Sd.Wt) (h : (cdW L != 0) = true) : (cdW L != 2) = false := by
  cases L with
  | nil => rfl
  | cons x l => cases h
theorem cd_some (L : List Sd.Wt) (h : (cdW L == 0) = true) : 0 < L.length ∧ L.toArray[0]! = hdW L := by
  cases L with
  | nil => cases h
  | cons x l => exact ⟨by simp, by simp [hdW]⟩
theorem ak_one (L : List Sd.Wt) (j : Nat) (u : Value) (hu : u ∈ akF L j) : u.oneCell' = true := by
  unfold akF akG at hu
  simp only [List.mem_cons, List.not_mem_nil, or_false] at hu
  rcases hu with rfl | rfl | rfl | rfl <;> rfl
section
variable {ty : BT} {pre post : List Value} {n o c : Nat} {a : Option Addr} {fs : Nat → Sd.Wt}
theorem hdEn_ok {z : HdB} {u : HdC z.j} {m5 : QM} (hz : z.j < 21) (hq : m5.q = u.m.q) : hdEn ty pre post n fs z u m5 := by
  refine ⟨rfl, ⟨z.j + 1, hz, m5⟩, by show 21 - (z.j + 1) < 21 - z.j; omega, ?_, rfl, rfl⟩
  show hdbV u.m (wI ((u.j : Int) + 1)) = hdbV m5 ((z.j + 1 : Nat) : Int)
  rw [u.hJ, wrapW (by omega)]
  unfold hdbV
  rw [QM.v_eq hq]
  rfl
theorem hdLeft_ok {z : HdB} {u : HdC z.j} {bl : List VB} {m4 : QM} (hz : z.j < 21) (hb : bl[1]? = some jnk) (hL : m4.L = u.m.L.tail) (hq : m4.q = u.m.q) : hdLeft ty pre post n fs okP z u bl m4 := by
  refine lstQ_ok hq 1 hb fun m5 wr5 ty5 fz5 c5 x5 us5 h1 h2 h3 h4 h5 h6 => ?_
  dsimp only
  have en := hdEn_ok (ty := ty) (pre := pre) (post := post) (n := n) (fs := fs) (u := u) hz h3
  have h64 := len64 u.m
  have h64' := len64 m4
  refine cnd (fun h => ?_) fun h => ?_
  · have hl : 0 < u.m.L.length := by
      have := of_decide_eq_true h
      omega
    obtain ⟨x, A, hxA⟩ : ∃ x A, u.m.L = x :: A := by
      cases hc : u.m.L with
      | nil => rw [hc] at hl; simp at hl
      | cons x A => exact ⟨x, A, rfl⟩
    have hA : m4.L = A := by rw [hL, hxA]; rfl
    have hl4 : m4.L.length = u.m.L.length - 1 := by rw [hA, hxA]; simp
    refine ⟨⟨hl, hl, u.hle⟩, ⟨x, A, by rw [hA], by rw [hxA], rfl, by omega, hl4, by omega, fun h0 => ?_⟩, cnd (fun h2 => ?_) fun _ => en⟩
    · have hle := u.hle
      have : Nat.beq u.c2 1 = false := by
        cases hb : Nat.beq u.c2 1 with
        | false => rfl
        | true => have := Nat.eq_of_beq_eq_true hb; omega
      rw [this]
      rfl
    · have h2 := eq_of_beq h2
      omega
  · have hl : u.m.L.length = 0 := by
      have := of_decide_eq_false h
      omega
    have hl4 : m4.L.length = 0 := by rw [hL, List.length_tail, hl]
    refine cnd (fun _ => cnd (fun h2 => ?_) fun _ => en) fun _ => en
    rw [hl4] at h2
    cases h2
theorem hdRest_ok {z : HdB} {u : HdC z.j} (hz : z.j < 21) : hdRest ty pre post n fs okP z u := by
  have h64 := len64 u.m
  refine lstQ_ok rfl 1 rfl fun m3 wr3 ty3 fz3 c3 x3 us3 h1 h2 h3 h4 h5 h6 => ⟨⟨u.m.L, rfl, rfl, rfl, rfl, rfl, by omega⟩, popQ_ok h3 fun m4 b1 b2 b3 b4 => ?_⟩
  dsimp only
  have left := hdLeft_ok (ty := ty) (pre := pre) (post := post) (n := n) (fs := fs) (u := u) (bl := hdcB' ty pre post n fs u ++ [rwB wr3 ty3 fz3 u.m.L us3] ++ [askB (hdW m3.L)]) hz rfl (by rw [b1, h1]) b3
  have code2 : cond (cdW u.m.L != 0) (cond (or0 (an (cdW u.m.L != 2))) (okP (.bool false)) (hdLeft ty pre post n fs okP z u (hdcB' ty pre post n fs u ++ [rwB wr3 ty3 fz3 u.m.L us3] ++ [askB (hdW m3.L)]) m4)) (hdLeft ty pre post n fs okP z u (hdcB' ty pre post n fs u ++ [rwB wr3 ty3 fz3 u.m.L us3] ++ [askB (hdW m3.L)]) m4) := by
    refine cnd (fun h => cnd (fun h7 => ?_) fun _ => left) fun _ => left
    have h8 : (cdW u.m.L != 2) = true := h7
    rw [cd_none _ h] at h8
    cases h8
  refine cnd (fun h => ?_) fun _ => cnd (fun h => ?_) fun _ => cnd (fun h => ?_) fun _ => cnd (fun h => ?_) fun _ => code2
  · have h : (!eqA (hdW u.m.L) (hdW m3.L)) = true := h
    rw [h1, eqA_self] at h
    cases h
  · have h : (cdW u.m.L != cdW m3.L) = true := h
    rw [h1] at h
    simp at h
  · have h : ((cdW u.m.L == 0) != decide ((u.m.L.length : Int) > 0)) = true := h
    rw [cd_len] at h
    cases h
  · obtain ⟨g1, g2⟩ := cd_some _ h
    refine ⟨⟨Int.le_refl _, by omega⟩, ⟨by simpa using g1, fun _ => rfl⟩, cnd (fun h7 => ?_) fun _ => code2⟩
    have h8 : (!eqA (hdW u.m.L) u.m.L.toArray[0]!) = true := h7
    rw [g2, eqA_self] at h8
    cases h8
theorem hdRound_ok {z : HdB} (hz : z.j < 21) : hdRound ty pre post n fs okP z := by
  have h64 := len64 z.m
  refine lstQ_ok rfl 1 rfl fun m1 wr ty' fz c' x us h1 h2 h3 h4 h5 h6 => headQ_ok h3 fun m2 g1 g2 g3 g4 aa => ⟨⟨rfl, by omega, fun _ => rfl, ak_one _, rfl, 1, rfl⟩, fun ty2 fz2 c2 x2 us2 hle => ⟨⟨rfl, ?_⟩, fun u g => cnd (fun h => ?_) fun h => hdRest_ok hz⟩⟩
  · have e : m2.L = z.m.L := g1.trans h1
    refine ⟨⟨z.j, rfl, m2, 0, Nat.zero_le _, akF z.m.L, fun _ => rfl, wr, ty', fz, c', x, us, by rw [e]; exact h5, ty2, fz2, c2, x2, us2, by rw [e]; exact hle⟩, ?_, ?_, rfl⟩
    · show hdcV z.m z.m.L z.j c' c2 x x2 (cdW m1.L) 0 = hdcV m2 m2.L z.j c' c2 x x2 (cdW m2.L) ((0 : Nat) : Int)
      rw [e, h1]
      unfold hdcV
      rw [QM.v_eq g3]
      rfl
    · show _ = hdcB ty pre post n fs m2.L wr ty' fz (akF z.m.L) us ty2 fz2 us2
      rw [e, h1]
      rfl
  · have hk : u.k < u.m.L.length := Int.ofNat_lt.1 (of_decide_eq_true h)
    have hu64 := len64 u.m
    refine ⟨idx_ok hk, ⟨u.hw (by omega), by simpa using hk, u.hg⟩, rfl, { u with k := u.k + 1, hk := hk, g := Vx.upG u.g u.k (denC [] [.int .i64 (-9), .int .i64 0, .int .i64 0, .int .i64 0]), hg := fun i => ?_ }, by show u.m.L.length - (u.k + 1) < u.m.L.length - u.k; omega, ?_, rfl, rfl⟩
    · unfold Vx.upG
      cases Nat.beq i u.k with
      | true => rfl
      | false => exact u.hg i
    · rw [wrapW (by omega)]
      rfl
theorem hdTail_ok (y : HdA n) : hdTail ty pre post n fs okP y :=
  ⟨⟨rfl, ⟨0, Nat.zero_le _, y.m⟩, rfl, rfl, rfl⟩, fun z g => cnd (fun h => hdRound_ok (by have := of_decide_eq_true h; omega)) fun _ => rfl⟩
theorem hdXX_ok (ho : ∀ j, j < n → o = pre.length) : hdXX ty pre post n o c a fs okP := by
  refine ⟨⟨by decide, by decide⟩, fun m0 a1 a2 a3 => ⟨⟨rfl, ⟨0, Nat.zero_le _, Nat.zero_le _, m0, by omega⟩, rfl, rfl, rfl⟩, fun y g => cnd (fun h => cnd (fun h2 => ?_) fun h2 => hdTail_ok y) fun h => hdTail_ok y⟩⟩
  have hj : y.j < n := Int.ofNat_lt.1 (of_decide_eq_true h)
  have hj2 : y.j < 20 := by
    have h2 : decide ((y.j : Int) < 20) = true := h2
    have := of_decide_eq_true h2
    omega
  have hc := y.hc
  refine ⟨idx_ok hj, ⟨ho _ hj, by simpa using hj, fun _ => rfl⟩, pushQ_ok rfl (by omega) fun m' b1 b2 b3 b4 => ⟨rfl, ⟨y.j + 1, hj, hj2, m', ?_⟩, by show 20 - (y.j + 1) < 20 - y.j; omega, ?_, rfl, rfl⟩⟩
  · rw [b2]
    have : ∀ b : Bool, (bif b then (1 : Int) else 0) ≤ 1 := fun b => by cases b <;> decide
    have := this (qE y.m (fs (y.j : Int).toNat).src (fs (y.j : Int).toNat).rank (fs (y.j : Int).toNat).at_ (fs (y.j : Int).toNat).most == 0)
    omega
  · show hdaV n o c a y.m _ = hdaV n o c a m' ((y.j + 1 : Nat) : Int)
    rw [wrapW (by omega)]
    unfold hdaV
    rw [QM.v_eq b3]
    rfl
end
theorem heads_so {W : World} {v : Value} {fs : Nat → Sd.Wt} {i o n c : Nat} {a : Option Addr} {ty : BT} {pre post : List Value} (h : AskIn W v fs i o n c a ty pre post) :
    Gives Try.prog 4 #[v] W fun v w' => v = .bool true ∧ Ch [] W w' := by
  have e : #[v] = (denM [i] [.osl 0 o n c a]).toArray := by rw [h.v]; rfl
  rw [e]
  exact law_run (C := Chd ty pre post n o c a fs) (n := 60) rfl (AllOk.T LLw_ok) (AllOk.Q LLw_ok) rfl (by kernel_rfl) (by kernel_rfl) (bl0 := [inB ty pre n fs post]) rfl (in_st h)
    (fr1 := put ([.osl 0 o n c a] ++ repU 141) (some 2) (.bool false)) (fr2 := hdFr (.osl 0 o n c a)) (fun K => by kernel_rfl) (fun K => by kernel_rfl) (bl3 := [inB ty pre n fs post, jnk]) (fr3 := hdFr (.osl 0 o n c a)) (fun ids w' hl S => ⟨ids, hl, rfl, S⟩)
    (by have := hd_vc ty pre post n o c a fs okP; rw [show (fun v _ _ => v = .bool true : VK QL) = fun v _ _ => okP v from rfl, this]; exact hdXX_ok h.po)
theorem heads_nil (W : World) : Gives Try.prog 4 #[.slice none 0 0] W fun v w' => v = .bool true ∧ Ch [] W w' := by
  have e : #[.slice none 0 0] = (denM [] [.raw (.slice none 0 0)]).toArray := rfl
  rw [e]
  refine law_run (C := Chd ⟨30, (0, 0)⟩ [] [.int .i64 0, .int .i64 9] 0 0 0 none (fun _ => ⟨0, 0, 0, 0, 0⟩)) (n := 60) rfl (AllOk.T LLw_ok) (AllOk.Q LLw_ok) rfl (by kernel_rfl) (by kernel_rfl) (bl0 := []) (ids0 := []) rfl (St.nil [] W)
    (fr1 := put ([.raw (.slice none 0 0)] ++ repU 141) (some 2) (.bool false)) (fr2 := hdFr (.raw (.slice none 0 0))) (fun K => by kernel_rfl) (fun K => by kernel_rfl) (bl3 := [nlB, jnk]) (fr3 := hdFr (.osl 0 0 0 0 none)) (fun ids w' hl S => ?_)
    (by have := hd_vc ⟨30, (0, 0)⟩ [] [.int .i64 0, .int .i64 9] 0 0 0 none (fun _ => ⟨0, 0, 0, 0, 0⟩) okP; rw [show (fun v _ _ => v = .bool true : VK QL) = fun v _ _ => okP v from rfl]; exact this ▸ hdXX_ok (fun j hj => absurd hj (by omega)))
  match ids, hl with
  | [k], _ => exact ⟨[k, k], rfl, rfl, nl_st S⟩
end Go.Proofs.Ytciiaficfmbimaa
noncomputable section
namespace Go.Proofs.Ytciiaficfmbimaa
open Go Go.RowKit Go.BigFrame Sx Vx
set_option maxRecDepth 100000
def appQ (T z : Nat) (s : V) (m : Nat) (news : List Value) (bl : List VB) (K : VK QL) : List QL → Prop
  | .qu q :: .row g :: rest => bif Nat.beq g.T T then cond (Nat.beq g.z z) ((s = g.v ∧ g.n + m ≤ 1000000) ∧ ∀ (x : Option Addr) (c : Nat) (bk : List Blk) (h : rowv z T (g.os ++ news) x (g.n + m) c bk), K (.raw (.slice x (g.n + m) c)) bl (.qu q :: .row ⟨T, z, g.os ++ news, x, g.n + m, c, bk, h⟩ :: rest)) False else False
  | _ => False
def orH : (Operand → V) → Op → List VB → List QL → VK QL → Prop := fun e op bl ch K => match op with
  | .buildSlice t 0 ps => (match ps.toList, Try.prog.underlying t with
    | [], some (.slice T) => (match szT Try.prog T, zeroT Try.prog T with
      | some (z + 1), some zc => cond (Nat.beq (szL zc) (z + 1)) (∀ (x : Option Addr) (bk : List Blk) (h : rowv (z + 1) T [] x 0 0 bk), K (.raw (.slice x 0 0)) bl (ch ++ [.row ⟨T, z + 1, [], x, 0, 0, bk, h⟩])) False
      | _, _ => False)
    | _, _ => False)
  | .load t x => (match e x, ch with
    | .raw (.pointer p), .qu m :: .row g :: rest => ∃ (I : AW) (k : Nat), (t = 3 ∧ isAk g I ∧ k < I.size ∧ p = (g.x.map fun b => b.add (k * 4)).map fun b => b.add 0) ∧ K (.int .i64 I[k]!.src) bl (.qu m :: .row g :: rest)
    | _, _ => False)
  | .call c => (match c.callee, c.args.toList, c.argTypes.toList with
    | .builtin .append, [s, xs], [t, tx] => (match Try.prog.underlying t, Try.prog.underlying tx with
      | some (.slice T), some (.slice _) => (match rowInfo Try.prog T, e xs with
        | some (z, by_), .sl i 0 m _ => (match bl[i]? with
          | some b => cond (Nat.beq (szL b.c) (m * z) && (wfL 0 b.c && (oneL b.c && Nat.ble by_ 10000000))) (appQ T z (e s) m (denC [] b.c) bl K ch) False
          | none => False)
        | _, _ => False)
      | _, _ => False)
    | _, _, _ => False)
  | _ => False
theorem appQ_get {T z : Nat} {s : V} {m : Nat} {news : List Value} {bl : List VB} {K : VK QL} {ch : List QL} (h : appQ T z s m news bl K ch) : ∃ (q : QM) (g : RowG) (rest : List QL), ch = .qu q :: .row g :: rest ∧ g.T = T ∧ g.z = z ∧ s = g.v ∧ g.n + m ≤ 1000000 ∧
    ∀ (x : Option Addr) (c : Nat) (bk : List Blk) (h : rowv z T (g.os ++ news) x (g.n + m) c bk), K (.raw (.slice x (g.n + m) c)) bl (.qu q :: .row ⟨T, z, g.os ++ news, x, g.n + m, c, bk, h⟩ :: rest) := by
  unfold appQ at h
  split at h
  · rename_i q g rest
    cases hb : Nat.beq g.T T with
    | false => rw [hb] at h; exact h.elim
    | true =>
      rw [hb] at h
      simp only [cond_true] at h
      cases hz : Nat.beq g.z z with
      | false => rw [hz] at h; exact h.elim
      | true =>
        rw [hz] at h
        exact ⟨q, g, rest, rfl, Nat.eq_of_beq_eq_true hb, Nat.eq_of_beq_eq_true hz, h.1.1, h.1.2, h.2⟩
  · exact h.elim
theorem orH_ok {gl : Nat → Option Nat} : HOk Try.prog gl orH := by
  intro e op ids bl ch R ms w0 w K ρ o hg hl S hρ ho h
  unfold orH at h
  split at h
  · rename_i t ps
    split at h
    · rename_i T hps hu
      split at h
      · rename_i z zc hz hzc
        cases hq : Nat.beq (szL zc) (z + 1) with
        | false => rw [hq] at h; exact h.elim
        | true =>
          rw [hq] at h
          simp only [cond_true] at h
          have hrun := run_buildSlice (P := Try.prog) (ids := ids) (w := w) (len := 0) (ps := []) (c := []) hu hz hzc (Nat.eq_of_beq_eq_true hq) (by simp) rfl
          have hr : rowv (z + 1) T [] (some ⟨w.heap.size, 0, none⟩) 0 0 [⟨w.heap.size, true, .cells #[] T (0, 0)⟩] := ⟨by simp, Nat.le_refl _, .inr ⟨w.heap.size, [], rfl, rfl, by simp⟩⟩
          have hn := S.new (Ch.alloc [] w (.cells #[] T)) (Nat.le_refl _) (heap_alloc_new w _)
          refine ⟨_, [], bl, _, w.alloc (.cells #[] T), .inl ?_, by simpa using hl, ?_, h (some ⟨w.heap.size, 0, none⟩) _ hr⟩
          · unfold execOp
            have hp0 : ps = #[] := by apply Array.ext'; simpa using hps
            subst hp0
            simp only [ho]
            rw [Sem.run_bind]
            have h2 : (Instr.buildSlice t 0 #[]).run Try.prog w = .ok (.slice (some ⟨w.heap.size, 0, none⟩) 0 0) (w.alloc (.cells #[] T)) := hrun
            have h3 : ((#[] : Array (Nat × Operand)).map fun (x : Nat × Operand) => match x with | (i, x) => (i, ρ x)) = #[] := by simp
            rw [h3, h2]
            rfl
          · rw [List.append_nil, nestB_app]
            have e2 : nestB [QL.row ⟨T, z + 1, [], some ⟨w.heap.size, 0, none⟩, 0, 0, [⟨w.heap.size, true, .cells #[] T (0, 0)⟩], hr⟩] R = ⟨w.heap.size, true, .cells #[] T (0, 0)⟩ :: R := rfl
            rw [e2, nestB_flat (_ :: R) ch]
            rw [nestB_flat R ch] at hn
            refine hn.perm ?_
            exact permB fun f => by simp only [List.countP_append, List.countP_cons]; omega
      · exact h.elim
    · exact h.elim
  · rename_i t x
    split at h
    · rename_i p m g rest hx
      obtain ⟨I, k, ⟨rfl, ⟨h1, h2, h3, h4⟩, hk, rfl⟩, hK⟩ := h
      have hr := g.h
      rw [h1, h2, h3, h4] at hr
      rcases hr.2.2 with ⟨-, h0, -⟩ | ⟨b, us, e1, e2, -⟩
      · omega
      · have hat : w.heap[b]? = some (.cells ((List.range I.size).flatMap (akG I) ++ us).toArray 32 (0, 0)) := S.at' (x := ⟨b, true, _⟩) (by
          refine List.mem_append_right _ ?_
          show _ ∈ m.B ++ (g.bl ++ nestB rest R)
          rw [e2]
          simp)
        have S1 : St [] w (lits [b] [b] [rowA false ⟨32, (0, 0)⟩ I.size I us] ++ nestB ([] : List Empty) []) w := by
          refine St.allRo fun y hy => ?_
          have hb : lits [b] [b] [rowA false ⟨32, (0, 0)⟩ I.size I us] ++ nestB ([] : List Empty) [] = [⟨b, false, .cells ((List.range I.size).flatMap (akG I) ++ us).toArray 32 (0, 0)⟩] := by simp only [lits, mkB, rowA, denC, cl, List.append_nil, nestB]
          rw [hb] at hy
          obtain rfl := List.mem_singleton.1 hy
          exact ⟨rfl, hat⟩
        have g1 : hfL Try.prog [rowA false ⟨32, (0, 0)⟩ I.size I us] 3 (.pe 0 0 k 4 0) = some ((k < I.size ∧ ∀ j, (akG I j).length = 4), .int .i64 I[k]!.src) := by kernel_rfl
        have g2 := hfL_ok (ids := [b]) rfl S1 g1 ⟨hk, fun j => rfl⟩
        refine ⟨.int .i64 I[k]!.src, [], bl, _, w, .inl ?_, by simpa using hl, by simpa using S, hK⟩
        have ep : den [b] (.pe 0 0 k 4 0) = den ids (.raw (.pointer ((Option.map (fun b => b.add (k * 4)) (some (⟨b, 0, none⟩ : Addr))).map fun b => b.add 0))) := by
          simp [den, Addr.add]
        rw [ep] at g2
        unfold execOp
        simp only [ho, hρ, hx, e1, Sem.run_bind, g2]
        rfl
    · exact h.elim
  · rename_i c
    split at h
    · rename_i s xs t tx hcal hargs hts
      split at h
      · rename_i T T' ht htx
        split at h
        · rename_i z by_ i m cc hinfo hxs
          split at h
          · rename_i b hb
            cases hq : Nat.beq (szL b.c) (m * z) && (wfL 0 b.c && (oneL b.c && Nat.ble by_ 10000000)) with
            | false => rw [hq] at h; exact h.elim
            | true =>
              rw [hq] at h
              simp only [cond_true] at h
              simp only [Bool.and_eq_true] at hq
              obtain ⟨q1, q2, q3, q4⟩ := hq
              have q1 := Nat.eq_of_beq_eq_true q1
              have q4 := Nat.le_of_ble_eq_true q4
              obtain ⟨q, g, rest, rfl, rfl, rfl, hs, hn, hK⟩ := appQ_get h
              have hi := rowInfo_ok hinfo
              have hd : denC ids b.c = denC [] b.c := by have := denC_app (ids := []) (more := ids) b.c q2; simpa using this
              have hat := (at_lit hl S hb).2
              have hlen : (denC [] b.c).length = m * g.z := by rw [← q1]; exact denC_len b.c
              have hsrc : Src Try.prog g.z tx (.slice (some ⟨ids.getD i 0, 0, none⟩) m cc) m (denC [] b.c) w := by
                refine Src.ofSlice w htx ⟨ids.getD i 0, 0, none⟩ m cc _ hlen (fun j u hj => ?_) (fun u hu => oneL_ok q3 u hu)
                rw [Addr.add_lit, cell_of hat, hd]
                simpa using hj
              have e1 : lits ids ids bl ++ nestB (QL.qu q :: .row g :: rest) R = (lits ids ids bl ++ q.B) ++ (g.bl ++ nestB rest R) := by
                rw [List.append_assoc]; rfl
              rw [e1] at S
              have hb1 : (g.n + m) * by_ ≤ 140737488355328 := Nat.le_trans (Nat.mul_le_mul hn q4) (by decide)
              obtain ⟨v, w', hrun, hc, x', c', bl', rfl, hr', hat'⟩ := run_appendR (P := Try.prog) (ty := o.type) g.h (fun y hy => S.at' (by simp [hy])) by_ hsrc ht hi hb1 (Nat.le_trans hn (by decide))
              have S2 := S.redo g.h.wr hc (fun y hy => (hat' y hy).1) (fun y hy => (hat' y hy).2) hr'.pw
              refine ⟨_, [], bl, _, w', .inl ?_, by simpa using hl, ?_, hK x' c' bl' hr'⟩
              · obtain ⟨cal, ar, ats⟩ := c
                simp only at hcal hargs hts
                have e2 : ar = #[s, xs] := by rw [← hargs]
                have e3 : ats = #[t, tx] := by rw [← hts]
                subst hcal e2 e3
                have := append_op (P := Try.prog) (ρ := ρ) (o := o) ho (sv := .slice g.x g.n g.c) (xv := .slice (some ⟨ids.getD i 0, 0, none⟩) m cc) (by rw [hρ, hs]; simp only [RowG.v, den]) (by rw [hρ, hxs]; simp only [den]) hrun
                simpa [den] using this
              · rw [List.append_nil]
                have e4 : lits ids ids bl ++ nestB (QL.qu q :: .row ⟨g.T, g.z, g.os ++ denC [] b.c, x', g.n + m, c', bl', hr'⟩ :: rest) R = (lits ids ids bl ++ q.B) ++ (bl' ++ nestB rest R) := by
                  rw [List.append_assoc]; rfl
                rw [e4]; exact S2
          · exact h.elim
        · exact h.elim
      · exact h.elim
    · exact h.elim
  · exact h.elim
end Go.Proofs.Ytciiaficfmbimaa
noncomputable section
namespace Go.Proofs.Ytciiaficfmbimaa
open Go Go.RowKit Go.BigFrame Sx Vx
set_option maxRecDepth 100000
structure Ins (M : Int) (m : QM) (I : AW) : Prop where
  hm : m.most = M
  hc : m.came = I.size
  hp : m.L.Perm I.toList
  hk : ∀ k, k < I.size → I[k]!.came = k
  hl : (I.size : Int) ≤ M
structure RwI (I : AW) where
  x : Option Addr
  c : Nat
  bk : List Blk
  h : rowv 4 32 ((List.range I.size).flatMap (akG I)) x I.size c bk
def RwI.r {I : AW} (y : RwI I) : RowG := ⟨32, 4, (List.range I.size).flatMap (akG I), y.x, I.size, y.c, y.bk, y.h⟩
def RwI.v {I : AW} (y : RwI I) : V := .raw (.slice y.x I.size y.c)
structure OrA (n : Nat) (M : Int) where
  j : Nat
  hj : j ≤ n
  h2 : j ≤ 60
  m : QM
  I : AW
  r : RwI I
  ins : Ins M m I
  hI : I.size ≤ j
structure OrB (fs : Nat → Sd.Wt) (n : Nat) (M : Int) (J : Int) where
  j : Nat
  hJ : (j : Int) = J
  hj : j < n
  h2 : j < 60
  m0 : QM
  m : QM
  I : AW
  r : RwI I
  ins : Ins M m0 I
  hI : I.size ≤ j
  hL : m.L = qL m0 (fs j).src (fs j).rank (fs j).at_ (fs j).most
  hcm : m.came = m0.came + (bif qE m0 (fs j).src (fs j).rank (fs j).at_ (fs j).most == 0 then 1 else 0)
  hm : m.most = M
  k : Nat
  hk : k ≤ I.size
structure OrC (M : Int) where
  m : QM
  I : AW
  r : RwI I
  ins : Ins M m I
  hI : I.size ≤ 60
  k : Nat
  hk : k ≤ m.L.length
  wr : Bool
  ty' : TypeId
  fz : Nat × Nat
  c' : Nat
  x : Option Addr
  us : List Value
structure OrD where
  L : List Sd.Wt
  m : QM
  r : RowG
  k : Nat
  hk : k ≤ L.length
  hd : m.L = L.drop k
  h64 : L.length ≤ 64
  wr : Bool
  ty' : TypeId
  fz : Nat × Nat
  c' : Nat
  x : Option Addr
  us : List Value
def thI (I : AW) (s : Int) (k : Nat) : Bool := (I.toList.take k).any fun y => y.src == s
section
variable (ty : BT) (pre post : List Value) (n o c : Nat) (a : Option Addr) (fs : Nat → Sd.Wt) (M : Int)
def oraV (m : QM) (rv : V) (j : Int) : List V := [.osl 0 o n c a, .int .i64 M, m.v, rv, .int .i64 j]
def oraB : List VB := [inB ty pre n fs post, jnk]
def oraV' (y : OrA n M) : List V := oraV n o c a M y.m y.r.v y.j
def oraLp : Lp QL := mkLp (X := OrA n M) (fun y => 60 - y.j) 215 2 [1, 6, 7, 9, 10] (oraV' n o c a M) (fun _ => oraB ty pre post n fs) (fun y => [.qu y.m, .row y.r.r]) (fun _ => rfl) (fun _ => by kernel_rfl) (fun _ => rfl)
def orbV (m : QM) (rv : V) (j e : Int) (b : Bool) (k : Int) : List V := [.osl 0 o n c a, .int .i64 M, m.v, rv, .int .i64 j, .int .i64 e, .bool b, .int .i64 k]
def orE {fs : Nat → Sd.Wt} {n : Nat} {M J : Int} (y : OrB fs n M J) : Int := qE y.m0 (fs y.j).src (fs y.j).rank (fs y.j).at_ (fs y.j).most
def orbV' {J : Int} (y : OrB fs n M J) : List V := orbV n o c a M y.m y.r.v y.j (orE y) (thI y.I (fs y.j).src y.k) y.k
def orbLp (J : Int) : Lp QL := mkLp (X := OrB fs n M J) (fun y => y.I.size - y.k) 215 2 [1, 6, 7, 9, 10, 11, 12, 13] (orbV' n o c a fs M) (fun _ => oraB ty pre post n fs) (fun y => [.qu y.m, .row y.r.r]) (fun _ => rfl) (fun _ => by kernel_rfl) (fun _ => rfl)
def orcV (m : QM) (rv : V) (L : List Sd.Wt) (c' : Nat) (x : Option Addr) (k : Int) : List V := [m.v, rv, .osl 2 0 L.length c' x, .int .i64 k]
def orcV' (y : OrC M) : List V := orcV y.m y.r.v y.m.L y.c' y.x y.k
def orcB (y : OrC M) : List VB := [inB ty pre n fs post, jnk, rwB y.wr y.ty' y.fz y.m.L y.us]
def orcLp : Lp QL := mkLp (X := OrC M) (fun y => y.m.L.length - y.k) 215 3 [7, 9, 14, 15] (orcV' M) (orcB ty pre post n fs M) (fun y => [.qu y.m, .row y.r.r]) (fun _ => rfl) (fun _ => by kernel_rfl) (fun _ => rfl)
def ordV (m : QM) (L : List Sd.Wt) (c' : Nat) (x : Option Addr) (k : Int) : List V := [m.v, .osl 2 0 L.length c' x, .int .i64 k]
def ordV' (y : OrD) : List V := ordV y.m y.L y.c' y.x y.k
def ordB (y : OrD) : List VB := [inB ty pre n fs post, jnk, rwB y.wr y.ty' y.fz y.L y.us]
def ordLp : Lp QL := mkLp (X := OrD) (fun y => y.L.length - y.k) 215 3 [7, 14, 17] ordV' (ordB ty pre post n fs) (fun y => [.qu y.m, .row y.r]) (fun _ => rfl) (fun _ => by kernel_rfl) (fun _ => rfl)
def orL : Nat → List V → Option (Lp QL) := fun i fr => match i with
  | 0 => some (oraLp ty pre post n o c a fs M)
  | 2 => (match nth fr 10 with
    | .int .i64 J => some (orbLp ty pre post n o c a fs M J)
    | _ => none)
  | 4 => some (orcLp ty pre post n fs M)
  | 6 => some (ordLp ty pre post n fs)
  | _ => none
noncomputable abbrev Cor : Ctx QL := mkHL Try.prog gN0 LLw orH orH_ok (orL ty pre post n o c a fs M)
def orFr (b : Int) (l : V) : List V := put (put (put ([.int .u8 b, l] ++ repU 213) (some 4) (.bool false)) (some 22) (.bool true)) (some 5) (.bool true)
end
end Go.Proofs.Ytciiaficfmbimaa
noncomputable section
namespace Go.Proofs.Ytciiaficfmbimaa
open Go Go.RowKit Go.BigFrame Sx Vx
set_option maxRecDepth 100000
def orM (b : Int) : Int := IntKind.i64.wrap (1 + (IntKind.i64.wrap b).tmod 64)
def plcQ {I0 : AW} (r : RwI I0) (w : Sd.Wt) (N : Nat → Prop) : Prop := ∃ (I : AW) (k : Nat), ((r.x = r.r.x ∧ I0.size = r.r.n ∧ r.c = r.r.c) ∧ isAk r.r I ∧ k < I.size ∧ I.size ≤ 100 ∧ eqA I[k]! ⟨w.src, w.rank, w.at_, w.most, 0⟩ = true ∧ ∀ j, j < k → I[j]!.src ≠ w.src) ∧ N k
section
variable (ty : BT) (pre post : List Value) (n o c : Nat) (a : Option Addr) (fs : Nat → Sd.Wt) (M : Int) (P : V → Prop)
def inQ (j : Nat) (N : Prop) : Prop := idx j n ∧ (o = pre.length ∧ (j : Int).toNat < n ∧ ∀ i, (akI fs i).length = 4) ∧ N
def orEn (y : OrA n M) (m : QM) (rv : V) (g : RowG) (j : Int) : Prop := true = true ∧ enD (fun y : OrA n M => 60 - y.j) (oraV' n o c a M) (fun _ => oraB ty pre post n fs) (fun y => [QL.qu y.m, .row y.r.r]) y (oraV n o c a M m rv (wI (j + 1))) (oraB ty pre post n fs) [.qu m, .row g]
def orbEn {J : Int} (u : OrB fs n M J) (bb : Bool) : Prop := true = true ∧ enD (fun y : OrB fs n M J => y.I.size - y.k) (orbV' n o c a fs M) (fun _ => oraB ty pre post n fs) (fun y => [QL.qu y.m, .row y.r.r]) u (orbV n o c a M u.m u.r.v u.j (orE u) bb (wI ((u.k : Int) + 1))) (oraB ty pre post n fs) [.qu u.m, .row u.r.r]
def asL (x : Sd.Wt) : List V := [.int .i64 x.src, .int .i64 x.rank, .int .i64 x.at_, .int .i64 x.most]
def orAfter (y : OrA n M) {J : Int} (u : OrB fs n M J) : Prop :=
  let E := orE u
  let th := thI u.I (fs u.j).src u.k
  let app := cond (E == 0) (inQ pre n o fs u.j ((u.r.v = u.r.r.v ∧ u.I.size + 1 ≤ 1000000) ∧ ∀ (x : Option Addr) (c2 : Nat) (bk : List Blk) (h : rowv 4 32 (u.r.r.os ++ denC [] (asL (fs (u.j : Int).toNat))) x (u.I.size + 1) c2 bk),
      orEn ty pre post n o c a fs M y u.m (.raw (.slice x (u.I.size + 1) c2)) ⟨32, 4, u.r.r.os ++ denC [] (asL (fs (u.j : Int).toNat)), x, u.I.size + 1, c2, bk, h⟩ u.j))
    (orEn ty pre post n o c a fs M y u.m u.r.v u.r.r u.j)
  let c3 := cond (E != 0) (cond (an (E != 27)) (cond (or0 (an (E != 3))) (P (.bool false)) app) app) app
  cond (th != (E == 27)) (P (.bool false)) (cond (!th) (cond (or0 (an (((u.I.size : Int) == M) != (E == 3)))) (P (.bool false)) c3) c3)
def orIn {J : Int} (u : OrB fs n M J) : Prop := (idx u.k u.I.size ∧ ∃ b, u.r.x = some b) ∧ (∃ b, (u.r.x.map fun b => b.add ((u.k : Int).toNat * 4)) = some b) ∧ inQ pre n o fs u.j (∃ (I : AW) (k : Nat),
  (3 = 3 ∧ isAk u.r.r I ∧ k < I.size ∧ ((u.r.x.map fun b => b.add ((u.k : Int).toNat * 4)).map fun b => b.add 0) = (u.r.r.x.map fun b => b.add (k * 4)).map fun b => b.add 0) ∧
    oraB ty pre post n fs = oraB ty pre post n fs ∧ orbEn ty pre post n o c a fs M u (I[k]!.src == (fs (u.j : Int).toNat).src))
def orBody (y : OrA n M) : Prop :=
  let x := fs (y.j : Int).toNat
  inQ pre n o fs y.j (pushQ y.m y.m x.src x.rank x.at_ x.most fun m' =>
    (true = true ∧ enD0 (orbV' (J := y.j) n o c a fs M) (fun _ => oraB ty pre post n fs) (fun y => [QL.qu y.m, .row y.r.r]) (orbV n o c a M y.m y.r.v y.j (qE y.m x.src x.rank x.at_ x.most) false 0) (oraB ty pre post n fs) [.qu m', .row y.r.r]) ∧
    ∀ (u : OrB fs n M y.j) (g : Nat → Value), cond (decide ((u.k : Int) < (u.I.size : Int))) (cond (thI u.I (fs u.j).src u.k) (orbEn ty pre post n o c a fs M u true) (orIn ty pre post n o c a fs M u)) (orAfter ty pre post n o c a fs M P y u))
def ordEn (u : OrD) (m' : QM) : Prop := true = true ∧ enD (fun y : OrD => y.L.length - y.k) ordV' (ordB ty pre post n fs) (fun y => [QL.qu y.m, .row y.r]) u (ordV u.m u.L u.c' u.x (wI ((u.k : Int) + 1))) (ordB ty pre post n fs u) [.qu m', .row u.r]
def orD (z : OrC M) : Prop := (true = true ∧ enD0 ordV' (ordB ty pre post n fs) (fun y => [QL.qu y.m, .row y.r]) (ordV z.m z.m.L z.c' z.x 0) (orcB ty pre post n fs M z) [.qu z.m, .row z.r.r]) ∧
  ∀ (u : OrD) (g : Nat → Value), cond (decide ((u.k : Int) < (u.L.length : Int)))
    (popQ u.m u.m fun m' => idx u.k u.L.length ∧ ldF u.L u.k ∧ cond (!eqA (hdW u.m.L) u.L.toArray[(u.k : Int).toNat]!) (P (.bool false)) (cond (or0 (cdW u.m.L != 0)) (P (.bool false)) (ordEn ty pre post n fs u m')))
    (popQ u.m u.m fun m' => cond (cdW u.m.L == 2) (lstQ u.m m' (ordB ty pre post n fs u ++ [askB (hdW u.m.L)]) fun m2 wr ty' fz c' x us => P (.bool (an ((m'.L.length : Int) == 0)))) (P (.bool false)))
def orcEn (z : OrC M) : Prop := true = true ∧ enD (fun y : OrC M => y.m.L.length - y.k) (orcV' M) (orcB ty pre post n fs M) (fun y => [QL.qu y.m, .row y.r.r]) z (orcV z.m z.r.v z.m.L z.c' z.x (wI ((z.k : Int) + 1))) (orcB ty pre post n fs M z) [.qu z.m, .row z.r.r]
def ixI (L : List Sd.Wt) (k : Int) (N : Prop) : Prop := (0 ≤ k ∧ k < (L.length : Int)) ∧ (k.toNat < L.length ∧ ∀ j, (akF L j).length = 4) ∧ N
def orCX (z : OrC M) : Prop :=
  let L := z.m.L
  let k1 := wI ((z.k : Int) - 1)
  cond (decide ((z.k : Int) < (L.length : Int)))
    (ixI L z.k (plcQ z.r L.toArray[(z.k : Int).toNat]! fun p => cond (decide ((z.k : Int) > 0))
      (ixI L k1 (ixI L z.k (cond (decide (L.toArray[k1.toNat]!.rank > L.toArray[(z.k : Int).toNat]!.rank)) (P (.bool false))
        (ixI L k1 (ixI L z.k (cond (L.toArray[k1.toNat]!.rank == L.toArray[(z.k : Int).toNat]!.rank)
          (ixI L k1 (plcQ z.r L.toArray[k1.toNat]! fun p1 => cond (or0 (an (or0 (an (decide ((p1 : Int) ≥ (p : Int))))))) (P (.bool false)) (orcEn ty pre post n fs M z))) (orcEn ty pre post n fs M z)))))))
      (orcEn ty pre post n fs M z)))
    (orD ty pre post n fs M P z)
def orTail (y : OrA n M) : Prop := lstQ y.m y.m (oraB ty pre post n fs) fun m1 wr ty' fz c' x us => cond ((y.m.L.length : Int) != (y.I.size : Int)) (P (.bool false))
  ((true = true ∧ enD0 (orcV' M) (orcB ty pre post n fs M) (fun y => [QL.qu y.m, .row y.r.r]) (orcV y.m y.r.v y.m.L c' x 0) [inB ty pre n fs post, jnk, rwB wr ty' fz y.m.L us] [.qu m1, .row y.r.r]) ∧
    ∀ (z : OrC M) (g : Nat → Value), orCX ty pre post n fs M P z)
def orXX (b : Int) : Prop := ((1 : Int) ≤ orM b ∧ orM b ≤ 64) ∧ ∀ m0 : QM, m0.most = orM b → m0.came = 0 → m0.L = [] → ∀ (x : Option Addr) (bk : List Blk) (h : rowv 4 32 [] x 0 0 bk),
  (true = true ∧ enD0 (oraV' n o c a (orM b)) (fun _ => oraB ty pre post n fs) (fun y => [QL.qu y.m, .row y.r.r]) (oraV n o c a (orM b) m0 (.raw (.slice x 0 0)) 0) (oraB ty pre post n fs) [.qu m0, .row ⟨32, 4, [], x, 0, 0, bk, h⟩]) ∧
  ∀ (y : OrA n (orM b)) (g : Nat → Value), cond (decide ((y.j : Int) < (n : Int))) (cond (an (decide ((y.j : Int) < 60))) (orBody ty pre post n o c a fs (orM b) P y) (orTail ty pre post n fs (orM b) P y)) (orTail ty pre post n fs (orM b) P y)
set_option maxHeartbeats 0 in
theorem or_vc (b : Int) : vcC (Cor ty pre post n o c a fs (orM b)) 60 (cC 3) (orFr b (.osl 0 o n c a)) [inB ty pre n fs post, jnk] [] (retK Try.prog (fnL 3) fun v _ _ => P v) = orXX ty pre post n o c a fs P b := by kernel_rfl
end
end Go.Proofs.Ytciiaficfmbimaa
noncomputable section
namespace Go.Proofs.Ytciiaficfmbimaa
open Go Go.RowKit Go.BigFrame Sx Vx
set_option maxRecDepth 100000
theorem orM_ok {b : Int} (h : 0 ≤ b ∧ b ≤ 255) : 1 ≤ orM b ∧ orM b ≤ 64 := by
  unfold orM
  rw [wrapI (x := b) (by omega), Int.tmod_eq_emod_of_nonneg h.1, wrapI (by omega)]
  omega
theorem thI_succ {I : AW} {s : Int} {k : Nat} (h : k < I.size) : thI I s (k + 1) = (thI I s k || I[k]!.src == s) := by
  have := thW_succ (L := I.toList) (s := s) (k := k) (by simpa using h)
  rw [Array.toArray_toList] at this
  exact this
theorem thI_all {I : AW} {s : Int} {k : Nat} (h : I.size ≤ k) : thI I s k = anW I.toList s := thW_all (by simpa using h)
theorem an_perm {A B : List Sd.Wt} (h : A.Perm B) (s : Int) : anW A s = anW B s := by
  unfold anW
  cases hb : B.any fun y => y.src == s with
  | true =>
    obtain ⟨y, hy, e⟩ := List.any_eq_true.1 hb
    exact List.any_eq_true.2 ⟨y, h.mem_iff.2 hy, e⟩
  | false =>
    rw [List.any_eq_false] at hb ⊢
    exact fun y hy => hb y (h.mem_iff.1 hy)
theorem rowG_eq {T z n n' c : Nat} {os os' : List Value} {x : Option Addr} {bl : List Blk} {h : rowv z T os x n c bl} {h' : rowv z T os' x n' c bl} (e1 : os = os') (e2 : n = n') : (⟨T, z, os, x, n, c, bl, h⟩ : RowG) = ⟨T, z, os', x, n', c, bl, h'⟩ := by
  subst e1 e2
  rfl
theorem ak_push (I : AW) (x : Sd.Wt) : (List.range (I.push x).size).flatMap (akG (I.push x)) = (List.range I.size).flatMap (akG I) ++ denC [] (asL x) := by
  rw [Array.size_push, List.range_succ, List.flatMap_append]
  congr 1
  · have : ∀ l : List Nat, (∀ i ∈ l, i < I.size) → l.flatMap (akG (I.push x)) = l.flatMap (akG I) := by
      intro l
      induction l with
      | nil => intro _; rfl
      | cons i l ih =>
        intro hh
        rw [List.flatMap_cons, List.flatMap_cons, ih fun k hk => hh k (List.mem_cons_of_mem _ hk)]
        congr 1
        simp only [akG]
        rw [Hp.push_get (hh i List.mem_cons_self)]
    exact this _ fun i hi => List.mem_range.1 hi
  · have e5 : (I.push x)[I.size]! = x := by simp
    simp only [List.flatMap_cons, List.flatMap_nil, List.append_nil, akG, e5]
    rfl
theorem Ins.size {M : Int} {m : QM} {I : AW} (h : Ins M m I) : m.L.length = I.size := by
  have := h.hp.length_eq
  simpa using this
section
variable {ty : BT} {pre post : List Value} {n o c : Nat} {a : Option Addr} {fs : Nat → Sd.Wt} {M : Int}
theorem inQ_ok {j : Nat} {N : Prop} (hj : j < n) (ho : ∀ j, j < n → o = pre.length) (h : N) : inQ pre n o fs j N := ⟨idx_ok hj, ⟨ho _ hj, by simpa using hj, fun _ => rfl⟩, h⟩
theorem plcQ_ok {m : QM} {I : AW} (r : RwI I) {w : Sd.Wt} {N : Nat → Prop} (hi : Ins M m I) (h60 : I.size ≤ 60) (hw : w ∈ m.L) (h : ∀ p : Nat, w.came = (p : Int) → N p) : plcQ r w N := by
  obtain ⟨p, hp, rfl⟩ := Hp.mem_get (hi.hp.mem_iff.1 hw)
  refine ⟨I, p, ⟨⟨rfl, rfl, rfl⟩, ⟨rfl, rfl, rfl, rfl⟩, hp, by omega, ?_, fun j hj => ?_⟩, h p (hi.hk p hp)⟩
  · unfold eqA; simp
  · have hnd : (I.toList.map (·.src)).Nodup := (hi.hp.map (·.src)).nodup_iff.1 m.hs
    rw [List.nodup_iff_pairwise_ne, List.pairwise_iff_getElem] at hnd
    have := hnd j p (by simp; omega) (by simpa using hp) hj
    rw [getElem!_pos I j (by omega), getElem!_pos I p hp]
    simpa using this
theorem push_cases {m0 : QM} {I : AW} (hi : Ins M m0 I) (s r at_ t : Int) : (anW I.toList s = true ∧ qE m0 s r at_ t = 27 ∧ qL m0 s r at_ t = m0.L) ∨ (anW I.toList s = false ∧ (I.size : Int) = M ∧ qE m0 s r at_ t = 3 ∧ qL m0 s r at_ t = m0.L) ∨
    (anW I.toList s = false ∧ (I.size : Int) < M ∧ qE m0 s r at_ t = 0 ∧ qL m0 s r at_ t = Hp.insW ⟨s, r, at_, t, m0.came⟩ m0.L) := by
  have hany : (m0.L.any fun y => y.src == s) = anW I.toList s := an_perm hi.hp s
  have hlen := hi.size
  have hl := hi.hl
  unfold qE qL pushW
  simp only [hany, hi.hm]
  cases h1 : anW I.toList s with
  | true => exact .inl ⟨rfl, rfl, rfl⟩
  | false =>
    cases h2 : decide (M ≤ (m0.L.length : Int)) with
    | true => exact .inr (.inl ⟨rfl, by have := of_decide_eq_true h2; omega, rfl, rfl⟩)
    | false => exact .inr (.inr ⟨rfl, by have := of_decide_eq_false h2; omega, rfl, rfl⟩)
theorem orAfter_ok (ho : ∀ j, j < n → o = pre.length) {y : OrA n M} {u : OrB fs n M y.j} (hj : y.j < n) (hj2 : y.j < 60) (hk : u.k = u.I.size) : orAfter ty pre post n o c a fs M okP y u := by
  have hJ : u.j = y.j := Int.ofNat_inj.1 u.hJ
  have huj := u.hj
  have hth : thI u.I (fs u.j).src u.k = anW u.I.toList (fs u.j).src := thI_all (by omega)
  have hI := u.hI
  have stay : u.m.L = u.m0.L → u.m.came = u.m0.came → orEn ty pre post n o c a fs M y u.m u.r.v u.r.r u.j := fun e1 e2 => by
    refine ⟨rfl, ⟨y.j + 1, hj, hj2, u.m, u.I, u.r, ⟨u.hm, by rw [e2, u.ins.hc], by rw [e1]; exact u.ins.hp, u.ins.hk, u.ins.hl⟩, by omega⟩, by show 60 - (y.j + 1) < 60 - y.j; omega, ?_, rfl, rfl⟩
    rw [wrapW (by omega), hJ]
    rfl
  unfold orAfter
  dsimp only
  rw [hth]
  have hL := u.hL
  have hcm := u.hcm
  rcases push_cases u.ins (fs u.j).src (fs u.j).rank (fs u.j).at_ (fs u.j).most with ⟨g1, g2, g3⟩ | ⟨g1, g0, g2, g3⟩ | ⟨g1, g0, g2, g3⟩
  · have e2 : orE u = 27 := g2
    rw [g2] at hcm
    rw [g1, e2]
    exact stay (hL.trans g3) (by rw [hcm]; show u.m0.came + 0 = _; omega)
  · have e2 : orE u = 3 := g2
    rw [g2] at hcm
    have em : ((u.I.size : Int) == M) = true := by rw [g0]; simp
    rw [g1, e2, em]
    exact stay (hL.trans g3) (by rw [hcm]; show u.m0.came + 0 = _; omega)
  · have e2 : orE u = 0 := g2
    rw [g2] at hcm
    have em : ((u.I.size : Int) == M) = false := by
      cases hb : ((u.I.size : Int) == M) with
      | false => rfl
      | true => have := eq_of_beq hb; omega
    rw [g1, e2, em]
    have hcm : u.m.came = u.m0.came + 1 := hcm
    have hc0 := u.ins.hc
    refine inQ_ok (by omega) ho ⟨⟨rfl, by omega⟩, fun x c2 bk h => ?_⟩
    let w : Sd.Wt := ⟨(fs u.j).src, (fs u.j).rank, (fs u.j).at_, (fs u.j).most, u.m0.came⟩
    have eo : u.r.r.os ++ denC [] (asL (fs (u.j : Int).toNat)) = (List.range (u.I.push w).size).flatMap (akG (u.I.push w)) := by
      rw [ak_push]
      rfl
    have en : u.I.size + 1 = (u.I.push w).size := by simp
    have h' : rowv 4 32 ((List.range (u.I.push w).size).flatMap (akG (u.I.push w))) x (u.I.push w).size c2 bk := by
      rw [← eo, ← en]; exact h
    refine ⟨rfl, ⟨y.j + 1, hj, hj2, u.m, u.I.push w, ⟨x, c2, bk, h'⟩, ⟨u.hm, by rw [hcm, hc0]; simp, ?_, fun k hk2 => ?_, by rw [← en]; omega⟩, by rw [← en]; omega⟩, by show 60 - (y.j + 1) < 60 - y.j; omega, ?_, rfl, ?_⟩
    · rw [hL, g3, Array.toList_push]
      exact (Hp.ins_perm w u.m0.L).trans ((u.ins.hp.cons w).trans (List.perm_append_comm (l₁ := [w]) (l₂ := u.I.toList)))
    · rcases Nat.lt_or_ge k u.I.size with h5 | h5
      · rw [Hp.push_get h5]; exact u.ins.hk k h5
      · obtain rfl : k = u.I.size := by omega
        have e5 : (u.I.push w)[u.I.size]! = w := by simp
        rw [e5]
        exact hc0
    · show oraV n o c a M u.m (.raw (.slice x (u.I.size + 1) c2)) _ = oraV n o c a M u.m (.raw (.slice x (u.I.push w).size c2)) ((y.j + 1 : Nat) : Int)
      rw [wrapW (by omega), hJ, en]
      rfl
    · show [QL.qu u.m, .row _] = [QL.qu u.m, .row _]
      rw [rowG_eq (h := h) (h' := h') eo en]
      rfl
theorem orBody_ok (ho : ∀ j, j < n → o = pre.length) {y : OrA n M} (hj : y.j < n) (hj2 : y.j < 60) : orBody ty pre post n o c a fs M okP y := by
  have hc := y.ins.hc
  have hI := y.hI
  refine inQ_ok hj ho (pushQ_ok rfl (by omega) fun m' b1 b2 b3 b4 => ⟨⟨rfl, ⟨y.j, rfl, hj, hj2, y.m, m', y.I, y.r, y.ins, hI, b1, b2, b4.trans y.ins.hm, 0, Nat.zero_le _⟩, ?_, rfl, rfl⟩, fun u g => cnd (fun h => ?_) fun h => ?_⟩)
  · show orbV n o c a M y.m y.r.v y.j _ false 0 = orbV n o c a M m' y.r.v y.j _ (thI y.I (fs y.j).src 0) ((0 : Nat) : Int)
    unfold orbV
    rw [QM.v_eq b3]
    rfl
  · have hk : u.k < u.I.size := Int.ofNat_lt.1 (of_decide_eq_true h)
    have hI := u.hI
    have hu2 := u.h2
    have en : ∀ b, b = thI u.I (fs u.j).src (u.k + 1) → orbEn ty pre post n o c a fs M u b := by
      rintro b rfl
      refine ⟨rfl, { u with k := u.k + 1, hk := hk }, by show u.I.size - (u.k + 1) < u.I.size - u.k; omega, ?_, rfl, rfl⟩
      rw [wrapW (by omega)]
      rfl
    refine cnd (fun h2 => en _ ?_) fun h2 => ?_
    · rw [thI_succ hk, h2]; rfl
    · have hx : ∃ b, u.r.x = some b := by
        rcases u.r.h.2.2 with ⟨-, h0, -⟩ | ⟨b, t, e, -⟩
        · omega
        · exact ⟨_, e⟩
      obtain ⟨b0, hb0⟩ := hx
      refine ⟨⟨idx_ok hk, b0, hb0⟩, ⟨b0.add ((u.k : Int).toNat * 4), by rw [hb0]; rfl⟩, inQ_ok u.hj ho ⟨u.I, u.k, ⟨rfl, ⟨rfl, rfl, rfl, rfl⟩, hk, rfl⟩, rfl, en _ ?_⟩⟩
      rw [thI_succ hk, h2]
      rfl
  · refine orAfter_ok ho hj hj2 ?_
    have := of_decide_eq_false h
    have := u.hk
    omega
theorem orD_ok (z : OrC M) : orD ty pre post n fs M okP z := by
  refine ⟨⟨rfl, ⟨z.m.L, z.m, z.r.r, 0, Nat.zero_le _, rfl, len64 z.m, z.wr, z.ty', z.fz, z.c', z.x, z.us⟩, rfl, rfl, rfl⟩, fun u g => cnd (fun h => ?_) fun h => ?_⟩
  · have hk : u.k < u.L.length := Int.ofNat_lt.1 (of_decide_eq_true h)
    have h64 := u.h64
    have hd : u.m.L = u.L.toArray[u.k]! :: u.L.drop (u.k + 1) := by rw [u.hd, getL hk, List.getElem_cons_drop]
    refine popQ_ok rfl fun m' b1 b2 b3 b4 => ⟨idx_ok hk, ldF_ok hk, cnd (fun h2 => ?_) fun _ => cnd (fun h2 => ?_) fun _ => ⟨rfl, { u with m := m', k := u.k + 1, hk := hk, hd := ?_ }, by show u.L.length - (u.k + 1) < u.L.length - u.k; omega, ?_, rfl, rfl⟩⟩
    · have h2 : (!eqA (hdW u.m.L) u.L.toArray[u.k]!) = true := h2
      rw [hd, show hdW (u.L.toArray[u.k]! :: u.L.drop (u.k + 1)) = u.L.toArray[u.k]! from rfl, eqA_self] at h2
      cases h2
    · rw [hd] at h2
      cases h2
    · rw [b1, hd]
      rfl
    · show ordV u.m u.L u.c' u.x _ = ordV m' u.L u.c' u.x ((u.k + 1 : Nat) : Int)
      rw [wrapW (by omega)]
      unfold ordV
      rw [QM.v_eq b3]
      rfl
  · have hk : u.k = u.L.length := by
      have := of_decide_eq_false h
      have := u.hk
      omega
    have hd : u.m.L = [] := by rw [u.hd, hk]; exact List.drop_length
    refine popQ_ok rfl fun m' b1 b2 b3 b4 => cnd (fun _ => lstQ_ok b3 1 rfl fun m2 wr ty' fz c' x us _ _ _ _ _ _ => ?_) fun h2 => ?_
    · show V.bool _ = _
      rw [b1, hd]
      rfl
    · rw [hd] at h2
      cases h2
theorem orCX_ok (z : OrC M) : orCX ty pre post n fs M okP z := by
  unfold orCX
  dsimp only
  have h64 := len64 z.m
  refine cnd (fun h => ?_) fun h => orD_ok z
  have hk : z.k < z.m.L.length := Int.ofNat_lt.1 (of_decide_eq_true h)
  have ix : ∀ {k : Nat} {N : Prop}, k < z.m.L.length → N → ixI z.m.L k N := fun hk hN => ⟨⟨by omega, by omega⟩, ⟨by simpa using hk, fun _ => rfl⟩, hN⟩
  have en : orcEn ty pre post n fs M z := by
    refine ⟨rfl, { z with k := z.k + 1, hk := hk }, by show z.m.L.length - (z.k + 1) < z.m.L.length - z.k; omega, ?_, rfl, rfl⟩
    rw [wrapW (by omega)]
    rfl
  have hmem : ∀ {k : Nat}, k < z.m.L.length → z.m.L.toArray[k]! ∈ z.m.L := fun hk => by rw [getL hk]; exact List.getElem_mem hk
  refine ix hk (plcQ_ok z.r z.ins z.hI (hmem hk) fun p hp => cnd (fun h0 => ?_) fun _ => en)
  obtain ⟨k1, hk1⟩ : ∃ k1, z.k = k1 + 1 := ⟨z.k - 1, by have := of_decide_eq_true h0; omega⟩
  have e1 : wI ((z.k : Int) - 1) = (k1 : Int) := by rw [wrapW (by omega)]; omega
  rw [e1]
  have hlt : k1 < z.m.L.length := by omega
  have hord : (z.m.L.toArray[k1]!).lt z.m.L.toArray[z.k]! = true := by
    rw [getL hlt, getL hk]
    exact List.pairwise_iff_getElem.1 z.m.hI.ord k1 z.k hlt hk (by omega)
  have hord2 : (z.m.L.toArray[k1]!).rank < (z.m.L.toArray[z.k]!).rank ∨ ((z.m.L.toArray[k1]!).rank = (z.m.L.toArray[z.k]!).rank ∧ (z.m.L.toArray[k1]!).came < (z.m.L.toArray[z.k]!).came) := by
    generalize z.m.L.toArray[k1]! = A at hord
    generalize z.m.L.toArray[z.k]! = B at hord
    unfold Sd.Wt.lt at hord
    cases hne : A.rank != B.rank with
    | true => rw [hne] at hord; exact .inl (of_decide_eq_true hord)
    | false => rw [hne] at hord; exact .inr ⟨by simpa using hne, of_decide_eq_true hord⟩
  refine ix hlt (ix hk (cnd (fun h5 => ?_) fun _ => ix hlt (ix hk (cnd (fun h5 => ix hlt (plcQ_ok z.r z.ins z.hI (hmem hlt) fun p1 hp1 => cnd (fun h6 => ?_) fun _ => en)) fun _ => en))))
  · have h5 : (z.m.L.toArray[k1]!).rank > (z.m.L.toArray[z.k]!).rank := of_decide_eq_true h5
    omega
  · have h6 : decide ((p1 : Int) ≥ (p : Int)) = true := h6
    have h6 := of_decide_eq_true h6
    have h5 : (z.m.L.toArray[k1]!).rank = (z.m.L.toArray[z.k]!).rank := eq_of_beq h5
    have hp1 : (z.m.L.toArray[k1]!).came = (p1 : Int) := hp1
    have hp : (z.m.L.toArray[z.k]!).came = (p : Int) := hp
    omega
theorem orTail_ok (y : OrA n M) : orTail ty pre post n fs M okP y := by
  have hsz := y.ins.size
  have hI := y.hI
  have h60 := y.h2
  refine lstQ_ok rfl 1 rfl fun m1 wr ty' fz c' x us h1 h2 h3 h4 h5 h6 => cnd (fun h => ?_) fun _ => ⟨⟨rfl, ⟨m1, y.I, y.r, ⟨h4.trans y.ins.hm, h2.trans y.ins.hc, by rw [h1]; exact y.ins.hp, y.ins.hk, y.ins.hl⟩, by omega, 0, Nat.zero_le _, wr, ty', fz, c', x, us⟩, ?_, ?_, rfl⟩, fun z g => orCX_ok z⟩
  · rw [hsz] at h
    simp at h
  · show orcV y.m y.r.v y.m.L c' x 0 = orcV m1 y.r.v m1.L c' x ((0 : Nat) : Int)
    rw [h1]
    unfold orcV
    rw [QM.v_eq h3]
    rfl
  · show [inB ty pre n fs post, jnk, rwB wr ty' fz y.m.L us] = [inB ty pre n fs post, jnk, rwB wr ty' fz m1.L us]
    rw [h1]
theorem orXX_ok {b : Int} (hb : 0 ≤ b ∧ b ≤ 255) (ho : ∀ j, j < n → o = pre.length) : orXX ty pre post n o c a fs okP b := by
  have hM := orM_ok hb
  refine ⟨hM, fun m0 a1 a2 a3 x bk h => ⟨⟨rfl, ⟨0, Nat.zero_le _, Nat.zero_le _, m0, #[], ⟨x, 0, bk, h⟩, ⟨a1, a2, by rw [a3], (fun k hk => by simp at hk), by simp; omega⟩, Nat.zero_le _⟩, rfl, rfl, rfl⟩, fun y g => cnd (fun h => cnd (fun h2 => ?_) fun h2 => orTail_ok y) fun h => orTail_ok y⟩⟩
  refine orBody_ok ho (Int.ofNat_lt.1 (of_decide_eq_true h)) ?_
  have h2 : decide ((y.j : Int) < 60) = true := h2
  have := of_decide_eq_true h2
  omega
end
theorem orders_so {W : World} {v : Value} {fs : Nat → Sd.Wt} {i o n c : Nat} {a : Option Addr} {ty : BT} {pre post : List Value} {b : Int} (hb : 0 ≤ b ∧ b ≤ 255) (h : AskIn W v fs i o n c a ty pre post) :
    Gives Try.prog 3 #[.int .u8 b, v] W fun v w' => v = .bool true ∧ Ch [] W w' := by
  have e : #[.int .u8 b, v] = (denM [i] [.int .u8 b, .osl 0 o n c a]).toArray := by rw [h.v]; rfl
  rw [e]
  exact law_run (C := Cor ty pre post n o c a fs (orM b)) (n := 60) rfl (AllOk.T LLw_ok) (AllOk.Q LLw_ok) rfl (by kernel_rfl) (by kernel_rfl) (bl0 := [inB ty pre n fs post]) rfl (in_st h)
    (fr1 := put ([.int .u8 b, .osl 0 o n c a] ++ repU 213) (some 4) (.bool false)) (fr2 := orFr b (.osl 0 o n c a)) (fun K => by kernel_rfl) (fun K => by kernel_rfl) (bl3 := [inB ty pre n fs post, jnk]) (fr3 := orFr b (.osl 0 o n c a)) (fun ids w' hl S => ⟨ids, hl, rfl, S⟩)
    (by have := or_vc ty pre post n o c a fs okP b; rw [show (fun v _ _ => v = .bool true : VK QL) = fun v _ _ => okP v from rfl, this]; exact orXX_ok hb h.po)
theorem orders_nil (W : World) {b : Int} (hb : 0 ≤ b ∧ b ≤ 255) : Gives Try.prog 3 #[.int .u8 b, .slice none 0 0] W fun v w' => v = .bool true ∧ Ch [] W w' := by
  have e : #[.int .u8 b, .slice none 0 0] = (denM [] [.int .u8 b, .raw (.slice none 0 0)]).toArray := rfl
  rw [e]
  refine law_run (C := Cor ⟨30, (0, 0)⟩ [] [.int .i64 0, .int .i64 9] 0 0 0 none (fun _ => ⟨0, 0, 0, 0, 0⟩) (orM b)) (n := 60) rfl (AllOk.T LLw_ok) (AllOk.Q LLw_ok) rfl (by kernel_rfl) (by kernel_rfl) (bl0 := []) (ids0 := []) rfl (St.nil [] W)
    (fr1 := put ([.int .u8 b, .raw (.slice none 0 0)] ++ repU 213) (some 4) (.bool false)) (fr2 := orFr b (.raw (.slice none 0 0))) (fun K => by kernel_rfl) (fun K => by kernel_rfl) (bl3 := [nlB, jnk]) (fr3 := orFr b (.osl 0 0 0 0 none)) (fun ids w' hl S => ?_)
    (by have := or_vc ⟨30, (0, 0)⟩ [] [.int .i64 0, .int .i64 9] 0 0 0 none (fun _ => ⟨0, 0, 0, 0, 0⟩) okP b; rw [show (fun v _ _ => v = .bool true : VK QL) = fun v _ _ => okP v from rfl]; exact this ▸ orXX_ok hb (fun j hj => absurd hj (by omega)))
  match ids, hl with
  | [k], _ => exact ⟨[k, k], rfl, rfl, nl_st S⟩
end Go.Proofs.Ytciiaficfmbimaa
namespace Go.Proofs.Ytciiaficfmbimaa.queueOrders
open Go.ChangeShapes Go.WideShapes Go.ChangeAt Go.RowKit Go.Joins Sd
set_option maxRecDepth 100000
theorem opened (H : Type) (enc : TypeId × Value → H) (W : World) (args : Array Value) (ds gs : List (DataW H)) (before : List MemPlace)
    (hval : ∀ (j : Nat) t v, Try.f3.params[j]? = some t → args[j]? = some v → Value.okWide Try.prog W .any 0 t v)
    (hW : DataW.Whole enc Try.prog Try.f3.params.toList Rows.queueOrdersSpec.vars false W args.toList ds gs before) :
    Rows.queueOrdersSpec.fn H (ds ++ gs) = { results := [.lit (.bool true)], args := ds, vars := [] } ∧ Calls Try.prog 3 args W fun e W' => e = .returned (.bool true) ∧ Below W.heap.size W W' := by
  obtain ⟨p, q, hA, hV, rfl, hfz, hnd⟩ := hW
  rw [Try.params3] at hA hval
  obtain ⟨v0, v1, d0, d1, p0, p1, hargs, rfl, ht⟩ := trodAll_two hA
  obtain rfl : args = #[v0, v1] := by cases args; simp_all
  obtain ⟨rfl, rfl⟩ := trodVars_none hV
  obtain ⟨b, rfl, hb⟩ := cell_u8 Try.underlying5 (okWide_cell Try.underlying5 rfl (hval 0 5 v0 rfl rfl))
  have hcell := okWide_cell Try.underlying22 rfl (hval 1 22 v1 rfl rfl)
  have hrd : ∀ k, Sx.Rd Try.prog W k 22 [v1] := fun k => by
    obtain ⟨_, _, ⟨fuel, h2⟩⟩ := ht
    obtain ⟨a, m, c, rfl, _, _⟩ := cell_slice Try.underlying22 hcell
    exact Sx.rd_of_trod k h2
  rcases open_asks hcell hrd with rfl | ⟨fs, i, o, n, c, a, ty, pre, post, h⟩
  · exact ⟨rfl, Sx.gives_law (orders_nil W ⟨by omega, by omega⟩)⟩
  · exact ⟨rfl, Sx.gives_law (orders_so ⟨by omega, by omega⟩ h)⟩
set_option maxRecDepth 100000 in
theorem lifted (os : Os) (started : os.Started) (H : Type) (enc : TypeId × Value → H) :
    ReturnsInHanded {} Try.checked os 3 .any (Rows.queueOrdersSpec.pre6 enc Try.prog Try.f3 Rows.queueOrdersRow.domain false) (Rows.queueOrdersSpec.post enc Try.prog Try.f3 false true false false) := by
  refine returnsInHanded_of_change (C := Try.checked) (by kernel_rfl) started (by kernel_rfl) Try.func3
    (ChangeSpec.witness6 (enc := enc) (C := Try.checked) false ⟨#[], #[.int .u8 0, .slice none 0 0], []⟩ 8 (by kernel_rfl) (by kernel_rfl) (by kernel_rfl) (by kernel_rfl)) ?_
  intro W base args ds gs before hval hW hcnd _
  obtain ⟨hs, hc⟩ := opened H enc W args ds gs before hval hW
  refine hc.mono fun e W' ⟨he, hb⟩ => ⟨_, he, ?_⟩
  exact law_post (by kernel_rfl) (by kernel_rfl) rfl (by kernel_rfl) Try.underlying4 hs hW hb
theorem proved : Rows.QueueOrdersSaid :=
  OpenClaim.holds_of_wide 3 Try.f3 rfl rfl rfl rfl rfl rfl rfl ⟨rfl, rfl, rfl, rfl, rfl⟩ rfl rfl rfl rfl rfl (by kernel_rfl) Try.func3 (by kernel_rfl)
    (of_decide_eq_true (by kernel_rfl)) (by unfold Func.isWrapper; first | (rw [if_pos (by decide +kernel)]; kernel_rfl) | (rw [if_neg (by decide +kernel)]; exact ⟨rfl, rfl⟩))
    (fun os started H enc _ => lifted os started H enc)
#print axioms proved
end Go.Proofs.Ytciiaficfmbimaa.queueOrders
