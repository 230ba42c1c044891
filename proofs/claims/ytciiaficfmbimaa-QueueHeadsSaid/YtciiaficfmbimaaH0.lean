/- QueueHeads: whichever row of asks, the law returns true. Conditions: none. -/
import Derived.Test.YtciiaficfmbimaaB5
import Derived.Test.YtciiaficfmbimaaChecked
import Derived.Test.YtciiaficfmbimaaRows
import Derived.Lib.SmallJoins
set_option linter.unusedVariables false
set_option linter.unusedSimpArgs false
set_option linter.unusedSectionVars false
noncomputable section
namespace Vx
open Go Go.RowKit Go.BigFrame Sx
variable {G : Type} [Bl G]
def cpyA (P : Program) (J : VB) : (Operand → V) → Op → List VB → List G → VK G → Prop := fun e op bl ch K => match op with
  | .buildSlice t 0 ps => (match ps.toList, P.underlying t with
    | [], some (.slice T) => (match szT P T, zeroT P T with
      | some (z + 1), some zc => cond (Nat.beq (szL zc) (z + 1)) (∀ a : Addr, K (.raw (.slice (some a) 0 0)) bl ch) False
      | _, _ => False)
    | _, _ => False)
  | .call c => (match c.callee, c.args.toList, c.argTypes.toList with
    | .builtin .append, [s, xs], [t, tx] => (match P.underlying t, P.underlying tx with
      | some (.slice T), some (.slice _) => (match rowInfo P T, e s, e xs with
        | some (z, by_), .raw (.slice (some a) 0 0), .osl i 0 m _ _ => (match bl[i]? with
          | some ⟨_, _, [.rowp z' m' g, .rest _]⟩ => cond (Nat.beq z z' && (Nat.ble by_ 10000000 && (wfB bl.length bl && wfL 0 J.c)))
              ((m' = m ∧ m ≤ 1000000 ∧ (∀ j, (g j).length = z) ∧ (∀ j u, u ∈ g j → u.oneCell' = true) ∧ J.wr = false ∧ ∃ k : Nat, bl[k]? = some J) ∧
                ∀ (ty : TypeId) (fz : Nat × Nat) (c' : Nat) (x' : Option Addr) (u : List Value), m ≤ c' → K (.osl bl.length 0 m c' x') (bl ++ [⟨false, ⟨ty, fz⟩, [.rowp z m g, .rest u]⟩]) ch) False
          | _ => False)
        | _, _, _ => False)
      | _, _ => False)
    | _, _, _ => False)
  | _ => False
theorem cpyA_ok {P : Program} {J : VB} {gl : Nat → Option Nat} : HOk (G := G) P gl (cpyA P J) := by
  intro e op ids bl ch R ms w0 w K ρ o hg hl S hρ ho h
  unfold cpyA at h
  split at h
  · rename_i t ps
    split at h
    · rename_i T hps hu
      split at h
      · rename_i z zc hz hzc
        cases hq : Nat.beq (szL zc) (z + 1) with
        | false => rw [hq] at h; exact h.elim
        | true =>
          rw [hq] at h
          simp only [cond_true] at h
          have hrun := run_buildSlice (P := P) (ids := ids) (w := w) (len := 0) (ps := []) (c := []) hu hz hzc (Nat.eq_of_beq_eq_true hq) (by simp) rfl
          have hn := S.new (Ch.alloc [] w (.cells #[] T)) (Nat.le_refl _) (heap_alloc_new w _)
          refine ⟨_, [], bl, ch, w.alloc (.cells #[] T), .inl ?_, by simpa using hl, ?_, h ⟨w.heap.size, 0, none⟩⟩
          · unfold execOp
            have hp0 : ps = #[] := by apply Array.ext'; simpa using hps
            subst hp0
            simp only [ho]
            rw [Sem.run_bind]
            have h2 : (Instr.buildSlice t 0 #[]).run P w = .ok (.slice (some ⟨w.heap.size, 0, none⟩) 0 0) (w.alloc (.cells #[] T)) := hrun
            have h3 : ((#[] : Array (Nat × Operand)).map fun (x : Nat × Operand) => match x with | (i, x) => (i, ρ x)) = #[] := by simp
            rw [h3, h2]
            rfl
          · rw [List.append_nil]
            exact hn.sub (List.sublist_cons_self _ _)
      · exact h.elim
    · exact h.elim
  · rename_i c
    split at h
    · rename_i s xs t tx hcal hargs hts
      split at h
      · rename_i T T' ht htx
        split at h
        · rename_i z by_ a i m cc2 xx hinfo hes hxs
          split at h
          · rename_i wr ty z' m' g us hb
            cases hq : Nat.beq z z' && (Nat.ble by_ 10000000 && (wfB bl.length bl && wfL 0 J.c)) with
            | false => rw [hq] at h; exact h.elim
            | true =>
              rw [hq] at h
              simp only [cond_true] at h
              simp only [Bool.and_eq_true] at hq
              obtain ⟨q1, q5, q10, q11⟩ := hq
              obtain rfl := Nat.eq_of_beq_eq_true q1
              have q5 := Nat.le_of_ble_eq_true q5
              obtain ⟨⟨rfl, q6, hgl, hone, hJ, k, hk⟩, h⟩ := h
              obtain ⟨cal, ar, ats⟩ := c
              simp only at hcal hargs hts
              have e2 : ar = #[s, xs] := by rw [← hargs]
              have e3 : ats = #[t, tx] := by rw [← hts]
              subst hcal e2 e3
              by_cases hm0 : m' = 0
              · subst hm0
                have hinf : ∃ inf, P.info? T = some inf := by
                  unfold rowInfo at hinfo
                  split at hinfo
                  · rename_i inf hi; exact ⟨inf, hi⟩
                  · cases hinfo
                obtain ⟨inf, hinf⟩ := hinf
                have hsx : Src P inf.size tx (.slice xx 0 cc2) 0 [] w := by
                  cases xx with
                  | none => exact Src.ofNil w htx cc2
                  | some y => exact Src.ofSlice w htx y 0 cc2 [] (by simp) (fun j u hj => by simp at hj) (fun u hu => by simp at hu)
                have hrun := run_append_nothing (P := P) w t tx o.type T inf ht hinf (some a) 0 0 (Nat.le_refl _) (.slice xx 0 cc2) hsx
                have hj := (at_lit hl S hk).1
                refine ⟨.osl bl.length 0 0 0 (some a), [ids.getD k 0], bl ++ [⟨false, ⟨J.ty.t, J.ty.fz⟩, [.rowp z 0 g, .rest (denC [] J.c)]⟩], ch, w, .inl ?_, by simp [hl], ?_, h J.ty.t J.ty.fz 0 (some a) (denC [] J.c) (Nat.le_refl _)⟩
                · have := append_op (P := P) (ρ := ρ) (o := o) ho (sv := .slice (some a) 0 0) (xv := .slice xx 0 cc2) (by rw [hρ, hes]; simp only [den]) (by rw [hρ, hxs]; rfl) hrun
                  rw [this]
                  rfl
                · rw [lits_app _ _ _ _ hl, lits_ids _ _ (by rw [hl]; exact q10)]
                  have hd : denC ids J.c = denC [] J.c := by have := denC_app (ids := []) (more := ids) J.c q11; simpa using this
                  have hjj : mkB ids (ids.getD k 0) J = ⟨ids.getD k 0, false, .cells (denC [] J.c).toArray J.ty.t J.ty.fz⟩ := by simp only [mkB, hJ, hd]
                  rw [hjj] at hj
                  have hb2 : lits (ids ++ [ids.getD k 0]) [ids.getD k 0] [(⟨false, ⟨J.ty.t, J.ty.fz⟩, [.rowp z 0 g, .rest (denC [] J.c)]⟩ : VB)] = [⟨ids.getD k 0, false, .cells (denC [] J.c).toArray J.ty.t J.ty.fz⟩] := by
                    simp [lits, mkB, denC, cl]
                  rw [hb2]
                  refine (St.dupQ S (List.mem_of_getElem? hj) rfl).perm ?_
                  rw [List.append_assoc (lits ids ids bl)]
                  exact (List.perm_middle).symm
              · have hat := (at_lit hl S hb).2
                have hnews : ((List.range m').flatMap g).length = m' * z := flatL hgl m'
                have hcells : ∀ is : List Nat, denC is [V.rowp z m' g, .rest us] = (List.range m').flatMap g ++ us := fun is => by simp [denC, cl]
                have hsrc : Src P z tx (.slice (some ⟨ids.getD i 0, 0, none⟩) m' cc2) m' ((List.range m').flatMap g) w := by
                  refine Src.ofSlice w htx ⟨ids.getD i 0, 0, none⟩ m' cc2 _ hnews (fun j u hj => ?_) (fun u hu => ?_)
                  · rw [Addr.add_lit, cell_of hat]
                    simp only [hcells]
                    have hj2 : j < ((List.range m').flatMap g).length := by
                      rcases Nat.lt_or_ge j ((List.range m').flatMap g).length with h | h
                      · exact h
                      · rw [List.getElem?_eq_none h] at hj; cases hj
                    rw [List.getElem?_toArray, Nat.zero_add, List.getElem?_append_left hj2]
                    exact hj
                  · obtain ⟨j, _, hj⟩ := List.mem_flatMap.1 hu
                    exact hone j u hj
                have hb1 : m' * by_ ≤ 140737488355328 := Nat.le_trans (Nat.mul_le_mul q6 q5) (by decide)
                have hbq : Nat.beq m' 0 = false := by cases m' with | zero => exact absurd rfl hm0 | succ n => rfl
                obtain ⟨b', c', tail, w', hrun, hc, hge, hh, hlen, r2⟩ := run_append_e (P := P) (ty := o.type) (x := some a) by_ hsrc (by omega) ht (rowInfo_ok hinfo) hb1 (Nat.le_trans q6 (by decide))
                refine ⟨.osl bl.length 0 m' c' none, [b'], bl ++ [⟨false, ⟨T, (0, 0)⟩, [.rowp z m' g, .rest tail]⟩], ch, w', .inl ?_, by simp [hl], ?_, h T (0, 0) c' none tail r2⟩
                · have := append_op (P := P) (ρ := ρ) (o := o) ho (sv := .slice (some a) 0 0) (xv := .slice (some ⟨ids.getD i 0, 0, none⟩) m' cc2) (by rw [hρ, hes]; simp only [den]) (by rw [hρ, hxs]; simp only [den, hbq, cond_false]) hrun
                  rw [this]
                  simp only [den, hbq, cond_false]
                  rw [← hl, getD_last]
                · rw [lits_app _ _ _ _ hl, lits_ids _ _ (by rw [hl]; exact q10)]
                  have e4 : denC (ids ++ [b']) [V.rowp z m' g, .rest tail] = (List.range m').flatMap g ++ tail := by simp [denC, cl]
                  simp only [lits, mkB]
                  rw [e4]
                  have := St.roQ (S.new hc hge hh)
                  refine this.perm ?_
                  rw [List.append_assoc (lits ids ids bl)]
                  exact (List.perm_middle).symm
          · exact h.elim
        · exact h.elim
      · exact h.elim
    · exact h.elim
  · exact h.elim
end Vx
namespace Go.Proofs.Ytciiaficfmbimaa
open Go Go.RowKit Go.BigFrame Sx Vx
set_option maxRecDepth 100000
structure HdA (n : Nat) where
  j : Nat
  hj : j ≤ n
  h2 : j ≤ 20
  m : QM
  hc : m.came ≤ j
structure HdB where
  j : Nat
  hj : j ≤ 21
  m : QM
structure HdC (J : Int) where
  j : Nat
  hJ : (j : Int) = J
  m : QM
  k : Nat
  hk : k ≤ m.L.length
  g : Nat → List Value
  hg : ∀ i, (g i).length = 4
  wr : Bool
  ty' : TypeId
  fz : Nat × Nat
  c' : Nat
  x : Option Addr
  us : List Value
  hw : 0 < m.L.length → wr = true ∧ fz = (0, 0)
  ty2 : TypeId
  fz2 : Nat × Nat
  c2 : Nat
  x2 : Option Addr
  us2 : List Value
  hle : m.L.length ≤ c2
section
variable (ty : BT) (pre post : List Value) (n o c : Nat) (a : Option Addr) (fs : Nat → Sd.Wt)
def hdaV (m : QM) (j : Int) : List V := [.osl 0 o n c a, m.v, .int .i64 j]
def hdaB : List VB := [inB ty pre n fs post, jnk]
def hdaLp : Lp QL := mkLp (X := HdA n) (fun y => 20 - y.j) 142 2 [0, 4, 6] (fun y => hdaV n o c a y.m y.j) (fun _ => hdaB ty pre post n fs) (fun y => [.qu y.m]) (fun _ => rfl) (fun _ => by kernel_rfl) (fun _ => rfl)
def hdbV (m : QM) (j : Int) : List V := [m.v, .int .i64 j]
def hdbLp : Lp QL := mkLp (X := HdB) (fun y => 21 - y.j) 142 2 [4, 7] (fun y => hdbV y.m y.j) (fun _ => hdaB ty pre post n fs) (fun y => [.qu y.m]) (fun _ => rfl) (fun _ => by kernel_rfl) (fun _ => rfl)
def hdcV (m : QM) (L : List Sd.Wt) (j : Int) (c' c2 : Nat) (x x2 : Option Addr) (cd k : Int) : List V := [m.v, .int .i64 j, .osl 2 0 L.length c' x, .ptr 3 0, .int .i64 cd, .osl 4 0 L.length c2 x2, .int .i64 k]
def hdcB (L : List Sd.Wt) (wr : Bool) (ty' : TypeId) (fz : Nat × Nat) (g : Nat → List Value) (us : List Value) (ty2 : TypeId) (fz2 : Nat × Nat) (us2 : List Value) : List VB :=
  [inB ty pre n fs post, jnk, ⟨wr, ⟨ty', fz⟩, [.rowp 4 L.length g, .rest us]⟩, ⟨true, ⟨32, (0, 0)⟩, askW (hdW L)⟩, ⟨false, ⟨ty2, fz2⟩, [.rowp 4 L.length (akF L), .rest us2]⟩]
def hdcV' {J : Int} (y : HdC J) : List V := hdcV y.m y.m.L y.j y.c' y.c2 y.x y.x2 (cdW y.m.L) y.k
def hdcB' {J : Int} (y : HdC J) : List VB := hdcB ty pre post n fs y.m.L y.wr y.ty' y.fz y.g y.us y.ty2 y.fz2 y.us2
def hdcLp (J : Int) : Lp QL := mkLp (X := HdC J) (fun y => y.m.L.length - y.k) 142 5 [4, 7, 8, 9, 10, 11, 12] hdcV' (hdcB' ty pre post n fs) (fun y => [.qu y.m]) (fun _ => rfl) (fun _ => by kernel_rfl) (fun _ => rfl)
def hdL : Nat → List V → Option (Lp QL) := fun i fr => match i with
  | 0 => some (hdaLp ty pre post n o c a fs)
  | 2 => some (hdbLp ty pre post n fs)
  | 4 => (match nth fr 7 with
    | .int .i64 J => some (hdcLp ty pre post n fs J)
    | _ => none)
  | _ => none
noncomputable abbrev Chd : Ctx QL := mkHL Try.prog gN0 LLw (cpyA Try.prog jnk) cpyA_ok (hdL ty pre post n o c a fs)
def hdFr (l : V) : List V := put (put (put ([l] ++ repU 141) (some 2) (.bool false)) (some 17) (.bool true)) (some 3) (.bool true)
end
end Go.Proofs.Ytciiaficfmbimaa
noncomputable section
namespace Go.Proofs.Ytciiaficfmbimaa
open Go Go.RowKit Go.BigFrame Sx Vx
set_option maxRecDepth 100000
def or0 (b : Bool) : Bool := bif false then true else b
def askB (x : Sd.Wt) : VB := ⟨true, ⟨32, (0, 0)⟩, askW x⟩
section
variable (ty : BT) (pre post : List Value) (n o c : Nat) (a : Option Addr) (fs : Nat → Sd.Wt) (P : V → Prop)
def hdEn (z : HdB) {J : Int} (u : HdC J) (m5 : QM) : Prop := true = true ∧ enD (fun y : HdB => 21 - y.j) (fun y => hdbV y.m y.j) (fun _ => hdaB ty pre post n fs) (fun y => [QL.qu y.m]) z (hdbV u.m (wI ((u.j : Int) + 1))) (hdaB ty pre post n fs) [.qu m5]
def hdLeft (z : HdB) {J : Int} (u : HdC J) (bl : List VB) (m4 : QM) : Prop := lstQ u.m m4 bl fun m5 wr5 ty5 fz5 c5 x5 us5 =>
  let L := u.m.L
  let fin := cond ((L.length : Int) == 0) (cond (or0 (an ((m4.L.length : Int) != 0))) (P (.bool false)) (hdEn ty pre post n fs z u m5)) (hdEn ty pre post n fs z u m5)
  cond (decide ((L.length : Int) > 0)) ((0 < L.length ∧ 1 ≤ L.length ∧ L.length ≤ u.c2) ∧ (∃ (a : Sd.Wt) (A : List Sd.Wt), akF m4.L = akF A ∧ akF L = akF (a :: A) ∧ m4.L.length = m4.L.length ∧ L.length = L.length - 1 + 1 ∧ m4.L.length = L.length - 1 ∧ m4.L.length ≤ 100 ∧ (0 < m4.L.length → (bif Nat.beq u.c2 1 then 0 else 1 * 4) = 4)) ∧ fin) fin
def hdRest (z : HdB) {J : Int} (u : HdC J) : Prop := lstQ u.m u.m (hdcB' ty pre post n fs u) fun m3 wr3 ty3 fz3 c3 x3 us3 =>
  let L := u.m.L
  (∃ A : List Sd.Wt, akF L = akF A ∧ akF L = akF A ∧ L.length = L.length ∧ L.length = L.length ∧ L.length = L.length ∧ L.length ≤ 100) ∧ popQ u.m m3 fun m4 =>
    let bl := hdcB' ty pre post n fs u ++ [rwB wr3 ty3 fz3 L us3] ++ [askB (hdW m3.L)]
    let left := hdLeft ty pre post n fs P z u bl m4
    let code2 := cond (cdW L != 0) (cond (or0 (an (cdW L != 2))) (P (.bool false)) left) left
    cond (or0 (!eqA (hdW L) (hdW m3.L))) (P (.bool false)) (cond (or0 (cdW L != cdW m3.L)) (P (.bool false)) (cond (or0 ((cdW L == 0) != decide ((L.length : Int) > 0))) (P (.bool false))
      (cond (cdW L == 0) ((0 ≤ (0 : Int) ∧ (0 : Int) < (L.length : Int)) ∧ ((0 : Int).toNat < L.length ∧ ∀ j, (akF L j).length = 4) ∧ cond (or0 (an (!eqA (hdW L) L.toArray[(0 : Int).toNat]!))) (P (.bool false)) code2) code2)))
def hdRound (z : HdB) : Prop := lstQ z.m z.m (hdaB ty pre post n fs) fun m1 wr ty' fz c' x us => headQ z.m m1 fun m2 => ∀ a : Addr,
  (z.m.L.length = z.m.L.length ∧ z.m.L.length ≤ 1000000 ∧ (∀ j, (akF z.m.L j).length = 4) ∧ (∀ (j : Nat) (u : Value), u ∈ akF z.m.L j → u.oneCell' = true) ∧ jnk.wr = false ∧ ∃ k : Nat, (hdaB ty pre post n fs ++ [rwB wr ty' fz z.m.L us] ++ [askB (hdW m1.L)])[k]? = some jnk) ∧
  ∀ (ty2 : TypeId) (fz2 : Nat × Nat) (c2 : Nat) (x2 : Option Addr) (us2 : List Value), z.m.L.length ≤ c2 →
    (true = true ∧ enD0 (hdcV' (J := z.j)) (hdcB' ty pre post n fs) (fun y => [QL.qu y.m]) (hdcV z.m z.m.L z.j c' c2 x x2 (cdW m1.L) 0) [inB ty pre n fs post, jnk, rwB wr ty' fz z.m.L us, askB (hdW m1.L), ⟨false, ⟨ty2, fz2⟩, [.rowp 4 z.m.L.length (akF z.m.L), .rest us2]⟩] [.qu m2]) ∧
    ∀ (u : HdC z.j) (g : Nat → Value), cond (decide ((u.k : Int) < (u.m.L.length : Int)))
      (idx u.k u.m.L.length ∧ ((u.wr = true ∧ u.fz = (0, 0)) ∧ (u.k : Int).toNat < u.m.L.length ∧ ∀ i, (u.g i).length = 4) ∧
        true = true ∧ enD (fun y : HdC z.j => y.m.L.length - y.k) (hdcV' (J := z.j)) (hdcB' ty pre post n fs) (fun y => [QL.qu y.m]) u (hdcV u.m u.m.L u.j u.c' u.c2 u.x u.x2 (cdW u.m.L) (wI ((u.k : Int) + 1)))
          (hdcB ty pre post n fs u.m.L u.wr u.ty' u.fz (Vx.upG u.g (u.k : Int).toNat (denC [] [.int .i64 (-9), .int .i64 0, .int .i64 0, .int .i64 0])) u.us u.ty2 u.fz2 u.us2) [.qu u.m])
      (hdRest ty pre post n fs P z u)
def hdTail (y : HdA n) : Prop := (true = true ∧ enD0 (fun y : HdB => hdbV y.m y.j) (fun _ => hdaB ty pre post n fs) (fun y => [QL.qu y.m]) (hdbV y.m 0) (hdaB ty pre post n fs) [.qu y.m]) ∧
  ∀ (z : HdB) (g : Nat → Value), cond (decide ((z.j : Int) < 21)) (hdRound ty pre post n fs P z) (P (.bool true))
def hdBody (y : HdA n) : Prop :=
  let x := fs (y.j : Int).toNat
  idx y.j n ∧ (o = pre.length ∧ (y.j : Int).toNat < n ∧ ∀ i, (akI fs i).length = 4) ∧ pushQ y.m y.m x.src x.rank x.at_ x.most fun m' =>
    true = true ∧ enD (fun y : HdA n => 20 - y.j) (fun y => hdaV n o c a y.m y.j) (fun _ => hdaB ty pre post n fs) (fun y => [QL.qu y.m]) y (hdaV n o c a y.m (wI ((y.j : Int) + 1))) (hdaB ty pre post n fs) [.qu m']
def hdXX : Prop := ((1 : Int) ≤ 20 ∧ (20 : Int) ≤ 64) ∧ ∀ m0 : QM, m0.most = 20 → m0.came = 0 → m0.L = [] →
  (true = true ∧ enD0 (fun y : HdA n => hdaV n o c a y.m y.j) (fun _ => hdaB ty pre post n fs) (fun y => [QL.qu y.m]) (hdaV n o c a m0 0) (hdaB ty pre post n fs) [.qu m0]) ∧
  ∀ (y : HdA n) (g : Nat → Value), cond (decide ((y.j : Int) < (n : Int))) (cond (an (decide ((y.j : Int) < 20))) (hdBody ty pre post n o c a fs y) (hdTail ty pre post n fs P y)) (hdTail ty pre post n fs P y)
theorem hd_vc : vcC (Chd ty pre post n o c a fs) 60 (cC 4) (hdFr (.osl 0 o n c a)) [inB ty pre n fs post, jnk] [] (retK Try.prog (fnL 4) fun v _ _ => P v) = hdXX ty pre post n o c a fs P := by kernel_rfl
end
end Go.Proofs.Ytciiaficfmbimaa
noncomputable section
namespace Go.Proofs.Ytciiaficfmbimaa
open Go Go.RowKit Go.BigFrame Sx Vx
set_option maxRecDepth 100000
theorem cd_len (L : List Sd.Wt) : ((cdW L == 0) != decide ((L.length : Int) > 0)) = false := by
  cases L with
  | nil => rfl
  | cons x l => have h : ((x :: l).length : Int) > 0 := by simp
                rw [decide_eq_true h]; rfl
theorem cd_none (L : List Sd.Wt) (h : (cdW L != 0) = true) : (cdW L != 2) = false := by
  cases L with
  | nil => rfl
  | cons x l => cases h
theorem cd_some (L : List Sd.Wt) (h : (cdW L == 0) = true) : 0 < L.length ∧ L.toArray[0]! = hdW L := by
  cases L with
  | nil => cases h
  | cons x l => exact ⟨by simp, by simp [hdW]⟩
theorem ak_one (L : List Sd.Wt) (j : Nat) (u : Value) (hu : u ∈ akF L j) : u.oneCell' = true := by
  unfold akF akG at hu
  simp only [List.mem_cons, List.not_mem_nil, or_false] at hu
  rcases hu with rfl | rfl | rfl | rfl <;> rfl
section
variable {ty : BT} {pre post : List Value} {n o c : Nat} {a : Option Addr} {fs : Nat → Sd.Wt}
theorem hdEn_ok {z : HdB} {u : HdC z.j} {m5 : QM} (hz : z.j < 21) (hq : m5.q = u.m.q) : hdEn ty pre post n fs z u m5 := by
  refine ⟨rfl, ⟨z.j + 1, hz, m5⟩, by show 21 - (z.j + 1) < 21 - z.j; omega, ?_, rfl, rfl⟩
  show hdbV u.m (wI ((u.j : Int) + 1)) = hdbV m5 ((z.j + 1 : Nat) : Int)
  rw [u.hJ, wrapW (by omega)]
  unfold hdbV
  rw [QM.v_eq hq]
  rfl
theorem hdLeft_ok {z : HdB} {u : HdC z.j} {bl : List VB} {m4 : QM} (hz : z.j < 21) (hb : bl[1]? = some jnk) (hL : m4.L = u.m.L.tail) (hq : m4.q = u.m.q) : hdLeft ty pre post n fs okP z u bl m4 := by
  refine lstQ_ok hq 1 hb fun m5 wr5 ty5 fz5 c5 x5 us5 h1 h2 h3 h4 h5 h6 => ?_
  dsimp only
  have en := hdEn_ok (ty := ty) (pre := pre) (post := post) (n := n) (fs := fs) (u := u) hz h3
  have h64 := len64 u.m
  have h64' := len64 m4
  refine cnd (fun h => ?_) fun h => ?_
  · have hl : 0 < u.m.L.length := by
      have := of_decide_eq_true h
      omega
    obtain ⟨x, A, hxA⟩ : ∃ x A, u.m.L = x :: A := by
      cases hc : u.m.L with
      | nil => rw [hc] at hl; simp at hl
      | cons x A => exact ⟨x, A, rfl⟩
    have hA : m4.L = A := by rw [hL, hxA]; rfl
    have hl4 : m4.L.length = u.m.L.length - 1 := by rw [hA, hxA]; simp
    refine ⟨⟨hl, hl, u.hle⟩, ⟨x, A, by rw [hA], by rw [hxA], rfl, by omega, hl4, by omega, fun h0 => ?_⟩, cnd (fun h2 => ?_) fun _ => en⟩
    · have hle := u.hle
      have : Nat.beq u.c2 1 = false := by
        cases hb : Nat.beq u.c2 1 with
        | false => rfl
        | true => have := Nat.eq_of_beq_eq_true hb; omega
      rw [this]
      rfl
    · have h2 := eq_of_beq h2
      omega
  · have hl : u.m.L.length = 0 := by
      have := of_decide_eq_false h
      omega
    have hl4 : m4.L.length = 0 := by rw [hL, List.length_tail, hl]
    refine cnd (fun _ => cnd (fun h2 => ?_) fun _ => en) fun _ => en
    rw [hl4] at h2
    cases h2
theorem hdRest_ok {z : HdB} {u : HdC z.j} (hz : z.j < 21) : hdRest ty pre post n fs okP z u := by
  have h64 := len64 u.m
  refine lstQ_ok rfl 1 rfl fun m3 wr3 ty3 fz3 c3 x3 us3 h1 h2 h3 h4 h5 h6 => ⟨⟨u.m.L, rfl, rfl, rfl, rfl, rfl, by omega⟩, popQ_ok h3 fun m4 b1 b2 b3 b4 => ?_⟩
  dsimp only
  have left := hdLeft_ok (ty := ty) (pre := pre) (post := post) (n := n) (fs := fs) (u := u) (bl := hdcB' ty pre post n fs u ++ [rwB wr3 ty3 fz3 u.m.L us3] ++ [askB (hdW m3.L)]) hz rfl (by rw [b1, h1]) b3
  have code2 : cond (cdW u.m.L != 0) (cond (or0 (an (cdW u.m.L != 2))) (okP (.bool false)) (hdLeft ty pre post n fs okP z u (hdcB' ty pre post n fs u ++ [rwB wr3 ty3 fz3 u.m.L us3] ++ [askB (hdW m3.L)]) m4)) (hdLeft ty pre post n fs okP z u (hdcB' ty pre post n fs u ++ [rwB wr3 ty3 fz3 u.m.L us3] ++ [askB (hdW m3.L)]) m4) := by
    refine cnd (fun h => cnd (fun h7 => ?_) fun _ => left) fun _ => left
    have h8 : (cdW u.m.L != 2) = true := h7
    rw [cd_none _ h] at h8
    cases h8
  refine cnd (fun h => ?_) fun _ => cnd (fun h => ?_) fun _ => cnd (fun h => ?_) fun _ => cnd (fun h => ?_) fun _ => code2
  · have h : (!eqA (hdW u.m.L) (hdW m3.L)) = true := h
    rw [h1, eqA_self] at h
    cases h
  · have h : (cdW u.m.L != cdW m3.L) = true := h
    rw [h1] at h
    simp at h
  · have h : ((cdW u.m.L == 0) != decide ((u.m.L.length : Int) > 0)) = true := h
    rw [cd_len] at h
    cases h
  · obtain ⟨g1, g2⟩ := cd_some _ h
    refine ⟨⟨Int.le_refl _, by omega⟩, ⟨by simpa using g1, fun _ => rfl⟩, cnd (fun h7 => ?_) fun _ => code2⟩
    have h8 : (!eqA (hdW u.m.L) u.m.L.toArray[0]!) = true := h7
    rw [g2, eqA_self] at h8
    cases h8
theorem hdRound_ok {z : HdB} (hz : z.j < 21) : hdRound ty pre post n fs okP z := by
  have h64 := len64 z.m
  refine lstQ_ok rfl 1 rfl fun m1 wr ty' fz c' x us h1 h2 h3 h4 h5 h6 => headQ_ok h3 fun m2 g1 g2 g3 g4 aa => ⟨⟨rfl, by omega, fun _ => rfl, ak_one _, rfl, 1, rfl⟩, fun ty2 fz2 c2 x2 us2 hle => ⟨⟨rfl, ?_⟩, fun u g => cnd (fun h => ?_) fun h => hdRest_ok hz⟩⟩
  · have e : m2.L = z.m.L := g1.trans h1
    refine ⟨⟨z.j, rfl, m2, 0, Nat.zero_le _, akF z.m.L, fun _ => rfl, wr, ty', fz, c', x, us, by rw [e]; exact h5, ty2, fz2, c2, x2, us2, by rw [e]; exact hle⟩, ?_, ?_, rfl⟩
    · show hdcV z.m z.m.L z.j c' c2 x x2 (cdW m1.L) 0 = hdcV m2 m2.L z.j c' c2 x x2 (cdW m2.L) ((0 : Nat) : Int)
      rw [e, h1]
      unfold hdcV
      rw [QM.v_eq g3]
      rfl
    · show _ = hdcB ty pre post n fs m2.L wr ty' fz (akF z.m.L) us ty2 fz2 us2
      rw [e, h1]
      rfl
  · have hk : u.k < u.m.L.length := Int.ofNat_lt.1 (of_decide_eq_true h)
    have hu64 := len64 u.m
    refine ⟨idx_ok hk, ⟨u.hw (by omega), by simpa using hk, u.hg⟩, rfl, { u with k := u.k + 1, hk := hk, g := Vx.upG u.g u.k (denC [] [.int .i64 (-9), .int .i64 0, .int .i64 0, .int .i64 0]), hg := fun i => ?_ }, by show u.m.L.length - (u.k + 1) < u.m.L.length - u.k; omega, ?_, rfl, rfl⟩
    · unfold Vx.upG
      cases Nat.beq i u.k with
      | true => rfl
      | false => exact u.hg i
    · rw [wrapW (by omega)]
      rfl
theorem hdTail_ok (y : HdA n) : hdTail ty pre post n fs okP y :=
  ⟨⟨rfl, ⟨0, Nat.zero_le _, y.m⟩, rfl, rfl, rfl⟩, fun z g => cnd (fun h => hdRound_ok (by have := of_decide_eq_true h; omega)) fun _ => rfl⟩
theorem hdXX_ok (ho : ∀ j, j < n → o = pre.length) : hdXX ty pre post n o c a fs okP := by
  refine ⟨⟨by decide, by decide⟩, fun m0 a1 a2 a3 => ⟨⟨rfl, ⟨0, Nat.zero_le _, Nat.zero_le _, m0, by omega⟩, rfl, rfl, rfl⟩, fun y g => cnd (fun h => cnd (fun h2 => ?_) fun h2 => hdTail_ok y) fun h => hdTail_ok y⟩⟩
  have hj : y.j < n := Int.ofNat_lt.1 (of_decide_eq_true h)
  have hj2 : y.j < 20 := by
    have h2 : decide ((y.j : Int) < 20) = true := h2
    have := of_decide_eq_true h2
    omega
  have hc := y.hc
  refine ⟨idx_ok hj, ⟨ho _ hj, by simpa using hj, fun _ => rfl⟩, pushQ_ok rfl (by omega) fun m' b1 b2 b3 b4 => ⟨rfl, ⟨y.j + 1, hj, hj2, m', ?_⟩, by show 20 - (y.j + 1) < 20 - y.j; omega, ?_, rfl, rfl⟩⟩
  · rw [b2]
    have : ∀ b : Bool, (bif b then (1 : Int) else 0) ≤ 1 := fun b => by cases b <;> decide
    have := this (qE y.m (fs (y.j : Int).toNat).src (fs (y.j : Int).toNat).rank (fs (y.j : Int).toNat).at_ (fs (y.j : Int).toNat).most == 0)
    omega
  · show hdaV n o c a y.m _ = hdaV n o c a m' ((y.j + 1 : Nat) : Int)
    rw [wrapW (by omega)]
    unfold hdaV
    rw [QM.v_eq b3]
    rfl
end
theorem heads_so {W : World} {v : Value} {fs : Nat → Sd.Wt} {i o n c : Nat} {a : Option Addr} {ty : BT} {pre post : List Value} (h : AskIn W v fs i o n c a ty pre post) :
    Gives Try.prog 4 #[v] W fun v w' => v = .bool true ∧ Ch [] W w' := by
  have e : #[v] = (denM [i] [.osl 0 o n c a]).toArray := by rw [h.v]; rfl
  rw [e]
  exact law_run (C := Chd ty pre post n o c a fs) (n := 60) rfl (AllOk.T LLw_ok) (AllOk.Q LLw_ok) rfl (by kernel_rfl) (by kernel_rfl) (bl0 := [inB ty pre n fs post]) rfl (in_st h)
    (fr1 := put ([.osl 0 o n c a] ++ repU 141) (some 2) (.bool false)) (fr2 := hdFr (.osl 0 o n c a)) (fun K => by kernel_rfl) (fun K => by kernel_rfl) (bl3 := [inB ty pre n fs post, jnk]) (fr3 := hdFr (.osl 0 o n c a)) (fun ids w' hl S => ⟨ids, hl, rfl, S⟩)
    (by have := hd_vc ty pre post n o c a fs okP; rw [show (fun v _ _ => v = .bool true : VK QL) = fun v _ _ => okP v from rfl, this]; exact hdXX_ok h.po)
theorem heads_nil (W : World) : Gives Try.prog 4 #[.slice none 0 0] W fun v w' => v = .bool true ∧ Ch [] W w' := by
  have e : #[.slice none 0 0] = (denM [] [.raw (.slice none 0 0)]).toArray := rfl
  rw [e]
  refine law_run (C := Chd ⟨30, (0, 0)⟩ [] [.int .i64 0, .int .i64 9] 0 0 0 none (fun _ => ⟨0, 0, 0, 0, 0⟩)) (n := 60) rfl (AllOk.T LLw_ok) (AllOk.Q LLw_ok) rfl (by kernel_rfl) (by kernel_rfl) (bl0 := []) (ids0 := []) rfl (St.nil [] W)
    (fr1 := put ([.raw (.slice none 0 0)] ++ repU 141) (some 2) (.bool false)) (fr2 := hdFr (.raw (.slice none 0 0))) (fun K => by kernel_rfl) (fun K => by kernel_rfl) (bl3 := [nlB, jnk]) (fr3 := hdFr (.osl 0 0 0 0 none)) (fun ids w' hl S => ?_)
    (by have := hd_vc ⟨30, (0, 0)⟩ [] [.int .i64 0, .int .i64 9] 0 0 0 none (fun _ => ⟨0, 0, 0, 0, 0⟩) okP; rw [show (fun v _ _ => v = .bool true : VK QL) = fun v _ _ => okP v from rfl]; exact this ▸ hdXX_ok (fun j hj => absurd hj (by omega)))
  match ids, hl with
  | [k], _ => exact ⟨[k, k], rfl, rfl, nl_st S⟩
end Go.Proofs.Ytciiaficfmbimaa
namespace Go.Proofs.Ytciiaficfmbimaa.queueHeads
open Go.ChangeShapes Go.WideShapes Go.ChangeAt Go.RowKit Go.Joins Sd
set_option maxRecDepth 100000
theorem opened (H : Type) (enc : TypeId × Value → H) (W : World) (args : Array Value) (ds gs : List (DataW H)) (before : List MemPlace)
    (hval : ∀ (j : Nat) t v, Try.f4.params[j]? = some t → args[j]? = some v → Value.okWide Try.prog W .any 0 t v)
    (hW : DataW.Whole enc Try.prog Try.f4.params.toList Rows.queueHeadsSpec.vars false W args.toList ds gs before) :
    Rows.queueHeadsSpec.fn H (ds ++ gs) = { results := [.lit (.bool true)], args := ds, vars := [] } ∧ Calls Try.prog 4 args W fun e W' => e = .returned (.bool true) ∧ Below W.heap.size W W' := by
  obtain ⟨p, q, hA, hV, rfl, hfz, hnd⟩ := hW
  rw [Try.params4] at hA hval
  obtain ⟨v0, d0, rfl, rfl, ht⟩ := trodAll_one hA
  obtain ⟨rfl, rfl⟩ := trodVars_none hV
  have hcell := okWide_cell Try.underlying22 rfl (hval 0 22 v0 rfl rfl)
  have hrd : ∀ k, Sx.Rd Try.prog W k 22 [v0] := fun k => by
    obtain ⟨fuel, h2⟩ := ht
    obtain ⟨a, m, c, rfl, _, _⟩ := cell_slice Try.underlying22 hcell
    exact Sx.rd_of_trod k h2
  rcases open_asks hcell hrd with rfl | ⟨fs, i, o, n, c, a, ty, pre, post, h⟩
  · exact ⟨rfl, Sx.gives_law (heads_nil W)⟩
  · exact ⟨rfl, Sx.gives_law (heads_so h)⟩
set_option maxRecDepth 100000 in
theorem lifted (os : Os) (started : os.Started) (H : Type) (enc : TypeId × Value → H) :
    ReturnsInHanded {} Try.checked os 4 .any (Rows.queueHeadsSpec.pre6 enc Try.prog Try.f4 Rows.queueHeadsRow.domain false) (Rows.queueHeadsSpec.post enc Try.prog Try.f4 false true false false) := by
  refine returnsInHanded_of_change (C := Try.checked) (by kernel_rfl) started (by kernel_rfl) Try.func4
    (ChangeSpec.witness6 (enc := enc) (C := Try.checked) false ⟨#[], #[.slice none 0 0], []⟩ 8 (by kernel_rfl) (by kernel_rfl) (by kernel_rfl) (by kernel_rfl)) ?_
  intro W base args ds gs before hval hW hcnd _
  obtain ⟨hs, hc⟩ := opened H enc W args ds gs before hval hW
  refine hc.mono fun e W' ⟨he, hb⟩ => ⟨_, he, ?_⟩
  exact law_post (by kernel_rfl) (by kernel_rfl) rfl (by kernel_rfl) Try.underlying4 hs hW hb
theorem proved : Rows.QueueHeadsSaid :=
  OpenClaim.holds_of_wide 4 Try.f4 rfl rfl rfl rfl rfl rfl rfl ⟨rfl, rfl, rfl, rfl, rfl⟩ rfl rfl rfl rfl rfl (by kernel_rfl) Try.func4 (by kernel_rfl)
    (of_decide_eq_true (by kernel_rfl)) (by unfold Func.isWrapper; first | (rw [if_pos (by decide +kernel)]; kernel_rfl) | (rw [if_neg (by decide +kernel)]; exact ⟨rfl, rfl⟩))
    (fun os started H enc _ => lifted os started H enc)
#print axioms proved
end Go.Proofs.Ytciiaficfmbimaa.queueHeads
