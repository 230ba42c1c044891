/- the reference of package policy: what Check tells of any policy -/
import Derived.Test.YtbjanfgipcniiaaGreatDoorRows
import Derived.Test.YtbjanfgipcniiaaGreatDoorSQE
import Derived.Test.YtbjanfgipcniiaaGreatDoorXPol
namespace Go.Proofs.YtbjanfgipcniiaaGreatDoor
open Go Go.RowKit Go.BigFrame Sx
set_option linter.unusedVariables false
set_option linter.unusedSimpArgs false

theorem ord_iff (q : Nat → Int) : ordB q = true ↔ q 0 = 0 ∧ q 4 = 4 ∧ ((1 = q 1 ∨ 1 = q 2 ∨ 1 = q 3) ∧ (2 = q 1 ∨ 2 = q 2 ∨ 2 = q 3) ∧ (3 = q 1 ∨ 3 = q 2 ∨ 3 = q 3)) := by
  simp [ordB, isIn]
def polCode2 (q : Nat → Int) (kn : Nat → Nat) : Int :=
  if ordB q = false then 40 else if (keys3 kn && keyB (kn 3)) = false then 41 else if (q 9 == 1 && (q 13 == 0 && roles3 q)) = false then 42
  else if tab5 q = false then 43 else if allI 0 31 [q 34, q 35, q 36, q 37, q 38] = false then 44
  else if (inB 0 4 (q 39) && inB 0 4 (q 40) && inB 0 4 (q 41)) = false then 45 else if (inB 1 1000 (q 42) && inB 1 1000 (q 43) && inB 1 1000 (q 44) && inB 1 1000 (q 45)) = false then 46
  else if (inB 1 1000 (q 46) && inB 0 1000 (q 47)) = false then 47 else if (inB 1 3 (q 48) && inB 1 3 (q 49)) = false then 48
  else if (q 50 == 0 && (allI 0 1000 [q 51, q 52, q 53] && inB 1 1000 (q 54))) = false then 49 else if inB 0 65535 (q 55) = false then 50 else 0
theorem polCode2_eq (q : Nat → Int) (kn : Nat → Nat) : polCode q kn = polCode2 q kn := by
  have h1 : allI 0 4 [q 39, q 40, q 41] = (inB 0 4 (q 39) && inB 0 4 (q 40) && inB 0 4 (q 41)) := by simp [allI, Bool.and_assoc]
  have h2 : allI 1 1000 [q 42, q 43, q 44, q 45] = (inB 1 1000 (q 42) && inB 1 1000 (q 43) && inB 1 1000 (q 44) && inB 1 1000 (q 45)) := by simp [allI, Bool.and_assoc]
  have h3 : allI 1 3 [q 48, q 49] = (inB 1 3 (q 48) && inB 1 3 (q 49)) := by simp [allI]
  unfold polCode polCode2
  rw [h1, h2, h3]
theorem keyB_in (n : Nat) : keyB n = inB 1 64 (n : Int) := rfl

set_option maxRecDepth 100000 in
set_option maxHeartbeats 4000000 in
theorem in_any (n lo hi : Int) (w : World) :
    Gives Tryz.prog 76 #[ι n, ι lo, ι hi] w fun v w1 => v = .bool (inB lo hi n) ∧ Ch [] w w1 := by
 have S0 := St.nil [] w
 refine enter_ Tryz.func76 rfl (seq_ (reg_ (pure_ (φ) (nil_ (then_n (seq_ ?_))))))
 refine textL_ 9 [⟨0, fun _ => ι n, fun _ => []⟩, ⟨0, fun _ => ι lo, fun _ => []⟩, ⟨0, fun _ => .bool (decide (lo ≤ n)), fun _ => []⟩, ⟨0, fun _ => .bool (decide (lo ≤ n)), fun _ => []⟩, ⟨0, fun _ => (bif (decide (lo ≤ n)) then (ι n) else undef), fun _ => []⟩, ⟨0, fun _ => (bif (decide (lo ≤ n)) then (ι hi) else undef), fun _ => []⟩, ⟨0, fun _ => (bif (decide (lo ≤ n)) then (.bool (decide (n ≤ hi))) else undef), fun _ => []⟩, ⟨0, fun _ => .bool ((decide (lo ≤ n)) && (decide (n ≤ hi))), fun _ => []⟩, ⟨0, fun _ => .bool ((decide (lo ≤ n)) && (decide (n ≤ hi))), fun _ => []⟩] [] ?_ ?_
 · refine step_cons ?_ ?_
   · intro zy1 zw2 zhc3 zhf4 zhp5
     have zh6 : zy1 0 = ι n := (zhf4 0 (by kernel_rfl)).trans (by kernel_rfl)
     have zS7 := S0.quiet zhc3
     refine step1 ?_
     refine yenv [(0, ι n)] (ag_cons zh6 (ag_nil)) ?_
     have zS8 := zS7.loc
     refine Y.pure_ (ι n) ?_
     exact ⟨zS8.ch, Sp.mk_holds [] (all_nil)⟩
   refine step_cons ?_ ?_
   · intro zy9 zw10 zhc11 zhf12 zhp13
     have zh14 : zy9 1 = ι lo := (zhf12 1 (by kernel_rfl)).trans (by kernel_rfl)
     have zS15 := S0.quiet zhc11
     refine step1 ?_
     refine yenv [(1, ι lo)] (ag_cons zh14 (ag_nil)) ?_
     have zS16 := zS15.loc
     refine Y.pure_ (ι lo) ?_
     exact ⟨zS16.ch, Sp.mk_holds [] (all_nil)⟩
   refine step_cons ?_ ?_
   · intro zy17 zw18 zhc19 zhf20 zhp21
     have zh22 : zy17 7 = ι n := (Sp.out0 (zhp21 0 7 (by kernel_rfl) (by kernel_rfl))).1
     have zh23 : zy17 8 = ι lo := (Sp.out0 (zhp21 1 8 (by kernel_rfl) (by kernel_rfl))).1
     have zS24 := S0.quiet zhc19
     refine step1 ?_
     refine yenv [(7, ι n), (8, ι lo)] (ag_cons zh22 (ag_cons zh23 (ag_nil))) ?_
     have zS25 := zS24.loc
     refine Y.pure_ (.bool (decide (lo ≤ n))) ?_
     exact ⟨zS25.ch, Sp.mk_holds [] (all_nil)⟩
   refine step_cons ?_ ?_
   · intro zy26 zw27 zhc28 zhf29 zhp30
     have zh31 : zy26 9 = .bool (decide (lo ≤ n)) := (Sp.out0 (zhp30 2 9 (by kernel_rfl) (by kernel_rfl))).1
     have zS32 := S0.quiet zhc28
     refine step1 ?_
     refine yenv [(9, .bool (decide (lo ≤ n)))] (ag_cons zh31 (ag_nil)) ?_
     have zS33 := zS32.loc
     refine Y.pure_ (.bool (decide (lo ≤ n))) ?_
     exact ⟨zS33.ch, Sp.mk_holds [] (all_nil)⟩
   refine step_cons ?_ ?_
   · intro zy34 zw35 zhc36 zhf37 zhp38
     have zh39 : zy34 0 = ι n := (zhf37 0 (by kernel_rfl)).trans (by kernel_rfl)
     have zh40 : zy34 10 = .bool (decide (lo ≤ n)) := (Sp.out0 (zhp38 3 10 (by kernel_rfl) (by kernel_rfl))).1
     have zS41 := S0.quiet zhc36
     refine step_if (decide (lo ≤ n)) zh40 ?_ ?_
     · intro zh42
       have zh43 := leT' zh42
       refine yenv [(0, ι n)] (ag_cons zh39 (ag_nil)) ?_
       have zS44 := zS41.loc
       refine Y.pure_ (ι n) ?_
       exact ⟨zS44.ch, Sp.mk_holds [] all_nil (h2 := (bif_t zh42).symm)⟩
     intro zh42
     exact Sp.mk_holds [] all_nil (h2 := (bif_f zh42).symm)
   refine step_cons ?_ ?_
   · intro zy45 zw46 zhc47 zhf48 zhp49
     have zh50 : zy45 2 = ι hi := (zhf48 2 (by kernel_rfl)).trans (by kernel_rfl)
     have zh51 : zy45 10 = .bool (decide (lo ≤ n)) := (Sp.out0 (zhp49 3 10 (by kernel_rfl) (by kernel_rfl))).1
     have zS52 := S0.quiet zhc47
     refine step_if (decide (lo ≤ n)) zh51 ?_ ?_
     · intro zh53
       have zh54 := leT' zh53
       refine yenv [(2, ι hi)] (ag_cons zh50 (ag_nil)) ?_
       have zS55 := zS52.loc
       refine Y.pure_ (ι hi) ?_
       exact ⟨zS55.ch, Sp.mk_holds [] all_nil (h2 := (bif_t zh53).symm)⟩
     intro zh53
     exact Sp.mk_holds [] all_nil (h2 := (bif_f zh53).symm)
   refine step_cons ?_ ?_
   · intro zy56 zw57 zhc58 zhf59 zhp60
     have zh61 : zy56 11 = (bif (decide (lo ≤ n)) then (ι n) else undef) := (Sp.out0 (zhp60 4 11 (by kernel_rfl) (by kernel_rfl))).1
     have zh62 : zy56 12 = (bif (decide (lo ≤ n)) then (ι hi) else undef) := (Sp.out0 (zhp60 5 12 (by kernel_rfl) (by kernel_rfl))).1
     have zh63 : zy56 10 = .bool (decide (lo ≤ n)) := (Sp.out0 (zhp60 3 10 (by kernel_rfl) (by kernel_rfl))).1
     have zS64 := S0.quiet zhc58
     refine step_if (decide (lo ≤ n)) zh63 ?_ ?_
     · intro zh65
       have zh66 := leT' zh65
       have zh67 : zy56 11 = ι n := zh61.trans (bif_t zh65)
       have zh68 : zy56 12 = ι hi := zh62.trans (bif_t zh65)
       refine yenv [(11, ι n), (12, ι hi)] (ag_cons zh67 (ag_cons zh68 (ag_nil))) ?_
       have zS69 := zS64.loc
       refine Y.pure_ (.bool (decide (n ≤ hi))) ?_
       exact ⟨zS69.ch, Sp.mk_holds [] all_nil (h2 := (bif_t zh65).symm)⟩
     intro zh65
     exact Sp.mk_holds [] all_nil (h2 := (bif_f zh65).symm)
   refine step_cons ?_ ?_
   · intro zy70 zw71 zhc72 zhf73 zhp74
     have zh75 : zy70 10 = .bool (decide (lo ≤ n)) := (Sp.out0 (zhp74 3 10 (by kernel_rfl) (by kernel_rfl))).1
     have zh76 : zy70 13 = (bif (decide (lo ≤ n)) then (.bool (decide (n ≤ hi))) else undef) := (Sp.out0 (zhp74 6 13 (by kernel_rfl) (by kernel_rfl))).1
     have zS77 := S0.quiet zhc72
     refine step1 ?_
     refine yenv [(10, .bool (decide (lo ≤ n))), (13, (bif (decide (lo ≤ n)) then (.bool (decide (n ≤ hi))) else undef))] (ag_cons zh75 (ag_cons zh76 (ag_nil))) ?_
     have zS78 := zS77.loc
     refine Y.pickB_ (decide (lo ≤ n)) ((decide (lo ≤ n)) && (decide (n ≤ hi))) ((bif (decide (lo ≤ n)) then (.bool (decide (n ≤ hi))) else undef)) (φ) (fun h => (bif_t h).trans (by rw [h]; rfl)) (fun h => (by rw [h]; rfl)) ?_
     exact ⟨zS78.ch, Sp.mk_holds [] (all_nil)⟩
   refine step_cons ?_ ?_
   · intro zy79 zw80 zhc81 zhf82 zhp83
     have zh84 : zy79 14 = .bool ((decide (lo ≤ n)) && (decide (n ≤ hi))) := (Sp.out0 (zhp83 7 14 (by kernel_rfl) (by kernel_rfl))).1
     have zS85 := S0.quiet zhc81
     refine step1 ?_
     refine yenv [(14, .bool ((decide (lo ≤ n)) && (decide (n ≤ hi))))] (ag_cons zh84 (ag_nil)) ?_
     have zS86 := zS85.loc
     refine Y.assign_ ?_
     exact ⟨zS86.ch, Sp.mk_holds [] (all_nil)⟩
   exact step_nil
 intro zv87 zw88 zhc89 zha90
 have zh91 : zv87 0 = ι n := (Sp.out0 (zha90 0 (by kernel_rfl))).1
 have zh92 : zv87 1 = ι lo := (Sp.out0 (zha90 1 (by kernel_rfl))).1
 have zh93 : zv87 2 = .bool (decide (lo ≤ n)) := (Sp.out0 (zha90 2 (by kernel_rfl))).1
 have zh94 : zv87 3 = .bool (decide (lo ≤ n)) := (Sp.out0 (zha90 3 (by kernel_rfl))).1
 have zh95 : zv87 4 = (bif (decide (lo ≤ n)) then (ι n) else undef) := (Sp.out0 (zha90 4 (by kernel_rfl))).1
 have zh96 : zv87 5 = (bif (decide (lo ≤ n)) then (ι hi) else undef) := (Sp.out0 (zha90 5 (by kernel_rfl))).1
 have zh97 : zv87 6 = (bif (decide (lo ≤ n)) then (.bool (decide (n ≤ hi))) else undef) := (Sp.out0 (zha90 6 (by kernel_rfl))).1
 have zh98 : zv87 7 = .bool ((decide (lo ≤ n)) && (decide (n ≤ hi))) := (Sp.out0 (zha90 7 (by kernel_rfl))).1
 have zh99 : zv87 8 = .bool ((decide (lo ≤ n)) && (decide (n ≤ hi))) := (Sp.out0 (zha90 8 (by kernel_rfl))).1
 have zS100 := S0.quiet zhc89
 refine ⟨[ι n, ι lo, .bool (decide (lo ≤ n)), .bool (decide (lo ≤ n)), (bif (decide (lo ≤ n)) then (ι n) else undef), (bif (decide (lo ≤ n)) then (ι hi) else undef), (bif (decide (lo ≤ n)) then (.bool (decide (n ≤ hi))) else undef), .bool ((decide (lo ≤ n)) && (decide (n ≤ hi))), .bool ((decide (lo ≤ n)) && (decide (n ≤ hi)))], by kernel_rfl, va_cons zh91 (va_cons zh92 (va_cons zh93 (va_cons zh94 (va_cons zh95 (va_cons zh96 (va_cons zh97 (va_cons zh98 (va_cons zh99 (va_nil))))))))), ?_⟩
 refine nil_ (then_n (wp_ret (ret_ rfl (res_ [.tmp 6] [.bool ((decide (lo ≤ n)) && (decide (n ≤ hi)))] (.bool ((decide (lo ≤ n)) && (decide (n ≤ hi)))) ⟨res_tmp, trivial⟩) ?_)))
 exact ⟨rfl, zS100.ch⟩

set_option maxRecDepth 100000 in
set_option maxHeartbeats 4000000 in
theorem order_r (q : Nat → Int) (ka : Nat → Option Addr) (kn kc : Nat → Nat) (w : World) :
    Gives Tryz.prog 71 #[.agg #[ι (q 0), ι (q 1), ι (q 2), ι (q 3), ι (q 4)]] w fun v w1 => v = .bool (ordB q) ∧ Ch [] w w1 := by
 have S0 := St.nil [] w
 refine enter_ Tryz.func71 rfl (seq_ (reg_ ?_))
 refine new_ S0 (fun b => π b 0) (.cells #[ι (q 0), ι (q 1), ι (q 2), ι (q 3), ι (q 4)] 22) ?_
 intro zb1 zw2 zS3
 refine pure_ (φ) (nil_ (then_n (seq_ (seq_ ?_))))
 refine textL_ 8 [⟨0, fun _ => π zb1 0, fun _ => []⟩, ⟨0, fun _ => ι (q 0), fun _ => []⟩, ⟨0, fun _ => .bool ((q 0) != 0), fun _ => []⟩, ⟨0, fun _ => .bool ((q 0) != 0), fun _ => []⟩, ⟨0, fun _ => (bif ((q 0) != 0) then undef else (π zb1 4)), fun _ => []⟩, ⟨0, fun _ => (bif ((q 0) != 0) then undef else (ι (q 4))), fun _ => []⟩, ⟨0, fun _ => (bif ((q 0) != 0) then undef else (.bool ((q 4) != 4))), fun _ => []⟩, ⟨0, fun _ => .bool (((q 0) != 0) || ((q 4) != 4)), fun _ => []⟩] [] ?_ ?_
 · refine step_cons ?_ ?_
   · intro zy4 zw5 zhc6 zhf7 zhp8
     have zh9 : zy4 1 = π zb1 0 := (zhf7 1 (by kernel_rfl)).trans (by kernel_rfl)
     have zS10 := zS3.quiet zhc6
     refine step1 ?_
     refine yenv [(1, π zb1 0)] (ag_cons zh9 (ag_nil)) ?_
     have zS11 := zS10.loc
     refine Y.pure_ (π zb1 0) ?_
     exact ⟨zS11.ch, Sp.mk_holds [] (all_nil)⟩
   refine step_cons ?_ ?_
   · intro zy12 zw13 zhc14 zhf15 zhp16
     have zh17 : zy12 5 = π zb1 0 := (Sp.out0 (zhp16 0 5 (by kernel_rfl) (by kernel_rfl))).1
     have zS18 := zS3.quiet zhc14
     refine step1 ?_
     refine yenv [(5, π zb1 0)] (ag_cons zh17 (ag_nil)) ?_
     have zS19 := zS18.loc
     refine Y.load1_ zS19 0 (ι (q 0)) zb1 0 ?_
     exact ⟨zS19.ch, Sp.mk_holds [] (all_nil)⟩
   refine step_cons ?_ ?_
   · intro zy20 zw21 zhc22 zhf23 zhp24
     have zh25 : zy20 6 = ι (q 0) := (Sp.out0 (zhp24 1 6 (by kernel_rfl) (by kernel_rfl))).1
     have zS26 := zS3.quiet zhc22
     refine step1 ?_
     refine yenv [(6, ι (q 0))] (ag_cons zh25 (ag_nil)) ?_
     have zS27 := zS26.loc
     refine Y.pure_ (.bool ((q 0) != 0)) ?_
     exact ⟨zS27.ch, Sp.mk_holds [] (all_nil)⟩
   refine step_cons ?_ ?_
   · intro zy28 zw29 zhc30 zhf31 zhp32
     have zh33 : zy28 7 = .bool ((q 0) != 0) := (Sp.out0 (zhp32 2 7 (by kernel_rfl) (by kernel_rfl))).1
     have zS34 := zS3.quiet zhc30
     refine step1 ?_
     refine yenv [(7, .bool ((q 0) != 0))] (ag_cons zh33 (ag_nil)) ?_
     have zS35 := zS34.loc
     refine Y.pure_ (.bool ((q 0) != 0)) ?_
     exact ⟨zS35.ch, Sp.mk_holds [] (all_nil)⟩
   refine step_cons ?_ ?_
   · intro zy36 zw37 zhc38 zhf39 zhp40
     have zh41 : zy36 1 = π zb1 0 := (zhf39 1 (by kernel_rfl)).trans (by kernel_rfl)
     have zh42 : zy36 8 = .bool ((q 0) != 0) := (Sp.out0 (zhp40 3 8 (by kernel_rfl) (by kernel_rfl))).1
     have zS43 := zS3.quiet zhc38
     refine step_if ((q 0) != 0) zh42 ?_ ?_
     · intro zh44
       have zh45 := neF' zh44
       refine yenv [(1, π zb1 0)] (ag_cons zh41 (ag_nil)) ?_
       have zS46 := zS43.loc
       refine Y.pure_ (π zb1 4) ?_
       exact ⟨zS46.ch, Sp.mk_holds [] all_nil (h2 := (bif_f zh44).symm)⟩
     intro zh44
     exact Sp.mk_holds [] all_nil (h2 := (bif_t zh44).symm)
   refine step_cons ?_ ?_
   · intro zy47 zw48 zhc49 zhf50 zhp51
     have zh52 : zy47 9 = (bif ((q 0) != 0) then undef else (π zb1 4)) := (Sp.out0 (zhp51 4 9 (by kernel_rfl) (by kernel_rfl))).1
     have zh53 : zy47 8 = .bool ((q 0) != 0) := (Sp.out0 (zhp51 3 8 (by kernel_rfl) (by kernel_rfl))).1
     have zS54 := zS3.quiet zhc49
     refine step_if ((q 0) != 0) zh53 ?_ ?_
     · intro zh55
       have zh56 := neF' zh55
       have zh57 : zy47 9 = π zb1 4 := zh52.trans (bif_f zh55)
       refine yenv [(9, π zb1 4)] (ag_cons zh57 (ag_nil)) ?_
       have zS58 := zS54.loc
       refine Y.load1_ zS58 0 (ι (q 4)) zb1 4 ?_
       exact ⟨zS58.ch, Sp.mk_holds [] all_nil (h2 := (bif_f zh55).symm)⟩
     intro zh55
     exact Sp.mk_holds [] all_nil (h2 := (bif_t zh55).symm)
   refine step_cons ?_ ?_
   · intro zy59 zw60 zhc61 zhf62 zhp63
     have zh64 : zy59 10 = (bif ((q 0) != 0) then undef else (ι (q 4))) := (Sp.out0 (zhp63 5 10 (by kernel_rfl) (by kernel_rfl))).1
     have zh65 : zy59 8 = .bool ((q 0) != 0) := (Sp.out0 (zhp63 3 8 (by kernel_rfl) (by kernel_rfl))).1
     have zS66 := zS3.quiet zhc61
     refine step_if ((q 0) != 0) zh65 ?_ ?_
     · intro zh67
       have zh68 := neF' zh67
       have zh69 : zy59 10 = ι (q 4) := zh64.trans (bif_f zh67)
       refine yenv [(10, ι (q 4))] (ag_cons zh69 (ag_nil)) ?_
       have zS70 := zS66.loc
       refine Y.pure_ (.bool ((q 4) != 4)) ?_
       exact ⟨zS70.ch, Sp.mk_holds [] all_nil (h2 := (bif_f zh67).symm)⟩
     intro zh67
     exact Sp.mk_holds [] all_nil (h2 := (bif_t zh67).symm)
   refine step_cons ?_ ?_
   · intro zy71 zw72 zhc73 zhf74 zhp75
     have zh76 : zy71 8 = .bool ((q 0) != 0) := (Sp.out0 (zhp75 3 8 (by kernel_rfl) (by kernel_rfl))).1
     have zh77 : zy71 11 = (bif ((q 0) != 0) then undef else (.bool ((q 4) != 4))) := (Sp.out0 (zhp75 6 11 (by kernel_rfl) (by kernel_rfl))).1
     have zS78 := zS3.quiet zhc73
     refine step1 ?_
     refine yenv [(8, .bool ((q 0) != 0)), (11, (bif ((q 0) != 0) then undef else (.bool ((q 4) != 4))))] (ag_cons zh76 (ag_cons zh77 (ag_nil))) ?_
     have zS79 := zS78.loc
     refine Y.pickB_ ((q 0) != 0) (((q 0) != 0) || ((q 4) != 4)) (τ) ((bif ((q 0) != 0) then undef else (.bool ((q 4) != 4)))) (fun h => (by rw [h]; rfl)) (fun h => (bif_f h).trans (by rw [h]; rfl)) ?_
     exact ⟨zS79.ch, Sp.mk_holds [] (all_nil)⟩
   exact step_nil
 intro zv80 zw81 zhc82 zha83
 have zh84 : zv80 0 = π zb1 0 := (Sp.out0 (zha83 0 (by kernel_rfl))).1
 have zh85 : zv80 1 = ι (q 0) := (Sp.out0 (zha83 1 (by kernel_rfl))).1
 have zh86 : zv80 2 = .bool ((q 0) != 0) := (Sp.out0 (zha83 2 (by kernel_rfl))).1
 have zh87 : zv80 3 = .bool ((q 0) != 0) := (Sp.out0 (zha83 3 (by kernel_rfl))).1
 have zh88 : zv80 4 = (bif ((q 0) != 0) then undef else (π zb1 4)) := (Sp.out0 (zha83 4 (by kernel_rfl))).1
 have zh89 : zv80 5 = (bif ((q 0) != 0) then undef else (ι (q 4))) := (Sp.out0 (zha83 5 (by kernel_rfl))).1
 have zh90 : zv80 6 = (bif ((q 0) != 0) then undef else (.bool ((q 4) != 4))) := (Sp.out0 (zha83 6 (by kernel_rfl))).1
 have zh91 : zv80 7 = .bool (((q 0) != 0) || ((q 4) != 4)) := (Sp.out0 (zha83 7 (by kernel_rfl))).1
 have zS92 := zS3.quiet zhc82
 refine ⟨[π zb1 0, ι (q 0), .bool ((q 0) != 0), .bool ((q 0) != 0), (bif ((q 0) != 0) then undef else (π zb1 4)), (bif ((q 0) != 0) then undef else (ι (q 4))), (bif ((q 0) != 0) then undef else (.bool ((q 4) != 4))), .bool (((q 0) != 0) || ((q 4) != 4))], by kernel_rfl, va_cons zh84 (va_cons zh85 (va_cons zh86 (va_cons zh87 (va_cons zh88 (va_cons zh89 (va_cons zh90 (va_cons zh91 (va_nil)))))))), ?_⟩
 refine nil_ (then_n ?_)
 refine cond_S (((q 0) != 0) || ((q 4) != 4)) ?_ ?_
 · intro zh93
   have zh94 := zh93
   simp at zh94
   refine seq_ (reg_ (pure_ (φ) (nil_ (then_n (wp_ret (then_r (ret_ rfl (res_ [.tmp 2] [φ] (φ) ⟨res_tmp, trivial⟩) ?_)))))))
   exact ⟨congrArg Value.bool (Bool.eq_false_iff.2 (fun h => by have h2 := (ord_iff q).1 h; omega)).symm, zS92.ch⟩
 intro zh95
 have zh96 := orL zh95
 have zh97 := orR zh95
 have zh98 := neF' zh96
 have zh99 := neF' zh97
 refine wp_skip (then_n (seq_ (reg_ (pure_ (.agg #[ι 0, ι 0, ι 0, ι 0, ι 0]) ?_))))
 refine new_ zS92 (fun b => π b 0) (.cells #[ι 0, ι 0, ι 0, ι 0, ι 0] 22) ?_
 intro zb100 zw101 zS102
 refine store_ zS102 0 (.agg #[ι 0, ι 0, ι 0, ι 0, ι 0]) zb100 0 ?_
 intro zw103 zS104
 refine nil_ (then_n (seq_ (seq_ (reg_ (pure_ (ι 1) (nil_ (then_n (wp_block (loop_ 24 (seq_ (seq_ (reg_ (pure_ (ι 1) (pure_ (τ) (nil_ (then_n (cond_T (wp_skip (then_n (seq_ (wp_block (seq_ (seq_ (reg_ (pure_ (ι 1) (pure_ (π zb1 1) (load1_ zS104 1 (ι (q 1)) zb1 1 (call_ 76 #[ι (q 1), ι 1, ι 3] ?_))))))))))))))))))))))))))))
 refine (in_any (q 1) 1 3 _).mono ?_; rintro _ zw105 ⟨rfl, zhc106⟩
 have zS107 := zS104.quiet zhc106
 refine pure_ (.bool (!(inB 1 3 (q 1)))) (nil_ (then_n ?_))
 refine cond_S (!(inB 1 3 (q 1))) ?_ ?_
 · intro zh108
   have zh109 := notT' zh108
   have zh110 := inB_no _ _ _ zh109
   refine seq_ (reg_ (pure_ (φ) (nil_ (then_n (wp_ret (then_r (blk_r (then_r (then_r (blk_r (then_r (ret_ rfl (res_ [.tmp 2] [φ] (φ) ⟨res_tmp, trivial⟩) ?_))))))))))))
   exact ⟨congrArg Value.bool (Bool.eq_false_iff.2 (fun h => by have h2 := (ord_iff q).1 h; omega)).symm, zS107.ch⟩
 intro zh111
 have zh112 := notF' zh111
 have zh113 := inB_is _ _ _ zh112
 refine wp_skip (then_n (reg_ (pure_ (ι 1) (pure_ (π zb1 1) (load1_ zS107 1 (ι (q 1)) zb1 1 ?_)))))
 refine split_b ((q 1) == 1) ?_ ?_
 · intro zh114
   have zh115 := eqT' zh114
   refine slotI_ 25 .i64 (q 1) 1 (by omega) ?_
   have zh116 : (q 1) = 1 := by omega
   refine pure_ (π zb100 1) (load1_ zS107 0 (ι 0) zb100 1 (pure_ (ι 1) (pure_ (π zb100 1) ?_)))
   refine store_ zS107 0 (ι 1) zb100 1 ?_
   intro zw117 zS118
   refine nil_ (blk_n (then_n (reg_ (pure_ (ι 1) (pure_ (ι 2) (pure_ (ι 2) (nil_ (again_ (seq_ (seq_ (reg_ (pure_ (ι 2) (pure_ (τ) (nil_ (then_n (cond_T (wp_skip (then_n (seq_ (wp_block (seq_ (seq_ (reg_ (pure_ (ι 2) (pure_ (π zb1 2) (load1_ zS118 1 (ι (q 2)) zb1 2 (call_ 76 #[ι (q 2), ι 1, ι 3] ?_)))))))))))))))))))))))))))
   refine (in_any (q 2) 1 3 _).mono ?_; rintro _ zw119 ⟨rfl, zhc120⟩
   have zS121 := zS118.quiet zhc120
   refine pure_ (.bool (!(inB 1 3 (q 2)))) (nil_ (then_n ?_))
   refine cond_S (!(inB 1 3 (q 2))) ?_ ?_
   · intro zh122
     have zh123 := notT' zh122
     have zh124 := inB_no _ _ _ zh123
     refine seq_ (reg_ (pure_ (φ) (nil_ (then_n (wp_ret (then_r (blk_r (then_r (then_r (blk_r (then_r (ret_ rfl (res_ [.tmp 2] [φ] (φ) ⟨res_tmp, trivial⟩) ?_))))))))))))
     exact ⟨congrArg Value.bool (Bool.eq_false_iff.2 (fun h => by have h2 := (ord_iff q).1 h; omega)).symm, zS121.ch⟩
   intro zh125
   have zh126 := notF' zh125
   have zh127 := inB_is _ _ _ zh126
   refine wp_skip (then_n (reg_ (pure_ (ι 2) (pure_ (π zb1 2) (load1_ zS121 1 (ι (q 2)) zb1 2 ?_)))))
   refine split_b ((q 2) == 1) ?_ ?_
   · intro zh128
     have zh129 := eqT' zh128
     refine slotI_ 25 .i64 (q 2) 1 (by omega) ?_
     have zh130 : (q 2) = 1 := by omega
     refine pure_ (π zb100 1) (load1_ zS121 0 (ι 1) zb100 1 (pure_ (ι 2) (pure_ (π zb100 1) ?_)))
     refine store_ zS121 0 (ι 2) zb100 1 ?_
     intro zw131 zS132
     refine nil_ (blk_n (then_n (reg_ (pure_ (ι 2) (pure_ (ι 3) (pure_ (ι 3) (nil_ (again_ (seq_ (seq_ (reg_ (pure_ (ι 3) (pure_ (τ) (nil_ (then_n (cond_T (wp_skip (then_n (seq_ (wp_block (seq_ (seq_ (reg_ (pure_ (ι 3) (pure_ (π zb1 3) (load1_ zS132 1 (ι (q 3)) zb1 3 (call_ 76 #[ι (q 3), ι 1, ι 3] ?_)))))))))))))))))))))))))))
     refine (in_any (q 3) 1 3 _).mono ?_; rintro _ zw133 ⟨rfl, zhc134⟩
     have zS135 := zS132.quiet zhc134
     refine pure_ (.bool (!(inB 1 3 (q 3)))) (nil_ (then_n ?_))
     refine cond_S (!(inB 1 3 (q 3))) ?_ ?_
     · intro zh136
       have zh137 := notT' zh136
       have zh138 := inB_no _ _ _ zh137
       refine seq_ (reg_ (pure_ (φ) (nil_ (then_n (wp_ret (then_r (blk_r (then_r (then_r (blk_r (then_r (ret_ rfl (res_ [.tmp 2] [φ] (φ) ⟨res_tmp, trivial⟩) ?_))))))))))))
       exact ⟨congrArg Value.bool (Bool.eq_false_iff.2 (fun h => by have h2 := (ord_iff q).1 h; omega)).symm, zS135.ch⟩
     intro zh139
     have zh140 := notF' zh139
     have zh141 := inB_is _ _ _ zh140
     refine wp_skip (then_n (reg_ (pure_ (ι 3) (pure_ (π zb1 3) (load1_ zS135 1 (ι (q 3)) zb1 3 ?_)))))
     refine split_b ((q 3) == 1) ?_ ?_
     · intro zh142
       have zh143 := eqT' zh142
       refine slotI_ 25 .i64 (q 3) 1 (by omega) ?_
       have zh144 : (q 3) = 1 := by omega
       refine pure_ (π zb100 1) (load1_ zS135 0 (ι 2) zb100 1 (pure_ (ι 3) (pure_ (π zb100 1) ?_)))
       refine store_ zS135 0 (ι 3) zb100 1 ?_
       intro zw145 zS146
       refine nil_ (blk_n (then_n (reg_ (pure_ (ι 3) (pure_ (ι 4) (pure_ (ι 4) (nil_ (again_ (seq_ (seq_ (reg_ (pure_ (ι 4) (pure_ (φ) (nil_ (then_n (cond_F (wp_exit (then_e (then_e (blk_e (then_n (seq_ (reg_ (pure_ (π zb100 1) (load1_ zS146 0 (ι 3) zb100 1 (pure_ (φ) (pure_ (φ) (skip_ (skip_ (skip_ (pure_ (φ) (pure_ (φ) (skip_ (skip_ (skip_ (pure_ (φ) (pure_ (φ) (nil_ (then_n (wp_ret (ret_ rfl (res_ [.tmp 2] [φ] (φ) ⟨res_tmp, trivial⟩) ?_)))))))))))))))))))))))))))))))))))))))))
       exact ⟨congrArg Value.bool (Bool.eq_false_iff.2 (fun h => by have h2 := (ord_iff q).1 h; omega)).symm, zS146.ch⟩
     intro zh147
     have zh148 := eqF' zh147
     refine split_b ((q 3) == 2) ?_ ?_
     · intro zh149
       have zh150 := eqT' zh149
       refine slotI_ 25 .i64 (q 3) 2 (by omega) ?_
       have zh151 : (q 3) = 2 := by omega
       refine pure_ (π zb100 2) (load1_ zS135 0 (ι 0) zb100 2 (pure_ (ι 1) (pure_ (π zb100 2) ?_)))
       refine store_ zS135 0 (ι 1) zb100 2 ?_
       intro zw152 zS153
       refine nil_ (blk_n (then_n (reg_ (pure_ (ι 3) (pure_ (ι 4) (pure_ (ι 4) (nil_ (again_ (seq_ (seq_ (reg_ (pure_ (ι 4) (pure_ (φ) (nil_ (then_n (cond_F (wp_exit (then_e (then_e (blk_e (then_n (seq_ (reg_ (pure_ (π zb100 1) (load1_ zS153 0 (ι 2) zb100 1 (pure_ (φ) (pure_ (φ) (skip_ (skip_ (skip_ (pure_ (φ) (pure_ (φ) (skip_ (skip_ (skip_ (pure_ (φ) (pure_ (φ) (nil_ (then_n (wp_ret (ret_ rfl (res_ [.tmp 2] [φ] (φ) ⟨res_tmp, trivial⟩) ?_)))))))))))))))))))))))))))))))))))))))))
       exact ⟨congrArg Value.bool (Bool.eq_false_iff.2 (fun h => by have h2 := (ord_iff q).1 h; omega)).symm, zS153.ch⟩
     intro zh154
     have zh155 := eqF' zh154
     refine slotI_ 25 .i64 (q 3) 3 (by omega) ?_
     have zh156 : (q 3) = 3 := by omega
     refine pure_ (π zb100 3) (load1_ zS135 0 (ι 0) zb100 3 (pure_ (ι 1) (pure_ (π zb100 3) ?_)))
     refine store_ zS135 0 (ι 1) zb100 3 ?_
     intro zw157 zS158
     refine nil_ (blk_n (then_n (reg_ (pure_ (ι 3) (pure_ (ι 4) (pure_ (ι 4) (nil_ (again_ (seq_ (seq_ (reg_ (pure_ (ι 4) (pure_ (φ) (nil_ (then_n (cond_F (wp_exit (then_e (then_e (blk_e (then_n (seq_ (reg_ (pure_ (π zb100 1) (load1_ zS158 0 (ι 2) zb100 1 (pure_ (φ) (pure_ (φ) (skip_ (skip_ (skip_ (pure_ (φ) (pure_ (φ) (skip_ (skip_ (skip_ (pure_ (φ) (pure_ (φ) (nil_ (then_n (wp_ret (ret_ rfl (res_ [.tmp 2] [φ] (φ) ⟨res_tmp, trivial⟩) ?_)))))))))))))))))))))))))))))))))))))))))
     exact ⟨congrArg Value.bool (Bool.eq_false_iff.2 (fun h => by have h2 := (ord_iff q).1 h; omega)).symm, zS158.ch⟩
   intro zh159
   have zh160 := eqF' zh159
   refine split_b ((q 2) == 2) ?_ ?_
   · intro zh161
     have zh162 := eqT' zh161
     refine slotI_ 25 .i64 (q 2) 2 (by omega) ?_
     have zh163 : (q 2) = 2 := by omega
     refine pure_ (π zb100 2) (load1_ zS121 0 (ι 0) zb100 2 (pure_ (ι 1) (pure_ (π zb100 2) ?_)))
     refine store_ zS121 0 (ι 1) zb100 2 ?_
     intro zw164 zS165
     refine nil_ (blk_n (then_n (reg_ (pure_ (ι 2) (pure_ (ι 3) (pure_ (ι 3) (nil_ (again_ (seq_ (seq_ (reg_ (pure_ (ι 3) (pure_ (τ) (nil_ (then_n (cond_T (wp_skip (then_n (seq_ (wp_block (seq_ (seq_ (reg_ (pure_ (ι 3) (pure_ (π zb1 3) (load1_ zS165 1 (ι (q 3)) zb1 3 (call_ 76 #[ι (q 3), ι 1, ι 3] ?_)))))))))))))))))))))))))))
     refine (in_any (q 3) 1 3 _).mono ?_; rintro _ zw166 ⟨rfl, zhc167⟩
     have zS168 := zS165.quiet zhc167
     refine pure_ (.bool (!(inB 1 3 (q 3)))) (nil_ (then_n ?_))
     refine cond_S (!(inB 1 3 (q 3))) ?_ ?_
     · intro zh169
       have zh170 := notT' zh169
       have zh171 := inB_no _ _ _ zh170
       refine seq_ (reg_ (pure_ (φ) (nil_ (then_n (wp_ret (then_r (blk_r (then_r (then_r (blk_r (then_r (ret_ rfl (res_ [.tmp 2] [φ] (φ) ⟨res_tmp, trivial⟩) ?_))))))))))))
       exact ⟨congrArg Value.bool (Bool.eq_false_iff.2 (fun h => by have h2 := (ord_iff q).1 h; omega)).symm, zS168.ch⟩
     intro zh172
     have zh173 := notF' zh172
     have zh174 := inB_is _ _ _ zh173
     refine wp_skip (then_n (reg_ (pure_ (ι 3) (pure_ (π zb1 3) (load1_ zS168 1 (ι (q 3)) zb1 3 ?_)))))
     refine split_b ((q 3) == 1) ?_ ?_
     · intro zh175
       have zh176 := eqT' zh175
       refine slotI_ 25 .i64 (q 3) 1 (by omega) ?_
       have zh177 : (q 3) = 1 := by omega
       refine pure_ (π zb100 1) (load1_ zS168 0 (ι 1) zb100 1 (pure_ (ι 2) (pure_ (π zb100 1) ?_)))
       refine store_ zS168 0 (ι 2) zb100 1 ?_
       intro zw178 zS179
       refine nil_ (blk_n (then_n (reg_ (pure_ (ι 3) (pure_ (ι 4) (pure_ (ι 4) (nil_ (again_ (seq_ (seq_ (reg_ (pure_ (ι 4) (pure_ (φ) (nil_ (then_n (cond_F (wp_exit (then_e (then_e (blk_e (then_n (seq_ (reg_ (pure_ (π zb100 1) (load1_ zS179 0 (ι 2) zb100 1 (pure_ (φ) (pure_ (φ) (skip_ (skip_ (skip_ (pure_ (φ) (pure_ (φ) (skip_ (skip_ (skip_ (pure_ (φ) (pure_ (φ) (nil_ (then_n (wp_ret (ret_ rfl (res_ [.tmp 2] [φ] (φ) ⟨res_tmp, trivial⟩) ?_)))))))))))))))))))))))))))))))))))))))))
       exact ⟨congrArg Value.bool (Bool.eq_false_iff.2 (fun h => by have h2 := (ord_iff q).1 h; omega)).symm, zS179.ch⟩
     intro zh180
     have zh181 := eqF' zh180
     refine split_b ((q 3) == 2) ?_ ?_
     · intro zh182
       have zh183 := eqT' zh182
       refine slotI_ 25 .i64 (q 3) 2 (by omega) ?_
       have zh184 : (q 3) = 2 := by omega
       refine pure_ (π zb100 2) (load1_ zS168 0 (ι 1) zb100 2 (pure_ (ι 2) (pure_ (π zb100 2) ?_)))
       refine store_ zS168 0 (ι 2) zb100 2 ?_
       intro zw185 zS186
       refine nil_ (blk_n (then_n (reg_ (pure_ (ι 3) (pure_ (ι 4) (pure_ (ι 4) (nil_ (again_ (seq_ (seq_ (reg_ (pure_ (ι 4) (pure_ (φ) (nil_ (then_n (cond_F (wp_exit (then_e (then_e (blk_e (then_n (seq_ (reg_ (pure_ (π zb100 1) (load1_ zS186 0 (ι 1) zb100 1 (pure_ (τ) (pure_ (τ) (pure_ (π zb100 2) (load1_ zS186 0 (ι 2) zb100 2 (pure_ (φ) (pure_ (φ) (pure_ (φ) (skip_ (skip_ (skip_ (pure_ (φ) (pure_ (φ) (nil_ (then_n (wp_ret (ret_ rfl (res_ [.tmp 2] [φ] (φ) ⟨res_tmp, trivial⟩) ?_)))))))))))))))))))))))))))))))))))))))))
       exact ⟨congrArg Value.bool (Bool.eq_false_iff.2 (fun h => by have h2 := (ord_iff q).1 h; omega)).symm, zS186.ch⟩
     intro zh187
     have zh188 := eqF' zh187
     refine slotI_ 25 .i64 (q 3) 3 (by omega) ?_
     have zh189 : (q 3) = 3 := by omega
     refine pure_ (π zb100 3) (load1_ zS168 0 (ι 0) zb100 3 (pure_ (ι 1) (pure_ (π zb100 3) ?_)))
     refine store_ zS168 0 (ι 1) zb100 3 ?_
     intro zw190 zS191
     refine nil_ (blk_n (then_n (reg_ (pure_ (ι 3) (pure_ (ι 4) (pure_ (ι 4) (nil_ (again_ (seq_ (seq_ (reg_ (pure_ (ι 4) (pure_ (φ) (nil_ (then_n (cond_F (wp_exit (then_e (then_e (blk_e (then_n (seq_ (reg_ (pure_ (π zb100 1) (load1_ zS191 0 (ι 1) zb100 1 (pure_ (τ) (pure_ (τ) (pure_ (π zb100 2) (load1_ zS191 0 (ι 1) zb100 2 (pure_ (τ) (pure_ (τ) (pure_ (τ) (pure_ (π zb100 3) (load1_ zS191 0 (ι 1) zb100 3 (pure_ (τ) (pure_ (τ) (pure_ (τ) (nil_ (then_n (wp_ret (ret_ rfl (res_ [.tmp 2] [τ] (τ) ⟨res_tmp, trivial⟩) ?_)))))))))))))))))))))))))))))))))))))))))
     exact ⟨congrArg Value.bool ((ord_iff q).2 (by omega)).symm, zS191.ch⟩
   intro zh192
   have zh193 := eqF' zh192
   refine slotI_ 25 .i64 (q 2) 3 (by omega) ?_
   have zh194 : (q 2) = 3 := by omega
   refine pure_ (π zb100 3) (load1_ zS121 0 (ι 0) zb100 3 (pure_ (ι 1) (pure_ (π zb100 3) ?_)))
   refine store_ zS121 0 (ι 1) zb100 3 ?_
   intro zw195 zS196
   refine nil_ (blk_n (then_n (reg_ (pure_ (ι 2) (pure_ (ι 3) (pure_ (ι 3) (nil_ (again_ (seq_ (seq_ (reg_ (pure_ (ι 3) (pure_ (τ) (nil_ (then_n (cond_T (wp_skip (then_n (seq_ (wp_block (seq_ (seq_ (reg_ (pure_ (ι 3) (pure_ (π zb1 3) (load1_ zS196 1 (ι (q 3)) zb1 3 (call_ 76 #[ι (q 3), ι 1, ι 3] ?_)))))))))))))))))))))))))))
   refine (in_any (q 3) 1 3 _).mono ?_; rintro _ zw197 ⟨rfl, zhc198⟩
   have zS199 := zS196.quiet zhc198
   refine pure_ (.bool (!(inB 1 3 (q 3)))) (nil_ (then_n ?_))
   refine cond_S (!(inB 1 3 (q 3))) ?_ ?_
   · intro zh200
     have zh201 := notT' zh200
     have zh202 := inB_no _ _ _ zh201
     refine seq_ (reg_ (pure_ (φ) (nil_ (then_n (wp_ret (then_r (blk_r (then_r (then_r (blk_r (then_r (ret_ rfl (res_ [.tmp 2] [φ] (φ) ⟨res_tmp, trivial⟩) ?_))))))))))))
     exact ⟨congrArg Value.bool (Bool.eq_false_iff.2 (fun h => by have h2 := (ord_iff q).1 h; omega)).symm, zS199.ch⟩
   intro zh203
   have zh204 := notF' zh203
   have zh205 := inB_is _ _ _ zh204
   refine wp_skip (then_n (reg_ (pure_ (ι 3) (pure_ (π zb1 3) (load1_ zS199 1 (ι (q 3)) zb1 3 ?_)))))
   refine split_b ((q 3) == 1) ?_ ?_
   · intro zh206
     have zh207 := eqT' zh206
     refine slotI_ 25 .i64 (q 3) 1 (by omega) ?_
     have zh208 : (q 3) = 1 := by omega
     refine pure_ (π zb100 1) (load1_ zS199 0 (ι 1) zb100 1 (pure_ (ι 2) (pure_ (π zb100 1) ?_)))
     refine store_ zS199 0 (ι 2) zb100 1 ?_
     intro zw209 zS210
     refine nil_ (blk_n (then_n (reg_ (pure_ (ι 3) (pure_ (ι 4) (pure_ (ι 4) (nil_ (again_ (seq_ (seq_ (reg_ (pure_ (ι 4) (pure_ (φ) (nil_ (then_n (cond_F (wp_exit (then_e (then_e (blk_e (then_n (seq_ (reg_ (pure_ (π zb100 1) (load1_ zS210 0 (ι 2) zb100 1 (pure_ (φ) (pure_ (φ) (skip_ (skip_ (skip_ (pure_ (φ) (pure_ (φ) (skip_ (skip_ (skip_ (pure_ (φ) (pure_ (φ) (nil_ (then_n (wp_ret (ret_ rfl (res_ [.tmp 2] [φ] (φ) ⟨res_tmp, trivial⟩) ?_)))))))))))))))))))))))))))))))))))))))))
     exact ⟨congrArg Value.bool (Bool.eq_false_iff.2 (fun h => by have h2 := (ord_iff q).1 h; omega)).symm, zS210.ch⟩
   intro zh211
   have zh212 := eqF' zh211
   refine split_b ((q 3) == 2) ?_ ?_
   · intro zh213
     have zh214 := eqT' zh213
     refine slotI_ 25 .i64 (q 3) 2 (by omega) ?_
     have zh215 : (q 3) = 2 := by omega
     refine pure_ (π zb100 2) (load1_ zS199 0 (ι 0) zb100 2 (pure_ (ι 1) (pure_ (π zb100 2) ?_)))
     refine store_ zS199 0 (ι 1) zb100 2 ?_
     intro zw216 zS217
     refine nil_ (blk_n (then_n (reg_ (pure_ (ι 3) (pure_ (ι 4) (pure_ (ι 4) (nil_ (again_ (seq_ (seq_ (reg_ (pure_ (ι 4) (pure_ (φ) (nil_ (then_n (cond_F (wp_exit (then_e (then_e (blk_e (then_n (seq_ (reg_ (pure_ (π zb100 1) (load1_ zS217 0 (ι 1) zb100 1 (pure_ (τ) (pure_ (τ) (pure_ (π zb100 2) (load1_ zS217 0 (ι 1) zb100 2 (pure_ (τ) (pure_ (τ) (pure_ (τ) (pure_ (π zb100 3) (load1_ zS217 0 (ι 1) zb100 3 (pure_ (τ) (pure_ (τ) (pure_ (τ) (nil_ (then_n (wp_ret (ret_ rfl (res_ [.tmp 2] [τ] (τ) ⟨res_tmp, trivial⟩) ?_)))))))))))))))))))))))))))))))))))))))))
     exact ⟨congrArg Value.bool ((ord_iff q).2 (by omega)).symm, zS217.ch⟩
   intro zh218
   have zh219 := eqF' zh218
   refine slotI_ 25 .i64 (q 3) 3 (by omega) ?_
   have zh220 : (q 3) = 3 := by omega
   refine pure_ (π zb100 3) (load1_ zS199 0 (ι 1) zb100 3 (pure_ (ι 2) (pure_ (π zb100 3) ?_)))
   refine store_ zS199 0 (ι 2) zb100 3 ?_
   intro zw221 zS222
   refine nil_ (blk_n (then_n (reg_ (pure_ (ι 3) (pure_ (ι 4) (pure_ (ι 4) (nil_ (again_ (seq_ (seq_ (reg_ (pure_ (ι 4) (pure_ (φ) (nil_ (then_n (cond_F (wp_exit (then_e (then_e (blk_e (then_n (seq_ (reg_ (pure_ (π zb100 1) (load1_ zS222 0 (ι 1) zb100 1 (pure_ (τ) (pure_ (τ) (pure_ (π zb100 2) (load1_ zS222 0 (ι 0) zb100 2 (pure_ (φ) (pure_ (φ) (pure_ (φ) (skip_ (skip_ (skip_ (pure_ (φ) (pure_ (φ) (nil_ (then_n (wp_ret (ret_ rfl (res_ [.tmp 2] [φ] (φ) ⟨res_tmp, trivial⟩) ?_)))))))))))))))))))))))))))))))))))))))))
   exact ⟨congrArg Value.bool (Bool.eq_false_iff.2 (fun h => by have h2 := (ord_iff q).1 h; omega)).symm, zS222.ch⟩
 intro zh223
 have zh224 := eqF' zh223
 refine split_b ((q 1) == 2) ?_ ?_
 · intro zh225
   have zh226 := eqT' zh225
   refine slotI_ 25 .i64 (q 1) 2 (by omega) ?_
   have zh227 : (q 1) = 2 := by omega
   refine pure_ (π zb100 2) (load1_ zS107 0 (ι 0) zb100 2 (pure_ (ι 1) (pure_ (π zb100 2) ?_)))
   refine store_ zS107 0 (ι 1) zb100 2 ?_
   intro zw228 zS229
   refine nil_ (blk_n (then_n (reg_ (pure_ (ι 1) (pure_ (ι 2) (pure_ (ι 2) (nil_ (again_ (seq_ (seq_ (reg_ (pure_ (ι 2) (pure_ (τ) (nil_ (then_n (cond_T (wp_skip (then_n (seq_ (wp_block (seq_ (seq_ (reg_ (pure_ (ι 2) (pure_ (π zb1 2) (load1_ zS229 1 (ι (q 2)) zb1 2 (call_ 76 #[ι (q 2), ι 1, ι 3] ?_)))))))))))))))))))))))))))
   refine (in_any (q 2) 1 3 _).mono ?_; rintro _ zw230 ⟨rfl, zhc231⟩
   have zS232 := zS229.quiet zhc231
   refine pure_ (.bool (!(inB 1 3 (q 2)))) (nil_ (then_n ?_))
   refine cond_S (!(inB 1 3 (q 2))) ?_ ?_
   · intro zh233
     have zh234 := notT' zh233
     have zh235 := inB_no _ _ _ zh234
     refine seq_ (reg_ (pure_ (φ) (nil_ (then_n (wp_ret (then_r (blk_r (then_r (then_r (blk_r (then_r (ret_ rfl (res_ [.tmp 2] [φ] (φ) ⟨res_tmp, trivial⟩) ?_))))))))))))
     exact ⟨congrArg Value.bool (Bool.eq_false_iff.2 (fun h => by have h2 := (ord_iff q).1 h; omega)).symm, zS232.ch⟩
   intro zh236
   have zh237 := notF' zh236
   have zh238 := inB_is _ _ _ zh237
   refine wp_skip (then_n (reg_ (pure_ (ι 2) (pure_ (π zb1 2) (load1_ zS232 1 (ι (q 2)) zb1 2 ?_)))))
   refine split_b ((q 2) == 1) ?_ ?_
   · intro zh239
     have zh240 := eqT' zh239
     refine slotI_ 25 .i64 (q 2) 1 (by omega) ?_
     have zh241 : (q 2) = 1 := by omega
     refine pure_ (π zb100 1) (load1_ zS232 0 (ι 0) zb100 1 (pure_ (ι 1) (pure_ (π zb100 1) ?_)))
     refine store_ zS232 0 (ι 1) zb100 1 ?_
     intro zw242 zS243
     refine nil_ (blk_n (then_n (reg_ (pure_ (ι 2) (pure_ (ι 3) (pure_ (ι 3) (nil_ (again_ (seq_ (seq_ (reg_ (pure_ (ι 3) (pure_ (τ) (nil_ (then_n (cond_T (wp_skip (then_n (seq_ (wp_block (seq_ (seq_ (reg_ (pure_ (ι 3) (pure_ (π zb1 3) (load1_ zS243 1 (ι (q 3)) zb1 3 (call_ 76 #[ι (q 3), ι 1, ι 3] ?_)))))))))))))))))))))))))))
     refine (in_any (q 3) 1 3 _).mono ?_; rintro _ zw244 ⟨rfl, zhc245⟩
     have zS246 := zS243.quiet zhc245
     refine pure_ (.bool (!(inB 1 3 (q 3)))) (nil_ (then_n ?_))
     refine cond_S (!(inB 1 3 (q 3))) ?_ ?_
     · intro zh247
       have zh248 := notT' zh247
       have zh249 := inB_no _ _ _ zh248
       refine seq_ (reg_ (pure_ (φ) (nil_ (then_n (wp_ret (then_r (blk_r (then_r (then_r (blk_r (then_r (ret_ rfl (res_ [.tmp 2] [φ] (φ) ⟨res_tmp, trivial⟩) ?_))))))))))))
       exact ⟨congrArg Value.bool (Bool.eq_false_iff.2 (fun h => by have h2 := (ord_iff q).1 h; omega)).symm, zS246.ch⟩
     intro zh250
     have zh251 := notF' zh250
     have zh252 := inB_is _ _ _ zh251
     refine wp_skip (then_n (reg_ (pure_ (ι 3) (pure_ (π zb1 3) (load1_ zS246 1 (ι (q 3)) zb1 3 ?_)))))
     refine split_b ((q 3) == 1) ?_ ?_
     · intro zh253
       have zh254 := eqT' zh253
       refine slotI_ 25 .i64 (q 3) 1 (by omega) ?_
       have zh255 : (q 3) = 1 := by omega
       refine pure_ (π zb100 1) (load1_ zS246 0 (ι 1) zb100 1 (pure_ (ι 2) (pure_ (π zb100 1) ?_)))
       refine store_ zS246 0 (ι 2) zb100 1 ?_
       intro zw256 zS257
       refine nil_ (blk_n (then_n (reg_ (pure_ (ι 3) (pure_ (ι 4) (pure_ (ι 4) (nil_ (again_ (seq_ (seq_ (reg_ (pure_ (ι 4) (pure_ (φ) (nil_ (then_n (cond_F (wp_exit (then_e (then_e (blk_e (then_n (seq_ (reg_ (pure_ (π zb100 1) (load1_ zS257 0 (ι 2) zb100 1 (pure_ (φ) (pure_ (φ) (skip_ (skip_ (skip_ (pure_ (φ) (pure_ (φ) (skip_ (skip_ (skip_ (pure_ (φ) (pure_ (φ) (nil_ (then_n (wp_ret (ret_ rfl (res_ [.tmp 2] [φ] (φ) ⟨res_tmp, trivial⟩) ?_)))))))))))))))))))))))))))))))))))))))))
       exact ⟨congrArg Value.bool (Bool.eq_false_iff.2 (fun h => by have h2 := (ord_iff q).1 h; omega)).symm, zS257.ch⟩
     intro zh258
     have zh259 := eqF' zh258
     refine split_b ((q 3) == 2) ?_ ?_
     · intro zh260
       have zh261 := eqT' zh260
       refine slotI_ 25 .i64 (q 3) 2 (by omega) ?_
       have zh262 : (q 3) = 2 := by omega
       refine pure_ (π zb100 2) (load1_ zS246 0 (ι 1) zb100 2 (pure_ (ι 2) (pure_ (π zb100 2) ?_)))
       refine store_ zS246 0 (ι 2) zb100 2 ?_
       intro zw263 zS264
       refine nil_ (blk_n (then_n (reg_ (pure_ (ι 3) (pure_ (ι 4) (pure_ (ι 4) (nil_ (again_ (seq_ (seq_ (reg_ (pure_ (ι 4) (pure_ (φ) (nil_ (then_n (cond_F (wp_exit (then_e (then_e (blk_e (then_n (seq_ (reg_ (pure_ (π zb100 1) (load1_ zS264 0 (ι 1) zb100 1 (pure_ (τ) (pure_ (τ) (pure_ (π zb100 2) (load1_ zS264 0 (ι 2) zb100 2 (pure_ (φ) (pure_ (φ) (pure_ (φ) (skip_ (skip_ (skip_ (pure_ (φ) (pure_ (φ) (nil_ (then_n (wp_ret (ret_ rfl (res_ [.tmp 2] [φ] (φ) ⟨res_tmp, trivial⟩) ?_)))))))))))))))))))))))))))))))))))))))))
       exact ⟨congrArg Value.bool (Bool.eq_false_iff.2 (fun h => by have h2 := (ord_iff q).1 h; omega)).symm, zS264.ch⟩
     intro zh265
     have zh266 := eqF' zh265
     refine slotI_ 25 .i64 (q 3) 3 (by omega) ?_
     have zh267 : (q 3) = 3 := by omega
     refine pure_ (π zb100 3) (load1_ zS246 0 (ι 0) zb100 3 (pure_ (ι 1) (pure_ (π zb100 3) ?_)))
     refine store_ zS246 0 (ι 1) zb100 3 ?_
     intro zw268 zS269
     refine nil_ (blk_n (then_n (reg_ (pure_ (ι 3) (pure_ (ι 4) (pure_ (ι 4) (nil_ (again_ (seq_ (seq_ (reg_ (pure_ (ι 4) (pure_ (φ) (nil_ (then_n (cond_F (wp_exit (then_e (then_e (blk_e (then_n (seq_ (reg_ (pure_ (π zb100 1) (load1_ zS269 0 (ι 1) zb100 1 (pure_ (τ) (pure_ (τ) (pure_ (π zb100 2) (load1_ zS269 0 (ι 1) zb100 2 (pure_ (τ) (pure_ (τ) (pure_ (τ) (pure_ (π zb100 3) (load1_ zS269 0 (ι 1) zb100 3 (pure_ (τ) (pure_ (τ) (pure_ (τ) (nil_ (then_n (wp_ret (ret_ rfl (res_ [.tmp 2] [τ] (τ) ⟨res_tmp, trivial⟩) ?_)))))))))))))))))))))))))))))))))))))))))
     exact ⟨congrArg Value.bool ((ord_iff q).2 (by omega)).symm, zS269.ch⟩
   intro zh270
   have zh271 := eqF' zh270
   refine split_b ((q 2) == 2) ?_ ?_
   · intro zh272
     have zh273 := eqT' zh272
     refine slotI_ 25 .i64 (q 2) 2 (by omega) ?_
     have zh274 : (q 2) = 2 := by omega
     refine pure_ (π zb100 2) (load1_ zS232 0 (ι 1) zb100 2 (pure_ (ι 2) (pure_ (π zb100 2) ?_)))
     refine store_ zS232 0 (ι 2) zb100 2 ?_
     intro zw275 zS276
     refine nil_ (blk_n (then_n (reg_ (pure_ (ι 2) (pure_ (ι 3) (pure_ (ι 3) (nil_ (again_ (seq_ (seq_ (reg_ (pure_ (ι 3) (pure_ (τ) (nil_ (then_n (cond_T (wp_skip (then_n (seq_ (wp_block (seq_ (seq_ (reg_ (pure_ (ι 3) (pure_ (π zb1 3) (load1_ zS276 1 (ι (q 3)) zb1 3 (call_ 76 #[ι (q 3), ι 1, ι 3] ?_)))))))))))))))))))))))))))
     refine (in_any (q 3) 1 3 _).mono ?_; rintro _ zw277 ⟨rfl, zhc278⟩
     have zS279 := zS276.quiet zhc278
     refine pure_ (.bool (!(inB 1 3 (q 3)))) (nil_ (then_n ?_))
     refine cond_S (!(inB 1 3 (q 3))) ?_ ?_
     · intro zh280
       have zh281 := notT' zh280
       have zh282 := inB_no _ _ _ zh281
       refine seq_ (reg_ (pure_ (φ) (nil_ (then_n (wp_ret (then_r (blk_r (then_r (then_r (blk_r (then_r (ret_ rfl (res_ [.tmp 2] [φ] (φ) ⟨res_tmp, trivial⟩) ?_))))))))))))
       exact ⟨congrArg Value.bool (Bool.eq_false_iff.2 (fun h => by have h2 := (ord_iff q).1 h; omega)).symm, zS279.ch⟩
     intro zh283
     have zh284 := notF' zh283
     have zh285 := inB_is _ _ _ zh284
     refine wp_skip (then_n (reg_ (pure_ (ι 3) (pure_ (π zb1 3) (load1_ zS279 1 (ι (q 3)) zb1 3 ?_)))))
     refine split_b ((q 3) == 1) ?_ ?_
     · intro zh286
       have zh287 := eqT' zh286
       refine slotI_ 25 .i64 (q 3) 1 (by omega) ?_
       have zh288 : (q 3) = 1 := by omega
       refine pure_ (π zb100 1) (load1_ zS279 0 (ι 0) zb100 1 (pure_ (ι 1) (pure_ (π zb100 1) ?_)))
       refine store_ zS279 0 (ι 1) zb100 1 ?_
       intro zw289 zS290
       refine nil_ (blk_n (then_n (reg_ (pure_ (ι 3) (pure_ (ι 4) (pure_ (ι 4) (nil_ (again_ (seq_ (seq_ (reg_ (pure_ (ι 4) (pure_ (φ) (nil_ (then_n (cond_F (wp_exit (then_e (then_e (blk_e (then_n (seq_ (reg_ (pure_ (π zb100 1) (load1_ zS290 0 (ι 1) zb100 1 (pure_ (τ) (pure_ (τ) (pure_ (π zb100 2) (load1_ zS290 0 (ι 2) zb100 2 (pure_ (φ) (pure_ (φ) (pure_ (φ) (skip_ (skip_ (skip_ (pure_ (φ) (pure_ (φ) (nil_ (then_n (wp_ret (ret_ rfl (res_ [.tmp 2] [φ] (φ) ⟨res_tmp, trivial⟩) ?_)))))))))))))))))))))))))))))))))))))))))
       exact ⟨congrArg Value.bool (Bool.eq_false_iff.2 (fun h => by have h2 := (ord_iff q).1 h; omega)).symm, zS290.ch⟩
     intro zh291
     have zh292 := eqF' zh291
     refine split_b ((q 3) == 2) ?_ ?_
     · intro zh293
       have zh294 := eqT' zh293
       refine slotI_ 25 .i64 (q 3) 2 (by omega) ?_
       have zh295 : (q 3) = 2 := by omega
       refine pure_ (π zb100 2) (load1_ zS279 0 (ι 2) zb100 2 (pure_ (ι 3) (pure_ (π zb100 2) ?_)))
       refine store_ zS279 0 (ι 3) zb100 2 ?_
       intro zw296 zS297
       refine nil_ (blk_n (then_n (reg_ (pure_ (ι 3) (pure_ (ι 4) (pure_ (ι 4) (nil_ (again_ (seq_ (seq_ (reg_ (pure_ (ι 4) (pure_ (φ) (nil_ (then_n (cond_F (wp_exit (then_e (then_e (blk_e (then_n (seq_ (reg_ (pure_ (π zb100 1) (load1_ zS297 0 (ι 0) zb100 1 (pure_ (φ) (pure_ (φ) (skip_ (skip_ (skip_ (pure_ (φ) (pure_ (φ) (skip_ (skip_ (skip_ (pure_ (φ) (pure_ (φ) (nil_ (then_n (wp_ret (ret_ rfl (res_ [.tmp 2] [φ] (φ) ⟨res_tmp, trivial⟩) ?_)))))))))))))))))))))))))))))))))))))))))
       exact ⟨congrArg Value.bool (Bool.eq_false_iff.2 (fun h => by have h2 := (ord_iff q).1 h; omega)).symm, zS297.ch⟩
     intro zh298
     have zh299 := eqF' zh298
     refine slotI_ 25 .i64 (q 3) 3 (by omega) ?_
     have zh300 : (q 3) = 3 := by omega
     refine pure_ (π zb100 3) (load1_ zS279 0 (ι 0) zb100 3 (pure_ (ι 1) (pure_ (π zb100 3) ?_)))
     refine store_ zS279 0 (ι 1) zb100 3 ?_
     intro zw301 zS302
     refine nil_ (blk_n (then_n (reg_ (pure_ (ι 3) (pure_ (ι 4) (pure_ (ι 4) (nil_ (again_ (seq_ (seq_ (reg_ (pure_ (ι 4) (pure_ (φ) (nil_ (then_n (cond_F (wp_exit (then_e (then_e (blk_e (then_n (seq_ (reg_ (pure_ (π zb100 1) (load1_ zS302 0 (ι 0) zb100 1 (pure_ (φ) (pure_ (φ) (skip_ (skip_ (skip_ (pure_ (φ) (pure_ (φ) (skip_ (skip_ (skip_ (pure_ (φ) (pure_ (φ) (nil_ (then_n (wp_ret (ret_ rfl (res_ [.tmp 2] [φ] (φ) ⟨res_tmp, trivial⟩) ?_)))))))))))))))))))))))))))))))))))))))))
     exact ⟨congrArg Value.bool (Bool.eq_false_iff.2 (fun h => by have h2 := (ord_iff q).1 h; omega)).symm, zS302.ch⟩
   intro zh303
   have zh304 := eqF' zh303
   refine slotI_ 25 .i64 (q 2) 3 (by omega) ?_
   have zh305 : (q 2) = 3 := by omega
   refine pure_ (π zb100 3) (load1_ zS232 0 (ι 0) zb100 3 (pure_ (ι 1) (pure_ (π zb100 3) ?_)))
   refine store_ zS232 0 (ι 1) zb100 3 ?_
   intro zw306 zS307
   refine nil_ (blk_n (then_n (reg_ (pure_ (ι 2) (pure_ (ι 3) (pure_ (ι 3) (nil_ (again_ (seq_ (seq_ (reg_ (pure_ (ι 3) (pure_ (τ) (nil_ (then_n (cond_T (wp_skip (then_n (seq_ (wp_block (seq_ (seq_ (reg_ (pure_ (ι 3) (pure_ (π zb1 3) (load1_ zS307 1 (ι (q 3)) zb1 3 (call_ 76 #[ι (q 3), ι 1, ι 3] ?_)))))))))))))))))))))))))))
   refine (in_any (q 3) 1 3 _).mono ?_; rintro _ zw308 ⟨rfl, zhc309⟩
   have zS310 := zS307.quiet zhc309
   refine pure_ (.bool (!(inB 1 3 (q 3)))) (nil_ (then_n ?_))
   refine cond_S (!(inB 1 3 (q 3))) ?_ ?_
   · intro zh311
     have zh312 := notT' zh311
     have zh313 := inB_no _ _ _ zh312
     refine seq_ (reg_ (pure_ (φ) (nil_ (then_n (wp_ret (then_r (blk_r (then_r (then_r (blk_r (then_r (ret_ rfl (res_ [.tmp 2] [φ] (φ) ⟨res_tmp, trivial⟩) ?_))))))))))))
     exact ⟨congrArg Value.bool (Bool.eq_false_iff.2 (fun h => by have h2 := (ord_iff q).1 h; omega)).symm, zS310.ch⟩
   intro zh314
   have zh315 := notF' zh314
   have zh316 := inB_is _ _ _ zh315
   refine wp_skip (then_n (reg_ (pure_ (ι 3) (pure_ (π zb1 3) (load1_ zS310 1 (ι (q 3)) zb1 3 ?_)))))
   refine split_b ((q 3) == 1) ?_ ?_
   · intro zh317
     have zh318 := eqT' zh317
     refine slotI_ 25 .i64 (q 3) 1 (by omega) ?_
     have zh319 : (q 3) = 1 := by omega
     refine pure_ (π zb100 1) (load1_ zS310 0 (ι 0) zb100 1 (pure_ (ι 1) (pure_ (π zb100 1) ?_)))
     refine store_ zS310 0 (ι 1) zb100 1 ?_
     intro zw320 zS321
     refine nil_ (blk_n (then_n (reg_ (pure_ (ι 3) (pure_ (ι 4) (pure_ (ι 4) (nil_ (again_ (seq_ (seq_ (reg_ (pure_ (ι 4) (pure_ (φ) (nil_ (then_n (cond_F (wp_exit (then_e (then_e (blk_e (then_n (seq_ (reg_ (pure_ (π zb100 1) (load1_ zS321 0 (ι 1) zb100 1 (pure_ (τ) (pure_ (τ) (pure_ (π zb100 2) (load1_ zS321 0 (ι 1) zb100 2 (pure_ (τ) (pure_ (τ) (pure_ (τ) (pure_ (π zb100 3) (load1_ zS321 0 (ι 1) zb100 3 (pure_ (τ) (pure_ (τ) (pure_ (τ) (nil_ (then_n (wp_ret (ret_ rfl (res_ [.tmp 2] [τ] (τ) ⟨res_tmp, trivial⟩) ?_)))))))))))))))))))))))))))))))))))))))))
     exact ⟨congrArg Value.bool ((ord_iff q).2 (by omega)).symm, zS321.ch⟩
   intro zh322
   have zh323 := eqF' zh322
   refine split_b ((q 3) == 2) ?_ ?_
   · intro zh324
     have zh325 := eqT' zh324
     refine slotI_ 25 .i64 (q 3) 2 (by omega) ?_
     have zh326 : (q 3) = 2 := by omega
     refine pure_ (π zb100 2) (load1_ zS310 0 (ι 1) zb100 2 (pure_ (ι 2) (pure_ (π zb100 2) ?_)))
     refine store_ zS310 0 (ι 2) zb100 2 ?_
     intro zw327 zS328
     refine nil_ (blk_n (then_n (reg_ (pure_ (ι 3) (pure_ (ι 4) (pure_ (ι 4) (nil_ (again_ (seq_ (seq_ (reg_ (pure_ (ι 4) (pure_ (φ) (nil_ (then_n (cond_F (wp_exit (then_e (then_e (blk_e (then_n (seq_ (reg_ (pure_ (π zb100 1) (load1_ zS328 0 (ι 0) zb100 1 (pure_ (φ) (pure_ (φ) (skip_ (skip_ (skip_ (pure_ (φ) (pure_ (φ) (skip_ (skip_ (skip_ (pure_ (φ) (pure_ (φ) (nil_ (then_n (wp_ret (ret_ rfl (res_ [.tmp 2] [φ] (φ) ⟨res_tmp, trivial⟩) ?_)))))))))))))))))))))))))))))))))))))))))
     exact ⟨congrArg Value.bool (Bool.eq_false_iff.2 (fun h => by have h2 := (ord_iff q).1 h; omega)).symm, zS328.ch⟩
   intro zh329
   have zh330 := eqF' zh329
   refine slotI_ 25 .i64 (q 3) 3 (by omega) ?_
   have zh331 : (q 3) = 3 := by omega
   refine pure_ (π zb100 3) (load1_ zS310 0 (ι 1) zb100 3 (pure_ (ι 2) (pure_ (π zb100 3) ?_)))
   refine store_ zS310 0 (ι 2) zb100 3 ?_
   intro zw332 zS333
   refine nil_ (blk_n (then_n (reg_ (pure_ (ι 3) (pure_ (ι 4) (pure_ (ι 4) (nil_ (again_ (seq_ (seq_ (reg_ (pure_ (ι 4) (pure_ (φ) (nil_ (then_n (cond_F (wp_exit (then_e (then_e (blk_e (then_n (seq_ (reg_ (pure_ (π zb100 1) (load1_ zS333 0 (ι 0) zb100 1 (pure_ (φ) (pure_ (φ) (skip_ (skip_ (skip_ (pure_ (φ) (pure_ (φ) (skip_ (skip_ (skip_ (pure_ (φ) (pure_ (φ) (nil_ (then_n (wp_ret (ret_ rfl (res_ [.tmp 2] [φ] (φ) ⟨res_tmp, trivial⟩) ?_)))))))))))))))))))))))))))))))))))))))))
   exact ⟨congrArg Value.bool (Bool.eq_false_iff.2 (fun h => by have h2 := (ord_iff q).1 h; omega)).symm, zS333.ch⟩
 intro zh334
 have zh335 := eqF' zh334
 refine slotI_ 25 .i64 (q 1) 3 (by omega) ?_
 have zh336 : (q 1) = 3 := by omega
 refine pure_ (π zb100 3) (load1_ zS107 0 (ι 0) zb100 3 (pure_ (ι 1) (pure_ (π zb100 3) ?_)))
 refine store_ zS107 0 (ι 1) zb100 3 ?_
 intro zw337 zS338
 refine nil_ (blk_n (then_n (reg_ (pure_ (ι 1) (pure_ (ι 2) (pure_ (ι 2) (nil_ (again_ (seq_ (seq_ (reg_ (pure_ (ι 2) (pure_ (τ) (nil_ (then_n (cond_T (wp_skip (then_n (seq_ (wp_block (seq_ (seq_ (reg_ (pure_ (ι 2) (pure_ (π zb1 2) (load1_ zS338 1 (ι (q 2)) zb1 2 (call_ 76 #[ι (q 2), ι 1, ι 3] ?_)))))))))))))))))))))))))))
 refine (in_any (q 2) 1 3 _).mono ?_; rintro _ zw339 ⟨rfl, zhc340⟩
 have zS341 := zS338.quiet zhc340
 refine pure_ (.bool (!(inB 1 3 (q 2)))) (nil_ (then_n ?_))
 refine cond_S (!(inB 1 3 (q 2))) ?_ ?_
 · intro zh342
   have zh343 := notT' zh342
   have zh344 := inB_no _ _ _ zh343
   refine seq_ (reg_ (pure_ (φ) (nil_ (then_n (wp_ret (then_r (blk_r (then_r (then_r (blk_r (then_r (ret_ rfl (res_ [.tmp 2] [φ] (φ) ⟨res_tmp, trivial⟩) ?_))))))))))))
   exact ⟨congrArg Value.bool (Bool.eq_false_iff.2 (fun h => by have h2 := (ord_iff q).1 h; omega)).symm, zS341.ch⟩
 intro zh345
 have zh346 := notF' zh345
 have zh347 := inB_is _ _ _ zh346
 refine wp_skip (then_n (reg_ (pure_ (ι 2) (pure_ (π zb1 2) (load1_ zS341 1 (ι (q 2)) zb1 2 ?_)))))
 refine split_b ((q 2) == 1) ?_ ?_
 · intro zh348
   have zh349 := eqT' zh348
   refine slotI_ 25 .i64 (q 2) 1 (by omega) ?_
   have zh350 : (q 2) = 1 := by omega
   refine pure_ (π zb100 1) (load1_ zS341 0 (ι 0) zb100 1 (pure_ (ι 1) (pure_ (π zb100 1) ?_)))
   refine store_ zS341 0 (ι 1) zb100 1 ?_
   intro zw351 zS352
   refine nil_ (blk_n (then_n (reg_ (pure_ (ι 2) (pure_ (ι 3) (pure_ (ι 3) (nil_ (again_ (seq_ (seq_ (reg_ (pure_ (ι 3) (pure_ (τ) (nil_ (then_n (cond_T (wp_skip (then_n (seq_ (wp_block (seq_ (seq_ (reg_ (pure_ (ι 3) (pure_ (π zb1 3) (load1_ zS352 1 (ι (q 3)) zb1 3 (call_ 76 #[ι (q 3), ι 1, ι 3] ?_)))))))))))))))))))))))))))
   refine (in_any (q 3) 1 3 _).mono ?_; rintro _ zw353 ⟨rfl, zhc354⟩
   have zS355 := zS352.quiet zhc354
   refine pure_ (.bool (!(inB 1 3 (q 3)))) (nil_ (then_n ?_))
   refine cond_S (!(inB 1 3 (q 3))) ?_ ?_
   · intro zh356
     have zh357 := notT' zh356
     have zh358 := inB_no _ _ _ zh357
     refine seq_ (reg_ (pure_ (φ) (nil_ (then_n (wp_ret (then_r (blk_r (then_r (then_r (blk_r (then_r (ret_ rfl (res_ [.tmp 2] [φ] (φ) ⟨res_tmp, trivial⟩) ?_))))))))))))
     exact ⟨congrArg Value.bool (Bool.eq_false_iff.2 (fun h => by have h2 := (ord_iff q).1 h; omega)).symm, zS355.ch⟩
   intro zh359
   have zh360 := notF' zh359
   have zh361 := inB_is _ _ _ zh360
   refine wp_skip (then_n (reg_ (pure_ (ι 3) (pure_ (π zb1 3) (load1_ zS355 1 (ι (q 3)) zb1 3 ?_)))))
   refine split_b ((q 3) == 1) ?_ ?_
   · intro zh362
     have zh363 := eqT' zh362
     refine slotI_ 25 .i64 (q 3) 1 (by omega) ?_
     have zh364 : (q 3) = 1 := by omega
     refine pure_ (π zb100 1) (load1_ zS355 0 (ι 1) zb100 1 (pure_ (ι 2) (pure_ (π zb100 1) ?_)))
     refine store_ zS355 0 (ι 2) zb100 1 ?_
     intro zw365 zS366
     refine nil_ (blk_n (then_n (reg_ (pure_ (ι 3) (pure_ (ι 4) (pure_ (ι 4) (nil_ (again_ (seq_ (seq_ (reg_ (pure_ (ι 4) (pure_ (φ) (nil_ (then_n (cond_F (wp_exit (then_e (then_e (blk_e (then_n (seq_ (reg_ (pure_ (π zb100 1) (load1_ zS366 0 (ι 2) zb100 1 (pure_ (φ) (pure_ (φ) (skip_ (skip_ (skip_ (pure_ (φ) (pure_ (φ) (skip_ (skip_ (skip_ (pure_ (φ) (pure_ (φ) (nil_ (then_n (wp_ret (ret_ rfl (res_ [.tmp 2] [φ] (φ) ⟨res_tmp, trivial⟩) ?_)))))))))))))))))))))))))))))))))))))))))
     exact ⟨congrArg Value.bool (Bool.eq_false_iff.2 (fun h => by have h2 := (ord_iff q).1 h; omega)).symm, zS366.ch⟩
   intro zh367
   have zh368 := eqF' zh367
   refine split_b ((q 3) == 2) ?_ ?_
   · intro zh369
     have zh370 := eqT' zh369
     refine slotI_ 25 .i64 (q 3) 2 (by omega) ?_
     have zh371 : (q 3) = 2 := by omega
     refine pure_ (π zb100 2) (load1_ zS355 0 (ι 0) zb100 2 (pure_ (ι 1) (pure_ (π zb100 2) ?_)))
     refine store_ zS355 0 (ι 1) zb100 2 ?_
     intro zw372 zS373
     refine nil_ (blk_n (then_n (reg_ (pure_ (ι 3) (pure_ (ι 4) (pure_ (ι 4) (nil_ (again_ (seq_ (seq_ (reg_ (pure_ (ι 4) (pure_ (φ) (nil_ (then_n (cond_F (wp_exit (then_e (then_e (blk_e (then_n (seq_ (reg_ (pure_ (π zb100 1) (load1_ zS373 0 (ι 1) zb100 1 (pure_ (τ) (pure_ (τ) (pure_ (π zb100 2) (load1_ zS373 0 (ι 1) zb100 2 (pure_ (τ) (pure_ (τ) (pure_ (τ) (pure_ (π zb100 3) (load1_ zS373 0 (ι 1) zb100 3 (pure_ (τ) (pure_ (τ) (pure_ (τ) (nil_ (then_n (wp_ret (ret_ rfl (res_ [.tmp 2] [τ] (τ) ⟨res_tmp, trivial⟩) ?_)))))))))))))))))))))))))))))))))))))))))
     exact ⟨congrArg Value.bool ((ord_iff q).2 (by omega)).symm, zS373.ch⟩
   intro zh374
   have zh375 := eqF' zh374
   refine slotI_ 25 .i64 (q 3) 3 (by omega) ?_
   have zh376 : (q 3) = 3 := by omega
   refine pure_ (π zb100 3) (load1_ zS355 0 (ι 1) zb100 3 (pure_ (ι 2) (pure_ (π zb100 3) ?_)))
   refine store_ zS355 0 (ι 2) zb100 3 ?_
   intro zw377 zS378
   refine nil_ (blk_n (then_n (reg_ (pure_ (ι 3) (pure_ (ι 4) (pure_ (ι 4) (nil_ (again_ (seq_ (seq_ (reg_ (pure_ (ι 4) (pure_ (φ) (nil_ (then_n (cond_F (wp_exit (then_e (then_e (blk_e (then_n (seq_ (reg_ (pure_ (π zb100 1) (load1_ zS378 0 (ι 1) zb100 1 (pure_ (τ) (pure_ (τ) (pure_ (π zb100 2) (load1_ zS378 0 (ι 0) zb100 2 (pure_ (φ) (pure_ (φ) (pure_ (φ) (skip_ (skip_ (skip_ (pure_ (φ) (pure_ (φ) (nil_ (then_n (wp_ret (ret_ rfl (res_ [.tmp 2] [φ] (φ) ⟨res_tmp, trivial⟩) ?_)))))))))))))))))))))))))))))))))))))))))
   exact ⟨congrArg Value.bool (Bool.eq_false_iff.2 (fun h => by have h2 := (ord_iff q).1 h; omega)).symm, zS378.ch⟩
 intro zh379
 have zh380 := eqF' zh379
 refine split_b ((q 2) == 2) ?_ ?_
 · intro zh381
   have zh382 := eqT' zh381
   refine slotI_ 25 .i64 (q 2) 2 (by omega) ?_
   have zh383 : (q 2) = 2 := by omega
   refine pure_ (π zb100 2) (load1_ zS341 0 (ι 0) zb100 2 (pure_ (ι 1) (pure_ (π zb100 2) ?_)))
   refine store_ zS341 0 (ι 1) zb100 2 ?_
   intro zw384 zS385
   refine nil_ (blk_n (then_n (reg_ (pure_ (ι 2) (pure_ (ι 3) (pure_ (ι 3) (nil_ (again_ (seq_ (seq_ (reg_ (pure_ (ι 3) (pure_ (τ) (nil_ (then_n (cond_T (wp_skip (then_n (seq_ (wp_block (seq_ (seq_ (reg_ (pure_ (ι 3) (pure_ (π zb1 3) (load1_ zS385 1 (ι (q 3)) zb1 3 (call_ 76 #[ι (q 3), ι 1, ι 3] ?_)))))))))))))))))))))))))))
   refine (in_any (q 3) 1 3 _).mono ?_; rintro _ zw386 ⟨rfl, zhc387⟩
   have zS388 := zS385.quiet zhc387
   refine pure_ (.bool (!(inB 1 3 (q 3)))) (nil_ (then_n ?_))
   refine cond_S (!(inB 1 3 (q 3))) ?_ ?_
   · intro zh389
     have zh390 := notT' zh389
     have zh391 := inB_no _ _ _ zh390
     refine seq_ (reg_ (pure_ (φ) (nil_ (then_n (wp_ret (then_r (blk_r (then_r (then_r (blk_r (then_r (ret_ rfl (res_ [.tmp 2] [φ] (φ) ⟨res_tmp, trivial⟩) ?_))))))))))))
     exact ⟨congrArg Value.bool (Bool.eq_false_iff.2 (fun h => by have h2 := (ord_iff q).1 h; omega)).symm, zS388.ch⟩
   intro zh392
   have zh393 := notF' zh392
   have zh394 := inB_is _ _ _ zh393
   refine wp_skip (then_n (reg_ (pure_ (ι 3) (pure_ (π zb1 3) (load1_ zS388 1 (ι (q 3)) zb1 3 ?_)))))
   refine split_b ((q 3) == 1) ?_ ?_
   · intro zh395
     have zh396 := eqT' zh395
     refine slotI_ 25 .i64 (q 3) 1 (by omega) ?_
     have zh397 : (q 3) = 1 := by omega
     refine pure_ (π zb100 1) (load1_ zS388 0 (ι 0) zb100 1 (pure_ (ι 1) (pure_ (π zb100 1) ?_)))
     refine store_ zS388 0 (ι 1) zb100 1 ?_
     intro zw398 zS399
     refine nil_ (blk_n (then_n (reg_ (pure_ (ι 3) (pure_ (ι 4) (pure_ (ι 4) (nil_ (again_ (seq_ (seq_ (reg_ (pure_ (ι 4) (pure_ (φ) (nil_ (then_n (cond_F (wp_exit (then_e (then_e (blk_e (then_n (seq_ (reg_ (pure_ (π zb100 1) (load1_ zS399 0 (ι 1) zb100 1 (pure_ (τ) (pure_ (τ) (pure_ (π zb100 2) (load1_ zS399 0 (ι 1) zb100 2 (pure_ (τ) (pure_ (τ) (pure_ (τ) (pure_ (π zb100 3) (load1_ zS399 0 (ι 1) zb100 3 (pure_ (τ) (pure_ (τ) (pure_ (τ) (nil_ (then_n (wp_ret (ret_ rfl (res_ [.tmp 2] [τ] (τ) ⟨res_tmp, trivial⟩) ?_)))))))))))))))))))))))))))))))))))))))))
     exact ⟨congrArg Value.bool ((ord_iff q).2 (by omega)).symm, zS399.ch⟩
   intro zh400
   have zh401 := eqF' zh400
   refine split_b ((q 3) == 2) ?_ ?_
   · intro zh402
     have zh403 := eqT' zh402
     refine slotI_ 25 .i64 (q 3) 2 (by omega) ?_
     have zh404 : (q 3) = 2 := by omega
     refine pure_ (π zb100 2) (load1_ zS388 0 (ι 1) zb100 2 (pure_ (ι 2) (pure_ (π zb100 2) ?_)))
     refine store_ zS388 0 (ι 2) zb100 2 ?_
     intro zw405 zS406
     refine nil_ (blk_n (then_n (reg_ (pure_ (ι 3) (pure_ (ι 4) (pure_ (ι 4) (nil_ (again_ (seq_ (seq_ (reg_ (pure_ (ι 4) (pure_ (φ) (nil_ (then_n (cond_F (wp_exit (then_e (then_e (blk_e (then_n (seq_ (reg_ (pure_ (π zb100 1) (load1_ zS406 0 (ι 0) zb100 1 (pure_ (φ) (pure_ (φ) (skip_ (skip_ (skip_ (pure_ (φ) (pure_ (φ) (skip_ (skip_ (skip_ (pure_ (φ) (pure_ (φ) (nil_ (then_n (wp_ret (ret_ rfl (res_ [.tmp 2] [φ] (φ) ⟨res_tmp, trivial⟩) ?_)))))))))))))))))))))))))))))))))))))))))
     exact ⟨congrArg Value.bool (Bool.eq_false_iff.2 (fun h => by have h2 := (ord_iff q).1 h; omega)).symm, zS406.ch⟩
   intro zh407
   have zh408 := eqF' zh407
   refine slotI_ 25 .i64 (q 3) 3 (by omega) ?_
   have zh409 : (q 3) = 3 := by omega
   refine pure_ (π zb100 3) (load1_ zS388 0 (ι 1) zb100 3 (pure_ (ι 2) (pure_ (π zb100 3) ?_)))
   refine store_ zS388 0 (ι 2) zb100 3 ?_
   intro zw410 zS411
   refine nil_ (blk_n (then_n (reg_ (pure_ (ι 3) (pure_ (ι 4) (pure_ (ι 4) (nil_ (again_ (seq_ (seq_ (reg_ (pure_ (ι 4) (pure_ (φ) (nil_ (then_n (cond_F (wp_exit (then_e (then_e (blk_e (then_n (seq_ (reg_ (pure_ (π zb100 1) (load1_ zS411 0 (ι 0) zb100 1 (pure_ (φ) (pure_ (φ) (skip_ (skip_ (skip_ (pure_ (φ) (pure_ (φ) (skip_ (skip_ (skip_ (pure_ (φ) (pure_ (φ) (nil_ (then_n (wp_ret (ret_ rfl (res_ [.tmp 2] [φ] (φ) ⟨res_tmp, trivial⟩) ?_)))))))))))))))))))))))))))))))))))))))))
   exact ⟨congrArg Value.bool (Bool.eq_false_iff.2 (fun h => by have h2 := (ord_iff q).1 h; omega)).symm, zS411.ch⟩
 intro zh412
 have zh413 := eqF' zh412
 refine slotI_ 25 .i64 (q 2) 3 (by omega) ?_
 have zh414 : (q 2) = 3 := by omega
 refine pure_ (π zb100 3) (load1_ zS341 0 (ι 1) zb100 3 (pure_ (ι 2) (pure_ (π zb100 3) ?_)))
 refine store_ zS341 0 (ι 2) zb100 3 ?_
 intro zw415 zS416
 refine nil_ (blk_n (then_n (reg_ (pure_ (ι 2) (pure_ (ι 3) (pure_ (ι 3) (nil_ (again_ (seq_ (seq_ (reg_ (pure_ (ι 3) (pure_ (τ) (nil_ (then_n (cond_T (wp_skip (then_n (seq_ (wp_block (seq_ (seq_ (reg_ (pure_ (ι 3) (pure_ (π zb1 3) (load1_ zS416 1 (ι (q 3)) zb1 3 (call_ 76 #[ι (q 3), ι 1, ι 3] ?_)))))))))))))))))))))))))))
 refine (in_any (q 3) 1 3 _).mono ?_; rintro _ zw417 ⟨rfl, zhc418⟩
 have zS419 := zS416.quiet zhc418
 refine pure_ (.bool (!(inB 1 3 (q 3)))) (nil_ (then_n ?_))
 refine cond_S (!(inB 1 3 (q 3))) ?_ ?_
 · intro zh420
   have zh421 := notT' zh420
   have zh422 := inB_no _ _ _ zh421
   refine seq_ (reg_ (pure_ (φ) (nil_ (then_n (wp_ret (then_r (blk_r (then_r (then_r (blk_r (then_r (ret_ rfl (res_ [.tmp 2] [φ] (φ) ⟨res_tmp, trivial⟩) ?_))))))))))))
   exact ⟨congrArg Value.bool (Bool.eq_false_iff.2 (fun h => by have h2 := (ord_iff q).1 h; omega)).symm, zS419.ch⟩
 intro zh423
 have zh424 := notF' zh423
 have zh425 := inB_is _ _ _ zh424
 refine wp_skip (then_n (reg_ (pure_ (ι 3) (pure_ (π zb1 3) (load1_ zS419 1 (ι (q 3)) zb1 3 ?_)))))
 refine split_b ((q 3) == 1) ?_ ?_
 · intro zh426
   have zh427 := eqT' zh426
   refine slotI_ 25 .i64 (q 3) 1 (by omega) ?_
   have zh428 : (q 3) = 1 := by omega
   refine pure_ (π zb100 1) (load1_ zS419 0 (ι 0) zb100 1 (pure_ (ι 1) (pure_ (π zb100 1) ?_)))
   refine store_ zS419 0 (ι 1) zb100 1 ?_
   intro zw429 zS430
   refine nil_ (blk_n (then_n (reg_ (pure_ (ι 3) (pure_ (ι 4) (pure_ (ι 4) (nil_ (again_ (seq_ (seq_ (reg_ (pure_ (ι 4) (pure_ (φ) (nil_ (then_n (cond_F (wp_exit (then_e (then_e (blk_e (then_n (seq_ (reg_ (pure_ (π zb100 1) (load1_ zS430 0 (ι 1) zb100 1 (pure_ (τ) (pure_ (τ) (pure_ (π zb100 2) (load1_ zS430 0 (ι 0) zb100 2 (pure_ (φ) (pure_ (φ) (pure_ (φ) (skip_ (skip_ (skip_ (pure_ (φ) (pure_ (φ) (nil_ (then_n (wp_ret (ret_ rfl (res_ [.tmp 2] [φ] (φ) ⟨res_tmp, trivial⟩) ?_)))))))))))))))))))))))))))))))))))))))))
   exact ⟨congrArg Value.bool (Bool.eq_false_iff.2 (fun h => by have h2 := (ord_iff q).1 h; omega)).symm, zS430.ch⟩
 intro zh431
 have zh432 := eqF' zh431
 refine split_b ((q 3) == 2) ?_ ?_
 · intro zh433
   have zh434 := eqT' zh433
   refine slotI_ 25 .i64 (q 3) 2 (by omega) ?_
   have zh435 : (q 3) = 2 := by omega
   refine pure_ (π zb100 2) (load1_ zS419 0 (ι 0) zb100 2 (pure_ (ι 1) (pure_ (π zb100 2) ?_)))
   refine store_ zS419 0 (ι 1) zb100 2 ?_
   intro zw436 zS437
   refine nil_ (blk_n (then_n (reg_ (pure_ (ι 3) (pure_ (ι 4) (pure_ (ι 4) (nil_ (again_ (seq_ (seq_ (reg_ (pure_ (ι 4) (pure_ (φ) (nil_ (then_n (cond_F (wp_exit (then_e (then_e (blk_e (then_n (seq_ (reg_ (pure_ (π zb100 1) (load1_ zS437 0 (ι 0) zb100 1 (pure_ (φ) (pure_ (φ) (skip_ (skip_ (skip_ (pure_ (φ) (pure_ (φ) (skip_ (skip_ (skip_ (pure_ (φ) (pure_ (φ) (nil_ (then_n (wp_ret (ret_ rfl (res_ [.tmp 2] [φ] (φ) ⟨res_tmp, trivial⟩) ?_)))))))))))))))))))))))))))))))))))))))))
   exact ⟨congrArg Value.bool (Bool.eq_false_iff.2 (fun h => by have h2 := (ord_iff q).1 h; omega)).symm, zS437.ch⟩
 intro zh438
 have zh439 := eqF' zh438
 refine slotI_ 25 .i64 (q 3) 3 (by omega) ?_
 have zh440 : (q 3) = 3 := by omega
 refine pure_ (π zb100 3) (load1_ zS419 0 (ι 2) zb100 3 (pure_ (ι 3) (pure_ (π zb100 3) ?_)))
 refine store_ zS419 0 (ι 3) zb100 3 ?_
 intro zw441 zS442
 refine nil_ (blk_n (then_n (reg_ (pure_ (ι 3) (pure_ (ι 4) (pure_ (ι 4) (nil_ (again_ (seq_ (seq_ (reg_ (pure_ (ι 4) (pure_ (φ) (nil_ (then_n (cond_F (wp_exit (then_e (then_e (blk_e (then_n (seq_ (reg_ (pure_ (π zb100 1) (load1_ zS442 0 (ι 0) zb100 1 (pure_ (φ) (pure_ (φ) (skip_ (skip_ (skip_ (pure_ (φ) (pure_ (φ) (skip_ (skip_ (skip_ (pure_ (φ) (pure_ (φ) (nil_ (then_n (wp_ret (ret_ rfl (res_ [.tmp 2] [φ] (φ) ⟨res_tmp, trivial⟩) ?_)))))))))))))))))))))))))))))))))))))))))
 exact ⟨congrArg Value.bool (Bool.eq_false_iff.2 (fun h => by have h2 := (ord_iff q).1 h; omega)).symm, zS442.ch⟩

set_option maxRecDepth 100000 in
set_option maxHeartbeats 4000000 in
theorem keys_r (q : Nat → Int) (ka : Nat → Option Addr) (kn kc : Nat → Nat) (w : World) :
    Gives Tryz.prog 72 #[.agg (polC q ka kn kc)] w fun v w1 => v = .bool (keys3 kn && keyB (kn 3)) ∧ Ch [] w w1 := by
 have S0 := St.nil [] w
 refine enter_ Tryz.func72 rfl (seq_ (reg_ ?_))
 refine new_ S0 (fun b => π b 0) (.cells (polC q ka kn kc) 28) ?_
 intro zb1 zw2 zS3
 refine pure_ (φ) (nil_ (then_n (seq_ (seq_ (reg_ (pure_ (ι 0) (nil_ (then_n (wp_block (loop_ 24 (seq_ (seq_ (reg_ (pure_ (ι 0) (pure_ (τ) (nil_ (then_n (cond_T (wp_skip (then_n (seq_ (wp_block (seq_ (reg_ (pure_ (ι 0) (pure_ (π zb1 5) (pure_ (π zb1 5) (load1_ zS3 0 (.slice (ka 0) (kn 0) (kc 0)) zb1 5 (pure_ (ι (((kn 0) : Nat) : Int)) (call_ 76 #[ι (((kn 0) : Nat) : Int), ι 1, ι 64] ?_))))))))))))))))))))))))))))))
 refine (in_any (((kn 0) : Nat) : Int) 1 64 _).mono ?_; rintro _ zw4 ⟨rfl, zhc5⟩
 have zS6 := zS3.quiet zhc5
 refine pure_ (.bool (!(inB 1 64 (((kn 0) : Nat) : Int)))) (nil_ (then_n ?_))
 refine cond_S (!(inB 1 64 (((kn 0) : Nat) : Int))) ?_ ?_
 · intro zh7
   have zh8 := notT' zh7
   have zh9 := inB_no _ _ _ zh8
   refine seq_ (reg_ (pure_ (φ) (nil_ (then_n (wp_ret (blk_r (then_r (then_r (blk_r (then_r (ret_ rfl (res_ [.tmp 2] [φ] (φ) ⟨res_tmp, trivial⟩) ?_)))))))))))
   exact ⟨congrArg Value.bool (by simp [keys3, keyB_in, zh7, zh8]), zS6.ch⟩
 intro zh10
 have zh11 := notF' zh10
 have zh12 := inB_is _ _ _ zh11
 refine wp_skip (blk_n (then_n (reg_ (pure_ (ι 0) (pure_ (ι 1) (pure_ (ι 1) (nil_ (again_ (seq_ (seq_ (reg_ (pure_ (ι 1) (pure_ (τ) (nil_ (then_n (cond_T (wp_skip (then_n (seq_ (wp_block (seq_ (reg_ (pure_ (ι 1) (pure_ (π zb1 5) (pure_ (π zb1 6) (load1_ zS6 0 (.slice (ka 1) (kn 1) (kc 1)) zb1 6 (pure_ (ι (((kn 1) : Nat) : Int)) (call_ 76 #[ι (((kn 1) : Nat) : Int), ι 1, ι 64] ?_))))))))))))))))))))))))))))
 refine (in_any (((kn 1) : Nat) : Int) 1 64 _).mono ?_; rintro _ zw13 ⟨rfl, zhc14⟩
 have zS15 := zS6.quiet zhc14
 refine pure_ (.bool (!(inB 1 64 (((kn 1) : Nat) : Int)))) (nil_ (then_n ?_))
 refine cond_S (!(inB 1 64 (((kn 1) : Nat) : Int))) ?_ ?_
 · intro zh16
   have zh17 := notT' zh16
   have zh18 := inB_no _ _ _ zh17
   refine seq_ (reg_ (pure_ (φ) (nil_ (then_n (wp_ret (blk_r (then_r (then_r (blk_r (then_r (ret_ rfl (res_ [.tmp 2] [φ] (φ) ⟨res_tmp, trivial⟩) ?_)))))))))))
   exact ⟨congrArg Value.bool (by simp [keys3, keyB_in, zh10, zh11, zh16, zh17]), zS15.ch⟩
 intro zh19
 have zh20 := notF' zh19
 have zh21 := inB_is _ _ _ zh20
 refine wp_skip (blk_n (then_n (reg_ (pure_ (ι 1) (pure_ (ι 2) (pure_ (ι 2) (nil_ (again_ (seq_ (seq_ (reg_ (pure_ (ι 2) (pure_ (τ) (nil_ (then_n (cond_T (wp_skip (then_n (seq_ (wp_block (seq_ (reg_ (pure_ (ι 2) (pure_ (π zb1 5) (pure_ (π zb1 7) (load1_ zS15 0 (.slice (ka 2) (kn 2) (kc 2)) zb1 7 (pure_ (ι (((kn 2) : Nat) : Int)) (call_ 76 #[ι (((kn 2) : Nat) : Int), ι 1, ι 64] ?_))))))))))))))))))))))))))))
 refine (in_any (((kn 2) : Nat) : Int) 1 64 _).mono ?_; rintro _ zw22 ⟨rfl, zhc23⟩
 have zS24 := zS15.quiet zhc23
 refine pure_ (.bool (!(inB 1 64 (((kn 2) : Nat) : Int)))) (nil_ (then_n ?_))
 refine cond_S (!(inB 1 64 (((kn 2) : Nat) : Int))) ?_ ?_
 · intro zh25
   have zh26 := notT' zh25
   have zh27 := inB_no _ _ _ zh26
   refine seq_ (reg_ (pure_ (φ) (nil_ (then_n (wp_ret (blk_r (then_r (then_r (blk_r (then_r (ret_ rfl (res_ [.tmp 2] [φ] (φ) ⟨res_tmp, trivial⟩) ?_)))))))))))
   exact ⟨congrArg Value.bool (by simp [keys3, keyB_in, zh10, zh11, zh19, zh20, zh25, zh26]), zS24.ch⟩
 intro zh28
 have zh29 := notF' zh28
 have zh30 := inB_is _ _ _ zh29
 refine wp_skip (blk_n (then_n (reg_ (pure_ (ι 2) (pure_ (ι 3) (pure_ (ι 3) (nil_ (again_ (seq_ (seq_ (reg_ (pure_ (ι 3) (pure_ (φ) (nil_ (then_n (cond_F (wp_exit (then_e (then_e (blk_e (then_n (seq_ (reg_ (pure_ (π zb1 8) (load1_ zS24 0 (.slice (ka 3) (kn 3) (kc 3)) zb1 8 (pure_ (ι (((kn 3) : Nat) : Int)) (call_ 76 #[ι (((kn 3) : Nat) : Int), ι 1, ι 64] ?_)))))))))))))))))))))))))))
 refine (in_any (((kn 3) : Nat) : Int) 1 64 _).mono ?_; rintro _ zw31 ⟨rfl, zhc32⟩
 have zS33 := zS24.quiet zhc32
 refine assign_ (nil_ (then_n (wp_ret (ret_ rfl (res_ [.tmp 2] [.bool (inB 1 64 (((kn 3) : Nat) : Int))] (.bool (inB 1 64 (((kn 3) : Nat) : Int))) ⟨res_tmp, trivial⟩) ?_))))
 exact ⟨congrArg Value.bool (by simp [keys3, keyB_in, zh10, zh11, zh19, zh20, zh28, zh29]), zS33.ch⟩

set_option maxRecDepth 100000 in
set_option maxHeartbeats 4000000 in
theorem roles_r (q : Nat → Int) (ka : Nat → Option Addr) (kn kc : Nat → Nat) (w : World) :
    Gives Tryz.prog 73 #[.agg #[ι (q 9), ι (q 10), ι (q 11), ι (q 12), ι (q 13)]] w fun v w1 => v = .bool (q 9 == 1 && (q 13 == 0 && roles3 q)) ∧ Ch [] w w1 := by
 have S0 := St.nil [] w
 refine enter_ Tryz.func73 rfl (seq_ (reg_ ?_))
 refine new_ S0 (fun b => π b 0) (.cells #[ι (q 9), ι (q 10), ι (q 11), ι (q 12), ι (q 13)] 22) ?_
 intro zb1 zw2 zS3
 refine pure_ (φ) (nil_ (then_n (seq_ (seq_ (reg_ (pure_ (ι 1) (nil_ (then_n (wp_block (loop_ 24 (seq_ (seq_ (reg_ (pure_ (ι 1) (pure_ (τ) (nil_ (then_n (cond_T (wp_skip (then_n (seq_ (wp_block (seq_ (reg_ (pure_ (ι 1) (pure_ (π zb1 1) (load1_ zS3 0 (ι (q 10)) zb1 1 (call_ 76 #[ι (q 10), ι 0, ι 15] ?_))))))))))))))))))))))))))))
 refine (in_any (q 10) 0 15 _).mono ?_; rintro _ zw4 ⟨rfl, zhc5⟩
 have zS6 := zS3.quiet zhc5
 refine pure_ (.bool (!(inB 0 15 (q 10)))) (move_ ?_)
 refine slot_ 13 (!(inB 0 15 (q 10))) ?_ ?_
 · intro zh7
   have zh8 := notT' zh7
   have zh9 := inB_no _ _ _ zh8
   refine skip_ (skip_ (skip_ (skip_ (skip_ (pure_ (τ) (nil_ (then_n (cond_T (seq_ (reg_ (pure_ (φ) (nil_ (then_n (wp_ret (blk_r (then_r (then_r (blk_r (then_r (ret_ rfl (res_ [.tmp 2] [φ] (φ) ⟨res_tmp, trivial⟩) ?_))))))))))))))))))))
   exact ⟨congrArg Value.bool (by rw [Bool.eq_iff_iff]; simp [roles3, setB, zh7, zh8]; try omega), zS6.ch⟩
 intro zh10
 have zh11 := notF' zh10
 have zh12 := inB_is _ _ _ zh11
 refine pure_ (ι 1) (pure_ (π zb1 1) (load1_ zS6 0 (ι (q 10)) zb1 1 (pureE_ (ι (Int.tmod (q 10) 2)) (ι ((q 10) % 2)) (congrArg _ (IntWalk.rem_in _ _ (by omega))) (pure_ (.bool (((q 10) % 2) == 1)) (pure_ (.bool (((q 10) % 2) == 1)) (nil_ (then_n ?_)))))))
 refine cond_S (((q 10) % 2) == 1) ?_ ?_
 · intro zh13
   have zh14 := eqT' zh13
   refine seq_ (reg_ (pure_ (φ) (nil_ (then_n (wp_ret (blk_r (then_r (then_r (blk_r (then_r (ret_ rfl (res_ [.tmp 2] [φ] (φ) ⟨res_tmp, trivial⟩) ?_)))))))))))
   exact ⟨congrArg Value.bool (by rw [Bool.eq_iff_iff]; simp [roles3, setB, zh10, zh11, zh13, zh14]; try omega), zS6.ch⟩
 intro zh15
 have zh16 := eqF' zh15
 refine wp_skip (blk_n (then_n (reg_ (pure_ (ι 1) (pure_ (ι 2) (pure_ (ι 2) (nil_ (again_ (seq_ (seq_ (reg_ (pure_ (ι 2) (pure_ (τ) (nil_ (then_n (cond_T (wp_skip (then_n (seq_ (wp_block (seq_ (reg_ (pure_ (ι 2) (pure_ (π zb1 2) (load1_ zS6 0 (ι (q 11)) zb1 2 (call_ 76 #[ι (q 11), ι 0, ι 15] ?_))))))))))))))))))))))))))
 refine (in_any (q 11) 0 15 _).mono ?_; rintro _ zw17 ⟨rfl, zhc18⟩
 have zS19 := zS6.quiet zhc18
 refine pure_ (.bool (!(inB 0 15 (q 11)))) (move_ ?_)
 refine slot_ 13 (!(inB 0 15 (q 11))) ?_ ?_
 · intro zh20
   have zh21 := notT' zh20
   have zh22 := inB_no _ _ _ zh21
   refine skip_ (skip_ (skip_ (skip_ (skip_ (pure_ (τ) (nil_ (then_n (cond_T (seq_ (reg_ (pure_ (φ) (nil_ (then_n (wp_ret (blk_r (then_r (then_r (blk_r (then_r (ret_ rfl (res_ [.tmp 2] [φ] (φ) ⟨res_tmp, trivial⟩) ?_))))))))))))))))))))
   exact ⟨congrArg Value.bool (by rw [Bool.eq_iff_iff]; simp [roles3, setB, zh10, zh11, zh15, zh20, zh21, zh16]; try omega), zS19.ch⟩
 intro zh23
 have zh24 := notF' zh23
 have zh25 := inB_is _ _ _ zh24
 refine pure_ (ι 2) (pure_ (π zb1 2) (load1_ zS19 0 (ι (q 11)) zb1 2 (pureE_ (ι (Int.tmod (q 11) 2)) (ι ((q 11) % 2)) (congrArg _ (IntWalk.rem_in _ _ (by omega))) (pure_ (.bool (((q 11) % 2) == 1)) (pure_ (.bool (((q 11) % 2) == 1)) (nil_ (then_n ?_)))))))
 refine cond_S (((q 11) % 2) == 1) ?_ ?_
 · intro zh26
   have zh27 := eqT' zh26
   refine seq_ (reg_ (pure_ (φ) (nil_ (then_n (wp_ret (blk_r (then_r (then_r (blk_r (then_r (ret_ rfl (res_ [.tmp 2] [φ] (φ) ⟨res_tmp, trivial⟩) ?_)))))))))))
   exact ⟨congrArg Value.bool (by rw [Bool.eq_iff_iff]; simp [roles3, setB, zh10, zh11, zh15, zh23, zh24, zh26, zh16, zh27]; try omega), zS19.ch⟩
 intro zh28
 have zh29 := eqF' zh28
 refine wp_skip (blk_n (then_n (reg_ (pure_ (ι 2) (pure_ (ι 3) (pure_ (ι 3) (nil_ (again_ (seq_ (seq_ (reg_ (pure_ (ι 3) (pure_ (τ) (nil_ (then_n (cond_T (wp_skip (then_n (seq_ (wp_block (seq_ (reg_ (pure_ (ι 3) (pure_ (π zb1 3) (load1_ zS19 0 (ι (q 12)) zb1 3 (call_ 76 #[ι (q 12), ι 0, ι 15] ?_))))))))))))))))))))))))))
 refine (in_any (q 12) 0 15 _).mono ?_; rintro _ zw30 ⟨rfl, zhc31⟩
 have zS32 := zS19.quiet zhc31
 refine pure_ (.bool (!(inB 0 15 (q 12)))) (move_ ?_)
 refine slot_ 13 (!(inB 0 15 (q 12))) ?_ ?_
 · intro zh33
   have zh34 := notT' zh33
   have zh35 := inB_no _ _ _ zh34
   refine skip_ (skip_ (skip_ (skip_ (skip_ (pure_ (τ) (nil_ (then_n (cond_T (seq_ (reg_ (pure_ (φ) (nil_ (then_n (wp_ret (blk_r (then_r (then_r (blk_r (then_r (ret_ rfl (res_ [.tmp 2] [φ] (φ) ⟨res_tmp, trivial⟩) ?_))))))))))))))))))))
   exact ⟨congrArg Value.bool (by rw [Bool.eq_iff_iff]; simp [roles3, setB, zh10, zh11, zh15, zh23, zh24, zh28, zh33, zh34, zh16, zh29]; try omega), zS32.ch⟩
 intro zh36
 have zh37 := notF' zh36
 have zh38 := inB_is _ _ _ zh37
 refine pure_ (ι 3) (pure_ (π zb1 3) (load1_ zS32 0 (ι (q 12)) zb1 3 (pureE_ (ι (Int.tmod (q 12) 2)) (ι ((q 12) % 2)) (congrArg _ (IntWalk.rem_in _ _ (by omega))) (pure_ (.bool (((q 12) % 2) == 1)) (pure_ (.bool (((q 12) % 2) == 1)) (nil_ (then_n ?_)))))))
 refine cond_S (((q 12) % 2) == 1) ?_ ?_
 · intro zh39
   have zh40 := eqT' zh39
   refine seq_ (reg_ (pure_ (φ) (nil_ (then_n (wp_ret (blk_r (then_r (then_r (blk_r (then_r (ret_ rfl (res_ [.tmp 2] [φ] (φ) ⟨res_tmp, trivial⟩) ?_)))))))))))
   exact ⟨congrArg Value.bool (by rw [Bool.eq_iff_iff]; simp [roles3, setB, zh10, zh11, zh15, zh23, zh24, zh28, zh36, zh37, zh39, zh16, zh29, zh40]; try omega), zS32.ch⟩
 intro zh41
 have zh42 := eqF' zh41
 refine wp_skip (blk_n (then_n (reg_ (pure_ (ι 3) (pure_ (ι 4) (pure_ (ι 4) (nil_ (again_ (seq_ (seq_ (reg_ (pure_ (ι 4) (pure_ (φ) (nil_ (then_n (cond_F (wp_exit (then_e (then_e (blk_e (then_n (seq_ (reg_ (pure_ (π zb1 0) (load1_ zS32 0 (ι (q 9)) zb1 0 (pure_ (.bool ((q 9) == 1)) (pure_ (.bool ((q 9) == 1)) ?_)))))))))))))))))))))))))))
 refine slot_ 23 ((q 9) == 1) ?_ ?_
 · intro zh43
   have zh44 := eqT' zh43
   refine pure_ (π zb1 4) (load1_ zS32 0 (ι (q 13)) zb1 4 (pure_ (.bool ((q 13) == 0)) (pure_ (.bool ((q 13) == 0)) (pure_ (.bool ((q 13) == 0)) (nil_ (then_n (wp_ret (ret_ rfl (res_ [.tmp 2] [.bool ((q 13) == 0)] (.bool ((q 13) == 0)) ⟨res_tmp, trivial⟩) ?_))))))))
   exact ⟨congrArg Value.bool (by rw [Bool.eq_iff_iff]; simp [roles3, setB, zh10, zh11, zh15, zh23, zh24, zh28, zh36, zh37, zh41, zh43, zh16, zh29, zh42, zh44]; try omega), zS32.ch⟩
 intro zh45
 have zh46 := eqF' zh45
 refine skip_ (skip_ (skip_ (pure_ (φ) (pure_ (φ) (nil_ (then_n (wp_ret (ret_ rfl (res_ [.tmp 2] [φ] (φ) ⟨res_tmp, trivial⟩) ?_))))))))
 exact ⟨congrArg Value.bool (by rw [Bool.eq_iff_iff]; simp [roles3, setB, zh10, zh11, zh15, zh23, zh24, zh28, zh36, zh37, zh41, zh45, zh16, zh29, zh42, zh46]; try omega), zS32.ch⟩

set_option maxRecDepth 100000 in
set_option maxHeartbeats 4000000 in
theorem caps_r (q : Nat → Int) (ka : Nat → Option Addr) (kn kc : Nat → Nat) (w : World) :
    Gives Tryz.prog 74 #[.agg #[ι (q 14), ι (q 15), ι (q 16), ι (q 17), ι (q 18), ι (q 19), ι (q 20), ι (q 21), ι (q 22), ι (q 23), ι (q 24), ι (q 25), ι (q 26), ι (q 27), ι (q 28), ι (q 29), ι (q 30), ι (q 31), ι (q 32), ι (q 33)]] w fun v w1 => v = .bool (tab5 q) ∧ Ch [] w w1 := by
 have S0 := St.nil [] w
 refine enter_ Tryz.func74 rfl (seq_ (reg_ ?_))
 refine new_ S0 (fun b => π b 0) (.cells #[ι (q 14), ι (q 15), ι (q 16), ι (q 17), ι (q 18), ι (q 19), ι (q 20), ι (q 21), ι (q 22), ι (q 23), ι (q 24), ι (q 25), ι (q 26), ι (q 27), ι (q 28), ι (q 29), ι (q 30), ι (q 31), ι (q 32), ι (q 33)] 26) ?_
 intro zb1 zw2 zS3
 refine pure_ (φ) (nil_ (then_n (seq_ (seq_ (reg_ (pure_ (ι 0) (nil_ (then_n (wp_block (loop_ 24 (seq_ (seq_ (reg_ (pure_ (ι 0) (pure_ (τ) (nil_ (then_n (cond_T (wp_skip (then_n (seq_ (wp_block (seq_ (reg_ (pure_ (ι 0) (nil_ (then_n (wp_block (loop_ 24 (seq_ (seq_ (reg_ (pure_ (ι 0) (pure_ (τ) (nil_ (then_n (cond_T (wp_skip (then_n (seq_ (wp_block (seq_ (reg_ (pure_ (ι 0) (pure_ (ι 0) (pure_ (π zb1 0) (pure_ (π zb1 0) (load1_ zS3 0 (ι (q 14)) zb1 0 (call_ 76 #[ι (q 14), ι 0, ι 15] ?_)))))))))))))))))))))))))))))))))))))))))))))))))
 refine (in_any (q 14) 0 15 _).mono ?_; rintro _ zw4 ⟨rfl, zhc5⟩
 have zS6 := zS3.quiet zhc5
 refine pure_ (.bool (!(inB 0 15 (q 14)))) (nil_ (then_n ?_))
 refine cond_S (!(inB 0 15 (q 14))) ?_ ?_
 · intro zh7
   have zh8 := notT' zh7
   have zh9 := inB_no _ _ _ zh8
   refine seq_ (reg_ (pure_ (φ) (nil_ (then_n (wp_ret (blk_r (then_r (then_r (blk_r (blk_r (then_r (then_r (blk_r (then_r (ret_ rfl (res_ [.tmp 2] [φ] (φ) ⟨res_tmp, trivial⟩) ?_)))))))))))))))
   exact ⟨congrArg Value.bool (by simp [tab5, allI, zh7, zh8]), zS6.ch⟩
 intro zh10
 have zh11 := notF' zh10
 have zh12 := inB_is _ _ _ zh11
 refine wp_skip (blk_n (then_n (reg_ (pure_ (ι 0) (pure_ (ι 1) (pure_ (ι 1) (nil_ (again_ (seq_ (seq_ (reg_ (pure_ (ι 1) (pure_ (τ) (nil_ (then_n (cond_T (wp_skip (then_n (seq_ (wp_block (seq_ (reg_ (pure_ (ι 0) (pure_ (ι 1) (pure_ (π zb1 0) (pure_ (π zb1 1) (load1_ zS6 0 (ι (q 15)) zb1 1 (call_ 76 #[ι (q 15), ι 0, ι 15] ?_))))))))))))))))))))))))))))
 refine (in_any (q 15) 0 15 _).mono ?_; rintro _ zw13 ⟨rfl, zhc14⟩
 have zS15 := zS6.quiet zhc14
 refine pure_ (.bool (!(inB 0 15 (q 15)))) (nil_ (then_n ?_))
 refine cond_S (!(inB 0 15 (q 15))) ?_ ?_
 · intro zh16
   have zh17 := notT' zh16
   have zh18 := inB_no _ _ _ zh17
   refine seq_ (reg_ (pure_ (φ) (nil_ (then_n (wp_ret (blk_r (then_r (then_r (blk_r (blk_r (then_r (then_r (blk_r (then_r (ret_ rfl (res_ [.tmp 2] [φ] (φ) ⟨res_tmp, trivial⟩) ?_)))))))))))))))
   exact ⟨congrArg Value.bool (by simp [tab5, allI, zh10, zh11, zh16, zh17]), zS15.ch⟩
 intro zh19
 have zh20 := notF' zh19
 have zh21 := inB_is _ _ _ zh20
 refine wp_skip (blk_n (then_n (reg_ (pure_ (ι 1) (pure_ (ι 2) (pure_ (ι 2) (nil_ (again_ (seq_ (seq_ (reg_ (pure_ (ι 2) (pure_ (τ) (nil_ (then_n (cond_T (wp_skip (then_n (seq_ (wp_block (seq_ (reg_ (pure_ (ι 0) (pure_ (ι 2) (pure_ (π zb1 0) (pure_ (π zb1 2) (load1_ zS15 0 (ι (q 16)) zb1 2 (call_ 76 #[ι (q 16), ι 0, ι 15] ?_))))))))))))))))))))))))))))
 refine (in_any (q 16) 0 15 _).mono ?_; rintro _ zw22 ⟨rfl, zhc23⟩
 have zS24 := zS15.quiet zhc23
 refine pure_ (.bool (!(inB 0 15 (q 16)))) (nil_ (then_n ?_))
 refine cond_S (!(inB 0 15 (q 16))) ?_ ?_
 · intro zh25
   have zh26 := notT' zh25
   have zh27 := inB_no _ _ _ zh26
   refine seq_ (reg_ (pure_ (φ) (nil_ (then_n (wp_ret (blk_r (then_r (then_r (blk_r (blk_r (then_r (then_r (blk_r (then_r (ret_ rfl (res_ [.tmp 2] [φ] (φ) ⟨res_tmp, trivial⟩) ?_)))))))))))))))
   exact ⟨congrArg Value.bool (by simp [tab5, allI, zh10, zh11, zh19, zh20, zh25, zh26]), zS24.ch⟩
 intro zh28
 have zh29 := notF' zh28
 have zh30 := inB_is _ _ _ zh29
 refine wp_skip (blk_n (then_n (reg_ (pure_ (ι 2) (pure_ (ι 3) (pure_ (ι 3) (nil_ (again_ (seq_ (seq_ (reg_ (pure_ (ι 3) (pure_ (τ) (nil_ (then_n (cond_T (wp_skip (then_n (seq_ (wp_block (seq_ (reg_ (pure_ (ι 0) (pure_ (ι 3) (pure_ (π zb1 0) (pure_ (π zb1 3) (load1_ zS24 0 (ι (q 17)) zb1 3 (call_ 76 #[ι (q 17), ι 0, ι 15] ?_))))))))))))))))))))))))))))
 refine (in_any (q 17) 0 15 _).mono ?_; rintro _ zw31 ⟨rfl, zhc32⟩
 have zS33 := zS24.quiet zhc32
 refine pure_ (.bool (!(inB 0 15 (q 17)))) (nil_ (then_n ?_))
 refine cond_S (!(inB 0 15 (q 17))) ?_ ?_
 · intro zh34
   have zh35 := notT' zh34
   have zh36 := inB_no _ _ _ zh35
   refine seq_ (reg_ (pure_ (φ) (nil_ (then_n (wp_ret (blk_r (then_r (then_r (blk_r (blk_r (then_r (then_r (blk_r (then_r (ret_ rfl (res_ [.tmp 2] [φ] (φ) ⟨res_tmp, trivial⟩) ?_)))))))))))))))
   exact ⟨congrArg Value.bool (by simp [tab5, allI, zh10, zh11, zh19, zh20, zh28, zh29, zh34, zh35]), zS33.ch⟩
 intro zh37
 have zh38 := notF' zh37
 have zh39 := inB_is _ _ _ zh38
 refine wp_skip (blk_n (then_n (reg_ (pure_ (ι 3) (pure_ (ι 4) (pure_ (ι 4) (nil_ (again_ (seq_ (seq_ (reg_ (pure_ (ι 4) (pure_ (φ) (nil_ (then_n (cond_F (wp_exit (then_e (then_e (blk_e (blk_n (then_n (reg_ (pure_ (ι 0) (pure_ (ι 1) (pure_ (ι 1) (nil_ (again_ (seq_ (seq_ (reg_ (pure_ (ι 1) (pure_ (τ) (nil_ (then_n (cond_T (wp_skip (then_n (seq_ (wp_block (seq_ (reg_ (pure_ (ι 0) (nil_ (then_n (wp_block (loop_ 24 (seq_ (seq_ (reg_ (pure_ (ι 0) (pure_ (τ) (nil_ (then_n (cond_T (wp_skip (then_n (seq_ (wp_block (seq_ (reg_ (pure_ (ι 1) (pure_ (ι 0) (pure_ (π zb1 4) (pure_ (π zb1 4) (load1_ zS33 0 (ι (q 18)) zb1 4 (call_ 76 #[ι (q 18), ι 0, ι 15] ?_)))))))))))))))))))))))))))))))))))))))))))))))))))))))))))))))))))
 refine (in_any (q 18) 0 15 _).mono ?_; rintro _ zw40 ⟨rfl, zhc41⟩
 have zS42 := zS33.quiet zhc41
 refine pure_ (.bool (!(inB 0 15 (q 18)))) (nil_ (then_n ?_))
 refine cond_S (!(inB 0 15 (q 18))) ?_ ?_
 · intro zh43
   have zh44 := notT' zh43
   have zh45 := inB_no _ _ _ zh44
   refine seq_ (reg_ (pure_ (φ) (nil_ (then_n (wp_ret (blk_r (then_r (then_r (blk_r (blk_r (then_r (then_r (blk_r (then_r (ret_ rfl (res_ [.tmp 2] [φ] (φ) ⟨res_tmp, trivial⟩) ?_)))))))))))))))
   exact ⟨congrArg Value.bool (by simp [tab5, allI, zh10, zh11, zh19, zh20, zh28, zh29, zh37, zh38, zh43, zh44]), zS42.ch⟩
 intro zh46
 have zh47 := notF' zh46
 have zh48 := inB_is _ _ _ zh47
 refine wp_skip (blk_n (then_n (reg_ (pure_ (ι 0) (pure_ (ι 1) (pure_ (ι 1) (nil_ (again_ (seq_ (seq_ (reg_ (pure_ (ι 1) (pure_ (τ) (nil_ (then_n (cond_T (wp_skip (then_n (seq_ (wp_block (seq_ (reg_ (pure_ (ι 1) (pure_ (ι 1) (pure_ (π zb1 4) (pure_ (π zb1 5) (load1_ zS42 0 (ι (q 19)) zb1 5 (call_ 76 #[ι (q 19), ι 0, ι 15] ?_))))))))))))))))))))))))))))
 refine (in_any (q 19) 0 15 _).mono ?_; rintro _ zw49 ⟨rfl, zhc50⟩
 have zS51 := zS42.quiet zhc50
 refine pure_ (.bool (!(inB 0 15 (q 19)))) (nil_ (then_n ?_))
 refine cond_S (!(inB 0 15 (q 19))) ?_ ?_
 · intro zh52
   have zh53 := notT' zh52
   have zh54 := inB_no _ _ _ zh53
   refine seq_ (reg_ (pure_ (φ) (nil_ (then_n (wp_ret (blk_r (then_r (then_r (blk_r (blk_r (then_r (then_r (blk_r (then_r (ret_ rfl (res_ [.tmp 2] [φ] (φ) ⟨res_tmp, trivial⟩) ?_)))))))))))))))
   exact ⟨congrArg Value.bool (by simp [tab5, allI, zh10, zh11, zh19, zh20, zh28, zh29, zh37, zh38, zh46, zh47, zh52, zh53]), zS51.ch⟩
 intro zh55
 have zh56 := notF' zh55
 have zh57 := inB_is _ _ _ zh56
 refine wp_skip (blk_n (then_n (reg_ (pure_ (ι 1) (pure_ (ι 2) (pure_ (ι 2) (nil_ (again_ (seq_ (seq_ (reg_ (pure_ (ι 2) (pure_ (τ) (nil_ (then_n (cond_T (wp_skip (then_n (seq_ (wp_block (seq_ (reg_ (pure_ (ι 1) (pure_ (ι 2) (pure_ (π zb1 4) (pure_ (π zb1 6) (load1_ zS51 0 (ι (q 20)) zb1 6 (call_ 76 #[ι (q 20), ι 0, ι 15] ?_))))))))))))))))))))))))))))
 refine (in_any (q 20) 0 15 _).mono ?_; rintro _ zw58 ⟨rfl, zhc59⟩
 have zS60 := zS51.quiet zhc59
 refine pure_ (.bool (!(inB 0 15 (q 20)))) (nil_ (then_n ?_))
 refine cond_S (!(inB 0 15 (q 20))) ?_ ?_
 · intro zh61
   have zh62 := notT' zh61
   have zh63 := inB_no _ _ _ zh62
   refine seq_ (reg_ (pure_ (φ) (nil_ (then_n (wp_ret (blk_r (then_r (then_r (blk_r (blk_r (then_r (then_r (blk_r (then_r (ret_ rfl (res_ [.tmp 2] [φ] (φ) ⟨res_tmp, trivial⟩) ?_)))))))))))))))
   exact ⟨congrArg Value.bool (by simp [tab5, allI, zh10, zh11, zh19, zh20, zh28, zh29, zh37, zh38, zh46, zh47, zh55, zh56, zh61, zh62]), zS60.ch⟩
 intro zh64
 have zh65 := notF' zh64
 have zh66 := inB_is _ _ _ zh65
 refine wp_skip (blk_n (then_n (reg_ (pure_ (ι 2) (pure_ (ι 3) (pure_ (ι 3) (nil_ (again_ (seq_ (seq_ (reg_ (pure_ (ι 3) (pure_ (τ) (nil_ (then_n (cond_T (wp_skip (then_n (seq_ (wp_block (seq_ (reg_ (pure_ (ι 1) (pure_ (ι 3) (pure_ (π zb1 4) (pure_ (π zb1 7) (load1_ zS60 0 (ι (q 21)) zb1 7 (call_ 76 #[ι (q 21), ι 0, ι 15] ?_))))))))))))))))))))))))))))
 refine (in_any (q 21) 0 15 _).mono ?_; rintro _ zw67 ⟨rfl, zhc68⟩
 have zS69 := zS60.quiet zhc68
 refine pure_ (.bool (!(inB 0 15 (q 21)))) (nil_ (then_n ?_))
 refine cond_S (!(inB 0 15 (q 21))) ?_ ?_
 · intro zh70
   have zh71 := notT' zh70
   have zh72 := inB_no _ _ _ zh71
   refine seq_ (reg_ (pure_ (φ) (nil_ (then_n (wp_ret (blk_r (then_r (then_r (blk_r (blk_r (then_r (then_r (blk_r (then_r (ret_ rfl (res_ [.tmp 2] [φ] (φ) ⟨res_tmp, trivial⟩) ?_)))))))))))))))
   exact ⟨congrArg Value.bool (by simp [tab5, allI, zh10, zh11, zh19, zh20, zh28, zh29, zh37, zh38, zh46, zh47, zh55, zh56, zh64, zh65, zh70, zh71]), zS69.ch⟩
 intro zh73
 have zh74 := notF' zh73
 have zh75 := inB_is _ _ _ zh74
 refine wp_skip (blk_n (then_n (reg_ (pure_ (ι 3) (pure_ (ι 4) (pure_ (ι 4) (nil_ (again_ (seq_ (seq_ (reg_ (pure_ (ι 4) (pure_ (φ) (nil_ (then_n (cond_F (wp_exit (then_e (then_e (blk_e (blk_n (then_n (reg_ (pure_ (ι 1) (pure_ (ι 2) (pure_ (ι 2) (nil_ (again_ (seq_ (seq_ (reg_ (pure_ (ι 2) (pure_ (τ) (nil_ (then_n (cond_T (wp_skip (then_n (seq_ (wp_block (seq_ (reg_ (pure_ (ι 0) (nil_ (then_n (wp_block (loop_ 24 (seq_ (seq_ (reg_ (pure_ (ι 0) (pure_ (τ) (nil_ (then_n (cond_T (wp_skip (then_n (seq_ (wp_block (seq_ (reg_ (pure_ (ι 2) (pure_ (ι 0) (pure_ (π zb1 8) (pure_ (π zb1 8) (load1_ zS69 0 (ι (q 22)) zb1 8 (call_ 76 #[ι (q 22), ι 0, ι 15] ?_)))))))))))))))))))))))))))))))))))))))))))))))))))))))))))))))))))
 refine (in_any (q 22) 0 15 _).mono ?_; rintro _ zw76 ⟨rfl, zhc77⟩
 have zS78 := zS69.quiet zhc77
 refine pure_ (.bool (!(inB 0 15 (q 22)))) (nil_ (then_n ?_))
 refine cond_S (!(inB 0 15 (q 22))) ?_ ?_
 · intro zh79
   have zh80 := notT' zh79
   have zh81 := inB_no _ _ _ zh80
   refine seq_ (reg_ (pure_ (φ) (nil_ (then_n (wp_ret (blk_r (then_r (then_r (blk_r (blk_r (then_r (then_r (blk_r (then_r (ret_ rfl (res_ [.tmp 2] [φ] (φ) ⟨res_tmp, trivial⟩) ?_)))))))))))))))
   exact ⟨congrArg Value.bool (by simp [tab5, allI, zh10, zh11, zh19, zh20, zh28, zh29, zh37, zh38, zh46, zh47, zh55, zh56, zh64, zh65, zh73, zh74, zh79, zh80]), zS78.ch⟩
 intro zh82
 have zh83 := notF' zh82
 have zh84 := inB_is _ _ _ zh83
 refine wp_skip (blk_n (then_n (reg_ (pure_ (ι 0) (pure_ (ι 1) (pure_ (ι 1) (nil_ (again_ (seq_ (seq_ (reg_ (pure_ (ι 1) (pure_ (τ) (nil_ (then_n (cond_T (wp_skip (then_n (seq_ (wp_block (seq_ (reg_ (pure_ (ι 2) (pure_ (ι 1) (pure_ (π zb1 8) (pure_ (π zb1 9) (load1_ zS78 0 (ι (q 23)) zb1 9 (call_ 76 #[ι (q 23), ι 0, ι 15] ?_))))))))))))))))))))))))))))
 refine (in_any (q 23) 0 15 _).mono ?_; rintro _ zw85 ⟨rfl, zhc86⟩
 have zS87 := zS78.quiet zhc86
 refine pure_ (.bool (!(inB 0 15 (q 23)))) (nil_ (then_n ?_))
 refine cond_S (!(inB 0 15 (q 23))) ?_ ?_
 · intro zh88
   have zh89 := notT' zh88
   have zh90 := inB_no _ _ _ zh89
   refine seq_ (reg_ (pure_ (φ) (nil_ (then_n (wp_ret (blk_r (then_r (then_r (blk_r (blk_r (then_r (then_r (blk_r (then_r (ret_ rfl (res_ [.tmp 2] [φ] (φ) ⟨res_tmp, trivial⟩) ?_)))))))))))))))
   exact ⟨congrArg Value.bool (by simp [tab5, allI, zh10, zh11, zh19, zh20, zh28, zh29, zh37, zh38, zh46, zh47, zh55, zh56, zh64, zh65, zh73, zh74, zh82, zh83, zh88, zh89]), zS87.ch⟩
 intro zh91
 have zh92 := notF' zh91
 have zh93 := inB_is _ _ _ zh92
 refine wp_skip (blk_n (then_n (reg_ (pure_ (ι 1) (pure_ (ι 2) (pure_ (ι 2) (nil_ (again_ (seq_ (seq_ (reg_ (pure_ (ι 2) (pure_ (τ) (nil_ (then_n (cond_T (wp_skip (then_n (seq_ (wp_block (seq_ (reg_ (pure_ (ι 2) (pure_ (ι 2) (pure_ (π zb1 8) (pure_ (π zb1 10) (load1_ zS87 0 (ι (q 24)) zb1 10 (call_ 76 #[ι (q 24), ι 0, ι 15] ?_))))))))))))))))))))))))))))
 refine (in_any (q 24) 0 15 _).mono ?_; rintro _ zw94 ⟨rfl, zhc95⟩
 have zS96 := zS87.quiet zhc95
 refine pure_ (.bool (!(inB 0 15 (q 24)))) (nil_ (then_n ?_))
 refine cond_S (!(inB 0 15 (q 24))) ?_ ?_
 · intro zh97
   have zh98 := notT' zh97
   have zh99 := inB_no _ _ _ zh98
   refine seq_ (reg_ (pure_ (φ) (nil_ (then_n (wp_ret (blk_r (then_r (then_r (blk_r (blk_r (then_r (then_r (blk_r (then_r (ret_ rfl (res_ [.tmp 2] [φ] (φ) ⟨res_tmp, trivial⟩) ?_)))))))))))))))
   exact ⟨congrArg Value.bool (by simp [tab5, allI, zh10, zh11, zh19, zh20, zh28, zh29, zh37, zh38, zh46, zh47, zh55, zh56, zh64, zh65, zh73, zh74, zh82, zh83, zh91, zh92, zh97, zh98]), zS96.ch⟩
 intro zh100
 have zh101 := notF' zh100
 have zh102 := inB_is _ _ _ zh101
 refine wp_skip (blk_n (then_n (reg_ (pure_ (ι 2) (pure_ (ι 3) (pure_ (ι 3) (nil_ (again_ (seq_ (seq_ (reg_ (pure_ (ι 3) (pure_ (τ) (nil_ (then_n (cond_T (wp_skip (then_n (seq_ (wp_block (seq_ (reg_ (pure_ (ι 2) (pure_ (ι 3) (pure_ (π zb1 8) (pure_ (π zb1 11) (load1_ zS96 0 (ι (q 25)) zb1 11 (call_ 76 #[ι (q 25), ι 0, ι 15] ?_))))))))))))))))))))))))))))
 refine (in_any (q 25) 0 15 _).mono ?_; rintro _ zw103 ⟨rfl, zhc104⟩
 have zS105 := zS96.quiet zhc104
 refine pure_ (.bool (!(inB 0 15 (q 25)))) (nil_ (then_n ?_))
 refine cond_S (!(inB 0 15 (q 25))) ?_ ?_
 · intro zh106
   have zh107 := notT' zh106
   have zh108 := inB_no _ _ _ zh107
   refine seq_ (reg_ (pure_ (φ) (nil_ (then_n (wp_ret (blk_r (then_r (then_r (blk_r (blk_r (then_r (then_r (blk_r (then_r (ret_ rfl (res_ [.tmp 2] [φ] (φ) ⟨res_tmp, trivial⟩) ?_)))))))))))))))
   exact ⟨congrArg Value.bool (by simp [tab5, allI, zh10, zh11, zh19, zh20, zh28, zh29, zh37, zh38, zh46, zh47, zh55, zh56, zh64, zh65, zh73, zh74, zh82, zh83, zh91, zh92, zh100, zh101, zh106, zh107]), zS105.ch⟩
 intro zh109
 have zh110 := notF' zh109
 have zh111 := inB_is _ _ _ zh110
 refine wp_skip (blk_n (then_n (reg_ (pure_ (ι 3) (pure_ (ι 4) (pure_ (ι 4) (nil_ (again_ (seq_ (seq_ (reg_ (pure_ (ι 4) (pure_ (φ) (nil_ (then_n (cond_F (wp_exit (then_e (then_e (blk_e (blk_n (then_n (reg_ (pure_ (ι 2) (pure_ (ι 3) (pure_ (ι 3) (nil_ (again_ (seq_ (seq_ (reg_ (pure_ (ι 3) (pure_ (τ) (nil_ (then_n (cond_T (wp_skip (then_n (seq_ (wp_block (seq_ (reg_ (pure_ (ι 0) (nil_ (then_n (wp_block (loop_ 24 (seq_ (seq_ (reg_ (pure_ (ι 0) (pure_ (τ) (nil_ (then_n (cond_T (wp_skip (then_n (seq_ (wp_block (seq_ (reg_ (pure_ (ι 3) (pure_ (ι 0) (pure_ (π zb1 12) (pure_ (π zb1 12) (load1_ zS105 0 (ι (q 26)) zb1 12 (call_ 76 #[ι (q 26), ι 0, ι 15] ?_)))))))))))))))))))))))))))))))))))))))))))))))))))))))))))))))))))
 refine (in_any (q 26) 0 15 _).mono ?_; rintro _ zw112 ⟨rfl, zhc113⟩
 have zS114 := zS105.quiet zhc113
 refine pure_ (.bool (!(inB 0 15 (q 26)))) (nil_ (then_n ?_))
 refine cond_S (!(inB 0 15 (q 26))) ?_ ?_
 · intro zh115
   have zh116 := notT' zh115
   have zh117 := inB_no _ _ _ zh116
   refine seq_ (reg_ (pure_ (φ) (nil_ (then_n (wp_ret (blk_r (then_r (then_r (blk_r (blk_r (then_r (then_r (blk_r (then_r (ret_ rfl (res_ [.tmp 2] [φ] (φ) ⟨res_tmp, trivial⟩) ?_)))))))))))))))
   exact ⟨congrArg Value.bool (by simp [tab5, allI, zh10, zh11, zh19, zh20, zh28, zh29, zh37, zh38, zh46, zh47, zh55, zh56, zh64, zh65, zh73, zh74, zh82, zh83, zh91, zh92, zh100, zh101, zh109, zh110, zh115, zh116]), zS114.ch⟩
 intro zh118
 have zh119 := notF' zh118
 have zh120 := inB_is _ _ _ zh119
 refine wp_skip (blk_n (then_n (reg_ (pure_ (ι 0) (pure_ (ι 1) (pure_ (ι 1) (nil_ (again_ (seq_ (seq_ (reg_ (pure_ (ι 1) (pure_ (τ) (nil_ (then_n (cond_T (wp_skip (then_n (seq_ (wp_block (seq_ (reg_ (pure_ (ι 3) (pure_ (ι 1) (pure_ (π zb1 12) (pure_ (π zb1 13) (load1_ zS114 0 (ι (q 27)) zb1 13 (call_ 76 #[ι (q 27), ι 0, ι 15] ?_))))))))))))))))))))))))))))
 refine (in_any (q 27) 0 15 _).mono ?_; rintro _ zw121 ⟨rfl, zhc122⟩
 have zS123 := zS114.quiet zhc122
 refine pure_ (.bool (!(inB 0 15 (q 27)))) (nil_ (then_n ?_))
 refine cond_S (!(inB 0 15 (q 27))) ?_ ?_
 · intro zh124
   have zh125 := notT' zh124
   have zh126 := inB_no _ _ _ zh125
   refine seq_ (reg_ (pure_ (φ) (nil_ (then_n (wp_ret (blk_r (then_r (then_r (blk_r (blk_r (then_r (then_r (blk_r (then_r (ret_ rfl (res_ [.tmp 2] [φ] (φ) ⟨res_tmp, trivial⟩) ?_)))))))))))))))
   exact ⟨congrArg Value.bool (by simp [tab5, allI, zh10, zh11, zh19, zh20, zh28, zh29, zh37, zh38, zh46, zh47, zh55, zh56, zh64, zh65, zh73, zh74, zh82, zh83, zh91, zh92, zh100, zh101, zh109, zh110, zh118, zh119, zh124, zh125]), zS123.ch⟩
 intro zh127
 have zh128 := notF' zh127
 have zh129 := inB_is _ _ _ zh128
 refine wp_skip (blk_n (then_n (reg_ (pure_ (ι 1) (pure_ (ι 2) (pure_ (ι 2) (nil_ (again_ (seq_ (seq_ (reg_ (pure_ (ι 2) (pure_ (τ) (nil_ (then_n (cond_T (wp_skip (then_n (seq_ (wp_block (seq_ (reg_ (pure_ (ι 3) (pure_ (ι 2) (pure_ (π zb1 12) (pure_ (π zb1 14) (load1_ zS123 0 (ι (q 28)) zb1 14 (call_ 76 #[ι (q 28), ι 0, ι 15] ?_))))))))))))))))))))))))))))
 refine (in_any (q 28) 0 15 _).mono ?_; rintro _ zw130 ⟨rfl, zhc131⟩
 have zS132 := zS123.quiet zhc131
 refine pure_ (.bool (!(inB 0 15 (q 28)))) (nil_ (then_n ?_))
 refine cond_S (!(inB 0 15 (q 28))) ?_ ?_
 · intro zh133
   have zh134 := notT' zh133
   have zh135 := inB_no _ _ _ zh134
   refine seq_ (reg_ (pure_ (φ) (nil_ (then_n (wp_ret (blk_r (then_r (then_r (blk_r (blk_r (then_r (then_r (blk_r (then_r (ret_ rfl (res_ [.tmp 2] [φ] (φ) ⟨res_tmp, trivial⟩) ?_)))))))))))))))
   exact ⟨congrArg Value.bool (by simp [tab5, allI, zh10, zh11, zh19, zh20, zh28, zh29, zh37, zh38, zh46, zh47, zh55, zh56, zh64, zh65, zh73, zh74, zh82, zh83, zh91, zh92, zh100, zh101, zh109, zh110, zh118, zh119, zh127, zh128, zh133, zh134]), zS132.ch⟩
 intro zh136
 have zh137 := notF' zh136
 have zh138 := inB_is _ _ _ zh137
 refine wp_skip (blk_n (then_n (reg_ (pure_ (ι 2) (pure_ (ι 3) (pure_ (ι 3) (nil_ (again_ (seq_ (seq_ (reg_ (pure_ (ι 3) (pure_ (τ) (nil_ (then_n (cond_T (wp_skip (then_n (seq_ (wp_block (seq_ (reg_ (pure_ (ι 3) (pure_ (ι 3) (pure_ (π zb1 12) (pure_ (π zb1 15) (load1_ zS132 0 (ι (q 29)) zb1 15 (call_ 76 #[ι (q 29), ι 0, ι 15] ?_))))))))))))))))))))))))))))
 refine (in_any (q 29) 0 15 _).mono ?_; rintro _ zw139 ⟨rfl, zhc140⟩
 have zS141 := zS132.quiet zhc140
 refine pure_ (.bool (!(inB 0 15 (q 29)))) (nil_ (then_n ?_))
 refine cond_S (!(inB 0 15 (q 29))) ?_ ?_
 · intro zh142
   have zh143 := notT' zh142
   have zh144 := inB_no _ _ _ zh143
   refine seq_ (reg_ (pure_ (φ) (nil_ (then_n (wp_ret (blk_r (then_r (then_r (blk_r (blk_r (then_r (then_r (blk_r (then_r (ret_ rfl (res_ [.tmp 2] [φ] (φ) ⟨res_tmp, trivial⟩) ?_)))))))))))))))
   exact ⟨congrArg Value.bool (by simp [tab5, allI, zh10, zh11, zh19, zh20, zh28, zh29, zh37, zh38, zh46, zh47, zh55, zh56, zh64, zh65, zh73, zh74, zh82, zh83, zh91, zh92, zh100, zh101, zh109, zh110, zh118, zh119, zh127, zh128, zh136, zh137, zh142, zh143]), zS141.ch⟩
 intro zh145
 have zh146 := notF' zh145
 have zh147 := inB_is _ _ _ zh146
 refine wp_skip (blk_n (then_n (reg_ (pure_ (ι 3) (pure_ (ι 4) (pure_ (ι 4) (nil_ (again_ (seq_ (seq_ (reg_ (pure_ (ι 4) (pure_ (φ) (nil_ (then_n (cond_F (wp_exit (then_e (then_e (blk_e (blk_n (then_n (reg_ (pure_ (ι 3) (pure_ (ι 4) (pure_ (ι 4) (nil_ (again_ (seq_ (seq_ (reg_ (pure_ (ι 4) (pure_ (τ) (nil_ (then_n (cond_T (wp_skip (then_n (seq_ (wp_block (seq_ (reg_ (pure_ (ι 0) (nil_ (then_n (wp_block (loop_ 24 (seq_ (seq_ (reg_ (pure_ (ι 0) (pure_ (τ) (nil_ (then_n (cond_T (wp_skip (then_n (seq_ (wp_block (seq_ (reg_ (pure_ (ι 4) (pure_ (ι 0) (pure_ (π zb1 16) (pure_ (π zb1 16) (load1_ zS141 0 (ι (q 30)) zb1 16 (call_ 76 #[ι (q 30), ι 0, ι 15] ?_)))))))))))))))))))))))))))))))))))))))))))))))))))))))))))))))))))
 refine (in_any (q 30) 0 15 _).mono ?_; rintro _ zw148 ⟨rfl, zhc149⟩
 have zS150 := zS141.quiet zhc149
 refine pure_ (.bool (!(inB 0 15 (q 30)))) (nil_ (then_n ?_))
 refine cond_S (!(inB 0 15 (q 30))) ?_ ?_
 · intro zh151
   have zh152 := notT' zh151
   have zh153 := inB_no _ _ _ zh152
   refine seq_ (reg_ (pure_ (φ) (nil_ (then_n (wp_ret (blk_r (then_r (then_r (blk_r (blk_r (then_r (then_r (blk_r (then_r (ret_ rfl (res_ [.tmp 2] [φ] (φ) ⟨res_tmp, trivial⟩) ?_)))))))))))))))
   exact ⟨congrArg Value.bool (by simp [tab5, allI, zh10, zh11, zh19, zh20, zh28, zh29, zh37, zh38, zh46, zh47, zh55, zh56, zh64, zh65, zh73, zh74, zh82, zh83, zh91, zh92, zh100, zh101, zh109, zh110, zh118, zh119, zh127, zh128, zh136, zh137, zh145, zh146, zh151, zh152]), zS150.ch⟩
 intro zh154
 have zh155 := notF' zh154
 have zh156 := inB_is _ _ _ zh155
 refine wp_skip (blk_n (then_n (reg_ (pure_ (ι 0) (pure_ (ι 1) (pure_ (ι 1) (nil_ (again_ (seq_ (seq_ (reg_ (pure_ (ι 1) (pure_ (τ) (nil_ (then_n (cond_T (wp_skip (then_n (seq_ (wp_block (seq_ (reg_ (pure_ (ι 4) (pure_ (ι 1) (pure_ (π zb1 16) (pure_ (π zb1 17) (load1_ zS150 0 (ι (q 31)) zb1 17 (call_ 76 #[ι (q 31), ι 0, ι 15] ?_))))))))))))))))))))))))))))
 refine (in_any (q 31) 0 15 _).mono ?_; rintro _ zw157 ⟨rfl, zhc158⟩
 have zS159 := zS150.quiet zhc158
 refine pure_ (.bool (!(inB 0 15 (q 31)))) (nil_ (then_n ?_))
 refine cond_S (!(inB 0 15 (q 31))) ?_ ?_
 · intro zh160
   have zh161 := notT' zh160
   have zh162 := inB_no _ _ _ zh161
   refine seq_ (reg_ (pure_ (φ) (nil_ (then_n (wp_ret (blk_r (then_r (then_r (blk_r (blk_r (then_r (then_r (blk_r (then_r (ret_ rfl (res_ [.tmp 2] [φ] (φ) ⟨res_tmp, trivial⟩) ?_)))))))))))))))
   exact ⟨congrArg Value.bool (by simp [tab5, allI, zh10, zh11, zh19, zh20, zh28, zh29, zh37, zh38, zh46, zh47, zh55, zh56, zh64, zh65, zh73, zh74, zh82, zh83, zh91, zh92, zh100, zh101, zh109, zh110, zh118, zh119, zh127, zh128, zh136, zh137, zh145, zh146, zh154, zh155, zh160, zh161]), zS159.ch⟩
 intro zh163
 have zh164 := notF' zh163
 have zh165 := inB_is _ _ _ zh164
 refine wp_skip (blk_n (then_n (reg_ (pure_ (ι 1) (pure_ (ι 2) (pure_ (ι 2) (nil_ (again_ (seq_ (seq_ (reg_ (pure_ (ι 2) (pure_ (τ) (nil_ (then_n (cond_T (wp_skip (then_n (seq_ (wp_block (seq_ (reg_ (pure_ (ι 4) (pure_ (ι 2) (pure_ (π zb1 16) (pure_ (π zb1 18) (load1_ zS159 0 (ι (q 32)) zb1 18 (call_ 76 #[ι (q 32), ι 0, ι 15] ?_))))))))))))))))))))))))))))
 refine (in_any (q 32) 0 15 _).mono ?_; rintro _ zw166 ⟨rfl, zhc167⟩
 have zS168 := zS159.quiet zhc167
 refine pure_ (.bool (!(inB 0 15 (q 32)))) (nil_ (then_n ?_))
 refine cond_S (!(inB 0 15 (q 32))) ?_ ?_
 · intro zh169
   have zh170 := notT' zh169
   have zh171 := inB_no _ _ _ zh170
   refine seq_ (reg_ (pure_ (φ) (nil_ (then_n (wp_ret (blk_r (then_r (then_r (blk_r (blk_r (then_r (then_r (blk_r (then_r (ret_ rfl (res_ [.tmp 2] [φ] (φ) ⟨res_tmp, trivial⟩) ?_)))))))))))))))
   exact ⟨congrArg Value.bool (by simp [tab5, allI, zh10, zh11, zh19, zh20, zh28, zh29, zh37, zh38, zh46, zh47, zh55, zh56, zh64, zh65, zh73, zh74, zh82, zh83, zh91, zh92, zh100, zh101, zh109, zh110, zh118, zh119, zh127, zh128, zh136, zh137, zh145, zh146, zh154, zh155, zh163, zh164, zh169, zh170]), zS168.ch⟩
 intro zh172
 have zh173 := notF' zh172
 have zh174 := inB_is _ _ _ zh173
 refine wp_skip (blk_n (then_n (reg_ (pure_ (ι 2) (pure_ (ι 3) (pure_ (ι 3) (nil_ (again_ (seq_ (seq_ (reg_ (pure_ (ι 3) (pure_ (τ) (nil_ (then_n (cond_T (wp_skip (then_n (seq_ (wp_block (seq_ (reg_ (pure_ (ι 4) (pure_ (ι 3) (pure_ (π zb1 16) (pure_ (π zb1 19) (load1_ zS168 0 (ι (q 33)) zb1 19 (call_ 76 #[ι (q 33), ι 0, ι 15] ?_))))))))))))))))))))))))))))
 refine (in_any (q 33) 0 15 _).mono ?_; rintro _ zw175 ⟨rfl, zhc176⟩
 have zS177 := zS168.quiet zhc176
 refine pure_ (.bool (!(inB 0 15 (q 33)))) (nil_ (then_n ?_))
 refine cond_S (!(inB 0 15 (q 33))) ?_ ?_
 · intro zh178
   have zh179 := notT' zh178
   have zh180 := inB_no _ _ _ zh179
   refine seq_ (reg_ (pure_ (φ) (nil_ (then_n (wp_ret (blk_r (then_r (then_r (blk_r (blk_r (then_r (then_r (blk_r (then_r (ret_ rfl (res_ [.tmp 2] [φ] (φ) ⟨res_tmp, trivial⟩) ?_)))))))))))))))
   exact ⟨congrArg Value.bool (by simp [tab5, allI, zh10, zh11, zh19, zh20, zh28, zh29, zh37, zh38, zh46, zh47, zh55, zh56, zh64, zh65, zh73, zh74, zh82, zh83, zh91, zh92, zh100, zh101, zh109, zh110, zh118, zh119, zh127, zh128, zh136, zh137, zh145, zh146, zh154, zh155, zh163, zh164, zh172, zh173, zh178, zh179]), zS177.ch⟩
 intro zh181
 have zh182 := notF' zh181
 have zh183 := inB_is _ _ _ zh182
 refine wp_skip (blk_n (then_n (reg_ (pure_ (ι 3) (pure_ (ι 4) (pure_ (ι 4) (nil_ (again_ (seq_ (seq_ (reg_ (pure_ (ι 4) (pure_ (φ) (nil_ (then_n (cond_F (wp_exit (then_e (then_e (blk_e (blk_n (then_n (reg_ (pure_ (ι 4) (pure_ (ι 5) (pure_ (ι 5) (nil_ (again_ (seq_ (seq_ (reg_ (pure_ (ι 5) (pure_ (φ) (nil_ (then_n (cond_F (wp_exit (then_e (then_e (blk_e (then_n (seq_ (reg_ (pure_ (τ) (nil_ (then_n (wp_ret (ret_ rfl (res_ [.tmp 2] [τ] (τ) ⟨res_tmp, trivial⟩) ?_))))))))))))))))))))))))))))))))))))))))))))))))
 exact ⟨congrArg Value.bool (by simp [tab5, allI, zh10, zh11, zh19, zh20, zh28, zh29, zh37, zh38, zh46, zh47, zh55, zh56, zh64, zh65, zh73, zh74, zh82, zh83, zh91, zh92, zh100, zh101, zh109, zh110, zh118, zh119, zh127, zh128, zh136, zh137, zh145, zh146, zh154, zh155, zh163, zh164, zh172, zh173, zh181, zh182]), zS177.ch⟩

set_option maxRecDepth 100000 in
set_option maxHeartbeats 4000000 in
theorem graph_r (q : Nat → Int) (ka : Nat → Option Addr) (kn kc : Nat → Nat) (w : World) :
    Gives Tryz.prog 75 #[.agg #[ι (q 34), ι (q 35), ι (q 36), ι (q 37), ι (q 38)]] w fun v w1 => v = .bool (allI 0 31 [q 34, q 35, q 36, q 37, q 38]) ∧ Ch [] w w1 := by
 have S0 := St.nil [] w
 refine enter_ Tryz.func75 rfl (seq_ (reg_ ?_))
 refine new_ S0 (fun b => π b 0) (.cells #[ι (q 34), ι (q 35), ι (q 36), ι (q 37), ι (q 38)] 22) ?_
 intro zb1 zw2 zS3
 refine pure_ (φ) (nil_ (then_n (seq_ (seq_ (reg_ (pure_ (ι 0) (nil_ (then_n (wp_block (loop_ 24 (seq_ (seq_ (reg_ (pure_ (ι 0) (pure_ (τ) (nil_ (then_n (cond_T (wp_skip (then_n (seq_ (wp_block (seq_ (reg_ (pure_ (ι 0) (pure_ (π zb1 0) (load1_ zS3 0 (ι (q 34)) zb1 0 (call_ 76 #[ι (q 34), ι 0, ι 31] ?_))))))))))))))))))))))))))))
 refine (in_any (q 34) 0 31 _).mono ?_; rintro _ zw4 ⟨rfl, zhc5⟩
 have zS6 := zS3.quiet zhc5
 refine pure_ (.bool (!(inB 0 31 (q 34)))) (nil_ (then_n ?_))
 refine cond_S (!(inB 0 31 (q 34))) ?_ ?_
 · intro zh7
   have zh8 := notT' zh7
   have zh9 := inB_no _ _ _ zh8
   refine seq_ (reg_ (pure_ (φ) (nil_ (then_n (wp_ret (blk_r (then_r (then_r (blk_r (then_r (ret_ rfl (res_ [.tmp 2] [φ] (φ) ⟨res_tmp, trivial⟩) ?_)))))))))))
   exact ⟨congrArg Value.bool (by simp [allI, zh7, zh8]), zS6.ch⟩
 intro zh10
 have zh11 := notF' zh10
 have zh12 := inB_is _ _ _ zh11
 refine wp_skip (blk_n (then_n (reg_ (pure_ (ι 0) (pure_ (ι 1) (pure_ (ι 1) (nil_ (again_ (seq_ (seq_ (reg_ (pure_ (ι 1) (pure_ (τ) (nil_ (then_n (cond_T (wp_skip (then_n (seq_ (wp_block (seq_ (reg_ (pure_ (ι 1) (pure_ (π zb1 1) (load1_ zS6 0 (ι (q 35)) zb1 1 (call_ 76 #[ι (q 35), ι 0, ι 31] ?_))))))))))))))))))))))))))
 refine (in_any (q 35) 0 31 _).mono ?_; rintro _ zw13 ⟨rfl, zhc14⟩
 have zS15 := zS6.quiet zhc14
 refine pure_ (.bool (!(inB 0 31 (q 35)))) (nil_ (then_n ?_))
 refine cond_S (!(inB 0 31 (q 35))) ?_ ?_
 · intro zh16
   have zh17 := notT' zh16
   have zh18 := inB_no _ _ _ zh17
   refine seq_ (reg_ (pure_ (φ) (nil_ (then_n (wp_ret (blk_r (then_r (then_r (blk_r (then_r (ret_ rfl (res_ [.tmp 2] [φ] (φ) ⟨res_tmp, trivial⟩) ?_)))))))))))
   exact ⟨congrArg Value.bool (by simp [allI, zh10, zh11, zh16, zh17]), zS15.ch⟩
 intro zh19
 have zh20 := notF' zh19
 have zh21 := inB_is _ _ _ zh20
 refine wp_skip (blk_n (then_n (reg_ (pure_ (ι 1) (pure_ (ι 2) (pure_ (ι 2) (nil_ (again_ (seq_ (seq_ (reg_ (pure_ (ι 2) (pure_ (τ) (nil_ (then_n (cond_T (wp_skip (then_n (seq_ (wp_block (seq_ (reg_ (pure_ (ι 2) (pure_ (π zb1 2) (load1_ zS15 0 (ι (q 36)) zb1 2 (call_ 76 #[ι (q 36), ι 0, ι 31] ?_))))))))))))))))))))))))))
 refine (in_any (q 36) 0 31 _).mono ?_; rintro _ zw22 ⟨rfl, zhc23⟩
 have zS24 := zS15.quiet zhc23
 refine pure_ (.bool (!(inB 0 31 (q 36)))) (nil_ (then_n ?_))
 refine cond_S (!(inB 0 31 (q 36))) ?_ ?_
 · intro zh25
   have zh26 := notT' zh25
   have zh27 := inB_no _ _ _ zh26
   refine seq_ (reg_ (pure_ (φ) (nil_ (then_n (wp_ret (blk_r (then_r (then_r (blk_r (then_r (ret_ rfl (res_ [.tmp 2] [φ] (φ) ⟨res_tmp, trivial⟩) ?_)))))))))))
   exact ⟨congrArg Value.bool (by simp [allI, zh10, zh11, zh19, zh20, zh25, zh26]), zS24.ch⟩
 intro zh28
 have zh29 := notF' zh28
 have zh30 := inB_is _ _ _ zh29
 refine wp_skip (blk_n (then_n (reg_ (pure_ (ι 2) (pure_ (ι 3) (pure_ (ι 3) (nil_ (again_ (seq_ (seq_ (reg_ (pure_ (ι 3) (pure_ (τ) (nil_ (then_n (cond_T (wp_skip (then_n (seq_ (wp_block (seq_ (reg_ (pure_ (ι 3) (pure_ (π zb1 3) (load1_ zS24 0 (ι (q 37)) zb1 3 (call_ 76 #[ι (q 37), ι 0, ι 31] ?_))))))))))))))))))))))))))
 refine (in_any (q 37) 0 31 _).mono ?_; rintro _ zw31 ⟨rfl, zhc32⟩
 have zS33 := zS24.quiet zhc32
 refine pure_ (.bool (!(inB 0 31 (q 37)))) (nil_ (then_n ?_))
 refine cond_S (!(inB 0 31 (q 37))) ?_ ?_
 · intro zh34
   have zh35 := notT' zh34
   have zh36 := inB_no _ _ _ zh35
   refine seq_ (reg_ (pure_ (φ) (nil_ (then_n (wp_ret (blk_r (then_r (then_r (blk_r (then_r (ret_ rfl (res_ [.tmp 2] [φ] (φ) ⟨res_tmp, trivial⟩) ?_)))))))))))
   exact ⟨congrArg Value.bool (by simp [allI, zh10, zh11, zh19, zh20, zh28, zh29, zh34, zh35]), zS33.ch⟩
 intro zh37
 have zh38 := notF' zh37
 have zh39 := inB_is _ _ _ zh38
 refine wp_skip (blk_n (then_n (reg_ (pure_ (ι 3) (pure_ (ι 4) (pure_ (ι 4) (nil_ (again_ (seq_ (seq_ (reg_ (pure_ (ι 4) (pure_ (τ) (nil_ (then_n (cond_T (wp_skip (then_n (seq_ (wp_block (seq_ (reg_ (pure_ (ι 4) (pure_ (π zb1 4) (load1_ zS33 0 (ι (q 38)) zb1 4 (call_ 76 #[ι (q 38), ι 0, ι 31] ?_))))))))))))))))))))))))))
 refine (in_any (q 38) 0 31 _).mono ?_; rintro _ zw40 ⟨rfl, zhc41⟩
 have zS42 := zS33.quiet zhc41
 refine pure_ (.bool (!(inB 0 31 (q 38)))) (nil_ (then_n ?_))
 refine cond_S (!(inB 0 31 (q 38))) ?_ ?_
 · intro zh43
   have zh44 := notT' zh43
   have zh45 := inB_no _ _ _ zh44
   refine seq_ (reg_ (pure_ (φ) (nil_ (then_n (wp_ret (blk_r (then_r (then_r (blk_r (then_r (ret_ rfl (res_ [.tmp 2] [φ] (φ) ⟨res_tmp, trivial⟩) ?_)))))))))))
   exact ⟨congrArg Value.bool (by simp [allI, zh10, zh11, zh19, zh20, zh28, zh29, zh37, zh38, zh43, zh44]), zS42.ch⟩
 intro zh46
 have zh47 := notF' zh46
 have zh48 := inB_is _ _ _ zh47
 refine wp_skip (blk_n (then_n (reg_ (pure_ (ι 4) (pure_ (ι 5) (pure_ (ι 5) (nil_ (again_ (seq_ (seq_ (reg_ (pure_ (ι 5) (pure_ (φ) (nil_ (then_n (cond_F (wp_exit (then_e (then_e (blk_e (then_n (seq_ (reg_ (pure_ (τ) (nil_ (then_n (wp_ret (ret_ rfl (res_ [.tmp 2] [τ] (τ) ⟨res_tmp, trivial⟩) ?_))))))))))))))))))))))))))))
 exact ⟨congrArg Value.bool (by simp [allI, zh10, zh11, zh19, zh20, zh28, zh29, zh37, zh38, zh46, zh47]), zS42.ch⟩

set_option maxRecDepth 100000 in
set_option maxHeartbeats 4000000 in
theorem limits_r (q : Nat → Int) (ka : Nat → Option Addr) (kn kc : Nat → Nat) (w : World) :
    Gives Tryz.prog 77 #[.agg (polC q ka kn kc)] w fun v w1 => v = .bool (q 50 == 0 && (allI 0 1000 [q 51, q 52, q 53] && inB 1 1000 (q 54))) ∧ Ch [] w w1 := by
 have S0 := St.nil [] w
 refine enter_ Tryz.func77 rfl (seq_ (reg_ ?_))
 refine new_ S0 (fun b => π b 0) (.cells (polC q ka kn kc) 28) ?_
 intro zb1 zw2 zS3
 refine pure_ (φ) (nil_ (then_n (seq_ (seq_ (reg_ (pure_ (ι 1) (nil_ (then_n (wp_block (loop_ 24 (seq_ (seq_ (reg_ (pure_ (ι 1) (pure_ (τ) (nil_ (then_n (cond_T (wp_skip (then_n (seq_ (wp_block (seq_ (reg_ (pure_ (ι 1) (pure_ (π zb1 50) (pure_ (π zb1 51) (load1_ zS3 0 (ι (q 51)) zb1 51 (call_ 76 #[ι (q 51), ι 0, ι 1000] ?_)))))))))))))))))))))))))))))
 refine (in_any (q 51) 0 1000 _).mono ?_; rintro _ zw4 ⟨rfl, zhc5⟩
 have zS6 := zS3.quiet zhc5
 refine pure_ (.bool (!(inB 0 1000 (q 51)))) (nil_ (then_n ?_))
 refine cond_S (!(inB 0 1000 (q 51))) ?_ ?_
 · intro zh7
   have zh8 := notT' zh7
   have zh9 := inB_no _ _ _ zh8
   refine seq_ (reg_ (pure_ (φ) (nil_ (then_n (wp_ret (blk_r (then_r (then_r (blk_r (then_r (ret_ rfl (res_ [.tmp 2] [φ] (φ) ⟨res_tmp, trivial⟩) ?_)))))))))))
   exact ⟨congrArg Value.bool (by simp [allI, zh7, zh8]), zS6.ch⟩
 intro zh10
 have zh11 := notF' zh10
 have zh12 := inB_is _ _ _ zh11
 refine wp_skip (blk_n (then_n (reg_ (pure_ (ι 1) (pure_ (ι 2) (pure_ (ι 2) (nil_ (again_ (seq_ (seq_ (reg_ (pure_ (ι 2) (pure_ (τ) (nil_ (then_n (cond_T (wp_skip (then_n (seq_ (wp_block (seq_ (reg_ (pure_ (ι 2) (pure_ (π zb1 50) (pure_ (π zb1 52) (load1_ zS6 0 (ι (q 52)) zb1 52 (call_ 76 #[ι (q 52), ι 0, ι 1000] ?_)))))))))))))))))))))))))))
 refine (in_any (q 52) 0 1000 _).mono ?_; rintro _ zw13 ⟨rfl, zhc14⟩
 have zS15 := zS6.quiet zhc14
 refine pure_ (.bool (!(inB 0 1000 (q 52)))) (nil_ (then_n ?_))
 refine cond_S (!(inB 0 1000 (q 52))) ?_ ?_
 · intro zh16
   have zh17 := notT' zh16
   have zh18 := inB_no _ _ _ zh17
   refine seq_ (reg_ (pure_ (φ) (nil_ (then_n (wp_ret (blk_r (then_r (then_r (blk_r (then_r (ret_ rfl (res_ [.tmp 2] [φ] (φ) ⟨res_tmp, trivial⟩) ?_)))))))))))
   exact ⟨congrArg Value.bool (by simp [allI, zh10, zh11, zh16, zh17]), zS15.ch⟩
 intro zh19
 have zh20 := notF' zh19
 have zh21 := inB_is _ _ _ zh20
 refine wp_skip (blk_n (then_n (reg_ (pure_ (ι 2) (pure_ (ι 3) (pure_ (ι 3) (nil_ (again_ (seq_ (seq_ (reg_ (pure_ (ι 3) (pure_ (τ) (nil_ (then_n (cond_T (wp_skip (then_n (seq_ (wp_block (seq_ (reg_ (pure_ (ι 3) (pure_ (π zb1 50) (pure_ (π zb1 53) (load1_ zS15 0 (ι (q 53)) zb1 53 (call_ 76 #[ι (q 53), ι 0, ι 1000] ?_)))))))))))))))))))))))))))
 refine (in_any (q 53) 0 1000 _).mono ?_; rintro _ zw22 ⟨rfl, zhc23⟩
 have zS24 := zS15.quiet zhc23
 refine pure_ (.bool (!(inB 0 1000 (q 53)))) (nil_ (then_n ?_))
 refine cond_S (!(inB 0 1000 (q 53))) ?_ ?_
 · intro zh25
   have zh26 := notT' zh25
   have zh27 := inB_no _ _ _ zh26
   refine seq_ (reg_ (pure_ (φ) (nil_ (then_n (wp_ret (blk_r (then_r (then_r (blk_r (then_r (ret_ rfl (res_ [.tmp 2] [φ] (φ) ⟨res_tmp, trivial⟩) ?_)))))))))))
   exact ⟨congrArg Value.bool (by simp [allI, zh10, zh11, zh19, zh20, zh25, zh26]), zS24.ch⟩
 intro zh28
 have zh29 := notF' zh28
 have zh30 := inB_is _ _ _ zh29
 refine wp_skip (blk_n (then_n (reg_ (pure_ (ι 3) (pure_ (ι 4) (pure_ (ι 4) (nil_ (again_ (seq_ (seq_ (reg_ (pure_ (ι 4) (pure_ (φ) (nil_ (then_n (cond_F (wp_exit (then_e (then_e (blk_e (then_n (seq_ ?_))))))))))))))))))))))
 refine textL_ 10 [⟨0, fun _ => π zb1 50, fun _ => []⟩, ⟨0, fun _ => π zb1 50, fun _ => []⟩, ⟨0, fun _ => ι (q 50), fun _ => []⟩, ⟨0, fun _ => .bool ((q 50) == 0), fun _ => []⟩, ⟨0, fun _ => .bool ((q 50) == 0), fun _ => []⟩, ⟨0, fun _ => (bif ((q 50) == 0) then (π zb1 54) else undef), fun _ => []⟩, ⟨0, fun _ => (bif ((q 50) == 0) then (ι (q 54)) else undef), fun _ => []⟩, ⟨0, fun _ => (bif ((q 50) == 0) then (.bool (inB 1 1000 (q 54))) else undef), fun _ => []⟩, ⟨0, fun _ => .bool (((q 50) == 0) && (inB 1 1000 (q 54))), fun _ => []⟩, ⟨0, fun _ => .bool (((q 50) == 0) && (inB 1 1000 (q 54))), fun _ => []⟩] [] ?_ ?_
 · refine step_cons ?_ ?_
   · intro zy31 zw32 zhc33 zhf34 zhp35
     have zh36 : zy31 1 = π zb1 0 := (zhf34 1 (by kernel_rfl)).trans (by kernel_rfl)
     have zS37 := zS24.quiet zhc33
     refine step1 ?_
     refine yenv [(1, π zb1 0)] (ag_cons zh36 (ag_nil)) ?_
     have zS38 := zS37.loc
     refine Y.pure_ (π zb1 50) ?_
     exact ⟨zS38.ch, Sp.mk_holds [] (all_nil)⟩
   refine step_cons ?_ ?_
   · intro zy39 zw40 zhc41 zhf42 zhp43
     have zh44 : zy39 14 = π zb1 50 := (Sp.out0 (zhp43 0 14 (by kernel_rfl) (by kernel_rfl))).1
     have zS45 := zS24.quiet zhc41
     refine step1 ?_
     refine yenv [(14, π zb1 50)] (ag_cons zh44 (ag_nil)) ?_
     have zS46 := zS45.loc
     refine Y.pure_ (π zb1 50) ?_
     exact ⟨zS46.ch, Sp.mk_holds [] (all_nil)⟩
   refine step_cons ?_ ?_
   · intro zy47 zw48 zhc49 zhf50 zhp51
     have zh52 : zy47 15 = π zb1 50 := (Sp.out0 (zhp51 1 15 (by kernel_rfl) (by kernel_rfl))).1
     have zS53 := zS24.quiet zhc49
     refine step1 ?_
     refine yenv [(15, π zb1 50)] (ag_cons zh52 (ag_nil)) ?_
     have zS54 := zS53.loc
     refine Y.load1_ zS54 0 (ι (q 50)) zb1 50 ?_
     exact ⟨zS54.ch, Sp.mk_holds [] (all_nil)⟩
   refine step_cons ?_ ?_
   · intro zy55 zw56 zhc57 zhf58 zhp59
     have zh60 : zy55 16 = ι (q 50) := (Sp.out0 (zhp59 2 16 (by kernel_rfl) (by kernel_rfl))).1
     have zS61 := zS24.quiet zhc57
     refine step1 ?_
     refine yenv [(16, ι (q 50))] (ag_cons zh60 (ag_nil)) ?_
     have zS62 := zS61.loc
     refine Y.pure_ (.bool ((q 50) == 0)) ?_
     exact ⟨zS62.ch, Sp.mk_holds [] (all_nil)⟩
   refine step_cons ?_ ?_
   · intro zy63 zw64 zhc65 zhf66 zhp67
     have zh68 : zy63 17 = .bool ((q 50) == 0) := (Sp.out0 (zhp67 3 17 (by kernel_rfl) (by kernel_rfl))).1
     have zS69 := zS24.quiet zhc65
     refine step1 ?_
     refine yenv [(17, .bool ((q 50) == 0))] (ag_cons zh68 (ag_nil)) ?_
     have zS70 := zS69.loc
     refine Y.pure_ (.bool ((q 50) == 0)) ?_
     exact ⟨zS70.ch, Sp.mk_holds [] (all_nil)⟩
   refine step_cons ?_ ?_
   · intro zy71 zw72 zhc73 zhf74 zhp75
     have zh76 : zy71 1 = π zb1 0 := (zhf74 1 (by kernel_rfl)).trans (by kernel_rfl)
     have zh77 : zy71 18 = .bool ((q 50) == 0) := (Sp.out0 (zhp75 4 18 (by kernel_rfl) (by kernel_rfl))).1
     have zS78 := zS24.quiet zhc73
     refine step_if ((q 50) == 0) zh77 ?_ ?_
     · intro zh79
       have zh80 := eqT' zh79
       refine yenv [(1, π zb1 0)] (ag_cons zh76 (ag_nil)) ?_
       have zS81 := zS78.loc
       refine Y.pure_ (π zb1 54) ?_
       exact ⟨zS81.ch, Sp.mk_holds [] all_nil (h2 := (bif_t zh79).symm)⟩
     intro zh79
     exact Sp.mk_holds [] all_nil (h2 := (bif_f zh79).symm)
   refine step_cons ?_ ?_
   · intro zy82 zw83 zhc84 zhf85 zhp86
     have zh87 : zy82 19 = (bif ((q 50) == 0) then (π zb1 54) else undef) := (Sp.out0 (zhp86 5 19 (by kernel_rfl) (by kernel_rfl))).1
     have zh88 : zy82 18 = .bool ((q 50) == 0) := (Sp.out0 (zhp86 4 18 (by kernel_rfl) (by kernel_rfl))).1
     have zS89 := zS24.quiet zhc84
     refine step_if ((q 50) == 0) zh88 ?_ ?_
     · intro zh90
       have zh91 := eqT' zh90
       have zh92 : zy82 19 = π zb1 54 := zh87.trans (bif_t zh90)
       refine yenv [(19, π zb1 54)] (ag_cons zh92 (ag_nil)) ?_
       have zS93 := zS89.loc
       refine Y.load1_ zS93 0 (ι (q 54)) zb1 54 ?_
       exact ⟨zS93.ch, Sp.mk_holds [] all_nil (h2 := (bif_t zh90).symm)⟩
     intro zh90
     exact Sp.mk_holds [] all_nil (h2 := (bif_f zh90).symm)
   refine step_cons ?_ ?_
   · intro zy94 zw95 zhc96 zhf97 zhp98
     have zh99 : zy94 20 = (bif ((q 50) == 0) then (ι (q 54)) else undef) := (Sp.out0 (zhp98 6 20 (by kernel_rfl) (by kernel_rfl))).1
     have zh100 : zy94 18 = .bool ((q 50) == 0) := (Sp.out0 (zhp98 4 18 (by kernel_rfl) (by kernel_rfl))).1
     have zS101 := zS24.quiet zhc96
     refine step_if ((q 50) == 0) zh100 ?_ ?_
     · intro zh102
       have zh103 := eqT' zh102
       have zh104 : zy94 20 = ι (q 54) := zh99.trans (bif_t zh102)
       refine yenv [(20, ι (q 54))] (ag_cons zh104 (ag_nil)) ?_
       have zS105 := zS101.loc
       refine Y.call_ 76 #[ι (q 54), ι 1, ι 1000] ?_
       refine (in_any (q 54) 1 1000 _).mono ?_; rintro _ zw106 ⟨rfl, zhc107⟩
       have zS108 := zS105.quiet zhc107
       exact ⟨zS108.ch, Sp.mk_holds [] all_nil (h2 := (bif_t zh102).symm)⟩
     intro zh102
     exact Sp.mk_holds [] all_nil (h2 := (bif_f zh102).symm)
   refine step_cons ?_ ?_
   · intro zy109 zw110 zhc111 zhf112 zhp113
     have zh114 : zy109 18 = .bool ((q 50) == 0) := (Sp.out0 (zhp113 4 18 (by kernel_rfl) (by kernel_rfl))).1
     have zh115 : zy109 21 = (bif ((q 50) == 0) then (.bool (inB 1 1000 (q 54))) else undef) := (Sp.out0 (zhp113 7 21 (by kernel_rfl) (by kernel_rfl))).1
     have zS116 := zS24.quiet zhc111
     refine step1 ?_
     refine yenv [(18, .bool ((q 50) == 0)), (21, (bif ((q 50) == 0) then (.bool (inB 1 1000 (q 54))) else undef))] (ag_cons zh114 (ag_cons zh115 (ag_nil))) ?_
     have zS117 := zS116.loc
     refine Y.pickB_ ((q 50) == 0) (((q 50) == 0) && (inB 1 1000 (q 54))) ((bif ((q 50) == 0) then (.bool (inB 1 1000 (q 54))) else undef)) (φ) (fun h => (bif_t h).trans (by rw [h]; rfl)) (fun h => (by rw [h]; rfl)) ?_
     exact ⟨zS117.ch, Sp.mk_holds [] (all_nil)⟩
   refine step_cons ?_ ?_
   · intro zy118 zw119 zhc120 zhf121 zhp122
     have zh123 : zy118 22 = .bool (((q 50) == 0) && (inB 1 1000 (q 54))) := (Sp.out0 (zhp122 8 22 (by kernel_rfl) (by kernel_rfl))).1
     have zS124 := zS24.quiet zhc120
     refine step1 ?_
     refine yenv [(22, .bool (((q 50) == 0) && (inB 1 1000 (q 54))))] (ag_cons zh123 (ag_nil)) ?_
     have zS125 := zS124.loc
     refine Y.assign_ ?_
     exact ⟨zS125.ch, Sp.mk_holds [] (all_nil)⟩
   exact step_nil
 intro zv126 zw127 zhc128 zha129
 have zh130 : zv126 0 = π zb1 50 := (Sp.out0 (zha129 0 (by kernel_rfl))).1
 have zh131 : zv126 1 = π zb1 50 := (Sp.out0 (zha129 1 (by kernel_rfl))).1
 have zh132 : zv126 2 = ι (q 50) := (Sp.out0 (zha129 2 (by kernel_rfl))).1
 have zh133 : zv126 3 = .bool ((q 50) == 0) := (Sp.out0 (zha129 3 (by kernel_rfl))).1
 have zh134 : zv126 4 = .bool ((q 50) == 0) := (Sp.out0 (zha129 4 (by kernel_rfl))).1
 have zh135 : zv126 5 = (bif ((q 50) == 0) then (π zb1 54) else undef) := (Sp.out0 (zha129 5 (by kernel_rfl))).1
 have zh136 : zv126 6 = (bif ((q 50) == 0) then (ι (q 54)) else undef) := (Sp.out0 (zha129 6 (by kernel_rfl))).1
 have zh137 : zv126 7 = (bif ((q 50) == 0) then (.bool (inB 1 1000 (q 54))) else undef) := (Sp.out0 (zha129 7 (by kernel_rfl))).1
 have zh138 : zv126 8 = .bool (((q 50) == 0) && (inB 1 1000 (q 54))) := (Sp.out0 (zha129 8 (by kernel_rfl))).1
 have zh139 : zv126 9 = .bool (((q 50) == 0) && (inB 1 1000 (q 54))) := (Sp.out0 (zha129 9 (by kernel_rfl))).1
 have zS140 := zS24.quiet zhc128
 refine ⟨[π zb1 50, π zb1 50, ι (q 50), .bool ((q 50) == 0), .bool ((q 50) == 0), (bif ((q 50) == 0) then (π zb1 54) else undef), (bif ((q 50) == 0) then (ι (q 54)) else undef), (bif ((q 50) == 0) then (.bool (inB 1 1000 (q 54))) else undef), .bool (((q 50) == 0) && (inB 1 1000 (q 54))), .bool (((q 50) == 0) && (inB 1 1000 (q 54)))], by kernel_rfl, va_cons zh130 (va_cons zh131 (va_cons zh132 (va_cons zh133 (va_cons zh134 (va_cons zh135 (va_cons zh136 (va_cons zh137 (va_cons zh138 (va_cons zh139 (va_nil)))))))))), ?_⟩
 refine nil_ (then_n (wp_ret (ret_ rfl (res_ [.tmp 2] [.bool (((q 50) == 0) && (inB 1 1000 (q 54)))] (.bool (((q 50) == 0) && (inB 1 1000 (q 54)))) ⟨res_tmp, trivial⟩) ?_)))
 exact ⟨congrArg Value.bool (by simp [allI, zh10, zh11, zh19, zh20, zh28, zh29]), zS140.ch⟩

set_option maxRecDepth 100000 in
set_option maxHeartbeats 4000000 in
theorem rcheck_any (q : Nat → Int) (ka : Nat → Option Addr) (kn kc : Nat → Nat) (w : World) :
    Gives Tryz.prog 34 #[.agg (polC q ka kn kc)] w fun v w1 => v = ι (polCode q kn) ∧ Ch [] w w1 := by
 have S0 := St.nil [] w
 refine enter_ Tryz.func34 rfl (seq_ (reg_ ?_))
 refine new_ S0 (fun b => π b 0) (.cells (polC q ka kn kc) 28) ?_
 intro zb1 zw2 zS3
 refine pure_ (ι 0) (nil_ (then_n (seq_ ?_)))
 refine drawnL_ 68 [⟨0, fun _ => π zb1 0, fun _ => []⟩, ⟨0, fun _ => .agg #[ι (q 0), ι (q 1), ι (q 2), ι (q 3), ι (q 4)], fun _ => []⟩, ⟨0, fun _ => .bool (ordB q), fun _ => []⟩, ⟨0, fun _ => .agg (polC q ka kn kc), fun _ => []⟩, ⟨0, fun _ => .bool (keys3 kn && keyB (kn 3)), fun _ => []⟩, ⟨0, fun _ => π zb1 9, fun _ => []⟩, ⟨0, fun _ => .agg #[ι (q 9), ι (q 10), ι (q 11), ι (q 12), ι (q 13)], fun _ => []⟩, ⟨0, fun _ => .bool (q 9 == 1 && (q 13 == 0 && roles3 q)), fun _ => []⟩, ⟨0, fun _ => π zb1 14, fun _ => []⟩, ⟨0, fun _ => .agg #[ι (q 14), ι (q 15), ι (q 16), ι (q 17), ι (q 18), ι (q 19), ι (q 20), ι (q 21), ι (q 22), ι (q 23), ι (q 24), ι (q 25), ι (q 26), ι (q 27), ι (q 28), ι (q 29), ι (q 30), ι (q 31), ι (q 32), ι (q 33)], fun _ => []⟩, ⟨0, fun _ => .bool (tab5 q), fun _ => []⟩, ⟨0, fun _ => π zb1 34, fun _ => []⟩, ⟨0, fun _ => .agg #[ι (q 34), ι (q 35), ι (q 36), ι (q 37), ι (q 38)], fun _ => []⟩, ⟨0, fun _ => .bool (allI 0 31 [q 34, q 35, q 36, q 37, q 38]), fun _ => []⟩, ⟨0, fun _ => π zb1 39, fun _ => []⟩, ⟨0, fun _ => ι (q 39), fun _ => []⟩, ⟨0, fun _ => .bool (inB 0 4 (q 39)), fun _ => []⟩, ⟨0, fun _ => .bool (inB 0 4 (q 39)), fun _ => []⟩, ⟨0, fun _ => (bif (inB 0 4 (q 39)) then (π zb1 40) else undef), fun _ => []⟩, ⟨0, fun _ => (bif (inB 0 4 (q 39)) then (ι (q 40)) else undef), fun _ => []⟩, ⟨0, fun _ => (bif (inB 0 4 (q 39)) then (.bool (inB 0 4 (q 40))) else undef), fun _ => []⟩, ⟨0, fun _ => .bool ((inB 0 4 (q 39)) && (inB 0 4 (q 40))), fun _ => []⟩, ⟨0, fun _ => .bool ((inB 0 4 (q 39)) && (inB 0 4 (q 40))), fun _ => []⟩, ⟨0, fun _ => (bif ((inB 0 4 (q 39)) && (inB 0 4 (q 40))) then (π zb1 41) else undef), fun _ => []⟩, ⟨0, fun _ => (bif ((inB 0 4 (q 39)) && (inB 0 4 (q 40))) then (ι (q 41)) else undef), fun _ => []⟩, ⟨0, fun _ => (bif ((inB 0 4 (q 39)) && (inB 0 4 (q 40))) then (.bool (inB 0 4 (q 41))) else undef), fun _ => []⟩, ⟨0, fun _ => .bool (((inB 0 4 (q 39)) && (inB 0 4 (q 40))) && (inB 0 4 (q 41))), fun _ => []⟩, ⟨0, fun _ => π zb1 42, fun _ => []⟩, ⟨0, fun _ => ι (q 42), fun _ => []⟩, ⟨0, fun _ => .bool (inB 1 1000 (q 42)), fun _ => []⟩, ⟨0, fun _ => .bool (inB 1 1000 (q 42)), fun _ => []⟩, ⟨0, fun _ => (bif (inB 1 1000 (q 42)) then (π zb1 43) else undef), fun _ => []⟩, ⟨0, fun _ => (bif (inB 1 1000 (q 42)) then (ι (q 43)) else undef), fun _ => []⟩, ⟨0, fun _ => (bif (inB 1 1000 (q 42)) then (.bool (inB 1 1000 (q 43))) else undef), fun _ => []⟩, ⟨0, fun _ => .bool ((inB 1 1000 (q 42)) && (inB 1 1000 (q 43))), fun _ => []⟩, ⟨0, fun _ => .bool ((inB 1 1000 (q 42)) && (inB 1 1000 (q 43))), fun _ => []⟩, ⟨0, fun _ => (bif ((inB 1 1000 (q 42)) && (inB 1 1000 (q 43))) then (π zb1 44) else undef), fun _ => []⟩, ⟨0, fun _ => (bif ((inB 1 1000 (q 42)) && (inB 1 1000 (q 43))) then (ι (q 44)) else undef), fun _ => []⟩, ⟨0, fun _ => (bif ((inB 1 1000 (q 42)) && (inB 1 1000 (q 43))) then (.bool (inB 1 1000 (q 44))) else undef), fun _ => []⟩, ⟨0, fun _ => .bool (((inB 1 1000 (q 42)) && (inB 1 1000 (q 43))) && (inB 1 1000 (q 44))), fun _ => []⟩, ⟨0, fun _ => .bool (((inB 1 1000 (q 42)) && (inB 1 1000 (q 43))) && (inB 1 1000 (q 44))), fun _ => []⟩, ⟨0, fun _ => (bif (((inB 1 1000 (q 42)) && (inB 1 1000 (q 43))) && (inB 1 1000 (q 44))) then (π zb1 45) else undef), fun _ => []⟩, ⟨0, fun _ => (bif (((inB 1 1000 (q 42)) && (inB 1 1000 (q 43))) && (inB 1 1000 (q 44))) then (ι (q 45)) else undef), fun _ => []⟩, ⟨0, fun _ => (bif (((inB 1 1000 (q 42)) && (inB 1 1000 (q 43))) && (inB 1 1000 (q 44))) then (.bool (inB 1 1000 (q 45))) else undef), fun _ => []⟩, ⟨0, fun _ => .bool ((((inB 1 1000 (q 42)) && (inB 1 1000 (q 43))) && (inB 1 1000 (q 44))) && (inB 1 1000 (q 45))), fun _ => []⟩, ⟨0, fun _ => π zb1 46, fun _ => []⟩, ⟨0, fun _ => ι (q 46), fun _ => []⟩, ⟨0, fun _ => .bool (inB 1 1000 (q 46)), fun _ => []⟩, ⟨0, fun _ => .bool (inB 1 1000 (q 46)), fun _ => []⟩, ⟨0, fun _ => (bif (inB 1 1000 (q 46)) then (π zb1 47) else undef), fun _ => []⟩, ⟨0, fun _ => (bif (inB 1 1000 (q 46)) then (ι (q 47)) else undef), fun _ => []⟩, ⟨0, fun _ => (bif (inB 1 1000 (q 46)) then (.bool (inB 0 1000 (q 47))) else undef), fun _ => []⟩, ⟨0, fun _ => .bool ((inB 1 1000 (q 46)) && (inB 0 1000 (q 47))), fun _ => []⟩, ⟨0, fun _ => π zb1 48, fun _ => []⟩, ⟨0, fun _ => ι (q 48), fun _ => []⟩, ⟨0, fun _ => .bool (inB 1 3 (q 48)), fun _ => []⟩, ⟨0, fun _ => .bool (inB 1 3 (q 48)), fun _ => []⟩, ⟨0, fun _ => (bif (inB 1 3 (q 48)) then (π zb1 49) else undef), fun _ => []⟩, ⟨0, fun _ => (bif (inB 1 3 (q 48)) then (ι (q 49)) else undef), fun _ => []⟩, ⟨0, fun _ => (bif (inB 1 3 (q 48)) then (.bool (inB 1 3 (q 49))) else undef), fun _ => []⟩, ⟨0, fun _ => .bool ((inB 1 3 (q 48)) && (inB 1 3 (q 49))), fun _ => []⟩, ⟨0, fun _ => .agg (polC q ka kn kc), fun _ => []⟩, ⟨0, fun _ => .bool (q 50 == 0 && (allI 0 1000 [q 51, q 52, q 53] && inB 1 1000 (q 54))), fun _ => []⟩, ⟨0, fun _ => π zb1 55, fun _ => []⟩, ⟨0, fun _ => ι (q 55), fun _ => []⟩, ⟨0, fun _ => .bool (inB 0 65535 (q 55)), fun _ => []⟩, ⟨0, fun _ => .agg #[.bool (ordB q), .bool (keys3 kn && keyB (kn 3)), .bool (q 9 == 1 && (q 13 == 0 && roles3 q)), .bool (tab5 q), .bool (allI 0 31 [q 34, q 35, q 36, q 37, q 38]), .bool (((inB 0 4 (q 39)) && (inB 0 4 (q 40))) && (inB 0 4 (q 41))), .bool ((((inB 1 1000 (q 42)) && (inB 1 1000 (q 43))) && (inB 1 1000 (q 44))) && (inB 1 1000 (q 45))), .bool ((inB 1 1000 (q 46)) && (inB 0 1000 (q 47))), .bool ((inB 1 3 (q 48)) && (inB 1 3 (q 49))), .bool (q 50 == 0 && (allI 0 1000 [q 51, q 52, q 53] && inB 1 1000 (q 54))), .bool (inB 0 65535 (q 55))], fun _ => []⟩, ⟨1, fun ids => π (ids.getD 0 0) 0, fun ids => [((ids.getD 0 0), .cells #[φ, φ, φ, φ, φ, φ, φ, φ, φ, φ, φ] 165 (0, 0))]⟩] [[68, 0], [68, 1], [68, 2], [68, 3], [68, 4], [68, 5], [68, 6], [68, 7], [68, 8], [68, 9], [68, 10], [68, 11], [68, 12], [68, 13], [68, 14], [68, 15], [68, 16], [68, 17], [68, 18], [68, 19], [68, 20], [68, 21], [68, 22], [68, 23], [68, 24], [68, 25], [68, 26], [68, 27], [68, 28], [68, 29], [68, 30], [68, 31], [68, 32], [68, 33], [68, 34], [68, 35], [68, 36], [68, 37], [68, 38], [68, 39], [68, 40], [68, 41], [68, 42], [68, 43], [68, 44], [68, 45], [68, 46], [68, 47], [68, 48], [68, 49], [68, 50], [68, 51], [68, 52], [68, 53], [68, 54], [68, 55], [68, 56], [68, 57], [68, 58], [68, 59], [68, 60], [68, 61], [68, 62], [68, 63], [68, 64], [68, 65], [68, 66], [68, 67]] ?_ ?_
 · refine step_cons ?_ ?_
   · intro zy4 zw5 zhc6 zhf7 zhp8
     have zh9 : zy4 1 = π zb1 0 := (zhf7 1 (by kernel_rfl)).trans (by kernel_rfl)
     have zS10 := zS3.quiet zhc6
     refine step1 ?_
     refine yenv [(1, π zb1 0)] (ag_cons zh9 (ag_nil)) ?_
     have zS11 := zS10.loc
     refine Y.pure_ (π zb1 0) ?_
     exact ⟨zS11.ch, Sp.mk_holds [] (all_nil)⟩
   refine step_cons ?_ ?_
   · intro zy12 zw13 zhc14 zhf15 zhp16
     have zh17 : zy12 5 = π zb1 0 := (Sp.out0 (zhp16 0 5 (by kernel_rfl) (by kernel_rfl))).1
     have zS18 := zS3.quiet zhc14
     refine step1 ?_
     refine yenv [(5, π zb1 0)] (ag_cons zh17 (ag_nil)) ?_
     have zS19 := zS18.loc
     refine Y.loadN_ zS19 0 5 #[ι (q 0), ι (q 1), ι (q 2), ι (q 3), ι (q 4)] zb1 0 ?_
     exact ⟨zS19.ch, Sp.mk_holds [] (all_nil)⟩
   refine step_cons ?_ ?_
   · intro zy20 zw21 zhc22 zhf23 zhp24
     have zh25 : zy20 6 = .agg #[ι (q 0), ι (q 1), ι (q 2), ι (q 3), ι (q 4)] := (Sp.out0 (zhp24 1 6 (by kernel_rfl) (by kernel_rfl))).1
     have zS26 := zS3.quiet zhc22
     refine step1 ?_
     refine yenv [(6, .agg #[ι (q 0), ι (q 1), ι (q 2), ι (q 3), ι (q 4)])] (ag_cons zh25 (ag_nil)) ?_
     have zS27 := zS26.loc
     refine Y.call_ 71 #[.agg #[ι (q 0), ι (q 1), ι (q 2), ι (q 3), ι (q 4)]] ?_
     refine (order_r q ka kn kc _).mono ?_; rintro _ zw28 ⟨rfl, zhc29⟩
     have zS30 := zS27.quiet zhc29
     exact ⟨zS30.ch, Sp.mk_holds [] (all_nil)⟩
   refine step_cons ?_ ?_
   · intro zy31 zw32 zhc33 zhf34 zhp35
     have zh36 : zy31 1 = π zb1 0 := (zhf34 1 (by kernel_rfl)).trans (by kernel_rfl)
     have zS37 := zS3.quiet zhc33
     refine step1 ?_
     refine yenv [(1, π zb1 0)] (ag_cons zh36 (ag_nil)) ?_
     have zS38 := zS37.loc
     refine Y.loadN_ zS38 0 56 (polC q ka kn kc) zb1 0 ?_
     exact ⟨zS38.ch, Sp.mk_holds [] (all_nil)⟩
   refine step_cons ?_ ?_
   · intro zy39 zw40 zhc41 zhf42 zhp43
     have zh44 : zy39 8 = .agg (polC q ka kn kc) := (Sp.out0 (zhp43 3 8 (by kernel_rfl) (by kernel_rfl))).1
     have zS45 := zS3.quiet zhc41
     refine step1 ?_
     refine yenv [(8, .agg (polC q ka kn kc))] (ag_cons zh44 (ag_nil)) ?_
     have zS46 := zS45.loc
     refine Y.call_ 72 #[.agg (polC q ka kn kc)] ?_
     refine (keys_r q ka kn kc _).mono ?_; rintro _ zw47 ⟨rfl, zhc48⟩
     have zS49 := zS46.quiet zhc48
     exact ⟨zS49.ch, Sp.mk_holds [] (all_nil)⟩
   refine step_cons ?_ ?_
   · intro zy50 zw51 zhc52 zhf53 zhp54
     have zh55 : zy50 1 = π zb1 0 := (zhf53 1 (by kernel_rfl)).trans (by kernel_rfl)
     have zS56 := zS3.quiet zhc52
     refine step1 ?_
     refine yenv [(1, π zb1 0)] (ag_cons zh55 (ag_nil)) ?_
     have zS57 := zS56.loc
     refine Y.pure_ (π zb1 9) ?_
     exact ⟨zS57.ch, Sp.mk_holds [] (all_nil)⟩
   refine step_cons ?_ ?_
   · intro zy58 zw59 zhc60 zhf61 zhp62
     have zh63 : zy58 10 = π zb1 9 := (Sp.out0 (zhp62 5 10 (by kernel_rfl) (by kernel_rfl))).1
     have zS64 := zS3.quiet zhc60
     refine step1 ?_
     refine yenv [(10, π zb1 9)] (ag_cons zh63 (ag_nil)) ?_
     have zS65 := zS64.loc
     refine Y.loadN_ zS65 0 5 #[ι (q 9), ι (q 10), ι (q 11), ι (q 12), ι (q 13)] zb1 9 ?_
     exact ⟨zS65.ch, Sp.mk_holds [] (all_nil)⟩
   refine step_cons ?_ ?_
   · intro zy66 zw67 zhc68 zhf69 zhp70
     have zh71 : zy66 11 = .agg #[ι (q 9), ι (q 10), ι (q 11), ι (q 12), ι (q 13)] := (Sp.out0 (zhp70 6 11 (by kernel_rfl) (by kernel_rfl))).1
     have zS72 := zS3.quiet zhc68
     refine step1 ?_
     refine yenv [(11, .agg #[ι (q 9), ι (q 10), ι (q 11), ι (q 12), ι (q 13)])] (ag_cons zh71 (ag_nil)) ?_
     have zS73 := zS72.loc
     refine Y.call_ 73 #[.agg #[ι (q 9), ι (q 10), ι (q 11), ι (q 12), ι (q 13)]] ?_
     refine (roles_r q ka kn kc _).mono ?_; rintro _ zw74 ⟨rfl, zhc75⟩
     have zS76 := zS73.quiet zhc75
     exact ⟨zS76.ch, Sp.mk_holds [] (all_nil)⟩
   refine step_cons ?_ ?_
   · intro zy77 zw78 zhc79 zhf80 zhp81
     have zh82 : zy77 1 = π zb1 0 := (zhf80 1 (by kernel_rfl)).trans (by kernel_rfl)
     have zS83 := zS3.quiet zhc79
     refine step1 ?_
     refine yenv [(1, π zb1 0)] (ag_cons zh82 (ag_nil)) ?_
     have zS84 := zS83.loc
     refine Y.pure_ (π zb1 14) ?_
     exact ⟨zS84.ch, Sp.mk_holds [] (all_nil)⟩
   refine step_cons ?_ ?_
   · intro zy85 zw86 zhc87 zhf88 zhp89
     have zh90 : zy85 13 = π zb1 14 := (Sp.out0 (zhp89 8 13 (by kernel_rfl) (by kernel_rfl))).1
     have zS91 := zS3.quiet zhc87
     refine step1 ?_
     refine yenv [(13, π zb1 14)] (ag_cons zh90 (ag_nil)) ?_
     have zS92 := zS91.loc
     refine Y.loadN_ zS92 0 20 #[ι (q 14), ι (q 15), ι (q 16), ι (q 17), ι (q 18), ι (q 19), ι (q 20), ι (q 21), ι (q 22), ι (q 23), ι (q 24), ι (q 25), ι (q 26), ι (q 27), ι (q 28), ι (q 29), ι (q 30), ι (q 31), ι (q 32), ι (q 33)] zb1 14 ?_
     exact ⟨zS92.ch, Sp.mk_holds [] (all_nil)⟩
   refine step_cons ?_ ?_
   · intro zy93 zw94 zhc95 zhf96 zhp97
     have zh98 : zy93 14 = .agg #[ι (q 14), ι (q 15), ι (q 16), ι (q 17), ι (q 18), ι (q 19), ι (q 20), ι (q 21), ι (q 22), ι (q 23), ι (q 24), ι (q 25), ι (q 26), ι (q 27), ι (q 28), ι (q 29), ι (q 30), ι (q 31), ι (q 32), ι (q 33)] := (Sp.out0 (zhp97 9 14 (by kernel_rfl) (by kernel_rfl))).1
     have zS99 := zS3.quiet zhc95
     refine step1 ?_
     refine yenv [(14, .agg #[ι (q 14), ι (q 15), ι (q 16), ι (q 17), ι (q 18), ι (q 19), ι (q 20), ι (q 21), ι (q 22), ι (q 23), ι (q 24), ι (q 25), ι (q 26), ι (q 27), ι (q 28), ι (q 29), ι (q 30), ι (q 31), ι (q 32), ι (q 33)])] (ag_cons zh98 (ag_nil)) ?_
     have zS100 := zS99.loc
     refine Y.call_ 74 #[.agg #[ι (q 14), ι (q 15), ι (q 16), ι (q 17), ι (q 18), ι (q 19), ι (q 20), ι (q 21), ι (q 22), ι (q 23), ι (q 24), ι (q 25), ι (q 26), ι (q 27), ι (q 28), ι (q 29), ι (q 30), ι (q 31), ι (q 32), ι (q 33)]] ?_
     refine (caps_r q ka kn kc _).mono ?_; rintro _ zw101 ⟨rfl, zhc102⟩
     have zS103 := zS100.quiet zhc102
     exact ⟨zS103.ch, Sp.mk_holds [] (all_nil)⟩
   refine step_cons ?_ ?_
   · intro zy104 zw105 zhc106 zhf107 zhp108
     have zh109 : zy104 1 = π zb1 0 := (zhf107 1 (by kernel_rfl)).trans (by kernel_rfl)
     have zS110 := zS3.quiet zhc106
     refine step1 ?_
     refine yenv [(1, π zb1 0)] (ag_cons zh109 (ag_nil)) ?_
     have zS111 := zS110.loc
     refine Y.pure_ (π zb1 34) ?_
     exact ⟨zS111.ch, Sp.mk_holds [] (all_nil)⟩
   refine step_cons ?_ ?_
   · intro zy112 zw113 zhc114 zhf115 zhp116
     have zh117 : zy112 16 = π zb1 34 := (Sp.out0 (zhp116 11 16 (by kernel_rfl) (by kernel_rfl))).1
     have zS118 := zS3.quiet zhc114
     refine step1 ?_
     refine yenv [(16, π zb1 34)] (ag_cons zh117 (ag_nil)) ?_
     have zS119 := zS118.loc
     refine Y.loadN_ zS119 0 5 #[ι (q 34), ι (q 35), ι (q 36), ι (q 37), ι (q 38)] zb1 34 ?_
     exact ⟨zS119.ch, Sp.mk_holds [] (all_nil)⟩
   refine step_cons ?_ ?_
   · intro zy120 zw121 zhc122 zhf123 zhp124
     have zh125 : zy120 17 = .agg #[ι (q 34), ι (q 35), ι (q 36), ι (q 37), ι (q 38)] := (Sp.out0 (zhp124 12 17 (by kernel_rfl) (by kernel_rfl))).1
     have zS126 := zS3.quiet zhc122
     refine step1 ?_
     refine yenv [(17, .agg #[ι (q 34), ι (q 35), ι (q 36), ι (q 37), ι (q 38)])] (ag_cons zh125 (ag_nil)) ?_
     have zS127 := zS126.loc
     refine Y.call_ 75 #[.agg #[ι (q 34), ι (q 35), ι (q 36), ι (q 37), ι (q 38)]] ?_
     refine (graph_r q ka kn kc _).mono ?_; rintro _ zw128 ⟨rfl, zhc129⟩
     have zS130 := zS127.quiet zhc129
     exact ⟨zS130.ch, Sp.mk_holds [] (all_nil)⟩
   refine step_cons ?_ ?_
   · intro zy131 zw132 zhc133 zhf134 zhp135
     have zh136 : zy131 1 = π zb1 0 := (zhf134 1 (by kernel_rfl)).trans (by kernel_rfl)
     have zS137 := zS3.quiet zhc133
     refine step1 ?_
     refine yenv [(1, π zb1 0)] (ag_cons zh136 (ag_nil)) ?_
     have zS138 := zS137.loc
     refine Y.pure_ (π zb1 39) ?_
     exact ⟨zS138.ch, Sp.mk_holds [] (all_nil)⟩
   refine step_cons ?_ ?_
   · intro zy139 zw140 zhc141 zhf142 zhp143
     have zh144 : zy139 19 = π zb1 39 := (Sp.out0 (zhp143 14 19 (by kernel_rfl) (by kernel_rfl))).1
     have zS145 := zS3.quiet zhc141
     refine step1 ?_
     refine yenv [(19, π zb1 39)] (ag_cons zh144 (ag_nil)) ?_
     have zS146 := zS145.loc
     refine Y.load1_ zS146 0 (ι (q 39)) zb1 39 ?_
     exact ⟨zS146.ch, Sp.mk_holds [] (all_nil)⟩
   refine step_cons ?_ ?_
   · intro zy147 zw148 zhc149 zhf150 zhp151
     have zh152 : zy147 20 = ι (q 39) := (Sp.out0 (zhp151 15 20 (by kernel_rfl) (by kernel_rfl))).1
     have zS153 := zS3.quiet zhc149
     refine step1 ?_
     refine yenv [(20, ι (q 39))] (ag_cons zh152 (ag_nil)) ?_
     have zS154 := zS153.loc
     refine Y.call_ 76 #[ι (q 39), ι 0, ι 4] ?_
     refine (in_any (q 39) 0 4 _).mono ?_; rintro _ zw155 ⟨rfl, zhc156⟩
     have zS157 := zS154.quiet zhc156
     exact ⟨zS157.ch, Sp.mk_holds [] (all_nil)⟩
   refine step_cons ?_ ?_
   · intro zy158 zw159 zhc160 zhf161 zhp162
     have zh163 : zy158 21 = .bool (inB 0 4 (q 39)) := (Sp.out0 (zhp162 16 21 (by kernel_rfl) (by kernel_rfl))).1
     have zS164 := zS3.quiet zhc160
     refine step1 ?_
     refine yenv [(21, .bool (inB 0 4 (q 39)))] (ag_cons zh163 (ag_nil)) ?_
     have zS165 := zS164.loc
     refine Y.pure_ (.bool (inB 0 4 (q 39))) ?_
     exact ⟨zS165.ch, Sp.mk_holds [] (all_nil)⟩
   refine step_cons ?_ ?_
   · intro zy166 zw167 zhc168 zhf169 zhp170
     have zh171 : zy166 1 = π zb1 0 := (zhf169 1 (by kernel_rfl)).trans (by kernel_rfl)
     have zh172 : zy166 22 = .bool (inB 0 4 (q 39)) := (Sp.out0 (zhp170 17 22 (by kernel_rfl) (by kernel_rfl))).1
     have zS173 := zS3.quiet zhc168
     refine step_if (inB 0 4 (q 39)) zh172 ?_ ?_
     · intro zh174
       have zh175 := inB_is _ _ _ zh174
       refine yenv [(1, π zb1 0)] (ag_cons zh171 (ag_nil)) ?_
       have zS176 := zS173.loc
       refine Y.pure_ (π zb1 40) ?_
       exact ⟨zS176.ch, Sp.mk_holds [] all_nil (h2 := (bif_t zh174).symm)⟩
     intro zh174
     exact Sp.mk_holds [] all_nil (h2 := (bif_f zh174).symm)
   refine step_cons ?_ ?_
   · intro zy177 zw178 zhc179 zhf180 zhp181
     have zh182 : zy177 23 = (bif (inB 0 4 (q 39)) then (π zb1 40) else undef) := (Sp.out0 (zhp181 18 23 (by kernel_rfl) (by kernel_rfl))).1
     have zh183 : zy177 22 = .bool (inB 0 4 (q 39)) := (Sp.out0 (zhp181 17 22 (by kernel_rfl) (by kernel_rfl))).1
     have zS184 := zS3.quiet zhc179
     refine step_if (inB 0 4 (q 39)) zh183 ?_ ?_
     · intro zh185
       have zh186 := inB_is _ _ _ zh185
       have zh187 : zy177 23 = π zb1 40 := zh182.trans (bif_t zh185)
       refine yenv [(23, π zb1 40)] (ag_cons zh187 (ag_nil)) ?_
       have zS188 := zS184.loc
       refine Y.load1_ zS188 0 (ι (q 40)) zb1 40 ?_
       exact ⟨zS188.ch, Sp.mk_holds [] all_nil (h2 := (bif_t zh185).symm)⟩
     intro zh185
     exact Sp.mk_holds [] all_nil (h2 := (bif_f zh185).symm)
   refine step_cons ?_ ?_
   · intro zy189 zw190 zhc191 zhf192 zhp193
     have zh194 : zy189 24 = (bif (inB 0 4 (q 39)) then (ι (q 40)) else undef) := (Sp.out0 (zhp193 19 24 (by kernel_rfl) (by kernel_rfl))).1
     have zh195 : zy189 22 = .bool (inB 0 4 (q 39)) := (Sp.out0 (zhp193 17 22 (by kernel_rfl) (by kernel_rfl))).1
     have zS196 := zS3.quiet zhc191
     refine step_if (inB 0 4 (q 39)) zh195 ?_ ?_
     · intro zh197
       have zh198 := inB_is _ _ _ zh197
       have zh199 : zy189 24 = ι (q 40) := zh194.trans (bif_t zh197)
       refine yenv [(24, ι (q 40))] (ag_cons zh199 (ag_nil)) ?_
       have zS200 := zS196.loc
       refine Y.call_ 76 #[ι (q 40), ι 0, ι 4] ?_
       refine (in_any (q 40) 0 4 _).mono ?_; rintro _ zw201 ⟨rfl, zhc202⟩
       have zS203 := zS200.quiet zhc202
       exact ⟨zS203.ch, Sp.mk_holds [] all_nil (h2 := (bif_t zh197).symm)⟩
     intro zh197
     exact Sp.mk_holds [] all_nil (h2 := (bif_f zh197).symm)
   refine step_cons ?_ ?_
   · intro zy204 zw205 zhc206 zhf207 zhp208
     have zh209 : zy204 22 = .bool (inB 0 4 (q 39)) := (Sp.out0 (zhp208 17 22 (by kernel_rfl) (by kernel_rfl))).1
     have zh210 : zy204 25 = (bif (inB 0 4 (q 39)) then (.bool (inB 0 4 (q 40))) else undef) := (Sp.out0 (zhp208 20 25 (by kernel_rfl) (by kernel_rfl))).1
     have zS211 := zS3.quiet zhc206
     refine step1 ?_
     refine yenv [(22, .bool (inB 0 4 (q 39))), (25, (bif (inB 0 4 (q 39)) then (.bool (inB 0 4 (q 40))) else undef))] (ag_cons zh209 (ag_cons zh210 (ag_nil))) ?_
     have zS212 := zS211.loc
     refine Y.pickB_ (inB 0 4 (q 39)) ((inB 0 4 (q 39)) && (inB 0 4 (q 40))) ((bif (inB 0 4 (q 39)) then (.bool (inB 0 4 (q 40))) else undef)) (φ) (fun h => (bif_t h).trans (by rw [h]; rfl)) (fun h => (by rw [h]; rfl)) ?_
     exact ⟨zS212.ch, Sp.mk_holds [] (all_nil)⟩
   refine step_cons ?_ ?_
   · intro zy213 zw214 zhc215 zhf216 zhp217
     have zh218 : zy213 26 = .bool ((inB 0 4 (q 39)) && (inB 0 4 (q 40))) := (Sp.out0 (zhp217 21 26 (by kernel_rfl) (by kernel_rfl))).1
     have zS219 := zS3.quiet zhc215
     refine step1 ?_
     refine yenv [(26, .bool ((inB 0 4 (q 39)) && (inB 0 4 (q 40))))] (ag_cons zh218 (ag_nil)) ?_
     have zS220 := zS219.loc
     refine Y.move_ ?_
     exact ⟨zS220.ch, Sp.mk_holds [] (all_nil)⟩
   refine step_cons ?_ ?_
   · intro zy221 zw222 zhc223 zhf224 zhp225
     have zh226 : zy221 1 = π zb1 0 := (zhf224 1 (by kernel_rfl)).trans (by kernel_rfl)
     have zh227 : zy221 27 = .bool ((inB 0 4 (q 39)) && (inB 0 4 (q 40))) := (Sp.out0 (zhp225 22 27 (by kernel_rfl) (by kernel_rfl))).1
     have zS228 := zS3.quiet zhc223
     refine step_if ((inB 0 4 (q 39)) && (inB 0 4 (q 40))) zh227 ?_ ?_
     · intro zh229
       have zh230 := andL zh229
       have zh231 := andR zh229
       have zh232 := inB_is _ _ _ zh230
       have zh233 := inB_is _ _ _ zh231
       refine yenv [(1, π zb1 0)] (ag_cons zh226 (ag_nil)) ?_
       have zS234 := zS228.loc
       refine Y.pure_ (π zb1 41) ?_
       exact ⟨zS234.ch, Sp.mk_holds [] all_nil (h2 := (bif_t zh229).symm)⟩
     intro zh229
     exact Sp.mk_holds [] all_nil (h2 := (bif_f zh229).symm)
   refine step_cons ?_ ?_
   · intro zy235 zw236 zhc237 zhf238 zhp239
     have zh240 : zy235 28 = (bif ((inB 0 4 (q 39)) && (inB 0 4 (q 40))) then (π zb1 41) else undef) := (Sp.out0 (zhp239 23 28 (by kernel_rfl) (by kernel_rfl))).1
     have zh241 : zy235 27 = .bool ((inB 0 4 (q 39)) && (inB 0 4 (q 40))) := (Sp.out0 (zhp239 22 27 (by kernel_rfl) (by kernel_rfl))).1
     have zS242 := zS3.quiet zhc237
     refine step_if ((inB 0 4 (q 39)) && (inB 0 4 (q 40))) zh241 ?_ ?_
     · intro zh243
       have zh244 := andL zh243
       have zh245 := andR zh243
       have zh246 := inB_is _ _ _ zh244
       have zh247 := inB_is _ _ _ zh245
       have zh248 : zy235 28 = π zb1 41 := zh240.trans (bif_t zh243)
       refine yenv [(28, π zb1 41)] (ag_cons zh248 (ag_nil)) ?_
       have zS249 := zS242.loc
       refine Y.load1_ zS249 0 (ι (q 41)) zb1 41 ?_
       exact ⟨zS249.ch, Sp.mk_holds [] all_nil (h2 := (bif_t zh243).symm)⟩
     intro zh243
     exact Sp.mk_holds [] all_nil (h2 := (bif_f zh243).symm)
   refine step_cons ?_ ?_
   · intro zy250 zw251 zhc252 zhf253 zhp254
     have zh255 : zy250 29 = (bif ((inB 0 4 (q 39)) && (inB 0 4 (q 40))) then (ι (q 41)) else undef) := (Sp.out0 (zhp254 24 29 (by kernel_rfl) (by kernel_rfl))).1
     have zh256 : zy250 27 = .bool ((inB 0 4 (q 39)) && (inB 0 4 (q 40))) := (Sp.out0 (zhp254 22 27 (by kernel_rfl) (by kernel_rfl))).1
     have zS257 := zS3.quiet zhc252
     refine step_if ((inB 0 4 (q 39)) && (inB 0 4 (q 40))) zh256 ?_ ?_
     · intro zh258
       have zh259 := andL zh258
       have zh260 := andR zh258
       have zh261 := inB_is _ _ _ zh259
       have zh262 := inB_is _ _ _ zh260
       have zh263 : zy250 29 = ι (q 41) := zh255.trans (bif_t zh258)
       refine yenv [(29, ι (q 41))] (ag_cons zh263 (ag_nil)) ?_
       have zS264 := zS257.loc
       refine Y.call_ 76 #[ι (q 41), ι 0, ι 4] ?_
       refine (in_any (q 41) 0 4 _).mono ?_; rintro _ zw265 ⟨rfl, zhc266⟩
       have zS267 := zS264.quiet zhc266
       exact ⟨zS267.ch, Sp.mk_holds [] all_nil (h2 := (bif_t zh258).symm)⟩
     intro zh258
     exact Sp.mk_holds [] all_nil (h2 := (bif_f zh258).symm)
   refine step_cons ?_ ?_
   · intro zy268 zw269 zhc270 zhf271 zhp272
     have zh273 : zy268 27 = .bool ((inB 0 4 (q 39)) && (inB 0 4 (q 40))) := (Sp.out0 (zhp272 22 27 (by kernel_rfl) (by kernel_rfl))).1
     have zh274 : zy268 30 = (bif ((inB 0 4 (q 39)) && (inB 0 4 (q 40))) then (.bool (inB 0 4 (q 41))) else undef) := (Sp.out0 (zhp272 25 30 (by kernel_rfl) (by kernel_rfl))).1
     have zS275 := zS3.quiet zhc270
     refine step1 ?_
     refine yenv [(27, .bool ((inB 0 4 (q 39)) && (inB 0 4 (q 40)))), (30, (bif ((inB 0 4 (q 39)) && (inB 0 4 (q 40))) then (.bool (inB 0 4 (q 41))) else undef))] (ag_cons zh273 (ag_cons zh274 (ag_nil))) ?_
     have zS276 := zS275.loc
     refine Y.pickB_ ((inB 0 4 (q 39)) && (inB 0 4 (q 40))) (((inB 0 4 (q 39)) && (inB 0 4 (q 40))) && (inB 0 4 (q 41))) ((bif ((inB 0 4 (q 39)) && (inB 0 4 (q 40))) then (.bool (inB 0 4 (q 41))) else undef)) (φ) (fun h => (bif_t h).trans (by rw [h]; rfl)) (fun h => (by rw [h]; rfl)) ?_
     exact ⟨zS276.ch, Sp.mk_holds [] (all_nil)⟩
   refine step_cons ?_ ?_
   · intro zy277 zw278 zhc279 zhf280 zhp281
     have zh282 : zy277 1 = π zb1 0 := (zhf280 1 (by kernel_rfl)).trans (by kernel_rfl)
     have zS283 := zS3.quiet zhc279
     refine step1 ?_
     refine yenv [(1, π zb1 0)] (ag_cons zh282 (ag_nil)) ?_
     have zS284 := zS283.loc
     refine Y.pure_ (π zb1 42) ?_
     exact ⟨zS284.ch, Sp.mk_holds [] (all_nil)⟩
   refine step_cons ?_ ?_
   · intro zy285 zw286 zhc287 zhf288 zhp289
     have zh290 : zy285 32 = π zb1 42 := (Sp.out0 (zhp289 27 32 (by kernel_rfl) (by kernel_rfl))).1
     have zS291 := zS3.quiet zhc287
     refine step1 ?_
     refine yenv [(32, π zb1 42)] (ag_cons zh290 (ag_nil)) ?_
     have zS292 := zS291.loc
     refine Y.load1_ zS292 0 (ι (q 42)) zb1 42 ?_
     exact ⟨zS292.ch, Sp.mk_holds [] (all_nil)⟩
   refine step_cons ?_ ?_
   · intro zy293 zw294 zhc295 zhf296 zhp297
     have zh298 : zy293 33 = ι (q 42) := (Sp.out0 (zhp297 28 33 (by kernel_rfl) (by kernel_rfl))).1
     have zS299 := zS3.quiet zhc295
     refine step1 ?_
     refine yenv [(33, ι (q 42))] (ag_cons zh298 (ag_nil)) ?_
     have zS300 := zS299.loc
     refine Y.call_ 76 #[ι (q 42), ι 1, ι 1000] ?_
     refine (in_any (q 42) 1 1000 _).mono ?_; rintro _ zw301 ⟨rfl, zhc302⟩
     have zS303 := zS300.quiet zhc302
     exact ⟨zS303.ch, Sp.mk_holds [] (all_nil)⟩
   refine step_cons ?_ ?_
   · intro zy304 zw305 zhc306 zhf307 zhp308
     have zh309 : zy304 34 = .bool (inB 1 1000 (q 42)) := (Sp.out0 (zhp308 29 34 (by kernel_rfl) (by kernel_rfl))).1
     have zS310 := zS3.quiet zhc306
     refine step1 ?_
     refine yenv [(34, .bool (inB 1 1000 (q 42)))] (ag_cons zh309 (ag_nil)) ?_
     have zS311 := zS310.loc
     refine Y.move_ ?_
     exact ⟨zS311.ch, Sp.mk_holds [] (all_nil)⟩
   refine step_cons ?_ ?_
   · intro zy312 zw313 zhc314 zhf315 zhp316
     have zh317 : zy312 1 = π zb1 0 := (zhf315 1 (by kernel_rfl)).trans (by kernel_rfl)
     have zh318 : zy312 35 = .bool (inB 1 1000 (q 42)) := (Sp.out0 (zhp316 30 35 (by kernel_rfl) (by kernel_rfl))).1
     have zS319 := zS3.quiet zhc314
     refine step_if (inB 1 1000 (q 42)) zh318 ?_ ?_
     · intro zh320
       have zh321 := inB_is _ _ _ zh320
       refine yenv [(1, π zb1 0)] (ag_cons zh317 (ag_nil)) ?_
       have zS322 := zS319.loc
       refine Y.pure_ (π zb1 43) ?_
       exact ⟨zS322.ch, Sp.mk_holds [] all_nil (h2 := (bif_t zh320).symm)⟩
     intro zh320
     exact Sp.mk_holds [] all_nil (h2 := (bif_f zh320).symm)
   refine step_cons ?_ ?_
   · intro zy323 zw324 zhc325 zhf326 zhp327
     have zh328 : zy323 36 = (bif (inB 1 1000 (q 42)) then (π zb1 43) else undef) := (Sp.out0 (zhp327 31 36 (by kernel_rfl) (by kernel_rfl))).1
     have zh329 : zy323 35 = .bool (inB 1 1000 (q 42)) := (Sp.out0 (zhp327 30 35 (by kernel_rfl) (by kernel_rfl))).1
     have zS330 := zS3.quiet zhc325
     refine step_if (inB 1 1000 (q 42)) zh329 ?_ ?_
     · intro zh331
       have zh332 := inB_is _ _ _ zh331
       have zh333 : zy323 36 = π zb1 43 := zh328.trans (bif_t zh331)
       refine yenv [(36, π zb1 43)] (ag_cons zh333 (ag_nil)) ?_
       have zS334 := zS330.loc
       refine Y.load1_ zS334 0 (ι (q 43)) zb1 43 ?_
       exact ⟨zS334.ch, Sp.mk_holds [] all_nil (h2 := (bif_t zh331).symm)⟩
     intro zh331
     exact Sp.mk_holds [] all_nil (h2 := (bif_f zh331).symm)
   refine step_cons ?_ ?_
   · intro zy335 zw336 zhc337 zhf338 zhp339
     have zh340 : zy335 37 = (bif (inB 1 1000 (q 42)) then (ι (q 43)) else undef) := (Sp.out0 (zhp339 32 37 (by kernel_rfl) (by kernel_rfl))).1
     have zh341 : zy335 35 = .bool (inB 1 1000 (q 42)) := (Sp.out0 (zhp339 30 35 (by kernel_rfl) (by kernel_rfl))).1
     have zS342 := zS3.quiet zhc337
     refine step_if (inB 1 1000 (q 42)) zh341 ?_ ?_
     · intro zh343
       have zh344 := inB_is _ _ _ zh343
       have zh345 : zy335 37 = ι (q 43) := zh340.trans (bif_t zh343)
       refine yenv [(37, ι (q 43))] (ag_cons zh345 (ag_nil)) ?_
       have zS346 := zS342.loc
       refine Y.call_ 76 #[ι (q 43), ι 1, ι 1000] ?_
       refine (in_any (q 43) 1 1000 _).mono ?_; rintro _ zw347 ⟨rfl, zhc348⟩
       have zS349 := zS346.quiet zhc348
       exact ⟨zS349.ch, Sp.mk_holds [] all_nil (h2 := (bif_t zh343).symm)⟩
     intro zh343
     exact Sp.mk_holds [] all_nil (h2 := (bif_f zh343).symm)
   refine step_cons ?_ ?_
   · intro zy350 zw351 zhc352 zhf353 zhp354
     have zh355 : zy350 35 = .bool (inB 1 1000 (q 42)) := (Sp.out0 (zhp354 30 35 (by kernel_rfl) (by kernel_rfl))).1
     have zh356 : zy350 38 = (bif (inB 1 1000 (q 42)) then (.bool (inB 1 1000 (q 43))) else undef) := (Sp.out0 (zhp354 33 38 (by kernel_rfl) (by kernel_rfl))).1
     have zS357 := zS3.quiet zhc352
     refine step1 ?_
     refine yenv [(35, .bool (inB 1 1000 (q 42))), (38, (bif (inB 1 1000 (q 42)) then (.bool (inB 1 1000 (q 43))) else undef))] (ag_cons zh355 (ag_cons zh356 (ag_nil))) ?_
     have zS358 := zS357.loc
     refine Y.pickB_ (inB 1 1000 (q 42)) ((inB 1 1000 (q 42)) && (inB 1 1000 (q 43))) ((bif (inB 1 1000 (q 42)) then (.bool (inB 1 1000 (q 43))) else undef)) (φ) (fun h => (bif_t h).trans (by rw [h]; rfl)) (fun h => (by rw [h]; rfl)) ?_
     exact ⟨zS358.ch, Sp.mk_holds [] (all_nil)⟩
   refine step_cons ?_ ?_
   · intro zy359 zw360 zhc361 zhf362 zhp363
     have zh364 : zy359 39 = .bool ((inB 1 1000 (q 42)) && (inB 1 1000 (q 43))) := (Sp.out0 (zhp363 34 39 (by kernel_rfl) (by kernel_rfl))).1
     have zS365 := zS3.quiet zhc361
     refine step1 ?_
     refine yenv [(39, .bool ((inB 1 1000 (q 42)) && (inB 1 1000 (q 43))))] (ag_cons zh364 (ag_nil)) ?_
     have zS366 := zS365.loc
     refine Y.move_ ?_
     exact ⟨zS366.ch, Sp.mk_holds [] (all_nil)⟩
   refine step_cons ?_ ?_
   · intro zy367 zw368 zhc369 zhf370 zhp371
     have zh372 : zy367 1 = π zb1 0 := (zhf370 1 (by kernel_rfl)).trans (by kernel_rfl)
     have zh373 : zy367 40 = .bool ((inB 1 1000 (q 42)) && (inB 1 1000 (q 43))) := (Sp.out0 (zhp371 35 40 (by kernel_rfl) (by kernel_rfl))).1
     have zS374 := zS3.quiet zhc369
     refine step_if ((inB 1 1000 (q 42)) && (inB 1 1000 (q 43))) zh373 ?_ ?_
     · intro zh375
       have zh376 := andL zh375
       have zh377 := andR zh375
       have zh378 := inB_is _ _ _ zh376
       have zh379 := inB_is _ _ _ zh377
       refine yenv [(1, π zb1 0)] (ag_cons zh372 (ag_nil)) ?_
       have zS380 := zS374.loc
       refine Y.pure_ (π zb1 44) ?_
       exact ⟨zS380.ch, Sp.mk_holds [] all_nil (h2 := (bif_t zh375).symm)⟩
     intro zh375
     exact Sp.mk_holds [] all_nil (h2 := (bif_f zh375).symm)
   refine step_cons ?_ ?_
   · intro zy381 zw382 zhc383 zhf384 zhp385
     have zh386 : zy381 41 = (bif ((inB 1 1000 (q 42)) && (inB 1 1000 (q 43))) then (π zb1 44) else undef) := (Sp.out0 (zhp385 36 41 (by kernel_rfl) (by kernel_rfl))).1
     have zh387 : zy381 40 = .bool ((inB 1 1000 (q 42)) && (inB 1 1000 (q 43))) := (Sp.out0 (zhp385 35 40 (by kernel_rfl) (by kernel_rfl))).1
     have zS388 := zS3.quiet zhc383
     refine step_if ((inB 1 1000 (q 42)) && (inB 1 1000 (q 43))) zh387 ?_ ?_
     · intro zh389
       have zh390 := andL zh389
       have zh391 := andR zh389
       have zh392 := inB_is _ _ _ zh390
       have zh393 := inB_is _ _ _ zh391
       have zh394 : zy381 41 = π zb1 44 := zh386.trans (bif_t zh389)
       refine yenv [(41, π zb1 44)] (ag_cons zh394 (ag_nil)) ?_
       have zS395 := zS388.loc
       refine Y.load1_ zS395 0 (ι (q 44)) zb1 44 ?_
       exact ⟨zS395.ch, Sp.mk_holds [] all_nil (h2 := (bif_t zh389).symm)⟩
     intro zh389
     exact Sp.mk_holds [] all_nil (h2 := (bif_f zh389).symm)
   refine step_cons ?_ ?_
   · intro zy396 zw397 zhc398 zhf399 zhp400
     have zh401 : zy396 42 = (bif ((inB 1 1000 (q 42)) && (inB 1 1000 (q 43))) then (ι (q 44)) else undef) := (Sp.out0 (zhp400 37 42 (by kernel_rfl) (by kernel_rfl))).1
     have zh402 : zy396 40 = .bool ((inB 1 1000 (q 42)) && (inB 1 1000 (q 43))) := (Sp.out0 (zhp400 35 40 (by kernel_rfl) (by kernel_rfl))).1
     have zS403 := zS3.quiet zhc398
     refine step_if ((inB 1 1000 (q 42)) && (inB 1 1000 (q 43))) zh402 ?_ ?_
     · intro zh404
       have zh405 := andL zh404
       have zh406 := andR zh404
       have zh407 := inB_is _ _ _ zh405
       have zh408 := inB_is _ _ _ zh406
       have zh409 : zy396 42 = ι (q 44) := zh401.trans (bif_t zh404)
       refine yenv [(42, ι (q 44))] (ag_cons zh409 (ag_nil)) ?_
       have zS410 := zS403.loc
       refine Y.call_ 76 #[ι (q 44), ι 1, ι 1000] ?_
       refine (in_any (q 44) 1 1000 _).mono ?_; rintro _ zw411 ⟨rfl, zhc412⟩
       have zS413 := zS410.quiet zhc412
       exact ⟨zS413.ch, Sp.mk_holds [] all_nil (h2 := (bif_t zh404).symm)⟩
     intro zh404
     exact Sp.mk_holds [] all_nil (h2 := (bif_f zh404).symm)
   refine step_cons ?_ ?_
   · intro zy414 zw415 zhc416 zhf417 zhp418
     have zh419 : zy414 40 = .bool ((inB 1 1000 (q 42)) && (inB 1 1000 (q 43))) := (Sp.out0 (zhp418 35 40 (by kernel_rfl) (by kernel_rfl))).1
     have zh420 : zy414 43 = (bif ((inB 1 1000 (q 42)) && (inB 1 1000 (q 43))) then (.bool (inB 1 1000 (q 44))) else undef) := (Sp.out0 (zhp418 38 43 (by kernel_rfl) (by kernel_rfl))).1
     have zS421 := zS3.quiet zhc416
     refine step1 ?_
     refine yenv [(40, .bool ((inB 1 1000 (q 42)) && (inB 1 1000 (q 43)))), (43, (bif ((inB 1 1000 (q 42)) && (inB 1 1000 (q 43))) then (.bool (inB 1 1000 (q 44))) else undef))] (ag_cons zh419 (ag_cons zh420 (ag_nil))) ?_
     have zS422 := zS421.loc
     refine Y.pickB_ ((inB 1 1000 (q 42)) && (inB 1 1000 (q 43))) (((inB 1 1000 (q 42)) && (inB 1 1000 (q 43))) && (inB 1 1000 (q 44))) ((bif ((inB 1 1000 (q 42)) && (inB 1 1000 (q 43))) then (.bool (inB 1 1000 (q 44))) else undef)) (φ) (fun h => (bif_t h).trans (by rw [h]; rfl)) (fun h => (by rw [h]; rfl)) ?_
     exact ⟨zS422.ch, Sp.mk_holds [] (all_nil)⟩
   refine step_cons ?_ ?_
   · intro zy423 zw424 zhc425 zhf426 zhp427
     have zh428 : zy423 44 = .bool (((inB 1 1000 (q 42)) && (inB 1 1000 (q 43))) && (inB 1 1000 (q 44))) := (Sp.out0 (zhp427 39 44 (by kernel_rfl) (by kernel_rfl))).1
     have zS429 := zS3.quiet zhc425
     refine step1 ?_
     refine yenv [(44, .bool (((inB 1 1000 (q 42)) && (inB 1 1000 (q 43))) && (inB 1 1000 (q 44))))] (ag_cons zh428 (ag_nil)) ?_
     have zS430 := zS429.loc
     refine Y.move_ ?_
     exact ⟨zS430.ch, Sp.mk_holds [] (all_nil)⟩
   refine step_cons ?_ ?_
   · intro zy431 zw432 zhc433 zhf434 zhp435
     have zh436 : zy431 1 = π zb1 0 := (zhf434 1 (by kernel_rfl)).trans (by kernel_rfl)
     have zh437 : zy431 45 = .bool (((inB 1 1000 (q 42)) && (inB 1 1000 (q 43))) && (inB 1 1000 (q 44))) := (Sp.out0 (zhp435 40 45 (by kernel_rfl) (by kernel_rfl))).1
     have zS438 := zS3.quiet zhc433
     refine step_if (((inB 1 1000 (q 42)) && (inB 1 1000 (q 43))) && (inB 1 1000 (q 44))) zh437 ?_ ?_
     · intro zh439
       have zh440 := andL zh439
       have zh441 := andR zh439
       have zh442 := andL zh440
       have zh443 := andR zh440
       have zh444 := inB_is _ _ _ zh442
       have zh445 := inB_is _ _ _ zh443
       have zh446 := inB_is _ _ _ zh441
       refine yenv [(1, π zb1 0)] (ag_cons zh436 (ag_nil)) ?_
       have zS447 := zS438.loc
       refine Y.pure_ (π zb1 45) ?_
       exact ⟨zS447.ch, Sp.mk_holds [] all_nil (h2 := (bif_t zh439).symm)⟩
     intro zh439
     exact Sp.mk_holds [] all_nil (h2 := (bif_f zh439).symm)
   refine step_cons ?_ ?_
   · intro zy448 zw449 zhc450 zhf451 zhp452
     have zh453 : zy448 46 = (bif (((inB 1 1000 (q 42)) && (inB 1 1000 (q 43))) && (inB 1 1000 (q 44))) then (π zb1 45) else undef) := (Sp.out0 (zhp452 41 46 (by kernel_rfl) (by kernel_rfl))).1
     have zh454 : zy448 45 = .bool (((inB 1 1000 (q 42)) && (inB 1 1000 (q 43))) && (inB 1 1000 (q 44))) := (Sp.out0 (zhp452 40 45 (by kernel_rfl) (by kernel_rfl))).1
     have zS455 := zS3.quiet zhc450
     refine step_if (((inB 1 1000 (q 42)) && (inB 1 1000 (q 43))) && (inB 1 1000 (q 44))) zh454 ?_ ?_
     · intro zh456
       have zh457 := andL zh456
       have zh458 := andR zh456
       have zh459 := andL zh457
       have zh460 := andR zh457
       have zh461 := inB_is _ _ _ zh459
       have zh462 := inB_is _ _ _ zh460
       have zh463 := inB_is _ _ _ zh458
       have zh464 : zy448 46 = π zb1 45 := zh453.trans (bif_t zh456)
       refine yenv [(46, π zb1 45)] (ag_cons zh464 (ag_nil)) ?_
       have zS465 := zS455.loc
       refine Y.load1_ zS465 0 (ι (q 45)) zb1 45 ?_
       exact ⟨zS465.ch, Sp.mk_holds [] all_nil (h2 := (bif_t zh456).symm)⟩
     intro zh456
     exact Sp.mk_holds [] all_nil (h2 := (bif_f zh456).symm)
   refine step_cons ?_ ?_
   · intro zy466 zw467 zhc468 zhf469 zhp470
     have zh471 : zy466 47 = (bif (((inB 1 1000 (q 42)) && (inB 1 1000 (q 43))) && (inB 1 1000 (q 44))) then (ι (q 45)) else undef) := (Sp.out0 (zhp470 42 47 (by kernel_rfl) (by kernel_rfl))).1
     have zh472 : zy466 45 = .bool (((inB 1 1000 (q 42)) && (inB 1 1000 (q 43))) && (inB 1 1000 (q 44))) := (Sp.out0 (zhp470 40 45 (by kernel_rfl) (by kernel_rfl))).1
     have zS473 := zS3.quiet zhc468
     refine step_if (((inB 1 1000 (q 42)) && (inB 1 1000 (q 43))) && (inB 1 1000 (q 44))) zh472 ?_ ?_
     · intro zh474
       have zh475 := andL zh474
       have zh476 := andR zh474
       have zh477 := andL zh475
       have zh478 := andR zh475
       have zh479 := inB_is _ _ _ zh477
       have zh480 := inB_is _ _ _ zh478
       have zh481 := inB_is _ _ _ zh476
       have zh482 : zy466 47 = ι (q 45) := zh471.trans (bif_t zh474)
       refine yenv [(47, ι (q 45))] (ag_cons zh482 (ag_nil)) ?_
       have zS483 := zS473.loc
       refine Y.call_ 76 #[ι (q 45), ι 1, ι 1000] ?_
       refine (in_any (q 45) 1 1000 _).mono ?_; rintro _ zw484 ⟨rfl, zhc485⟩
       have zS486 := zS483.quiet zhc485
       exact ⟨zS486.ch, Sp.mk_holds [] all_nil (h2 := (bif_t zh474).symm)⟩
     intro zh474
     exact Sp.mk_holds [] all_nil (h2 := (bif_f zh474).symm)
   refine step_cons ?_ ?_
   · intro zy487 zw488 zhc489 zhf490 zhp491
     have zh492 : zy487 45 = .bool (((inB 1 1000 (q 42)) && (inB 1 1000 (q 43))) && (inB 1 1000 (q 44))) := (Sp.out0 (zhp491 40 45 (by kernel_rfl) (by kernel_rfl))).1
     have zh493 : zy487 48 = (bif (((inB 1 1000 (q 42)) && (inB 1 1000 (q 43))) && (inB 1 1000 (q 44))) then (.bool (inB 1 1000 (q 45))) else undef) := (Sp.out0 (zhp491 43 48 (by kernel_rfl) (by kernel_rfl))).1
     have zS494 := zS3.quiet zhc489
     refine step1 ?_
     refine yenv [(45, .bool (((inB 1 1000 (q 42)) && (inB 1 1000 (q 43))) && (inB 1 1000 (q 44)))), (48, (bif (((inB 1 1000 (q 42)) && (inB 1 1000 (q 43))) && (inB 1 1000 (q 44))) then (.bool (inB 1 1000 (q 45))) else undef))] (ag_cons zh492 (ag_cons zh493 (ag_nil))) ?_
     have zS495 := zS494.loc
     refine Y.pickB_ (((inB 1 1000 (q 42)) && (inB 1 1000 (q 43))) && (inB 1 1000 (q 44))) ((((inB 1 1000 (q 42)) && (inB 1 1000 (q 43))) && (inB 1 1000 (q 44))) && (inB 1 1000 (q 45))) ((bif (((inB 1 1000 (q 42)) && (inB 1 1000 (q 43))) && (inB 1 1000 (q 44))) then (.bool (inB 1 1000 (q 45))) else undef)) (φ) (fun h => (bif_t h).trans (by rw [h]; rfl)) (fun h => (by rw [h]; rfl)) ?_
     exact ⟨zS495.ch, Sp.mk_holds [] (all_nil)⟩
   refine step_cons ?_ ?_
   · intro zy496 zw497 zhc498 zhf499 zhp500
     have zh501 : zy496 1 = π zb1 0 := (zhf499 1 (by kernel_rfl)).trans (by kernel_rfl)
     have zS502 := zS3.quiet zhc498
     refine step1 ?_
     refine yenv [(1, π zb1 0)] (ag_cons zh501 (ag_nil)) ?_
     have zS503 := zS502.loc
     refine Y.pure_ (π zb1 46) ?_
     exact ⟨zS503.ch, Sp.mk_holds [] (all_nil)⟩
   refine step_cons ?_ ?_
   · intro zy504 zw505 zhc506 zhf507 zhp508
     have zh509 : zy504 50 = π zb1 46 := (Sp.out0 (zhp508 45 50 (by kernel_rfl) (by kernel_rfl))).1
     have zS510 := zS3.quiet zhc506
     refine step1 ?_
     refine yenv [(50, π zb1 46)] (ag_cons zh509 (ag_nil)) ?_
     have zS511 := zS510.loc
     refine Y.load1_ zS511 0 (ι (q 46)) zb1 46 ?_
     exact ⟨zS511.ch, Sp.mk_holds [] (all_nil)⟩
   refine step_cons ?_ ?_
   · intro zy512 zw513 zhc514 zhf515 zhp516
     have zh517 : zy512 51 = ι (q 46) := (Sp.out0 (zhp516 46 51 (by kernel_rfl) (by kernel_rfl))).1
     have zS518 := zS3.quiet zhc514
     refine step1 ?_
     refine yenv [(51, ι (q 46))] (ag_cons zh517 (ag_nil)) ?_
     have zS519 := zS518.loc
     refine Y.call_ 76 #[ι (q 46), ι 1, ι 1000] ?_
     refine (in_any (q 46) 1 1000 _).mono ?_; rintro _ zw520 ⟨rfl, zhc521⟩
     have zS522 := zS519.quiet zhc521
     exact ⟨zS522.ch, Sp.mk_holds [] (all_nil)⟩
   refine step_cons ?_ ?_
   · intro zy523 zw524 zhc525 zhf526 zhp527
     have zh528 : zy523 52 = .bool (inB 1 1000 (q 46)) := (Sp.out0 (zhp527 47 52 (by kernel_rfl) (by kernel_rfl))).1
     have zS529 := zS3.quiet zhc525
     refine step1 ?_
     refine yenv [(52, .bool (inB 1 1000 (q 46)))] (ag_cons zh528 (ag_nil)) ?_
     have zS530 := zS529.loc
     refine Y.move_ ?_
     exact ⟨zS530.ch, Sp.mk_holds [] (all_nil)⟩
   refine step_cons ?_ ?_
   · intro zy531 zw532 zhc533 zhf534 zhp535
     have zh536 : zy531 1 = π zb1 0 := (zhf534 1 (by kernel_rfl)).trans (by kernel_rfl)
     have zh537 : zy531 53 = .bool (inB 1 1000 (q 46)) := (Sp.out0 (zhp535 48 53 (by kernel_rfl) (by kernel_rfl))).1
     have zS538 := zS3.quiet zhc533
     refine step_if (inB 1 1000 (q 46)) zh537 ?_ ?_
     · intro zh539
       have zh540 := inB_is _ _ _ zh539
       refine yenv [(1, π zb1 0)] (ag_cons zh536 (ag_nil)) ?_
       have zS541 := zS538.loc
       refine Y.pure_ (π zb1 47) ?_
       exact ⟨zS541.ch, Sp.mk_holds [] all_nil (h2 := (bif_t zh539).symm)⟩
     intro zh539
     exact Sp.mk_holds [] all_nil (h2 := (bif_f zh539).symm)
   refine step_cons ?_ ?_
   · intro zy542 zw543 zhc544 zhf545 zhp546
     have zh547 : zy542 54 = (bif (inB 1 1000 (q 46)) then (π zb1 47) else undef) := (Sp.out0 (zhp546 49 54 (by kernel_rfl) (by kernel_rfl))).1
     have zh548 : zy542 53 = .bool (inB 1 1000 (q 46)) := (Sp.out0 (zhp546 48 53 (by kernel_rfl) (by kernel_rfl))).1
     have zS549 := zS3.quiet zhc544
     refine step_if (inB 1 1000 (q 46)) zh548 ?_ ?_
     · intro zh550
       have zh551 := inB_is _ _ _ zh550
       have zh552 : zy542 54 = π zb1 47 := zh547.trans (bif_t zh550)
       refine yenv [(54, π zb1 47)] (ag_cons zh552 (ag_nil)) ?_
       have zS553 := zS549.loc
       refine Y.load1_ zS553 0 (ι (q 47)) zb1 47 ?_
       exact ⟨zS553.ch, Sp.mk_holds [] all_nil (h2 := (bif_t zh550).symm)⟩
     intro zh550
     exact Sp.mk_holds [] all_nil (h2 := (bif_f zh550).symm)
   refine step_cons ?_ ?_
   · intro zy554 zw555 zhc556 zhf557 zhp558
     have zh559 : zy554 55 = (bif (inB 1 1000 (q 46)) then (ι (q 47)) else undef) := (Sp.out0 (zhp558 50 55 (by kernel_rfl) (by kernel_rfl))).1
     have zh560 : zy554 53 = .bool (inB 1 1000 (q 46)) := (Sp.out0 (zhp558 48 53 (by kernel_rfl) (by kernel_rfl))).1
     have zS561 := zS3.quiet zhc556
     refine step_if (inB 1 1000 (q 46)) zh560 ?_ ?_
     · intro zh562
       have zh563 := inB_is _ _ _ zh562
       have zh564 : zy554 55 = ι (q 47) := zh559.trans (bif_t zh562)
       refine yenv [(55, ι (q 47))] (ag_cons zh564 (ag_nil)) ?_
       have zS565 := zS561.loc
       refine Y.call_ 76 #[ι (q 47), ι 0, ι 1000] ?_
       refine (in_any (q 47) 0 1000 _).mono ?_; rintro _ zw566 ⟨rfl, zhc567⟩
       have zS568 := zS565.quiet zhc567
       exact ⟨zS568.ch, Sp.mk_holds [] all_nil (h2 := (bif_t zh562).symm)⟩
     intro zh562
     exact Sp.mk_holds [] all_nil (h2 := (bif_f zh562).symm)
   refine step_cons ?_ ?_
   · intro zy569 zw570 zhc571 zhf572 zhp573
     have zh574 : zy569 53 = .bool (inB 1 1000 (q 46)) := (Sp.out0 (zhp573 48 53 (by kernel_rfl) (by kernel_rfl))).1
     have zh575 : zy569 56 = (bif (inB 1 1000 (q 46)) then (.bool (inB 0 1000 (q 47))) else undef) := (Sp.out0 (zhp573 51 56 (by kernel_rfl) (by kernel_rfl))).1
     have zS576 := zS3.quiet zhc571
     refine step1 ?_
     refine yenv [(53, .bool (inB 1 1000 (q 46))), (56, (bif (inB 1 1000 (q 46)) then (.bool (inB 0 1000 (q 47))) else undef))] (ag_cons zh574 (ag_cons zh575 (ag_nil))) ?_
     have zS577 := zS576.loc
     refine Y.pickB_ (inB 1 1000 (q 46)) ((inB 1 1000 (q 46)) && (inB 0 1000 (q 47))) ((bif (inB 1 1000 (q 46)) then (.bool (inB 0 1000 (q 47))) else undef)) (φ) (fun h => (bif_t h).trans (by rw [h]; rfl)) (fun h => (by rw [h]; rfl)) ?_
     exact ⟨zS577.ch, Sp.mk_holds [] (all_nil)⟩
   refine step_cons ?_ ?_
   · intro zy578 zw579 zhc580 zhf581 zhp582
     have zh583 : zy578 1 = π zb1 0 := (zhf581 1 (by kernel_rfl)).trans (by kernel_rfl)
     have zS584 := zS3.quiet zhc580
     refine step1 ?_
     refine yenv [(1, π zb1 0)] (ag_cons zh583 (ag_nil)) ?_
     have zS585 := zS584.loc
     refine Y.pure_ (π zb1 48) ?_
     exact ⟨zS585.ch, Sp.mk_holds [] (all_nil)⟩
   refine step_cons ?_ ?_
   · intro zy586 zw587 zhc588 zhf589 zhp590
     have zh591 : zy586 58 = π zb1 48 := (Sp.out0 (zhp590 53 58 (by kernel_rfl) (by kernel_rfl))).1
     have zS592 := zS3.quiet zhc588
     refine step1 ?_
     refine yenv [(58, π zb1 48)] (ag_cons zh591 (ag_nil)) ?_
     have zS593 := zS592.loc
     refine Y.load1_ zS593 0 (ι (q 48)) zb1 48 ?_
     exact ⟨zS593.ch, Sp.mk_holds [] (all_nil)⟩
   refine step_cons ?_ ?_
   · intro zy594 zw595 zhc596 zhf597 zhp598
     have zh599 : zy594 59 = ι (q 48) := (Sp.out0 (zhp598 54 59 (by kernel_rfl) (by kernel_rfl))).1
     have zS600 := zS3.quiet zhc596
     refine step1 ?_
     refine yenv [(59, ι (q 48))] (ag_cons zh599 (ag_nil)) ?_
     have zS601 := zS600.loc
     refine Y.call_ 76 #[ι (q 48), ι 1, ι 3] ?_
     refine (in_any (q 48) 1 3 _).mono ?_; rintro _ zw602 ⟨rfl, zhc603⟩
     have zS604 := zS601.quiet zhc603
     exact ⟨zS604.ch, Sp.mk_holds [] (all_nil)⟩
   refine step_cons ?_ ?_
   · intro zy605 zw606 zhc607 zhf608 zhp609
     have zh610 : zy605 60 = .bool (inB 1 3 (q 48)) := (Sp.out0 (zhp609 55 60 (by kernel_rfl) (by kernel_rfl))).1
     have zS611 := zS3.quiet zhc607
     refine step1 ?_
     refine yenv [(60, .bool (inB 1 3 (q 48)))] (ag_cons zh610 (ag_nil)) ?_
     have zS612 := zS611.loc
     refine Y.pure_ (.bool (inB 1 3 (q 48))) ?_
     exact ⟨zS612.ch, Sp.mk_holds [] (all_nil)⟩
   refine step_cons ?_ ?_
   · intro zy613 zw614 zhc615 zhf616 zhp617
     have zh618 : zy613 1 = π zb1 0 := (zhf616 1 (by kernel_rfl)).trans (by kernel_rfl)
     have zh619 : zy613 61 = .bool (inB 1 3 (q 48)) := (Sp.out0 (zhp617 56 61 (by kernel_rfl) (by kernel_rfl))).1
     have zS620 := zS3.quiet zhc615
     refine step_if (inB 1 3 (q 48)) zh619 ?_ ?_
     · intro zh621
       have zh622 := inB_is _ _ _ zh621
       refine yenv [(1, π zb1 0)] (ag_cons zh618 (ag_nil)) ?_
       have zS623 := zS620.loc
       refine Y.pure_ (π zb1 49) ?_
       exact ⟨zS623.ch, Sp.mk_holds [] all_nil (h2 := (bif_t zh621).symm)⟩
     intro zh621
     exact Sp.mk_holds [] all_nil (h2 := (bif_f zh621).symm)
   refine step_cons ?_ ?_
   · intro zy624 zw625 zhc626 zhf627 zhp628
     have zh629 : zy624 62 = (bif (inB 1 3 (q 48)) then (π zb1 49) else undef) := (Sp.out0 (zhp628 57 62 (by kernel_rfl) (by kernel_rfl))).1
     have zh630 : zy624 61 = .bool (inB 1 3 (q 48)) := (Sp.out0 (zhp628 56 61 (by kernel_rfl) (by kernel_rfl))).1
     have zS631 := zS3.quiet zhc626
     refine step_if (inB 1 3 (q 48)) zh630 ?_ ?_
     · intro zh632
       have zh633 := inB_is _ _ _ zh632
       have zh634 : zy624 62 = π zb1 49 := zh629.trans (bif_t zh632)
       refine yenv [(62, π zb1 49)] (ag_cons zh634 (ag_nil)) ?_
       have zS635 := zS631.loc
       refine Y.load1_ zS635 0 (ι (q 49)) zb1 49 ?_
       exact ⟨zS635.ch, Sp.mk_holds [] all_nil (h2 := (bif_t zh632).symm)⟩
     intro zh632
     exact Sp.mk_holds [] all_nil (h2 := (bif_f zh632).symm)
   refine step_cons ?_ ?_
   · intro zy636 zw637 zhc638 zhf639 zhp640
     have zh641 : zy636 63 = (bif (inB 1 3 (q 48)) then (ι (q 49)) else undef) := (Sp.out0 (zhp640 58 63 (by kernel_rfl) (by kernel_rfl))).1
     have zh642 : zy636 61 = .bool (inB 1 3 (q 48)) := (Sp.out0 (zhp640 56 61 (by kernel_rfl) (by kernel_rfl))).1
     have zS643 := zS3.quiet zhc638
     refine step_if (inB 1 3 (q 48)) zh642 ?_ ?_
     · intro zh644
       have zh645 := inB_is _ _ _ zh644
       have zh646 : zy636 63 = ι (q 49) := zh641.trans (bif_t zh644)
       refine yenv [(63, ι (q 49))] (ag_cons zh646 (ag_nil)) ?_
       have zS647 := zS643.loc
       refine Y.call_ 76 #[ι (q 49), ι 1, ι 3] ?_
       refine (in_any (q 49) 1 3 _).mono ?_; rintro _ zw648 ⟨rfl, zhc649⟩
       have zS650 := zS647.quiet zhc649
       exact ⟨zS650.ch, Sp.mk_holds [] all_nil (h2 := (bif_t zh644).symm)⟩
     intro zh644
     exact Sp.mk_holds [] all_nil (h2 := (bif_f zh644).symm)
   refine step_cons ?_ ?_
   · intro zy651 zw652 zhc653 zhf654 zhp655
     have zh656 : zy651 61 = .bool (inB 1 3 (q 48)) := (Sp.out0 (zhp655 56 61 (by kernel_rfl) (by kernel_rfl))).1
     have zh657 : zy651 64 = (bif (inB 1 3 (q 48)) then (.bool (inB 1 3 (q 49))) else undef) := (Sp.out0 (zhp655 59 64 (by kernel_rfl) (by kernel_rfl))).1
     have zS658 := zS3.quiet zhc653
     refine step1 ?_
     refine yenv [(61, .bool (inB 1 3 (q 48))), (64, (bif (inB 1 3 (q 48)) then (.bool (inB 1 3 (q 49))) else undef))] (ag_cons zh656 (ag_cons zh657 (ag_nil))) ?_
     have zS659 := zS658.loc
     refine Y.pickB_ (inB 1 3 (q 48)) ((inB 1 3 (q 48)) && (inB 1 3 (q 49))) ((bif (inB 1 3 (q 48)) then (.bool (inB 1 3 (q 49))) else undef)) (φ) (fun h => (bif_t h).trans (by rw [h]; rfl)) (fun h => (by rw [h]; rfl)) ?_
     exact ⟨zS659.ch, Sp.mk_holds [] (all_nil)⟩
   refine step_cons ?_ ?_
   · intro zy660 zw661 zhc662 zhf663 zhp664
     have zh665 : zy660 1 = π zb1 0 := (zhf663 1 (by kernel_rfl)).trans (by kernel_rfl)
     have zS666 := zS3.quiet zhc662
     refine step1 ?_
     refine yenv [(1, π zb1 0)] (ag_cons zh665 (ag_nil)) ?_
     have zS667 := zS666.loc
     refine Y.loadN_ zS667 0 56 (polC q ka kn kc) zb1 0 ?_
     exact ⟨zS667.ch, Sp.mk_holds [] (all_nil)⟩
   refine step_cons ?_ ?_
   · intro zy668 zw669 zhc670 zhf671 zhp672
     have zh673 : zy668 66 = .agg (polC q ka kn kc) := (Sp.out0 (zhp672 61 66 (by kernel_rfl) (by kernel_rfl))).1
     have zS674 := zS3.quiet zhc670
     refine step1 ?_
     refine yenv [(66, .agg (polC q ka kn kc))] (ag_cons zh673 (ag_nil)) ?_
     have zS675 := zS674.loc
     refine Y.call_ 77 #[.agg (polC q ka kn kc)] ?_
     refine (limits_r q ka kn kc _).mono ?_; rintro _ zw676 ⟨rfl, zhc677⟩
     have zS678 := zS675.quiet zhc677
     exact ⟨zS678.ch, Sp.mk_holds [] (all_nil)⟩
   refine step_cons ?_ ?_
   · intro zy679 zw680 zhc681 zhf682 zhp683
     have zh684 : zy679 1 = π zb1 0 := (zhf682 1 (by kernel_rfl)).trans (by kernel_rfl)
     have zS685 := zS3.quiet zhc681
     refine step1 ?_
     refine yenv [(1, π zb1 0)] (ag_cons zh684 (ag_nil)) ?_
     have zS686 := zS685.loc
     refine Y.pure_ (π zb1 55) ?_
     exact ⟨zS686.ch, Sp.mk_holds [] (all_nil)⟩
   refine step_cons ?_ ?_
   · intro zy687 zw688 zhc689 zhf690 zhp691
     have zh692 : zy687 68 = π zb1 55 := (Sp.out0 (zhp691 63 68 (by kernel_rfl) (by kernel_rfl))).1
     have zS693 := zS3.quiet zhc689
     refine step1 ?_
     refine yenv [(68, π zb1 55)] (ag_cons zh692 (ag_nil)) ?_
     have zS694 := zS693.loc
     refine Y.load1_ zS694 0 (ι (q 55)) zb1 55 ?_
     exact ⟨zS694.ch, Sp.mk_holds [] (all_nil)⟩
   refine step_cons ?_ ?_
   · intro zy695 zw696 zhc697 zhf698 zhp699
     have zh700 : zy695 69 = ι (q 55) := (Sp.out0 (zhp699 64 69 (by kernel_rfl) (by kernel_rfl))).1
     have zS701 := zS3.quiet zhc697
     refine step1 ?_
     refine yenv [(69, ι (q 55))] (ag_cons zh700 (ag_nil)) ?_
     have zS702 := zS701.loc
     refine Y.call_ 76 #[ι (q 55), ι 0, ι 65535] ?_
     refine (in_any (q 55) 0 65535 _).mono ?_; rintro _ zw703 ⟨rfl, zhc704⟩
     have zS705 := zS702.quiet zhc704
     exact ⟨zS705.ch, Sp.mk_holds [] (all_nil)⟩
   refine step_cons ?_ ?_
   · intro zy706 zw707 zhc708 zhf709 zhp710
     have zh711 : zy706 7 = .bool (ordB q) := (Sp.out0 (zhp710 2 7 (by kernel_rfl) (by kernel_rfl))).1
     have zh712 : zy706 9 = .bool (keys3 kn && keyB (kn 3)) := (Sp.out0 (zhp710 4 9 (by kernel_rfl) (by kernel_rfl))).1
     have zh713 : zy706 12 = .bool (q 9 == 1 && (q 13 == 0 && roles3 q)) := (Sp.out0 (zhp710 7 12 (by kernel_rfl) (by kernel_rfl))).1
     have zh714 : zy706 15 = .bool (tab5 q) := (Sp.out0 (zhp710 10 15 (by kernel_rfl) (by kernel_rfl))).1
     have zh715 : zy706 18 = .bool (allI 0 31 [q 34, q 35, q 36, q 37, q 38]) := (Sp.out0 (zhp710 13 18 (by kernel_rfl) (by kernel_rfl))).1
     have zh716 : zy706 31 = .bool (((inB 0 4 (q 39)) && (inB 0 4 (q 40))) && (inB 0 4 (q 41))) := (Sp.out0 (zhp710 26 31 (by kernel_rfl) (by kernel_rfl))).1
     have zh717 : zy706 49 = .bool ((((inB 1 1000 (q 42)) && (inB 1 1000 (q 43))) && (inB 1 1000 (q 44))) && (inB 1 1000 (q 45))) := (Sp.out0 (zhp710 44 49 (by kernel_rfl) (by kernel_rfl))).1
     have zh718 : zy706 57 = .bool ((inB 1 1000 (q 46)) && (inB 0 1000 (q 47))) := (Sp.out0 (zhp710 52 57 (by kernel_rfl) (by kernel_rfl))).1
     have zh719 : zy706 65 = .bool ((inB 1 3 (q 48)) && (inB 1 3 (q 49))) := (Sp.out0 (zhp710 60 65 (by kernel_rfl) (by kernel_rfl))).1
     have zh720 : zy706 67 = .bool (q 50 == 0 && (allI 0 1000 [q 51, q 52, q 53] && inB 1 1000 (q 54))) := (Sp.out0 (zhp710 62 67 (by kernel_rfl) (by kernel_rfl))).1
     have zh721 : zy706 70 = .bool (inB 0 65535 (q 55)) := (Sp.out0 (zhp710 65 70 (by kernel_rfl) (by kernel_rfl))).1
     have zS722 := zS3.quiet zhc708
     refine step1 ?_
     refine yenv [(7, .bool (ordB q)), (9, .bool (keys3 kn && keyB (kn 3))), (12, .bool (q 9 == 1 && (q 13 == 0 && roles3 q))), (15, .bool (tab5 q)), (18, .bool (allI 0 31 [q 34, q 35, q 36, q 37, q 38])), (31, .bool (((inB 0 4 (q 39)) && (inB 0 4 (q 40))) && (inB 0 4 (q 41)))), (49, .bool ((((inB 1 1000 (q 42)) && (inB 1 1000 (q 43))) && (inB 1 1000 (q 44))) && (inB 1 1000 (q 45)))), (57, .bool ((inB 1 1000 (q 46)) && (inB 0 1000 (q 47)))), (65, .bool ((inB 1 3 (q 48)) && (inB 1 3 (q 49)))), (67, .bool (q 50 == 0 && (allI 0 1000 [q 51, q 52, q 53] && inB 1 1000 (q 54)))), (70, .bool (inB 0 65535 (q 55)))] (ag_cons zh711 (ag_cons zh712 (ag_cons zh713 (ag_cons zh714 (ag_cons zh715 (ag_cons zh716 (ag_cons zh717 (ag_cons zh718 (ag_cons zh719 (ag_cons zh720 (ag_cons zh721 (ag_nil)))))))))))) ?_
     have zS723 := zS722.loc
     refine Y.pure_ (.agg #[.bool (ordB q), .bool (keys3 kn && keyB (kn 3)), .bool (q 9 == 1 && (q 13 == 0 && roles3 q)), .bool (tab5 q), .bool (allI 0 31 [q 34, q 35, q 36, q 37, q 38]), .bool (((inB 0 4 (q 39)) && (inB 0 4 (q 40))) && (inB 0 4 (q 41))), .bool ((((inB 1 1000 (q 42)) && (inB 1 1000 (q 43))) && (inB 1 1000 (q 44))) && (inB 1 1000 (q 45))), .bool ((inB 1 1000 (q 46)) && (inB 0 1000 (q 47))), .bool ((inB 1 3 (q 48)) && (inB 1 3 (q 49))), .bool (q 50 == 0 && (allI 0 1000 [q 51, q 52, q 53] && inB 1 1000 (q 54))), .bool (inB 0 65535 (q 55))]) ?_
     exact ⟨zS723.ch, Sp.mk_holds [] (all_nil)⟩
   refine step_cons ?_ ?_
   · intro zy724 zw725 zhc726 zhf727 zhp728
     have zS729 := zS3.quiet zhc726
     refine step1 ?_
     refine yenv [] (ag_nil) ?_
     have zS730 := zS729.loc
     refine Y.new_ zS730 (fun b => π b 0) (.cells #[φ, φ, φ, φ, φ, φ, φ, φ, φ, φ, φ] 165) ?_
     intro zb731 zw732 zS733
     exact ⟨zS733.ch, Sp.mk_holds [zb731] (all_cons (zS733.isNew zhc726.size 0 (by kernel_rfl)) (all_nil))⟩
   exact step_nil
 intro zv734 zw735 zhc736 zha737
 have zh738 : zv734 0 = π zb1 0 := (Sp.out0 (zha737 0 (by kernel_rfl))).1
 have zh739 : zv734 1 = .agg #[ι (q 0), ι (q 1), ι (q 2), ι (q 3), ι (q 4)] := (Sp.out0 (zha737 1 (by kernel_rfl))).1
 have zh740 : zv734 2 = .bool (ordB q) := (Sp.out0 (zha737 2 (by kernel_rfl))).1
 have zh741 : zv734 3 = .agg (polC q ka kn kc) := (Sp.out0 (zha737 3 (by kernel_rfl))).1
 have zh742 : zv734 4 = .bool (keys3 kn && keyB (kn 3)) := (Sp.out0 (zha737 4 (by kernel_rfl))).1
 have zh743 : zv734 5 = π zb1 9 := (Sp.out0 (zha737 5 (by kernel_rfl))).1
 have zh744 : zv734 6 = .agg #[ι (q 9), ι (q 10), ι (q 11), ι (q 12), ι (q 13)] := (Sp.out0 (zha737 6 (by kernel_rfl))).1
 have zh745 : zv734 7 = .bool (q 9 == 1 && (q 13 == 0 && roles3 q)) := (Sp.out0 (zha737 7 (by kernel_rfl))).1
 have zh746 : zv734 8 = π zb1 14 := (Sp.out0 (zha737 8 (by kernel_rfl))).1
 have zh747 : zv734 9 = .agg #[ι (q 14), ι (q 15), ι (q 16), ι (q 17), ι (q 18), ι (q 19), ι (q 20), ι (q 21), ι (q 22), ι (q 23), ι (q 24), ι (q 25), ι (q 26), ι (q 27), ι (q 28), ι (q 29), ι (q 30), ι (q 31), ι (q 32), ι (q 33)] := (Sp.out0 (zha737 9 (by kernel_rfl))).1
 have zh748 : zv734 10 = .bool (tab5 q) := (Sp.out0 (zha737 10 (by kernel_rfl))).1
 have zh749 : zv734 11 = π zb1 34 := (Sp.out0 (zha737 11 (by kernel_rfl))).1
 have zh750 : zv734 12 = .agg #[ι (q 34), ι (q 35), ι (q 36), ι (q 37), ι (q 38)] := (Sp.out0 (zha737 12 (by kernel_rfl))).1
 have zh751 : zv734 13 = .bool (allI 0 31 [q 34, q 35, q 36, q 37, q 38]) := (Sp.out0 (zha737 13 (by kernel_rfl))).1
 have zh752 : zv734 14 = π zb1 39 := (Sp.out0 (zha737 14 (by kernel_rfl))).1
 have zh753 : zv734 15 = ι (q 39) := (Sp.out0 (zha737 15 (by kernel_rfl))).1
 have zh754 : zv734 16 = .bool (inB 0 4 (q 39)) := (Sp.out0 (zha737 16 (by kernel_rfl))).1
 have zh755 : zv734 17 = .bool (inB 0 4 (q 39)) := (Sp.out0 (zha737 17 (by kernel_rfl))).1
 have zh756 : zv734 18 = (bif (inB 0 4 (q 39)) then (π zb1 40) else undef) := (Sp.out0 (zha737 18 (by kernel_rfl))).1
 have zh757 : zv734 19 = (bif (inB 0 4 (q 39)) then (ι (q 40)) else undef) := (Sp.out0 (zha737 19 (by kernel_rfl))).1
 have zh758 : zv734 20 = (bif (inB 0 4 (q 39)) then (.bool (inB 0 4 (q 40))) else undef) := (Sp.out0 (zha737 20 (by kernel_rfl))).1
 have zh759 : zv734 21 = .bool ((inB 0 4 (q 39)) && (inB 0 4 (q 40))) := (Sp.out0 (zha737 21 (by kernel_rfl))).1
 have zh760 : zv734 22 = .bool ((inB 0 4 (q 39)) && (inB 0 4 (q 40))) := (Sp.out0 (zha737 22 (by kernel_rfl))).1
 have zh761 : zv734 23 = (bif ((inB 0 4 (q 39)) && (inB 0 4 (q 40))) then (π zb1 41) else undef) := (Sp.out0 (zha737 23 (by kernel_rfl))).1
 have zh762 : zv734 24 = (bif ((inB 0 4 (q 39)) && (inB 0 4 (q 40))) then (ι (q 41)) else undef) := (Sp.out0 (zha737 24 (by kernel_rfl))).1
 have zh763 : zv734 25 = (bif ((inB 0 4 (q 39)) && (inB 0 4 (q 40))) then (.bool (inB 0 4 (q 41))) else undef) := (Sp.out0 (zha737 25 (by kernel_rfl))).1
 have zh764 : zv734 26 = .bool (((inB 0 4 (q 39)) && (inB 0 4 (q 40))) && (inB 0 4 (q 41))) := (Sp.out0 (zha737 26 (by kernel_rfl))).1
 have zh765 : zv734 27 = π zb1 42 := (Sp.out0 (zha737 27 (by kernel_rfl))).1
 have zh766 : zv734 28 = ι (q 42) := (Sp.out0 (zha737 28 (by kernel_rfl))).1
 have zh767 : zv734 29 = .bool (inB 1 1000 (q 42)) := (Sp.out0 (zha737 29 (by kernel_rfl))).1
 have zh768 : zv734 30 = .bool (inB 1 1000 (q 42)) := (Sp.out0 (zha737 30 (by kernel_rfl))).1
 have zh769 : zv734 31 = (bif (inB 1 1000 (q 42)) then (π zb1 43) else undef) := (Sp.out0 (zha737 31 (by kernel_rfl))).1
 have zh770 : zv734 32 = (bif (inB 1 1000 (q 42)) then (ι (q 43)) else undef) := (Sp.out0 (zha737 32 (by kernel_rfl))).1
 have zh771 : zv734 33 = (bif (inB 1 1000 (q 42)) then (.bool (inB 1 1000 (q 43))) else undef) := (Sp.out0 (zha737 33 (by kernel_rfl))).1
 have zh772 : zv734 34 = .bool ((inB 1 1000 (q 42)) && (inB 1 1000 (q 43))) := (Sp.out0 (zha737 34 (by kernel_rfl))).1
 have zh773 : zv734 35 = .bool ((inB 1 1000 (q 42)) && (inB 1 1000 (q 43))) := (Sp.out0 (zha737 35 (by kernel_rfl))).1
 have zh774 : zv734 36 = (bif ((inB 1 1000 (q 42)) && (inB 1 1000 (q 43))) then (π zb1 44) else undef) := (Sp.out0 (zha737 36 (by kernel_rfl))).1
 have zh775 : zv734 37 = (bif ((inB 1 1000 (q 42)) && (inB 1 1000 (q 43))) then (ι (q 44)) else undef) := (Sp.out0 (zha737 37 (by kernel_rfl))).1
 have zh776 : zv734 38 = (bif ((inB 1 1000 (q 42)) && (inB 1 1000 (q 43))) then (.bool (inB 1 1000 (q 44))) else undef) := (Sp.out0 (zha737 38 (by kernel_rfl))).1
 have zh777 : zv734 39 = .bool (((inB 1 1000 (q 42)) && (inB 1 1000 (q 43))) && (inB 1 1000 (q 44))) := (Sp.out0 (zha737 39 (by kernel_rfl))).1
 have zh778 : zv734 40 = .bool (((inB 1 1000 (q 42)) && (inB 1 1000 (q 43))) && (inB 1 1000 (q 44))) := (Sp.out0 (zha737 40 (by kernel_rfl))).1
 have zh779 : zv734 41 = (bif (((inB 1 1000 (q 42)) && (inB 1 1000 (q 43))) && (inB 1 1000 (q 44))) then (π zb1 45) else undef) := (Sp.out0 (zha737 41 (by kernel_rfl))).1
 have zh780 : zv734 42 = (bif (((inB 1 1000 (q 42)) && (inB 1 1000 (q 43))) && (inB 1 1000 (q 44))) then (ι (q 45)) else undef) := (Sp.out0 (zha737 42 (by kernel_rfl))).1
 have zh781 : zv734 43 = (bif (((inB 1 1000 (q 42)) && (inB 1 1000 (q 43))) && (inB 1 1000 (q 44))) then (.bool (inB 1 1000 (q 45))) else undef) := (Sp.out0 (zha737 43 (by kernel_rfl))).1
 have zh782 : zv734 44 = .bool ((((inB 1 1000 (q 42)) && (inB 1 1000 (q 43))) && (inB 1 1000 (q 44))) && (inB 1 1000 (q 45))) := (Sp.out0 (zha737 44 (by kernel_rfl))).1
 have zh783 : zv734 45 = π zb1 46 := (Sp.out0 (zha737 45 (by kernel_rfl))).1
 have zh784 : zv734 46 = ι (q 46) := (Sp.out0 (zha737 46 (by kernel_rfl))).1
 have zh785 : zv734 47 = .bool (inB 1 1000 (q 46)) := (Sp.out0 (zha737 47 (by kernel_rfl))).1
 have zh786 : zv734 48 = .bool (inB 1 1000 (q 46)) := (Sp.out0 (zha737 48 (by kernel_rfl))).1
 have zh787 : zv734 49 = (bif (inB 1 1000 (q 46)) then (π zb1 47) else undef) := (Sp.out0 (zha737 49 (by kernel_rfl))).1
 have zh788 : zv734 50 = (bif (inB 1 1000 (q 46)) then (ι (q 47)) else undef) := (Sp.out0 (zha737 50 (by kernel_rfl))).1
 have zh789 : zv734 51 = (bif (inB 1 1000 (q 46)) then (.bool (inB 0 1000 (q 47))) else undef) := (Sp.out0 (zha737 51 (by kernel_rfl))).1
 have zh790 : zv734 52 = .bool ((inB 1 1000 (q 46)) && (inB 0 1000 (q 47))) := (Sp.out0 (zha737 52 (by kernel_rfl))).1
 have zh791 : zv734 53 = π zb1 48 := (Sp.out0 (zha737 53 (by kernel_rfl))).1
 have zh792 : zv734 54 = ι (q 48) := (Sp.out0 (zha737 54 (by kernel_rfl))).1
 have zh793 : zv734 55 = .bool (inB 1 3 (q 48)) := (Sp.out0 (zha737 55 (by kernel_rfl))).1
 have zh794 : zv734 56 = .bool (inB 1 3 (q 48)) := (Sp.out0 (zha737 56 (by kernel_rfl))).1
 have zh795 : zv734 57 = (bif (inB 1 3 (q 48)) then (π zb1 49) else undef) := (Sp.out0 (zha737 57 (by kernel_rfl))).1
 have zh796 : zv734 58 = (bif (inB 1 3 (q 48)) then (ι (q 49)) else undef) := (Sp.out0 (zha737 58 (by kernel_rfl))).1
 have zh797 : zv734 59 = (bif (inB 1 3 (q 48)) then (.bool (inB 1 3 (q 49))) else undef) := (Sp.out0 (zha737 59 (by kernel_rfl))).1
 have zh798 : zv734 60 = .bool ((inB 1 3 (q 48)) && (inB 1 3 (q 49))) := (Sp.out0 (zha737 60 (by kernel_rfl))).1
 have zh799 : zv734 61 = .agg (polC q ka kn kc) := (Sp.out0 (zha737 61 (by kernel_rfl))).1
 have zh800 : zv734 62 = .bool (q 50 == 0 && (allI 0 1000 [q 51, q 52, q 53] && inB 1 1000 (q 54))) := (Sp.out0 (zha737 62 (by kernel_rfl))).1
 have zh801 : zv734 63 = π zb1 55 := (Sp.out0 (zha737 63 (by kernel_rfl))).1
 have zh802 : zv734 64 = ι (q 55) := (Sp.out0 (zha737 64 (by kernel_rfl))).1
 have zh803 : zv734 65 = .bool (inB 0 65535 (q 55)) := (Sp.out0 (zha737 65 (by kernel_rfl))).1
 have zh804 : zv734 66 = .agg #[.bool (ordB q), .bool (keys3 kn && keyB (kn 3)), .bool (q 9 == 1 && (q 13 == 0 && roles3 q)), .bool (tab5 q), .bool (allI 0 31 [q 34, q 35, q 36, q 37, q 38]), .bool (((inB 0 4 (q 39)) && (inB 0 4 (q 40))) && (inB 0 4 (q 41))), .bool ((((inB 1 1000 (q 42)) && (inB 1 1000 (q 43))) && (inB 1 1000 (q 44))) && (inB 1 1000 (q 45))), .bool ((inB 1 1000 (q 46)) && (inB 0 1000 (q 47))), .bool ((inB 1 3 (q 48)) && (inB 1 3 (q 49))), .bool (q 50 == 0 && (allI 0 1000 [q 51, q 52, q 53] && inB 1 1000 (q 54))), .bool (inB 0 65535 (q 55))] := (Sp.out0 (zha737 66 (by kernel_rfl))).1
 obtain ⟨zb806, zh805', zg807'⟩ := Sp.out1 (zha737 67 (by kernel_rfl))
 have zh805 : zv734 67 = π zb806 0 := zh805'
 have zg807 : ∀ zp ∈ ([(zb806, .cells #[φ, φ, φ, φ, φ, φ, φ, φ, φ, φ, φ] 165 (0, 0))] : List (Nat × Obj)), zw2.heap.size ≤ zp.1 ∧ zw735.heap[zp.1]? = some zp.2 := zg807'
 have zS808 := zS3.new zhc736 (zg807 _ (List.Mem.head _)).1 (zg807 _ (List.Mem.head _)).2
 refine ⟨[π zb1 0, .agg #[ι (q 0), ι (q 1), ι (q 2), ι (q 3), ι (q 4)], .bool (ordB q), .agg (polC q ka kn kc), .bool (keys3 kn && keyB (kn 3)), π zb1 9, .agg #[ι (q 9), ι (q 10), ι (q 11), ι (q 12), ι (q 13)], .bool (q 9 == 1 && (q 13 == 0 && roles3 q)), π zb1 14, .agg #[ι (q 14), ι (q 15), ι (q 16), ι (q 17), ι (q 18), ι (q 19), ι (q 20), ι (q 21), ι (q 22), ι (q 23), ι (q 24), ι (q 25), ι (q 26), ι (q 27), ι (q 28), ι (q 29), ι (q 30), ι (q 31), ι (q 32), ι (q 33)], .bool (tab5 q), π zb1 34, .agg #[ι (q 34), ι (q 35), ι (q 36), ι (q 37), ι (q 38)], .bool (allI 0 31 [q 34, q 35, q 36, q 37, q 38]), π zb1 39, ι (q 39), .bool (inB 0 4 (q 39)), .bool (inB 0 4 (q 39)), (bif (inB 0 4 (q 39)) then (π zb1 40) else undef), (bif (inB 0 4 (q 39)) then (ι (q 40)) else undef), (bif (inB 0 4 (q 39)) then (.bool (inB 0 4 (q 40))) else undef), .bool ((inB 0 4 (q 39)) && (inB 0 4 (q 40))), .bool ((inB 0 4 (q 39)) && (inB 0 4 (q 40))), (bif ((inB 0 4 (q 39)) && (inB 0 4 (q 40))) then (π zb1 41) else undef), (bif ((inB 0 4 (q 39)) && (inB 0 4 (q 40))) then (ι (q 41)) else undef), (bif ((inB 0 4 (q 39)) && (inB 0 4 (q 40))) then (.bool (inB 0 4 (q 41))) else undef), .bool (((inB 0 4 (q 39)) && (inB 0 4 (q 40))) && (inB 0 4 (q 41))), π zb1 42, ι (q 42), .bool (inB 1 1000 (q 42)), .bool (inB 1 1000 (q 42)), (bif (inB 1 1000 (q 42)) then (π zb1 43) else undef), (bif (inB 1 1000 (q 42)) then (ι (q 43)) else undef), (bif (inB 1 1000 (q 42)) then (.bool (inB 1 1000 (q 43))) else undef), .bool ((inB 1 1000 (q 42)) && (inB 1 1000 (q 43))), .bool ((inB 1 1000 (q 42)) && (inB 1 1000 (q 43))), (bif ((inB 1 1000 (q 42)) && (inB 1 1000 (q 43))) then (π zb1 44) else undef), (bif ((inB 1 1000 (q 42)) && (inB 1 1000 (q 43))) then (ι (q 44)) else undef), (bif ((inB 1 1000 (q 42)) && (inB 1 1000 (q 43))) then (.bool (inB 1 1000 (q 44))) else undef), .bool (((inB 1 1000 (q 42)) && (inB 1 1000 (q 43))) && (inB 1 1000 (q 44))), .bool (((inB 1 1000 (q 42)) && (inB 1 1000 (q 43))) && (inB 1 1000 (q 44))), (bif (((inB 1 1000 (q 42)) && (inB 1 1000 (q 43))) && (inB 1 1000 (q 44))) then (π zb1 45) else undef), (bif (((inB 1 1000 (q 42)) && (inB 1 1000 (q 43))) && (inB 1 1000 (q 44))) then (ι (q 45)) else undef), (bif (((inB 1 1000 (q 42)) && (inB 1 1000 (q 43))) && (inB 1 1000 (q 44))) then (.bool (inB 1 1000 (q 45))) else undef), .bool ((((inB 1 1000 (q 42)) && (inB 1 1000 (q 43))) && (inB 1 1000 (q 44))) && (inB 1 1000 (q 45))), π zb1 46, ι (q 46), .bool (inB 1 1000 (q 46)), .bool (inB 1 1000 (q 46)), (bif (inB 1 1000 (q 46)) then (π zb1 47) else undef), (bif (inB 1 1000 (q 46)) then (ι (q 47)) else undef), (bif (inB 1 1000 (q 46)) then (.bool (inB 0 1000 (q 47))) else undef), .bool ((inB 1 1000 (q 46)) && (inB 0 1000 (q 47))), π zb1 48, ι (q 48), .bool (inB 1 3 (q 48)), .bool (inB 1 3 (q 48)), (bif (inB 1 3 (q 48)) then (π zb1 49) else undef), (bif (inB 1 3 (q 48)) then (ι (q 49)) else undef), (bif (inB 1 3 (q 48)) then (.bool (inB 1 3 (q 49))) else undef), .bool ((inB 1 3 (q 48)) && (inB 1 3 (q 49))), .agg (polC q ka kn kc), .bool (q 50 == 0 && (allI 0 1000 [q 51, q 52, q 53] && inB 1 1000 (q 54))), π zb1 55, ι (q 55), .bool (inB 0 65535 (q 55)), .agg #[.bool (ordB q), .bool (keys3 kn && keyB (kn 3)), .bool (q 9 == 1 && (q 13 == 0 && roles3 q)), .bool (tab5 q), .bool (allI 0 31 [q 34, q 35, q 36, q 37, q 38]), .bool (((inB 0 4 (q 39)) && (inB 0 4 (q 40))) && (inB 0 4 (q 41))), .bool ((((inB 1 1000 (q 42)) && (inB 1 1000 (q 43))) && (inB 1 1000 (q 44))) && (inB 1 1000 (q 45))), .bool ((inB 1 1000 (q 46)) && (inB 0 1000 (q 47))), .bool ((inB 1 3 (q 48)) && (inB 1 3 (q 49))), .bool (q 50 == 0 && (allI 0 1000 [q 51, q 52, q 53] && inB 1 1000 (q 54))), .bool (inB 0 65535 (q 55))], π zb806 0], by kernel_rfl, va_cons zh738 (va_cons zh739 (va_cons zh740 (va_cons zh741 (va_cons zh742 (va_cons zh743 (va_cons zh744 (va_cons zh745 (va_cons zh746 (va_cons zh747 (va_cons zh748 (va_cons zh749 (va_cons zh750 (va_cons zh751 (va_cons zh752 (va_cons zh753 (va_cons zh754 (va_cons zh755 (va_cons zh756 (va_cons zh757 (va_cons zh758 (va_cons zh759 (va_cons zh760 (va_cons zh761 (va_cons zh762 (va_cons zh763 (va_cons zh764 (va_cons zh765 (va_cons zh766 (va_cons zh767 (va_cons zh768 (va_cons zh769 (va_cons zh770 (va_cons zh771 (va_cons zh772 (va_cons zh773 (va_cons zh774 (va_cons zh775 (va_cons zh776 (va_cons zh777 (va_cons zh778 (va_cons zh779 (va_cons zh780 (va_cons zh781 (va_cons zh782 (va_cons zh783 (va_cons zh784 (va_cons zh785 (va_cons zh786 (va_cons zh787 (va_cons zh788 (va_cons zh789 (va_cons zh790 (va_cons zh791 (va_cons zh792 (va_cons zh793 (va_cons zh794 (va_cons zh795 (va_cons zh796 (va_cons zh797 (va_cons zh798 (va_cons zh799 (va_cons zh800 (va_cons zh801 (va_cons zh802 (va_cons zh803 (va_cons zh804 (va_cons zh805 (va_nil)))))))))))))))))))))))))))))))))))))))))))))))))))))))))))))))))))), ?_⟩
 refine store_ zS808 0 (.agg #[.bool (ordB q), .bool (keys3 kn && keyB (kn 3)), .bool (q 9 == 1 && (q 13 == 0 && roles3 q)), .bool (tab5 q), .bool (allI 0 31 [q 34, q 35, q 36, q 37, q 38]), .bool (((inB 0 4 (q 39)) && (inB 0 4 (q 40))) && (inB 0 4 (q 41))), .bool ((((inB 1 1000 (q 42)) && (inB 1 1000 (q 43))) && (inB 1 1000 (q 44))) && (inB 1 1000 (q 45))), .bool ((inB 1 1000 (q 46)) && (inB 0 1000 (q 47))), .bool ((inB 1 3 (q 48)) && (inB 1 3 (q 49))), .bool (q 50 == 0 && (allI 0 1000 [q 51, q 52, q 53] && inB 1 1000 (q 54))), .bool (inB 0 65535 (q 55))]) zb806 0 ?_
 intro zw809 zS810
 refine nil_ (then_n (seq_ (seq_ (reg_ (pure_ (ι 0) (nil_ (then_n (wp_block (loop_ 24 (seq_ (seq_ (reg_ (pure_ (ι 0) (pure_ (τ) (nil_ (then_n (cond_T (wp_skip (then_n (seq_ (wp_block (seq_ (reg_ (pure_ (ι 0) (pure_ (π zb806 0) (load1_ zS810 0 (.bool (ordB q)) zb806 0 (pure_ (.bool (!(ordB q))) (nil_ (then_n ?_)))))))))))))))))))))))))))))
 refine cond_S (!(ordB q)) ?_ ?_
 · intro zh811
   have zh812 := notT' zh811
   refine seq_ (reg_ (pure_ (ι 0) (pure_ (ι 40) (pure_ (ι 40) (nil_ (then_n (wp_ret (blk_r (then_r (then_r (blk_r (then_r (ret_ rfl (res_ [.tmp 2] [ι 40] (ι 40) ⟨res_tmp, trivial⟩) ?_)))))))))))))
   exact ⟨congrArg _ (by rw [polCode2_eq]; simp [polCode2, zh811, zh812]), zS810.ch⟩
 intro zh813
 have zh814 := notF' zh813
 refine wp_skip (blk_n (then_n (reg_ (pure_ (ι 0) (pure_ (ι 1) (pure_ (ι 1) (nil_ (again_ (seq_ (seq_ (reg_ (pure_ (ι 1) (pure_ (τ) (nil_ (then_n (cond_T (wp_skip (then_n (seq_ (wp_block (seq_ (reg_ (pure_ (ι 1) (pure_ (π zb806 1) (load1_ zS810 0 (.bool (keys3 kn && keyB (kn 3))) zb806 1 (pure_ (.bool (!(keys3 kn && keyB (kn 3)))) (nil_ (then_n ?_))))))))))))))))))))))))))))
 refine cond_S (!(keys3 kn && keyB (kn 3))) ?_ ?_
 · intro zh815
   have zh816 := notT' zh815
   refine seq_ (reg_ (pure_ (ι 1) (pure_ (ι 41) (pure_ (ι 41) (nil_ (then_n (wp_ret (blk_r (then_r (then_r (blk_r (then_r (ret_ rfl (res_ [.tmp 2] [ι 41] (ι 41) ⟨res_tmp, trivial⟩) ?_)))))))))))))
   exact ⟨congrArg _ (by rw [polCode2_eq]; simp [polCode2, zh813, zh814, zh815, zh816]), zS810.ch⟩
 intro zh817
 have zh818 := notF' zh817
 refine wp_skip (blk_n (then_n (reg_ (pure_ (ι 1) (pure_ (ι 2) (pure_ (ι 2) (nil_ (again_ (seq_ (seq_ (reg_ (pure_ (ι 2) (pure_ (τ) (nil_ (then_n (cond_T (wp_skip (then_n (seq_ (wp_block (seq_ (reg_ (pure_ (ι 2) (pure_ (π zb806 2) (load1_ zS810 0 (.bool (q 9 == 1 && (q 13 == 0 && roles3 q))) zb806 2 (pure_ (.bool (!(q 9 == 1 && (q 13 == 0 && roles3 q)))) (nil_ (then_n ?_))))))))))))))))))))))))))))
 refine cond_S (!(q 9 == 1 && (q 13 == 0 && roles3 q))) ?_ ?_
 · intro zh819
   have zh820 := notT' zh819
   refine seq_ (reg_ (pure_ (ι 2) (pure_ (ι 42) (pure_ (ι 42) (nil_ (then_n (wp_ret (blk_r (then_r (then_r (blk_r (then_r (ret_ rfl (res_ [.tmp 2] [ι 42] (ι 42) ⟨res_tmp, trivial⟩) ?_)))))))))))))
   exact ⟨congrArg _ (by rw [polCode2_eq]; simp [polCode2, zh813, zh814, zh817, zh818, zh819, zh820]), zS810.ch⟩
 intro zh821
 have zh822 := notF' zh821
 refine wp_skip (blk_n (then_n (reg_ (pure_ (ι 2) (pure_ (ι 3) (pure_ (ι 3) (nil_ (again_ (seq_ (seq_ (reg_ (pure_ (ι 3) (pure_ (τ) (nil_ (then_n (cond_T (wp_skip (then_n (seq_ (wp_block (seq_ (reg_ (pure_ (ι 3) (pure_ (π zb806 3) (load1_ zS810 0 (.bool (tab5 q)) zb806 3 (pure_ (.bool (!(tab5 q))) (nil_ (then_n ?_))))))))))))))))))))))))))))
 refine cond_S (!(tab5 q)) ?_ ?_
 · intro zh823
   have zh824 := notT' zh823
   refine seq_ (reg_ (pure_ (ι 3) (pure_ (ι 43) (pure_ (ι 43) (nil_ (then_n (wp_ret (blk_r (then_r (then_r (blk_r (then_r (ret_ rfl (res_ [.tmp 2] [ι 43] (ι 43) ⟨res_tmp, trivial⟩) ?_)))))))))))))
   exact ⟨congrArg _ (by rw [polCode2_eq]; simp [polCode2, zh813, zh814, zh817, zh818, zh821, zh822, zh823, zh824]), zS810.ch⟩
 intro zh825
 have zh826 := notF' zh825
 refine wp_skip (blk_n (then_n (reg_ (pure_ (ι 3) (pure_ (ι 4) (pure_ (ι 4) (nil_ (again_ (seq_ (seq_ (reg_ (pure_ (ι 4) (pure_ (τ) (nil_ (then_n (cond_T (wp_skip (then_n (seq_ (wp_block (seq_ (reg_ (pure_ (ι 4) (pure_ (π zb806 4) (load1_ zS810 0 (.bool (allI 0 31 [q 34, q 35, q 36, q 37, q 38])) zb806 4 (pure_ (.bool (!(allI 0 31 [q 34, q 35, q 36, q 37, q 38]))) (nil_ (then_n ?_))))))))))))))))))))))))))))
 refine cond_S (!(allI 0 31 [q 34, q 35, q 36, q 37, q 38])) ?_ ?_
 · intro zh827
   have zh828 := notT' zh827
   refine seq_ (reg_ (pure_ (ι 4) (pure_ (ι 44) (pure_ (ι 44) (nil_ (then_n (wp_ret (blk_r (then_r (then_r (blk_r (then_r (ret_ rfl (res_ [.tmp 2] [ι 44] (ι 44) ⟨res_tmp, trivial⟩) ?_)))))))))))))
   exact ⟨congrArg _ (by rw [polCode2_eq]; simp [polCode2, zh813, zh814, zh817, zh818, zh821, zh822, zh825, zh826, zh827, zh828]), zS810.ch⟩
 intro zh829
 have zh830 := notF' zh829
 refine wp_skip (blk_n (then_n (reg_ (pure_ (ι 4) (pure_ (ι 5) (pure_ (ι 5) (nil_ (again_ (seq_ (seq_ (reg_ (pure_ (ι 5) (pure_ (τ) (nil_ (then_n (cond_T (wp_skip (then_n (seq_ (wp_block (seq_ (reg_ (pure_ (ι 5) (pure_ (π zb806 5) (load1_ zS810 0 (.bool (((inB 0 4 (q 39)) && (inB 0 4 (q 40))) && (inB 0 4 (q 41)))) zb806 5 (pure_ (.bool (!(((inB 0 4 (q 39)) && (inB 0 4 (q 40))) && (inB 0 4 (q 41))))) (nil_ (then_n ?_))))))))))))))))))))))))))))
 refine cond_S (!(((inB 0 4 (q 39)) && (inB 0 4 (q 40))) && (inB 0 4 (q 41)))) ?_ ?_
 · intro zh831
   have zh832 := notT' zh831
   refine seq_ (reg_ (pure_ (ι 5) (pure_ (ι 45) (pure_ (ι 45) (nil_ (then_n (wp_ret (blk_r (then_r (then_r (blk_r (then_r (ret_ rfl (res_ [.tmp 2] [ι 45] (ι 45) ⟨res_tmp, trivial⟩) ?_)))))))))))))
   exact ⟨congrArg _ (by rw [polCode2_eq]; simp [polCode2, zh813, zh814, zh817, zh818, zh821, zh822, zh825, zh826, zh829, zh830, zh831, zh832]), zS810.ch⟩
 intro zh833
 have zh834 := notF' zh833
 have zh835 := andL zh834
 have zh836 := andR zh834
 have zh837 := andL zh835
 have zh838 := andR zh835
 have zh839 := inB_is _ _ _ zh837
 have zh840 := inB_is _ _ _ zh838
 have zh841 := inB_is _ _ _ zh836
 refine wp_skip (blk_n (then_n (reg_ (pure_ (ι 5) (pure_ (ι 6) (pure_ (ι 6) (nil_ (again_ (seq_ (seq_ (reg_ (pure_ (ι 6) (pure_ (τ) (nil_ (then_n (cond_T (wp_skip (then_n (seq_ (wp_block (seq_ (reg_ (pure_ (ι 6) (pure_ (π zb806 6) (load1_ zS810 0 (.bool ((((inB 1 1000 (q 42)) && (inB 1 1000 (q 43))) && (inB 1 1000 (q 44))) && (inB 1 1000 (q 45)))) zb806 6 (pure_ (.bool (!((((inB 1 1000 (q 42)) && (inB 1 1000 (q 43))) && (inB 1 1000 (q 44))) && (inB 1 1000 (q 45))))) (nil_ (then_n ?_))))))))))))))))))))))))))))
 refine cond_S (!((((inB 1 1000 (q 42)) && (inB 1 1000 (q 43))) && (inB 1 1000 (q 44))) && (inB 1 1000 (q 45)))) ?_ ?_
 · intro zh842
   have zh843 := notT' zh842
   refine seq_ (reg_ (pure_ (ι 6) (pure_ (ι 46) (pure_ (ι 46) (nil_ (then_n (wp_ret (blk_r (then_r (then_r (blk_r (then_r (ret_ rfl (res_ [.tmp 2] [ι 46] (ι 46) ⟨res_tmp, trivial⟩) ?_)))))))))))))
   exact ⟨congrArg _ (by rw [polCode2_eq]; simp [polCode2, zh813, zh814, zh817, zh818, zh821, zh822, zh825, zh826, zh829, zh830, zh833, zh834, zh835, zh837, zh838, zh836, zh842, zh843]), zS810.ch⟩
 intro zh844
 have zh845 := notF' zh844
 have zh846 := andL zh845
 have zh847 := andR zh845
 have zh848 := andL zh846
 have zh849 := andR zh846
 have zh850 := andL zh848
 have zh851 := andR zh848
 have zh852 := inB_is _ _ _ zh850
 have zh853 := inB_is _ _ _ zh851
 have zh854 := inB_is _ _ _ zh849
 have zh855 := inB_is _ _ _ zh847
 refine wp_skip (blk_n (then_n (reg_ (pure_ (ι 6) (pure_ (ι 7) (pure_ (ι 7) (nil_ (again_ (seq_ (seq_ (reg_ (pure_ (ι 7) (pure_ (τ) (nil_ (then_n (cond_T (wp_skip (then_n (seq_ (wp_block (seq_ (reg_ (pure_ (ι 7) (pure_ (π zb806 7) (load1_ zS810 0 (.bool ((inB 1 1000 (q 46)) && (inB 0 1000 (q 47)))) zb806 7 (pure_ (.bool (!((inB 1 1000 (q 46)) && (inB 0 1000 (q 47))))) (nil_ (then_n ?_))))))))))))))))))))))))))))
 refine cond_S (!((inB 1 1000 (q 46)) && (inB 0 1000 (q 47)))) ?_ ?_
 · intro zh856
   have zh857 := notT' zh856
   refine seq_ (reg_ (pure_ (ι 7) (pure_ (ι 47) (pure_ (ι 47) (nil_ (then_n (wp_ret (blk_r (then_r (then_r (blk_r (then_r (ret_ rfl (res_ [.tmp 2] [ι 47] (ι 47) ⟨res_tmp, trivial⟩) ?_)))))))))))))
   exact ⟨congrArg _ (by rw [polCode2_eq]; simp [polCode2, zh813, zh814, zh817, zh818, zh821, zh822, zh825, zh826, zh829, zh830, zh833, zh834, zh835, zh837, zh838, zh836, zh844, zh845, zh846, zh848, zh850, zh851, zh849, zh847, zh856, zh857]), zS810.ch⟩
 intro zh858
 have zh859 := notF' zh858
 have zh860 := andL zh859
 have zh861 := andR zh859
 have zh862 := inB_is _ _ _ zh860
 have zh863 := inB_is _ _ _ zh861
 refine wp_skip (blk_n (then_n (reg_ (pure_ (ι 7) (pure_ (ι 8) (pure_ (ι 8) (nil_ (again_ (seq_ (seq_ (reg_ (pure_ (ι 8) (pure_ (τ) (nil_ (then_n (cond_T (wp_skip (then_n (seq_ (wp_block (seq_ (reg_ (pure_ (ι 8) (pure_ (π zb806 8) (load1_ zS810 0 (.bool ((inB 1 3 (q 48)) && (inB 1 3 (q 49)))) zb806 8 (pure_ (.bool (!((inB 1 3 (q 48)) && (inB 1 3 (q 49))))) (nil_ (then_n ?_))))))))))))))))))))))))))))
 refine cond_S (!((inB 1 3 (q 48)) && (inB 1 3 (q 49)))) ?_ ?_
 · intro zh864
   have zh865 := notT' zh864
   refine seq_ (reg_ (pure_ (ι 8) (pure_ (ι 48) (pure_ (ι 48) (nil_ (then_n (wp_ret (blk_r (then_r (then_r (blk_r (then_r (ret_ rfl (res_ [.tmp 2] [ι 48] (ι 48) ⟨res_tmp, trivial⟩) ?_)))))))))))))
   exact ⟨congrArg _ (by rw [polCode2_eq]; simp [polCode2, zh813, zh814, zh817, zh818, zh821, zh822, zh825, zh826, zh829, zh830, zh833, zh834, zh835, zh837, zh838, zh836, zh844, zh845, zh846, zh848, zh850, zh851, zh849, zh847, zh858, zh859, zh860, zh861, zh864, zh865]), zS810.ch⟩
 intro zh866
 have zh867 := notF' zh866
 have zh868 := andL zh867
 have zh869 := andR zh867
 have zh870 := inB_is _ _ _ zh868
 have zh871 := inB_is _ _ _ zh869
 refine wp_skip (blk_n (then_n (reg_ (pure_ (ι 8) (pure_ (ι 9) (pure_ (ι 9) (nil_ (again_ (seq_ (seq_ (reg_ (pure_ (ι 9) (pure_ (τ) (nil_ (then_n (cond_T (wp_skip (then_n (seq_ (wp_block (seq_ (reg_ (pure_ (ι 9) (pure_ (π zb806 9) (load1_ zS810 0 (.bool (q 50 == 0 && (allI 0 1000 [q 51, q 52, q 53] && inB 1 1000 (q 54)))) zb806 9 (pure_ (.bool (!(q 50 == 0 && (allI 0 1000 [q 51, q 52, q 53] && inB 1 1000 (q 54))))) (nil_ (then_n ?_))))))))))))))))))))))))))))
 refine cond_S (!(q 50 == 0 && (allI 0 1000 [q 51, q 52, q 53] && inB 1 1000 (q 54)))) ?_ ?_
 · intro zh872
   have zh873 := notT' zh872
   refine seq_ (reg_ (pure_ (ι 9) (pure_ (ι 49) (pure_ (ι 49) (nil_ (then_n (wp_ret (blk_r (then_r (then_r (blk_r (then_r (ret_ rfl (res_ [.tmp 2] [ι 49] (ι 49) ⟨res_tmp, trivial⟩) ?_)))))))))))))
   exact ⟨congrArg _ (by rw [polCode2_eq]; simp [polCode2, zh813, zh814, zh817, zh818, zh821, zh822, zh825, zh826, zh829, zh830, zh833, zh834, zh835, zh837, zh838, zh836, zh844, zh845, zh846, zh848, zh850, zh851, zh849, zh847, zh858, zh859, zh860, zh861, zh866, zh867, zh868, zh869, zh872, zh873]), zS810.ch⟩
 intro zh874
 have zh875 := notF' zh874
 refine wp_skip (blk_n (then_n (reg_ (pure_ (ι 9) (pure_ (ι 10) (pure_ (ι 10) (nil_ (again_ (seq_ (seq_ (reg_ (pure_ (ι 10) (pure_ (τ) (nil_ (then_n (cond_T (wp_skip (then_n (seq_ (wp_block (seq_ (reg_ (pure_ (ι 10) (pure_ (π zb806 10) (load1_ zS810 0 (.bool (inB 0 65535 (q 55))) zb806 10 (pure_ (.bool (!(inB 0 65535 (q 55)))) (nil_ (then_n ?_))))))))))))))))))))))))))))
 refine cond_S (!(inB 0 65535 (q 55))) ?_ ?_
 · intro zh876
   have zh877 := notT' zh876
   have zh878 := inB_no _ _ _ zh877
   refine seq_ (reg_ (pure_ (ι 10) (pure_ (ι 50) (pure_ (ι 50) (nil_ (then_n (wp_ret (blk_r (then_r (then_r (blk_r (then_r (ret_ rfl (res_ [.tmp 2] [ι 50] (ι 50) ⟨res_tmp, trivial⟩) ?_)))))))))))))
   exact ⟨congrArg _ (by rw [polCode2_eq]; simp [polCode2, zh813, zh814, zh817, zh818, zh821, zh822, zh825, zh826, zh829, zh830, zh833, zh834, zh835, zh837, zh838, zh836, zh844, zh845, zh846, zh848, zh850, zh851, zh849, zh847, zh858, zh859, zh860, zh861, zh866, zh867, zh868, zh869, zh874, zh875, zh876, zh877]), zS810.ch⟩
 intro zh879
 have zh880 := notF' zh879
 have zh881 := inB_is _ _ _ zh880
 refine wp_skip (blk_n (then_n (reg_ (pure_ (ι 10) (pure_ (ι 11) (pure_ (ι 11) (nil_ (again_ (seq_ (seq_ (reg_ (pure_ (ι 11) (pure_ (φ) (nil_ (then_n (cond_F (wp_exit (then_e (then_e (blk_e (then_n (seq_ (reg_ (pure_ (ι 0) (nil_ (then_n (wp_ret (ret_ rfl (res_ [.tmp 2] [ι 0] (ι 0) ⟨res_tmp, trivial⟩) ?_))))))))))))))))))))))))))))
 exact ⟨congrArg _ (by rw [polCode2_eq]; simp [polCode2, zh813, zh814, zh817, zh818, zh821, zh822, zh825, zh826, zh829, zh830, zh833, zh834, zh835, zh837, zh838, zh836, zh844, zh845, zh846, zh848, zh850, zh851, zh849, zh847, zh858, zh859, zh860, zh861, zh866, zh867, zh868, zh869, zh874, zh875, zh879, zh880]), zS810.ch⟩

end Go.Proofs.YtbjanfgipcniiaaGreatDoor
