/- A part of a proof: PFlowTextsx49, PFlowTextsx67, PFlowTextsx68. -/
import Derived.Test.YtfpikmeiooangaaDoorT04
import Derived.Test.YtfpikmeiooangaaDoorT09
import Derived.Test.YtfpikmeiooangaaDoorT10
set_option linter.unusedVariables false
set_option linter.unusedSimpArgs false
section
namespace Go.Proofs.YtfpikmeiooangaaDoor.PFlowTexts
open Go.RowKit Go.Proofs.YtfpikmeiooangaaDoorW.PrintWords Go.Proofs.YtfpikmeiooangaaDoorW.PrintLast Go.Proofs.YtfpikmeiooangaaDoorW.PrintMore
mutual
def wigmakerref03_Format.l0 : Nat → ByteArray → Int → Int → Int → List Int → List (S50) → Option (ByteArray × Int)
  | 0, _, _, _, _, _, _ => none
  | k + 1, x5, x6, x236000, x236001, x236002, x236003 => if x6 < (x236002.length : Int) then (if x6 > 0 then (if x236000 = 0 then (none) else (if (Int.tmod x6 x236000) = 0 then (if x5.size + 1 ≤ 9223372036854775807 then (if 0 ≤ x6 then ((wigmakerref01_Digits.f k (rd x236002 x6)).bind fun t240 => (if x5.size + 1 + t240.size ≤ 9223372036854775807 then (wigmakerref03_Format.l0 k ((x5 ++ (⟨#[47]⟩ : ByteArray)) ++ t240) (wrap64 (x6 + 1)) x236000 x236001 x236002 x236003) else (none))) else (none)) else (none)) else (if 0 ≤ x6 then ((wigmakerref01_Digits.f k (rd x236002 x6)).bind fun t242 => (if x5.size + t242.size ≤ 9223372036854775807 then (wigmakerref03_Format.l0 k (x5 ++ t242) (wrap64 (x6 + 1)) x236000 x236001 x236002 x236003) else (none))) else (none)))) else (if 0 ≤ x6 then ((wigmakerref01_Digits.f k (rd x236002 x6)).bind fun t244 => (if x5.size + t244.size ≤ 9223372036854775807 then (wigmakerref03_Format.l0 k (x5 ++ t244) (wrap64 (x6 + 1)) x236000 x236001 x236002 x236003) else (none))) else (none))) else (wigmakerref03_Format.l1 k x5 0 x236000 x236001 x236002 x236003)
def wigmakerref03_Format.l1 : Nat → ByteArray → Int → Int → Int → List Int → List (S50) → Option (ByteArray × Int)
  | 0, _, _, _, _, _, _ => none
  | k + 1, x5, x7, x236000, x236001, x236002, x236003 => if x7 < (x236003.length : Int) then (if 0 ≤ x7 then ((wigmakerref01_Digits.f k ((rd_T50 x236003 x7).f0)).bind fun t247 => (if 1 + t247.size ≤ 9223372036854775807 then (if 1 + t247.size + 1 ≤ 9223372036854775807 then ((wigmakerref01_Digits.f k ((rd_T50 x236003 x7).f1)).bind fun t248 => (if 1 + t247.size + 1 + t248.size ≤ 9223372036854775807 then (if 1 + t247.size + 1 + t248.size + 1 ≤ 9223372036854775807 then ((wigmakerref01_Digits.f k ((rd_T50 x236003 x7).f2)).bind fun t249 => (if 1 + t247.size + 1 + t248.size + 1 + t249.size ≤ 9223372036854775807 then (if x5.size + (1 + t247.size + 1 + t248.size + 1 + t249.size) ≤ 9223372036854775807 then (wigmakerref03_Format.l1 k (x5 ++ ((((((⟨#[32]⟩ : ByteArray) ++ t247) ++ (⟨#[44]⟩ : ByteArray)) ++ t248) ++ (⟨#[44]⟩ : ByteArray)) ++ t249)) (wrap64 (x7 + 1)) x236000 x236001 x236002 x236003) else (none)) else (none))) else (none)) else (none))) else (none)) else (none))) else (none)) else (some (x5, 0))
end
def wigmakerref03_Format.f (k : Nat) (a0_0 : Int) (a0_1 : Int) (l0_2 : List Int) (l0_3 : List (S50)) : Option (ByteArray × Int) := (wigmakerref03_Validate.f k a0_0 a0_1 l0_2 l0_3).bind fun t236 => (if t236 = 0 then ((wigmakerref01_Digits.f k a0_0).bind fun t237 => (if 5 + t237.size ≤ 9223372036854775807 then (if 5 + t237.size + 1 ≤ 9223372036854775807 then ((wigmakerref01_Digits.f k a0_1).bind fun t238 => (if 5 + t237.size + 1 + t238.size ≤ 9223372036854775807 then (if 5 + t237.size + 1 + t238.size + 1 ≤ 9223372036854775807 then (wigmakerref03_Format.l0 k (((((⟨#[102, 108, 111, 119, 32]⟩ : ByteArray) ++ t237) ++ (⟨#[32]⟩ : ByteArray)) ++ t238) ++ (⟨#[32]⟩ : ByteArray)) 0 a0_0 a0_1 l0_2 l0_3) else (none)) else (none))) else (none)) else (none))) else (some ((⟨#[]⟩ : ByteArray), t236)))
def wigmakerref03_Format.T4 : Bool × List (List Nat × List Nat) := (true, [([], []), ([0], [0]), ([1], [1]), ([2], [2]), ([3], [3]), ([], []), ([5], [5]), ([6, 2], [6]), ([4, 7], [4, 7]), ([8], [8]), ([9, 7, 0, 1, 2, 3, 4, 5, 6, 7, 8, 9], [9])])
def wigmakerref03_Format.B4 : List Nat := [0, 1, 3, 7, 15, 0, 32, 103, 255, 511, 1023]
theorem wigmakerref03_Format.tab4 : rtab .any (opsOf Tryd.f7 4) = wigmakerref03_Format.T4 := by kernel_rfl
theorem wigmakerref03_Format.bits4 : waitsOk wigmakerref03_Format.T4.2 wigmakerref03_Format.B4 = true := by kernel_rfl
def wigmakerref03_Format.T15 : Bool × List (List Nat × List Nat) := (true, [([], []), ([], []), ([1], [1]), ([2], [2]), ([3], [3]), ([4], [4]), ([], []), ([6], [6]), ([7, 3], [7]), ([5, 8], [5, 8]), ([9], [9]), ([], []), ([11], [11]), ([12, 8], [12]), ([10, 13], [10, 13]), ([0, 14], [0, 14]), ([15, 13, 0, 1, 2, 3, 4, 5, 6, 7, 8, 9, 10, 11, 12, 13, 14, 15], [0, 15])])
def wigmakerref03_Format.B15 : List Nat := [0, 0, 2, 6, 14, 30, 0, 64, 206, 510, 1022, 0, 2048, 6606, 16382, 32767, 65535]
theorem wigmakerref03_Format.tab15 : rtab .any (opsOf Tryd.f7 15) = wigmakerref03_Format.T15 := by kernel_rfl
theorem wigmakerref03_Format.bits15 : waitsOk wigmakerref03_Format.T15.2 wigmakerref03_Format.B15 = true := by kernel_rfl
set_option maxHeartbeats 8000000 in
set_option maxRecDepth 100000 in
theorem wigmakerref03_Format.calls (k : Nat) (a0_0 : Int) (a0_1 : Int) (A0_2 : Option Addr) (c0_2 : Nat) (l0_2 : List Int) (A0_3 : Option Addr) (c0_3 : Nat) (l0_3 : List (S50)) (r1 : ByteArray) (r2 : Int) (w : World) (hr0_2 : Kd.C (Kd.int .i64) w A0_2 l0_2.length l0_2) (hc0_2 : l0_2.length ≤ c0_2) (hr0_3 : Kd.C k50 w A0_3 l0_3.length l0_3) (hc0_3 : l0_3.length ≤ c0_3) (h : wigmakerref03_Format.f k a0_0 a0_1 l0_2 l0_3 = some (r1, r2)) :
    Calls Tryd.prog 7 #[.agg #[.int .i64 a0_0, .int .i64 a0_1, .slice A0_2 l0_2.length c0_2, .slice A0_3 l0_3.length c0_3]] w fun e w' => e = .returned (.tuple #[.string r1, .int .i64 r2]) ∧ Below w.heap.size w w' := by
  have hu25 := Tryd.underlying25; have hu50 := Tryd.underlying50; have HR0_2 := Aside0.mk hr0_2; have HC0_2 := Aside0.mk hc0_2; clear hr0_2 hc0_2; have HR0_3 := Aside0.mk hr0_3; have HC0_3 := Aside0.mk hc0_3; clear hr0_3 hc0_3; have HB := Aside0.mk (Below.refl w.heap.size w); (have H : ((wigmakerref03_Validate.f k a0_0 a0_1 l0_2 l0_3).bind fun t236 => (if t236 = 0 then ((wigmakerref01_Digits.f k a0_0).bind fun t237 => (if 5 + t237.size ≤ 9223372036854775807 then (if 5 + t237.size + 1 ≤ 9223372036854775807 then ((wigmakerref01_Digits.f k a0_1).bind fun t238 => (if 5 + t237.size + 1 + t238.size ≤ 9223372036854775807 then (if 5 + t237.size + 1 + t238.size + 1 ≤ 9223372036854775807 then (wigmakerref03_Format.l0 k (((((⟨#[102, 108, 111, 119, 32]⟩ : ByteArray) ++ t237) ++ (⟨#[32]⟩ : ByteArray)) ++ t238) ++ (⟨#[32]⟩ : ByteArray)) 0 a0_0 a0_1 l0_2 l0_3) else (none)) else (none))) else (none)) else (none))) else (some ((⟨#[]⟩ : ByteArray), t236)))) = some (r1, r2) := h); clear h; replace H := Option.bind_eq_some_iff.mp H; obtain ⟨t236, A20, H⟩ := H; (replace H : (if t236 = 0 then ((wigmakerref01_Digits.f k a0_0).bind fun t237 => (if 5 + t237.size ≤ 9223372036854775807 then (if 5 + t237.size + 1 ≤ 9223372036854775807 then ((wigmakerref01_Digits.f k a0_1).bind fun t238 => (if 5 + t237.size + 1 + t238.size ≤ 9223372036854775807 then (if 5 + t237.size + 1 + t238.size + 1 ≤ 9223372036854775807 then (wigmakerref03_Format.l0 k (((((⟨#[102, 108, 111, 119, 32]⟩ : ByteArray) ++ t237) ++ (⟨#[32]⟩ : ByteArray)) ++ t238) ++ (⟨#[32]⟩ : ByteArray)) 0 a0_0 a0_1 l0_2 l0_3) else (none)) else (none))) else (none)) else (none))) else (some ((⟨#[]⟩ : ByteArray), t236))) = some (r1, r2) := H); have A2 := Aside0.mk A20; clear A20; by_cases c3 : t236 = 0
  · rw [if_pos c3] at H
    have c3b0 : (t236 == 0) = true := beq_iff_eq.mpr c3; have c3b1 : (t236 != 0) = false := bne_eq_false_iff_eq.mpr c3; clear c3; replace H := Option.bind_eq_some_iff.mp H; obtain ⟨t237, A40, H⟩ := H; (replace H : (if 5 + t237.size ≤ 9223372036854775807 then (if 5 + t237.size + 1 ≤ 9223372036854775807 then ((wigmakerref01_Digits.f k a0_1).bind fun t238 => (if 5 + t237.size + 1 + t238.size ≤ 9223372036854775807 then (if 5 + t237.size + 1 + t238.size + 1 ≤ 9223372036854775807 then (wigmakerref03_Format.l0 k (((((⟨#[102, 108, 111, 119, 32]⟩ : ByteArray) ++ t237) ++ (⟨#[32]⟩ : ByteArray)) ++ t238) ++ (⟨#[32]⟩ : ByteArray)) 0 a0_0 a0_1 l0_2 l0_3) else (none)) else (none))) else (none)) else (none)) = some (r1, r2) := H); have A4 := Aside0.mk A40; clear A40; by_cases c5 : 5 + t237.size ≤ 9223372036854775807
    · rw [if_pos c5] at H
      have c5b0 := eq_true c5; have c5b1 : decide (5 + t237.size ≤ 9223372036854775807) = true := decide_eq_true c5; (try have c5b2 : (9223372036854775807 < 5 + t237.size) = False := eq_false (Nat.not_lt.2 c5)); by_cases c6 : 5 + t237.size + 1 ≤ 9223372036854775807
      · rw [if_pos c6] at H
        have c6b0 := eq_true c6; have c6b1 : decide (5 + t237.size + 1 ≤ 9223372036854775807) = true := decide_eq_true c6; (try have c6b2 : (9223372036854775807 < 5 + t237.size + 1) = False := eq_false (Nat.not_lt.2 c6)); replace H := Option.bind_eq_some_iff.mp H; obtain ⟨t238, A70, H⟩ := H; replace H : (if 5 + t237.size + 1 + t238.size ≤ 9223372036854775807 then (if 5 + t237.size + 1 + t238.size + 1 ≤ 9223372036854775807 then (wigmakerref03_Format.l0 k (((((⟨#[102, 108, 111, 119, 32]⟩ : ByteArray) ++ t237) ++ (⟨#[32]⟩ : ByteArray)) ++ t238) ++ (⟨#[32]⟩ : ByteArray)) 0 a0_0 a0_1 l0_2 l0_3) else (none)) else (none)) = some (r1, r2) := H; have A7 := Aside0.mk A70; clear A70; by_cases c8 : 5 + t237.size + 1 + t238.size ≤ 9223372036854775807
        · rw [if_pos c8] at H
          have c8b0 := eq_true c8; have c8b1 : decide (5 + t237.size + 1 + t238.size ≤ 9223372036854775807) = true := decide_eq_true c8; (try have c8b2 : (9223372036854775807 < 5 + t237.size + 1 + t238.size) = False := eq_false (Nat.not_lt.2 c8)); by_cases c9 : 5 + t237.size + 1 + t238.size + 1 ≤ 9223372036854775807
          · rw [if_pos c9] at H
            have c9b0 := eq_true c9; have c9b1 : decide (5 + t237.size + 1 + t238.size + 1 ≤ 9223372036854775807) = true := decide_eq_true c9; (try have c9b2 : (9223372036854775807 < 5 + t237.size + 1 + t238.size + 1) = False := eq_false (Nat.not_lt.2 c9)); have H' := Aside0.mk H; clear H; go_enter Tryd.func7, Tryd.ntmps7; (try go_wp2_with (first | ((with_reducible refine gate_dst (N := 1) rfl ?_); refine box_event ?hg (N := 1) ?hd (cs := #[.int .i64 a0_0, .int .i64 a0_1, .slice A0_2 l0_2.length c0_2, .slice A0_3 l0_3.length c0_3]) (t := 25) ?hr ?_; (case hd => rfl); (case hg => rfl); (case hr => first | (go_simp; done) | (go_simp; rfl)); intro gb235 hg w10 hbox hb; have n0_ := Aside0.mk (below_step Bq hb); have n1_ := Aside0.mk (hbox); have n2_ := Aside0.mk ((by rw [hg]; exact (below_size Bq) : w.heap.size ≤ gb235)); have n3_ := Aside0.mk ((by rw [hg]; exact (below_size Bq) : w.heap.size ≤ gb235)); clear HB; have HB := n0_; have BK235 := n1_; have GW235 := n2_; have GE235 := n3_; clear n0_ n1_ n2_ n3_; clear hb hbox hg; have hcz11_0 : w10.cell? ⟨gb235, 0, none⟩ = some (.int .i64 a0_0) := (blk_cell BK235.out 0).trans rfl; have hcz11_1 : w10.cell? ⟨gb235, 1, none⟩ = some (.int .i64 a0_1) := (blk_cell BK235.out 1).trans rfl; have hcz11_2 : w10.cell? ⟨gb235, 2, none⟩ = some (.slice A0_2 l0_2.length c0_2) := (blk_cell BK235.out 2).trans rfl; have hcz11_3 : w10.cell? ⟨gb235, 3, none⟩ = some (.slice A0_3 l0_3.length c0_3) := (blk_cell BK235.out 3).trans rfl; have hfz11_0 := blk_frozen BK235.out 0; have hfz11_1 := blk_frozen BK235.out 1; have hfz11_2 := blk_frozen BK235.out 2; have hfz11_3 := blk_frozen BK235.out 3) | ((with_reducible refine gate_callee (f := 18) rfl ?_); refine goesL_ (some 10) rfl rfl Tryd.func18 (by kernel_rfl) rfl #[.agg #[.int .i64 a0_0, .int .i64 a0_1, .slice A0_2 l0_2.length c0_2, .slice A0_3 l0_3.length c0_3]] rfl Mp ?_; (with_reducible refine (wigmakerref03_Validate.calls k a0_0 a0_1 _ _ l0_2 _ _ l0_3 t236 _ ?side1 ?side2 ?side3 ?side4 A2.out).mono ?_); (case side1 => repeat (first | exact (Kd.C_below HR0_2.out HB.out) | (with_reducible refine Kd.C_alloc ?_ _) | (with_reducible refine Kd.C_drewN ?_ _) | (with_reducible refine Kd.C_drew ?_))); (case side2 => exact HC0_2.out); (case side3 => repeat (first | exact (Kd.C_below HR0_3.out HB.out) | (with_reducible refine Kd.C_alloc ?_ _) | (with_reducible refine Kd.C_drewN ?_ _) | (with_reducible refine Kd.C_drew ?_))); (case side4 => exact HC0_3.out); rintro e w12 ⟨rfl, hb⟩; refine ⟨_, rfl, ?_⟩; have n0_ := Aside0.mk (blk_below (g := gb235) (o := .cells #[.int .i64 a0_0, .int .i64 a0_1, .slice A0_2 l0_2.length c0_2, .slice A0_3 l0_3.length c0_3] 25 (0, 0)) (Bk BK235.out) hb); have n1_ := Aside0.mk (below_step (Bg GE235.out) hb); clear BK235; clear HB; have BK235 := n0_; have HB := n1_; clear n0_ n1_; (try clear hb); (try clear hb2); (try clear hk); (try clear hi)))); have n0_ := Aside0.mk (blk_drew BK235.out); have n1_ := Aside0.mk (below_drew1 HB.out); clear BK235; clear HB; have BK235 := n0_; have HB := n1_; clear n0_ n1_
            (refine start_ (n := 11) (S := fun w' => w'.cell? ⟨gb235, 0, none⟩ = some (.int .i64 a0_0) ∧ w'.cell? ⟨gb235, 1, none⟩ = some (.int .i64 a0_1) ∧ w'.cell? ⟨gb235, 2, none⟩ = some (.slice A0_2 l0_2.length c0_2) ∧ w'.cell? ⟨gb235, 3, none⟩ = some (.slice A0_3 l0_3.length c0_3)) (ds := []) #[false, false, false, false, false, false, false, false, false, false, false] (by kernel_rfl) rfl rfl ⟨(blk_cell BK235.out 0).trans rfl, (blk_cell BK235.out 1).trans rfl, (blk_cell BK235.out 2).trans rfl, (blk_cell BK235.out 3).trans rfl⟩ (fun hHeld => ?_); refine with_tabW wigmakerref03_Format.tab4 wigmakerref03_Format.bits4 (fun HT_ HW_ => ?_)); generalize w12.drew = w13 at BK235 HB hHeld ⊢; (refine pure_ (i := 0) (N := some 14) (v := ?_) (a' := ?_) #[true, false, false, false, false, false, false, false, false, false, false] rfl rfl (any_of HT_.out (by kernel_rfl)) (fun _ _ _ h => h) (Or.inl ⟨by rfl, ?_⟩) ?_ ?_); rotate_left
            · intro w'
              go_simp; (with_reducible rfl)
            rotate_left
            · simp only [Act.put, List.setIfInBounds_toArray, List.set_cons_zero, List.set_cons_succ, i64_w, i32_w]
              rfl
            (refine pure_ (i := 5) (N := some 19) (v := ?_) (a' := ?_) #[true, false, false, false, false, true, false, false, false, false, false] rfl rfl (any_of HT_.out (by kernel_rfl)) (fun _ _ _ h => h) (Or.inl ⟨by rfl, ?_⟩) ?_ ?_); rotate_left
            · intro w'
              go_simp; (with_reducible rfl)
            rotate_left
            · simp only [Act.put, List.setIfInBounds_toArray, List.set_cons_zero, List.set_cons_succ, i64_w, i32_w]
              rfl
            (refine take_ (i := 1) (N := some 15) (v := ?_) (a' := ?_) #[true, true, false, false, false, true, false, false, false, false, false] rfl rfl (take_ofW HT_.out HW_.out (by kernel_rfl)) (fun _ _ _ h => h) (Or.inl ⟨by rfl, ?_⟩) hHeld ?_ ?_); rotate_left
            · rintro w' ⟨s0, s1, s2, s3⟩
              go_simp; (with_reducible rfl)
            rotate_left
            · simp only [Act.put, List.setIfInBounds_toArray, List.set_cons_zero, List.set_cons_succ, i64_w, i32_w]
              rfl
            (refine take_ (i := 6) (N := some 20) (v := ?_) (a' := ?_) #[true, true, false, false, false, true, true, false, false, false, false] rfl rfl (take_ofW HT_.out HW_.out (by kernel_rfl)) (fun _ _ _ h => h) (Or.inl ⟨by rfl, ?_⟩) hHeld ?_ ?_); rotate_left
            · rintro w' ⟨s0, s1, s2, s3⟩
              go_simp; (with_reducible rfl)
            rotate_left
            · simp only [Act.put, List.setIfInBounds_toArray, List.set_cons_zero, List.set_cons_succ, i64_w, i32_w]
              rfl
            (refine one_ (i := 2) (N := some 16) #[true, true, true, false, false, true, true, false, false, false, false] rfl rfl (one_of HT_.out (by kernel_rfl)) (by decide) (fun K hK => ?_)); (refine goes_ Tryd.func19 (by kernel_rfl) rfl #[.int .i64 a0_0] (by rfl) rfl rfl Mp ?_); (with_reducible refine (wigmakerref01_Digits.calls k a0_0 t237 _ A4.out).mono ?_); rintro e w' ⟨rfl, ⟨nd, rfl⟩⟩; refine ⟨_, rfl, ?_⟩; (refine hK.out _ _ ⟨(blk_cell BK235.out 0).trans rfl, (blk_cell BK235.out 1).trans rfl, (blk_cell BK235.out 2).trans rfl, (blk_cell BK235.out 3).trans rfl⟩ (fun hHeld => ?_)); clear hK K; refine norm_ (a' := ?_) ?_ ?_; rotate_left
            · show Act.put _ (some 16) _ = _
              simp only [Act.put, List.setIfInBounds_toArray, List.set_cons_zero, List.set_cons_succ, i64_w, i32_w]; rfl
            (refine pure_ (i := 3) (N := some 17) (v := ?_) (a' := ?_) #[true, true, true, true, false, true, true, false, false, false, false] rfl rfl (any_of HT_.out (by kernel_rfl)) (fun _ _ _ h => h) (Or.inl ⟨by rfl, ?_⟩) ?_ ?_); rotate_left
            · intro w'
              go_simp; (with_reducible rfl)
            rotate_left
            · simp only [Act.put, List.setIfInBounds_toArray, List.set_cons_zero, List.set_cons_succ, i64_w, i32_w]
              rfl
            (refine pure_ (i := 4) (N := some 18) (v := ?_) (a' := ?_) #[true, true, true, true, true, true, true, false, false, false, false] rfl rfl (any_of HT_.out (by kernel_rfl)) (fun _ _ _ h => h) (Or.inl ⟨by rfl, ?_⟩) ?_ ?_); rotate_left
            · intro w'
              go_simp; (with_reducible rfl)
            rotate_left
            · simp only [Act.put, List.setIfInBounds_toArray, List.set_cons_zero, List.set_cons_succ, i64_w, i32_w]
              rfl
            (refine one_ (i := 7) (N := some 21) #[true, true, true, true, true, true, true, true, false, false, false] rfl rfl (one_of HT_.out (by kernel_rfl)) (by decide) (fun K hK => ?_)); (refine goes_ Tryd.func19 (by kernel_rfl) rfl #[.int .i64 a0_1] (by rfl) rfl rfl Mp ?_); (with_reducible refine (wigmakerref01_Digits.calls k a0_1 t238 _ A7.out).mono ?_); rintro e w' ⟨rfl, ⟨nd, rfl⟩⟩; refine ⟨_, rfl, ?_⟩; (refine hK.out _ _ ⟨(blk_cell BK235.out 0).trans rfl, (blk_cell BK235.out 1).trans rfl, (blk_cell BK235.out 2).trans rfl, (blk_cell BK235.out 3).trans rfl⟩ (fun hHeld => ?_)); clear hK K; refine norm_ (a' := ?_) ?_ ?_; rotate_left
            · show Act.put _ (some 21) _ = _
              simp only [Act.put, List.setIfInBounds_toArray, List.set_cons_zero, List.set_cons_succ, i64_w, i32_w]; rfl
            (refine pure_ (i := 8) (N := some 22) (v := ?_) (a' := ?_) #[true, true, true, true, true, true, true, true, true, false, false] rfl rfl (any_of HT_.out (by kernel_rfl)) (fun _ _ _ h => h) (Or.inl ⟨by rfl, ?_⟩) ?_ ?_); rotate_left
            · intro w'
              go_simp; (with_reducible rfl)
            rotate_left
            · simp only [Act.put, List.setIfInBounds_toArray, List.set_cons_zero, List.set_cons_succ, i64_w, i32_w]
              rfl
            (refine pure_ (i := 9) (N := some 23) (v := ?_) (a' := ?_) #[true, true, true, true, true, true, true, true, true, true, false] rfl rfl (any_of HT_.out (by kernel_rfl)) (fun _ _ _ h => h) (Or.inl ⟨by rfl, ?_⟩) ?_ ?_); rotate_left
            · intro w'
              go_simp; (with_reducible rfl)
            rotate_left
            · simp only [Act.put, List.setIfInBounds_toArray, List.set_cons_zero, List.set_cons_succ, i64_w, i32_w]
              rfl
            (refine pure_ (i := 10) (N := some 5) (v := ?_) (a' := ?_) #[true, true, true, true, true, true, true, true, true, true, true] rfl rfl (any_of HT_.out (by kernel_rfl)) (fun _ _ _ h => h) (Or.inl ⟨by rfl, ?_⟩) ?_ ?_); rotate_left
            · intro w'
              go_simp; (with_reducible rfl)
            rotate_left
            · simp only [Act.put, List.setIfInBounds_toArray, List.set_cons_zero, List.set_cons_succ, i64_w, i32_w]
              rfl
            (refine done_ (done_of HT_.out (by kernel_rfl)) ?_); (try go_wp2); (go_loopg [5, 6] k (fun kq v5 v6 w' => ∃ (x5_1 : ByteArray) (x6_1 : Int), v5 = .string x5_1 ∧ v6 = .int .i64 x6_1 ∧ Aside0 (wigmakerref03_Format.l0 kq x5_1 x6_1 a0_0 a0_1 l0_2 l0_3 = some (r1, r2)) ∧ Aside0 (kq ≤ k) ∧ Aside0 (w'.heap[gb235]? = some (.cells #[.int .i64 a0_0, .int .i64 a0_1, (.slice A0_2 l0_2.length c0_2), (.slice A0_3 l0_3.length c0_3)] 25 (0, 0))) ∧ Aside0 (Below w.heap.size w w')))
            case atStart => exact ⟨(((((⟨#[102, 108, 111, 119, 32]⟩ : ByteArray) ++ t237) ++ (⟨#[32]⟩ : ByteArray)) ++ t238) ++ (⟨#[32]⟩ : ByteArray)), (0), Rf, Rf, H', ⟨Nat.le_refl _⟩, ⟨by (with_reducible repeat (first | refine blk_drewN ?_ _ | refine blk_drew ?_ | refine blk_alloc ?_ _)); exact BK235.out⟩, ⟨(Bg GE235.out)⟩⟩
            case round =>
              clear H'; (try clear c1); (try clear p2); (try clear c3); (try clear c3b0); (try clear c3b1); (try clear c5); (try clear c5b0); (try clear c5b1); (try clear c5b2); (try clear c6); (try clear c6b0); (try clear c6b1); (try clear c6b2); (try clear c7); (try clear c8); (try clear c8b0); (try clear c8b1); (try clear c8b2); (try clear c9); (try clear c9b0); (try clear c9b1); (try clear c9b2); (try clear hcz11_0); (try clear hcz11_1); (try clear hcz11_2); (try clear hcz11_3); (try clear hfz11_0); (try clear hfz11_1); (try clear hfz11_2); (try clear hfz11_3); obtain ⟨x5_1, x6_1, rfl, rfl, HA, HK1, BK235, HB⟩ := hrel
              cases gk with
              | zero => exact absurd HA.out (by simp [wigmakerref03_Format.l0])
              | succ k1 =>
                have H := HA.out; clear HA; simp only [wigmakerref03_Format.l0] at H; by_cases c14 : x6_1 < (l0_2.length : Int)
                · rw [if_pos c14] at H
                  have c14b0 : decide (x6_1 < (l0_2.length : Int)) = true := decide_eq_true c14; clear c14; by_cases c15 : x6_1 > 0
                  · rw [if_pos c15] at H
                    have c15b0 : decide (0 < x6_1) = true := decide_eq_true c15; clear c15; by_cases c16 : a0_0 = 0
                    · rw [if_pos c16] at H
                      exact absurd H (by simp)
                    · rw [if_neg c16] at H
                      have c16b0 : (a0_0 == 0) = false := beq_eq_false_iff_ne.mpr c16; have c16b1 : (a0_0 != 0) = true := bne_iff_ne.mpr c16; by_cases c17 : (Int.tmod x6_1 a0_0) = 0
                      · rw [if_pos c17] at H
                        have c17b0 : ((Int.tmod x6_1 a0_0) == 0) = true := beq_iff_eq.mpr c17; have c17b1 : ((Int.tmod x6_1 a0_0) != 0) = false := bne_eq_false_iff_eq.mpr c17; clear c17; by_cases c18 : x5_1.size + 1 ≤ 9223372036854775807
                        · rw [if_pos c18] at H
                          have c18b0 := eq_true c18; have c18b1 : decide (x5_1.size + 1 ≤ 9223372036854775807) = true := decide_eq_true c18; (try have c18b2 : (9223372036854775807 < x5_1.size + 1) = False := eq_false (Nat.not_lt.2 c18)); by_cases c19 : 0 ≤ x6_1
                          · rw [if_pos c19] at H
                            have c19b0 : decide (0 ≤ x6_1) = true := decide_eq_true c19; clear c19; replace H := Option.bind_eq_some_iff.mp H; obtain ⟨t240, A200, H⟩ := H; replace H : (if x5_1.size + 1 + t240.size ≤ 9223372036854775807 then (wigmakerref03_Format.l0 k1 ((x5_1 ++ (⟨#[47]⟩ : ByteArray)) ++ t240) (wrap64 (x6_1 + 1)) a0_0 a0_1 l0_2 l0_3) else (none)) = some (r1, r2) := H; have A20 := Aside0.mk A200; clear A200; by_cases c21 : x5_1.size + 1 + t240.size ≤ 9223372036854775807
                            · rw [if_pos c21] at H
                              have c21b0 := eq_true c21; have c21b1 : decide (x5_1.size + 1 + t240.size ≤ 9223372036854775807) = true := decide_eq_true c21; (try have c21b2 : (9223372036854775807 < x5_1.size + 1 + t240.size) = False := eq_false (Nat.not_lt.2 c21)); have H' := Aside0.mk H; clear H; have hcz22_0 : wr.cell? ⟨gb235, 0, none⟩ = some (.int .i64 a0_0) := (blk_cell BK235.out 0).trans rfl; have hcz22_1 : wr.cell? ⟨gb235, 1, none⟩ = some (.int .i64 a0_1) := (blk_cell BK235.out 1).trans rfl; have hcz22_2 : wr.cell? ⟨gb235, 2, none⟩ = some (.slice A0_2 l0_2.length c0_2) := (blk_cell BK235.out 2).trans rfl; have hcz22_3 : wr.cell? ⟨gb235, 3, none⟩ = some (.slice A0_3 l0_3.length c0_3) := (blk_cell BK235.out 3).trans rfl; have hfz22_0 := blk_frozen BK235.out 0; have hfz22_1 := blk_frozen BK235.out 1; have hfz22_2 := blk_frozen BK235.out 2; have hfz22_3 := blk_frozen BK235.out 3; (have p239 : 0 ≤ (x6_1 : Int) := of_decide_eq_true (by first | (with_reducible assumption) | assumption)); (have q239 : x6_1 < (l0_2.length : Int) := of_decide_eq_true (by first | (with_reducible assumption) | assumption)); obtain ⟨ad239, e239, hx239_0⟩ := Kd.at_int HR0_2.out x6_1 p239 q239; cases e239; replace hx239_0 := (HB.out.cell (World.block_lt_of_cell? w _ hx239_0)).trans hx239_0; replace p239 := eq_true p239; replace q239 := eq_true q239; (go_wp2_with (first | ((with_reducible refine gate_callee (f := 19) rfl ?_); refine goesL_ (some 48) rfl rfl Tryd.func19 (by kernel_rfl) rfl #[.int .i64 (rd l0_2 x6_1)] rfl Mp ?_; (with_reducible refine (wigmakerref01_Digits.calls k1 (rd l0_2 x6_1) t240 _ A20.out).mono ?_); rintro e w' ⟨rfl, ⟨nd, rfl⟩⟩; refine ⟨_, rfl, ?_⟩))); go_roundg k1
                              case measure => have := HK1.out; omega
                              case rel => exact ⟨((x5_1 ++ (⟨#[47]⟩ : ByteArray)) ++ t240), (wrap64 (x6_1 + 1)), Rf, Rf, H', ⟨by have := HK1.out; omega⟩, ⟨by (with_reducible repeat (first | refine blk_drewN ?_ _ | refine blk_drew ?_ | refine blk_alloc ?_ _)); exact BK235.out⟩, ⟨(Bg GE235.out)⟩⟩
                            · rw [if_neg c21] at H
                              exact absurd H (by simp)
                          · rw [if_neg c19] at H
                            exact absurd H (by simp)
                        · rw [if_neg c18] at H
                          exact absurd H (by simp)
                      · rw [if_neg c17] at H
                        have c17b0 : ((Int.tmod x6_1 a0_0) == 0) = false := beq_eq_false_iff_ne.mpr c17; have c17b1 : ((Int.tmod x6_1 a0_0) != 0) = true := bne_iff_ne.mpr c17; by_cases c23 : 0 ≤ x6_1
                        · rw [if_pos c23] at H
                          have c23b0 : decide (0 ≤ x6_1) = true := decide_eq_true c23; clear c23; replace H := Option.bind_eq_some_iff.mp H; obtain ⟨t242, A240, H⟩ := H; replace H : (if x5_1.size + t242.size ≤ 9223372036854775807 then (wigmakerref03_Format.l0 k1 (x5_1 ++ t242) (wrap64 (x6_1 + 1)) a0_0 a0_1 l0_2 l0_3) else (none)) = some (r1, r2) := H; have A24 := Aside0.mk A240; clear A240; by_cases c25 : x5_1.size + t242.size ≤ 9223372036854775807
                          · rw [if_pos c25] at H
                            have c25b0 := eq_true c25; have c25b1 : decide (x5_1.size + t242.size ≤ 9223372036854775807) = true := decide_eq_true c25; (try have c25b2 : (9223372036854775807 < x5_1.size + t242.size) = False := eq_false (Nat.not_lt.2 c25)); have H' := Aside0.mk H; clear H; have hcz26_0 : wr.cell? ⟨gb235, 0, none⟩ = some (.int .i64 a0_0) := (blk_cell BK235.out 0).trans rfl; have hcz26_1 : wr.cell? ⟨gb235, 1, none⟩ = some (.int .i64 a0_1) := (blk_cell BK235.out 1).trans rfl; have hcz26_2 : wr.cell? ⟨gb235, 2, none⟩ = some (.slice A0_2 l0_2.length c0_2) := (blk_cell BK235.out 2).trans rfl; have hcz26_3 : wr.cell? ⟨gb235, 3, none⟩ = some (.slice A0_3 l0_3.length c0_3) := (blk_cell BK235.out 3).trans rfl; have hfz26_0 := blk_frozen BK235.out 0; have hfz26_1 := blk_frozen BK235.out 1; have hfz26_2 := blk_frozen BK235.out 2; have hfz26_3 := blk_frozen BK235.out 3; (have p241 : 0 ≤ (x6_1 : Int) := of_decide_eq_true (by first | (with_reducible assumption) | assumption)); (have q241 : x6_1 < (l0_2.length : Int) := of_decide_eq_true (by first | (with_reducible assumption) | assumption)); obtain ⟨ad241, e241, hx241_0⟩ := Kd.at_int HR0_2.out x6_1 p241 q241; cases e241; replace hx241_0 := (HB.out.cell (World.block_lt_of_cell? w _ hx241_0)).trans hx241_0; replace p241 := eq_true p241; replace q241 := eq_true q241; (go_wp2_with (first | ((with_reducible refine gate_callee (f := 19) rfl ?_); refine goesL_ (some 48) rfl rfl Tryd.func19 (by kernel_rfl) rfl #[.int .i64 (rd l0_2 x6_1)] rfl Mp ?_; (with_reducible refine (wigmakerref01_Digits.calls k1 (rd l0_2 x6_1) t242 _ A24.out).mono ?_); rintro e w' ⟨rfl, ⟨nd, rfl⟩⟩; refine ⟨_, rfl, ?_⟩))); go_roundg k1
                            case measure => have := HK1.out; omega
                            case rel => exact ⟨(x5_1 ++ t242), (wrap64 (x6_1 + 1)), Rf, Rf, H', ⟨by have := HK1.out; omega⟩, ⟨by (with_reducible repeat (first | refine blk_drewN ?_ _ | refine blk_drew ?_ | refine blk_alloc ?_ _)); exact BK235.out⟩, ⟨(Bg GE235.out)⟩⟩
                          · rw [if_neg c25] at H
                            exact absurd H (by simp)
                        · rw [if_neg c23] at H
                          exact absurd H (by simp)
                  · rw [if_neg c15] at H
                    have c15b0 : decide (0 < x6_1) = false := decide_eq_false c15; clear c15; by_cases c27 : 0 ≤ x6_1
                    · rw [if_pos c27] at H
                      have c27b0 : decide (0 ≤ x6_1) = true := decide_eq_true c27; clear c27; replace H := Option.bind_eq_some_iff.mp H; obtain ⟨t244, A280, H⟩ := H; replace H : (if x5_1.size + t244.size ≤ 9223372036854775807 then (wigmakerref03_Format.l0 k1 (x5_1 ++ t244) (wrap64 (x6_1 + 1)) a0_0 a0_1 l0_2 l0_3) else (none)) = some (r1, r2) := H; have A28 := Aside0.mk A280; clear A280; by_cases c29 : x5_1.size + t244.size ≤ 9223372036854775807
                      · rw [if_pos c29] at H
                        have c29b0 := eq_true c29; have c29b1 : decide (x5_1.size + t244.size ≤ 9223372036854775807) = true := decide_eq_true c29; (try have c29b2 : (9223372036854775807 < x5_1.size + t244.size) = False := eq_false (Nat.not_lt.2 c29)); have H' := Aside0.mk H; clear H; have hcz30_0 : wr.cell? ⟨gb235, 0, none⟩ = some (.int .i64 a0_0) := (blk_cell BK235.out 0).trans rfl; have hcz30_1 : wr.cell? ⟨gb235, 1, none⟩ = some (.int .i64 a0_1) := (blk_cell BK235.out 1).trans rfl; have hcz30_2 : wr.cell? ⟨gb235, 2, none⟩ = some (.slice A0_2 l0_2.length c0_2) := (blk_cell BK235.out 2).trans rfl; have hcz30_3 : wr.cell? ⟨gb235, 3, none⟩ = some (.slice A0_3 l0_3.length c0_3) := (blk_cell BK235.out 3).trans rfl; have hfz30_0 := blk_frozen BK235.out 0; have hfz30_1 := blk_frozen BK235.out 1; have hfz30_2 := blk_frozen BK235.out 2; have hfz30_3 := blk_frozen BK235.out 3; (have p243 : 0 ≤ (x6_1 : Int) := of_decide_eq_true (by first | (with_reducible assumption) | assumption)); (have q243 : x6_1 < (l0_2.length : Int) := of_decide_eq_true (by first | (with_reducible assumption) | assumption)); obtain ⟨ad243, e243, hx243_0⟩ := Kd.at_int HR0_2.out x6_1 p243 q243; cases e243; replace hx243_0 := (HB.out.cell (World.block_lt_of_cell? w _ hx243_0)).trans hx243_0; replace p243 := eq_true p243; replace q243 := eq_true q243; (go_wp2_with (first | ((with_reducible refine gate_callee (f := 19) rfl ?_); refine goesL_ (some 48) rfl rfl Tryd.func19 (by kernel_rfl) rfl #[.int .i64 (rd l0_2 x6_1)] rfl Mp ?_; (with_reducible refine (wigmakerref01_Digits.calls k1 (rd l0_2 x6_1) t244 _ A28.out).mono ?_); rintro e w' ⟨rfl, ⟨nd, rfl⟩⟩; refine ⟨_, rfl, ?_⟩))); go_roundg k1
                        case measure => have := HK1.out; omega
                        case rel => exact ⟨(x5_1 ++ t244), (wrap64 (x6_1 + 1)), Rf, Rf, H', ⟨by have := HK1.out; omega⟩, ⟨by (with_reducible repeat (first | refine blk_drewN ?_ _ | refine blk_drew ?_ | refine blk_alloc ?_ _)); exact BK235.out⟩, ⟨(Bg GE235.out)⟩⟩
                      · rw [if_neg c29] at H
                        exact absurd H (by simp)
                    · rw [if_neg c27] at H
                      exact absurd H (by simp)
                · rw [if_neg c14] at H
                  have c14b0 : decide (x6_1 < (l0_2.length : Int)) = false := decide_eq_false c14; clear c14; have H' := Aside0.mk H; clear H; have hcz31_0 : wr.cell? ⟨gb235, 0, none⟩ = some (.int .i64 a0_0) := (blk_cell BK235.out 0).trans rfl; have hcz31_1 : wr.cell? ⟨gb235, 1, none⟩ = some (.int .i64 a0_1) := (blk_cell BK235.out 1).trans rfl; have hcz31_2 : wr.cell? ⟨gb235, 2, none⟩ = some (.slice A0_2 l0_2.length c0_2) := (blk_cell BK235.out 2).trans rfl; have hcz31_3 : wr.cell? ⟨gb235, 3, none⟩ = some (.slice A0_3 l0_3.length c0_3) := (blk_cell BK235.out 3).trans rfl; have hfz31_0 := blk_frozen BK235.out 0; have hfz31_1 := blk_frozen BK235.out 1; have hfz31_2 := blk_frozen BK235.out 2; have hfz31_3 := blk_frozen BK235.out 3; go_wp2; (go_loopg [5, 7] k1 (fun kq v5 v7 w' => ∃ (x5_2 : ByteArray) (x7_2 : Int), v5 = .string x5_2 ∧ v7 = .int .i64 x7_2 ∧ Aside0 (wigmakerref03_Format.l1 kq x5_2 x7_2 a0_0 a0_1 l0_2 l0_3 = some (r1, r2)) ∧ Aside0 (kq ≤ k1) ∧ Aside0 (w'.heap[gb235]? = some (.cells #[.int .i64 a0_0, .int .i64 a0_1, (.slice A0_2 l0_2.length c0_2), (.slice A0_3 l0_3.length c0_3)] 25 (0, 0))) ∧ Aside0 (Below w.heap.size w w')))
                  case atStart => exact ⟨(x5_1), (0), Rf, Rf, H', ⟨Nat.le_refl _⟩, ⟨by (with_reducible repeat (first | refine blk_drewN ?_ _ | refine blk_drew ?_ | refine blk_alloc ?_ _)); exact BK235.out⟩, ⟨(Bg GE235.out)⟩⟩
                  case round =>
                    clear H'; (try clear c1); (try clear c2); (try clear p2); (try clear q2); (try clear hx2); (try clear c3); (try clear c3b0); (try clear c3b1); (try clear c5); (try clear c5b0); (try clear c5b1); (try clear c5b2); (try clear c6); (try clear c6b0); (try clear c6b1); (try clear c6b2); (try clear p6); (try clear c7); (try clear c8); (try clear c8b0); (try clear c8b1); (try clear c8b2); (try clear c9); (try clear c9b0); (try clear c9b1); (try clear c9b2); (try clear c14); (try clear c14b0); (try clear c15); (try clear c15b0); (try clear c16); (try clear c16b0); (try clear c16b1); (try clear c17); (try clear c17b0); (try clear c17b1); (try clear c18); (try clear c18b0); (try clear c18b1); (try clear c18b2); (try clear c19); (try clear c19b0); (try clear c21); (try clear c21b0); (try clear c21b1); (try clear c21b2); (try clear c23); (try clear c23b0); (try clear p23); (try clear q23); (try clear hx23); (try clear p24); (try clear q24); (try clear hx24); (try clear c25); (try clear c25b0); (try clear c25b1); (try clear c25b2); (try clear c27); (try clear c27b0); (try clear c29); (try clear c29b0); (try clear c29b1); (try clear c29b2); (try clear hcz11_0); (try clear hcz11_1); (try clear hcz11_2); (try clear hcz11_3); (try clear hcz22_0); (try clear hcz22_1); (try clear hcz22_2); (try clear hcz22_3); (try clear hcz26_0); (try clear hcz26_1); (try clear hcz26_2); (try clear hcz26_3); (try clear hcz30_0); (try clear hcz30_1); (try clear hcz30_2); (try clear hcz30_3); (try clear hcz31_0); (try clear hcz31_1); (try clear hcz31_2); (try clear hcz31_3); (try clear hfz11_0); (try clear hfz11_1); (try clear hfz11_2); (try clear hfz11_3); (try clear hfz22_0); (try clear hfz22_1); (try clear hfz22_2); (try clear hfz22_3); (try clear hfz26_0); (try clear hfz26_1); (try clear hfz26_2); (try clear hfz26_3); (try clear hfz30_0); (try clear hfz30_1); (try clear hfz30_2); (try clear hfz30_3); (try clear hfz31_0); (try clear hfz31_1); (try clear hfz31_2); (try clear hfz31_3); (try clear hx239_0); (try clear hx241_0); (try clear hx243_0); (try clear p2); (try clear p239); (try clear p241); (try clear p243); (try clear q239); (try clear q241); (try clear q243); obtain ⟨x5_2, x7_2, rfl, rfl, HA, HK2, BK235, HB⟩ := hrel
                    cases gk with
                    | zero => exact absurd HA.out (by simp [wigmakerref03_Format.l1])
                    | succ k2 =>
                      have H := HA.out; clear HA; simp only [wigmakerref03_Format.l1] at H; by_cases c32 : x7_2 < (l0_3.length : Int)
                      · rw [if_pos c32] at H
                        have c32b0 : decide (x7_2 < (l0_3.length : Int)) = true := decide_eq_true c32; clear c32; by_cases c33 : 0 ≤ x7_2
                        · rw [if_pos c33] at H
                          have c33b0 : decide (0 ≤ x7_2) = true := decide_eq_true c33; clear c33; replace H := Option.bind_eq_some_iff.mp H; obtain ⟨t247, A340, H⟩ := H; (replace H : (if 1 + t247.size ≤ 9223372036854775807 then (if 1 + t247.size + 1 ≤ 9223372036854775807 then ((wigmakerref01_Digits.f k2 ((rd_T50 l0_3 x7_2).f1)).bind fun t248 => (if 1 + t247.size + 1 + t248.size ≤ 9223372036854775807 then (if 1 + t247.size + 1 + t248.size + 1 ≤ 9223372036854775807 then ((wigmakerref01_Digits.f k2 ((rd_T50 l0_3 x7_2).f2)).bind fun t249 => (if 1 + t247.size + 1 + t248.size + 1 + t249.size ≤ 9223372036854775807 then (if x5_2.size + (1 + t247.size + 1 + t248.size + 1 + t249.size) ≤ 9223372036854775807 then (wigmakerref03_Format.l1 k2 (x5_2 ++ ((((((⟨#[32]⟩ : ByteArray) ++ t247) ++ (⟨#[44]⟩ : ByteArray)) ++ t248) ++ (⟨#[44]⟩ : ByteArray)) ++ t249)) (wrap64 (x7_2 + 1)) a0_0 a0_1 l0_2 l0_3) else (none)) else (none))) else (none)) else (none))) else (none)) else (none)) = some (r1, r2) := H); have A34 := Aside0.mk A340; clear A340; by_cases c35 : 1 + t247.size ≤ 9223372036854775807
                          · rw [if_pos c35] at H
                            have c35b0 := eq_true c35; have c35b1 : decide (1 + t247.size ≤ 9223372036854775807) = true := decide_eq_true c35; (try have c35b2 : (9223372036854775807 < 1 + t247.size) = False := eq_false (Nat.not_lt.2 c35)); by_cases c36 : 1 + t247.size + 1 ≤ 9223372036854775807
                            · rw [if_pos c36] at H
                              have c36b0 := eq_true c36; have c36b1 : decide (1 + t247.size + 1 ≤ 9223372036854775807) = true := decide_eq_true c36; (try have c36b2 : (9223372036854775807 < 1 + t247.size + 1) = False := eq_false (Nat.not_lt.2 c36)); replace H := Option.bind_eq_some_iff.mp H; obtain ⟨t248, A370, H⟩ := H; (replace H : (if 1 + t247.size + 1 + t248.size ≤ 9223372036854775807 then (if 1 + t247.size + 1 + t248.size + 1 ≤ 9223372036854775807 then ((wigmakerref01_Digits.f k2 ((rd_T50 l0_3 x7_2).f2)).bind fun t249 => (if 1 + t247.size + 1 + t248.size + 1 + t249.size ≤ 9223372036854775807 then (if x5_2.size + (1 + t247.size + 1 + t248.size + 1 + t249.size) ≤ 9223372036854775807 then (wigmakerref03_Format.l1 k2 (x5_2 ++ ((((((⟨#[32]⟩ : ByteArray) ++ t247) ++ (⟨#[44]⟩ : ByteArray)) ++ t248) ++ (⟨#[44]⟩ : ByteArray)) ++ t249)) (wrap64 (x7_2 + 1)) a0_0 a0_1 l0_2 l0_3) else (none)) else (none))) else (none)) else (none)) = some (r1, r2) := H); have A37 := Aside0.mk A370; clear A370; by_cases c38 : 1 + t247.size + 1 + t248.size ≤ 9223372036854775807
                              · rw [if_pos c38] at H
                                have c38b0 := eq_true c38; have c38b1 : decide (1 + t247.size + 1 + t248.size ≤ 9223372036854775807) = true := decide_eq_true c38; (try have c38b2 : (9223372036854775807 < 1 + t247.size + 1 + t248.size) = False := eq_false (Nat.not_lt.2 c38)); by_cases c39 : 1 + t247.size + 1 + t248.size + 1 ≤ 9223372036854775807
                                · rw [if_pos c39] at H
                                  have c39b0 := eq_true c39; have c39b1 : decide (1 + t247.size + 1 + t248.size + 1 ≤ 9223372036854775807) = true := decide_eq_true c39; (try have c39b2 : (9223372036854775807 < 1 + t247.size + 1 + t248.size + 1) = False := eq_false (Nat.not_lt.2 c39)); replace H := Option.bind_eq_some_iff.mp H; obtain ⟨t249, A400, H⟩ := H; replace H : (if 1 + t247.size + 1 + t248.size + 1 + t249.size ≤ 9223372036854775807 then (if x5_2.size + (1 + t247.size + 1 + t248.size + 1 + t249.size) ≤ 9223372036854775807 then (wigmakerref03_Format.l1 k2 (x5_2 ++ ((((((⟨#[32]⟩ : ByteArray) ++ t247) ++ (⟨#[44]⟩ : ByteArray)) ++ t248) ++ (⟨#[44]⟩ : ByteArray)) ++ t249)) (wrap64 (x7_2 + 1)) a0_0 a0_1 l0_2 l0_3) else (none)) else (none)) = some (r1, r2) := H; have A40 := Aside0.mk A400; clear A400; by_cases c41 : 1 + t247.size + 1 + t248.size + 1 + t249.size ≤ 9223372036854775807
                                  · rw [if_pos c41] at H
                                    have c41b0 := eq_true c41; have c41b1 : decide (1 + t247.size + 1 + t248.size + 1 + t249.size ≤ 9223372036854775807) = true := decide_eq_true c41; (try have c41b2 : (9223372036854775807 < 1 + t247.size + 1 + t248.size + 1 + t249.size) = False := eq_false (Nat.not_lt.2 c41)); by_cases c42 : x5_2.size + (1 + t247.size + 1 + t248.size + 1 + t249.size) ≤ 9223372036854775807
                                    · rw [if_pos c42] at H
                                      have c42b0 := eq_true c42; have c42b1 : decide (x5_2.size + (1 + t247.size + 1 + t248.size + 1 + t249.size) ≤ 9223372036854775807) = true := decide_eq_true c42; (try have c42b2 : (9223372036854775807 < x5_2.size + (1 + t247.size + 1 + t248.size + 1 + t249.size)) = False := eq_false (Nat.not_lt.2 c42)); have H' := Aside0.mk H; clear H; have hcz43_0 : wr.cell? ⟨gb235, 0, none⟩ = some (.int .i64 a0_0) := (blk_cell BK235.out 0).trans rfl; have hcz43_1 : wr.cell? ⟨gb235, 1, none⟩ = some (.int .i64 a0_1) := (blk_cell BK235.out 1).trans rfl; have hcz43_2 : wr.cell? ⟨gb235, 2, none⟩ = some (.slice A0_2 l0_2.length c0_2) := (blk_cell BK235.out 2).trans rfl; have hcz43_3 : wr.cell? ⟨gb235, 3, none⟩ = some (.slice A0_3 l0_3.length c0_3) := (blk_cell BK235.out 3).trans rfl; have hfz43_0 := blk_frozen BK235.out 0; have hfz43_1 := blk_frozen BK235.out 1; have hfz43_2 := blk_frozen BK235.out 2; have hfz43_3 := blk_frozen BK235.out 3; (have p245 : 0 ≤ (x7_2 : Int) := of_decide_eq_true (by first | (with_reducible assumption) | assumption)); (have q245 : x7_2 < (l0_3.length : Int) := of_decide_eq_true (by first | (with_reducible assumption) | assumption)); obtain ⟨ad245, e245, hx245_0, hx245_1, hx245_2⟩ := at_T50 HR0_3.out x7_2 p245 q245; cases e245; replace hx245_0 := (HB.out.cell (World.block_lt_of_cell? w _ hx245_0)).trans hx245_0; replace hx245_1 := (HB.out.cell (World.block_lt_of_cell? w _ hx245_1)).trans hx245_1; replace hx245_2 := (HB.out.cell (World.block_lt_of_cell? w _ hx245_2)).trans hx245_2; replace p245 := eq_true p245; replace q245 := eq_true q245; (try go_wp2_with (first | ((with_reducible refine gate_dst (N := 8) rfl ?_); refine box_event ?hg (N := 8) ?hd (cs := #[.int .i64 0, .int .i64 0, .int .i64 0]) (t := 50) ?hr ?_; (case hd => rfl); (case hg => rfl); (case hr => first | (go_simp; done) | (go_simp; rfl)); intro gb246 hg w44 hbox hb; have n0_ := Aside0.mk (blk_below (g := gb235) (o := .cells #[.int .i64 a0_0, .int .i64 a0_1, .slice A0_2 l0_2.length c0_2, .slice (some ad245) l0_3.length c0_3] 25 (0, 0)) (Bk BK235.out) hb); have n1_ := Aside0.mk (below_step (Bg GE235.out) hb); have n2_ := Aside0.mk (hbox); have n3_ := Aside0.mk ((by rw [hg]; exact (below_size (Bg GE235.out)) : w.heap.size ≤ gb246)); have n4_ := Aside0.mk ((by rw [hg]; exact (below_size (Bg GE235.out)) : w.heap.size ≤ gb246)); have n5_ := Aside0.mk ((by rw [hg]; exact Nat.ne_of_lt (blk_lt (g := gb235) (o := .cells #[.int .i64 a0_0, .int .i64 a0_1, .slice A0_2 l0_2.length c0_2, .slice (some ad245) l0_3.length c0_3] 25 (0, 0)) (Bk BK235.out)) : gb235 ≠ gb246)); have n6_ := Aside0.mk ((by rw [hg]; exact Nat.ne_of_gt (blk_lt (g := gb235) (o := .cells #[.int .i64 a0_0, .int .i64 a0_1, .slice A0_2 l0_2.length c0_2, .slice (some ad245) l0_3.length c0_3] 25 (0, 0)) (Bk BK235.out)) : gb246 ≠ gb235)); clear BK235; clear HB; have BK235 := n0_; have HB := n1_; have BK246 := n2_; have GW246 := n3_; have GE246 := n4_; have NB235_246 := n5_; have NB246_235 := n6_; clear n0_ n1_ n2_ n3_ n4_ n5_ n6_; clear hb hbox hg; have hnb45 := NB246_235.out; have hnc45 := NB235_246.out; have hcz46_0 : w44.cell? ⟨gb246, 0, none⟩ = some (.int .i64 0) := (blk_cell BK246.out 0).trans rfl; have hcz46_1 : w44.cell? ⟨gb246, 1, none⟩ = some (.int .i64 0) := (blk_cell BK246.out 1).trans rfl; have hcz46_2 : w44.cell? ⟨gb246, 2, none⟩ = some (.int .i64 0) := (blk_cell BK246.out 2).trans rfl; have hfz46_0 := blk_frozen BK246.out 0; have hfz46_1 := blk_frozen BK246.out 1; have hfz46_2 := blk_frozen BK246.out 2)))
                                      (have n0_ : Aside0 ((((w44.setCell ⟨gb246, 0, none⟩ (.int .i64 ((rd_T50 l0_3 x7_2).f0))).setCell ⟨gb246, 1, none⟩ (.int .i64 ((rd_T50 l0_3 x7_2).f1))).setCell ⟨gb246, 2, none⟩ (.int .i64 ((rd_T50 l0_3 x7_2).f2))).heap[gb235]? = some (.cells #[.int .i64 a0_0, .int .i64 a0_1, .slice A0_2 l0_2.length c0_2, .slice (some ad245) l0_3.length c0_3] 25 (0, 0))) := ⟨by (with_reducible repeat (first | refine blk_drewN ?_ _ | refine blk_drew ?_ | refine blk_alloc ?_ _)); refine blk_far ?_ NB235_246.out _; (with_reducible repeat (first | refine blk_drewN ?_ _ | refine blk_drew ?_ | refine blk_alloc ?_ _)); refine blk_far ?_ NB235_246.out _; (with_reducible repeat (first | refine blk_drewN ?_ _ | refine blk_drew ?_ | refine blk_alloc ?_ _)); refine blk_far ?_ NB235_246.out _; (with_reducible repeat (first | refine blk_drewN ?_ _ | refine blk_drew ?_ | refine blk_alloc ?_ _)); exact BK235.out⟩); (have n1_ : Aside0 ((((w44.setCell ⟨gb246, 0, none⟩ (.int .i64 ((rd_T50 l0_3 x7_2).f0))).setCell ⟨gb246, 1, none⟩ (.int .i64 ((rd_T50 l0_3 x7_2).f1))).setCell ⟨gb246, 2, none⟩ (.int .i64 ((rd_T50 l0_3 x7_2).f2))).heap[gb246]? = some (.cells #[.int .i64 ((rd_T50 l0_3 x7_2).f0), .int .i64 ((rd_T50 l0_3 x7_2).f1), .int .i64 ((rd_T50 l0_3 x7_2).f2)] 50 (0, 0))) := ⟨by (with_reducible repeat (first | refine blk_drewN ?_ _ | refine blk_drew ?_ | refine blk_alloc ?_ _)); refine blk_put (cs := #[.int .i64 ((rd_T50 l0_3 x7_2).f0), .int .i64 ((rd_T50 l0_3 x7_2).f1), .int .i64 0]) ?_ 2 _ rfl; (with_reducible repeat (first | refine blk_drewN ?_ _ | refine blk_drew ?_ | refine blk_alloc ?_ _)); refine blk_put (cs := #[.int .i64 ((rd_T50 l0_3 x7_2).f0), .int .i64 0, .int .i64 0]) ?_ 1 _ rfl; (with_reducible repeat (first | refine blk_drewN ?_ _ | refine blk_drew ?_ | refine blk_alloc ?_ _)); refine blk_put (cs := #[.int .i64 0, .int .i64 0, .int .i64 0]) ?_ 0 _ rfl; (with_reducible repeat (first | refine blk_drewN ?_ _ | refine blk_drew ?_ | refine blk_alloc ?_ _)); exact BK246.out⟩); have n2_ : Aside0 (Below w.heap.size w (((w44.setCell ⟨gb246, 0, none⟩ (.int .i64 ((rd_T50 l0_3 x7_2).f0))).setCell ⟨gb246, 1, none⟩ (.int .i64 ((rd_T50 l0_3 x7_2).f1))).setCell ⟨gb246, 2, none⟩ (.int .i64 ((rd_T50 l0_3 x7_2).f2)))) := ⟨(Bh GE235.out GE246.out)⟩; (try clear BK235); (try clear BK246); (try clear HB); generalize (((w44.setCell ⟨gb246, 0, none⟩ (.int .i64 ((rd_T50 l0_3 x7_2).f0))).setCell ⟨gb246, 1, none⟩ (.int .i64 ((rd_T50 l0_3 x7_2).f1))).setCell ⟨gb246, 2, none⟩ (.int .i64 ((rd_T50 l0_3 x7_2).f2))) = w47 at n0_ n1_ n2_ ⊢; have BK235 := n0_; have BK246 := n1_; have HB := n2_; clear n0_ n1_ n2_; have n0_ := Aside0.mk (blk_drew BK235.out); have n1_ := Aside0.mk (blk_drew BK246.out); have n2_ := Aside0.mk (below_drew1 HB.out); clear BK235; clear BK246; clear HB; have BK235 := n0_; have BK246 := n1_; have HB := n2_; clear n0_ n1_ n2_; (refine start_ (n := 17) (S := fun w' => w'.cell? ⟨gb246, 0, none⟩ = some (.int .i64 ((rd_T50 l0_3 x7_2).f0)) ∧ w'.cell? ⟨gb246, 1, none⟩ = some (.int .i64 ((rd_T50 l0_3 x7_2).f1)) ∧ w'.cell? ⟨gb246, 2, none⟩ = some (.int .i64 ((rd_T50 l0_3 x7_2).f2))) (ds := []) #[false, false, false, false, false, false, false, false, false, false, false, false, false, false, false, false, false] (by kernel_rfl) rfl rfl ⟨(blk_cell BK246.out 0).trans rfl, (blk_cell BK246.out 1).trans rfl, (blk_cell BK246.out 2).trans rfl⟩ (fun hHeld => ?_); refine with_tabW wigmakerref03_Format.tab15 wigmakerref03_Format.bits15 (fun HT_ HW_ => ?_))
                                      generalize w47.drew = w48 at BK235 BK246 HB hHeld ⊢; (refine pure_ (i := 0) (N := some 62) (v := ?_) (a' := ?_) #[true, false, false, false, false, false, false, false, false, false, false, false, false, false, false, false, false] rfl rfl (any_of HT_.out (by kernel_rfl)) (fun _ _ _ h => h) (Or.inl ⟨by rfl, ?_⟩) ?_ ?_); rotate_left
                                      · intro w'
                                        go_simp; (with_reducible rfl)
                                      rotate_left
                                      · simp only [Act.put, List.setIfInBounds_toArray, List.set_cons_zero, List.set_cons_succ, i64_w, i32_w]
                                        rfl
                                      (refine pure_ (i := 1) (N := some 63) (v := ?_) (a' := ?_) #[true, true, false, false, false, false, false, false, false, false, false, false, false, false, false, false, false] rfl rfl (any_of HT_.out (by kernel_rfl)) (fun _ _ _ h => h) (Or.inl ⟨by rfl, ?_⟩) ?_ ?_); rotate_left
                                      · intro w'
                                        go_simp; (with_reducible rfl)
                                      rotate_left
                                      · simp only [Act.put, List.setIfInBounds_toArray, List.set_cons_zero, List.set_cons_succ, i64_w, i32_w]
                                        rfl
                                      (refine pure_ (i := 6) (N := some 68) (v := ?_) (a' := ?_) #[true, true, false, false, false, false, true, false, false, false, false, false, false, false, false, false, false] rfl rfl (any_of HT_.out (by kernel_rfl)) (fun _ _ _ h => h) (Or.inl ⟨by rfl, ?_⟩) ?_ ?_); rotate_left
                                      · intro w'
                                        go_simp; (with_reducible rfl)
                                      rotate_left
                                      · simp only [Act.put, List.setIfInBounds_toArray, List.set_cons_zero, List.set_cons_succ, i64_w, i32_w]
                                        rfl
                                      (refine pure_ (i := 11) (N := some 73) (v := ?_) (a' := ?_) #[true, true, false, false, false, false, true, false, false, false, false, true, false, false, false, false, false] rfl rfl (any_of HT_.out (by kernel_rfl)) (fun _ _ _ h => h) (Or.inl ⟨by rfl, ?_⟩) ?_ ?_); rotate_left
                                      · intro w'
                                        go_simp; (with_reducible rfl)
                                      rotate_left
                                      · simp only [Act.put, List.setIfInBounds_toArray, List.set_cons_zero, List.set_cons_succ, i64_w, i32_w]
                                        rfl
                                      (refine take_ (i := 2) (N := some 64) (v := ?_) (a' := ?_) #[true, true, true, false, false, false, true, false, false, false, false, true, false, false, false, false, false] rfl rfl (take_ofW HT_.out HW_.out (by kernel_rfl)) (fun _ _ _ h => h) (Or.inl ⟨by rfl, ?_⟩) hHeld ?_ ?_); rotate_left
                                      · rintro w' ⟨s0, s1, s2⟩
                                        go_simp; (with_reducible rfl)
                                      rotate_left
                                      · simp only [Act.put, List.setIfInBounds_toArray, List.set_cons_zero, List.set_cons_succ, i64_w, i32_w]
                                        rfl
                                      (refine take_ (i := 7) (N := some 69) (v := ?_) (a' := ?_) #[true, true, true, false, false, false, true, true, false, false, false, true, false, false, false, false, false] rfl rfl (take_ofW HT_.out HW_.out (by kernel_rfl)) (fun _ _ _ h => h) (Or.inl ⟨by rfl, ?_⟩) hHeld ?_ ?_); rotate_left
                                      · rintro w' ⟨s0, s1, s2⟩
                                        go_simp; (with_reducible rfl)
                                      rotate_left
                                      · simp only [Act.put, List.setIfInBounds_toArray, List.set_cons_zero, List.set_cons_succ, i64_w, i32_w]
                                        rfl
                                      (refine take_ (i := 12) (N := some 74) (v := ?_) (a' := ?_) #[true, true, true, false, false, false, true, true, false, false, false, true, true, false, false, false, false] rfl rfl (take_ofW HT_.out HW_.out (by kernel_rfl)) (fun _ _ _ h => h) (Or.inl ⟨by rfl, ?_⟩) hHeld ?_ ?_); rotate_left
                                      · rintro w' ⟨s0, s1, s2⟩
                                        go_simp; (with_reducible rfl)
                                      rotate_left
                                      · simp only [Act.put, List.setIfInBounds_toArray, List.set_cons_zero, List.set_cons_succ, i64_w, i32_w]
                                        rfl
                                      (refine one_ (i := 3) (N := some 65) #[true, true, true, true, false, false, true, true, false, false, false, true, true, false, false, false, false] rfl rfl (one_of HT_.out (by kernel_rfl)) (by decide) (fun K hK => ?_)); (refine goes_ Tryd.func19 (by kernel_rfl) rfl #[.int .i64 ((rd_T50 l0_3 x7_2).f0)] (by rfl) rfl rfl Mp ?_); (with_reducible refine (wigmakerref01_Digits.calls k2 ((rd_T50 l0_3 x7_2).f0) t247 _ A34.out).mono ?_); rintro e w' ⟨rfl, ⟨nd, rfl⟩⟩; refine ⟨_, rfl, ?_⟩; (refine hK.out _ _ ⟨(blk_cell BK246.out 0).trans rfl, (blk_cell BK246.out 1).trans rfl, (blk_cell BK246.out 2).trans rfl⟩ (fun hHeld => ?_)); clear hK K; refine norm_ (a' := ?_) ?_ ?_; rotate_left
                                      · show Act.put _ (some 65) _ = _
                                        simp only [Act.put, List.setIfInBounds_toArray, List.set_cons_zero, List.set_cons_succ, i64_w, i32_w]; rfl
                                      (refine pure_ (i := 4) (N := some 66) (v := ?_) (a' := ?_) #[true, true, true, true, true, false, true, true, false, false, false, true, true, false, false, false, false] rfl rfl (any_of HT_.out (by kernel_rfl)) (fun _ _ _ h => h) (Or.inl ⟨by rfl, ?_⟩) ?_ ?_); rotate_left
                                      · intro w'
                                        go_simp; (with_reducible rfl)
                                      rotate_left
                                      · simp only [Act.put, List.setIfInBounds_toArray, List.set_cons_zero, List.set_cons_succ, i64_w, i32_w]
                                        rfl
                                      (refine pure_ (i := 5) (N := some 67) (v := ?_) (a' := ?_) #[true, true, true, true, true, true, true, true, false, false, false, true, true, false, false, false, false] rfl rfl (any_of HT_.out (by kernel_rfl)) (fun _ _ _ h => h) (Or.inl ⟨by rfl, ?_⟩) ?_ ?_); rotate_left
                                      · intro w'
                                        go_simp; (with_reducible rfl)
                                      rotate_left
                                      · simp only [Act.put, List.setIfInBounds_toArray, List.set_cons_zero, List.set_cons_succ, i64_w, i32_w]
                                        rfl
                                      (refine one_ (i := 8) (N := some 70) #[true, true, true, true, true, true, true, true, true, false, false, true, true, false, false, false, false] rfl rfl (one_of HT_.out (by kernel_rfl)) (by decide) (fun K hK => ?_)); (refine goes_ Tryd.func19 (by kernel_rfl) rfl #[.int .i64 ((rd_T50 l0_3 x7_2).f1)] (by rfl) rfl rfl Mp ?_); (with_reducible refine (wigmakerref01_Digits.calls k2 ((rd_T50 l0_3 x7_2).f1) t248 _ A37.out).mono ?_); rintro e w' ⟨rfl, ⟨nd, rfl⟩⟩; refine ⟨_, rfl, ?_⟩; (refine hK.out _ _ ⟨(blk_cell BK246.out 0).trans rfl, (blk_cell BK246.out 1).trans rfl, (blk_cell BK246.out 2).trans rfl⟩ (fun hHeld => ?_)); clear hK K; refine norm_ (a' := ?_) ?_ ?_; rotate_left
                                      · show Act.put _ (some 70) _ = _
                                        simp only [Act.put, List.setIfInBounds_toArray, List.set_cons_zero, List.set_cons_succ, i64_w, i32_w]; rfl
                                      (refine pure_ (i := 9) (N := some 71) (v := ?_) (a' := ?_) #[true, true, true, true, true, true, true, true, true, true, false, true, true, false, false, false, false] rfl rfl (any_of HT_.out (by kernel_rfl)) (fun _ _ _ h => h) (Or.inl ⟨by rfl, ?_⟩) ?_ ?_); rotate_left
                                      · intro w'
                                        go_simp; (with_reducible rfl)
                                      rotate_left
                                      · simp only [Act.put, List.setIfInBounds_toArray, List.set_cons_zero, List.set_cons_succ, i64_w, i32_w]
                                        rfl
                                      (refine pure_ (i := 10) (N := some 72) (v := ?_) (a' := ?_) #[true, true, true, true, true, true, true, true, true, true, true, true, true, false, false, false, false] rfl rfl (any_of HT_.out (by kernel_rfl)) (fun _ _ _ h => h) (Or.inl ⟨by rfl, ?_⟩) ?_ ?_); rotate_left
                                      · intro w'
                                        go_simp; (with_reducible rfl)
                                      rotate_left
                                      · simp only [Act.put, List.setIfInBounds_toArray, List.set_cons_zero, List.set_cons_succ, i64_w, i32_w]
                                        rfl
                                      (refine one_ (i := 13) (N := some 75) #[true, true, true, true, true, true, true, true, true, true, true, true, true, true, false, false, false] rfl rfl (one_of HT_.out (by kernel_rfl)) (by decide) (fun K hK => ?_)); (refine goes_ Tryd.func19 (by kernel_rfl) rfl #[.int .i64 ((rd_T50 l0_3 x7_2).f2)] (by rfl) rfl rfl Mp ?_); (with_reducible refine (wigmakerref01_Digits.calls k2 ((rd_T50 l0_3 x7_2).f2) t249 _ A40.out).mono ?_); rintro e w' ⟨rfl, ⟨nd, rfl⟩⟩; refine ⟨_, rfl, ?_⟩; (refine hK.out _ _ ⟨(blk_cell BK246.out 0).trans rfl, (blk_cell BK246.out 1).trans rfl, (blk_cell BK246.out 2).trans rfl⟩ (fun hHeld => ?_)); clear hK K; refine norm_ (a' := ?_) ?_ ?_; rotate_left
                                      · show Act.put _ (some 75) _ = _
                                        simp only [Act.put, List.setIfInBounds_toArray, List.set_cons_zero, List.set_cons_succ, i64_w, i32_w]; rfl
                                      (refine pure_ (i := 14) (N := some 76) (v := ?_) (a' := ?_) #[true, true, true, true, true, true, true, true, true, true, true, true, true, true, true, false, false] rfl rfl (any_of HT_.out (by kernel_rfl)) (fun _ _ _ h => h) (Or.inl ⟨by rfl, ?_⟩) ?_ ?_); rotate_left
                                      · intro w'
                                        go_simp; (with_reducible rfl)
                                      rotate_left
                                      · simp only [Act.put, List.setIfInBounds_toArray, List.set_cons_zero, List.set_cons_succ, i64_w, i32_w]
                                        rfl
                                      (refine pure_ (i := 15) (N := some 77) (v := ?_) (a' := ?_) #[true, true, true, true, true, true, true, true, true, true, true, true, true, true, true, true, false] rfl rfl (any_of HT_.out (by kernel_rfl)) (fun _ _ _ h => h) (Or.inl ⟨by rfl, ?_⟩) ?_ ?_); rotate_left
                                      · intro w'
                                        go_simp; (with_reducible rfl)
                                      rotate_left
                                      · simp only [Act.put, List.setIfInBounds_toArray, List.set_cons_zero, List.set_cons_succ, i64_w, i32_w]
                                        rfl
                                      (refine pure_ (i := 16) (N := some 5) (v := ?_) (a' := ?_) #[true, true, true, true, true, true, true, true, true, true, true, true, true, true, true, true, true] rfl rfl (any_of HT_.out (by kernel_rfl)) (fun _ _ _ h => h) (Or.inl ⟨by rfl, ?_⟩) ?_ ?_); rotate_left
                                      · intro w'
                                        go_simp; (with_reducible rfl)
                                      rotate_left
                                      · simp only [Act.put, List.setIfInBounds_toArray, List.set_cons_zero, List.set_cons_succ, i64_w, i32_w]
                                        rfl
                                      (refine done_ (done_of HT_.out (by kernel_rfl)) ?_); (try go_wp2); go_roundg k2
                                      case measure => have := HK1.out; have := HK2.out; omega
                                      case rel => exact ⟨(x5_2 ++ ((((((⟨#[32]⟩ : ByteArray) ++ t247) ++ (⟨#[44]⟩ : ByteArray)) ++ t248) ++ (⟨#[44]⟩ : ByteArray)) ++ t249)), (wrap64 (x7_2 + 1)), Rf, Rf, H', ⟨by have := HK1.out; have := HK2.out; omega⟩, ⟨by (with_reducible repeat (first | refine blk_drewN ?_ _ | refine blk_drew ?_ | refine blk_alloc ?_ _)); exact BK235.out⟩, ⟨(Bh GE235.out GE246.out)⟩⟩
                                    · rw [if_neg c42] at H
                                      exact absurd H (by simp)
                                  · rw [if_neg c41] at H
                                    exact absurd H (by simp)
                                · rw [if_neg c39] at H
                                  exact absurd H (by simp)
                              · rw [if_neg c38] at H
                                exact absurd H (by simp)
                            · rw [if_neg c36] at H
                              exact absurd H (by simp)
                          · rw [if_neg c35] at H
                            exact absurd H (by simp)
                        · rw [if_neg c33] at H
                          exact absurd H (by simp)
                      · rw [if_neg c32] at H
                        have c32b0 : decide (x7_2 < (l0_3.length : Int)) = false := decide_eq_false c32; clear c32; simp only [Option.some.injEq, Prod.mk.injEq] at H; obtain ⟨rfl, rfl⟩ := H; have hcz49_0 : wr.cell? ⟨gb235, 0, none⟩ = some (.int .i64 a0_0) := (blk_cell BK235.out 0).trans rfl; have hcz49_1 : wr.cell? ⟨gb235, 1, none⟩ = some (.int .i64 a0_1) := (blk_cell BK235.out 1).trans rfl; have hcz49_2 : wr.cell? ⟨gb235, 2, none⟩ = some (.slice A0_2 l0_2.length c0_2) := (blk_cell BK235.out 2).trans rfl; have hcz49_3 : wr.cell? ⟨gb235, 3, none⟩ = some (.slice A0_3 l0_3.length c0_3) := (blk_cell BK235.out 3).trans rfl; have hfz49_0 := blk_frozen BK235.out 0; have hfz49_1 := blk_frozen BK235.out 1; have hfz49_2 := blk_frozen BK235.out 2; have hfz49_3 := blk_frozen BK235.out 3; go_wp2; go_ret2; (exact ⟨by first | rfl | (simp [errW_none, errW_some] <;> rfl) | (simp [*, errW_none, errW_some] <;> rfl), (Bg GE235.out)⟩)
          · rw [if_neg c9] at H
            exact absurd H (by simp)
        · rw [if_neg c8] at H
          exact absurd H (by simp)
      · rw [if_neg c6] at H
        exact absurd H (by simp)
    · rw [if_neg c5] at H
      exact absurd H (by simp)
  · rw [if_neg c3] at H
    have c3b0 : (t236 == 0) = false := beq_eq_false_iff_ne.mpr c3; have c3b1 : (t236 != 0) = true := bne_iff_ne.mpr c3; simp only [Option.some.injEq, Prod.mk.injEq] at H; obtain ⟨rfl, rfl⟩ := H; go_enter Tryd.func7, Tryd.ntmps7; (go_wp2_with (first | ((with_reducible refine gate_dst (N := 1) rfl ?_); refine box_event ?hg (N := 1) ?hd (cs := #[.int .i64 a0_0, .int .i64 a0_1, .slice A0_2 l0_2.length c0_2, .slice A0_3 l0_3.length c0_3]) (t := 25) ?hr ?_; (case hd => rfl); (case hg => rfl); (case hr => first | (go_simp; done) | (go_simp; rfl)); intro gb235 hg w50 hbox hb; have n0_ := Aside0.mk (below_step Bq hb); have n1_ := Aside0.mk (hbox); have n2_ := Aside0.mk ((by rw [hg]; exact (below_size Bq) : w.heap.size ≤ gb235)); have n3_ := Aside0.mk ((by rw [hg]; exact (below_size Bq) : w.heap.size ≤ gb235)); clear HB; have HB := n0_; have BK235 := n1_; have GW235 := n2_; have GE235 := n3_; clear n0_ n1_ n2_ n3_; clear hb hbox hg; have hcz51_0 : w50.cell? ⟨gb235, 0, none⟩ = some (.int .i64 a0_0) := (blk_cell BK235.out 0).trans rfl; have hcz51_1 : w50.cell? ⟨gb235, 1, none⟩ = some (.int .i64 a0_1) := (blk_cell BK235.out 1).trans rfl; have hcz51_2 : w50.cell? ⟨gb235, 2, none⟩ = some (.slice A0_2 l0_2.length c0_2) := (blk_cell BK235.out 2).trans rfl; have hcz51_3 : w50.cell? ⟨gb235, 3, none⟩ = some (.slice A0_3 l0_3.length c0_3) := (blk_cell BK235.out 3).trans rfl; have hfz51_0 := blk_frozen BK235.out 0; have hfz51_1 := blk_frozen BK235.out 1; have hfz51_2 := blk_frozen BK235.out 2; have hfz51_3 := blk_frozen BK235.out 3) | ((with_reducible refine gate_callee (f := 18) rfl ?_); refine goesL_ (some 10) rfl rfl Tryd.func18 (by kernel_rfl) rfl #[.agg #[.int .i64 a0_0, .int .i64 a0_1, .slice A0_2 l0_2.length c0_2, .slice A0_3 l0_3.length c0_3]] rfl Mp ?_; (with_reducible refine (wigmakerref03_Validate.calls k a0_0 a0_1 _ _ l0_2 _ _ l0_3 t236 _ ?side1 ?side2 ?side3 ?side4 A2.out).mono ?_); (case side1 => repeat (first | exact (Kd.C_below HR0_2.out HB.out) | (with_reducible refine Kd.C_alloc ?_ _) | (with_reducible refine Kd.C_drewN ?_ _) | (with_reducible refine Kd.C_drew ?_))); (case side2 => exact HC0_2.out); (case side3 => repeat (first | exact (Kd.C_below HR0_3.out HB.out) | (with_reducible refine Kd.C_alloc ?_ _) | (with_reducible refine Kd.C_drewN ?_ _) | (with_reducible refine Kd.C_drew ?_))); (case side4 => exact HC0_3.out); rintro e w52 ⟨rfl, hb⟩; refine ⟨_, rfl, ?_⟩; have n0_ := Aside0.mk (blk_below (g := gb235) (o := .cells #[.int .i64 a0_0, .int .i64 a0_1, .slice A0_2 l0_2.length c0_2, .slice A0_3 l0_3.length c0_3] 25 (0, 0)) (Bk BK235.out) hb); have n1_ := Aside0.mk (below_step (Bg GE235.out) hb); clear BK235; clear HB; have BK235 := n0_; have HB := n1_; clear n0_ n1_; (try clear hb); (try clear hb2); (try clear hk); (try clear hi)))); go_ret2; (exact ⟨by first | rfl | (simp [errW_none, errW_some] <;> rfl) | (simp [*, errW_none, errW_some] <;> rfl), (Bg GE235.out)⟩)
end Go.Proofs.YtfpikmeiooangaaDoor.PFlowTexts
end
section
namespace Go.Proofs.YtfpikmeiooangaaDoor.PFlowTexts
open Go.RowKit Go.Proofs.YtfpikmeiooangaaDoorW.PrintWords Go.Proofs.YtfpikmeiooangaaDoorW.PrintLast Go.Proofs.YtfpikmeiooangaaDoorW.PrintMore
def wigmakerref01_Words.l0 : Nat → ByteArray → Int → List ByteArray → Int → Int → Option (List ByteArray)
  | 0, _, _, _, _, _ => none
  | k + 1, x0, x1, x5, x6, x7 => if x7 < (x0.size : Int) then (if 0 ≤ x7 then (if (bt x0 x7) = x1 then (if 0 ≤ x6 then (if x6 ≤ x7 then (if x7 ≤ (x0.size : Int) then (if x5.length < 8796093022208 then (wigmakerref01_Words.l0 k x0 x1 (x5 ++ [x0.extract (x6 : Int).toNat (x7 : Int).toNat]) (wrap64 (x7 + 1)) (wrap64 (x7 + 1))) else (none)) else (none)) else (none)) else (none)) else (wigmakerref01_Words.l0 k x0 x1 x5 x6 (wrap64 (x7 + 1)))) else (none)) else (if 0 ≤ x6 then (if x6 ≤ (x0.size : Int) then (if x5.length < 8796093022208 then (some (x5 ++ [x0.extract (x6 : Int).toNat x0.size])) else (none)) else (none)) else (none))
def wigmakerref01_Words.f (k : Nat) (a0 : ByteArray) (a1 : Int) : Option (List ByteArray) := wigmakerref01_Words.l0 k a0 a1 ([] : List ByteArray) 0 0
set_option maxHeartbeats 8000000 in
set_option maxRecDepth 100000 in
theorem wigmakerref01_Words.calls (k : Nat) (a0 : ByteArray) (a1 : Int) (r : List ByteArray) (w : World) (h : wigmakerref01_Words.f k a0 a1 = some r) :
    Calls Tryd.prog 23 #[.string a0, .int .u8 a1] w fun e w' => ∃ v0_ : Value, e = .returned (v0_) ∧ Kd.R Kd.string 9 w' w.heap.size (fun _ => True) v0_ r ∧ Below w.heap.size w w' := by
  have HB := Aside0.mk (Below.refl w.heap.size w); have H : (wigmakerref01_Words.l0 k a0 a1 ([] : List ByteArray) 0 0) = some r := h; clear h; have H' := Aside0.mk H; clear H; go_enter Tryd.func23, Tryd.ntmps23; go_wp2; (go_loopg [5, 6, 7] k (fun kq v5 v6 v7 w' => ∃ (x5_1 : List ByteArray) (x6_1 : Int) (x7_1 : Int), v6 = .int .i64 x6_1 ∧ v7 = .int .i64 x7_1 ∧ Aside0 (wigmakerref01_Words.l0 kq a0 a1 x5_1 x6_1 x7_1 = some r) ∧ Aside0 (kq ≤ k) ∧ Aside0 (Kd.R Kd.string 9 w' w.heap.size (fun _ => True) v5 x5_1) ∧ Aside0 (Below w.heap.size w w')))
  case atStart => exact ⟨(([] : List ByteArray)), (0), (0), Rf, Rf, H', ⟨Nat.le_refl _⟩, ⟨by first | exact Kd.R_nil _ _ _ _ _ | exact Kd.N_nil _ _ _ _ _ | exact Kd.V_nil _ _ _ _ _ | exact Kd.Q_nil _ _ _ _ _ | exact Kd.S_nil _ _ _ _ _⟩, ⟨Bq⟩⟩
  case round =>
    clear H'; (try clear c2); (try clear p2); obtain ⟨x5_1, x6_1, x7_1, rfl, rfl, HA, HK1, HO_5, HB⟩ := hrel
    cases gk with
    | zero => exact absurd HA.out (by simp [wigmakerref01_Words.l0])
    | succ k1 =>
      have H := HA.out; clear HA; simp only [wigmakerref01_Words.l0] at H; by_cases c3 : x7_1 < (a0.size : Int)
      · rw [if_pos c3] at H
        have c3b0 : decide (x7_1 < (a0.size : Int)) = true := decide_eq_true c3; clear c3; by_cases c4 : 0 ≤ x7_1
        · rw [if_pos c4] at H
          have c4b0 : decide (0 ≤ x7_1) = true := decide_eq_true c4; clear c4; by_cases c6 : (bt a0 x7_1) = a1
          · rw [if_pos c6] at H
            have c6b0 : ((bt a0 x7_1) == a1) = true := beq_iff_eq.mpr c6; have c6b1 : ((bt a0 x7_1) != a1) = false := bne_eq_false_iff_eq.mpr c6; clear c6; by_cases c7 : 0 ≤ x6_1
            · rw [if_pos c7] at H
              have c7b0 := eq_true c7; have c7b1 : decide (0 ≤ x6_1) = true := decide_eq_true c7; clear c7; by_cases c8 : x6_1 ≤ x7_1
              · rw [if_pos c8] at H
                have c8b0 := eq_true c8; have c8b1 : decide (x6_1 ≤ x7_1) = true := decide_eq_true c8; clear c8; by_cases c9 : x7_1 ≤ (a0.size : Int)
                · rw [if_pos c9] at H
                  have c9b0 := eq_true c9; have c9b1 : decide (x7_1 ≤ (a0.size : Int)) = true := decide_eq_true c9; clear c9; by_cases c10 : x5_1.length < 8796093022208
                  · rw [if_pos c10] at H
                    have LMc10 := Aside0.mk c10; clear c10; obtain ⟨y253, hy253⟩ : ∃ y_ : List ByteArray, y_ = (x5_1 ++ [a0.extract (x6_1 : Int).toNat (x7_1 : Int).toNat]) := ⟨_, rfl⟩; (replace H : (wigmakerref01_Words.l0 k1 a0 a1 y253 (wrap64 (x7_1 + 1)) (wrap64 (x7_1 + 1))) = some r := by first | (rw [hy253]; with_reducible exact H) | (have H2_ := (Option.bind_some _ _).symm.trans H; rw [hy253]; with_reducible exact H2_) | (have H2_ := (Option.bind_some _ _).symm.trans H; with_reducible exact H2_) | with_reducible exact H | (rw [hy253]; exact H) | exact H); have Ny253 := Aside0.mk hy253; clear hy253; have H' := Aside0.mk H; clear H; (have p5 : 0 ≤ (x7_1 : Int) := of_decide_eq_true (by first | (with_reducible assumption) | assumption)); (have q5 : x7_1 < (a0.size : Int) := of_decide_eq_true (by first | (with_reducible assumption) | assumption)); have hx5 := bt_at a0 x7_1; replace p5 := eq_true p5; replace q5 := eq_true q5; (go_wp2_with (first | ((with_reducible refine gate_builtin (b := .append) (xs := #[.tmp 19, .tmp 24]) rfl ?_); at_builtin; refine Kd.R_append Kd.string (w0 := w) w.heap.size rfl (.tmp 19) (.tmp 24) 52 9 (.string ⟨#[]⟩) 16 rfl Tryd.underlying52 info9 rfl (by decide) (by omega) u5 x5_1 (a0.extract (x6_1 : Int).toNat (x7_1 : Int).toNat) [.string (a0.extract (x6_1 : Int).toNat (x7_1 : Int).toNat)] (fun _ => True) (fun _ => False) rfl rfl ?aP (fun _ hk => hk.elim) ?aF ?aO ?aB ?aS ?aL ?_; (case aP => exact rfl); (case aB => exact Bq); (case aF => exact (fun _ _ => trivial)); (case aO => exact (by (with_reducible repeat (first | apply Kd.R_alloc | apply Kd.R_drewN | apply Kd.R_drew)); exact HO_5.out)); (case aS => exact (below_size Bq)); (case aL => have := LMc10.out; omega); intro v254 w11 ho hb hg hat; rw [← Ny253.out] at ho; have n0_ := Aside0.mk (hb); have n1_ := Aside0.mk (ho); clear HB; clear HO_5; have HB := n0_; have HO255 := n1_; clear n0_ n1_; clear ho hb hg hat))); go_roundg k1
                    case measure => have := HK1.out; omega
                    case rel => exact ⟨(y253), (wrap64 (x7_1 + 1)), (wrap64 (x7_1 + 1)), Rf, Rf, H', ⟨by have := HK1.out; omega⟩, ⟨by (with_reducible repeat (first | apply Kd.R_alloc | apply Kd.R_drewN | apply Kd.R_drew)); exact HO255.out⟩, ⟨Bq⟩⟩
                  · rw [if_neg c10] at H
                    exact absurd H (by simp)
                · rw [if_neg c9] at H
                  exact absurd H (by simp)
              · rw [if_neg c8] at H
                exact absurd H (by simp)
            · rw [if_neg c7] at H
              exact absurd H (by simp)
          · rw [if_neg c6] at H
            have c6b0 : ((bt a0 x7_1) == a1) = false := beq_eq_false_iff_ne.mpr c6; have c6b1 : ((bt a0 x7_1) != a1) = true := bne_iff_ne.mpr c6; have H' := Aside0.mk H; clear H; (have p5 : 0 ≤ (x7_1 : Int) := of_decide_eq_true (by first | (with_reducible assumption) | assumption)); (have q5 : x7_1 < (a0.size : Int) := of_decide_eq_true (by first | (with_reducible assumption) | assumption)); have hx5 := bt_at a0 x7_1; replace p5 := eq_true p5; replace q5 := eq_true q5; go_wp2; go_roundg k1
            case measure => have := HK1.out; omega
            case rel => exact ⟨(x5_1), (x6_1), (wrap64 (x7_1 + 1)), Rf, Rf, H', ⟨by have := HK1.out; omega⟩, ⟨by (with_reducible repeat (first | apply Kd.R_alloc | apply Kd.R_drewN | apply Kd.R_drew)); exact HO_5.out⟩, ⟨Bq⟩⟩
        · rw [if_neg c4] at H
          exact absurd H (by simp)
      · rw [if_neg c3] at H
        have c3b0 : decide (x7_1 < (a0.size : Int)) = false := decide_eq_false c3; clear c3; by_cases c12 : 0 ≤ x6_1
        · rw [if_pos c12] at H
          have c12b0 := eq_true c12; have c12b1 : decide (0 ≤ x6_1) = true := decide_eq_true c12; clear c12; by_cases c13 : x6_1 ≤ (a0.size : Int)
          · rw [if_pos c13] at H
            have c13b0 := eq_true c13; have c13b1 : decide (x6_1 ≤ (a0.size : Int)) = true := decide_eq_true c13; clear c13; by_cases c14 : x5_1.length < 8796093022208
            · rw [if_pos c14] at H
              have LMc14 := Aside0.mk c14; clear c14; obtain ⟨y256, hy256⟩ : ∃ y_ : List ByteArray, y_ = (x5_1 ++ [a0.extract (x6_1 : Int).toNat a0.size]) := ⟨_, rfl⟩; (replace H : (some y256) = some r := by first | (rw [hy256]; with_reducible exact H) | (have H2_ := (Option.bind_some _ _).symm.trans H; rw [hy256]; with_reducible exact H2_) | (have H2_ := (Option.bind_some _ _).symm.trans H; with_reducible exact H2_) | with_reducible exact H | (rw [hy256]; exact H) | exact H); have Ny256 := Aside0.mk hy256; clear hy256; obtain rfl := Option.some.inj H; (go_wp2_with (first | ((with_reducible refine gate_builtin (b := .append) (xs := #[.tmp 28, .tmp 32]) rfl ?_); at_builtin; refine Kd.R_append Kd.string (w0 := w) w.heap.size rfl (.tmp 28) (.tmp 32) 52 9 (.string ⟨#[]⟩) 16 rfl Tryd.underlying52 info9 rfl (by decide) (by omega) u5 x5_1 (a0.extract (x6_1 : Int).toNat a0.size) [.string (a0.extract (x6_1 : Int).toNat a0.size)] (fun _ => True) (fun _ => False) rfl rfl ?aP (fun _ hk => hk.elim) ?aF ?aO ?aB ?aS ?aL ?_; (case aP => exact rfl); (case aB => exact Bq); (case aF => exact (fun _ _ => trivial)); (case aO => exact (by (with_reducible repeat (first | apply Kd.R_alloc | apply Kd.R_drewN | apply Kd.R_drew)); exact HO_5.out)); (case aS => exact (below_size Bq)); (case aL => have := LMc14.out; omega); intro v257 w15 ho hb hg hat; rw [← Ny256.out] at ho; have n0_ := Aside0.mk (hb); have n1_ := Aside0.mk (ho); clear HB; clear HO_5; have HB := n0_; have HO258 := n1_; clear n0_ n1_; clear ho hb hg hat))); go_ret; (exact ⟨_, by first | rfl | (simp [errW_none, errW_some] <;> rfl) | (simp [*, errW_none, errW_some] <;> rfl), by (with_reducible repeat (first | apply Kd.R_alloc | apply Kd.R_drewN | apply Kd.R_drew)); exact HO258.out, Bq⟩)
            · rw [if_neg c14] at H
              exact absurd H (by simp)
          · rw [if_neg c13] at H
            exact absurd H (by simp)
        · rw [if_neg c12] at H
          exact absurd H (by simp)
end Go.Proofs.YtfpikmeiooangaaDoor.PFlowTexts
end
section
namespace Go.Proofs.YtfpikmeiooangaaDoor.PFlowTexts
open Go.RowKit Go.Proofs.YtfpikmeiooangaaDoorW.PrintWords Go.Proofs.YtfpikmeiooangaaDoorW.PrintLast Go.Proofs.YtfpikmeiooangaaDoorW.PrintMore
def wigmakerref01_Number.l0 : Nat → ByteArray → Int → Int → Option (Int)
  | 0, _, _, _ => none
  | k + 1, x0, x3, x4 => if x4 < (x0.size : Int) then (if 0 ≤ x4 then (if (bt x0 x4) < 48 then (some (-1)) else (if (bt x0 x4) > 57 then (some (-1)) else (if x4 = 9 then (some (-1)) else (wigmakerref01_Number.l0 k x0 (wrap64 ((wrap64 (10 * x3)) + (((bt x0 x4) - 48) % 256))) (wrap64 (x4 + 1)))))) else (none)) else (if x0.toList = ([] : List UInt8) then (some (-1)) else ((wigmakerref01_Digits.f k x3).bind fun t259 => (if t259.toList = x0.toList then (some x3) else (some (-1)))))
def wigmakerref01_Number.f (k : Nat) (a0 : ByteArray) : Option (Int) := wigmakerref01_Number.l0 k a0 0 0
set_option maxHeartbeats 8000000 in
set_option maxRecDepth 100000 in
theorem wigmakerref01_Number.calls (k : Nat) (a0 : ByteArray) (r : Int) (w : World) (h : wigmakerref01_Number.f k a0 = some r) :
    Calls Tryd.prog 24 #[.string a0] w fun e w' => e = .returned (.int .i64 r) ∧ Drawn0 w w' := by
  have H : (wigmakerref01_Number.l0 k a0 0 0) = some r := h; clear h; have H' := Aside0.mk H; clear H; go_enter Tryd.func24, Tryd.ntmps24; go_wp2; (go_loopg [3, 4] k (fun kq v3 v4 w' => ∃ (x3_1 : Int) (x4_1 : Int), v3 = .int .i64 x3_1 ∧ v4 = .int .i64 x4_1 ∧ Aside0 (wigmakerref01_Number.l0 kq a0 x3_1 x4_1 = some r) ∧ Aside0 (kq ≤ k) ∧ Drawn0 w w'))
  case atStart => exact ⟨(0), (0), Rf, Rf, H', ⟨Nat.le_refl _⟩, by repeat (first | exact Drawn0.refl _ | apply Drawn0.step)⟩
  case round =>
    clear H'; obtain ⟨x3_1, x4_1, rfl, rfl, HA, HK1, ⟨m1, rfl⟩⟩ := hrel
    cases gk with
    | zero => exact absurd HA.out (by simp [wigmakerref01_Number.l0])
    | succ k1 =>
      have H := HA.out; clear HA; simp only [wigmakerref01_Number.l0] at H; by_cases c2 : x4_1 < (a0.size : Int)
      · rw [if_pos c2] at H
        have c2b0 : decide (x4_1 < (a0.size : Int)) = true := decide_eq_true c2; clear c2; by_cases c3 : 0 ≤ x4_1
        · rw [if_pos c3] at H
          have c3b0 : decide (0 ≤ x4_1) = true := decide_eq_true c3; clear c3; by_cases c5 : (bt a0 x4_1) < 48
          · rw [if_pos c5] at H
            have c5b0 : decide ((bt a0 x4_1) < 48) = true := decide_eq_true c5; clear c5; obtain rfl := Option.some.inj H; (have p4 : 0 ≤ (x4_1 : Int) := of_decide_eq_true (by first | (with_reducible assumption) | assumption)); (have q4 : x4_1 < (a0.size : Int) := of_decide_eq_true (by first | (with_reducible assumption) | assumption)); have hx4 := bt_at a0 x4_1; replace p4 := eq_true p4; replace q4 := eq_true q4; go_wp2; go_ret; (exact ⟨by first | rfl | (simp; done) | (simp [*]; done), by repeat (first | exact Drawn0.refl _ | apply Drawn0.step)⟩)
          · rw [if_neg c5] at H
            have c5b0 : decide ((bt a0 x4_1) < 48) = false := decide_eq_false c5; clear c5; by_cases c7 : (bt a0 x4_1) > 57
            · rw [if_pos c7] at H
              have c7b0 : decide (57 < (bt a0 x4_1)) = true := decide_eq_true c7; clear c7; obtain rfl := Option.some.inj H; (have p4 : 0 ≤ (x4_1 : Int) := of_decide_eq_true (by first | (with_reducible assumption) | assumption)); (have q4 : x4_1 < (a0.size : Int) := of_decide_eq_true (by first | (with_reducible assumption) | assumption)); have hx4 := bt_at a0 x4_1; replace p4 := eq_true p4; replace q4 := eq_true q4; (have p6 : 0 ≤ (x4_1 : Int) := of_decide_eq_true (by first | (with_reducible assumption) | assumption)); (have q6 : x4_1 < (a0.size : Int) := of_decide_eq_true (by first | (with_reducible assumption) | assumption)); have hx6 := bt_at a0 x4_1; replace p6 := eq_true p6; replace q6 := eq_true q6; go_wp2; go_ret; (exact ⟨by first | rfl | (simp; done) | (simp [*]; done), by repeat (first | exact Drawn0.refl _ | apply Drawn0.step)⟩)
            · rw [if_neg c7] at H
              have c7b0 : decide (57 < (bt a0 x4_1)) = false := decide_eq_false c7; clear c7; by_cases c8 : x4_1 = 9
              · rw [if_pos c8] at H
                have c8b0 : (x4_1 == 9) = true := beq_iff_eq.mpr c8; have c8b1 : (x4_1 != 9) = false := bne_eq_false_iff_eq.mpr c8; clear c8; obtain rfl := Option.some.inj H; (have p4 : 0 ≤ (x4_1 : Int) := of_decide_eq_true (by first | (with_reducible assumption) | assumption)); (have q4 : x4_1 < (a0.size : Int) := of_decide_eq_true (by first | (with_reducible assumption) | assumption)); have hx4 := bt_at a0 x4_1; replace p4 := eq_true p4; replace q4 := eq_true q4; (have p6 : 0 ≤ (x4_1 : Int) := of_decide_eq_true (by first | (with_reducible assumption) | assumption)); (have q6 : x4_1 < (a0.size : Int) := of_decide_eq_true (by first | (with_reducible assumption) | assumption)); have hx6 := bt_at a0 x4_1; replace p6 := eq_true p6; replace q6 := eq_true q6; go_wp2; go_ret; (exact ⟨by first | rfl | (simp; done) | (simp [*]; done), by repeat (first | exact Drawn0.refl _ | apply Drawn0.step)⟩)
              · rw [if_neg c8] at H
                have c8b0 : (x4_1 == 9) = false := beq_eq_false_iff_ne.mpr c8; have c8b1 : (x4_1 != 9) = true := bne_iff_ne.mpr c8; have H' := Aside0.mk H; clear H; (have p4 : 0 ≤ (x4_1 : Int) := of_decide_eq_true (by first | (with_reducible assumption) | assumption)); (have q4 : x4_1 < (a0.size : Int) := of_decide_eq_true (by first | (with_reducible assumption) | assumption)); have hx4 := bt_at a0 x4_1; replace p4 := eq_true p4; replace q4 := eq_true q4; (have p6 : 0 ≤ (x4_1 : Int) := of_decide_eq_true (by first | (with_reducible assumption) | assumption)); (have q6 : x4_1 < (a0.size : Int) := of_decide_eq_true (by first | (with_reducible assumption) | assumption)); have hx6 := bt_at a0 x4_1; replace p6 := eq_true p6; replace q6 := eq_true q6; (have p9 : 0 ≤ (x4_1 : Int) := of_decide_eq_true (by first | (with_reducible assumption) | assumption)); (have q9 : x4_1 < (a0.size : Int) := of_decide_eq_true (by first | (with_reducible assumption) | assumption)); have hx9 := bt_at a0 x4_1; replace p9 := eq_true p9; replace q9 := eq_true q9; go_wp2; go_roundg k1
                case measure => have := HK1.out; omega
                case rel => exact ⟨(wrap64 ((wrap64 (10 * x3_1)) + (((bt a0 x4_1) - 48) % 256))), (wrap64 (x4_1 + 1)), Rf, Rf, H', ⟨by have := HK1.out; omega⟩, by repeat (first | exact Drawn0.refl _ | apply Drawn0.step)⟩
        · rw [if_neg c3] at H
          exact absurd H (by simp)
      · rw [if_neg c2] at H
        have c2b0 : decide (x4_1 < (a0.size : Int)) = false := decide_eq_false c2; clear c2; by_cases c10 : a0.toList = ([] : List UInt8)
        · rw [if_pos c10] at H
          have c10b0 : (a0.toList == ([] : List UInt8)) = true := beq_iff_eq.mpr c10; have c10b1 : (a0.toList != ([] : List UInt8)) = false := bne_eq_false_iff_eq.mpr c10; clear c10; obtain rfl := Option.some.inj H; go_wp2; go_ret; (exact ⟨by first | rfl | (simp; done) | (simp [*]; done), by repeat (first | exact Drawn0.refl _ | apply Drawn0.step)⟩)
        · rw [if_neg c10] at H
          have c10b0 : (a0.toList == ([] : List UInt8)) = false := beq_eq_false_iff_ne.mpr c10; have c10b1 : (a0.toList != ([] : List UInt8)) = true := bne_iff_ne.mpr c10; replace H := Option.bind_eq_some_iff.mp H; obtain ⟨t259, A110, H⟩ := H; replace H : (if t259.toList = a0.toList then (some x3_1) else (some (-1))) = some r := H; have A11 := Aside0.mk A110; clear A110; by_cases c12 : t259.toList = a0.toList
          · rw [if_pos c12] at H
            have c12b0 : (t259.toList == a0.toList) = true := beq_iff_eq.mpr c12; have c12b1 : (t259.toList != a0.toList) = false := bne_eq_false_iff_eq.mpr c12; clear c12; obtain rfl := Option.some.inj H; go_wp2_with (first | (go_at_call 19; (with_reducible refine (wigmakerref01_Digits.calls k1 x3_1 t259 _ A11.out).mono ?_); rintro e w' ⟨rfl, ⟨nd, rfl⟩⟩)); go_ret; (exact ⟨by first | rfl | (simp; done) | (simp [*]; done), by repeat (first | exact Drawn0.refl _ | apply Drawn0.step)⟩)
          · rw [if_neg c12] at H
            have c12b0 : (t259.toList == a0.toList) = false := beq_eq_false_iff_ne.mpr c12; have c12b1 : (t259.toList != a0.toList) = true := bne_iff_ne.mpr c12; obtain rfl := Option.some.inj H; go_wp2_with (first | (go_at_call 19; (with_reducible refine (wigmakerref01_Digits.calls k1 x3_1 t259 _ A11.out).mono ?_); rintro e w' ⟨rfl, ⟨nd, rfl⟩⟩)); go_ret; (exact ⟨by first | rfl | (simp; done) | (simp [*]; done), by repeat (first | exact Drawn0.refl _ | apply Drawn0.step)⟩)
end Go.Proofs.YtfpikmeiooangaaDoor.PFlowTexts
end
