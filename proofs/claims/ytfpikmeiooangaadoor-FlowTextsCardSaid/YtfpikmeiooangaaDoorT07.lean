/- A part of a proof: PFlowTextsx46, LTurn, PFlowTextsx8, PFlowTextsx43, LEdges. -/
import Derived.Test.YtfpikmeiooangaaDoorT04
import Derived.Test.YtfpikmeiooangaaDoorT06
import Derived.Test.YtfpikmeiooangaaDoorT05
set_option linter.unusedVariables false
set_option linter.unusedSimpArgs false
section
namespace Go.Proofs.YtfpikmeiooangaaDoor.PFlowTexts
open Go.RowKit Go.Proofs.YtfpikmeiooangaaDoorW.PrintWords Go.Proofs.YtfpikmeiooangaaDoorW.PrintLast Go.Proofs.YtfpikmeiooangaaDoorW.PrintMore
mutual
def wigmakerref03_turning.j0 : Nat → Int → Option (Int)
  | 0, _ => none
  | k + 1, x5 => wigmakerref03_turning.l0 k x5
def wigmakerref03_turning.l0 : Nat → Int → Option (Int)
  | 0, _ => none
  | k + 1, x5 => if x5 > 4 then (wigmakerref03_turning.l0 k (wrap64 (x5 - 8))) else (wigmakerref03_turning.l1 k x5)
def wigmakerref03_turning.l1 : Nat → Int → Option (Int)
  | 0, _ => none
  | k + 1, x5 => if x5 < (-3) then (wigmakerref03_turning.l1 k (wrap64 (x5 + 8))) else (some x5)
end
def wigmakerref03_turning.f (k : Nat) (a0_0 : Int) (a0_1 : Int) (l0_2 : List Int) (l0_3 : List (S50)) (a1_0 : Int) (a1_1 : Int) (a1_2 : Int) : Option (Int) := (wigmakerref03_at.f a0_0 a0_1 l0_2 l0_3 (wrap64 ((wrap64 (a1_0 + 1)) - a1_2)) (wrap64 (a1_1 + a1_2))).bind fun t215 => ((wigmakerref03_at.f a0_0 a0_1 l0_2 l0_3 a1_0 a1_1).bind fun t216 => ((wigmakerref03_parted.f k a0_0 a0_1 l0_2 l0_3 a1_0 a1_1 a1_2).bind fun t217 => (if t217 = true then (wigmakerref03_turning.j0 k (wrap64 ((wrap64 (t215 - t216)) + 4))) else (wigmakerref03_turning.j0 k (wrap64 (t215 - t216))))))
def wigmakerref03_turning.T1 : Bool × List (List Nat × List Nat) := (true, [([], []), ([], []), ([1], [1]), ([2], [2]), ([], []), ([4], [4]), ([3, 5], [3, 5]), ([], []), ([7], [7]), ([], []), ([9], [9]), ([8, 10], [8, 10]), ([0, 6, 11], [0, 6, 11]), ([], []), ([], []), ([14], [14]), ([], []), ([16], [16]), ([13, 15, 17, 12], [13, 15, 17]), ([12, 18], [12, 18]), ([19, 18, 0, 1, 2, 3, 4, 5, 6, 7, 8, 9, 10, 11, 12, 13, 14, 15, 16, 17, 18, 19], [19])])
def wigmakerref03_turning.B1 : List Nat := [0, 0, 2, 6, 0, 16, 62, 0, 128, 0, 512, 1920, 4095, 0, 0, 16384, 0, 65536, 262143, 524287, 1048575]
theorem wigmakerref03_turning.tab1 : rtab .any (opsOf Tryd.f38 1) = wigmakerref03_turning.T1 := by kernel_rfl
theorem wigmakerref03_turning.bits1 : waitsOk wigmakerref03_turning.T1.2 wigmakerref03_turning.B1 = true := by kernel_rfl
set_option maxHeartbeats 8000000 in
set_option maxRecDepth 100000 in
theorem wigmakerref03_turning.calls (k : Nat) (a0_0 : Int) (a0_1 : Int) (A0_2 : Option Addr) (c0_2 : Nat) (l0_2 : List Int) (A0_3 : Option Addr) (c0_3 : Nat) (l0_3 : List (S50)) (a1_0 : Int) (a1_1 : Int) (a1_2 : Int) (r : Int) (w : World) (hr0_2 : Kd.C (Kd.int .i64) w A0_2 l0_2.length l0_2) (hc0_2 : l0_2.length ≤ c0_2) (hr0_3 : Kd.C k50 w A0_3 l0_3.length l0_3) (hc0_3 : l0_3.length ≤ c0_3) (h : wigmakerref03_turning.f k a0_0 a0_1 l0_2 l0_3 a1_0 a1_1 a1_2 = some r) :
    Calls Tryd.prog 38 #[.agg #[.int .i64 a0_0, .int .i64 a0_1, .slice A0_2 l0_2.length c0_2, .slice A0_3 l0_3.length c0_3], .agg #[.int .i64 a1_0, .int .i64 a1_1, .int .i64 a1_2]] w fun e w' => e = .returned (.int .i64 r) ∧ Below w.heap.size w w' := by
  have hu25 := Tryd.underlying25; have hu50 := Tryd.underlying50; have HR0_2 := Aside0.mk hr0_2; have HC0_2 := Aside0.mk hc0_2; clear hr0_2 hc0_2; have HR0_3 := Aside0.mk hr0_3; have HC0_3 := Aside0.mk hc0_3; clear hr0_3 hc0_3; have HB := Aside0.mk (Below.refl w.heap.size w); (have H : ((wigmakerref03_at.f a0_0 a0_1 l0_2 l0_3 (wrap64 ((wrap64 (a1_0 + 1)) - a1_2)) (wrap64 (a1_1 + a1_2))).bind fun t215 => ((wigmakerref03_at.f a0_0 a0_1 l0_2 l0_3 a1_0 a1_1).bind fun t216 => ((wigmakerref03_parted.f k a0_0 a0_1 l0_2 l0_3 a1_0 a1_1 a1_2).bind fun t217 => (if t217 = true then (wigmakerref03_turning.j0 k (wrap64 ((wrap64 (t215 - t216)) + 4))) else (wigmakerref03_turning.j0 k (wrap64 (t215 - t216))))))) = some r := h); clear h; replace H := Option.bind_eq_some_iff.mp H; obtain ⟨t215, A30, H⟩ := H; (replace H : ((wigmakerref03_at.f a0_0 a0_1 l0_2 l0_3 a1_0 a1_1).bind fun t216 => ((wigmakerref03_parted.f k a0_0 a0_1 l0_2 l0_3 a1_0 a1_1 a1_2).bind fun t217 => (if t217 = true then (wigmakerref03_turning.j0 k (wrap64 ((wrap64 (t215 - t216)) + 4))) else (wigmakerref03_turning.j0 k (wrap64 (t215 - t216)))))) = some r := H); have A3 := Aside0.mk A30; clear A30; replace H := Option.bind_eq_some_iff.mp H; obtain ⟨t216, A40, H⟩ := H; (replace H : ((wigmakerref03_parted.f k a0_0 a0_1 l0_2 l0_3 a1_0 a1_1 a1_2).bind fun t217 => (if t217 = true then (wigmakerref03_turning.j0 k (wrap64 ((wrap64 (t215 - t216)) + 4))) else (wigmakerref03_turning.j0 k (wrap64 (t215 - t216))))) = some r := H); have A4 := Aside0.mk A40; clear A40; replace H := Option.bind_eq_some_iff.mp H; obtain ⟨t217, A50, H⟩ := H; replace H : (if t217 = true then (wigmakerref03_turning.j0 k (wrap64 ((wrap64 (t215 - t216)) + 4))) else (wigmakerref03_turning.j0 k (wrap64 (t215 - t216)))) = some r := H; have A5 := Aside0.mk A50; clear A50; have HC6 := Aside0.mk H; clear H; go_enter Tryd.func38, Tryd.ntmps38; (try go_wp2_with (first | ((with_reducible refine gate_dst (N := 2) rfl ?_); refine box_event ?hg (N := 2) ?hd (cs := #[.int .i64 a0_0, .int .i64 a0_1, .slice A0_2 l0_2.length c0_2, .slice A0_3 l0_3.length c0_3]) (t := 25) ?hr ?_; (case hd => rfl); (case hg => rfl); (case hr => first | (go_simp; done) | (go_simp; rfl)); intro gb213 hg w7 hbox hb; have n0_ := Aside0.mk (below_step Bq hb); have n1_ := Aside0.mk (hbox); have n2_ := Aside0.mk ((by rw [hg]; exact (below_size Bq) : w.heap.size ≤ gb213)); have n3_ := Aside0.mk ((by rw [hg]; exact (below_size Bq) : w.heap.size ≤ gb213)); clear HB; have HB := n0_; have BK213 := n1_; have GW213 := n2_; have GE213 := n3_; clear n0_ n1_ n2_ n3_; clear hb hbox hg) | ((with_reducible refine gate_dst (N := 3) rfl ?_); refine box_event ?hg (N := 3) ?hd (cs := #[.int .i64 a1_0, .int .i64 a1_1, .int .i64 a1_2]) (t := 50) ?hr ?_; (case hd => rfl); (case hg => rfl); (case hr => first | (go_simp; done) | (go_simp; rfl)); intro gb214 hg w8 hbox hb; have n0_ := Aside0.mk (blk_below (g := gb213) (o := .cells #[.int .i64 a0_0, .int .i64 a0_1, .slice A0_2 l0_2.length c0_2, .slice A0_3 l0_3.length c0_3] 25 (0, 0)) (Bk BK213.out) hb); have n1_ := Aside0.mk (below_step (Bg GE213.out) hb); have n2_ := Aside0.mk (hbox); have n3_ := Aside0.mk ((by rw [hg]; exact (below_size (Bg GE213.out)) : w.heap.size ≤ gb214)); have n4_ := Aside0.mk ((by rw [hg]; exact (below_size (Bg GE213.out)) : w.heap.size ≤ gb214)); have n5_ := Aside0.mk ((by rw [hg]; exact Nat.ne_of_lt (blk_lt (g := gb213) (o := .cells #[.int .i64 a0_0, .int .i64 a0_1, .slice A0_2 l0_2.length c0_2, .slice A0_3 l0_3.length c0_3] 25 (0, 0)) (Bk BK213.out)) : gb213 ≠ gb214)); have n6_ := Aside0.mk ((by rw [hg]; exact Nat.ne_of_gt (blk_lt (g := gb213) (o := .cells #[.int .i64 a0_0, .int .i64 a0_1, .slice A0_2 l0_2.length c0_2, .slice A0_3 l0_3.length c0_3] 25 (0, 0)) (Bk BK213.out)) : gb214 ≠ gb213)); clear BK213; clear HB; have BK213 := n0_; have HB := n1_; have BK214 := n2_; have GW214 := n3_; have GE214 := n4_; have NB213_214 := n5_; have NB214_213 := n6_; clear n0_ n1_ n2_ n3_ n4_ n5_ n6_; clear hb hbox hg)))
  have n0_ := Aside0.mk (blk_drew BK213.out); have n1_ := Aside0.mk (blk_drew BK214.out); have n2_ := Aside0.mk (below_drew1 HB.out); clear BK213; clear BK214; clear HB; have BK213 := n0_; have BK214 := n1_; have HB := n2_; clear n0_ n1_ n2_; (refine start_ (n := 21) (S := fun w' => w'.cell? ⟨gb213, 0, none⟩ = some (.int .i64 a0_0) ∧ w'.cell? ⟨gb213, 1, none⟩ = some (.int .i64 a0_1) ∧ w'.cell? ⟨gb213, 2, none⟩ = some (.slice A0_2 l0_2.length c0_2) ∧ w'.cell? ⟨gb213, 3, none⟩ = some (.slice A0_3 l0_3.length c0_3) ∧ w'.cell? ⟨gb214, 0, none⟩ = some (.int .i64 a1_0) ∧ w'.cell? ⟨gb214, 1, none⟩ = some (.int .i64 a1_1) ∧ w'.cell? ⟨gb214, 2, none⟩ = some (.int .i64 a1_2)) (ds := []) #[false, false, false, false, false, false, false, false, false, false, false, false, false, false, false, false, false, false, false, false, false] (by kernel_rfl) rfl rfl ⟨(blk_cell BK213.out 0).trans rfl, (blk_cell BK213.out 1).trans rfl, (blk_cell BK213.out 2).trans rfl, (blk_cell BK213.out 3).trans rfl, (blk_cell BK214.out 0).trans rfl, (blk_cell BK214.out 1).trans rfl, (blk_cell BK214.out 2).trans rfl⟩ (fun hHeld => ?_); refine with_tabW wigmakerref03_turning.tab1 wigmakerref03_turning.bits1 (fun HT_ HW_ => ?_)); generalize w8.drew = w9 at BK213 BK214 HB hHeld ⊢; (refine pure_ (i := 1) (N := some 7) (v := ?_) (a' := ?_) #[false, true, false, false, false, false, false, false, false, false, false, false, false, false, false, false, false, false, false, false, false] rfl rfl (any_of HT_.out (by kernel_rfl)) (fun _ _ _ h => h) (Or.inl ⟨by rfl, ?_⟩) ?_ ?_); rotate_left
  · intro w'
    go_simp; (with_reducible rfl)
  rotate_left
  · simp only [Act.put, List.setIfInBounds_toArray, List.set_cons_zero, List.set_cons_succ, i64_w, i32_w]
    rfl
  (refine pure_ (i := 4) (N := some 10) (v := ?_) (a' := ?_) #[false, true, false, false, true, false, false, false, false, false, false, false, false, false, false, false, false, false, false, false, false] rfl rfl (any_of HT_.out (by kernel_rfl)) (fun _ _ _ h => h) (Or.inl ⟨by rfl, ?_⟩) ?_ ?_); rotate_left
  · intro w'
    go_simp; (with_reducible rfl)
  rotate_left
  · simp only [Act.put, List.setIfInBounds_toArray, List.set_cons_zero, List.set_cons_succ, i64_w, i32_w]
    rfl
  (refine pure_ (i := 7) (N := some 13) (v := ?_) (a' := ?_) #[false, true, false, false, true, false, false, true, false, false, false, false, false, false, false, false, false, false, false, false, false] rfl rfl (any_of HT_.out (by kernel_rfl)) (fun _ _ _ h => h) (Or.inl ⟨by rfl, ?_⟩) ?_ ?_); rotate_left
  · intro w'
    go_simp; (with_reducible rfl)
  rotate_left
  · simp only [Act.put, List.setIfInBounds_toArray, List.set_cons_zero, List.set_cons_succ, i64_w, i32_w]
    rfl
  (refine pure_ (i := 9) (N := some 15) (v := ?_) (a' := ?_) #[false, true, false, false, true, false, false, true, false, true, false, false, false, false, false, false, false, false, false, false, false] rfl rfl (any_of HT_.out (by kernel_rfl)) (fun _ _ _ h => h) (Or.inl ⟨by rfl, ?_⟩) ?_ ?_); rotate_left
  · intro w'
    go_simp; (with_reducible rfl)
  rotate_left
  · simp only [Act.put, List.setIfInBounds_toArray, List.set_cons_zero, List.set_cons_succ, i64_w, i32_w]
    rfl
  (refine pure_ (i := 14) (N := some 20) (v := ?_) (a' := ?_) #[false, true, false, false, true, false, false, true, false, true, false, false, false, false, true, false, false, false, false, false, false] rfl rfl (any_of HT_.out (by kernel_rfl)) (fun _ _ _ h => h) (Or.inl ⟨by rfl, ?_⟩) ?_ ?_); rotate_left
  · intro w'
    go_simp; (with_reducible rfl)
  rotate_left
  · simp only [Act.put, List.setIfInBounds_toArray, List.set_cons_zero, List.set_cons_succ, i64_w, i32_w]
    rfl
  (refine pure_ (i := 16) (N := some 22) (v := ?_) (a' := ?_) #[false, true, false, false, true, false, false, true, false, true, false, false, false, false, true, false, true, false, false, false, false] rfl rfl (any_of HT_.out (by kernel_rfl)) (fun _ _ _ h => h) (Or.inl ⟨by rfl, ?_⟩) ?_ ?_); rotate_left
  · intro w'
    go_simp; (with_reducible rfl)
  rotate_left
  · simp only [Act.put, List.setIfInBounds_toArray, List.set_cons_zero, List.set_cons_succ, i64_w, i32_w]
    rfl
  (refine take_ (i := 0) (N := some 6) (v := ?_) (a' := ?_) #[true, true, false, false, true, false, false, true, false, true, false, false, false, false, true, false, true, false, false, false, false] rfl rfl (take_ofW HT_.out HW_.out (by kernel_rfl)) (fun _ _ _ h => h) (Or.inl ⟨by rfl, ?_⟩) hHeld ?_ ?_); rotate_left
  · rintro w' ⟨s0, s1, s2, s3, s4, s5, s6⟩
    go_simp; (with_reducible rfl)
  rotate_left
  · simp only [Act.put, List.setIfInBounds_toArray, List.set_cons_zero, List.set_cons_succ, i64_w, i32_w]
    rfl
  (refine take_ (i := 2) (N := some 8) (v := ?_) (a' := ?_) #[true, true, true, false, true, false, false, true, false, true, false, false, false, false, true, false, true, false, false, false, false] rfl rfl (take_ofW HT_.out HW_.out (by kernel_rfl)) (fun _ _ _ h => h) (Or.inl ⟨by rfl, ?_⟩) hHeld ?_ ?_); rotate_left
  · rintro w' ⟨s0, s1, s2, s3, s4, s5, s6⟩
    go_simp; (with_reducible rfl)
  rotate_left
  · simp only [Act.put, List.setIfInBounds_toArray, List.set_cons_zero, List.set_cons_succ, i64_w, i32_w]
    rfl
  (refine pure_ (i := 3) (N := some 9) (v := ?_) (a' := ?_) #[true, true, true, true, true, false, false, true, false, true, false, false, false, false, true, false, true, false, false, false, false] rfl rfl (any_of HT_.out (by kernel_rfl)) (fun _ _ _ h => h) (Or.inl ⟨by rfl, ?_⟩) ?_ ?_); rotate_left
  · intro w'
    go_simp; (with_reducible rfl)
  rotate_left
  · simp only [Act.put, List.setIfInBounds_toArray, List.set_cons_zero, List.set_cons_succ, i64_w, i32_w]
    rfl
  (refine take_ (i := 5) (N := some 11) (v := ?_) (a' := ?_) #[true, true, true, true, true, true, false, true, false, true, false, false, false, false, true, false, true, false, false, false, false] rfl rfl (take_ofW HT_.out HW_.out (by kernel_rfl)) (fun _ _ _ h => h) (Or.inl ⟨by rfl, ?_⟩) hHeld ?_ ?_); rotate_left
  · rintro w' ⟨s0, s1, s2, s3, s4, s5, s6⟩
    go_simp; (with_reducible rfl)
  rotate_left
  · simp only [Act.put, List.setIfInBounds_toArray, List.set_cons_zero, List.set_cons_succ, i64_w, i32_w]
    rfl
  (refine pure_ (i := 6) (N := some 12) (v := ?_) (a' := ?_) #[true, true, true, true, true, true, true, true, false, true, false, false, false, false, true, false, true, false, false, false, false] rfl rfl (any_of HT_.out (by kernel_rfl)) (fun _ _ _ h => h) (Or.inl ⟨by rfl, ?_⟩) ?_ ?_); rotate_left
  · intro w'
    go_simp; (with_reducible rfl)
  rotate_left
  · simp only [Act.put, List.setIfInBounds_toArray, List.set_cons_zero, List.set_cons_succ, i64_w, i32_w]
    rfl
  (refine take_ (i := 8) (N := some 14) (v := ?_) (a' := ?_) #[true, true, true, true, true, true, true, true, true, true, false, false, false, false, true, false, true, false, false, false, false] rfl rfl (take_ofW HT_.out HW_.out (by kernel_rfl)) (fun _ _ _ h => h) (Or.inl ⟨by rfl, ?_⟩) hHeld ?_ ?_); rotate_left
  · rintro w' ⟨s0, s1, s2, s3, s4, s5, s6⟩
    go_simp; (with_reducible rfl)
  rotate_left
  · simp only [Act.put, List.setIfInBounds_toArray, List.set_cons_zero, List.set_cons_succ, i64_w, i32_w]
    rfl
  (refine take_ (i := 10) (N := some 16) (v := ?_) (a' := ?_) #[true, true, true, true, true, true, true, true, true, true, true, false, false, false, true, false, true, false, false, false, false] rfl rfl (take_ofW HT_.out HW_.out (by kernel_rfl)) (fun _ _ _ h => h) (Or.inl ⟨by rfl, ?_⟩) hHeld ?_ ?_); rotate_left
  · rintro w' ⟨s0, s1, s2, s3, s4, s5, s6⟩
    go_simp; (with_reducible rfl)
  rotate_left
  · simp only [Act.put, List.setIfInBounds_toArray, List.set_cons_zero, List.set_cons_succ, i64_w, i32_w]
    rfl
  (refine pure_ (i := 11) (N := some 17) (v := ?_) (a' := ?_) #[true, true, true, true, true, true, true, true, true, true, true, true, false, false, true, false, true, false, false, false, false] rfl rfl (any_of HT_.out (by kernel_rfl)) (fun _ _ _ h => h) (Or.inl ⟨by rfl, ?_⟩) ?_ ?_); rotate_left
  · intro w'
    go_simp; (with_reducible rfl)
  rotate_left
  · simp only [Act.put, List.setIfInBounds_toArray, List.set_cons_zero, List.set_cons_succ, i64_w, i32_w]
    rfl
  (refine take_ (i := 13) (N := some 19) (v := ?_) (a' := ?_) #[true, true, true, true, true, true, true, true, true, true, true, true, false, true, true, false, true, false, false, false, false] rfl rfl (take_ofW HT_.out HW_.out (by kernel_rfl)) (fun _ _ _ h => h) (Or.inl ⟨by rfl, ?_⟩) hHeld ?_ ?_); rotate_left
  · rintro w' ⟨s0, s1, s2, s3, s4, s5, s6⟩
    go_simp; (with_reducible rfl)
  rotate_left
  · simp only [Act.put, List.setIfInBounds_toArray, List.set_cons_zero, List.set_cons_succ, i64_w, i32_w]
    rfl
  (refine take_ (i := 15) (N := some 21) (v := ?_) (a' := ?_) #[true, true, true, true, true, true, true, true, true, true, true, true, false, true, true, true, true, false, false, false, false] rfl rfl (take_ofW HT_.out HW_.out (by kernel_rfl)) (fun _ _ _ h => h) (Or.inl ⟨by rfl, ?_⟩) hHeld ?_ ?_); rotate_left
  · rintro w' ⟨s0, s1, s2, s3, s4, s5, s6⟩
    go_simp; (with_reducible rfl)
  rotate_left
  · simp only [Act.put, List.setIfInBounds_toArray, List.set_cons_zero, List.set_cons_succ, i64_w, i32_w]
    rfl
  (refine take_ (i := 17) (N := some 23) (v := ?_) (a' := ?_) #[true, true, true, true, true, true, true, true, true, true, true, true, false, true, true, true, true, true, false, false, false] rfl rfl (take_ofW HT_.out HW_.out (by kernel_rfl)) (fun _ _ _ h => h) (Or.inl ⟨by rfl, ?_⟩) hHeld ?_ ?_); rotate_left
  · rintro w' ⟨s0, s1, s2, s3, s4, s5, s6⟩
    go_simp; (with_reducible rfl)
  rotate_left
  · simp only [Act.put, List.setIfInBounds_toArray, List.set_cons_zero, List.set_cons_succ, i64_w, i32_w]
    rfl
  (refine one_ (i := 12) (N := some 18) #[true, true, true, true, true, true, true, true, true, true, true, true, true, true, true, true, true, true, false, false, false] rfl rfl (one_of HT_.out (by kernel_rfl)) (by decide) (fun K hK => ?_)); (refine goes_ Tryd.func50 (by kernel_rfl) rfl #[.agg #[.int .i64 a0_0, .int .i64 a0_1, .slice A0_2 l0_2.length c0_2, .slice A0_3 l0_3.length c0_3], .int .i64 (wrap64 ((wrap64 (a1_0 + 1)) - a1_2)), .int .i64 (wrap64 (a1_1 + a1_2))] (by rfl) rfl rfl Mp ?_); (with_reducible refine (wigmakerref03_at.calls a0_0 a0_1 _ _ l0_2 _ _ l0_3 (wrap64 ((wrap64 (a1_0 + 1)) - a1_2)) (wrap64 (a1_1 + a1_2)) t215 _ ?side1 ?side2 ?side3 ?side4 A3.out).mono ?_); ((case side1 => repeat (first | exact (Kd.C_below HR0_2.out HB.out) | (with_reducible refine Kd.C_alloc ?_ _) | (with_reducible refine Kd.C_drewN ?_ _) | (with_reducible refine Kd.C_drew ?_)))); ((case side2 => exact HC0_2.out)); ((case side3 => repeat (first | exact (Kd.C_below HR0_3.out HB.out) | (with_reducible refine Kd.C_alloc ?_ _) | (with_reducible refine Kd.C_drewN ?_ _) | (with_reducible refine Kd.C_drew ?_)))); ((case side4 => exact HC0_3.out)); rintro e w10 ⟨rfl, hb⟩; refine ⟨_, rfl, ?_⟩; have n0_ := Aside0.mk (blk_below (g := gb213) (o := .cells #[.int .i64 a0_0, .int .i64 a0_1, .slice A0_2 l0_2.length c0_2, .slice A0_3 l0_3.length c0_3] 25 (0, 0)) (Bk BK213.out) hb); have n1_ := Aside0.mk (blk_below (g := gb214) (o := .cells #[.int .i64 a1_0, .int .i64 a1_1, .int .i64 a1_2] 50 (0, 0)) (Bk BK214.out) hb); have n2_ := Aside0.mk (below_step (Bh GE213.out GE214.out) hb); clear BK213; clear BK214; clear HB; have BK213 := n0_; have BK214 := n1_; have HB := n2_; clear n0_ n1_ n2_; (try clear hb); (try clear hb2); (try clear hk); (try clear hi); (refine hK.out _ _ ⟨(blk_cell BK213.out 0).trans rfl, (blk_cell BK213.out 1).trans rfl, (blk_cell BK213.out 2).trans rfl, (blk_cell BK213.out 3).trans rfl, (blk_cell BK214.out 0).trans rfl, (blk_cell BK214.out 1).trans rfl, (blk_cell BK214.out 2).trans rfl⟩ (fun hHeld => ?_)); clear hK K; refine norm_ (a' := ?_) ?_ ?_; rotate_left
  · show Act.put _ (some 18) _ = _
    simp only [Act.put, List.setIfInBounds_toArray, List.set_cons_zero, List.set_cons_succ, i64_w, i32_w]; rfl
  (refine one_ (i := 18) (N := some 24) #[true, true, true, true, true, true, true, true, true, true, true, true, true, true, true, true, true, true, true, false, false] rfl rfl (one_of HT_.out (by kernel_rfl)) (by decide) (fun K hK => ?_)); (refine goes_ Tryd.func50 (by kernel_rfl) rfl #[.agg #[.int .i64 a0_0, .int .i64 a0_1, .slice A0_2 l0_2.length c0_2, .slice A0_3 l0_3.length c0_3], .int .i64 a1_0, .int .i64 a1_1] (by rfl) rfl rfl Mp ?_); (with_reducible refine (wigmakerref03_at.calls a0_0 a0_1 _ _ l0_2 _ _ l0_3 a1_0 a1_1 t216 _ ?side1 ?side2 ?side3 ?side4 A4.out).mono ?_); ((case side1 => repeat (first | exact (Kd.C_below HR0_2.out HB.out) | (with_reducible refine Kd.C_alloc ?_ _) | (with_reducible refine Kd.C_drewN ?_ _) | (with_reducible refine Kd.C_drew ?_)))); ((case side2 => exact HC0_2.out)); ((case side3 => repeat (first | exact (Kd.C_below HR0_3.out HB.out) | (with_reducible refine Kd.C_alloc ?_ _) | (with_reducible refine Kd.C_drewN ?_ _) | (with_reducible refine Kd.C_drew ?_)))); ((case side4 => exact HC0_3.out)); rintro e w11 ⟨rfl, hb⟩; refine ⟨_, rfl, ?_⟩; have n0_ := Aside0.mk (blk_below (g := gb213) (o := .cells #[.int .i64 a0_0, .int .i64 a0_1, .slice A0_2 l0_2.length c0_2, .slice A0_3 l0_3.length c0_3] 25 (0, 0)) (Bk BK213.out) hb); have n1_ := Aside0.mk (blk_below (g := gb214) (o := .cells #[.int .i64 a1_0, .int .i64 a1_1, .int .i64 a1_2] 50 (0, 0)) (Bk BK214.out) hb); have n2_ := Aside0.mk (below_step (Bh GE213.out GE214.out) hb); clear BK213; clear BK214; clear HB; have BK213 := n0_; have BK214 := n1_; have HB := n2_; clear n0_ n1_ n2_; (try clear hb); (try clear hb2); (try clear hk); (try clear hi); (refine hK.out _ _ ⟨(blk_cell BK213.out 0).trans rfl, (blk_cell BK213.out 1).trans rfl, (blk_cell BK213.out 2).trans rfl, (blk_cell BK213.out 3).trans rfl, (blk_cell BK214.out 0).trans rfl, (blk_cell BK214.out 1).trans rfl, (blk_cell BK214.out 2).trans rfl⟩ (fun hHeld => ?_)); clear hK K; refine norm_ (a' := ?_) ?_ ?_; rotate_left
  · show Act.put _ (some 24) _ = _
    simp only [Act.put, List.setIfInBounds_toArray, List.set_cons_zero, List.set_cons_succ, i64_w, i32_w]; rfl
  (refine pure_ (i := 19) (N := some 25) (v := ?_) (a' := ?_) #[true, true, true, true, true, true, true, true, true, true, true, true, true, true, true, true, true, true, true, true, false] rfl rfl (any_of HT_.out (by kernel_rfl)) (fun _ _ _ h => h) (Or.inl ⟨by rfl, ?_⟩) ?_ ?_); rotate_left
  · intro w'
    go_simp; (with_reducible rfl)
  rotate_left
  · simp only [Act.put, List.setIfInBounds_toArray, List.set_cons_zero, List.set_cons_succ, i64_w, i32_w]
    rfl
  (refine pure_ (i := 20) (N := some 5) (v := ?_) (a' := ?_) #[true, true, true, true, true, true, true, true, true, true, true, true, true, true, true, true, true, true, true, true, true] rfl rfl (any_of HT_.out (by kernel_rfl)) (fun _ _ _ h => h) (Or.inl ⟨by rfl, ?_⟩) ?_ ?_); rotate_left
  · intro w'
    go_simp; (with_reducible rfl)
  rotate_left
  · simp only [Act.put, List.setIfInBounds_toArray, List.set_cons_zero, List.set_cons_succ, i64_w, i32_w]
    rfl
  (refine done_ (done_of HT_.out (by kernel_rfl)) ?_); have hnb12 := NB213_214.out; have hnc12 := NB214_213.out; have hcz13_0 : w11.cell? ⟨gb213, 0, none⟩ = some (.int .i64 a0_0) := (blk_cell BK213.out 0).trans rfl; have hcz13_1 : w11.cell? ⟨gb213, 1, none⟩ = some (.int .i64 a0_1) := (blk_cell BK213.out 1).trans rfl; have hcz13_2 : w11.cell? ⟨gb213, 2, none⟩ = some (.slice A0_2 l0_2.length c0_2) := (blk_cell BK213.out 2).trans rfl; have hcz13_3 : w11.cell? ⟨gb213, 3, none⟩ = some (.slice A0_3 l0_3.length c0_3) := (blk_cell BK213.out 3).trans rfl; have hfz13_0 := blk_frozen BK213.out 0; have hfz13_1 := blk_frozen BK213.out 1; have hfz13_2 := blk_frozen BK213.out 2; have hfz13_3 := blk_frozen BK213.out 3; have hcz14_0 : w11.cell? ⟨gb214, 0, none⟩ = some (.int .i64 a1_0) := (blk_cell BK214.out 0).trans rfl; have hcz14_1 : w11.cell? ⟨gb214, 1, none⟩ = some (.int .i64 a1_1) := (blk_cell BK214.out 1).trans rfl; have hcz14_2 : w11.cell? ⟨gb214, 2, none⟩ = some (.int .i64 a1_2) := (blk_cell BK214.out 2).trans rfl; have hfz14_0 := blk_frozen BK214.out 0; have hfz14_1 := blk_frozen BK214.out 1; have hfz14_2 := blk_frozen BK214.out 2; (go_upto_if 28 with (first | ((with_reducible refine gate_callee (f := 51) rfl ?_); refine goesL_ (some 28) rfl rfl Tryd.func51 (by kernel_rfl) rfl #[.agg #[.int .i64 a0_0, .int .i64 a0_1, .slice A0_2 l0_2.length c0_2, .slice A0_3 l0_3.length c0_3], .agg #[.int .i64 a1_0, .int .i64 a1_1, .int .i64 a1_2]] rfl Mp ?_; (with_reducible refine (wigmakerref03_parted.calls k a0_0 a0_1 _ _ l0_2 _ _ l0_3 a1_0 a1_1 a1_2 t217 _ ?side1 ?side2 ?side3 ?side4 A5.out).mono ?_); (case side1 => repeat (first | exact (Kd.C_below HR0_2.out HB.out) | (with_reducible refine Kd.C_alloc ?_ _) | (with_reducible refine Kd.C_drewN ?_ _) | (with_reducible refine Kd.C_drew ?_))); (case side2 => exact HC0_2.out); (case side3 => repeat (first | exact (Kd.C_below HR0_3.out HB.out) | (with_reducible refine Kd.C_alloc ?_ _) | (with_reducible refine Kd.C_drewN ?_ _) | (with_reducible refine Kd.C_drew ?_))); (case side4 => exact HC0_3.out); rintro e w15 ⟨rfl, hb⟩; refine ⟨_, rfl, ?_⟩; have n0_ := Aside0.mk (blk_below (g := gb213) (o := .cells #[.int .i64 a0_0, .int .i64 a0_1, .slice A0_2 l0_2.length c0_2, .slice A0_3 l0_3.length c0_3] 25 (0, 0)) (Bk BK213.out) hb); have n1_ := Aside0.mk (blk_below (g := gb214) (o := .cells #[.int .i64 a1_0, .int .i64 a1_1, .int .i64 a1_2] 50 (0, 0)) (Bk BK214.out) hb); have n2_ := Aside0.mk (below_step (Bh GE213.out GE214.out) hb); clear BK213; clear BK214; clear HB; have BK213 := n0_; have BK214 := n1_; have HB := n2_; clear n0_ n1_ n2_; (try clear hb); (try clear hb2); (try clear hk); (try clear hi)))); (try simp only [Act.put, List.setIfInBounds_toArray, List.set_cons_zero, List.set_cons_succ]); (go_cut [5] (fun v5 wc => ∃ (kq : Nat) (x5_5 : Int), v5 = .int .i64 x5_5 ∧ Aside0 (wigmakerref03_turning.j0 kq x5_5 = some r) ∧ Aside0 (kq ≤ k) ∧ Aside0 (wc.heap[gb213]? = some (.cells #[.int .i64 a0_0, .int .i64 a0_1, (.slice A0_2 l0_2.length c0_2), (.slice A0_3 l0_3.length c0_3)] 25 (0, 0))) ∧ Aside0 (wc.heap[gb214]? = some (.cells #[.int .i64 a1_0, .int .i64 a1_1, .int .i64 a1_2] 50 (0, 0))) ∧ Aside0 (Below w.heap.size w wc)))
  case first =>
    have H := HC6.out; clear HC6; by_cases c16 : t217 = true
    · subst c16
      (have H1 : (wigmakerref03_turning.j0 k (wrap64 ((wrap64 (t215 - t216)) + 4))) = some r := by rw [if_pos rfl] at H; exact H); clear H; have H := H1; clear H1; have H' := Aside0.mk H; clear H; go_wp2; go_meet
      case rel => exact ⟨_, (wrap64 ((wrap64 (t215 - t216)) + 4)), Rf, H', ⟨by first | omega | exact Nat.le_refl _⟩, ⟨by (with_reducible repeat (first | refine blk_drewN ?_ _ | refine blk_drew ?_ | refine blk_alloc ?_ _)); exact BK213.out⟩, ⟨by (with_reducible repeat (first | refine blk_drewN ?_ _ | refine blk_drew ?_ | refine blk_alloc ?_ _)); exact BK214.out⟩, ⟨(Bh GE213.out GE214.out)⟩⟩
    · replace c16 := Bool.eq_false_iff.mpr c16
      subst c16; (have H1 : (wigmakerref03_turning.j0 k (wrap64 (t215 - t216))) = some r := by rw [if_neg (show ¬ (false = true) by decide)] at H; exact H); clear H; have H := H1; clear H1; have H' := Aside0.mk H; clear H; go_wp2; go_meet
      case rel => exact ⟨_, (wrap64 (t215 - t216)), Rf, H', ⟨by first | omega | exact Nat.le_refl _⟩, ⟨by (with_reducible repeat (first | refine blk_drewN ?_ _ | refine blk_drew ?_ | refine blk_alloc ?_ _)); exact BK213.out⟩, ⟨by (with_reducible repeat (first | refine blk_drewN ?_ _ | refine blk_drew ?_ | refine blk_alloc ?_ _)); exact BK214.out⟩, ⟨(Bh GE213.out GE214.out)⟩⟩
  case rest =>
    clear HC6; (try clear c1); (try clear p2); (try clear c3); (try clear c5); (try clear p6); (try clear c12); (try clear c16); (try clear hcz13_0); (try clear hcz13_1); (try clear hcz13_2); (try clear hcz13_3); (try clear hcz14_0); (try clear hcz14_1); (try clear hcz14_2); (try clear hfz13_0); (try clear hfz13_1); (try clear hfz13_2); (try clear hfz13_3); (try clear hfz14_0); (try clear hfz14_1); (try clear hfz14_2); obtain ⟨kq, x5_5, rfl, HA, HJ5, BK213, BK214, HB⟩ := hcut
    cases kq with
    | zero => exact absurd HA.out (by simp [wigmakerref03_turning.j0])
    | succ kj5 =>
      have H := HA.out; clear HA; simp only [wigmakerref03_turning.j0] at H; have H' := Aside0.mk H; clear H; go_wp2; (go_loopg [5] kj5 (fun kq v5 w' => ∃ (x5_2 : Int), v5 = .int .i64 x5_2 ∧ Aside0 (wigmakerref03_turning.l0 kq x5_2 = some r) ∧ Aside0 (kq ≤ kj5) ∧ Aside0 (w'.heap[gb213]? = some (.cells #[.int .i64 a0_0, .int .i64 a0_1, (.slice A0_2 l0_2.length c0_2), (.slice A0_3 l0_3.length c0_3)] 25 (0, 0))) ∧ Aside0 (w'.heap[gb214]? = some (.cells #[.int .i64 a1_0, .int .i64 a1_1, .int .i64 a1_2] 50 (0, 0))) ∧ Aside0 (Below w.heap.size w w')))
      case atStart => exact ⟨(x5_5), Rf, H', ⟨Nat.le_refl _⟩, ⟨by (with_reducible repeat (first | refine blk_drewN ?_ _ | refine blk_drew ?_ | refine blk_alloc ?_ _)); exact BK213.out⟩, ⟨by (with_reducible repeat (first | refine blk_drewN ?_ _ | refine blk_drew ?_ | refine blk_alloc ?_ _)); exact BK214.out⟩, ⟨(Bh GE213.out GE214.out)⟩⟩
      case round =>
        clear H'; (try clear c1); (try clear p2); (try clear c3); (try clear c5); (try clear p6); (try clear c12); (try clear c16); (try clear hcz13_0); (try clear hcz13_1); (try clear hcz13_2); (try clear hcz13_3); (try clear hcz14_0); (try clear hcz14_1); (try clear hcz14_2); (try clear hfz13_0); (try clear hfz13_1); (try clear hfz13_2); (try clear hfz13_3); (try clear hfz14_0); (try clear hfz14_1); (try clear hfz14_2); (try clear p2); (try clear p6); obtain ⟨x5_2, rfl, HA, HK2, BK213, BK214, HB⟩ := hrel
        cases gk with
        | zero => exact absurd HA.out (by simp [wigmakerref03_turning.l0])
        | succ k2 =>
          have H := HA.out; clear HA; simp only [wigmakerref03_turning.l0] at H; by_cases c17 : x5_2 > 4
          · rw [if_pos c17] at H
            have c17b0 : decide (4 < x5_2) = true := decide_eq_true c17; clear c17; have H' := Aside0.mk H; clear H; go_wp2; go_roundg k2
            case measure => have := HJ5.out; have := HK2.out; omega
            case rel => exact ⟨(wrap64 (x5_2 - 8)), Rf, H', ⟨by have := HJ5.out; have := HK2.out; omega⟩, ⟨by (with_reducible repeat (first | refine blk_drewN ?_ _ | refine blk_drew ?_ | refine blk_alloc ?_ _)); exact BK213.out⟩, ⟨by (with_reducible repeat (first | refine blk_drewN ?_ _ | refine blk_drew ?_ | refine blk_alloc ?_ _)); exact BK214.out⟩, ⟨(Bh GE213.out GE214.out)⟩⟩
          · rw [if_neg c17] at H
            have c17b0 : decide (4 < x5_2) = false := decide_eq_false c17; clear c17; have H' := Aside0.mk H; clear H; go_wp2; (go_loopg [5] k2 (fun kq v5 w' => ∃ (x5_3 : Int), v5 = .int .i64 x5_3 ∧ Aside0 (wigmakerref03_turning.l1 kq x5_3 = some r) ∧ Aside0 (kq ≤ k2) ∧ Aside0 (w'.heap[gb213]? = some (.cells #[.int .i64 a0_0, .int .i64 a0_1, (.slice A0_2 l0_2.length c0_2), (.slice A0_3 l0_3.length c0_3)] 25 (0, 0))) ∧ Aside0 (w'.heap[gb214]? = some (.cells #[.int .i64 a1_0, .int .i64 a1_1, .int .i64 a1_2] 50 (0, 0))) ∧ Aside0 (Below w.heap.size w w')))
            case atStart => exact ⟨(x5_2), Rf, H', ⟨Nat.le_refl _⟩, ⟨by (with_reducible repeat (first | refine blk_drewN ?_ _ | refine blk_drew ?_ | refine blk_alloc ?_ _)); exact BK213.out⟩, ⟨by (with_reducible repeat (first | refine blk_drewN ?_ _ | refine blk_drew ?_ | refine blk_alloc ?_ _)); exact BK214.out⟩, ⟨(Bh GE213.out GE214.out)⟩⟩
            case round =>
              clear H'; (try clear c1); (try clear p2); (try clear c3); (try clear c5); (try clear p6); (try clear c12); (try clear c16); (try clear c17); (try clear c17b0); (try clear hcz13_0); (try clear hcz13_1); (try clear hcz13_2); (try clear hcz13_3); (try clear hcz14_0); (try clear hcz14_1); (try clear hcz14_2); (try clear hfz13_0); (try clear hfz13_1); (try clear hfz13_2); (try clear hfz13_3); (try clear hfz14_0); (try clear hfz14_1); (try clear hfz14_2); (try clear p2); (try clear p6); obtain ⟨x5_3, rfl, HA, HK3, BK213, BK214, HB⟩ := hrel
              cases gk with
              | zero => exact absurd HA.out (by simp [wigmakerref03_turning.l1])
              | succ k3 =>
                have H := HA.out; clear HA; simp only [wigmakerref03_turning.l1] at H; by_cases c18 : x5_3 < (-3)
                · rw [if_pos c18] at H
                  have c18b0 : decide (x5_3 < (-3)) = true := decide_eq_true c18; clear c18; have H' := Aside0.mk H; clear H; go_wp2; go_roundg k3
                  case measure => have := HJ5.out; have := HK2.out; have := HK3.out; omega
                  case rel => exact ⟨(wrap64 (x5_3 + 8)), Rf, H', ⟨by have := HJ5.out; have := HK2.out; have := HK3.out; omega⟩, ⟨by (with_reducible repeat (first | refine blk_drewN ?_ _ | refine blk_drew ?_ | refine blk_alloc ?_ _)); exact BK213.out⟩, ⟨by (with_reducible repeat (first | refine blk_drewN ?_ _ | refine blk_drew ?_ | refine blk_alloc ?_ _)); exact BK214.out⟩, ⟨(Bh GE213.out GE214.out)⟩⟩
                · rw [if_neg c18] at H
                  have c18b0 : decide (x5_3 < (-3)) = false := decide_eq_false c18; clear c18; obtain rfl := Option.some.inj H; go_wp2; go_ret; (exact ⟨by first | rfl | (simp [errW_none, errW_some] <;> rfl) | (simp [*, errW_none, errW_some] <;> rfl), (Bh GE213.out GE214.out)⟩)
end Go.Proofs.YtfpikmeiooangaaDoor.PFlowTexts
end
section
namespace Go.Proofs.YtfpikmeiooangaaDoor.PFlowTexts
open Go.RowKit Go.Proofs.YtfpikmeiooangaaDoorW.PrintWords Go.Proofs.YtfpikmeiooangaaDoorW.PrintLast Go.Proofs.YtfpikmeiooangaaDoorW.PrintMore
/-- A field whose sides and directions are right. -/
structure Fld (W H : Int) (D : List Int) : Prop where
  w : 1 ≤ W ∧ W ≤ 12
  h : 1 ≤ H ∧ H ≤ 12
  n : (D.length : Int) = W * H
  d : ∀ x ∈ D, 0 ≤ x ∧ x ≤ 7
def place (W : Int) (D : List Int) (x y : Int) : Int := rd D (y * W + x)
section
variable {W H : Int} {D : List Int} {P : List S50}
theorem Fld.index (F : Fld W H D) {x y : Int} (hx : 0 ≤ x ∧ x < W) (hy : 0 ≤ y ∧ y < H) : 0 ≤ y * W + x ∧ y * W + x < D.length ∧ y * W ≤ 144 ∧ 0 ≤ y * W := by
  have h1 : 0 ≤ y * W := Int.mul_nonneg hy.1 (by omega)
  have h2 : (y + 1) * W ≤ H * W := Int.mul_le_mul_of_nonneg_right (by omega) (by have := F.w; omega)
  have h3 : H * W ≤ 12 * 12 := Int.mul_le_mul F.h.2 F.w.2 (by have := F.w; omega) (by omega)
  have h4 : (y + 1) * W = y * W + W := by rw [Int.add_mul, Int.one_mul]
  have h5 := F.n
  rw [Int.mul_comm W H] at h5
  omega
theorem Fld.place_range (F : Fld W H D) {x y : Int} (hx : 0 ≤ x ∧ x < W) (hy : 0 ≤ y ∧ y < H) : 0 ≤ place W D x y ∧ place W D x y ≤ 7 := by
  obtain ⟨h0, h1, _, _⟩ := F.index hx hy
  unfold place rd
  rw [List.getD_eq_getElem?_getD, List.getElem?_eq_getElem (show (y * W + x).toNat < D.length by omega)]
  exact F.d _ (List.getElem_mem _)
theorem Fld.at_eq (F : Fld W H D) {x y : Int} (hx : 0 ≤ x ∧ x < W) (hy : 0 ≤ y ∧ y < H) : flow_at.f W H D P x y = some (place W D x y) ∧ wigmakerref03_at.f W H D P x y = some (place W D x y) := by
  obtain ⟨h0, h1, h2, h3⟩ := F.index hx hy
  have hW := F.w
  have e1 : wrap64 (y * W) = y * W := w64 _ (by omega)
  have e2 : wrap64 (y * W + x) = y * W + x := w64 _ (by omega)
  unfold flow_at.f wigmakerref03_at.f
  rw [e1, e2, if_pos h0, if_pos h1]
  exact ⟨rfl, rfl⟩
def norm8 (d : Int) : Int := if d > 4 then d - 8 else if d < -3 then d + 8 else d
def turnV (W : Int) (D : List Int) (P : List S50) (e : S50) : Int :=
  norm8 (place W D (if e.f2 = 1 then e.f0 else e.f0 + 1) (if e.f2 = 1 then e.f1 + 1 else e.f1) - place W D e.f0 e.f1 + (if e ∈ P then 4 else 0))
theorem mod8 (d : Int) (h : -7 ≤ d ∧ d ≤ 11) : ∃ m, flow_mod.f d = some m ∧ (if m > 4 then m - 8 else m) = norm8 d ∧ 0 ≤ m ∧ m ≤ 8 := by
  unfold flow_mod.f norm8
  have hs : d = -7 ∨ d = -6 ∨ d = -5 ∨ d = -4 ∨ d = -3 ∨ d = -2 ∨ d = -1 ∨ d = 0 ∨ d = 1 ∨ d = 2 ∨ d = 3 ∨ d = 4 ∨ d = 5 ∨ d = 6 ∨ d = 7 ∨ d = 8 ∨ d = 9 ∨ d = 10 ∨ d = 11 := by omega
  rcases hs with h | h | h | h | h | h | h | h | h | h | h | h | h | h | h | h | h | h | h <;> subst h <;> exact ⟨_, rfl, by decide +kernel, by decide +kernel, by decide +kernel⟩
theorem turning_l (d : Int) (h : -7 ≤ d ∧ d ≤ 11) : Ev (fun k => wigmakerref03_turning.j0 k d) (norm8 d) := by
  have l1 : ∀ c : Int, -3 ≤ c → c ≤ 4 → Ev (fun k => wigmakerref03_turning.l1 k c) c := fun c h1 h2 => by
    refine Ev.succ ?_
    simp only [wigmakerref03_turning.l1]
    exact Ev.neg (by omega) (Ev.pure _)
  have l1' : ∀ c : Int, -7 ≤ c → c ≤ 4 → Ev (fun k => wigmakerref03_turning.l1 k c) (if c < -3 then c + 8 else c) := fun c h1 h2 => by
    by_cases hc : c < -3
    · rw [if_pos hc]
      refine Ev.succ ?_
      simp only [wigmakerref03_turning.l1]
      refine Ev.pos hc ?_
      rw [w64 (c + 8) (by omega)]
      exact l1 _ (by omega) (by omega)
    · rw [if_neg hc]
      exact l1 _ (by omega) (by omega)
  have l0 : ∀ c : Int, -7 ≤ c → c ≤ 4 → Ev (fun k => wigmakerref03_turning.l0 k c) (if c < -3 then c + 8 else c) := fun c h1 h2 => by
    refine Ev.succ ?_
    simp only [wigmakerref03_turning.l0]
    exact Ev.neg (by omega) (l1' c h1 h2)
  refine Ev.succ ?_
  simp only [wigmakerref03_turning.j0]
  unfold norm8
  by_cases hd : d > 4
  · rw [if_pos hd]
    refine Ev.succ ?_
    simp only [wigmakerref03_turning.l0]
    refine Ev.pos hd ?_
    rw [w64 (d - 8) (by omega)]
    have := l0 (d - 8) (by omega) (by omega)
    rwa [if_neg (by omega)] at this
  · rw [if_neg hd]
    exact l0 d (by omega) (by omega)
theorem turns_both (F : Fld W H D) (e : S50) (he : onF W H e.f0 e.f1 e.f2 = true) (hP : P.length ≤ 100000) (ho : Ordered P) :
    Ev (fun k => flow_turns.f k W H D P e.f0 e.f1 e.f2) (turnV W D P e) ∧ Ev (fun k => wigmakerref03_turning.f k W H D P e.f0 e.f1 e.f2) (turnV W D P e) := by
  have he' := of_decide_eq_true he
  have hW := F.w
  have hH := F.h
  obtain ⟨x1, hx1⟩ : ∃ x1, (if e.f2 = 1 then e.f0 else e.f0 + 1) = x1 := ⟨_, rfl⟩
  obtain ⟨y1, hy1⟩ : ∃ y1, (if e.f2 = 1 then e.f1 + 1 else e.f1) = y1 := ⟨_, rfl⟩
  have hr : 0 ≤ x1 ∧ x1 < W ∧ 0 ≤ y1 ∧ y1 < H ∧ 0 ≤ e.f0 ∧ e.f0 < W ∧ 0 ≤ e.f1 ∧ e.f1 < H := by
    rw [← hx1, ← hy1]
    split <;> omega
  have A := F.at_eq (P := P) (x := x1) (y := y1) ⟨hr.1, hr.2.1⟩ ⟨hr.2.2.1, hr.2.2.2.1⟩
  have B := F.at_eq (P := P) (x := e.f0) (y := e.f1) ⟨by omega, by omega⟩ ⟨by omega, by omega⟩
  have ra := F.place_range (x := x1) (y := y1) ⟨hr.1, hr.2.1⟩ ⟨hr.2.2.1, hr.2.2.2.1⟩
  have rb := F.place_range (x := e.f0) (y := e.f1) ⟨by omega, by omega⟩ ⟨by omega, by omega⟩
  have hv : turnV W D P e = norm8 (place W D x1 y1 - place W D e.f0 e.f1 + (if e ∈ P then 4 else 0)) := by rw [turnV, hx1, hy1]
  rw [hv]
  generalize place W D x1 y1 = a at A ra
  generalize place W D e.f0 e.f1 = b at B rb
  have hsub : wrap64 (a - b) = a - b := w64 _ (by omega)
  have hadd : wrap64 (a - b + 4) = a - b + 4 := w64 _ (by omega)
  constructor
  · have hj : Ev (fun k => flow_turns.j0 k x1 y1 W H D P e.f0 e.f1 e.f2) (norm8 (a - b + (if e ∈ P then 4 else 0))) := by
      refine Ev.succ ?_
      simp only [flow_turns.j0, A.1, B.1, Option.bind_some, hsub, hadd]
      obtain ⟨i, hi⟩ := search_ev P e hP ho
      refine Ev.bind hi ?_
      by_cases hm : e ∈ P
      · rw [if_pos hm]
        obtain ⟨m, h1, h2, h3, h4⟩ := mod8 (a - b + 4) (by omega)
        refine Ev.pos (by simpa using hm) ?_
        simp only [h1, Option.bind_some]
        rw [← h2, w64 (m - 8) (by omega)]
        by_cases hm4 : m > 4
        · simp only [if_pos hm4]; exact Ev.pure _
        · simp only [if_neg hm4]; exact Ev.pure _
      · rw [if_neg hm, Int.add_zero]
        obtain ⟨m, h1, h2, h3, h4⟩ := mod8 (a - b) (by omega)
        refine Ev.neg (by simpa using hm) ?_
        simp only [h1, Option.bind_some]
        rw [← h2, w64 (m - 8) (by omega)]
        by_cases hm4 : m > 4
        · simp only [if_pos hm4]; exact Ev.pure _
        · simp only [if_neg hm4]; exact Ev.pure _
    unfold flow_turns.f
    rw [← hx1, ← hy1] at hj
    by_cases hu : e.f2 = 1
    · rw [if_pos hu, if_pos hu] at hj
      rw [w64 (e.f1 + 1) (by omega)]
      exact Ev.pos hu hj
    · rw [if_neg hu, if_neg hu] at hj
      rw [w64 (e.f0 + 1) (by omega)]
      exact Ev.neg hu hj
  · unfold wigmakerref03_turning.f
    have ex : wrap64 (wrap64 (e.f0 + 1) - e.f2) = x1 := by
      rw [w64 (e.f0 + 1) (by omega), w64 _ (by omega), ← hx1]
      split <;> omega
    have ey : wrap64 (e.f1 + e.f2) = y1 := by
      rw [w64 _ (by omega), ← hy1]
      split <;> omega
    simp only [ex, ey, A.2, B.2, Option.bind_some, hsub, hadd]
    refine Ev.bind (parted_ev W H D P e hP) ?_
    by_cases hm : e ∈ P
    · rw [if_pos hm]
      exact Ev.pos (by simpa using hm) (turning_l _ (by omega))
    · rw [if_neg hm, Int.add_zero]
      exact Ev.neg (by simpa using hm) (turning_l _ (by omega))
end
end Go.Proofs.YtfpikmeiooangaaDoor.PFlowTexts
end
section
namespace Go.Proofs.YtfpikmeiooangaaDoor.PFlowTexts
open Go.RowKit Go.Proofs.YtfpikmeiooangaaDoorW.PrintWords Go.Proofs.YtfpikmeiooangaaDoorW.PrintLast Go.Proofs.YtfpikmeiooangaaDoorW.PrintMore
mutual
def flow_edges.l0 : Nat → List (S50) → Int → Int → Int → Int → List Int → List (S50) → Option ((List (S50)))
  | 0, _, _, _, _, _, _, _ => none
  | k + 1, x3, x9, x10, x117000, x117001, x117002, x117003 => if x10 < x9 then (flow_edges.l1 k x3 x10 x9 x10 x117000 0 x117000 x117001 x117002 x117003) else (some x3)
def flow_edges.l1 : Nat → List (S50) → Int → Int → Int → Int → Int → Int → Int → List Int → List (S50) → Option ((List (S50)))
  | 0, _, _, _, _, _, _, _, _, _, _ => none
  | k + 1, x3, x4, x9, x10, x14, x15, x117000, x117001, x117002, x117003 => if x15 < x14 then (flow_edges.l2 k x3 x4 x15 x9 x10 x14 x15 0 x117000 x117001 x117002 x117003) else (flow_edges.l0 k x3 x9 (wrap64 (x10 + 1)) x117000 x117001 x117002 x117003)
def flow_edges.l2 : Nat → List (S50) → Int → Int → Int → Int → Int → Int → Int → Int → Int → List Int → List (S50) → Option ((List (S50)))
  | 0, _, _, _, _, _, _, _, _, _, _, _, _ => none
  | k + 1, x3, x4, x5, x9, x10, x14, x15, x18, x117000, x117001, x117002, x117003 => if x18 < 2 then ((flow_hasEdge.f x117000 x117001 x117002 x117003 x5 x4 x18).bind fun t118 => (if t118 = true then (if x3.length < 5864062014805 then (flow_edges.l2 k (x3 ++ [(⟨x5, x4, x18⟩ : S50)]) x4 x5 x9 x10 x14 x15 (wrap64 (x18 + 1)) x117000 x117001 x117002 x117003) else (none)) else (flow_edges.l2 k x3 x4 x5 x9 x10 x14 x15 (wrap64 (x18 + 1)) x117000 x117001 x117002 x117003))) else (flow_edges.l1 k x3 x4 x9 x10 x14 (wrap64 (x15 + 1)) x117000 x117001 x117002 x117003)
end
def flow_edges.f (k : Nat) (a0_0 : Int) (a0_1 : Int) (l0_2 : List Int) (l0_3 : List (S50)) : Option ((List (S50))) := flow_edges.l0 k ([] : List (S50)) a0_1 0 a0_0 a0_1 l0_2 l0_3
theorem flow_edges.mono_l : ∀ k, (∀ y0 y1 y2 y3 y4 y5 y6, LeO (flow_edges.l0 k y0 y1 y2 y3 y4 y5 y6) (flow_edges.l0 (k + 1) y0 y1 y2 y3 y4 y5 y6)) ∧ (∀ y0 y1 y2 y3 y4 y5 y6 y7 y8 y9, LeO (flow_edges.l1 k y0 y1 y2 y3 y4 y5 y6 y7 y8 y9) (flow_edges.l1 (k + 1) y0 y1 y2 y3 y4 y5 y6 y7 y8 y9)) ∧ (∀ y0 y1 y2 y3 y4 y5 y6 y7 y8 y9 y10 y11, LeO (flow_edges.l2 k y0 y1 y2 y3 y4 y5 y6 y7 y8 y9 y10 y11) (flow_edges.l2 (k + 1) y0 y1 y2 y3 y4 y5 y6 y7 y8 y9 y10 y11))
  | 0 => ⟨fun _ _ _ _ _ _ _ r h => by simp [flow_edges.l0] at h, fun _ _ _ _ _ _ _ _ _ _ r h => by simp [flow_edges.l1] at h, fun _ _ _ _ _ _ _ _ _ _ _ _ r h => by simp [flow_edges.l2] at h⟩
  | k + 1 => by
    obtain ⟨ih0, ih1, ih2⟩ := flow_edges.mono_l k; refine ⟨?_, ?_, ?_⟩
    · intro y0 y1 y2 y3 y4 y5 y6
      unfold flow_edges.l0
      repeat' first
      | (with_reducible exact ih0 _ _ _ _ _ _ _)
      | (with_reducible exact ih1 _ _ _ _ _ _ _ _ _ _)
      | (with_reducible exact ih2 _ _ _ _ _ _ _ _ _ _ _ _)
      | (with_reducible exact LeO.refl _)
      | (with_reducible exact LeO.none _)
      | (with_reducible refine LeO.ite ?_ ?_)
      | (with_reducible refine LeO.bind ?_ (fun _ => ?_))
      | exact ih0 _ _ _ _ _ _ _
      | exact ih1 _ _ _ _ _ _ _ _ _ _
      | exact ih2 _ _ _ _ _ _ _ _ _ _ _ _
      | exact LeO.none _
      | refine LeO.ite ?_ ?_
      | refine LeO.bind ?_ (fun _ => ?_)
    · intro y0 y1 y2 y3 y4 y5 y6 y7 y8 y9
      unfold flow_edges.l1
      repeat' first
      | (with_reducible exact ih0 _ _ _ _ _ _ _)
      | (with_reducible exact ih1 _ _ _ _ _ _ _ _ _ _)
      | (with_reducible exact ih2 _ _ _ _ _ _ _ _ _ _ _ _)
      | (with_reducible exact LeO.refl _)
      | (with_reducible exact LeO.none _)
      | (with_reducible refine LeO.ite ?_ ?_)
      | (with_reducible refine LeO.bind ?_ (fun _ => ?_))
      | exact ih0 _ _ _ _ _ _ _
      | exact ih1 _ _ _ _ _ _ _ _ _ _
      | exact ih2 _ _ _ _ _ _ _ _ _ _ _ _
      | exact LeO.none _
      | refine LeO.ite ?_ ?_
      | refine LeO.bind ?_ (fun _ => ?_)
    · intro y0 y1 y2 y3 y4 y5 y6 y7 y8 y9 y10 y11
      unfold flow_edges.l2
      repeat' first
      | (with_reducible exact ih0 _ _ _ _ _ _ _)
      | (with_reducible exact ih1 _ _ _ _ _ _ _ _ _ _)
      | (with_reducible exact ih2 _ _ _ _ _ _ _ _ _ _ _ _)
      | (with_reducible exact LeO.refl _)
      | (with_reducible exact LeO.none _)
      | (with_reducible refine LeO.ite ?_ ?_)
      | (with_reducible refine LeO.bind ?_ (fun _ => ?_))
      | exact ih0 _ _ _ _ _ _ _
      | exact ih1 _ _ _ _ _ _ _ _ _ _
      | exact ih2 _ _ _ _ _ _ _ _ _ _ _ _
      | exact LeO.none _
      | refine LeO.ite ?_ ?_
      | refine LeO.bind ?_ (fun _ => ?_)
theorem flow_edges.mono : ∀ a0 a1 a2 a3 k, LeO (flow_edges.f k a0 a1 a2 a3) (flow_edges.f (k + 1) a0 a1 a2 a3) := by
  intro a0 a1 a2 a3 k; obtain ⟨ih0, ih1, ih2⟩ := flow_edges.mono_l k; unfold flow_edges.f
  repeat' first
      | (with_reducible exact ih0 _ _ _ _ _ _ _)
      | (with_reducible exact ih1 _ _ _ _ _ _ _ _ _ _)
      | (with_reducible exact ih2 _ _ _ _ _ _ _ _ _ _ _ _)
      | (with_reducible exact LeO.refl _)
      | (with_reducible exact LeO.none _)
      | (with_reducible refine LeO.ite ?_ ?_)
      | (with_reducible refine LeO.bind ?_ (fun _ => ?_))
      | exact ih0 _ _ _ _ _ _ _
      | exact ih1 _ _ _ _ _ _ _ _ _ _
      | exact ih2 _ _ _ _ _ _ _ _ _ _ _ _
      | exact LeO.none _
      | refine LeO.ite ?_ ?_
      | refine LeO.bind ?_ (fun _ => ?_)
set_option maxHeartbeats 8000000 in
set_option maxRecDepth 100000 in
theorem flow_edges.calls (k : Nat) (a0_0 : Int) (a0_1 : Int) (A0_2 : Option Addr) (c0_2 : Nat) (l0_2 : List Int) (A0_3 : Option Addr) (c0_3 : Nat) (l0_3 : List (S50)) (r : List (S50)) (w : World) (hr0_2 : Kd.C (Kd.int .i64) w A0_2 l0_2.length l0_2) (hc0_2 : l0_2.length ≤ c0_2) (hr0_3 : Kd.C k50 w A0_3 l0_3.length l0_3) (hc0_3 : l0_3.length ≤ c0_3) (h : flow_edges.f k a0_0 a0_1 l0_2 l0_3 = some r) :
    Calls Tryd.prog 30 #[.agg #[.int .i64 a0_0, .int .i64 a0_1, .slice A0_2 l0_2.length c0_2, .slice A0_3 l0_3.length c0_3]] w fun e w' => ∃ v0_ : Value, e = .returned (v0_) ∧ Kd.R k50 50 w' w.heap.size (fun _ => True) v0_ r ∧ Below w.heap.size w w' := by
  have hu25 := Tryd.underlying25; have hu50 := Tryd.underlying50; have HR0_2 := Aside0.mk hr0_2; have HC0_2 := Aside0.mk hc0_2; clear hr0_2 hc0_2; have HR0_3 := Aside0.mk hr0_3; have HC0_3 := Aside0.mk hc0_3; clear hr0_3 hc0_3; have HB := Aside0.mk (Below.refl w.heap.size w); have H : (flow_edges.l0 k ([] : List (S50)) a0_1 0 a0_0 a0_1 l0_2 l0_3) = some r := h; clear h; have H' := Aside0.mk H; clear H; go_enter Tryd.func30, Tryd.ntmps30; (go_wp2_with (first | ((with_reducible refine gate_dst (N := 1) rfl ?_); refine box_event ?hg (N := 1) ?hd (cs := #[.int .i64 a0_0, .int .i64 a0_1, .slice A0_2 l0_2.length c0_2, .slice A0_3 l0_3.length c0_3]) (t := 25) ?hr ?_; (case hd => rfl); (case hg => rfl); (case hr => first | (go_simp; done) | (go_simp; rfl)); intro gb116 hg w2 hbox hb; have n0_ := Aside0.mk (below_step Bq hb); have n1_ := Aside0.mk (hbox); have n2_ := Aside0.mk ((by rw [hg]; exact (below_size Bq) : w.heap.size ≤ gb116)); have n3_ := Aside0.mk ((by rw [hg]; exact (below_size Bq) : w.heap.size ≤ gb116)); clear HB; have HB := n0_; have BK116 := n1_; have GW116 := n2_; have GE116 := n3_; clear n0_ n1_ n2_ n3_; clear hb hbox hg; have hcz3_0 : w2.cell? ⟨gb116, 0, none⟩ = some (.int .i64 a0_0) := (blk_cell BK116.out 0).trans rfl; have hcz3_1 : w2.cell? ⟨gb116, 1, none⟩ = some (.int .i64 a0_1) := (blk_cell BK116.out 1).trans rfl; have hcz3_2 : w2.cell? ⟨gb116, 2, none⟩ = some (.slice A0_2 l0_2.length c0_2) := (blk_cell BK116.out 2).trans rfl; have hcz3_3 : w2.cell? ⟨gb116, 3, none⟩ = some (.slice A0_3 l0_3.length c0_3) := (blk_cell BK116.out 3).trans rfl; have hfz3_0 := blk_frozen BK116.out 0; have hfz3_1 := blk_frozen BK116.out 1; have hfz3_2 := blk_frozen BK116.out 2; have hfz3_3 := blk_frozen BK116.out 3))); (go_loopg [3, 10] k (fun kq v3 v10 w' => ∃ (x3_1 : List (S50)) (x10_1 : Int), v10 = .int .i64 x10_1 ∧ Aside0 (flow_edges.l0 kq x3_1 a0_1 x10_1 a0_0 a0_1 l0_2 l0_3 = some r) ∧ Aside0 (kq ≤ k) ∧ Aside0 (Kd.R k50 50 w' w.heap.size (fun _ => True) v3 x3_1) ∧ Aside0 (w'.heap[gb116]? = some (.cells #[.int .i64 a0_0, .int .i64 a0_1, (.slice A0_2 l0_2.length c0_2), (.slice A0_3 l0_3.length c0_3)] 25 (0, 0))) ∧ Aside0 (Below w.heap.size w w')))
  case atStart => exact ⟨(([] : List (S50))), (0), Rf, H', ⟨Nat.le_refl _⟩, ⟨by first | exact Kd.R_nil _ _ _ _ _ | exact Kd.N_nil _ _ _ _ _ | exact Kd.V_nil _ _ _ _ _ | exact Kd.Q_nil _ _ _ _ _ | exact Kd.S_nil _ _ _ _ _⟩, ⟨by (with_reducible repeat (first | refine blk_drewN ?_ _ | refine blk_drew ?_ | refine blk_alloc ?_ _)); exact BK116.out⟩, ⟨(Bg GE116.out)⟩⟩
  case round =>
    clear H'; (try clear p2); (try clear c3); (try clear hcz3_0); (try clear hcz3_1); (try clear hcz3_2); (try clear hcz3_3); (try clear hfz3_0); (try clear hfz3_1); (try clear hfz3_2); (try clear hfz3_3); obtain ⟨x3_1, x10_1, rfl, HA, HK1, HO_3, BK116, HB⟩ := hrel
    cases gk with
    | zero => exact absurd HA.out (by simp [flow_edges.l0])
    | succ k1 =>
      have H := HA.out; clear HA; simp only [flow_edges.l0] at H; by_cases c4 : x10_1 < a0_1
      · rw [if_pos c4] at H
        have c4b0 : decide (x10_1 < a0_1) = true := decide_eq_true c4; clear c4; have H' := Aside0.mk H; clear H; have hcz5_0 : wr.cell? ⟨gb116, 0, none⟩ = some (.int .i64 a0_0) := (blk_cell BK116.out 0).trans rfl; have hcz5_1 : wr.cell? ⟨gb116, 1, none⟩ = some (.int .i64 a0_1) := (blk_cell BK116.out 1).trans rfl; have hcz5_2 : wr.cell? ⟨gb116, 2, none⟩ = some (.slice A0_2 l0_2.length c0_2) := (blk_cell BK116.out 2).trans rfl; have hcz5_3 : wr.cell? ⟨gb116, 3, none⟩ = some (.slice A0_3 l0_3.length c0_3) := (blk_cell BK116.out 3).trans rfl; have hfz5_0 := blk_frozen BK116.out 0; have hfz5_1 := blk_frozen BK116.out 1; have hfz5_2 := blk_frozen BK116.out 2; have hfz5_3 := blk_frozen BK116.out 3; go_wp2; (go_loopg [3, 15] k1 (fun kq v3 v15 w' => ∃ (x3_2 : List (S50)) (x15_2 : Int), v15 = .int .i64 x15_2 ∧ Aside0 (flow_edges.l1 kq x3_2 x10_1 a0_1 x10_1 a0_0 x15_2 a0_0 a0_1 l0_2 l0_3 = some r) ∧ Aside0 (kq ≤ k1) ∧ Aside0 (Kd.R k50 50 w' w.heap.size (fun _ => True) v3 x3_2) ∧ Aside0 (w'.heap[gb116]? = some (.cells #[.int .i64 a0_0, .int .i64 a0_1, (.slice A0_2 l0_2.length c0_2), (.slice A0_3 l0_3.length c0_3)] 25 (0, 0))) ∧ Aside0 (Below w.heap.size w w')))
        case atStart => exact ⟨(x3_1), (0), Rf, H', ⟨Nat.le_refl _⟩, ⟨by (with_reducible repeat (first | apply Kd.R_alloc | apply Kd.R_drewN | apply Kd.R_drew)); exact HO_3.out⟩, ⟨by (with_reducible repeat (first | refine blk_drewN ?_ _ | refine blk_drew ?_ | refine blk_alloc ?_ _)); exact BK116.out⟩, ⟨(Bg GE116.out)⟩⟩
        case round =>
          clear H'; (try clear p2); (try clear c3); (try clear c4); (try clear c4b0); (try clear hcz3_0); (try clear hcz3_1); (try clear hcz3_2); (try clear hcz3_3); (try clear hcz5_0); (try clear hcz5_1); (try clear hcz5_2); (try clear hcz5_3); (try clear hfz3_0); (try clear hfz3_1); (try clear hfz3_2); (try clear hfz3_3); (try clear hfz5_0); (try clear hfz5_1); (try clear hfz5_2); (try clear hfz5_3); (try clear p2); obtain ⟨x3_2, x15_2, rfl, HA, HK2, HO_3, BK116, HB⟩ := hrel
          cases gk with
          | zero => exact absurd HA.out (by simp [flow_edges.l1])
          | succ k2 =>
            have H := HA.out; clear HA; simp only [flow_edges.l1] at H; by_cases c6 : x15_2 < a0_0
            · rw [if_pos c6] at H
              have c6b0 : decide (x15_2 < a0_0) = true := decide_eq_true c6; clear c6; have H' := Aside0.mk H; clear H; go_wp2; (go_loopg [3, 18] k2 (fun kq v3 v18 w' => ∃ (x3_3 : List (S50)) (x18_3 : Int), v18 = .int .i64 x18_3 ∧ Aside0 (flow_edges.l2 kq x3_3 x10_1 x15_2 a0_1 x10_1 a0_0 x15_2 x18_3 a0_0 a0_1 l0_2 l0_3 = some r) ∧ Aside0 (kq ≤ k2) ∧ Aside0 (Kd.R k50 50 w' w.heap.size (fun _ => True) v3 x3_3) ∧ Aside0 (w'.heap[gb116]? = some (.cells #[.int .i64 a0_0, .int .i64 a0_1, (.slice A0_2 l0_2.length c0_2), (.slice A0_3 l0_3.length c0_3)] 25 (0, 0))) ∧ Aside0 (Below w.heap.size w w')))
              case atStart => exact ⟨(x3_2), (0), Rf, H', ⟨Nat.le_refl _⟩, ⟨by (with_reducible repeat (first | apply Kd.R_alloc | apply Kd.R_drewN | apply Kd.R_drew)); exact HO_3.out⟩, ⟨by (with_reducible repeat (first | refine blk_drewN ?_ _ | refine blk_drew ?_ | refine blk_alloc ?_ _)); exact BK116.out⟩, ⟨(Bg GE116.out)⟩⟩
              case round =>
                clear H'; (try clear p2); (try clear c3); (try clear c4); (try clear c4b0); (try clear c6); (try clear c6b0); (try clear hcz3_0); (try clear hcz3_1); (try clear hcz3_2); (try clear hcz3_3); (try clear hcz5_0); (try clear hcz5_1); (try clear hcz5_2); (try clear hcz5_3); (try clear hfz3_0); (try clear hfz3_1); (try clear hfz3_2); (try clear hfz3_3); (try clear hfz5_0); (try clear hfz5_1); (try clear hfz5_2); (try clear hfz5_3); (try clear p2); obtain ⟨x3_3, x18_3, rfl, HA, HK3, HO_3, BK116, HB⟩ := hrel
                cases gk with
                | zero => exact absurd HA.out (by simp [flow_edges.l2])
                | succ k3 =>
                  have H := HA.out; clear HA; simp only [flow_edges.l2] at H; by_cases c7 : x18_3 < 2
                  · rw [if_pos c7] at H
                    have c7b0 : decide (x18_3 < 2) = true := decide_eq_true c7; clear c7; replace H := Option.bind_eq_some_iff.mp H; obtain ⟨t118, A80, H⟩ := H; replace H : (if t118 = true then (if x3_3.length < 5864062014805 then (flow_edges.l2 k3 (x3_3 ++ [(⟨x15_2, x10_1, x18_3⟩ : S50)]) x10_1 x15_2 a0_1 x10_1 a0_0 x15_2 (wrap64 (x18_3 + 1)) a0_0 a0_1 l0_2 l0_3) else (none)) else (flow_edges.l2 k3 x3_3 x10_1 x15_2 a0_1 x10_1 a0_0 x15_2 (wrap64 (x18_3 + 1)) a0_0 a0_1 l0_2 l0_3)) = some r := H; have A8 := Aside0.mk A80; clear A80; by_cases c9 : t118 = true
                    · subst c9
                      (have H1 : (if x3_3.length < 5864062014805 then (flow_edges.l2 k3 (x3_3 ++ [(⟨x15_2, x10_1, x18_3⟩ : S50)]) x10_1 x15_2 a0_1 x10_1 a0_0 x15_2 (wrap64 (x18_3 + 1)) a0_0 a0_1 l0_2 l0_3) else (none)) = some r := by rw [if_pos rfl] at H; exact H); clear H; have H := H1; clear H1; by_cases c10 : x3_3.length < 5864062014805
                      · rw [if_pos c10] at H
                        have LMc10 := Aside0.mk c10; clear c10; obtain ⟨y119, hy119⟩ : ∃ y_ : List (S50), y_ = (x3_3 ++ [(⟨x15_2, x10_1, x18_3⟩ : S50)]) := ⟨_, rfl⟩; (replace H : (flow_edges.l2 k3 y119 x10_1 x15_2 a0_1 x10_1 a0_0 x15_2 (wrap64 (x18_3 + 1)) a0_0 a0_1 l0_2 l0_3) = some r := by first | (rw [hy119]; with_reducible exact H) | (have H2_ := (Option.bind_some _ _).symm.trans H; rw [hy119]; with_reducible exact H2_) | (have H2_ := (Option.bind_some _ _).symm.trans H; with_reducible exact H2_) | with_reducible exact H | (rw [hy119]; exact H) | exact H); have Ny119 := Aside0.mk hy119; clear hy119; have H' := Aside0.mk H; clear H; (go_wp2_with (first | ((with_reducible refine gate_dst (N := 7) rfl ?_); refine box_event ?hg (N := 7) ?hd (cs := #[.int .i64 0, .int .i64 0, .int .i64 0]) (t := 50) ?hr ?_; (case hd => rfl); (case hg => rfl); (case hr => first | (go_simp; done) | (go_simp; rfl)); intro gb117 hg w11 hbox hb; have n0_ := Aside0.mk (Kd.R_below (Kd.R_elderB (by (with_reducible repeat (first | apply Kd.R_alloc | apply Kd.R_drewN | apply Kd.R_drew)); exact HO_3.out) gb117 (Nat.le_of_eq hg.symm)) hb); have n1_ := Aside0.mk (blk_below (g := gb116) (o := .cells #[.int .i64 a0_0, .int .i64 a0_1, .slice A0_2 l0_2.length c0_2, .slice A0_3 l0_3.length c0_3] 25 (0, 0)) (Bk BK116.out) hb); have n2_ := Aside0.mk (below_step (Bg GE116.out) hb); have n3_ := Aside0.mk (hbox); have n4_ := Aside0.mk ((by rw [hg]; exact (below_size (Bg GE116.out)) : w.heap.size ≤ gb117)); have n5_ := Aside0.mk ((by rw [hg]; exact (below_size (Bg GE116.out)) : w.heap.size ≤ gb117)); have n6_ := Aside0.mk ((by rw [hg]; exact Nat.ne_of_lt (blk_lt (g := gb116) (o := .cells #[.int .i64 a0_0, .int .i64 a0_1, .slice A0_2 l0_2.length c0_2, .slice A0_3 l0_3.length c0_3] 25 (0, 0)) (Bk BK116.out)) : gb116 ≠ gb117)); have n7_ := Aside0.mk ((by rw [hg]; exact Nat.ne_of_gt (blk_lt (g := gb116) (o := .cells #[.int .i64 a0_0, .int .i64 a0_1, .slice A0_2 l0_2.length c0_2, .slice A0_3 l0_3.length c0_3] 25 (0, 0)) (Bk BK116.out)) : gb117 ≠ gb116)); clear HO_3; clear BK116; clear HB; have HO_3 := n0_; have BK116 := n1_; have HB := n2_; have BK117 := n3_; have GW117 := n4_; have GE117 := n5_; have NB116_117 := n6_; have NB117_116 := n7_; clear n0_ n1_ n2_ n3_ n4_ n5_ n6_ n7_; clear hb hbox hg; have hnb12 := NB117_116.out; have hnc12 := NB116_117.out; have hcz13_0 : w11.cell? ⟨gb117, 0, none⟩ = some (.int .i64 0) := (blk_cell BK117.out 0).trans rfl; have hcz13_1 : w11.cell? ⟨gb117, 1, none⟩ = some (.int .i64 0) := (blk_cell BK117.out 1).trans rfl; have hcz13_2 : w11.cell? ⟨gb117, 2, none⟩ = some (.int .i64 0) := (blk_cell BK117.out 2).trans rfl; have hfz13_0 := blk_frozen BK117.out 0; have hfz13_1 := blk_frozen BK117.out 1; have hfz13_2 := blk_frozen BK117.out 2; have hcz14_0 : w11.cell? ⟨gb116, 0, none⟩ = some (.int .i64 a0_0) := (blk_cell BK116.out 0).trans rfl; have hcz14_1 : w11.cell? ⟨gb116, 1, none⟩ = some (.int .i64 a0_1) := (blk_cell BK116.out 1).trans rfl; have hcz14_2 : w11.cell? ⟨gb116, 2, none⟩ = some (.slice A0_2 l0_2.length c0_2) := (blk_cell BK116.out 2).trans rfl; have hcz14_3 : w11.cell? ⟨gb116, 3, none⟩ = some (.slice A0_3 l0_3.length c0_3) := (blk_cell BK116.out 3).trans rfl; have hfz14_0 := blk_frozen BK116.out 0; have hfz14_1 := blk_frozen BK116.out 1; have hfz14_2 := blk_frozen BK116.out 2; have hfz14_3 := blk_frozen BK116.out 3) | ((with_reducible refine gate_callee (f := 28) rfl ?_); refine goesL_ (some 27) rfl rfl Tryd.func28 (by kernel_rfl) rfl #[.agg #[.int .i64 a0_0, .int .i64 a0_1, .slice A0_2 l0_2.length c0_2, .slice A0_3 l0_3.length c0_3], .agg #[.int .i64 x15_2, .int .i64 x10_1, .int .i64 x18_3]] rfl Mp ?_; (with_reducible refine (flow_hasEdge.calls a0_0 a0_1 _ _ l0_2 _ _ l0_3 x15_2 x10_1 x18_3 true _ ?side1 ?side2 ?side3 ?side4 A8.out).mono ?_); (case side1 => exact Kd.C_below HR0_2.out (Bh GE116.out GE117.out)); (case side2 => exact HC0_2.out); (case side3 => exact Kd.C_below HR0_3.out (Bh GE116.out GE117.out)); (case side4 => exact HC0_3.out); rintro e w15 ⟨rfl, hb⟩; refine ⟨_, rfl, ?_⟩; have n0_ := Aside0.mk (Kd.R_below (by (with_reducible repeat (first | apply Kd.R_alloc | apply Kd.R_drewN | apply Kd.R_drew)); exact (Kd.R_mono (Kd.R_far (p := ⟨gb117, 2, none⟩) (Kd.R_far (p := ⟨gb117, 1, none⟩) (Kd.R_far (p := ⟨gb117, 0, none⟩) (Kd.R_mono HO_3.out (fun k_ hk => (⟨hk, hk.2⟩ : _ ∧ k_ ≠ gb117))) (fun _ hk => hk.2) (.int .i64 x15_2)) (fun _ hk => hk.2) (.int .i64 x10_1)) (fun _ hk => hk.2) (.int .i64 x18_3)) (fun _ h_ => h_.1))) hb); have n1_ := Aside0.mk (blk_below (g := gb116) (o := .cells #[.int .i64 a0_0, .int .i64 a0_1, .slice A0_2 l0_2.length c0_2, .slice A0_3 l0_3.length c0_3] 25 (0, 0)) (by (with_reducible repeat (first | refine blk_drewN ?_ _ | refine blk_drew ?_ | refine blk_alloc ?_ _)); refine blk_far ?_ NB116_117.out _; (with_reducible repeat (first | refine blk_drewN ?_ _ | refine blk_drew ?_ | refine blk_alloc ?_ _)); refine blk_far ?_ NB116_117.out _; (with_reducible repeat (first | refine blk_drewN ?_ _ | refine blk_drew ?_ | refine blk_alloc ?_ _)); refine blk_far ?_ NB116_117.out _; (with_reducible repeat (first | refine blk_drewN ?_ _ | refine blk_drew ?_ | refine blk_alloc ?_ _)); exact BK116.out) hb); have n2_ := Aside0.mk (blk_below (g := gb117) (o := .cells #[.int .i64 x15_2, .int .i64 x10_1, .int .i64 x18_3] 50 (0, 0)) (by (with_reducible repeat (first | refine blk_drewN ?_ _ | refine blk_drew ?_ | refine blk_alloc ?_ _)); refine blk_put (cs := #[.int .i64 x15_2, .int .i64 x10_1, .int .i64 0]) ?_ 2 _ rfl; (with_reducible repeat (first | refine blk_drewN ?_ _ | refine blk_drew ?_ | refine blk_alloc ?_ _)); refine blk_put (cs := #[.int .i64 x15_2, .int .i64 0, .int .i64 0]) ?_ 1 _ rfl; (with_reducible repeat (first | refine blk_drewN ?_ _ | refine blk_drew ?_ | refine blk_alloc ?_ _)); refine blk_put (cs := #[.int .i64 0, .int .i64 0, .int .i64 0]) ?_ 0 _ rfl; (with_reducible repeat (first | refine blk_drewN ?_ _ | refine blk_drew ?_ | refine blk_alloc ?_ _)); exact BK117.out) hb); have n3_ := Aside0.mk (below_step (Bh GE116.out GE117.out) hb); clear HO_3; clear BK116; clear BK117; clear HB; have HO_3 := n0_; have BK116 := n1_; have BK117 := n2_; have HB := n3_; clear n0_ n1_ n2_ n3_; (try clear hb); (try clear hb2); (try clear hk); (try clear hi); have hcz16_0 : w15.cell? ⟨gb117, 0, none⟩ = some (.int .i64 x15_2) := (blk_cell BK117.out 0).trans rfl; have hcz16_1 : w15.cell? ⟨gb117, 1, none⟩ = some (.int .i64 x10_1) := (blk_cell BK117.out 1).trans rfl; have hcz16_2 : w15.cell? ⟨gb117, 2, none⟩ = some (.int .i64 x18_3) := (blk_cell BK117.out 2).trans rfl; have hfz16_0 := blk_frozen BK117.out 0; have hfz16_1 := blk_frozen BK117.out 1; have hfz16_2 := blk_frozen BK117.out 2) | ((with_reducible refine gate_builtin (b := .append) (xs := #[.tmp 28, .tmp 30]) rfl ?_); at_builtin; refine Kd.R_append k50 (w0 := w) w.heap.size rfl (.tmp 28) (.tmp 30) 23 50 (.agg #[(.int .i64 0), (.int .i64 0), (.int .i64 0)]) 24 rfl Tryd.underlying23 info50 rfl (by decide) (by omega) u3 x3_3 (⟨x15_2, x10_1, x18_3⟩ : S50) [.int .i64 x15_2, .int .i64 x10_1, .int .i64 x18_3] (fun k_ => k_ ≠ gb117) (fun _ => False) rfl rfl ?aP (fun _ hk => hk.elim) ?aF ?aO ?aB ?aS ?aL ?_; (case aP => exact k50_mkM _ _ _ (⟨x15_2, x10_1, x18_3⟩ : S50)); (case aB => exact (Bh GE116.out GE117.out)); (case aF => exact (fun k_ hk => Kd.freshB (g := gb117) (o := .cells #[.int .i64 x15_2, .int .i64 x10_1, .int .i64 x18_3] 50 (0, 0)) (Bk BK117.out) k_ hk)); (case aO => exact (by (with_reducible repeat (first | apply Kd.R_alloc | apply Kd.R_drewN | apply Kd.R_drew)); exact Kd.R_mono HO_3.out (fun _ hk => hk.2))); (case aS => exact (below_size (Bh GE116.out GE117.out))); (case aL => have := LMc10.out; omega); intro v120 w17 ho hb hg hat; rw [← Ny119.out] at ho; have n0_ := Aside0.mk (blk_grown (g := gb116) (o := .cells #[.int .i64 a0_0, .int .i64 a0_1, .slice A0_2 l0_2.length c0_2, .slice A0_3 l0_3.length c0_3] 25 (0, 0)) (Bk BK116.out) hg (Kd.R_ne HO_3.out BK116.out (by decide))); have n1_ := Aside0.mk (blk_grown (g := gb117) (o := .cells #[.int .i64 x15_2, .int .i64 x10_1, .int .i64 x18_3] 50 (0, 0)) (Bk BK117.out) hg (Kd.R_away HO_3.out (fun _ hk => hk.2))); have n2_ := Aside0.mk (hb); have n3_ := Aside0.mk (ho); clear BK116; clear BK117; clear HB; clear HO_3; have BK116 := n0_; have BK117 := n1_; have HB := n2_; have HO121 := n3_; clear n0_ n1_ n2_ n3_; clear ho hb hg hat)))
                        go_roundg k3
                        case measure => have := HK1.out; have := HK2.out; have := HK3.out; omega
                        case rel => exact ⟨(y119), (wrap64 (x18_3 + 1)), Rf, H', ⟨by have := HK1.out; have := HK2.out; have := HK3.out; omega⟩, ⟨by (with_reducible repeat (first | apply Kd.R_alloc | apply Kd.R_drewN | apply Kd.R_drew)); exact Kd.R_mono HO121.out (fun _ hk => trivial)⟩, ⟨by (with_reducible repeat (first | refine blk_drewN ?_ _ | refine blk_drew ?_ | refine blk_alloc ?_ _)); exact BK116.out⟩, ⟨(Bh GE116.out GE117.out)⟩⟩
                      · rw [if_neg c10] at H
                        exact absurd H (by simp)
                    · replace c9 := Bool.eq_false_iff.mpr c9
                      subst c9; (have H1 : (flow_edges.l2 k3 x3_3 x10_1 x15_2 a0_1 x10_1 a0_0 x15_2 (wrap64 (x18_3 + 1)) a0_0 a0_1 l0_2 l0_3) = some r := by rw [if_neg (show ¬ (false = true) by decide)] at H; exact H); clear H; have H := H1; clear H1; have H' := Aside0.mk H; clear H; (go_wp2_with (first | ((with_reducible refine gate_dst (N := 7) rfl ?_); refine box_event ?hg (N := 7) ?hd (cs := #[.int .i64 0, .int .i64 0, .int .i64 0]) (t := 50) ?hr ?_; (case hd => rfl); (case hg => rfl); (case hr => first | (go_simp; done) | (go_simp; rfl)); intro gb117 hg w18 hbox hb; have n0_ := Aside0.mk (Kd.R_below (Kd.R_elderB (by (with_reducible repeat (first | apply Kd.R_alloc | apply Kd.R_drewN | apply Kd.R_drew)); exact HO_3.out) gb117 (Nat.le_of_eq hg.symm)) hb); have n1_ := Aside0.mk (blk_below (g := gb116) (o := .cells #[.int .i64 a0_0, .int .i64 a0_1, .slice A0_2 l0_2.length c0_2, .slice A0_3 l0_3.length c0_3] 25 (0, 0)) (Bk BK116.out) hb); have n2_ := Aside0.mk (below_step (Bg GE116.out) hb); have n3_ := Aside0.mk (hbox); have n4_ := Aside0.mk ((by rw [hg]; exact (below_size (Bg GE116.out)) : w.heap.size ≤ gb117)); have n5_ := Aside0.mk ((by rw [hg]; exact (below_size (Bg GE116.out)) : w.heap.size ≤ gb117)); have n6_ := Aside0.mk ((by rw [hg]; exact Nat.ne_of_lt (blk_lt (g := gb116) (o := .cells #[.int .i64 a0_0, .int .i64 a0_1, .slice A0_2 l0_2.length c0_2, .slice A0_3 l0_3.length c0_3] 25 (0, 0)) (Bk BK116.out)) : gb116 ≠ gb117)); have n7_ := Aside0.mk ((by rw [hg]; exact Nat.ne_of_gt (blk_lt (g := gb116) (o := .cells #[.int .i64 a0_0, .int .i64 a0_1, .slice A0_2 l0_2.length c0_2, .slice A0_3 l0_3.length c0_3] 25 (0, 0)) (Bk BK116.out)) : gb117 ≠ gb116)); clear HO_3; clear BK116; clear HB; have HO_3 := n0_; have BK116 := n1_; have HB := n2_; have BK117 := n3_; have GW117 := n4_; have GE117 := n5_; have NB116_117 := n6_; have NB117_116 := n7_; clear n0_ n1_ n2_ n3_ n4_ n5_ n6_ n7_; clear hb hbox hg; have hnb19 := NB117_116.out; have hnc19 := NB116_117.out; have hcz20_0 : w18.cell? ⟨gb117, 0, none⟩ = some (.int .i64 0) := (blk_cell BK117.out 0).trans rfl; have hcz20_1 : w18.cell? ⟨gb117, 1, none⟩ = some (.int .i64 0) := (blk_cell BK117.out 1).trans rfl; have hcz20_2 : w18.cell? ⟨gb117, 2, none⟩ = some (.int .i64 0) := (blk_cell BK117.out 2).trans rfl; have hfz20_0 := blk_frozen BK117.out 0; have hfz20_1 := blk_frozen BK117.out 1; have hfz20_2 := blk_frozen BK117.out 2; have hcz21_0 : w18.cell? ⟨gb116, 0, none⟩ = some (.int .i64 a0_0) := (blk_cell BK116.out 0).trans rfl; have hcz21_1 : w18.cell? ⟨gb116, 1, none⟩ = some (.int .i64 a0_1) := (blk_cell BK116.out 1).trans rfl; have hcz21_2 : w18.cell? ⟨gb116, 2, none⟩ = some (.slice A0_2 l0_2.length c0_2) := (blk_cell BK116.out 2).trans rfl; have hcz21_3 : w18.cell? ⟨gb116, 3, none⟩ = some (.slice A0_3 l0_3.length c0_3) := (blk_cell BK116.out 3).trans rfl; have hfz21_0 := blk_frozen BK116.out 0; have hfz21_1 := blk_frozen BK116.out 1; have hfz21_2 := blk_frozen BK116.out 2; have hfz21_3 := blk_frozen BK116.out 3) | ((with_reducible refine gate_callee (f := 28) rfl ?_); refine goesL_ (some 27) rfl rfl Tryd.func28 (by kernel_rfl) rfl #[.agg #[.int .i64 a0_0, .int .i64 a0_1, .slice A0_2 l0_2.length c0_2, .slice A0_3 l0_3.length c0_3], .agg #[.int .i64 x15_2, .int .i64 x10_1, .int .i64 x18_3]] rfl Mp ?_; (with_reducible refine (flow_hasEdge.calls a0_0 a0_1 _ _ l0_2 _ _ l0_3 x15_2 x10_1 x18_3 false _ ?side1 ?side2 ?side3 ?side4 A8.out).mono ?_); (case side1 => exact Kd.C_below HR0_2.out (Bh GE116.out GE117.out)); (case side2 => exact HC0_2.out); (case side3 => exact Kd.C_below HR0_3.out (Bh GE116.out GE117.out)); (case side4 => exact HC0_3.out); rintro e w22 ⟨rfl, hb⟩; refine ⟨_, rfl, ?_⟩; have n0_ := Aside0.mk (Kd.R_below (by (with_reducible repeat (first | apply Kd.R_alloc | apply Kd.R_drewN | apply Kd.R_drew)); exact (Kd.R_mono (Kd.R_far (p := ⟨gb117, 2, none⟩) (Kd.R_far (p := ⟨gb117, 1, none⟩) (Kd.R_far (p := ⟨gb117, 0, none⟩) (Kd.R_mono HO_3.out (fun k_ hk => (⟨hk, hk.2⟩ : _ ∧ k_ ≠ gb117))) (fun _ hk => hk.2) (.int .i64 x15_2)) (fun _ hk => hk.2) (.int .i64 x10_1)) (fun _ hk => hk.2) (.int .i64 x18_3)) (fun _ h_ => h_.1))) hb); have n1_ := Aside0.mk (blk_below (g := gb116) (o := .cells #[.int .i64 a0_0, .int .i64 a0_1, .slice A0_2 l0_2.length c0_2, .slice A0_3 l0_3.length c0_3] 25 (0, 0)) (by (with_reducible repeat (first | refine blk_drewN ?_ _ | refine blk_drew ?_ | refine blk_alloc ?_ _)); refine blk_far ?_ NB116_117.out _; (with_reducible repeat (first | refine blk_drewN ?_ _ | refine blk_drew ?_ | refine blk_alloc ?_ _)); refine blk_far ?_ NB116_117.out _; (with_reducible repeat (first | refine blk_drewN ?_ _ | refine blk_drew ?_ | refine blk_alloc ?_ _)); refine blk_far ?_ NB116_117.out _; (with_reducible repeat (first | refine blk_drewN ?_ _ | refine blk_drew ?_ | refine blk_alloc ?_ _)); exact BK116.out) hb); have n2_ := Aside0.mk (blk_below (g := gb117) (o := .cells #[.int .i64 x15_2, .int .i64 x10_1, .int .i64 x18_3] 50 (0, 0)) (by (with_reducible repeat (first | refine blk_drewN ?_ _ | refine blk_drew ?_ | refine blk_alloc ?_ _)); refine blk_put (cs := #[.int .i64 x15_2, .int .i64 x10_1, .int .i64 0]) ?_ 2 _ rfl; (with_reducible repeat (first | refine blk_drewN ?_ _ | refine blk_drew ?_ | refine blk_alloc ?_ _)); refine blk_put (cs := #[.int .i64 x15_2, .int .i64 0, .int .i64 0]) ?_ 1 _ rfl; (with_reducible repeat (first | refine blk_drewN ?_ _ | refine blk_drew ?_ | refine blk_alloc ?_ _)); refine blk_put (cs := #[.int .i64 0, .int .i64 0, .int .i64 0]) ?_ 0 _ rfl; (with_reducible repeat (first | refine blk_drewN ?_ _ | refine blk_drew ?_ | refine blk_alloc ?_ _)); exact BK117.out) hb); have n3_ := Aside0.mk (below_step (Bh GE116.out GE117.out) hb); clear HO_3; clear BK116; clear BK117; clear HB; have HO_3 := n0_; have BK116 := n1_; have BK117 := n2_; have HB := n3_; clear n0_ n1_ n2_ n3_; (try clear hb); (try clear hb2); (try clear hk); (try clear hi))))
                      go_roundg k3
                      case measure => have := HK1.out; have := HK2.out; have := HK3.out; omega
                      case rel => exact ⟨(x3_3), (wrap64 (x18_3 + 1)), Rf, H', ⟨by have := HK1.out; have := HK2.out; have := HK3.out; omega⟩, ⟨by (with_reducible repeat (first | apply Kd.R_alloc | apply Kd.R_drewN | apply Kd.R_drew)); exact Kd.R_mono HO_3.out (fun _ hk => trivial)⟩, ⟨by (with_reducible repeat (first | refine blk_drewN ?_ _ | refine blk_drew ?_ | refine blk_alloc ?_ _)); exact BK116.out⟩, ⟨(Bh GE116.out GE117.out)⟩⟩
                  · rw [if_neg c7] at H
                    have c7b0 : decide (x18_3 < 2) = false := decide_eq_false c7; clear c7; have H' := Aside0.mk H; clear H; go_wp2; go_roundg k3
                    case measure => have := HK1.out; have := HK2.out; have := HK3.out; omega
                    case rel => exact ⟨(x3_3), (wrap64 (x15_2 + 1)), Rf, H', ⟨by have := HK1.out; have := HK2.out; have := HK3.out; omega⟩, ⟨by (with_reducible repeat (first | apply Kd.R_alloc | apply Kd.R_drewN | apply Kd.R_drew)); exact HO_3.out⟩, ⟨by (with_reducible repeat (first | refine blk_drewN ?_ _ | refine blk_drew ?_ | refine blk_alloc ?_ _)); exact BK116.out⟩, ⟨(Bg GE116.out)⟩⟩
            · rw [if_neg c6] at H
              have c6b0 : decide (x15_2 < a0_0) = false := decide_eq_false c6; clear c6; have H' := Aside0.mk H; clear H; go_wp2; go_roundg k2
              case measure => have := HK1.out; have := HK2.out; omega
              case rel => exact ⟨(x3_2), (wrap64 (x10_1 + 1)), Rf, H', ⟨by have := HK1.out; have := HK2.out; omega⟩, ⟨by (with_reducible repeat (first | apply Kd.R_alloc | apply Kd.R_drewN | apply Kd.R_drew)); exact HO_3.out⟩, ⟨by (with_reducible repeat (first | refine blk_drewN ?_ _ | refine blk_drew ?_ | refine blk_alloc ?_ _)); exact BK116.out⟩, ⟨(Bg GE116.out)⟩⟩
      · rw [if_neg c4] at H
        have c4b0 : decide (x10_1 < a0_1) = false := decide_eq_false c4; clear c4; obtain rfl := Option.some.inj H; go_wp2; go_ret; (exact ⟨_, by first | rfl | (simp [errW_none, errW_some] <;> rfl) | (simp [*, errW_none, errW_some] <;> rfl), by (with_reducible repeat (first | apply Kd.R_alloc | apply Kd.R_drewN | apply Kd.R_drew)); exact HO_3.out, (Bg GE116.out)⟩)
end Go.Proofs.YtfpikmeiooangaaDoor.PFlowTexts
end
section
namespace Go.Proofs.YtfpikmeiooangaaDoor.PFlowTexts
open Go.RowKit Go.Proofs.YtfpikmeiooangaaDoorW.PrintWords Go.Proofs.YtfpikmeiooangaaDoorW.PrintLast Go.Proofs.YtfpikmeiooangaaDoorW.PrintMore
mutual
def wigmakerref03_edges.l0 : Nat → List (S50) → Int → Int → Int → List Int → List (S50) → Option ((List (S50)))
  | 0, _, _, _, _, _, _ => none
  | k + 1, x3, x4, x203000, x203001, x203002, x203003 => if x4 < x203000 then (wigmakerref03_edges.l1 k x3 x4 0 x203000 x203001 x203002 x203003) else (some x3)
def wigmakerref03_edges.l1 : Nat → List (S50) → Int → Int → Int → Int → List Int → List (S50) → Option ((List (S50)))
  | 0, _, _, _, _, _, _, _ => none
  | k + 1, x3, x4, x5, x203000, x203001, x203002, x203003 => if x5 < x203001 then (wigmakerref03_edges.l2 k x3 x4 x5 0 x203000 x203001 x203002 x203003) else (wigmakerref03_edges.l0 k x3 (wrap64 (x4 + 1)) x203000 x203001 x203002 x203003)
def wigmakerref03_edges.l2 : Nat → List (S50) → Int → Int → Int → Int → Int → List Int → List (S50) → Option ((List (S50)))
  | 0, _, _, _, _, _, _, _, _ => none
  | k + 1, x3, x4, x5, x6, x203000, x203001, x203002, x203003 => if x6 < 2 then ((wigmakerref03_isEdge.f x203000 x203001 x203002 x203003 x4 x5 x6).bind fun t204 => (if t204 = true then (if x3.length < 5864062014805 then (wigmakerref03_edges.l2 k (x3 ++ [(⟨x4, x5, x6⟩ : S50)]) x4 x5 (wrap64 (x6 + 1)) x203000 x203001 x203002 x203003) else (none)) else (wigmakerref03_edges.l2 k x3 x4 x5 (wrap64 (x6 + 1)) x203000 x203001 x203002 x203003))) else (wigmakerref03_edges.l1 k x3 x4 (wrap64 (x5 + 1)) x203000 x203001 x203002 x203003)
end
def wigmakerref03_edges.f (k : Nat) (a0_0 : Int) (a0_1 : Int) (l0_2 : List Int) (l0_3 : List (S50)) : Option ((List (S50))) := wigmakerref03_edges.l0 k ([] : List (S50)) 0 a0_0 a0_1 l0_2 l0_3
set_option maxHeartbeats 8000000 in
set_option maxRecDepth 100000 in
theorem wigmakerref03_edges.calls (k : Nat) (a0_0 : Int) (a0_1 : Int) (A0_2 : Option Addr) (c0_2 : Nat) (l0_2 : List Int) (A0_3 : Option Addr) (c0_3 : Nat) (l0_3 : List (S50)) (r : List (S50)) (w : World) (hr0_2 : Kd.C (Kd.int .i64) w A0_2 l0_2.length l0_2) (hc0_2 : l0_2.length ≤ c0_2) (hr0_3 : Kd.C k50 w A0_3 l0_3.length l0_3) (hc0_3 : l0_3.length ≤ c0_3) (h : wigmakerref03_edges.f k a0_0 a0_1 l0_2 l0_3 = some r) :
    Calls Tryd.prog 37 #[.agg #[.int .i64 a0_0, .int .i64 a0_1, .slice A0_2 l0_2.length c0_2, .slice A0_3 l0_3.length c0_3]] w fun e w' => ∃ v0_ : Value, e = .returned (v0_) ∧ Kd.R k50 50 w' w.heap.size (fun _ => True) v0_ r ∧ Below w.heap.size w w' := by
  have hu25 := Tryd.underlying25; have hu50 := Tryd.underlying50; have HR0_2 := Aside0.mk hr0_2; have HC0_2 := Aside0.mk hc0_2; clear hr0_2 hc0_2; have HR0_3 := Aside0.mk hr0_3; have HC0_3 := Aside0.mk hc0_3; clear hr0_3 hc0_3; have HB := Aside0.mk (Below.refl w.heap.size w); have H : (wigmakerref03_edges.l0 k ([] : List (S50)) 0 a0_0 a0_1 l0_2 l0_3) = some r := h; clear h; have H' := Aside0.mk H; clear H; go_enter Tryd.func37, Tryd.ntmps37; (go_wp2_with (first | ((with_reducible refine gate_dst (N := 1) rfl ?_); refine box_event ?hg (N := 1) ?hd (cs := #[.int .i64 a0_0, .int .i64 a0_1, .slice A0_2 l0_2.length c0_2, .slice A0_3 l0_3.length c0_3]) (t := 25) ?hr ?_; (case hd => rfl); (case hg => rfl); (case hr => first | (go_simp; done) | (go_simp; rfl)); intro gb202 hg w2 hbox hb; have n0_ := Aside0.mk (below_step Bq hb); have n1_ := Aside0.mk (hbox); have n2_ := Aside0.mk ((by rw [hg]; exact (below_size Bq) : w.heap.size ≤ gb202)); have n3_ := Aside0.mk ((by rw [hg]; exact (below_size Bq) : w.heap.size ≤ gb202)); clear HB; have HB := n0_; have BK202 := n1_; have GW202 := n2_; have GE202 := n3_; clear n0_ n1_ n2_ n3_; clear hb hbox hg))); (go_loopg [3, 4] k (fun kq v3 v4 w' => ∃ (x3_1 : List (S50)) (x4_1 : Int), v4 = .int .i64 x4_1 ∧ Aside0 (wigmakerref03_edges.l0 kq x3_1 x4_1 a0_0 a0_1 l0_2 l0_3 = some r) ∧ Aside0 (kq ≤ k) ∧ Aside0 (Kd.R k50 50 w' w.heap.size (fun _ => True) v3 x3_1) ∧ Aside0 (w'.heap[gb202]? = some (.cells #[.int .i64 a0_0, .int .i64 a0_1, (.slice A0_2 l0_2.length c0_2), (.slice A0_3 l0_3.length c0_3)] 25 (0, 0))) ∧ Aside0 (Below w.heap.size w w')))
  case atStart => exact ⟨(([] : List (S50))), (0), Rf, H', ⟨Nat.le_refl _⟩, ⟨by first | exact Kd.R_nil _ _ _ _ _ | exact Kd.N_nil _ _ _ _ _ | exact Kd.V_nil _ _ _ _ _ | exact Kd.Q_nil _ _ _ _ _ | exact Kd.S_nil _ _ _ _ _⟩, ⟨by (with_reducible repeat (first | refine blk_drewN ?_ _ | refine blk_drew ?_ | refine blk_alloc ?_ _)); exact BK202.out⟩, ⟨(Bg GE202.out)⟩⟩
  case round =>
    clear H'; (try clear p2); obtain ⟨x3_1, x4_1, rfl, HA, HK1, HO_3, BK202, HB⟩ := hrel
    cases gk with
    | zero => exact absurd HA.out (by simp [wigmakerref03_edges.l0])
    | succ k1 =>
      have H := HA.out; clear HA; simp only [wigmakerref03_edges.l0] at H; by_cases c3 : x4_1 < a0_0
      · rw [if_pos c3] at H
        have c3b0 : decide (x4_1 < a0_0) = true := decide_eq_true c3; clear c3; have H' := Aside0.mk H; clear H; have hcz4_0 : wr.cell? ⟨gb202, 0, none⟩ = some (.int .i64 a0_0) := (blk_cell BK202.out 0).trans rfl; have hcz4_1 : wr.cell? ⟨gb202, 1, none⟩ = some (.int .i64 a0_1) := (blk_cell BK202.out 1).trans rfl; have hcz4_2 : wr.cell? ⟨gb202, 2, none⟩ = some (.slice A0_2 l0_2.length c0_2) := (blk_cell BK202.out 2).trans rfl; have hcz4_3 : wr.cell? ⟨gb202, 3, none⟩ = some (.slice A0_3 l0_3.length c0_3) := (blk_cell BK202.out 3).trans rfl; have hfz4_0 := blk_frozen BK202.out 0; have hfz4_1 := blk_frozen BK202.out 1; have hfz4_2 := blk_frozen BK202.out 2; have hfz4_3 := blk_frozen BK202.out 3; go_wp2; (go_loopg [3, 5] k1 (fun kq v3 v5 w' => ∃ (x3_2 : List (S50)) (x5_2 : Int), v5 = .int .i64 x5_2 ∧ Aside0 (wigmakerref03_edges.l1 kq x3_2 x4_1 x5_2 a0_0 a0_1 l0_2 l0_3 = some r) ∧ Aside0 (kq ≤ k1) ∧ Aside0 (Kd.R k50 50 w' w.heap.size (fun _ => True) v3 x3_2) ∧ Aside0 (w'.heap[gb202]? = some (.cells #[.int .i64 a0_0, .int .i64 a0_1, (.slice A0_2 l0_2.length c0_2), (.slice A0_3 l0_3.length c0_3)] 25 (0, 0))) ∧ Aside0 (Below w.heap.size w w')))
        case atStart => exact ⟨(x3_1), (0), Rf, H', ⟨Nat.le_refl _⟩, ⟨by (with_reducible repeat (first | apply Kd.R_alloc | apply Kd.R_drewN | apply Kd.R_drew)); exact HO_3.out⟩, ⟨by (with_reducible repeat (first | refine blk_drewN ?_ _ | refine blk_drew ?_ | refine blk_alloc ?_ _)); exact BK202.out⟩, ⟨(Bg GE202.out)⟩⟩
        case round =>
          clear H'; (try clear p2); (try clear c3); (try clear c3b0); (try clear hcz4_0); (try clear hcz4_1); (try clear hcz4_2); (try clear hcz4_3); (try clear hfz4_0); (try clear hfz4_1); (try clear hfz4_2); (try clear hfz4_3); (try clear p2); obtain ⟨x3_2, x5_2, rfl, HA, HK2, HO_3, BK202, HB⟩ := hrel
          cases gk with
          | zero => exact absurd HA.out (by simp [wigmakerref03_edges.l1])
          | succ k2 =>
            have H := HA.out; clear HA; simp only [wigmakerref03_edges.l1] at H; by_cases c5 : x5_2 < a0_1
            · rw [if_pos c5] at H
              have c5b0 : decide (x5_2 < a0_1) = true := decide_eq_true c5; clear c5; have H' := Aside0.mk H; clear H; have hcz6_0 : wr.cell? ⟨gb202, 0, none⟩ = some (.int .i64 a0_0) := (blk_cell BK202.out 0).trans rfl; have hcz6_1 : wr.cell? ⟨gb202, 1, none⟩ = some (.int .i64 a0_1) := (blk_cell BK202.out 1).trans rfl; have hcz6_2 : wr.cell? ⟨gb202, 2, none⟩ = some (.slice A0_2 l0_2.length c0_2) := (blk_cell BK202.out 2).trans rfl; have hcz6_3 : wr.cell? ⟨gb202, 3, none⟩ = some (.slice A0_3 l0_3.length c0_3) := (blk_cell BK202.out 3).trans rfl; have hfz6_0 := blk_frozen BK202.out 0; have hfz6_1 := blk_frozen BK202.out 1; have hfz6_2 := blk_frozen BK202.out 2; have hfz6_3 := blk_frozen BK202.out 3; go_wp2; (go_loopg [3, 6] k2 (fun kq v3 v6 w' => ∃ (x3_3 : List (S50)) (x6_3 : Int), v6 = .int .i64 x6_3 ∧ Aside0 (wigmakerref03_edges.l2 kq x3_3 x4_1 x5_2 x6_3 a0_0 a0_1 l0_2 l0_3 = some r) ∧ Aside0 (kq ≤ k2) ∧ Aside0 (Kd.R k50 50 w' w.heap.size (fun _ => True) v3 x3_3) ∧ Aside0 (w'.heap[gb202]? = some (.cells #[.int .i64 a0_0, .int .i64 a0_1, (.slice A0_2 l0_2.length c0_2), (.slice A0_3 l0_3.length c0_3)] 25 (0, 0))) ∧ Aside0 (Below w.heap.size w w')))
              case atStart => exact ⟨(x3_2), (0), Rf, H', ⟨Nat.le_refl _⟩, ⟨by (with_reducible repeat (first | apply Kd.R_alloc | apply Kd.R_drewN | apply Kd.R_drew)); exact HO_3.out⟩, ⟨by (with_reducible repeat (first | refine blk_drewN ?_ _ | refine blk_drew ?_ | refine blk_alloc ?_ _)); exact BK202.out⟩, ⟨(Bg GE202.out)⟩⟩
              case round =>
                clear H'; (try clear p2); (try clear c3); (try clear c3b0); (try clear c5); (try clear c5b0); (try clear hcz4_0); (try clear hcz4_1); (try clear hcz4_2); (try clear hcz4_3); (try clear hcz6_0); (try clear hcz6_1); (try clear hcz6_2); (try clear hcz6_3); (try clear hfz4_0); (try clear hfz4_1); (try clear hfz4_2); (try clear hfz4_3); (try clear hfz6_0); (try clear hfz6_1); (try clear hfz6_2); (try clear hfz6_3); (try clear p2); obtain ⟨x3_3, x6_3, rfl, HA, HK3, HO_3, BK202, HB⟩ := hrel
                cases gk with
                | zero => exact absurd HA.out (by simp [wigmakerref03_edges.l2])
                | succ k3 =>
                  have H := HA.out; clear HA; simp only [wigmakerref03_edges.l2] at H; by_cases c7 : x6_3 < 2
                  · rw [if_pos c7] at H
                    have c7b0 : decide (x6_3 < 2) = true := decide_eq_true c7; clear c7; replace H := Option.bind_eq_some_iff.mp H; obtain ⟨t204, A80, H⟩ := H; replace H : (if t204 = true then (if x3_3.length < 5864062014805 then (wigmakerref03_edges.l2 k3 (x3_3 ++ [(⟨x4_1, x5_2, x6_3⟩ : S50)]) x4_1 x5_2 (wrap64 (x6_3 + 1)) a0_0 a0_1 l0_2 l0_3) else (none)) else (wigmakerref03_edges.l2 k3 x3_3 x4_1 x5_2 (wrap64 (x6_3 + 1)) a0_0 a0_1 l0_2 l0_3)) = some r := H; have A8 := Aside0.mk A80; clear A80; by_cases c9 : t204 = true
                    · subst c9
                      (have H1 : (if x3_3.length < 5864062014805 then (wigmakerref03_edges.l2 k3 (x3_3 ++ [(⟨x4_1, x5_2, x6_3⟩ : S50)]) x4_1 x5_2 (wrap64 (x6_3 + 1)) a0_0 a0_1 l0_2 l0_3) else (none)) = some r := by rw [if_pos rfl] at H; exact H); clear H; have H := H1; clear H1; by_cases c10 : x3_3.length < 5864062014805
                      · rw [if_pos c10] at H
                        have LMc10 := Aside0.mk c10; clear c10; obtain ⟨y205, hy205⟩ : ∃ y_ : List (S50), y_ = (x3_3 ++ [(⟨x4_1, x5_2, x6_3⟩ : S50)]) := ⟨_, rfl⟩; (replace H : (wigmakerref03_edges.l2 k3 y205 x4_1 x5_2 (wrap64 (x6_3 + 1)) a0_0 a0_1 l0_2 l0_3) = some r := by first | (rw [hy205]; with_reducible exact H) | (have H2_ := (Option.bind_some _ _).symm.trans H; rw [hy205]; with_reducible exact H2_) | (have H2_ := (Option.bind_some _ _).symm.trans H; with_reducible exact H2_) | with_reducible exact H | (rw [hy205]; exact H) | exact H); have Ny205 := Aside0.mk hy205; clear hy205; have H' := Aside0.mk H; clear H; (go_wp2_with (first | ((with_reducible refine gate_dst (N := 7) rfl ?_); refine box_event ?hg (N := 7) ?hd (cs := #[.int .i64 0, .int .i64 0, .int .i64 0]) (t := 50) ?hr ?_; (case hd => rfl); (case hg => rfl); (case hr => first | (go_simp; done) | (go_simp; rfl)); intro gb203 hg w11 hbox hb; have n0_ := Aside0.mk (Kd.R_below (Kd.R_elderB (by (with_reducible repeat (first | apply Kd.R_alloc | apply Kd.R_drewN | apply Kd.R_drew)); exact HO_3.out) gb203 (Nat.le_of_eq hg.symm)) hb); have n1_ := Aside0.mk (blk_below (g := gb202) (o := .cells #[.int .i64 a0_0, .int .i64 a0_1, .slice A0_2 l0_2.length c0_2, .slice A0_3 l0_3.length c0_3] 25 (0, 0)) (Bk BK202.out) hb); have n2_ := Aside0.mk (below_step (Bg GE202.out) hb); have n3_ := Aside0.mk (hbox); have n4_ := Aside0.mk ((by rw [hg]; exact (below_size (Bg GE202.out)) : w.heap.size ≤ gb203)); have n5_ := Aside0.mk ((by rw [hg]; exact (below_size (Bg GE202.out)) : w.heap.size ≤ gb203)); have n6_ := Aside0.mk ((by rw [hg]; exact Nat.ne_of_lt (blk_lt (g := gb202) (o := .cells #[.int .i64 a0_0, .int .i64 a0_1, .slice A0_2 l0_2.length c0_2, .slice A0_3 l0_3.length c0_3] 25 (0, 0)) (Bk BK202.out)) : gb202 ≠ gb203)); have n7_ := Aside0.mk ((by rw [hg]; exact Nat.ne_of_gt (blk_lt (g := gb202) (o := .cells #[.int .i64 a0_0, .int .i64 a0_1, .slice A0_2 l0_2.length c0_2, .slice A0_3 l0_3.length c0_3] 25 (0, 0)) (Bk BK202.out)) : gb203 ≠ gb202)); clear HO_3; clear BK202; clear HB; have HO_3 := n0_; have BK202 := n1_; have HB := n2_; have BK203 := n3_; have GW203 := n4_; have GE203 := n5_; have NB202_203 := n6_; have NB203_202 := n7_; clear n0_ n1_ n2_ n3_ n4_ n5_ n6_ n7_; clear hb hbox hg; have hnb12 := NB203_202.out; have hnc12 := NB202_203.out; have hcz13_0 : w11.cell? ⟨gb203, 0, none⟩ = some (.int .i64 0) := (blk_cell BK203.out 0).trans rfl; have hcz13_1 : w11.cell? ⟨gb203, 1, none⟩ = some (.int .i64 0) := (blk_cell BK203.out 1).trans rfl; have hcz13_2 : w11.cell? ⟨gb203, 2, none⟩ = some (.int .i64 0) := (blk_cell BK203.out 2).trans rfl; have hfz13_0 := blk_frozen BK203.out 0; have hfz13_1 := blk_frozen BK203.out 1; have hfz13_2 := blk_frozen BK203.out 2; have hcz14_0 : w11.cell? ⟨gb202, 0, none⟩ = some (.int .i64 a0_0) := (blk_cell BK202.out 0).trans rfl; have hcz14_1 : w11.cell? ⟨gb202, 1, none⟩ = some (.int .i64 a0_1) := (blk_cell BK202.out 1).trans rfl; have hcz14_2 : w11.cell? ⟨gb202, 2, none⟩ = some (.slice A0_2 l0_2.length c0_2) := (blk_cell BK202.out 2).trans rfl; have hcz14_3 : w11.cell? ⟨gb202, 3, none⟩ = some (.slice A0_3 l0_3.length c0_3) := (blk_cell BK202.out 3).trans rfl; have hfz14_0 := blk_frozen BK202.out 0; have hfz14_1 := blk_frozen BK202.out 1; have hfz14_2 := blk_frozen BK202.out 2; have hfz14_3 := blk_frozen BK202.out 3) | ((with_reducible refine gate_callee (f := 35) rfl ?_); refine goesL_ (some 30) rfl rfl Tryd.func35 (by kernel_rfl) rfl #[.agg #[.int .i64 a0_0, .int .i64 a0_1, .slice A0_2 l0_2.length c0_2, .slice A0_3 l0_3.length c0_3], .agg #[.int .i64 x4_1, .int .i64 x5_2, .int .i64 x6_3]] rfl Mp ?_; (with_reducible refine (wigmakerref03_isEdge.calls a0_0 a0_1 _ _ l0_2 _ _ l0_3 x4_1 x5_2 x6_3 true _ ?side1 ?side2 ?side3 ?side4 A8.out).mono ?_); (case side1 => exact Kd.C_below HR0_2.out (Bh GE202.out GE203.out)); (case side2 => exact HC0_2.out); (case side3 => exact Kd.C_below HR0_3.out (Bh GE202.out GE203.out)); (case side4 => exact HC0_3.out); rintro e w15 ⟨rfl, hb⟩; refine ⟨_, rfl, ?_⟩; have n0_ := Aside0.mk (Kd.R_below (by (with_reducible repeat (first | apply Kd.R_alloc | apply Kd.R_drewN | apply Kd.R_drew)); exact (Kd.R_mono (Kd.R_far (p := ⟨gb203, 2, none⟩) (Kd.R_far (p := ⟨gb203, 1, none⟩) (Kd.R_far (p := ⟨gb203, 0, none⟩) (Kd.R_mono HO_3.out (fun k_ hk => (⟨hk, hk.2⟩ : _ ∧ k_ ≠ gb203))) (fun _ hk => hk.2) (.int .i64 x4_1)) (fun _ hk => hk.2) (.int .i64 x5_2)) (fun _ hk => hk.2) (.int .i64 x6_3)) (fun _ h_ => h_.1))) hb); have n1_ := Aside0.mk (blk_below (g := gb202) (o := .cells #[.int .i64 a0_0, .int .i64 a0_1, .slice A0_2 l0_2.length c0_2, .slice A0_3 l0_3.length c0_3] 25 (0, 0)) (by (with_reducible repeat (first | refine blk_drewN ?_ _ | refine blk_drew ?_ | refine blk_alloc ?_ _)); refine blk_far ?_ NB202_203.out _; (with_reducible repeat (first | refine blk_drewN ?_ _ | refine blk_drew ?_ | refine blk_alloc ?_ _)); refine blk_far ?_ NB202_203.out _; (with_reducible repeat (first | refine blk_drewN ?_ _ | refine blk_drew ?_ | refine blk_alloc ?_ _)); refine blk_far ?_ NB202_203.out _; (with_reducible repeat (first | refine blk_drewN ?_ _ | refine blk_drew ?_ | refine blk_alloc ?_ _)); exact BK202.out) hb); have n2_ := Aside0.mk (blk_below (g := gb203) (o := .cells #[.int .i64 x4_1, .int .i64 x5_2, .int .i64 x6_3] 50 (0, 0)) (by (with_reducible repeat (first | refine blk_drewN ?_ _ | refine blk_drew ?_ | refine blk_alloc ?_ _)); refine blk_put (cs := #[.int .i64 x4_1, .int .i64 x5_2, .int .i64 0]) ?_ 2 _ rfl; (with_reducible repeat (first | refine blk_drewN ?_ _ | refine blk_drew ?_ | refine blk_alloc ?_ _)); refine blk_put (cs := #[.int .i64 x4_1, .int .i64 0, .int .i64 0]) ?_ 1 _ rfl; (with_reducible repeat (first | refine blk_drewN ?_ _ | refine blk_drew ?_ | refine blk_alloc ?_ _)); refine blk_put (cs := #[.int .i64 0, .int .i64 0, .int .i64 0]) ?_ 0 _ rfl; (with_reducible repeat (first | refine blk_drewN ?_ _ | refine blk_drew ?_ | refine blk_alloc ?_ _)); exact BK203.out) hb); have n3_ := Aside0.mk (below_step (Bh GE202.out GE203.out) hb); clear HO_3; clear BK202; clear BK203; clear HB; have HO_3 := n0_; have BK202 := n1_; have BK203 := n2_; have HB := n3_; clear n0_ n1_ n2_ n3_; (try clear hb); (try clear hb2); (try clear hk); (try clear hi); have hcz16_0 : w15.cell? ⟨gb203, 0, none⟩ = some (.int .i64 x4_1) := (blk_cell BK203.out 0).trans rfl; have hcz16_1 : w15.cell? ⟨gb203, 1, none⟩ = some (.int .i64 x5_2) := (blk_cell BK203.out 1).trans rfl; have hcz16_2 : w15.cell? ⟨gb203, 2, none⟩ = some (.int .i64 x6_3) := (blk_cell BK203.out 2).trans rfl; have hfz16_0 := blk_frozen BK203.out 0; have hfz16_1 := blk_frozen BK203.out 1; have hfz16_2 := blk_frozen BK203.out 2) | ((with_reducible refine gate_builtin (b := .append) (xs := #[.tmp 31, .tmp 33]) rfl ?_); at_builtin; refine Kd.R_append k50 (w0 := w) w.heap.size rfl (.tmp 31) (.tmp 33) 23 50 (.agg #[(.int .i64 0), (.int .i64 0), (.int .i64 0)]) 24 rfl Tryd.underlying23 info50 rfl (by decide) (by omega) u3 x3_3 (⟨x4_1, x5_2, x6_3⟩ : S50) [.int .i64 x4_1, .int .i64 x5_2, .int .i64 x6_3] (fun k_ => k_ ≠ gb203) (fun _ => False) rfl rfl ?aP (fun _ hk => hk.elim) ?aF ?aO ?aB ?aS ?aL ?_; (case aP => exact k50_mkM _ _ _ (⟨x4_1, x5_2, x6_3⟩ : S50)); (case aB => exact (Bh GE202.out GE203.out)); (case aF => exact (fun k_ hk => Kd.freshB (g := gb203) (o := .cells #[.int .i64 x4_1, .int .i64 x5_2, .int .i64 x6_3] 50 (0, 0)) (Bk BK203.out) k_ hk)); (case aO => exact (by (with_reducible repeat (first | apply Kd.R_alloc | apply Kd.R_drewN | apply Kd.R_drew)); exact Kd.R_mono HO_3.out (fun _ hk => hk.2))); (case aS => exact (below_size (Bh GE202.out GE203.out))); (case aL => have := LMc10.out; omega); intro v206 w17 ho hb hg hat; rw [← Ny205.out] at ho; have n0_ := Aside0.mk (blk_grown (g := gb202) (o := .cells #[.int .i64 a0_0, .int .i64 a0_1, .slice A0_2 l0_2.length c0_2, .slice A0_3 l0_3.length c0_3] 25 (0, 0)) (Bk BK202.out) hg (Kd.R_ne HO_3.out BK202.out (by decide))); have n1_ := Aside0.mk (blk_grown (g := gb203) (o := .cells #[.int .i64 x4_1, .int .i64 x5_2, .int .i64 x6_3] 50 (0, 0)) (Bk BK203.out) hg (Kd.R_away HO_3.out (fun _ hk => hk.2))); have n2_ := Aside0.mk (hb); have n3_ := Aside0.mk (ho); clear BK202; clear BK203; clear HB; clear HO_3; have BK202 := n0_; have BK203 := n1_; have HB := n2_; have HO207 := n3_; clear n0_ n1_ n2_ n3_; clear ho hb hg hat)))
                        go_roundg k3
                        case measure => have := HK1.out; have := HK2.out; have := HK3.out; omega
                        case rel => exact ⟨(y205), (wrap64 (x6_3 + 1)), Rf, H', ⟨by have := HK1.out; have := HK2.out; have := HK3.out; omega⟩, ⟨by (with_reducible repeat (first | apply Kd.R_alloc | apply Kd.R_drewN | apply Kd.R_drew)); exact Kd.R_mono HO207.out (fun _ hk => trivial)⟩, ⟨by (with_reducible repeat (first | refine blk_drewN ?_ _ | refine blk_drew ?_ | refine blk_alloc ?_ _)); exact BK202.out⟩, ⟨(Bh GE202.out GE203.out)⟩⟩
                      · rw [if_neg c10] at H
                        exact absurd H (by simp)
                    · replace c9 := Bool.eq_false_iff.mpr c9
                      subst c9; (have H1 : (wigmakerref03_edges.l2 k3 x3_3 x4_1 x5_2 (wrap64 (x6_3 + 1)) a0_0 a0_1 l0_2 l0_3) = some r := by rw [if_neg (show ¬ (false = true) by decide)] at H; exact H); clear H; have H := H1; clear H1; have H' := Aside0.mk H; clear H; (go_wp2_with (first | ((with_reducible refine gate_dst (N := 7) rfl ?_); refine box_event ?hg (N := 7) ?hd (cs := #[.int .i64 0, .int .i64 0, .int .i64 0]) (t := 50) ?hr ?_; (case hd => rfl); (case hg => rfl); (case hr => first | (go_simp; done) | (go_simp; rfl)); intro gb203 hg w18 hbox hb; have n0_ := Aside0.mk (Kd.R_below (Kd.R_elderB (by (with_reducible repeat (first | apply Kd.R_alloc | apply Kd.R_drewN | apply Kd.R_drew)); exact HO_3.out) gb203 (Nat.le_of_eq hg.symm)) hb); have n1_ := Aside0.mk (blk_below (g := gb202) (o := .cells #[.int .i64 a0_0, .int .i64 a0_1, .slice A0_2 l0_2.length c0_2, .slice A0_3 l0_3.length c0_3] 25 (0, 0)) (Bk BK202.out) hb); have n2_ := Aside0.mk (below_step (Bg GE202.out) hb); have n3_ := Aside0.mk (hbox); have n4_ := Aside0.mk ((by rw [hg]; exact (below_size (Bg GE202.out)) : w.heap.size ≤ gb203)); have n5_ := Aside0.mk ((by rw [hg]; exact (below_size (Bg GE202.out)) : w.heap.size ≤ gb203)); have n6_ := Aside0.mk ((by rw [hg]; exact Nat.ne_of_lt (blk_lt (g := gb202) (o := .cells #[.int .i64 a0_0, .int .i64 a0_1, .slice A0_2 l0_2.length c0_2, .slice A0_3 l0_3.length c0_3] 25 (0, 0)) (Bk BK202.out)) : gb202 ≠ gb203)); have n7_ := Aside0.mk ((by rw [hg]; exact Nat.ne_of_gt (blk_lt (g := gb202) (o := .cells #[.int .i64 a0_0, .int .i64 a0_1, .slice A0_2 l0_2.length c0_2, .slice A0_3 l0_3.length c0_3] 25 (0, 0)) (Bk BK202.out)) : gb203 ≠ gb202)); clear HO_3; clear BK202; clear HB; have HO_3 := n0_; have BK202 := n1_; have HB := n2_; have BK203 := n3_; have GW203 := n4_; have GE203 := n5_; have NB202_203 := n6_; have NB203_202 := n7_; clear n0_ n1_ n2_ n3_ n4_ n5_ n6_ n7_; clear hb hbox hg; have hnb19 := NB203_202.out; have hnc19 := NB202_203.out; have hcz20_0 : w18.cell? ⟨gb203, 0, none⟩ = some (.int .i64 0) := (blk_cell BK203.out 0).trans rfl; have hcz20_1 : w18.cell? ⟨gb203, 1, none⟩ = some (.int .i64 0) := (blk_cell BK203.out 1).trans rfl; have hcz20_2 : w18.cell? ⟨gb203, 2, none⟩ = some (.int .i64 0) := (blk_cell BK203.out 2).trans rfl; have hfz20_0 := blk_frozen BK203.out 0; have hfz20_1 := blk_frozen BK203.out 1; have hfz20_2 := blk_frozen BK203.out 2; have hcz21_0 : w18.cell? ⟨gb202, 0, none⟩ = some (.int .i64 a0_0) := (blk_cell BK202.out 0).trans rfl; have hcz21_1 : w18.cell? ⟨gb202, 1, none⟩ = some (.int .i64 a0_1) := (blk_cell BK202.out 1).trans rfl; have hcz21_2 : w18.cell? ⟨gb202, 2, none⟩ = some (.slice A0_2 l0_2.length c0_2) := (blk_cell BK202.out 2).trans rfl; have hcz21_3 : w18.cell? ⟨gb202, 3, none⟩ = some (.slice A0_3 l0_3.length c0_3) := (blk_cell BK202.out 3).trans rfl; have hfz21_0 := blk_frozen BK202.out 0; have hfz21_1 := blk_frozen BK202.out 1; have hfz21_2 := blk_frozen BK202.out 2; have hfz21_3 := blk_frozen BK202.out 3) | ((with_reducible refine gate_callee (f := 35) rfl ?_); refine goesL_ (some 30) rfl rfl Tryd.func35 (by kernel_rfl) rfl #[.agg #[.int .i64 a0_0, .int .i64 a0_1, .slice A0_2 l0_2.length c0_2, .slice A0_3 l0_3.length c0_3], .agg #[.int .i64 x4_1, .int .i64 x5_2, .int .i64 x6_3]] rfl Mp ?_; (with_reducible refine (wigmakerref03_isEdge.calls a0_0 a0_1 _ _ l0_2 _ _ l0_3 x4_1 x5_2 x6_3 false _ ?side1 ?side2 ?side3 ?side4 A8.out).mono ?_); (case side1 => exact Kd.C_below HR0_2.out (Bh GE202.out GE203.out)); (case side2 => exact HC0_2.out); (case side3 => exact Kd.C_below HR0_3.out (Bh GE202.out GE203.out)); (case side4 => exact HC0_3.out); rintro e w22 ⟨rfl, hb⟩; refine ⟨_, rfl, ?_⟩; have n0_ := Aside0.mk (Kd.R_below (by (with_reducible repeat (first | apply Kd.R_alloc | apply Kd.R_drewN | apply Kd.R_drew)); exact (Kd.R_mono (Kd.R_far (p := ⟨gb203, 2, none⟩) (Kd.R_far (p := ⟨gb203, 1, none⟩) (Kd.R_far (p := ⟨gb203, 0, none⟩) (Kd.R_mono HO_3.out (fun k_ hk => (⟨hk, hk.2⟩ : _ ∧ k_ ≠ gb203))) (fun _ hk => hk.2) (.int .i64 x4_1)) (fun _ hk => hk.2) (.int .i64 x5_2)) (fun _ hk => hk.2) (.int .i64 x6_3)) (fun _ h_ => h_.1))) hb); have n1_ := Aside0.mk (blk_below (g := gb202) (o := .cells #[.int .i64 a0_0, .int .i64 a0_1, .slice A0_2 l0_2.length c0_2, .slice A0_3 l0_3.length c0_3] 25 (0, 0)) (by (with_reducible repeat (first | refine blk_drewN ?_ _ | refine blk_drew ?_ | refine blk_alloc ?_ _)); refine blk_far ?_ NB202_203.out _; (with_reducible repeat (first | refine blk_drewN ?_ _ | refine blk_drew ?_ | refine blk_alloc ?_ _)); refine blk_far ?_ NB202_203.out _; (with_reducible repeat (first | refine blk_drewN ?_ _ | refine blk_drew ?_ | refine blk_alloc ?_ _)); refine blk_far ?_ NB202_203.out _; (with_reducible repeat (first | refine blk_drewN ?_ _ | refine blk_drew ?_ | refine blk_alloc ?_ _)); exact BK202.out) hb); have n2_ := Aside0.mk (blk_below (g := gb203) (o := .cells #[.int .i64 x4_1, .int .i64 x5_2, .int .i64 x6_3] 50 (0, 0)) (by (with_reducible repeat (first | refine blk_drewN ?_ _ | refine blk_drew ?_ | refine blk_alloc ?_ _)); refine blk_put (cs := #[.int .i64 x4_1, .int .i64 x5_2, .int .i64 0]) ?_ 2 _ rfl; (with_reducible repeat (first | refine blk_drewN ?_ _ | refine blk_drew ?_ | refine blk_alloc ?_ _)); refine blk_put (cs := #[.int .i64 x4_1, .int .i64 0, .int .i64 0]) ?_ 1 _ rfl; (with_reducible repeat (first | refine blk_drewN ?_ _ | refine blk_drew ?_ | refine blk_alloc ?_ _)); refine blk_put (cs := #[.int .i64 0, .int .i64 0, .int .i64 0]) ?_ 0 _ rfl; (with_reducible repeat (first | refine blk_drewN ?_ _ | refine blk_drew ?_ | refine blk_alloc ?_ _)); exact BK203.out) hb); have n3_ := Aside0.mk (below_step (Bh GE202.out GE203.out) hb); clear HO_3; clear BK202; clear BK203; clear HB; have HO_3 := n0_; have BK202 := n1_; have BK203 := n2_; have HB := n3_; clear n0_ n1_ n2_ n3_; (try clear hb); (try clear hb2); (try clear hk); (try clear hi))))
                      go_roundg k3
                      case measure => have := HK1.out; have := HK2.out; have := HK3.out; omega
                      case rel => exact ⟨(x3_3), (wrap64 (x6_3 + 1)), Rf, H', ⟨by have := HK1.out; have := HK2.out; have := HK3.out; omega⟩, ⟨by (with_reducible repeat (first | apply Kd.R_alloc | apply Kd.R_drewN | apply Kd.R_drew)); exact Kd.R_mono HO_3.out (fun _ hk => trivial)⟩, ⟨by (with_reducible repeat (first | refine blk_drewN ?_ _ | refine blk_drew ?_ | refine blk_alloc ?_ _)); exact BK202.out⟩, ⟨(Bh GE202.out GE203.out)⟩⟩
                  · rw [if_neg c7] at H
                    have c7b0 : decide (x6_3 < 2) = false := decide_eq_false c7; clear c7; have H' := Aside0.mk H; clear H; go_wp2; go_roundg k3
                    case measure => have := HK1.out; have := HK2.out; have := HK3.out; omega
                    case rel => exact ⟨(x3_3), (wrap64 (x5_2 + 1)), Rf, H', ⟨by have := HK1.out; have := HK2.out; have := HK3.out; omega⟩, ⟨by (with_reducible repeat (first | apply Kd.R_alloc | apply Kd.R_drewN | apply Kd.R_drew)); exact HO_3.out⟩, ⟨by (with_reducible repeat (first | refine blk_drewN ?_ _ | refine blk_drew ?_ | refine blk_alloc ?_ _)); exact BK202.out⟩, ⟨(Bg GE202.out)⟩⟩
            · rw [if_neg c5] at H
              have c5b0 : decide (x5_2 < a0_1) = false := decide_eq_false c5; clear c5; have H' := Aside0.mk H; clear H; have hcz23_0 : wr.cell? ⟨gb202, 0, none⟩ = some (.int .i64 a0_0) := (blk_cell BK202.out 0).trans rfl; have hcz23_1 : wr.cell? ⟨gb202, 1, none⟩ = some (.int .i64 a0_1) := (blk_cell BK202.out 1).trans rfl; have hcz23_2 : wr.cell? ⟨gb202, 2, none⟩ = some (.slice A0_2 l0_2.length c0_2) := (blk_cell BK202.out 2).trans rfl; have hcz23_3 : wr.cell? ⟨gb202, 3, none⟩ = some (.slice A0_3 l0_3.length c0_3) := (blk_cell BK202.out 3).trans rfl; have hfz23_0 := blk_frozen BK202.out 0; have hfz23_1 := blk_frozen BK202.out 1; have hfz23_2 := blk_frozen BK202.out 2; have hfz23_3 := blk_frozen BK202.out 3; go_wp2; go_roundg k2
              case measure => have := HK1.out; have := HK2.out; omega
              case rel => exact ⟨(x3_2), (wrap64 (x4_1 + 1)), Rf, H', ⟨by have := HK1.out; have := HK2.out; omega⟩, ⟨by (with_reducible repeat (first | apply Kd.R_alloc | apply Kd.R_drewN | apply Kd.R_drew)); exact HO_3.out⟩, ⟨by (with_reducible repeat (first | refine blk_drewN ?_ _ | refine blk_drew ?_ | refine blk_alloc ?_ _)); exact BK202.out⟩, ⟨(Bg GE202.out)⟩⟩
      · rw [if_neg c3] at H
        have c3b0 : decide (x4_1 < a0_0) = false := decide_eq_false c3; clear c3; obtain rfl := Option.some.inj H; have hcz24_0 : wr.cell? ⟨gb202, 0, none⟩ = some (.int .i64 a0_0) := (blk_cell BK202.out 0).trans rfl; have hcz24_1 : wr.cell? ⟨gb202, 1, none⟩ = some (.int .i64 a0_1) := (blk_cell BK202.out 1).trans rfl; have hcz24_2 : wr.cell? ⟨gb202, 2, none⟩ = some (.slice A0_2 l0_2.length c0_2) := (blk_cell BK202.out 2).trans rfl; have hcz24_3 : wr.cell? ⟨gb202, 3, none⟩ = some (.slice A0_3 l0_3.length c0_3) := (blk_cell BK202.out 3).trans rfl; have hfz24_0 := blk_frozen BK202.out 0; have hfz24_1 := blk_frozen BK202.out 1; have hfz24_2 := blk_frozen BK202.out 2; have hfz24_3 := blk_frozen BK202.out 3; go_wp2; go_ret; (exact ⟨_, by first | rfl | (simp [errW_none, errW_some] <;> rfl) | (simp [*, errW_none, errW_some] <;> rfl), by (with_reducible repeat (first | apply Kd.R_alloc | apply Kd.R_drewN | apply Kd.R_drew)); exact HO_3.out, (Bg GE202.out)⟩)
end Go.Proofs.YtfpikmeiooangaaDoor.PFlowTexts
end
section
namespace Go.Proofs.YtfpikmeiooangaaDoor.PFlowTexts
open Go.RowKit Go.Proofs.YtfpikmeiooangaaDoorW.PrintWords Go.Proofs.YtfpikmeiooangaaDoorW.PrintLast Go.Proofs.YtfpikmeiooangaaDoorW.PrintMore
def oneE (W H x y u : Int) : List S50 := if onF W H x y u = true then [⟨x, y, u⟩] else []
def twoE (W H x y : Int) : List S50 := oneE W H x y 0 ++ oneE W H x y 1
theorem oneE_le (W H x y u : Int) : (oneE W H x y u).length ≤ 1 := by unfold oneE; split <;> simp
theorem twoE_le (W H x y : Int) : (twoE W H x y).length ≤ 2 := by
  have := oneE_le W H x y 0
  have := oneE_le W H x y 1
  rw [twoE, List.length_append]
  omega
section
variable {w h : Nat} {D : List Int} {P : List S50} {v : List S50}
theorem edges2 (hW : 1 ≤ (w : Int) ∧ (w : Int) ≤ 12) (hH : 1 ≤ (h : Int) ∧ (h : Int) ≤ 12) (acc : List S50) (x y : Nat) (ha : acc.length ≤ 5000)
    (hc : Ev (fun k => flow_edges.l1 k (acc ++ twoE w h x y) (y : Int) (h : Int) (y : Int) (w : Int) ((x + 1 : Nat) : Int) (w : Int) (h : Int) D P) v) (hx : x ≤ 1000) :
    Ev (fun k => flow_edges.l2 k acc (y : Int) (x : Int) (h : Int) (y : Int) (w : Int) (x : Int) 0 (w : Int) (h : Int) D P) v := by
  have e01 : wrap64 ((0 : Int) + 1) = 1 := by unfold wrap64; omega
  have e12 : wrap64 ((1 : Int) + 1) = 2 := by unfold wrap64; omega
  have last : ∀ acc' : List S50, acc' = acc ++ twoE w h x y → Ev (fun k => flow_edges.l2 k acc' (y : Int) (x : Int) (h : Int) (y : Int) (w : Int) (x : Int) 2 (w : Int) (h : Int) D P) v := by
    intro acc' e
    refine Ev.succ ?_
    simp only [flow_edges.l2]
    refine Ev.neg (by omega) ?_
    rw [w1 x (by omega), e]
    exact hc
  have one : ∀ acc' : List S50, acc' = acc ++ oneE w h x y 0 → Ev (fun k => flow_edges.l2 k acc' (y : Int) (x : Int) (h : Int) (y : Int) (w : Int) (x : Int) 1 (w : Int) (h : Int) D P) v := by
    intro acc' e
    have hl := oneE_le w h x y 0
    refine Ev.succ ?_
    simp only [flow_edges.l2, hasEdge_eq _ _ D P _ _ _ hW hH, Option.bind_some, e12]
    refine Ev.pos (by omega) ?_
    by_cases hb : onF w h x y 1 = true
    · refine Ev.pos hb (Ev.pos (by rw [e, List.length_append]; omega) (last _ ?_))
      rw [e, twoE, oneE, oneE, if_pos hb, List.append_assoc]
    · refine Ev.neg hb (last _ ?_)
      rw [e, twoE, oneE, oneE, if_neg hb, List.append_nil]
  refine Ev.succ ?_
  simp only [flow_edges.l2, hasEdge_eq _ _ D P _ _ _ hW hH, Option.bind_some, e01]
  refine Ev.pos (by omega) ?_
  by_cases hb : onF w h x y 0 = true
  · refine Ev.pos hb (Ev.pos (by omega) (one _ ?_))
    rw [oneE, if_pos hb]
  · refine Ev.neg hb (one _ ?_)
    rw [oneE, if_neg hb, List.append_nil]
theorem edges1 (hW : 1 ≤ (w : Int) ∧ (w : Int) ≤ 12) (hH : 1 ≤ (h : Int) ∧ (h : Int) ≤ 12) (y : Nat) : ∀ (m x : Nat) (acc : List S50), x + m = w → acc.length + 2 * m ≤ 5000 →
    Ev (fun k => flow_edges.l0 k (acc ++ (List.range' x m).flatMap fun (x : Nat) => twoE w h x y) (h : Int) ((y + 1 : Nat) : Int) (w : Int) (h : Int) D P) v → y ≤ 1000 →
    Ev (fun k => flow_edges.l1 k acc (y : Int) (h : Int) (y : Int) (w : Int) (x : Int) (w : Int) (h : Int) D P) v
  | 0, x, acc, hm, ha, hc, hy => by
    refine Ev.succ ?_
    simp only [flow_edges.l1]
    refine Ev.neg (by omega) ?_
    rw [w1 y (by omega)]
    simpa using hc
  | m + 1, x, acc, hm, ha, hc, hy => by
    refine Ev.succ ?_
    simp only [flow_edges.l1]
    refine Ev.pos (by omega) ?_
    have := twoE_le w h x y
    refine edges2 hW hH acc x y (by omega) ?_ (by omega)
    refine edges1 hW hH y m (x + 1) _ (by omega) (by rw [List.length_append]; omega) ?_ hy
    rw [List.range'_succ, List.flatMap_cons, ← List.append_assoc] at hc
    exact hc
theorem edges0 (hW : 1 ≤ (w : Int) ∧ (w : Int) ≤ 12) (hH : 1 ≤ (h : Int) ∧ (h : Int) ≤ 12) : ∀ (m y : Nat) (acc : List S50), y + m = h → acc.length + 24 * m ≤ 5000 →
    Ev (fun k => flow_edges.l0 k acc (h : Int) (y : Int) (w : Int) (h : Int) D P) (acc ++ (List.range' y m).flatMap fun (y : Nat) => (List.range' 0 w).flatMap fun (x : Nat) => twoE w h x y)
  | 0, y, acc, hm, ha => by
    refine Ev.succ ?_
    simp only [flow_edges.l0]
    refine Ev.neg (by omega) ?_
    simpa using Ev.pure acc
  | m + 1, y, acc, hm, ha => by
    refine Ev.succ ?_
    simp only [flow_edges.l0]
    refine Ev.pos (by omega) ?_
    have hl : ((List.range' 0 w).flatMap fun (x : Nat) => twoE w h x y).length ≤ 24 := by
      have : ∀ l : List Nat, (l.flatMap fun (x : Nat) => twoE w h x y).length ≤ 2 * l.length := by
        intro l
        induction l with
        | nil => simp
        | cons a l ih =>
          have := twoE_le w h a y
          rw [List.flatMap_cons, List.length_append, List.length_cons]
          omega
      have := this (List.range' 0 w)
      rw [List.length_range'] at this
      omega
    refine edges1 hW hH y w 0 acc (by omega) (by omega) ?_ (by omega)
    have := edges0 hW hH m (y + 1) (acc ++ (List.range' 0 w).flatMap fun (x : Nat) => twoE w h x y) (by omega) (by rw [List.length_append]; omega)
    rw [List.range'_succ, List.flatMap_cons, ← List.append_assoc]
    exact this
theorem redges2 (hW : 1 ≤ (w : Int) ∧ (w : Int) ≤ 12) (hH : 1 ≤ (h : Int) ∧ (h : Int) ≤ 12) (acc : List S50) (x y : Nat) (ha : acc.length ≤ 5000)
    (hc : Ev (fun k => wigmakerref03_edges.l1 k (acc ++ twoE w h x y) (x : Int) ((y + 1 : Nat) : Int) (w : Int) (h : Int) D P) v) (hy : y ≤ 1000) :
    Ev (fun k => wigmakerref03_edges.l2 k acc (x : Int) (y : Int) 0 (w : Int) (h : Int) D P) v := by
  have e01 : wrap64 ((0 : Int) + 1) = 1 := by unfold wrap64; omega
  have e12 : wrap64 ((1 : Int) + 1) = 2 := by unfold wrap64; omega
  have last : ∀ acc' : List S50, acc' = acc ++ twoE w h x y → Ev (fun k => wigmakerref03_edges.l2 k acc' (x : Int) (y : Int) 2 (w : Int) (h : Int) D P) v := by
    intro acc' e
    refine Ev.succ ?_
    simp only [wigmakerref03_edges.l2]
    refine Ev.neg (by omega) ?_
    rw [w1 y (by omega), e]
    exact hc
  have one : ∀ acc' : List S50, acc' = acc ++ oneE w h x y 0 → Ev (fun k => wigmakerref03_edges.l2 k acc' (x : Int) (y : Int) 1 (w : Int) (h : Int) D P) v := by
    intro acc' e
    have hl := oneE_le w h x y 0
    refine Ev.succ ?_
    simp only [wigmakerref03_edges.l2, isEdge_eq _ _ D P _ _ _ hW hH, Option.bind_some, e12]
    refine Ev.pos (by omega) ?_
    by_cases hb : onF w h x y 1 = true
    · refine Ev.pos hb (Ev.pos (by rw [e, List.length_append]; omega) (last _ ?_))
      rw [e, twoE, oneE, oneE, if_pos hb, List.append_assoc]
    · refine Ev.neg hb (last _ ?_)
      rw [e, twoE, oneE, oneE, if_neg hb, List.append_nil]
  refine Ev.succ ?_
  simp only [wigmakerref03_edges.l2, isEdge_eq _ _ D P _ _ _ hW hH, Option.bind_some, e01]
  refine Ev.pos (by omega) ?_
  by_cases hb : onF w h x y 0 = true
  · refine Ev.pos hb (Ev.pos (by omega) (one _ ?_))
    rw [oneE, if_pos hb]
  · refine Ev.neg hb (one _ ?_)
    rw [oneE, if_neg hb, List.append_nil]
theorem redges1 (hW : 1 ≤ (w : Int) ∧ (w : Int) ≤ 12) (hH : 1 ≤ (h : Int) ∧ (h : Int) ≤ 12) (x : Nat) : ∀ (m y : Nat) (acc : List S50), y + m = h → acc.length + 2 * m ≤ 5000 →
    Ev (fun k => wigmakerref03_edges.l0 k (acc ++ (List.range' y m).flatMap fun (y : Nat) => twoE w h x y) ((x + 1 : Nat) : Int) (w : Int) (h : Int) D P) v → x ≤ 1000 →
    Ev (fun k => wigmakerref03_edges.l1 k acc (x : Int) (y : Int) (w : Int) (h : Int) D P) v
  | 0, y, acc, hm, ha, hc, hx => by
    refine Ev.succ ?_
    simp only [wigmakerref03_edges.l1]
    refine Ev.neg (by omega) ?_
    rw [w1 x (by omega)]
    simpa using hc
  | m + 1, y, acc, hm, ha, hc, hx => by
    refine Ev.succ ?_
    simp only [wigmakerref03_edges.l1]
    refine Ev.pos (by omega) ?_
    have := twoE_le w h x y
    refine redges2 hW hH acc x y (by omega) ?_ (by omega)
    refine redges1 hW hH x m (y + 1) _ (by omega) (by rw [List.length_append]; omega) ?_ hx
    rw [List.range'_succ, List.flatMap_cons, ← List.append_assoc] at hc
    exact hc
theorem redges0 (hW : 1 ≤ (w : Int) ∧ (w : Int) ≤ 12) (hH : 1 ≤ (h : Int) ∧ (h : Int) ≤ 12) : ∀ (m x : Nat) (acc : List S50), x + m = w → acc.length + 24 * m ≤ 5000 →
    Ev (fun k => wigmakerref03_edges.l0 k acc (x : Int) (w : Int) (h : Int) D P) (acc ++ (List.range' x m).flatMap fun (x : Nat) => (List.range' 0 h).flatMap fun (y : Nat) => twoE w h x y)
  | 0, x, acc, hm, ha => by
    refine Ev.succ ?_
    simp only [wigmakerref03_edges.l0]
    refine Ev.neg (by omega) ?_
    simpa using Ev.pure acc
  | m + 1, x, acc, hm, ha => by
    refine Ev.succ ?_
    simp only [wigmakerref03_edges.l0]
    refine Ev.pos (by omega) ?_
    have hl : ((List.range' 0 h).flatMap fun (y : Nat) => twoE w h x y).length ≤ 24 := by
      have : ∀ l : List Nat, (l.flatMap fun (y : Nat) => twoE w h x y).length ≤ 2 * l.length := by
        intro l
        induction l with
        | nil => simp
        | cons a l ih =>
          have := twoE_le w h x a
          rw [List.flatMap_cons, List.length_append, List.length_cons]
          omega
      have := this (List.range' 0 h)
      rw [List.length_range'] at this
      omega
    refine redges1 hW hH x h 0 acc (by omega) (by omega) ?_ (by omega)
    have := redges0 hW hH m (x + 1) (acc ++ (List.range' 0 h).flatMap fun (y : Nat) => twoE w h x y) (by omega) (by rw [List.length_append]; omega)
    rw [List.range'_succ, List.flatMap_cons, ← List.append_assoc]
    exact this
theorem mem_oneE {W H x y u : Int} {e : S50} : e ∈ oneE W H x y u ↔ e = ⟨x, y, u⟩ ∧ onF W H x y u = true := by
  unfold oneE
  split
  · simp_all
  · simp_all
theorem mem_twoE {x y : Int} {e : S50} (W H : Int) : e ∈ twoE W H x y ↔ onF W H e.f0 e.f1 e.f2 = true ∧ e.f0 = x ∧ e.f1 = y := by
  rw [twoE, List.mem_append, mem_oneE, mem_oneE]
  constructor
  · rintro (⟨rfl, h⟩ | ⟨rfl, h⟩) <;> exact ⟨h, rfl, rfl⟩
  · rintro ⟨h, rfl, rfl⟩
    rcases of_decide_eq_true h with c | c
    · exact .inl ⟨S50.ext' rfl rfl c.1, by rw [← c.1]; exact h⟩
    · exact .inr ⟨S50.ext' rfl rfl c.1, by rw [← c.1]; exact h⟩
/-- Both programs list all edges of the field, and no others. -/
theorem edges_both (hW : 1 ≤ (w : Int) ∧ (w : Int) ≤ 12) (hH : 1 ≤ (h : Int) ∧ (h : Int) ≤ 12) : ∃ L L' : List S50, Ev (fun k => flow_edges.f k w h D P) L ∧ Ev (fun k => wigmakerref03_edges.f k w h D P) L' ∧
    (∀ e, e ∈ L ↔ onF w h e.f0 e.f1 e.f2 = true) ∧ (∀ e, e ∈ L' ↔ onF w h e.f0 e.f1 e.f2 = true) ∧ L.length ≤ 1000 ∧ L'.length ≤ 1000 := by
  have hr : ∀ e : S50, onF w h e.f0 e.f1 e.f2 = true → ∃ x y : Nat, x < w ∧ y < h ∧ e.f0 = x ∧ e.f1 = y := fun e he => by
    have := of_decide_eq_true he
    exact ⟨e.f0.toNat, e.f1.toNat, by omega, by omega, by omega, by omega⟩
  have hlen : ∀ (f : Nat → Nat → List S50) (n m : Nat), n ≤ 12 → m ≤ 12 → (∀ a b, (f a b).length ≤ 2) → ((List.range' 0 n).flatMap fun a => (List.range' 0 m).flatMap fun b => f a b).length ≤ 1000 := by
    intro f n m hn hm hf
    have l1 : ∀ a (l : List Nat), (l.flatMap fun b => f a b).length ≤ 2 * l.length := by
      intro a l
      induction l with
      | nil => simp
      | cons b l ih => have := hf a b; rw [List.flatMap_cons, List.length_append, List.length_cons]; omega
    have l2 : ∀ (l : List Nat), (l.flatMap fun a => (List.range' 0 m).flatMap fun b => f a b).length ≤ 24 * l.length := by
      intro l
      induction l with
      | nil => simp
      | cons a l ih => have := l1 a (List.range' 0 m); rw [List.length_range'] at this; rw [List.flatMap_cons, List.length_append, List.length_cons]; omega
    have := l2 (List.range' 0 n)
    rw [List.length_range'] at this
    omega
  refine ⟨_, _, edges0 (D := D) (P := P) hW hH h 0 [] (by omega) (by simp; omega), redges0 (D := D) (P := P) hW hH w 0 [] (by omega) (by simp; omega), fun e => ?_, fun e => ?_, ?_, ?_⟩
  · simp only [List.nil_append, List.mem_flatMap, List.mem_range'_1, mem_twoE]
    constructor
    · rintro ⟨_, _, _, _, h, _⟩; exact h
    · intro he
      obtain ⟨x, y, hx, hy, h0, h1⟩ := hr e he
      exact ⟨y, by omega, x, by omega, he, h0, h1⟩
  · simp only [List.nil_append, List.mem_flatMap, List.mem_range'_1, mem_twoE]
    constructor
    · rintro ⟨_, _, _, _, h, _⟩; exact h
    · intro he
      obtain ⟨x, y, hx, hy, h0, h1⟩ := hr e he
      exact ⟨x, by omega, y, by omega, he, h0, h1⟩
  · rw [List.nil_append]
    exact hlen (fun y x => twoE w h x y) h w (by omega) (by omega) (fun _ _ => twoE_le _ _ _ _)
  · rw [List.nil_append]
    exact hlen (fun x y => twoE w h x y) w h (by omega) (by omega) (fun _ _ => twoE_le _ _ _ _)
end
end Go.Proofs.YtfpikmeiooangaaDoor.PFlowTexts
end
