/- A part of a proof: GFmt, LForm, GParJ, LSpl, LWord, LNum, LParR. -/
import Derived.WalkSpells
import Derived.WalkLawsBesides
import Derived.Handy
import Derived.Lib.Hide
import Derived.StillTailTactics
import Derived.Deep.RegionHeld3
import Derived.Lib.SplitLaws
import Derived.IntWalk
import Derived.Test.YtfpikmeiooangaaDoorT08
import Derived.Test.YtfpikmeiooangaaDoorT03
import Derived.Test.YtfpikmeiooangaaDoorT15
import Derived.Test.YtfpikmeiooangaaDoorT14
import Derived.Test.YtfpikmeiooangaaDoorT11
import Derived.Test.YtfpikmeiooangaaDoorT12
set_option linter.unusedVariables false
set_option linter.unusedSimpArgs false
section
namespace Go.Proofs.YtfpikmeiooangaaDoor.PFlowTexts
open Go.RowKit Go.Proofs.YtfpikmeiooangaaDoorW.PrintWords Go.Proofs.YtfpikmeiooangaaDoorW.PrintLast Go.Proofs.YtfpikmeiooangaaDoorW.PrintMore
/-- A number's digits. -/
def dgs (n : Int) : ByteArray := ⟨(Lib.decDigits n.toNat).toArray⟩
theorem dgs_size (n : Int) (h : n < 100) : (dgs n).size ≤ 2 := by
  show (Lib.decDigits n.toNat).toArray.size ≤ 2
  by_cases h1 : n.toNat < 10
  · simp [Lib.decDigits_one h1]
  · simp [Lib.decDigits_two h1 (show n.toNat < 100 by omega)]
theorem itoa_call (n : Int) (h0 : 0 ≤ n) (h1 : n < 100) (w : World) : Calls Tryd.prog 15 #[.int .i64 n] w fun e w' => e = .returned (.string (dgs n)) ∧ w' = w := by
  obtain ⟨m, rfl⟩ := Int.eq_ofNat_of_zero_le h0
  exact Tryd.strconv_Itoa_small m (by omega) w
def lit (l : List UInt8) : ByteArray := ⟨l.toArray⟩
def headB (W H : Int) : ByteArray := lit [102, 108, 111, 119, 32] ++ dgs W ++ lit [32] ++ dgs H ++ lit [32]
def dirL (W : Int) (i : Nat) (d : Int) : List UInt8 := (if 0 < i ∧ (i : Int) % W = 0 then [47] else []) ++ [UInt8.ofNat (48 + d).toNat]
def dirsL (W : Int) (l : List Int) : Nat → List UInt8
  | 0 => []
  | n + 1 => dirsL W l n ++ dirL W n (l.getD n 0)
def edgeB (e : S50) : ByteArray := lit [32] ++ dgs e.f0 ++ lit [44] ++ dgs e.f1 ++ lit [44] ++ dgs e.f2
def edgesL (l : List S50) : Nat → List UInt8
  | 0 => []
  | n + 1 => edgesL l n ++ (edgeB (l.getD n z50)).data.toList
def textL (W H : Int) (d : List Int) (p : List S50) : List UInt8 := (headB W H).data.toList ++ dirsL W d d.length ++ edgesL p p.length
def small (n : Int) : Prop := 0 ≤ n ∧ n < 100
def fits (W H : Int) (d : List Int) (p : List S50) : Prop := 0 < W ∧ W < 100 ∧ 0 ≤ H ∧ H < 100 ∧ d.length ≤ 400 ∧ p.length ≤ 100 ∧ (∀ x ∈ d, 0 ≤ x ∧ x ≤ 9) ∧ (∀ e ∈ p, small e.f0 ∧ small e.f1 ∧ small e.f2)
open Classical in
noncomputable def flow_Format.f (k : Nat) (a0_0 a0_1 : Int) (l0_2 : List Int) (l0_3 : List S50) : Option (ByteArray × Int) :=
  (flow_Validate.f k a0_0 a0_1 l0_2 l0_3).bind fun e => if e = 0 then (if fits a0_0 a0_1 l0_2 l0_3 then some (⟨(textL a0_0 a0_1 l0_2 l0_3).toArray⟩, 0) else none) else some (⟨#[]⟩, e)
/-- What holds while the text is written: the boxed field, the builder. -/
structure FmtI (w : World) (bb : Nat) (W H : Int) (dv pv : Value) (l : List UInt8) (W' : World) : Prop where
  lt : w.heap.size < bb
  below : Below w.heap.size w W'
  bld : Lib.IsBuilder 42 5 bb bb (Lib.byteCells l) W'
  size : bb < W'.heap.size
  c0 : W'.cell? ⟨w.heap.size, 0, none⟩ = some (.int .i64 W)
  c1 : W'.cell? ⟨w.heap.size, 1, none⟩ = some (.int .i64 H)
  c2 : W'.cell? ⟨w.heap.size, 2, none⟩ = some dv
  c3 : W'.cell? ⟨w.heap.size, 3, none⟩ = some pv
theorem FmtI.step {w : World} {bb : Nat} {W H : Int} {dv pv : Value} {l l' : List UInt8} {W' W2 : World} (h : FmtI w bb W H dv pv l W') (hb : Below bb W' W2) (hn : Lib.IsBuilder 42 5 bb bb (Lib.byteCells l') W2) : FmtI w bb W H dv pv l' W2 :=
  ⟨h.lt, h.below.trans (hb.mono (Nat.le_of_lt h.lt)), hn, Nat.lt_of_lt_of_le h.size hb.size, (hb.cell (p := ⟨w.heap.size, 0, none⟩) h.lt).trans h.c0, (hb.cell (p := ⟨w.heap.size, 1, none⟩) h.lt).trans h.c1, (hb.cell (p := ⟨w.heap.size, 2, none⟩) h.lt).trans h.c2, (hb.cell (p := ⟨w.heap.size, 3, none⟩) h.lt).trans h.c3⟩
theorem FmtI.grows {w : World} {bb : Nat} {W H : Int} {dv pv : Value} {l : List UInt8} {W' W2 : World} (h : FmtI w bb W H dv pv l W') (hb : Below W'.heap.size W' W2) : FmtI w bb W H dv pv l W2 :=
  h.step (hb.mono (Nat.le_of_lt h.size)) (Bld.is_below h.bld hb)
theorem FmtI.drew {w : World} {bb : Nat} {W H : Int} {dv pv : Value} {l : List UInt8} {W' : World} (h : FmtI w bb W H dv pv l W') : FmtI w bb W H dv pv l W'.drew :=
  ⟨h.lt, h.below.drew, h.bld, h.size, h.c0, h.c1, h.c2, h.c3⟩
theorem FmtI.writeByte {w : World} {bb : Nat} {W H : Int} {dv pv : Value} {l : List UInt8} {wr : World} (h : FmtI w bb W H dv pv l wr) (hl : l.length ≤ 100000) (c : Int) (u : UInt8) (hc : c = u.toNat) :
    Calls Tryd.prog 16 #[.pointer (some ⟨bb, 0, none⟩), .int .u8 c] wr fun e w' => e = .returned .nilIface ∧ FmtI w bb W H dv pv (l ++ [u]) w' := by
  subst hc
  refine (Bld.writeByte bb bb (Lib.byteCells l) _ wr h.bld (by simp only [Lib.byteCells_length]; omega) (Nat.le_of_lt h.size)).mono ?_
  rintro e w' ⟨rfl, hb, hB⟩
  exact ⟨rfl, h.step hB (.inr (by simpa [Lib.byteCells] using hb))⟩
theorem FmtI.writeString {w : World} {bb : Nat} {W H : Int} {dv pv : Value} {l : List UInt8} {wr : World} (h : FmtI w bb W H dv pv l wr) (hl : l.length ≤ 100000) (s : ByteArray) (hs : s.size ≤ 100000) :
    Calls Tryd.prog 14 #[.pointer (some ⟨bb, 0, none⟩), .string s] wr fun e w' => e = .returned (.tuple #[.int .i64 s.size, .nilIface]) ∧ FmtI w bb W H dv pv (l ++ s.data.toList) w' := by
  refine (Bld.writeString bb bb (Lib.byteCells l) s wr h.bld (by simp only [Lib.byteCells_length]; omega) (Nat.le_of_lt h.size)).mono ?_
  rintro e w' ⟨rfl, hb, hB⟩
  exact ⟨rfl, h.step hB (.inr (by simpa [Lib.byteCells, Lib.strCells_eq] using hb))⟩
theorem dirsL_length (W : Int) (l : List Int) : ∀ n, (dirsL W l n).length ≤ 2 * n
  | 0 => Nat.le_refl _
  | n + 1 => by
    have := dirsL_length W l n
    simp only [dirsL, dirL, List.length_append]
    split <;> simp <;> omega
theorem rd_nat (l : List Int) (n : Nat) : rd l (n : Int) = l.getD n 0 := by unfold rd; rw [Int.toNat_natCast]
theorem u8_dig (d : Int) (h0 : 0 ≤ d) (h1 : d ≤ 9) : 48 + d = ((UInt8.ofNat (48 + d).toNat).toNat : Int) := by
  have h : (48 + d).toNat < 256 := by omega
  rw [UInt8.toNat_ofNat', Nat.mod_eq_of_lt h]
  omega
theorem edgeB_size (e : S50) (h : small e.f0 ∧ small e.f1 ∧ small e.f2) : (edgeB e).size ≤ 9 := by
  have a := dgs_size e.f0 h.1.2
  have b := dgs_size e.f1 h.2.1.2
  have c := dgs_size e.f2 h.2.2.2
  simp only [edgeB, lit, ByteArray.size_append]
  show 1 + (dgs e.f0).size + 1 + (dgs e.f1).size + 1 + (dgs e.f2).size ≤ 9
  omega
theorem edgesL_length (l : List S50) (h : ∀ e ∈ l, small e.f0 ∧ small e.f1 ∧ small e.f2) : ∀ n, n ≤ l.length → (edgesL l n).length ≤ 9 * n
  | 0, _ => Nat.le_refl _
  | n + 1, hn => by
    have := edgesL_length l h n (by omega)
    have hs := edgeB_size (l.getD n z50) (h _ (by simp [List.getD_eq_getElem?_getD, show n < l.length by omega]))
    simp only [edgesL, List.length_append]
    have e : (edgeB (l.getD n z50)).data.toList.length = (edgeB (l.getD n z50)).size := by simp
    omega
theorem headB_length (W H : Int) (h1 : W < 100) (h2 : H < 100) : (headB W H).data.toList.length ≤ 20 := by
  have a := dgs_size W h1
  have b := dgs_size H h2
  have : (headB W H).size ≤ 20 := by
    simp only [headB, lit, ByteArray.size_append]
    show 5 + (dgs W).size + 1 + (dgs H).size + 1 ≤ 20
    omega
  simpa using this
set_option maxHeartbeats 2000000 in
set_option maxRecDepth 100000 in
theorem flow_Format.calls (k : Nat) (a0_0 : Int) (a0_1 : Int) (A0_2 : Option Addr) (c0_2 : Nat) (l0_2 : List Int) (A0_3 : Option Addr) (c0_3 : Nat) (l0_3 : List (S50)) (r1 : ByteArray) (r2 : Int) (w : World) (hr0_2 : Kd.C (Kd.int .i64) w A0_2 l0_2.length l0_2) (hc0_2 : l0_2.length ≤ c0_2) (hr0_3 : Kd.C k50 w A0_3 l0_3.length l0_3) (hc0_3 : l0_3.length ≤ c0_3) (h : flow_Format.f k a0_0 a0_1 l0_2 l0_3 = some (r1, r2)) :
    Calls Tryd.prog 6 #[.agg #[.int .i64 a0_0, .int .i64 a0_1, .slice A0_2 l0_2.length c0_2, .slice A0_3 l0_3.length c0_3]] w fun e w' => e = .returned (.tuple #[.string r1, .int .i64 r2]) ∧ Below w.heap.size w w' := by
  unfold flow_Format.f at h
  simp only [Option.bind_eq_some_iff] at h
  obtain ⟨v0, hv, h⟩ := h
  have HV := Lib.hid hv
  have HR2 := Aside0.mk hr0_2; have HC2 := Aside0.mk hc0_2; have HR3 := Aside0.mk hr0_3; have HC3 := Aside0.mk hc0_3
  clear hr0_2 hc0_2 hr0_3 hc0_3 hv
  by_cases hz : v0 = 0
  case neg =>
    rw [if_neg hz] at h
    simp only [Option.some.injEq, Prod.mk.injEq] at h
    obtain ⟨rfl, rfl⟩ := h
    have hn : (v0 != 0) = true := bne_iff_ne.2 hz
    go_enter Tryd.func6, Tryd.ntmps6
    go_wp2_with (go_at_call 13; refine (flow_Validate.calls k _ _ _ _ _ _ _ _ v0 _ (Kd.C_below HR2.out ((Below.refl _ _).alloc (Nat.le_refl _) _)) HC2.out (Kd.C_below HR3.out ((Below.refl _ _).alloc (Nat.le_refl _) _)) HC3.out HV.out).mono ?_; rintro e w1 ⟨rfl, hb1⟩)
    go_ret2
    exact ⟨rfl, ((Below.refl _ _).alloc (Nat.le_refl _) _).trans (hb1.mono (by simp))⟩
  rw [if_pos hz] at h
  subst hz
  split at h
  case isFalse => cases h
  rename_i hfit
  simp only [Option.some.injEq, Prod.mk.injEq] at h
  obtain ⟨hr1, rfl⟩ := h
  have HT := Lib.hid hr1
  clear hr1
  obtain ⟨b0, b1, b2, b3, b4, b5, hD, hE⟩ := hfit
  have HD := Lib.hid hD; have HE := Lib.hid hE
  clear hD hE
  have s0 := dgs_size a0_0 b1
  have s1 := dgs_size a0_1 b3
  go_enter Tryd.func6, Tryd.ntmps6
  go_wp2_with (go_at_call 13; refine (flow_Validate.calls k _ _ _ _ _ _ _ _ 0 _ (Kd.C_below HR2.out ((Below.refl _ _).alloc (Nat.le_refl _) _)) HC2.out (Kd.C_below HR3.out ((Below.refl _ _).alloc (Nat.le_refl _) _)) HC3.out HV.out).mono ?_; rintro e w1 ⟨rfl, hb1⟩)
  have hB : Below w.heap.size w w1 := ((Below.refl _ _).alloc (Nat.le_refl _) _).trans (hb1.mono (by simp))
  have hz : w.heap.size < w1.heap.size := by have := hb1.size; simp at this; omega
  have q0 : w1.cell? ⟨w.heap.size, 0, none⟩ = some (.int .i64 a0_0) := (hb1.cell (p := ⟨w.heap.size, 0, none⟩) (by simp)).trans (by go_simp)
  have q1 : w1.cell? ⟨w.heap.size, 1, none⟩ = some (.int .i64 a0_1) := (hb1.cell (p := ⟨w.heap.size, 1, none⟩) (by simp)).trans (by go_simp)
  have q2 : w1.cell? ⟨w.heap.size, 2, none⟩ = some (.slice A0_2 l0_2.length c0_2) := (hb1.cell (p := ⟨w.heap.size, 2, none⟩) (by simp)).trans (by go_simp)
  have q3 : w1.cell? ⟨w.heap.size, 3, none⟩ = some (.slice A0_3 l0_3.length c0_3) := (hb1.cell (p := ⟨w.heap.size, 3, none⟩) (by simp)).trans (by go_simp)
  clear hb1
  have hb2 : Below w1.heap.size w1 (w1.alloc (.cells #[.pointer none, .slice none 0 0] 42)) := (Below.refl _ _).alloc (Nat.le_refl _) _
  have hBld0 := Lib.fresh_isBuilder 42 5 w1
  obtain ⟨bb, hbb⟩ : ∃ bb, bb = w1.heap.size := ⟨_, rfl⟩
  have hI : FmtI w bb a0_0 a0_1 (.slice A0_2 l0_2.length c0_2) (.slice A0_3 l0_3.length c0_3) [] (w1.alloc (.cells #[.pointer none, .slice none 0 0] 42)) :=
    ⟨by omega, hB.alloc (by omega) _, hbb ▸ hBld0, by simp; omega, pw_cell_below hb2 q0, pw_cell_below hb2 q1, pw_cell_below hb2 q2, pw_cell_below hb2 q3⟩
  rw [← hbb]
  generalize w1.alloc (.cells #[.pointer none, .slice none 0 0] 42) = w2 at hI ⊢
  clear hBld0 hB hz q0 q1 q2 q3 hbb hb2
  have e0 := hI.c0; have e1 := hI.c1
  refine wp_region_still_tail 10 (by kernel_rfl) (by kernel_rfl) ?_
  simp only [List.take_succ_cons, List.take_zero, List.drop_succ_cons, List.drop_zero]
  still_step
  still_step
  have z1 : (9223372036854775807 < 5 + (dgs a0_0).size) = False := eq_false (by omega)
  have z2 : (9223372036854775807 < 5 + (dgs a0_0).size + 1) = False := eq_false (by omega)
  have z3 : (9223372036854775807 < 5 + (dgs a0_0).size + 1 + (dgs a0_1).size) = False := eq_false (by omega)
  have z4 : (9223372036854775807 < 5 + (dgs a0_0).size + 1 + (dgs a0_1).size + 1) = False := eq_false (by omega)
  still_call (itoa_call a0_0 (by omega) b1 _)
  still_step
  still_step
  still_step
  still_step
  still_call (itoa_call a0_1 (by omega) b3 _)
  still_step
  still_step
  refine wpStill_nil ?_
  have HI := Aside0.mk hI
  clear z1 z2 z3 z4
  change wpList _ _ _ _ _ w2.drew
  have hI' := hI.drew
  clear hI e0 e1 HI
  generalize w2.drew = w3 at hI' ⊢
  have hsz : (({ data := #[102, 108, 111, 119, 32] } : ByteArray) ++ dgs a0_0 ++ { data := #[32] } ++ dgs a0_1 ++ { data := #[32] }).size ≤ 20 := by
    simp only [ByteArray.size_append]
    show 5 + (dgs a0_0).size + 1 + (dgs a0_1).size + 1 ≤ 20
    omega
  go_wp2_with fail
  refine (Bld.writeString bb bb (Lib.byteCells []) _ w3 hI'.bld (by simp only [Lib.byteCells_length, List.length_nil]; omega) (Nat.le_of_lt hI'.size)).mono ?_
  rintro e w4 ⟨rfl, hb4, hB4⟩
  have hI := hI'.step (l' := (headB a0_0 a0_1).data.toList) hB4 (.inr (by simpa [Lib.byteCells, Lib.strCells_eq, headB, lit] using hb4))
  clear hb4 hB4 hI' hsz
  have e2 := hI.c2
  go_wp2_with fail
  clear e2
  go_loopw [6, 7, 29] (fun _ _ i wr => ∃ n : Nat, n ≤ l0_2.length ∧ i = .int .i64 n ∧ FmtI w bb a0_0 a0_1 (.slice A0_2 l0_2.length c0_2) (.slice A0_3 l0_3.length c0_3) ((headB a0_0 a0_1).data.toList ++ dirsL a0_0 l0_2 n) wr) (fun _ _ i _ => l0_2.length - (intOf i).toNat)
  case atStart => exact ⟨0, Nat.zero_le _, rfl, by simpa [dirsL] using hI⟩
  case round =>
    clear hI
    obtain ⟨n, hn, rfl, hI⟩ := hrel
    have e0 := hI.c0
    by_cases hlt : n < l0_2.length
    · obtain ⟨ad, rfl, hx⟩ := Kd.at_int (Kd.C_below HR2.out hI.below) (n : Int) (by omega) (by omega)
      have hd : 0 ≤ rd l0_2 n ∧ rd l0_2 n ≤ 9 := HD.out _ (by unfold rd; simp [List.getD_eq_getElem?_getD, hlt])
      obtain ⟨d0, d1⟩ := hd
      rw [Int.toNat_natCast] at hx
      obtain ⟨dv, hdv⟩ : ∃ dv, rd l0_2 n = dv := ⟨_, rfl⟩
      rw [hdv] at hx d0 d1
      have HDV := Lib.hid hdv
      clear hdv
      have HI := Aside0.mk hI
      clear hI
      have hlen : ((headB a0_0 a0_1).data.toList ++ dirsL a0_0 l0_2 n).length ≤ 2000 := by
        have h1 := headB_length a0_0 a0_1 b1 b3
        have h2 := dirsL_length a0_0 l0_2 n
        rw [List.length_append]
        omega
      have HL := Aside0.mk hlen
      clear hlen
      by_cases g1 : (0 : Int) < n
      · by_cases g2 : (n : Int) % a0_0 = 0
        · have g2' : ((n : Int) % a0_0 == 0) = true := by simpa using g2
          have G2 := Lib.hid g2
          clear g2
          go_wp2_with fail
          refine (HI.out.writeByte (by have := HL.out; omega) 47 47 rfl).mono ?_
          rintro e w5 ⟨rfl, hI5⟩
          have HI5 := Aside0.mk hI5
          clear hI5
          go_wp2_with fail
          refine (HI5.out.writeByte (by have := HL.out; simp only [List.length_append, List.length_cons, List.length_nil] at this ⊢; omega) (48 + dv) (UInt8.ofNat (48 + dv).toNat) (u8_dig dv d0 d1)).mono ?_
          rintro e w6 ⟨rfl, hI6⟩
          have HI6 := Aside0.mk hI6
          clear hI6
          go_wp2
          go_roundw
          case rel => exact ⟨n + 1, by omega, by go_num, by have := HI6.out; rw [List.append_assoc, List.append_assoc] at this; rw [dirsL, dirL, if_pos ⟨by omega, G2.out⟩, ← rd_nat, HDV.out]; exact this⟩
          case measure => simp [intOf]; omega
        · have g2' : ((n : Int) % a0_0 == 0) = false := by simpa using g2
          have G2 := Lib.hid g2
          clear g2
          go_wp2_with fail
          refine (HI.out.writeByte (by have := HL.out; omega) (48 + dv) (UInt8.ofNat (48 + dv).toNat) (u8_dig dv d0 d1)).mono ?_
          rintro e w6 ⟨rfl, hI6⟩
          have HI6 := Aside0.mk hI6
          clear hI6
          go_wp2
          go_roundw
          case rel => exact ⟨n + 1, by omega, by go_num, by have := HI6.out; rw [List.append_assoc] at this; rw [dirsL, dirL, if_neg (fun h => G2.out h.2), List.nil_append, ← rd_nat, HDV.out]; exact this⟩
          case measure => simp [intOf]; omega
      · have g1' : decide ((0 : Int) < n) = false := by simpa using g1
        obtain rfl : n = 0 := by omega
        clear g1 g1'
        have hx0 : wr.cell? ad = some (.int .i64 dv) := by simpa [Addr.add] using hx
        · go_wp2_with fail
          with_reducible refine (HI.out.writeByte (by have := HL.out; omega) (48 + dv) (UInt8.ofNat (48 + dv).toNat) (u8_dig dv d0 d1)).mono ?_
          rintro e w6 ⟨rfl, hI6⟩
          have HI6 := Aside0.mk hI6
          clear hI6
          go_wp2
          go_roundw
          case rel => exact ⟨0 + 1, by omega, by go_num, by have := HI6.out; rw [List.append_assoc] at this; rw [dirsL, dirL, if_neg (by omega), List.nil_append, ← rd_nat, HDV.out]; exact this⟩
          case measure => simp [intOf]; omega
    · obtain rfl : n = l0_2.length := by omega
      have e3 := hI.c3
      have HI := Aside0.mk hI
      clear hI e0
      go_wp2_with fail
      clear e3
      go_loopw [9, 52] (fun _ i wr => ∃ n : Nat, n ≤ l0_3.length ∧ i = .int .i64 n ∧ FmtI w bb a0_0 a0_1 (.slice A0_2 l0_2.length c0_2) (.slice A0_3 l0_3.length c0_3) ((headB a0_0 a0_1).data.toList ++ dirsL a0_0 l0_2 l0_2.length ++ edgesL l0_3 n) wr) (fun _ i _ => l0_3.length - (intOf i).toNat)
      case atStart => exact ⟨0, Nat.zero_le _, rfl, by rw [edgesL, List.append_nil]; exact HI.out⟩
      case round =>
        clear HI
        obtain ⟨m, hm, rfl, hI⟩ := hrel
        by_cases hlt2 : m < l0_3.length
        · obtain ⟨ad, rfl, x0, x1, x2⟩ := at_T50 (Kd.C_below HR3.out hI.below) (m : Int) (by omega) (by omega)
          have hd := HE.out (l0_3.getD m z50) (by simp [List.getD_eq_getElem?_getD, hlt2])
          have he : rd_T50 l0_3 (m : Int) = l0_3.getD m z50 := by unfold rd_T50; rw [Int.toNat_natCast]
          rw [he] at x0 x1 x2
          rw [Int.toNat_natCast] at x0 x1 x2
          have hlen : ((headB a0_0 a0_1).data.toList ++ dirsL a0_0 l0_2 l0_2.length ++ edgesL l0_3 m).length ≤ 2000 := by
            have h1 := headB_length a0_0 a0_1 b1 b3
            have h2 := dirsL_length a0_0 l0_2 l0_2.length
            have h3 := edgesL_length l0_3 HE.out m (by omega)
            rw [List.length_append, List.length_append]
            omega
          have HL := Aside0.mk hlen
          have HI := Aside0.mk hI
          have HSZ := Aside0.mk (edgeB_size _ hd)
          clear hlen hI he
          obtain ⟨E, hE⟩ : ∃ E, l0_3.getD m z50 = E := ⟨_, rfl⟩
          rw [hE] at x0 x1 x2 hd HSZ
          have HEQ := Lib.hid hE
          clear hE
          obtain ⟨⟨u0, u1⟩, ⟨u2, u3⟩, u4, u5⟩ := hd
          have t0 := dgs_size E.f0 u1; have t1 := dgs_size E.f1 u3; have t2 := dgs_size E.f2 u5
          go_wp2_with fail
          have hb3 : Below wr.heap.size wr (wr.alloc (.cells #[.int .i64 E.f0, .int .i64 E.f1, .int .i64 E.f2] 50)) := (Below.refl _ _).alloc (Nat.le_refl _) _
          have hI3 := HI.out.grows hb3
          have y0 : (wr.alloc (.cells #[.int .i64 E.f0, .int .i64 E.f1, .int .i64 E.f2] 50)).cell? ⟨wr.heap.size, 0, none⟩ = some (.int .i64 E.f0) := by go_simp
          have y1 : (wr.alloc (.cells #[.int .i64 E.f0, .int .i64 E.f1, .int .i64 E.f2] 50)).cell? ⟨wr.heap.size, 1, none⟩ = some (.int .i64 E.f1) := by go_simp
          have y2 : (wr.alloc (.cells #[.int .i64 E.f0, .int .i64 E.f1, .int .i64 E.f2] 50)).cell? ⟨wr.heap.size, 2, none⟩ = some (.int .i64 E.f2) := by go_simp
          generalize wr.alloc (.cells #[.int .i64 E.f0, .int .i64 E.f1, .int .i64 E.f2] 50) = w7 at hI3 y0 y1 y2 ⊢
          generalize wr.heap.size = bd at y0 y1 y2 ⊢
          have HI3 := Aside0.mk hI3
          clear hb3 hI3 x0 x1 x2
          have z1 : (9223372036854775807 < 1 + (dgs E.f0).size) = False := eq_false (by omega)
          have z2 : (9223372036854775807 < 1 + (dgs E.f0).size + 1) = False := eq_false (by omega)
          have z3 : (9223372036854775807 < 1 + (dgs E.f0).size + 1 + (dgs E.f1).size) = False := eq_false (by omega)
          have z4 : (9223372036854775807 < 1 + (dgs E.f0).size + 1 + (dgs E.f1).size + 1) = False := eq_false (by omega)
          have z5 : (9223372036854775807 < 1 + (dgs E.f0).size + 1 + (dgs E.f1).size + 1 + (dgs E.f2).size) = False := eq_false (by omega)
          refine wp_region_still_tail 14 (by kernel_rfl) (by kernel_rfl) ?_
          simp only [List.take_succ_cons, List.take_zero, List.drop_succ_cons, List.drop_zero]
          still_step
          still_step
          still_call (itoa_call E.f0 u0 u1 _)
          still_step
          still_step
          still_step
          still_step
          still_call (itoa_call E.f1 u2 u3 _)
          still_step
          still_step
          still_step
          still_step
          still_call (itoa_call E.f2 u4 u5 _)
          still_step
          refine wpStill_nil ?_
          clear z1 z2 z3 z4 z5 y0 y1 y2
          change wpList _ _ _ _ _ w7.drew
          have hI7 := HI3.out.drew
          clear HI3
          generalize w7.drew = w8 at hI7 ⊢
          have HI7 := Aside0.mk hI7
          clear hI7
          go_wp2_with fail
          refine (HI7.out.writeString (by have := HL.out; omega) (edgeB E) (by have := HSZ.out; omega)).mono ?_
          rintro e w9 ⟨rfl, hI9⟩
          have HI9 := Aside0.mk hI9
          clear hI9
          go_wp2
          go_roundw
          case rel => exact ⟨m + 1, by omega, by go_num, by rw [edgesL, HEQ.out, ← List.append_assoc]; exact HI9.out⟩
          case measure => simp [intOf]; omega
        · obtain rfl : m = l0_3.length := by omega
          have hI9 := hI
          have HI := Aside0.mk hI
          clear hI hI9
          go_wp2_with fail
          refine (Tryd.Builder_String_any bb bb _ _ HI.out.bld (Nat.le_of_lt HI.out.size)).mono ?_
          rintro e w9 ⟨rfl, hb9⟩
          have HB9 := Aside0.mk (HI.out.below.trans (hb9.mono (Nat.le_of_lt HI.out.lt)))
          clear hb9
          go_wp2
          go_ret2
          exact ⟨by rw [← HT.out, textL, List.append_assoc]; rfl, HB9.out⟩
end Go.Proofs.YtfpikmeiooangaaDoor.PFlowTexts
end
section
namespace Go.Proofs.YtfpikmeiooangaaDoor.PFlowTexts
open Go.RowKit Go.Proofs.YtfpikmeiooangaaDoorW.PrintWords Go.Proofs.YtfpikmeiooangaaDoorW.PrintLast Go.Proofs.YtfpikmeiooangaaDoorW.PrintMore
theorem digits_all : ∀ m : Fin 100, wigmakerref01_Digits.f 4 (m.val : Int) = some (dgs (m.val : Int)) := by decide +kernel
theorem digits_ev (n : Int) (h : 0 ≤ n ∧ n < 100) : Ev (fun k => wigmakerref01_Digits.f k n) (dgs n) := by
  obtain ⟨m, rfl⟩ := Int.eq_ofNat_of_zero_le h.1
  exact Ev.of_mono (fun k => wigmakerref01_Digits.mono _ k) 4 (digits_all ⟨m, by omega⟩)
theorem Valid.small {W H : Int} {D : List Int} {P : List S50} (h : Valid W H D P) (i : Nat) (hi : i < P.length) : (0 ≤ (P.getD i z50).f0 ∧ (P.getD i z50).f0 < 12) ∧ (0 ≤ (P.getD i z50).f1 ∧ (P.getD i z50).f1 < 12) ∧ (0 ≤ (P.getD i z50).f2 ∧ (P.getD i z50).f2 < 2) := by
  have := of_decide_eq_true (h.good i (Nat.zero_le _) hi).1
  have := h.fld.w
  have := h.fld.h
  omega
theorem Valid.len {W H : Int} {D : List Int} {P : List S50} (h : Valid W H D P) : D.length ≤ 144 := by
  have h1 : W * H ≤ 12 * 12 := Int.mul_le_mul h.fld.w.2 h.fld.h.2 (by have := h.fld.h; omega) (by omega)
  have := h.fld.n
  omega
theorem Valid.fits {W H : Int} {D : List Int} {P : List S50} (h : Valid W H D P) : fits W H D P := by
  have hw := h.fld.w
  have hh := h.fld.h
  have hl := h.len
  have hf := h.few
  refine ⟨by omega, by omega, by omega, by omega, by omega, by omega, fun x hx => ?_, fun e he => ?_⟩
  · have := h.fld.d x hx
    omega
  · obtain ⟨i, hi, rfl⟩ := List.getElem_of_mem he
    have hg : P.getD i z50 = P[i] := by rw [List.getD_eq_getElem?_getD, List.getElem?_eq_getElem hi]; rfl
    have := h.small i hi
    rw [hg] at this
    exact ⟨⟨by omega, by omega⟩, ⟨by omega, by omega⟩, ⟨by omega, by omega⟩⟩
/-- The text of a field. -/
def txt (W H : Int) (D : List Int) (P : List S50) : ByteArray := ⟨(textL W H D P).toArray⟩
theorem format_flow {W H : Int} {D : List Int} {P : List S50} (hv : Ev (fun k => flow_Validate.f k W H D P) 0) (h : Valid W H D P) : Ev (fun k => flow_Format.f k W H D P) (txt W H D P, 0) := by
  unfold flow_Format.f
  refine Ev.bind hv (Ev.pos rfl ?_)
  rw [if_pos h.fits]
  exact Ev.pure _
theorem format_bad {W H : Int} {D : List Int} {P : List S50} {e : Int} (he : e ≠ 0) (hv : Ev (fun k => flow_Validate.f k W H D P) e) (hr : Ev (fun k => wigmakerref03_Validate.f k W H D P) e) :
    Ev (fun k => flow_Format.f k W H D P) (⟨#[]⟩, e) ∧ Ev (fun k => wigmakerref03_Format.f k W H D P) (⟨#[]⟩, e) := by
  constructor
  · unfold flow_Format.f
    exact Ev.bind hv (Ev.neg he (Ev.pure _))
  · unfold wigmakerref03_Format.f
    exact Ev.bind hr (Ev.neg he (Ev.pure _))
/-- Bytes of a list. -/
def ofL (l : List UInt8) : ByteArray := ⟨l.toArray⟩
theorem ofL_data (s : ByteArray) : ofL s.data.toList = s := by
  obtain ⟨⟨l⟩⟩ := s
  rfl
theorem ofL_app (l m : List UInt8) : ofL l ++ ofL m = ofL (l ++ m) := by
  have : ∀ a b : ByteArray, (a ++ b).data.toList = a.data.toList ++ b.data.toList := fun a b => by rw [ByteArray.data_append, Array.toList_append]
  rw [← ofL_data (ofL l ++ ofL m), this]
  rfl
theorem ofL_size (l : List UInt8) : (ofL l).size = l.length := rfl
theorem dgs_one : ∀ m : Fin 10, dgs (m.val : Int) = ofL [UInt8.ofNat (48 + (m.val : Int)).toNat] := by decide +kernel
theorem dgs_digit (d : Int) (h : 0 ≤ d ∧ d ≤ 9) : dgs d = ofL [UInt8.ofNat (48 + d).toNat] := by
  obtain ⟨m, rfl⟩ := Int.eq_ofNat_of_zero_le h.1
  exact dgs_one ⟨m, by omega⟩
theorem dirsL_len (W : Int) (D : List Int) : ∀ n, (dirsL W D n).length ≤ 2 * n
  | 0 => Nat.le_refl _
  | n + 1 => by
    have := dirsL_len W D n
    rw [dirsL, List.length_append, dirL, List.length_append]
    split <;> simp <;> omega
theorem rfmt0 {W H : Int} {D : List Int} {P : List S50} {v : ByteArray × Int} (h : Valid W H D P) (hd : List UInt8) (hhd : hd.length ≤ 1000)
    (hc : Ev (fun k => wigmakerref03_Format.l1 k (ofL (hd ++ dirsL W D D.length)) 0 W H D P) v) : ∀ (m i : Nat), i + m = D.length →
    Ev (fun k => wigmakerref03_Format.l0 k (ofL (hd ++ dirsL W D i)) (i : Int) W H D P) v
  | 0, i, hm => by
    refine Ev.succ ?_
    simp only [wigmakerref03_Format.l0]
    refine Ev.neg (by omega) ?_
    obtain rfl : i = D.length := by omega
    exact hc
  | m + 1, i, hm => by
    have ih := rfmt0 h hd hhd hc m (i + 1) (by omega)
    have hlen := h.len
    have hdl := dirsL_len W D i
    have hw := h.fld.w
    have hr : 0 ≤ rd D (i : Int) ∧ rd D (i : Int) ≤ 7 := h.fld.d _ (List.mem_of_mem_drop (i := i) (by
      rw [drop_consI D i (by omega)]
      exact List.mem_cons_self))
    have hdg := digits_ev (rd D (i : Int)) (by omega)
    rw [dgs_digit _ (by omega)] at hdg
    have hrd : D.getD i 0 = rd D (i : Int) := rfl
    rw [dirsL, dirL, hrd, ← List.append_assoc] at ih
    have hsz : (ofL (hd ++ dirsL W D i)).size ≤ 2000 := by rw [ofL_size, List.length_append]; omega
    have htm : Int.tmod (i : Int) W = (i : Int) % W := Int.tmod_eq_emod_of_nonneg (by omega)
    refine Ev.succ ?_
    simp only [wigmakerref03_Format.l0, htm, w1 i (by omega)]
    refine Ev.pos (by omega) ?_
    by_cases hi : (i : Int) > 0
    · refine Ev.pos hi (Ev.neg (by omega) ?_)
      by_cases hz : (i : Int) % W = 0
      · refine Ev.pos hz (Ev.pos (by omega) (Ev.pos (by omega) (Ev.bind hdg (Ev.pos (by simp only [ofL_size, List.length_append, List.length_cons, List.length_nil] at hsz ⊢; omega) ?_))))
        rw [if_pos ⟨by omega, hz⟩] at ih
        rw [show (⟨#[47]⟩ : ByteArray) = ofL [47] from rfl, ofL_app, ofL_app]
        rwa [← List.append_assoc] at ih
      · refine Ev.neg hz (Ev.pos (by omega) (Ev.bind hdg (Ev.pos (by simp only [ofL_size, List.length_append, List.length_cons, List.length_nil] at hsz ⊢; omega) ?_)))
        rw [if_neg (fun c => hz c.2)] at ih
        rw [ofL_app]
        simpa using ih
    · refine Ev.neg hi (Ev.pos (by omega) (Ev.bind hdg (Ev.pos (by simp only [ofL_size, List.length_append, List.length_cons, List.length_nil] at hsz ⊢; omega) ?_)))
      rw [if_neg (fun c => hi (by omega))] at ih
      rw [ofL_app]
      simpa using ih
theorem dgs_len (n : Int) (h : n < 100) : (dgs n).data.toList.length ≤ 2 := dgs_size n h
theorem edgeB_eq (e : S50) : edgeB e = ofL ([32] ++ (dgs e.f0).data.toList ++ [44] ++ (dgs e.f1).data.toList ++ [44] ++ (dgs e.f2).data.toList) := by
  unfold edgeB
  rw [show lit [32] = ofL [32] from rfl, show lit [44] = ofL [44] from rfl, ← ofL_data (dgs e.f0), ← ofL_data (dgs e.f1), ← ofL_data (dgs e.f2)]
  simp only [ofL_app]
  rfl
theorem edgesL_len {W H : Int} {D : List Int} {P : List S50} (h : Valid W H D P) : ∀ n, n ≤ P.length → (edgesL P n).length ≤ 10 * n
  | 0, _ => Nat.le_refl _
  | n + 1, hn => by
    have ih := edgesL_len h n (by omega)
    have hs := h.small n (by omega)
    have h0 := dgs_len (P.getD n z50).f0 (by omega)
    have h1 := dgs_len (P.getD n z50).f1 (by omega)
    have h2 := dgs_len (P.getD n z50).f2 (by omega)
    rw [edgesL, List.length_append, edgeB_eq]
    show _ + ([32] ++ (dgs (P.getD n z50).f0).data.toList ++ [44] ++ (dgs (P.getD n z50).f1).data.toList ++ [44] ++ (dgs (P.getD n z50).f2).data.toList).length ≤ _
    simp only [List.length_append, List.length_cons, List.length_nil]
    omega
theorem rfmt1 {W H : Int} {D : List Int} {P : List S50} (h : Valid W H D P) (hd : List UInt8) (hhd : hd.length ≤ 2000) : ∀ (m i : Nat), i + m = P.length →
    Ev (fun k => wigmakerref03_Format.l1 k (ofL (hd ++ edgesL P i)) (i : Int) W H D P) (ofL (hd ++ edgesL P P.length), 0)
  | 0, i, hm => by
    refine Ev.succ ?_
    simp only [wigmakerref03_Format.l1]
    refine Ev.neg (by omega) ?_
    obtain rfl : i = P.length := by omega
    exact Ev.pure _
  | m + 1, i, hm => by
    have ih := rfmt1 h hd hhd m (i + 1) (by omega)
    have hs := h.small i (by omega)
    have hf := h.few
    have hl := edgesL_len h i (by omega)
    have d0 := digits_ev (P.getD i z50).f0 (by omega)
    have d1 := digits_ev (P.getD i z50).f1 (by omega)
    have d2 := digits_ev (P.getD i z50).f2 (by omega)
    have s0 := dgs_size (P.getD i z50).f0 (by omega)
    have s1 := dgs_size (P.getD i z50).f1 (by omega)
    have s2 := dgs_size (P.getD i z50).f2 (by omega)
    have hsz : (ofL (hd ++ edgesL P i)).size ≤ 4000 := by rw [ofL_size, List.length_append]; omega
    refine Ev.succ ?_
    simp only [wigmakerref03_Format.l1, w1 i (by omega), rdT_nat]
    refine Ev.pos (by omega) (Ev.pos (by omega) (Ev.bind d0 (Ev.pos (by omega) (Ev.pos (by omega) (Ev.bind d1 (Ev.pos (by omega) (Ev.pos (by omega) (Ev.bind d2 (Ev.pos (by omega) (Ev.pos (by omega) ?_))))))))))
    rw [edgesL, ← List.append_assoc] at ih
    have hb : ofL (hd ++ edgesL P i) ++ edgeB (P.getD i z50) = ofL (hd ++ edgesL P i ++ (edgeB (P.getD i z50)).data.toList) := by rw [← ofL_app (hd ++ edgesL P i), ofL_data]
    rw [← hb] at ih
    exact ih
theorem format_ref {W H : Int} {D : List Int} {P : List S50} (hv : Ev (fun k => wigmakerref03_Validate.f k W H D P) 0) (h : Valid W H D P) : Ev (fun k => wigmakerref03_Format.f k W H D P) (txt W H D P, 0) := by
  have hw := h.fld.w
  have hh := h.fld.h
  have dW := digits_ev W (by omega)
  have dH := digits_ev H (by omega)
  have sW := dgs_size W (by omega)
  have sH := dgs_size H (by omega)
  have hhead : headB W H = ofL (headB W H).data.toList := (ofL_data _).symm
  have hsz : (headB W H).data.toList.length ≤ 20 := by
    show (headB W H).size ≤ 20
    unfold headB
    simp only [ByteArray.size_append]
    have e1 : (lit [102, 108, 111, 119, 32]).size = 5 := rfl
    have e2 : (lit [32]).size = 1 := rfl
    omega
  have hdl := dirsL_len W D D.length
  have hlen := h.len
  unfold wigmakerref03_Format.f
  refine Ev.bind hv (Ev.pos rfl (Ev.bind dW (Ev.pos (by omega) (Ev.pos (by omega) (Ev.bind dH (Ev.pos (by omega) (Ev.pos (by omega) ?_)))))))
  have e := rfmt0 (v := (txt W H D P, 0)) h (headB W H).data.toList (by omega) (by
    have := rfmt1 h ((headB W H).data.toList ++ dirsL W D D.length) (by rw [List.length_append]; omega) P.length 0 (by omega)
    rw [edgesL, List.append_nil] at this
    exact this) D.length 0 (by omega)
  rw [dirsL, List.append_nil, ← hhead] at e
  exact e
end Go.Proofs.YtfpikmeiooangaaDoor.PFlowTexts
end
section
namespace Go.Proofs.YtfpikmeiooangaaDoor.PFlowTexts
open Go.RowKit Go.Proofs.YtfpikmeiooangaaDoorW.PrintWords Go.Proofs.YtfpikmeiooangaaDoorW.PrintLast Go.Proofs.YtfpikmeiooangaaDoorW.PrintMore
/-- The parts of a text between a byte. -/
def wordsB (c : UInt8) (s : ByteArray) : List ByteArray := Lib.splitB ⟨#[c]⟩ 0 (Lib.countB s ⟨#[c]⟩) s
theorem splitB_mem_size (sep : ByteArray) : ∀ (k : Nat) (s x : ByteArray), x ∈ Lib.splitB sep 0 k s → x.size ≤ s.size
  | 0, s, x, h => by
    rw [Lib.splitB_zero, List.mem_singleton] at h
    exact h ▸ Nat.le_refl _
  | k + 1, s, x, h => by
    unfold Lib.splitB at h
    split at h
    · rw [List.mem_singleton] at h
      exact h ▸ Nat.le_refl _
    · rcases List.mem_cons.1 h with rfl | h
      · rw [ByteArray.size_extract]; omega
      · have := splitB_mem_size sep k _ x h
        rw [ByteArray.size_extract] at this
        omega
theorem wordsB_mem_size {c : UInt8} {s x : ByteArray} (h : x ∈ wordsB c s) : x.size ≤ s.size := splitB_mem_size _ _ s x h
theorem wordsB_len (c : UInt8) (s : ByteArray) : (wordsB c s).length ≤ s.size + 1 := by
  have hl : (wordsB c s).length = Lib.countB s ⟨#[c]⟩ + 1 := Lib.splitB_all ⟨#[c]⟩ (Nat.le_refl 1) 0 _ s rfl
  have := Lib.countB_le ⟨#[c]⟩ (Nat.le_refl 1) s.size s (Nat.le_refl _)
  omega
theorem split_call (s : ByteArray) (c : UInt8) (w : World) (hs : s.size ≤ 100000) (hg : Glob w) :
    Calls Tryd.prog 20 #[.string s, .string ⟨#[c]⟩] w fun e w' => e = .returned (.slice (some ⟨w.heap.size, 0, none⟩) (wordsB c s).length (wordsB c s).length) ∧ w' = w.alloc (.cells ((wordsB c s).map Value.string).toArray 9) := by
  obtain ⟨m, hm⟩ := hg.most
  have h := Tryd.strings_Split s ⟨#[c]⟩ m w (by omega) hm (Nat.le_refl 1)
  have hl : (wordsB c s).length = Lib.countB s ⟨#[c]⟩ + 1 := Lib.splitB_all ⟨#[c]⟩ (Nat.le_refl 1) 0 _ s rfl
  rw [hl]
  exact h
def edgeOf (x : ByteArray) : S50 := ⟨numV ((wordsB 44 x).getD 0 ByteArray.empty), numV ((wordsB 44 x).getD 1 ByteArray.empty), numV ((wordsB 44 x).getD 2 ByteArray.empty)⟩
def okOf (x : ByteArray) : Bool := numOk ((wordsB 44 x).getD 0 ByteArray.empty) && numOk ((wordsB 44 x).getD 1 ByteArray.empty) && numOk ((wordsB 44 x).getD 2 ByteArray.empty)
def dirOf (c : UInt8) : List Int := if c = 47 then [] else [(c.toNat : Int) - 48]
def dirsOf (l : List UInt8) : List Int := l.flatMap dirOf
theorem dirsOf_next (x : ByteArray) (n : Nat) (h : n < x.size) : dirsOf (x.data.toList.take (n + 1)) = dirsOf (x.data.toList.take n) ++ dirOf (x.data.toList.getD n 0) := by
  have h' : n < x.data.toList.length := by simpa using h
  rw [List.take_succ_eq_append_getElem h', dirsOf, dirsOf, List.flatMap_append, List.getD_eq_getElem?_getD, List.getElem?_eq_getElem h']
  simp
theorem dirsOf_le : ∀ l : List UInt8, (dirsOf l).length ≤ l.length
  | [] => Nat.le_refl _
  | c :: l => by
    have := dirsOf_le l
    have h1 : (dirOf c).length ≤ 1 := by unfold dirOf; split <;> simp
    show (dirOf c ++ dirsOf l).length ≤ l.length + 1
    rw [List.length_append]
    omega
theorem dirsOf_length (x : ByteArray) (n : Nat) : (dirsOf (x.data.toList.take n)).length ≤ n := Nat.le_trans (dirsOf_le _) (List.length_take_le _ _)
/-- What holds while the directions are read. -/
structure Par1 (w : World) (ws : List ByteArray) (ok : Bool) (Wv Hv : Int) (dv : Value) (x : ByteArray) (n bk : Nat) (wb W : World) : Prop where
  par : ParI w ws ok Wv Hv dv (.slice none 0 0) (dirsOf (x.data.toList.take n)) [] W
  bytes : W.heap[bk]? = wb.heap[bk]?
theorem Par1.cell {w : World} {ws : List ByteArray} {ok : Bool} {Wv Hv : Int} {dv : Value} {x : ByteArray} {n bk : Nat} {wb W : World} (h : Par1 w ws ok Wv Hv dv x n bk wb W) (hc : ∀ j, j < x.size → wb.cell? ⟨bk, j, none⟩ = some (.int .u8 (x.data.toList.getD j 0).toNat)) (hn : n < x.size) : W.cell? ⟨bk, n, none⟩ = some (.int .u8 (x.data.toList.getD n 0).toNat) :=
  (World.cell?_of_block (w := wb) h.bytes).trans (hc n hn)
theorem Par1.skip {w : World} {ws : List ByteArray} {ok : Bool} {Wv Hv : Int} {dv : Value} {x : ByteArray} {n bk : Nat} {wb W : World} (h : Par1 w ws ok Wv Hv dv x n bk wb W) (he : dirsOf (x.data.toList.take (n + 1)) = dirsOf (x.data.toList.take n)) : Par1 w ws ok Wv Hv dv x (n + 1) bk wb W :=
  ⟨by rw [he]; exact h.par, h.bytes⟩
theorem Par1.append {w : World} {ws : List ByteArray} {ok : Bool} {Wv Hv : Int} {dv : Value} {x : ByteArray} {n bk : Nat} {wb W : World} (h : Par1 w ws ok Wv Hv dv x n bk wb W) {W' : World} {v1 : Value} {p : Int} {cs : Array Value} {q : Nat × Nat}
    (hbk : w.heap.size + 4 ≤ bk) (hn : wb.heap[bk]? = some (.cells cs 5 q)) (he : dirsOf (x.data.toList.take (n + 1)) = dirsOf (x.data.toList.take n) ++ [p])
    (hr : Kd.R (Kd.int .i64) 3 W' (w.heap.size + 4) (fun _ => True) v1 (dirsOf (x.data.toList.take n) ++ [p])) (hg : W.grownBy W' dv.ownBlock) : Par1 w ws ok Wv Hv v1 x (n + 1) bk wb (W'.setCell ⟨w.heap.size + 1 + 1, 2, none⟩ v1) := by
  refine ⟨he ▸ h.par.appD hr hg, ?_⟩
  rw [Below.heap_setCell _ _ _ _ (by show bk ≠ w.heap.size + 1 + 1; omega), ← h.bytes]
  refine hg.block bk (blk_lt (h.bytes.trans hn)) (fun e => ?_)
  obtain ⟨cells, hc⟩ := Kd.R_typed h.par.dsR bk e.symm
  rw [h.bytes.trans hn] at hc
  injection hc with hc
  injection hc with _ hc _
  exact absurd hc (by decide)
theorem put4 {W : World} {B : Nat} {a b c d : Value} (h : W.heap[B]? = some (.cells #[a, b, c, d] 25 (0, 0))) (c0 c1 c2 c3 : Value) : ((((W.setCell ⟨B, 0, none⟩ c0).setCell ⟨B, 1, none⟩ c1).setCell ⟨B, 2, none⟩ c2).setCell ⟨B, 3, none⟩ c3).heap[B]? = some (.cells #[c0, c1, c2, c3] 25 (0, 0)) :=
  blk_put (blk_put (blk_put (blk_put h 0 c0 rfl) 1 c1 rfl) 2 c2 rfl) 3 c3 rfl
theorem below4 {w W : World} {base B : Nat} (h : Below base w W) (hB : base ≤ B) (c0 c1 c2 c3 : Value) : Below base w ((((W.setCell ⟨B, 0, none⟩ c0).setCell ⟨B, 1, none⟩ c1).setCell ⟨B, 2, none⟩ c2).setCell ⟨B, 3, none⟩ c3) :=
  (((h.setCell (p := ⟨B, 0, none⟩) hB c0).setCell (p := ⟨B, 1, none⟩) hB c1).setCell (p := ⟨B, 2, none⟩) hB c2).setCell (p := ⟨B, 3, none⟩) hB c3
theorem R_4 {α : Type} {d : Kd α} {e base B b0 : Nat} {v : Value} {xs : List α} {W : World} (h : d.R e W base (fun _ => True) v xs) (hB : B < base) (hb : b0 ≤ base) (c0 c1 c2 c3 : Value) : d.R e ((((W.setCell ⟨B, 0, none⟩ c0).setCell ⟨B, 1, none⟩ c1).setCell ⟨B, 2, none⟩ c2).setCell ⟨B, 3, none⟩ c3) b0 (fun _ => True) v xs :=
  Kd.R_lower (R_kept (R_kept (R_kept (R_kept h (set_grown _ _ _ _) hB) (set_grown _ _ _ _) hB) (set_grown _ _ _ _) hB) (set_grown _ _ _ _) hB) hb
open Classical in
noncomputable def flow_Parse.f (k : Nat) (s : ByteArray) : Option (Int × Int × List Int × List S50 × Int) :=
  if s.size > 4000 then (if s.size ≤ 100000 then some (0, 0, [], [], 4) else none)
  else if (wordsB 32 s).length < 4 then some (0, 0, [], [], 3)
  else if ((wordsB 32 s).drop 4).all (fun x => (wordsB 44 x).length == 3) = false then some (0, 0, [], [], 3)
  else (flow_Format.f k (numV ((wordsB 32 s).getD 1 ByteArray.empty)) (numV ((wordsB 32 s).getD 2 ByteArray.empty)) (dirsOf ((wordsB 32 s).getD 3 ByteArray.empty).data.toList) (((wordsB 32 s).drop 4).map edgeOf)).bind fun r =>
    if (numOk ((wordsB 32 s).getD 1 ByteArray.empty) && numOk ((wordsB 32 s).getD 2 ByteArray.empty) && ((wordsB 32 s).drop 4).all okOf) = true ∧ r.2 = 0 ∧ r.1 = s then
      some (numV ((wordsB 32 s).getD 1 ByteArray.empty), numV ((wordsB 32 s).getD 2 ByteArray.empty), dirsOf ((wordsB 32 s).getD 3 ByteArray.empty).data.toList, ((wordsB 32 s).drop 4).map edgeOf, 0)
    else some (0, 0, [], [], 3)
theorem meas (L m : Nat) (h : m < L) (hL : L ≤ 100000) : L - (intOf (.int .i64 (wrap64 ((m : Int) + 1)))).toNat < L - (intOf (.int .i64 m)).toNat := by
  have e : wrap64 ((m : Int) + 1) = m + 1 := by unfold wrap64; omega
  rw [e]
  show L - ((m : Int) + 1).toNat < L - (m : Int).toNat
  omega
theorem bytesInj {a b : ByteArray} (h : a.data.toList = b.data.toList) : a = b := by
  obtain ⟨⟨a⟩⟩ := a
  obtain ⟨⟨b⟩⟩ := b
  simpa using h
def flow_Parse.T22 : Bool × List (List Nat × List Nat) := (true, [([], []), ([0], [0]), ([], []), ([], []), ([3], [3]), ([4], [4]), ([2, 5], [2, 5]), ([], []), ([], []), ([8], [8]), ([9], [9]), ([7, 10, 6], [7, 10]), ([], []), ([], []), ([13], [13]), ([14], [14]), ([12, 15, 11], [12, 15]), ([6, 11, 16], [6, 11, 16]), ([17], [17]), ([1, 18, 16], [1, 18]), ([0, 1, 2, 3, 4, 5, 6, 7, 8, 9, 10, 11, 12, 13, 14, 15, 16, 17, 18, 19], []), ([20, 19, 19, 0, 1, 2, 3, 4, 5, 6, 7, 8, 9, 10, 11, 12, 13, 14, 15, 16, 17, 18, 19], [19, 20])])
def flow_Parse.B22 : List Nat := [0, 1, 0, 0, 8, 24, 60, 0, 0, 256, 768, 2044, 0, 0, 8192, 24576, 65532, 131068, 262140, 524287, 1048575, 2097151]
theorem flow_Parse.tab22 : rtab .any (opsOf Tryd.f8 22) = flow_Parse.T22 := by kernel_rfl
theorem flow_Parse.bits22 : waitsOk flow_Parse.T22.2 flow_Parse.B22 = true := by kernel_rfl
/-- What holds while a parting is read: its words too. -/
structure Par2 (w : World) (ws : List ByteArray) (ok : Bool) (Wv Hv : Int) (dv pv : Value) (ds : List Int) (ps : List S50) (bp : Nat) (q0 q1 q2 : ByteArray) (W : World) : Prop where
  par : ParI w ws ok Wv Hv dv pv ds ps W
  wds : W.heap[bp]? = some (.cells #[.string q0, .string q1, .string q2] 9 (0, 0))
  far : w.heap.size + 4 ≤ bp
section
variable {w W W' : World} {ws : List ByteArray} {ok : Bool} {Wv Hv : Int} {dv pv : Value} {ds : List Int} {ps : List S50} {bp : Nat} {q0 q1 q2 : ByteArray}
theorem ParI.ne_ps (h : ParI w ws ok Wv Hv dv pv ds ps W) (j : Nat) (hj : j < w.heap.size + 4) : some j ≠ pv.ownBlock := fun e => by
  have := ((Kd.R_bound h.psR).1 j e.symm).2.1
  omega
theorem Par2.held (h : Par2 w ws ok Wv Hv dv pv ds ps bp q0 q1 q2 W) : W.cell? ⟨w.heap.size + 1 + 1, 3, none⟩ = some pv ∧ W.cell? ⟨bp, 0, none⟩ = some (.string q0) ∧ W.cell? ⟨bp, 1, none⟩ = some (.string q1) ∧ W.cell? ⟨bp, 2, none⟩ = some (.string q2) :=
  ⟨(blk_cell h.par.fld 3).trans rfl, (blk_cell h.wds 0).trans rfl, (blk_cell h.wds 1).trans rfl, (blk_cell h.wds 2).trans rfl⟩
theorem Par2.grows (h : Par2 w ws ok Wv Hv dv pv ds ps bp q0 q1 q2 W) (hb : Below W.heap.size W W') : Par2 w ws ok Wv Hv dv pv ds ps bp q0 q1 q2 W' :=
  ⟨h.par.grows hb, (hb.block _ (blk_lt h.wds)).trans h.wds, h.far⟩
theorem Par2.drew (h : Par2 w ws ok Wv Hv dv pv ds ps bp q0 q1 q2 W) : Par2 w ws ok Wv Hv dv pv ds ps bp q0 q1 q2 W.drew := h.grows (Below.refl _ _).drew
theorem Par2.allocs (h : Par2 w ws ok Wv Hv dv pv ds ps bp q0 q1 q2 W) (o : Obj) : Par2 w ws ok Wv Hv dv pv ds ps bp q0 q1 q2 (W.alloc o) := h.grows ((Below.refl _ _).alloc (Nat.le_refl _) o)
theorem Par2.num_call (h : Par2 w ws ok Wv Hv dv pv ds ps bp q0 q1 q2 W) (hg : Glob w) (s : ByteArray) (hs : s.size ≤ 100000) :
    Calls Tryd.prog 21 #[.string s, .pointer (some ⟨w.heap.size + 1 + 1 + 1, 0, none⟩)] W fun e W' => e = .returned (.int .i64 (numV s)) ∧ Par2 w ws (ok && numOk s) Wv Hv dv pv ds ps bp q0 q1 q2 W' :=
  (number_calls s hs ok _ W (hg.step h.par.below) h.par.okb).mono fun _ _ ⟨he, hg, ho⟩ => ⟨he, h.par.num hg ho, blk_grown h.wds hg (by intro e; injection e with e; have := h.far; omega), h.far⟩
theorem mem_drop4 (ws : List ByteArray) (m : Nat) (h : 4 + m < ws.length) : ws.getD (4 + m) ByteArray.empty ∈ ws.drop 4 := by
  refine List.mem_of_getElem? (i := m) ?_
  rw [List.getElem?_drop, List.getD_eq_getElem?_getD, List.getElem?_eq_getElem h]
  rfl
theorem take_drop4 (ws : List ByteArray) (m : Nat) (h : 4 + m < ws.length) : (ws.drop 4).take (m + 1) = (ws.drop 4).take m ++ [ws.getD (4 + m) ByteArray.empty] := by
  have h' : m < (ws.drop 4).length := by rw [List.length_drop]; omega
  rw [List.take_succ_eq_append_getElem h', List.getElem_drop, List.getD_eq_getElem?_getD, List.getElem?_eq_getElem h]
  rfl
end
section
variable {P : Program} {ops : Array Oper} {Q : Exit → Act → World → Prop}
/-- A call through a value that is one known closure. -/
theorem goesc_ {oi : Oper} {N : Option Tmp} {a : Act} {w : World} {K : Act → World → Prop} {f : FuncId} {fn : Func} {x : Operand} {ao : Array Operand} {ts : Array TypeId} (hf : P.funcs[f]? = some fn) (hname : (fn.name == "runtime.NumGoroutine") = false) (hb : fn.body.isSome = true) (args caps : Array Value)
    (hw : Region.wanted oi (yielded ops a.tmps) = true) (hN : oi.dst = N) (hop : oi.op = .call { callee := .value x, args := ao, argTypes := ts }) (hx : a.eval x = .func (.func f) #[] caps) (hargs : ao.map a.eval = args)
    (h : Calls P f (args ++ caps) w fun e w' => ∃ v, e = .returned v ∧ K (a.put N v) w') : if Region.wanted oi (yielded ops a.tmps) = true then Oper.wp P oi a w K Q else K (a.put N undef) w := by
  refine call_ f (args ++ caps) hw hN ?_ h
  have he := enters_ hf hname hb (args ++ caps) w
  unfold execOp
  simp [hop, resolve, Deferred.ofValue, invoke, hx, hargs, he]
end
end Go.Proofs.YtfpikmeiooangaaDoor.PFlowTexts
end
section
namespace Go.Proofs.YtfpikmeiooangaaDoor.PFlowTexts
open Go.RowKit Go.Proofs.YtfpikmeiooangaaDoorW.PrintWords Go.Proofs.YtfpikmeiooangaaDoorW.PrintLast Go.Proofs.YtfpikmeiooangaaDoorW.PrintMore
/-- A list cut at each c. -/
def splL (c : UInt8) : List UInt8 → List (List UInt8)
  | [] => [[]]
  | b :: l => if b = c then [] :: splL c l else match splL c l with
    | [] => [[b]]
    | x :: r => (b :: x) :: r
theorem splL_cons (c : UInt8) (l : List UInt8) : ∃ x r, splL c l = x :: r := by
  cases l with
  | nil => exact ⟨_, _, rfl⟩
  | cons b l =>
    unfold splL
    split
    · exact ⟨_, _, rfl⟩
    · split <;> exact ⟨_, _, rfl⟩
/-- What has no c is one word. -/
theorem splL_none {c : UInt8} : ∀ {l : List UInt8}, c ∉ l → splL c l = [l]
  | [], _ => rfl
  | b :: l, h => by
    have hb : ¬ b = c := fun e => h (e ▸ List.mem_cons_self)
    rw [splL, if_neg hb, splL_none (fun e => h (List.mem_cons_of_mem _ e))]
theorem splL_app {c : UInt8} (m : List UInt8) : ∀ {l : List UInt8}, c ∉ l → splL c (l ++ c :: m) = l :: splL c m
  | [], _ => by rw [List.nil_append, splL, if_pos rfl]
  | b :: l, h => by
    have hb : ¬ b = c := fun e => h (e ▸ List.mem_cons_self)
    rw [List.cons_append, splL, if_neg hb, splL_app m (fun e => h (List.mem_cons_of_mem _ e))]
theorem splitK_splL (c : UInt8) : ∀ l : List UInt8, Lib.splitK [c] 0 (l.count c) l = splL c l
  | [] => by
    rw [List.count_nil]
    rfl
  | b :: l => by
    have ih := splitK_splL c l
    by_cases hb : b = c
    · subst hb
      have hix : Lib.index (b :: l) [b] = 0 := by rw [Lib.index]; simp [List.isPrefixOf]
      rw [List.count_cons_self, Lib.splitK, hix, splL, if_pos rfl]
      simpa using ih
    · have hp : ([c] : List UInt8).isPrefixOf (b :: l) = false := by simp [List.isPrefixOf, Ne.symm hb]
      have hix : Lib.index (b :: l) [c] = if Lib.index l [c] == -1 then -1 else Lib.index l [c] + 1 := by rw [Lib.index, hp]; simp
      rw [List.count_cons_of_ne (by simpa using hb), splL, if_neg hb]
      by_cases hm : Lib.index l [c] = -1
      · have h0 : l.count c = 0 := by rw [← Lib.count_one, Lib.count_miss hm]
        rw [h0] at ih ⊢
        rw [← ih]
        rfl
      · have hge := Lib.index_ge l [c]
        obtain ⟨j, hj⟩ : ∃ j : Nat, Lib.index l [c] = j := ⟨(Lib.index l [c]).toNat, by omega⟩
        have hix' : Lib.index (b :: l) [c] = ((j + 1 : Nat) : Int) := by rw [hix, if_neg (fun e => hm (beq_iff_eq.1 e)), hj]; omega
        have h1 : ∃ n, l.count c = n + 1 := ⟨l.count c - 1, by
          have := Lib.count_hit (sub := [c]) (by simp) hj
          rw [Lib.count_one] at this
          omega⟩
        obtain ⟨n, hn⟩ := h1
        rw [hn] at ih ⊢
        rw [← ih, Lib.splitK, Lib.splitK, hix', hj]
        have e1 : (((j + 1 : Nat) : Int) == -1) = false := by rw [beq_eq_false_iff_ne]; omega
        have e2 : (((j : Nat) : Int) == -1) = false := by rw [beq_eq_false_iff_ne]; omega
        rw [e1, e2]
        simp
/-- The words of a text. -/
def wordsL (c : UInt8) (s : ByteArray) : List ByteArray := (splL c s.data.toList).map ofL
theorem map_ofL (ws : List ByteArray) : (ws.map (·.data.toList)).map ofL = ws := by
  rw [List.map_map]
  conv => rhs; rw [← List.map_id ws]
  exact List.map_congr_left (fun s _ => ofL_data s)
theorem wordsB_eq (c : UInt8) (s : ByteArray) : wordsB c s = wordsL c s := by
  have h := Lib.splitB_data ⟨#[c]⟩ 0 (Lib.countB s ⟨#[c]⟩) s
  have hc : Lib.countB s ⟨#[c]⟩ = s.data.toList.count c := Lib.count_one c s.data.toList
  rw [hc] at h
  have h2 : Lib.splitK [c] 0 (s.data.toList.count c) s.data.toList = splL c s.data.toList := splitK_splL c _
  unfold wordsB wordsL
  rw [← h2, hc, ← map_ofL (Lib.splitB ⟨#[c]⟩ 0 (s.data.toList.count c) s), h]
def joinHd (p : List UInt8) : List (List UInt8) → List (List UInt8)
  | [] => [p]
  | x :: r => (p ++ x) :: r
theorem extract_ofL (s : ByteArray) (a b : Nat) (h : a ≤ b) (hb : b ≤ s.size) : s.extract a b = ofL ((s.data.toList.drop a).take (b - a)) := by
  rw [← ofL_data (s.extract a b), ByteArray.data_extract, Array.toList_extract, List.extract_eq_take_drop]
theorem bt_getD (s : ByteArray) (i : Nat) (h : i < s.size) : bt s (i : Int) = ((s.data.toList.getD i 0).toNat : Int) := by
  unfold bt
  rw [dif_pos (by simpa using h)]
  have h' : i < s.data.toList.length := by simpa using h
  rw [List.getD_eq_getElem?_getD, List.getElem?_eq_getElem h']
  rfl
theorem words_ev (s : ByteArray) (c : UInt8) (hs : s.size ≤ 100000) : Ev (fun k => wigmakerref01_Words.f k s (c.toNat : Int)) (wordsL c s) := by
  have hl : s.data.toList.length = s.size := by simp
  have main : ∀ (m i st : Nat) (acc : List ByteArray), i + m = s.size → st ≤ i → acc.length ≤ i →
      Ev (fun k => wigmakerref01_Words.l0 k s (c.toNat : Int) acc (st : Int) (i : Int)) (acc ++ (joinHd ((s.data.toList.drop st).take (i - st)) (splL c (s.data.toList.drop i))).map ofL) := by
    intro m
    induction m with
    | zero =>
      intro i st acc hi hst hacc
      refine Ev.succ ?_
      simp only [wigmakerref01_Words.l0]
      refine Ev.neg (by omega) (Ev.pos (by omega) (Ev.pos (by omega) (Ev.pos (by omega) ?_)))
      rw [List.drop_eq_nil_of_le (show s.data.toList.length ≤ i by omega), splL, joinHd, Int.toNat_natCast, extract_ofL s st s.size (by omega) (Nat.le_refl _), List.append_nil]
      obtain rfl : i = s.size := by omega
      exact Ev.pure _
    | succ m ih =>
      intro i st acc hi hst hacc
      have hi' : i < s.data.toList.length := by omega
      have hd : s.data.toList.drop i = s.data.toList.getD i 0 :: s.data.toList.drop (i + 1) := by
        rw [List.drop_eq_getElem_cons hi', List.getD_eq_getElem?_getD, List.getElem?_eq_getElem hi']
        rfl
      refine Ev.succ ?_
      simp only [wigmakerref01_Words.l0, w1 i (by omega), bt_getD s i (by omega)]
      rw [hd]
      generalize hb : s.data.toList.getD i 0 = b
      refine Ev.pos (by omega) (Ev.pos (by omega) ?_)
      by_cases hc : b = c
      · subst hc
        refine Ev.pos rfl (Ev.pos (by omega) (Ev.pos (by omega) (Ev.pos (by omega) (Ev.pos (by omega) ?_))))
        rw [splL, if_pos rfl, joinHd, List.append_nil, Int.toNat_natCast, Int.toNat_natCast, extract_ofL s st i hst (by omega)]
        have := ih (i + 1) (i + 1) (acc ++ [ofL ((s.data.toList.drop st).take (i - st))]) (by omega) (Nat.le_refl _) (by rw [List.length_append]; simp; omega)
        rw [Nat.sub_self, List.take_zero] at this
        obtain ⟨x, r, hx⟩ := splL_cons b (s.data.toList.drop (i + 1))
        rw [hx] at this ⊢
        simpa [joinHd] using this
      · refine Ev.neg (fun e => hc (UInt8.toNat_inj.1 (by omega))) ?_
        have := ih (i + 1) st acc (by omega) (by omega) (by omega)
        rw [splL, if_neg hc]
        obtain ⟨x, r, hx⟩ := splL_cons c (s.data.toList.drop (i + 1))
        rw [hx] at this ⊢
        have ht : (s.data.toList.drop st).take (i + 1 - st) = (s.data.toList.drop st).take (i - st) ++ [b] := by
          have hlt : i - st < (s.data.toList.drop st).length := by rw [List.length_drop]; omega
          rw [show i + 1 - st = (i - st) + 1 by omega, List.take_succ_eq_append_getElem hlt, List.getElem_drop, ← hb, List.getD_eq_getElem?_getD, List.getElem?_eq_getElem hi']
          simp [show st + (i - st) = i by omega]
        rw [ht] at this
        simpa [joinHd] using this
  have := main s.size 0 0 [] (by omega) (Nat.le_refl _) (by simp)
  unfold wigmakerref01_Words.f
  obtain ⟨x, r, hx⟩ := splL_cons c s.data.toList
  rw [List.drop_zero, Nat.sub_self, List.take_zero, List.nil_append, hx] at this
  rw [wordsL, hx]
  exact this
end Go.Proofs.YtfpikmeiooangaaDoor.PFlowTexts
end
section
namespace Go.Proofs.YtfpikmeiooangaaDoor.PFlowTexts
open Go.RowKit Go.Proofs.YtfpikmeiooangaaDoorW.PrintWords Go.Proofs.YtfpikmeiooangaaDoorW.PrintLast Go.Proofs.YtfpikmeiooangaaDoorW.PrintMore
theorem splL_tail {c : UInt8} : ∀ (ws : List (List UInt8)) (l : List UInt8), c ∉ l → (∀ w ∈ ws, c ∉ w) → splL c (l ++ ws.flatMap (fun w => c :: w)) = l :: ws
  | [], l, h, _ => by simpa using splL_none h
  | w :: ws, l, h, hw => by
    rw [List.flatMap_cons, List.cons_append, splL_app _ h, splL_tail ws w (hw _ List.mem_cons_self) (fun x hx => hw x (List.mem_cons_of_mem _ hx))]
/-- A number's digits, as a list. -/
def dg (n : Int) : List UInt8 := (dgs n).data.toList
theorem dg_all : ∀ m : Fin 100, (32 : UInt8) ∉ dg (m.val : Int) ∧ (44 : UInt8) ∉ dg (m.val : Int) ∧ numV (dgs (m.val : Int)) = (m.val : Int) ∧ numOk (dgs (m.val : Int)) = true := by decide +kernel
theorem dg_of (n : Int) (h : 0 ≤ n ∧ n < 100) : (32 : UInt8) ∉ dg n ∧ (44 : UInt8) ∉ dg n ∧ numV (dgs n) = n ∧ numOk (dgs n) = true := by
  obtain ⟨m, rfl⟩ := Int.eq_ofNat_of_zero_le h.1
  exact dg_all ⟨m, by omega⟩
theorem ofL_dg (n : Int) : ofL (dg n) = dgs n := ofL_data _
/-- A parting, written. -/
def wordE (e : S50) : List UInt8 := dg e.f0 ++ 44 :: (dg e.f1 ++ 44 :: dg e.f2)
theorem edgeB_list (e : S50) : (edgeB e).data.toList = 32 :: wordE e := by
  rw [edgeB_eq]
  show [32] ++ dg e.f0 ++ [44] ++ dg e.f1 ++ [44] ++ dg e.f2 = _
  simp [wordE]
theorem edgesL_flat (P : List S50) : ∀ n, n ≤ P.length → edgesL P n = ((P.take n).map wordE).flatMap (fun w => 32 :: w)
  | 0, _ => by simp [edgesL]
  | n + 1, h => by
    rw [edgesL, edgesL_flat P n (by omega), edgeB_list, List.take_succ_eq_append_getElem h, List.map_append, List.flatMap_append, List.getD_eq_getElem?_getD, List.getElem?_eq_getElem h]
    simp
theorem dirs_of {W : Int} {D : List Int} (hd : ∀ x ∈ D, 0 ≤ x ∧ x ≤ 7) : ∀ n, n ≤ D.length → (32 : UInt8) ∉ dirsL W D n ∧ dirsOf (dirsL W D n) = D.take n
  | 0, _ => by simp [dirsL, dirsOf]
  | n + 1, h => by
    obtain ⟨i1, i2⟩ := dirs_of (W := W) hd n (by omega)
    have hm : D.getD n 0 = D[n] := by rw [List.getD_eq_getElem?_getD, List.getElem?_eq_getElem h]; rfl
    have hx := hd D[n] (List.getElem_mem h)
    have all : ∀ m : Fin 8, (32 : UInt8) ≠ UInt8.ofNat (48 + (m.val : Int)).toNat ∧ dirOf (UInt8.ofNat (48 + (m.val : Int)).toNat) = [(m.val : Int)] := by decide +kernel
    obtain ⟨m, hm'⟩ := Int.eq_ofNat_of_zero_le hx.1
    have ha := all ⟨m, by omega⟩
    rw [dirsL, dirL, hm, hm', List.take_succ_eq_append_getElem h, hm']
    refine ⟨?_, ?_⟩
    · intro c
      rcases List.mem_append.1 c with c | c
      · exact i1 c
      · rcases List.mem_append.1 c with c | c
        · split at c
          · simp at c
          · simp at c
        · rw [List.mem_singleton] at c
          exact ha.1 c
    · show (dirsL W D n ++ _).flatMap dirOf = _
      rw [List.flatMap_append, List.flatMap_append]
      have e1 : (dirsL W D n).flatMap dirOf = D.take n := i2
      have e2 : ((if 0 < n ∧ (n : Int) % W = 0 then [47] else [] : List UInt8)).flatMap dirOf = [] := by split <;> simp [dirOf]
      have e3 : [UInt8.ofNat (48 + (m : Int)).toNat].flatMap dirOf = [(m : Int)] := by rw [List.flatMap_singleton]; exact ha.2
      rw [e1, e2, e3, List.nil_append]
section
variable {W H : Int} {D : List Int} {P : List S50}
theorem headB_list (W H : Int) : (headB W H).data.toList = [102, 108, 111, 119] ++ 32 :: (dg W ++ 32 :: (dg H ++ [32])) := by
  have : headB W H = ofL ([102, 108, 111, 119, 32] ++ dg W ++ [32] ++ dg H ++ [32]) := by
    unfold headB
    rw [show lit [102, 108, 111, 119, 32] = ofL [102, 108, 111, 119, 32] from rfl, show lit [32] = ofL [32] from rfl, ← ofL_dg W, ← ofL_dg H]
    simp only [ofL_app]
  rw [this]
  show [102, 108, 111, 119, 32] ++ dg W ++ [32] ++ dg H ++ [32] = _
  simp
theorem textL_eq (W H : Int) (D : List Int) (P : List S50) : textL W H D P = [102, 108, 111, 119] ++ 32 :: (dg W ++ 32 :: (dg H ++ 32 :: (dirsL W D D.length ++ (P.map wordE).flatMap (fun w => 32 :: w)))) := by
  rw [textL, headB_list, edgesL_flat P P.length (Nat.le_refl _), List.take_length]
  simp
theorem wordE_no (h : Valid W H D P) : ∀ w ∈ P.map wordE, (32 : UInt8) ∉ w := by
  intro w hw
  obtain ⟨e, he, rfl⟩ := List.mem_map.1 hw
  obtain ⟨i, hi, rfl⟩ := List.getElem_of_mem he
  have hg : P.getD i z50 = P[i] := by rw [List.getD_eq_getElem?_getD, List.getElem?_eq_getElem hi]; rfl
  have hs := h.small i hi
  rw [hg] at hs
  have a := (dg_of P[i].f0 (by omega)).1
  have b := (dg_of P[i].f1 (by omega)).1
  have c := (dg_of P[i].f2 (by omega)).1
  simp [wordE, a, b, c]
theorem words_txt (h : Valid W H D P) : splL 32 (textL W H D P) = [102, 108, 111, 119] :: dg W :: dg H :: dirsL W D D.length :: P.map wordE := by
  have hw := h.fld.w
  have hh := h.fld.h
  rw [textL_eq, splL_app _ (by decide), splL_app _ (dg_of W (by omega)).1, splL_app _ (dg_of H (by omega)).1, splL_tail _ _ (dirs_of h.fld.d D.length (Nat.le_refl _)).1 (wordE_no h)]
theorem words_edge (e : S50) (h : (0 ≤ e.f0 ∧ e.f0 < 100) ∧ (0 ≤ e.f1 ∧ e.f1 < 100) ∧ (0 ≤ e.f2 ∧ e.f2 < 100)) : splL 44 (wordE e) = [dg e.f0, dg e.f1, dg e.f2] := by
  rw [wordE, splL_app _ (dg_of _ h.1).2.1, splL_app _ (dg_of _ h.2.1).2.1, splL_none (dg_of _ h.2.2).2.1]
theorem txt_size (h : Valid W H D P) : (txt W H D P).size ≤ 4000 := by
  have hw := h.fld.w
  have hh := h.fld.h
  have a := headB_length W H (by omega) (by omega)
  have b := dirsL_len W D D.length
  have c := edgesL_len h P.length (Nat.le_refl _)
  have d := h.len
  have e := h.few
  show (textL W H D P).length ≤ 4000
  rw [textL, List.length_append, List.length_append]
  omega
theorem wordsB_txt (h : Valid W H D P) : wordsB 32 (txt W H D P) = ofL [102, 108, 111, 119] :: dgs W :: dgs H :: ofL (dirsL W D D.length) :: P.map (fun e => ofL (wordE e)) := by
  rw [wordsB_eq, wordsL]
  show (splL 32 (textL W H D P)).map ofL = _
  rw [words_txt h]
  simp [ofL_dg]
theorem wordsB_edge (e : S50) (h : (0 ≤ e.f0 ∧ e.f0 < 100) ∧ (0 ≤ e.f1 ∧ e.f1 < 100) ∧ (0 ≤ e.f2 ∧ e.f2 < 100)) : wordsB 44 (ofL (wordE e)) = [dgs e.f0, dgs e.f1, dgs e.f2] := by
  rw [wordsB_eq, wordsL]
  show (splL 44 (wordE e)).map ofL = _
  rw [words_edge e h]
  simp [ofL_dg]
theorem edge_read (e : S50) (h : (0 ≤ e.f0 ∧ e.f0 < 100) ∧ (0 ≤ e.f1 ∧ e.f1 < 100) ∧ (0 ≤ e.f2 ∧ e.f2 < 100)) : edgeOf (ofL (wordE e)) = e ∧ okOf (ofL (wordE e)) = true := by
  have a := (dg_of e.f0 h.1).2.2
  have b := (dg_of e.f1 h.2.1).2.2
  have c := (dg_of e.f2 h.2.2).2.2
  unfold edgeOf okOf
  rw [wordsB_edge e h]
  simp [a, b, c]
theorem Valid.mem (h : Valid W H D P) (e : S50) (he : e ∈ P) : (0 ≤ e.f0 ∧ e.f0 < 100) ∧ (0 ≤ e.f1 ∧ e.f1 < 100) ∧ (0 ≤ e.f2 ∧ e.f2 < 100) := by
  obtain ⟨i, hi, rfl⟩ := List.getElem_of_mem he
  have hg : P.getD i z50 = P[i] := by rw [List.getD_eq_getElem?_getD, List.getElem?_eq_getElem hi]; rfl
  have hs := h.small i hi
  rw [hg] at hs
  omega
theorem parse_flow_yes (hv : Ev (fun k => flow_Validate.f k W H D P) 0) (h : Valid W H D P) : Ev (fun k => flow_Parse.f k (txt W H D P)) (W, H, D, P, 0) := by
  have hw := h.fld.w
  have hh := h.fld.h
  have hs := txt_size h
  have rW := dg_of W (by omega)
  have rH := dg_of H (by omega)
  have h3 : ((P.map (fun e => ofL (wordE e))).all fun x => (wordsB 44 x).length == 3) = true := by
    rw [List.all_eq_true]
    intro x hx
    obtain ⟨e, he, rfl⟩ := List.mem_map.1 hx
    rw [wordsB_edge e (h.mem e he)]
    rfl
  have ho : ((P.map (fun e => ofL (wordE e))).all okOf) = true := by
    rw [List.all_eq_true]
    intro x hx
    obtain ⟨e, he, rfl⟩ := List.mem_map.1 hx
    exact (edge_read e (h.mem e he)).2
  have he : (P.map (fun e => ofL (wordE e))).map edgeOf = P := by
    rw [List.map_map]
    conv => rhs; rw [← List.map_id P]
    exact List.map_congr_left (fun e he => (edge_read e (h.mem e he)).1)
  have hD : dirsOf (ofL (dirsL W D D.length)).data.toList = D := by
    show dirsOf (dirsL W D D.length) = D
    rw [(dirs_of h.fld.d D.length (Nat.le_refl _)).2, List.take_length]
  unfold flow_Parse.f
  rw [wordsB_txt h]
  simp only [List.drop_succ_cons, List.drop_zero, List.getD_cons_succ, List.getD_cons_zero, h3, ho, he, hD, rW.2.2.1, rW.2.2.2, rH.2.2.1, rH.2.2.2]
  refine Ev.neg (by omega) (Ev.neg (by simp) (Ev.neg (by simp) (Ev.bind (format_flow hv h) (Ev.pos ⟨rfl, rfl, rfl⟩ (Ev.pure _)))))
theorem parse_flow_no (s : ByteArray) (hs : s.size ≤ 100000) (hno : ∀ W H D P, Valid W H D P → Ev (fun k => flow_Validate.f k W H D P) 0 → s ≠ txt W H D P) : Ev (fun k => flow_Parse.f k s) (0, 0, [], [], if s.size > 4000 then 4 else 3) := by
  unfold flow_Parse.f
  by_cases h4 : s.size > 4000
  · simp only [if_pos h4]
    exact Ev.pos hs (Ev.pure _)
  simp only [if_neg h4]
  by_cases h1 : (wordsB 32 s).length < 4
  · exact Ev.pos h1 (Ev.pure _)
  refine Ev.neg h1 ?_
  by_cases h2 : ((wordsB 32 s).drop 4).all (fun x => (wordsB 44 x).length == 3) = false
  · exact Ev.pos h2 (Ev.pure _)
  refine Ev.neg h2 ?_
  have hx3 : ((wordsB 32 s).getD 3 ByteArray.empty).size ≤ s.size := by
    refine wordsB_mem_size (c := 32) ?_
    rw [List.getD_eq_getElem?_getD, List.getElem?_eq_getElem (by omega)]
    exact List.getElem_mem _
  have hl := wordsB_len 32 s
  have hdl := dirsOf_le ((wordsB 32 s).getD 3 ByteArray.empty).data.toList
  have hsz : ((wordsB 32 s).getD 3 ByteArray.empty).data.toList.length = ((wordsB 32 s).getD 3 ByteArray.empty).size := by simp
  generalize hW : numV ((wordsB 32 s).getD 1 ByteArray.empty) = W
  generalize hH : numV ((wordsB 32 s).getD 2 ByteArray.empty) = H
  generalize hD : dirsOf ((wordsB 32 s).getD 3 ByteArray.empty).data.toList = D at *
  generalize hP : ((wordsB 32 s).drop 4).map edgeOf = P
  have hPl : P.length ≤ 100000 := by rw [← hP, List.length_map, List.length_drop]; omega
  obtain ⟨e, hv, hr, hz⟩ := validate_both W H D P (by omega) hPl
  by_cases he : e = 0
  · subst he
    have V := hz rfl
    refine Ev.bind (format_flow hv V) (Ev.neg ?_ (Ev.pure _))
    rintro ⟨_, _, c⟩
    exact hno W H D P V hv c.symm
  · refine Ev.bind (format_bad he hv hr).1 (Ev.neg ?_ (Ev.pure _))
    rintro ⟨_, c, _⟩
    exact he c
end
end Go.Proofs.YtfpikmeiooangaaDoor.PFlowTexts
end
section
namespace Go.Proofs.YtfpikmeiooangaaDoor.PFlowTexts
open Go.RowKit Go.Proofs.YtfpikmeiooangaaDoorW.PrintWords Go.Proofs.YtfpikmeiooangaaDoorW.PrintLast Go.Proofs.YtfpikmeiooangaaDoorW.PrintMore
theorem Ev.unique {α : Type} {F : Nat → Option α} {a b : α} (h : Ev F a) (g : Ev F b) : a = b := by
  obtain ⟨k0, h⟩ := h
  obtain ⟨k1, g⟩ := g
  have e1 := h (max k0 k1) (by omega)
  have e2 := g (max k0 k1) (by omega)
  rw [e1] at e2
  exact Option.some.inj e2
theorem digits_ex : ∀ (m : Nat) (n : Int), 0 ≤ n → n < 10 ^ m → m ≤ 12 → ∃ v : ByteArray, Ev (fun k => wigmakerref01_Digits.f k n) v ∧ v.size ≤ m + 1
  | m, n, h0, h1, hm => by
    by_cases h : n < 10
    · refine ⟨(⟨#[48, 49, 50, 51, 52, 53, 54, 55, 56, 57]⟩ : ByteArray).extract n.toNat (n + 1).toNat, Ev.succ ?_, ?_⟩
      · simp only [wigmakerref01_Digits.f, w64 (n + 1) (by omega)]
        exact Ev.pos h (Ev.pos h0 (Ev.pos (by omega) (Ev.pos (by omega) (Ev.pure _))))
      · rw [ByteArray.size_extract]
        omega
    · cases m with
      | zero => simp at h1; omega
      | succ m =>
        have hp : (10 : Int) ^ (m + 1) = 10 * 10 ^ m := by rw [Int.pow_succ]; omega
        have hb : (10 : Int) ^ (m + 1) ≤ 10 ^ 12 := by exact_mod_cast Nat.pow_le_pow_right (by omega) hm
        have e1 : Int.tdiv n 10 = n / 10 := Int.tdiv_eq_ediv_of_nonneg h0
        have e2 : Int.tmod n 10 = n % 10 := Int.tmod_eq_emod_of_nonneg h0
        have hb' : n < 1000000000000 := Int.lt_of_lt_of_le h1 (by simpa using hb)
        obtain ⟨a, ha, sa⟩ := digits_ex m (n / 10) (by omega) (by omega) (by omega)
        obtain ⟨b, hb, sb⟩ : ∃ v : ByteArray, Ev (fun k => wigmakerref01_Digits.f k (n % 10)) v ∧ v.size ≤ 1 := by
          refine ⟨(⟨#[48, 49, 50, 51, 52, 53, 54, 55, 56, 57]⟩ : ByteArray).extract (n % 10).toNat (n % 10 + 1).toNat, Ev.succ ?_, ?_⟩
          · simp only [wigmakerref01_Digits.f, w64 (n % 10 + 1) (by omega)]
            exact Ev.pos (by omega) (Ev.pos (by omega) (Ev.pos (by omega) (Ev.pos (by omega) (Ev.pure _))))
          · rw [ByteArray.size_extract]
            omega
        refine ⟨a ++ b, Ev.succ ?_, ?_⟩
        · simp only [wigmakerref01_Digits.f, e1, e2, w64 (n / 10) (by omega)]
          exact Ev.neg h (Ev.bind ha (Ev.bind hb (Ev.pos (by omega) (Ev.pure _))))
        · rw [ByteArray.size_append]
          omega
theorem number_ex (s : ByteArray) (hs : s.size ≤ 100000) : ∃ v, Ev (fun k => wigmakerref01_Number.f k s) v := by
  have main : ∀ (m i : Nat) (n : Int), i + m = s.size → i ≤ 9 → 0 ≤ n → n < 10 ^ i → ∃ v, Ev (fun k => wigmakerref01_Number.l0 k s n (i : Int)) v := by
    intro m
    induction m with
    | zero =>
      intro i n hi h9 h0 h1
      obtain ⟨d, hd, _⟩ := digits_ex i n h0 h1 (by omega)
      by_cases he : s.toList = ([] : List UInt8)
      · refine ⟨-1, Ev.succ ?_⟩
        · simp only [wigmakerref01_Number.l0]
          exact Ev.neg (by omega) (Ev.pos he (Ev.pure _))
      · by_cases hq : d.toList = s.toList
        · refine ⟨n, Ev.succ ?_⟩
          · simp only [wigmakerref01_Number.l0]
            exact Ev.neg (by omega) (Ev.neg he (Ev.bind hd (Ev.pos hq (Ev.pure _))))
        · refine ⟨-1, Ev.succ ?_⟩
          · simp only [wigmakerref01_Number.l0]
            exact Ev.neg (by omega) (Ev.neg he (Ev.bind hd (Ev.neg hq (Ev.pure _))))
    | succ m ih =>
      intro i n hi h9 h0 h1
      by_cases c1 : bt s (i : Int) < 48
      · refine ⟨-1, Ev.succ ?_⟩
        · simp only [wigmakerref01_Number.l0]
          exact Ev.pos (by omega) (Ev.pos (by omega) (Ev.pos c1 (Ev.pure _)))
      by_cases c2 : bt s (i : Int) > 57
      · refine ⟨-1, Ev.succ ?_⟩
        · simp only [wigmakerref01_Number.l0]
          exact Ev.pos (by omega) (Ev.pos (by omega) (Ev.neg c1 (Ev.pos c2 (Ev.pure _))))
      by_cases c3 : (i : Int) = 9
      · refine ⟨-1, Ev.succ ?_⟩
        · simp only [wigmakerref01_Number.l0]
          exact Ev.pos (by omega) (Ev.pos (by omega) (Ev.neg c1 (Ev.neg c2 (Ev.pos c3 (Ev.pure _)))))
      have hp : (10 : Int) ^ (i + 1) = 10 * 10 ^ i := by rw [Int.pow_succ]; omega
      have hb : (10 : Int) ^ i ≤ 10 ^ 9 := by exact_mod_cast Nat.pow_le_pow_right (by omega) h9
      have hb' : n < 1000000000 := Int.lt_of_lt_of_le h1 (by simpa using hb)
      have hm : (bt s (i : Int) - 48) % 256 = bt s (i : Int) - 48 := by omega
      obtain ⟨v, hv⟩ := ih (i + 1) (10 * n + (bt s (i : Int) - 48)) (by omega) (by omega) (by omega) (by omega)
      refine ⟨v, Ev.succ ?_⟩
      simp only [wigmakerref01_Number.l0, hm, w1 i (by omega), w64 (10 * n) (by omega), w64 (10 * n + (bt s (i : Int) - 48)) (by omega)]
      exact Ev.pos (by omega) (Ev.pos (by omega) (Ev.neg c1 (Ev.neg c2 (Ev.neg c3 hv))))
  exact main s.size 0 0 (by omega) (by omega) (by omega) (by omega)
open Classical in
noncomputable def numR (s : ByteArray) : Int := if h : ∃ v, Ev (fun k => wigmakerref01_Number.f k s) v then h.choose else 0
theorem numR_ev (s : ByteArray) (hs : s.size ≤ 100000) : Ev (fun k => wigmakerref01_Number.f k s) (numR s) := by
  have h := number_ex s hs
  unfold numR
  rw [dif_pos h]
  exact h.choose_spec
theorem dgs_two : ∀ m : Fin 100, 10 ≤ m.val → dgs (m.val : Int) = ofL [UInt8.ofNat (48 + (m.val : Int) / 10).toNat, UInt8.ofNat (48 + (m.val : Int) % 10).toNat] := by decide +kernel
theorem toList_ofL (l : List UInt8) : (ofL l).toList = l := by
  rw [ByteArray.toList_eq]
  rfl
theorem bt_ofL (l : List UInt8) (i : Nat) (h : i < l.length) : bt (ofL l) (i : Int) = ((l.getD i 0).toNat : Int) := bt_getD (ofL l) i h
theorem number_dgs (n : Int) (h : 0 ≤ n ∧ n < 100) : Ev (fun k => wigmakerref01_Number.f k (dgs n)) n := by
  have hd := digits_ev n h
  unfold wigmakerref01_Number.f
  by_cases h1 : n < 10
  · have hs := dgs_digit n (by omega)
    have hu : 48 + n = ((UInt8.ofNat (48 + n).toNat).toNat : Int) := u8_dig n (by omega) (by omega)
    rw [hs] at hd ⊢
    generalize UInt8.ofNat (48 + n).toNat = b at *
    have e0 : bt (ofL [b]) 0 = 48 + n := by rw [hu]; exact bt_ofL [b] 0 (by simp)
    have hz : ((ofL [b]).size : Int) = 1 := rfl
    have hm : (48 + n - 48) % 256 = n := by omega
    refine Ev.succ ?_
    simp only [wigmakerref01_Number.l0, e0, hz, hm]
    refine Ev.pos (by omega) (Ev.pos (by omega) (Ev.neg (by omega) (Ev.neg (by omega) (Ev.neg (by omega) (Ev.succ ?_)))))
    have hw : wrap64 (wrap64 (10 * 0) + n) = n := by unfold wrap64; omega
    have hw1 : wrap64 (0 + 1) = 1 := by unfold wrap64; omega
    simp only [wigmakerref01_Number.l0, hz, hw, hw1, toList_ofL]
    refine Ev.neg (by omega) (Ev.neg (by simp) (Ev.bind hd (Ev.pos (by rw [toList_ofL]) (Ev.pure _))))
  · have hs : dgs n = ofL [UInt8.ofNat (48 + n / 10).toNat, UInt8.ofNat (48 + n % 10).toNat] := by
      obtain ⟨m, rfl⟩ := Int.eq_ofNat_of_zero_le h.1
      exact dgs_two ⟨m, by omega⟩ (by show 10 ≤ m; omega)
    have hu : 48 + n / 10 = ((UInt8.ofNat (48 + n / 10).toNat).toNat : Int) := u8_dig (n / 10) (by omega) (by omega)
    have hv : 48 + n % 10 = ((UInt8.ofNat (48 + n % 10).toNat).toNat : Int) := u8_dig (n % 10) (by omega) (by omega)
    rw [hs] at hd ⊢
    generalize UInt8.ofNat (48 + n / 10).toNat = b at *
    generalize UInt8.ofNat (48 + n % 10).toNat = c at *
    have e0 : bt (ofL [b, c]) 0 = 48 + n / 10 := by rw [hu]; exact bt_ofL [b, c] 0 (by simp)
    have e1 : bt (ofL [b, c]) 1 = 48 + n % 10 := by rw [hv]; exact bt_ofL [b, c] 1 (by simp)
    have hz : ((ofL [b, c]).size : Int) = 2 := rfl
    have hm : (48 + n / 10 - 48) % 256 = n / 10 := by omega
    have hm1 : (48 + n % 10 - 48) % 256 = n % 10 := by omega
    refine Ev.succ ?_
    simp only [wigmakerref01_Number.l0, e0, hz, hm]
    refine Ev.pos (by omega) (Ev.pos (by omega) (Ev.neg (by omega) (Ev.neg (by omega) (Ev.neg (by omega) (Ev.succ ?_)))))
    have hw : wrap64 (wrap64 (10 * 0) + n / 10) = n / 10 := by unfold wrap64; omega
    have hw1 : wrap64 (0 + 1) = 1 := by unfold wrap64; omega
    simp only [wigmakerref01_Number.l0, hz, hw, hw1, e1, hm1]
    refine Ev.pos (by omega) (Ev.pos (by omega) (Ev.neg (by omega) (Ev.neg (by omega) (Ev.neg (by omega) (Ev.succ ?_)))))
    have hw2 : wrap64 (wrap64 (10 * (n / 10)) + n % 10) = n := by unfold wrap64; omega
    have hw3 : wrap64 (1 + 1) = 2 := by unfold wrap64; omega
    simp only [wigmakerref01_Number.l0, hz, hw2, hw3, toList_ofL]
    refine Ev.neg (by omega) (Ev.neg (by simp) (Ev.bind hd (Ev.pos (by rw [toList_ofL]) (Ev.pure _))))
theorem numR_dgs (n : Int) (h : 0 ≤ n ∧ n < 100) : numR (dgs n) = n := by
  have hs := dgs_size n h.2
  exact Ev.unique (numR_ev _ (by omega)) (number_dgs n h)
end Go.Proofs.YtfpikmeiooangaaDoor.PFlowTexts
end
section
namespace Go.Proofs.YtfpikmeiooangaaDoor.PFlowTexts
open Go.RowKit Go.Proofs.YtfpikmeiooangaaDoorW.PrintWords Go.Proofs.YtfpikmeiooangaaDoorW.PrintLast Go.Proofs.YtfpikmeiooangaaDoorW.PrintMore
theorem rdOf_getD (l : List ByteArray) (i : Nat) : rdOf ByteArray.empty l (i : Int) = l.getD i ByteArray.empty := by unfold rdOf; rw [Int.toNat_natCast]
noncomputable def edgeR (x : ByteArray) : S50 := ⟨numR ((wordsL 44 x).getD 0 ByteArray.empty), numR ((wordsL 44 x).getD 1 ByteArray.empty), numR ((wordsL 44 x).getD 2 ByteArray.empty)⟩
noncomputable def edgesR (l : List ByteArray) : List S50 := l.flatMap fun x => if (wordsL 44 x).length = 3 then [edgeR x] else []
theorem wordsL_mem_size {c : UInt8} {s x : ByteArray} (h : x ∈ wordsL c s) : x.size ≤ s.size := wordsB_mem_size (c := c) (by rw [wordsB_eq]; exact h)
theorem wordsL_len (c : UInt8) (s : ByteArray) : (wordsL c s).length ≤ s.size + 1 := by rw [← wordsB_eq]; exact wordsB_len c s
theorem getD_size {l : List ByteArray} {n : Nat} (h : ∀ x ∈ l, x.size ≤ n) (i : Nat) (hi : i < l.length) : (l.getD i ByteArray.empty).size ≤ n := by
  rw [List.getD_eq_getElem?_getD, List.getElem?_eq_getElem hi]
  exact h _ (List.getElem_mem hi)
/-- How the document's Parse ends. -/
def endR (k : Nat) (s : ByteArray) (W H : Int) (D : List Int) (P : List S50) : Option (Int × Int × List Int × (List S50) × Int) :=
  (wigmakerref03_Format.f k W H D P).bind fun b => if b.2 = 0 then (if b.1.toList = s.toList then some (W, H, D, P, 0) else some (0, 0, [], [], 3)) else some (0, 0, [], [], 3)
section
variable {s : ByteArray} {ws : List ByteArray} {W H : Int} {D : List Int} {v : Int × Int × List Int × List S50 × Int}
theorem l1_ev (hl : ws.length ≤ 100000) (hw : ∀ x ∈ ws, x.size ≤ 100000) : ∀ (m i : Nat) (acc : List S50), i + m = ws.length → acc.length ≤ i → Ev (fun k => endR k s W H D (acc ++ edgesR (ws.drop i))) v → Ev (fun k => wigmakerref03_Parse.l1 k s ws (i : Int) W H D acc) v
  | 0, i, acc, hi, ha, he => by
    refine Ev.succ ?_
    simp only [wigmakerref03_Parse.l1]
    refine Ev.neg (by omega) ?_
    rw [List.drop_eq_nil_of_le (by omega)] at he
    simpa [edgesR, endR] using he
  | m + 1, i, acc, hi, ha, he => by
    have hi' : i < ws.length := by omega
    have hx := getD_size hw i hi'
    have hd : ws.drop i = ws.getD i ByteArray.empty :: ws.drop (i + 1) := by
      rw [List.drop_eq_getElem_cons hi', List.getD_eq_getElem?_getD, List.getElem?_eq_getElem hi']
      rfl
    refine Ev.succ ?_
    simp only [wigmakerref03_Parse.l1, rdOf_getD, w1 i (by omega)]
    refine Ev.pos (by omega) (Ev.pos (by omega) (Ev.bind (words_ev (ws.getD i ByteArray.empty) 44 hx) ?_))
    rw [hd] at he
    generalize ws.getD i ByteArray.empty = x at *
    have hws : ∀ y ∈ wordsL 44 x, y.size ≤ 100000 := fun y hy => Nat.le_trans (wordsL_mem_size hy) hx
    by_cases h3 : (wordsL 44 x).length = 3
    · have n0 := numR_ev _ (getD_size hws 0 (by omega))
      have n1 := numR_ev _ (getD_size hws 1 (by omega))
      have n2 := numR_ev _ (getD_size hws 2 (by omega))
      have r0 : rdOf ByteArray.empty (wordsL 44 x) 0 = (wordsL 44 x).getD 0 ByteArray.empty := rfl
      have r1 : rdOf ByteArray.empty (wordsL 44 x) 1 = (wordsL 44 x).getD 1 ByteArray.empty := rfl
      have r2 : rdOf ByteArray.empty (wordsL 44 x) 2 = (wordsL 44 x).getD 2 ByteArray.empty := rfl
      rw [r0, r1, r2]
      refine Ev.pos (by omega) (Ev.pos (by omega) (Ev.bind n0 (Ev.pos (by omega) (Ev.bind n1 (Ev.pos (by omega) (Ev.bind n2 (Ev.pos (by omega) ?_)))))))
      refine l1_ev hl hw m (i + 1) _ (by omega) (by rw [List.length_append]; simp; omega) ?_
      have e : acc ++ edgesR (x :: ws.drop (i + 1)) = acc ++ [edgeR x] ++ edgesR (ws.drop (i + 1)) := by
        rw [edgesR, List.flatMap_cons, if_pos h3, ← List.append_assoc]
        rfl
      rw [e] at he
      exact he
    · refine Ev.neg (by omega) (l1_ev hl hw m (i + 1) acc (by omega) (by omega) ?_)
      have e : acc ++ edgesR (x :: ws.drop (i + 1)) = acc ++ edgesR (ws.drop (i + 1)) := by
        rw [edgesR, List.flatMap_cons, if_neg h3, List.nil_append]
        rfl
      rw [e] at he
      exact he
theorem l0_ev {x : ByteArray} (hx3 : ws.getD 3 ByteArray.empty = x) (hl : 3 < ws.length) (hx : x.size ≤ 100000) : ∀ (m i : Nat) (acc : List Int), i + m = x.size → acc.length ≤ i →
    Ev (fun k => wigmakerref03_Parse.l1 k s ws 4 W H (acc ++ dirsOf (x.data.toList.drop i)) []) v → Ev (fun k => wigmakerref03_Parse.l0 k s ws (i : Int) W H acc) v
  | 0, i, acc, hi, ha, he => by
    have r3 : rdOf ByteArray.empty ws 3 = x := hx3
    refine Ev.succ ?_
    simp only [wigmakerref03_Parse.l0, r3]
    refine Ev.pos (by omega) (Ev.neg (by omega) ?_)
    rw [List.drop_eq_nil_of_le (by simp; omega)] at he
    simpa [dirsOf] using he
  | m + 1, i, acc, hi, ha, he => by
    have r3 : rdOf ByteArray.empty ws 3 = x := hx3
    have ih := fun acc hi ha => l0_ev hx3 hl hx m (i + 1) acc hi ha
    refine Ev.succ ?_
    simp only [wigmakerref03_Parse.l0, r3, w1 i (by omega)]
    have hi' : i < x.data.toList.length := by simp; omega
    have hd : x.data.toList.drop i = x.data.toList.getD i 0 :: x.data.toList.drop (i + 1) := by
      rw [List.drop_eq_getElem_cons hi', List.getD_eq_getElem?_getD, List.getElem?_eq_getElem hi']
      rfl
    have hlt : (x.data.toList.getD i 0).toNat < 256 := (x.data.toList.getD i 0).toNat_lt
    simp only [bt_getD x i (by omega)]
    rw [hd] at he
    generalize x.data.toList.getD i 0 = b at *
    refine Ev.pos (by omega) (Ev.pos (by omega) (Ev.pos (by omega) ?_))
    by_cases hb : b = 47
    · subst hb
      refine Ev.pos rfl (ih acc (by omega) (by omega) ?_)
      have e : dirsOf (47 :: x.data.toList.drop (i + 1)) = dirsOf (x.data.toList.drop (i + 1)) := by
        rw [dirsOf, List.flatMap_cons]
        rfl
      rw [e] at he
      exact he
    · have hn : ¬ ((b.toNat : Int) = 47) := fun e => hb (UInt8.toNat_inj.1 (by show b.toNat = 47; omega))
      rw [w64 (b.toNat : Int) (by omega), w64 ((b.toNat : Int) - 48) (by omega)]
      refine Ev.neg hn (Ev.pos (by omega) (ih _ (by omega) (by rw [List.length_append]; simp; omega) ?_))
      have e : acc ++ dirsOf (b :: x.data.toList.drop (i + 1)) = acc ++ [(b.toNat : Int) - 48] ++ dirsOf (x.data.toList.drop (i + 1)) := by
        rw [dirsOf, List.flatMap_cons, dirOf, if_neg hb, ← List.append_assoc]
        rfl
      rw [e] at he
      exact he
end
/-- The text, once its words are known. -/
theorem parse_ref {s : ByteArray} {v : Int × Int × List Int × List S50 × Int} (hs : ¬ s.size > 4000) (h4 : ¬ (wordsL 32 s).length < 4)
    (h : Ev (fun k => endR k s (numR ((wordsL 32 s).getD 1 ByteArray.empty)) (numR ((wordsL 32 s).getD 2 ByteArray.empty)) (dirsOf ((wordsL 32 s).getD 3 ByteArray.empty).data.toList) (edgesR ((wordsL 32 s).drop 4))) v) :
    Ev (fun k => wigmakerref03_Parse.f k s) v := by
  have hl := wordsL_len 32 s
  have hm : ∀ x ∈ wordsL 32 s, x.size ≤ 100000 := fun x hx => Nat.le_trans (wordsL_mem_size hx) (by omega)
  have n1 := numR_ev _ (getD_size hm 1 (by omega))
  have n2 := numR_ev _ (getD_size hm 2 (by omega))
  have hx := getD_size hm 3 (by omega)
  have hw := words_ev s 32 (by omega)
  unfold wigmakerref03_Parse.f
  refine Ev.neg (by omega) (Ev.bind hw ?_)
  generalize wordsL 32 s = ws at *
  have r1 : rdOf ByteArray.empty ws 1 = ws.getD 1 ByteArray.empty := rfl
  have r2 : rdOf ByteArray.empty ws 2 = ws.getD 2 ByteArray.empty := rfl
  rw [r1, r2]
  refine Ev.neg (by omega) (Ev.pos (by omega) (Ev.bind n1 (Ev.pos (by omega) (Ev.bind n2 ?_))))
  refine l0_ev rfl (by omega) hx (ws.getD 3 ByteArray.empty).size 0 [] (by omega) (Nat.le_refl _) ?_
  rw [List.drop_zero, List.nil_append]
  refine l1_ev (by omega) hm (ws.length - 4) 4 [] (by omega) (by simp) ?_
  rw [List.nil_append]
  exact h
theorem parse_ref_short {s : ByteArray} (hs : ¬ s.size > 4000) (h4 : (wordsL 32 s).length < 4) : Ev (fun k => wigmakerref03_Parse.f k s) (0, 0, [], [], 3) := by
  unfold wigmakerref03_Parse.f
  exact Ev.neg (by omega) (Ev.bind (words_ev s 32 (by omega)) (Ev.pos (by omega) (Ev.pure _)))
theorem toList_inj {a b : ByteArray} (h : a.toList = b.toList) : a = b := by
  rw [ByteArray.toList_eq, ByteArray.toList_eq] at h
  exact bytesInj h
theorem parse_ref_yes {W H : Int} {D : List Int} {P : List S50} (hv : Ev (fun k => wigmakerref03_Validate.f k W H D P) 0) (h : Valid W H D P) : Ev (fun k => wigmakerref03_Parse.f k (txt W H D P)) (W, H, D, P, 0) := by
  have hw := h.fld.w
  have hh := h.fld.h
  have hs := txt_size h
  have hwt : wordsL 32 (txt W H D P) = ofL [102, 108, 111, 119] :: dgs W :: dgs H :: ofL (dirsL W D D.length) :: P.map (fun e => ofL (wordE e)) := by rw [← wordsB_eq]; exact wordsB_txt h
  have he : edgesR (P.map (fun e => ofL (wordE e))) = P := by
    unfold edgesR
    rw [List.flatMap_map]
    have h1 : ∀ e ∈ P, (if (wordsL 44 (ofL (wordE e))).length = 3 then [edgeR (ofL (wordE e))] else []) = [e] := by
      intro e he
      have hm := h.mem e he
      have hq : wordsL 44 (ofL (wordE e)) = [dgs e.f0, dgs e.f1, dgs e.f2] := by rw [← wordsB_eq]; exact wordsB_edge e hm
      unfold edgeR
      rw [hq]
      simp only [List.length_cons, List.length_nil, if_true, List.getD_cons_zero, List.getD_cons_succ, numR_dgs _ hm.1, numR_dgs _ hm.2.1, numR_dgs _ hm.2.2]
    have h2 : ∀ (L : List S50) (f : S50 → List S50), (∀ e ∈ L, f e = [e]) → L.flatMap f = L := by
      intro L f
      induction L with
      | nil => intro _; rfl
      | cons a L ih =>
        intro hf
        rw [List.flatMap_cons, hf a List.mem_cons_self, ih (fun e he => hf e (List.mem_cons_of_mem _ he))]
        rfl
    exact h2 P _ h1
  have hD : dirsOf (ofL (dirsL W D D.length)).data.toList = D := by
    show dirsOf (dirsL W D D.length) = D
    rw [(dirs_of h.fld.d D.length (Nat.le_refl _)).2, List.take_length]
  refine parse_ref (by omega) (by rw [hwt]; simp) ?_
  rw [hwt]
  simp only [List.drop_succ_cons, List.drop_zero, List.getD_cons_succ, List.getD_cons_zero, he, hD, numR_dgs W (by omega), numR_dgs H (by omega)]
  exact Ev.bind (format_ref hv h) (Ev.pos rfl (Ev.pos rfl (Ev.pure _)))
theorem parse_ref_no (s : ByteArray) (hs : s.size ≤ 100000) (hno : ∀ W H D P, Valid W H D P → Ev (fun k => flow_Validate.f k W H D P) 0 → s ≠ txt W H D P) : Ev (fun k => wigmakerref03_Parse.f k s) (0, 0, [], [], if s.size > 4000 then 4 else 3) := by
  by_cases h4 : s.size > 4000
  · rw [if_pos h4]
    unfold wigmakerref03_Parse.f
    exact Ev.pos (by omega) (Ev.pure _)
  rw [if_neg h4]
  by_cases h1 : (wordsL 32 s).length < 4
  · exact parse_ref_short h4 h1
  refine parse_ref h4 h1 ?_
  have hl := wordsL_len 32 s
  have hm : ∀ x ∈ wordsL 32 s, x.size ≤ 100000 := fun x hx => Nat.le_trans (wordsL_mem_size hx) hs
  have hx3 := getD_size hm 3 (by omega)
  have hdl := dirsOf_le ((wordsL 32 s).getD 3 ByteArray.empty).data.toList
  have hsz : ((wordsL 32 s).getD 3 ByteArray.empty).data.toList.length = ((wordsL 32 s).getD 3 ByteArray.empty).size := by simp
  have hel : ∀ l : List ByteArray, (edgesR l).length ≤ l.length := by
    intro l
    induction l with
    | nil => exact Nat.le_refl _
    | cons a l ih =>
      rw [edgesR, List.flatMap_cons, List.length_append, List.length_cons]
      have : (l.flatMap fun x => if (wordsL 44 x).length = 3 then [edgeR x] else []).length ≤ l.length := ih
      have h1 : (if (wordsL 44 a).length = 3 then [edgeR a] else []).length ≤ 1 := by split <;> simp
      omega
  have hel4 := hel ((wordsL 32 s).drop 4)
  rw [List.length_drop] at hel4
  generalize numR ((wordsL 32 s).getD 1 ByteArray.empty) = W
  generalize numR ((wordsL 32 s).getD 2 ByteArray.empty) = H
  generalize dirsOf ((wordsL 32 s).getD 3 ByteArray.empty).data.toList = D at *
  generalize edgesR ((wordsL 32 s).drop 4) = P at *
  obtain ⟨e, hv, hr, hz⟩ := validate_both W H D P (by omega) (by omega)
  by_cases he : e = 0
  · subst he
    have V := hz rfl
    refine Ev.bind (format_ref hr V) (Ev.pos rfl (Ev.neg ?_ (Ev.pure _)))
    intro c
    exact hno W H D P V hv (toList_inj c).symm
  · exact Ev.bind (format_bad he hv hr).2 (Ev.neg he (Ev.pure _))
end Go.Proofs.YtfpikmeiooangaaDoor.PFlowTexts
end
