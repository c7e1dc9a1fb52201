/- A part of a proof: GPar. -/
import Derived.WideShapes
import Derived.Test.YtfpikmeiooangaaDoorT16
set_option linter.unusedVariables false
set_option linter.unusedSimpArgs false
namespace Go.Proofs.YtfpikmeiooangaaDoor.PFlowTexts
open Go.RowKit Go.Proofs.YtfpikmeiooangaaDoorW.PrintWords Go.Proofs.YtfpikmeiooangaaDoorW.PrintLast Go.Proofs.YtfpikmeiooangaaDoorW.PrintMore
set_option maxHeartbeats 4000000 in
set_option maxRecDepth 100000 in
theorem flow_Parse.calls (k : Nat) (a0 : ByteArray) (r1 : Int) (r2 : Int) (r3 : List Int) (r4 : List (S50)) (r5 : Int) (w : World) (hg : Glob w) (h : flow_Parse.f k a0 = some (r1, r2, r3, r4, r5)) :
    Calls Tryd.prog 8 #[.string a0] w fun e w' => ∃ v2_ v3_ : Value, e = .returned (.tuple #[.agg #[.int .i64 r1, .int .i64 r2, v2_, v3_], .int .i64 r5]) ∧ Kd.R (Kd.int .i64) 3 w' w.heap.size (fun _ => True) v2_ r3 ∧ Kd.R k50 50 w' w.heap.size (fun _ => True) v3_ r4 ∧ Below w.heap.size w w' := by
  have HG := Aside0.mk hg
  clear hg
  unfold flow_Parse.f at h
  by_cases hlong : a0.size > 4000
  · by_cases hlong' : a0.size ≤ 100000
    · rw [if_pos hlong, if_pos hlong'] at h
      simp only [Option.some.injEq, Prod.mk.injEq] at h
      obtain ⟨rfl, rfl, rfl, rfl, rfl⟩ := h
      have hl : (4000 : Int) < a0.size := by omega
      have hd : decide ((4000 : Int) < a0.size) = true := decide_eq_true hl
      go_enter Tryd.func8, Tryd.ntmps8
      go_wp2
      refine bodyPost_ret (results_ct rfl _ _ w.heap.size 25 #[.int .i64 0, .int .i64 0, .slice none 0 0, .slice none 0 0] (0, 0) _ rfl (heap_alloc_new _ _) Tryd.underlying25 rfl (by kernel_rfl)) rfl ?_
      exact ⟨_, _, rfl, Kd.R_nil _ _ _ _ _, Kd.R_nil _ _ _ _ _, (Below.refl _ _).alloc (Nat.le_refl _) _⟩
    · rw [if_pos hlong, if_neg hlong'] at h
      exact absurd h (by simp)
  rw [if_neg hlong] at h
  have hs : a0.size ≤ 4000 := by omega
  clear hlong
  by_cases hfew : (wordsB 32 a0).length < 4
  · rw [if_pos hfew] at h
    simp only [Option.some.injEq, Prod.mk.injEq] at h
    obtain ⟨rfl, rfl, rfl, rfl, rfl⟩ := h
    have hl : ((wordsB 32 a0).length : Int) < 4 := by omega
    have hd : decide (((wordsB 32 a0).length : Int) < 4) = true := decide_eq_true hl
    go_enter Tryd.func8, Tryd.ntmps8
    go_wp2_with fail
    refine (split_call a0 32 _ (by omega) (HG.out.step ((Below.refl _ _).alloc (Nat.le_refl _) _))).mono ?_
    rintro e w1 ⟨rfl, rfl⟩
    have hn : (w.alloc (.cells #[.int .i64 0, .int .i64 0, .slice none 0 0, .slice none 0 0] 25)).heap[w.heap.size]? = some (.cells #[.int .i64 0, .int .i64 0, .slice none 0 0, .slice none 0 0] 25 (0, 0)) := heap_alloc_new _ _
    have hB : Below w.heap.size w (w.alloc (.cells #[.int .i64 0, .int .i64 0, .slice none 0 0, .slice none 0 0] 25)) := (Below.refl _ _).alloc (Nat.le_refl _) _
    have hres := blk_alloc hn (.cells ((wordsB 32 a0).map Value.string).toArray 9)
    have hB2 := below_alloc hB (.cells ((wordsB 32 a0).map Value.string).toArray 9)
    generalize (w.alloc (.cells #[.int .i64 0, .int .i64 0, .slice none 0 0, .slice none 0 0] 25)).alloc (.cells ((wordsB 32 a0).map Value.string).toArray 9) = w2 at hres hB2 ⊢
    generalize (wordsB 32 a0).length = n at hl hd ⊢
    have HI := Aside0.mk hres
    have HB := Aside0.mk hB2
    have r0 := (blk_cell hres 0).trans rfl; have r1' := (blk_cell hres 1).trans rfl; have r2' := (blk_cell hres 2).trans rfl; have r3' := (blk_cell hres 3).trans rfl
    have f0 := blk_frozen hres 0; have f1 := blk_frozen hres 1; have f2 := blk_frozen hres 2; have f3 := blk_frozen hres 3
    clear hn hB hres hB2 hfew
    go_wp2
    refine bodyPost_ret (results_ct rfl _ _ w.heap.size 25 #[.int .i64 0, .int .i64 0, .slice none 0 0, .slice none 0 0] (0, 0) _ rfl (put4 HI.out _ _ _ _) Tryd.underlying25 rfl (by kernel_rfl)) rfl ?_
    exact ⟨_, _, rfl, Kd.R_nil _ _ _ _ _, Kd.R_nil _ _ _ _ _, below4 HB.out (Nat.le_refl _) _ _ _ _⟩
  rw [if_neg hfew] at h
  have h4 : 4 ≤ (wordsB 32 a0).length := by omega
  clear hfew
  have H := Lib.hid h
  clear h
  go_enter Tryd.func8, Tryd.ntmps8
  go_wp2_with fail
  refine (split_call a0 32 _ (by omega) (HG.out.step ((Below.refl _ _).alloc (Nat.le_refl _) _))).mono ?_
  rintro e w1 ⟨rfl, rfl⟩
  obtain ⟨ws, hws⟩ : ∃ ws, wordsB 32 a0 = ws := ⟨_, rfl⟩
  rw [hws] at h4 ⊢
  have HW := Lib.hid hws
  clear hws
  go_wp2_with fail
  have hI := ParI.start w ws
  generalize (((w.alloc (.cells #[.int .i64 0, .int .i64 0, .slice none 0 0, .slice none 0 0] 25)).alloc (.cells (ws.map Value.string).toArray 9)).alloc (.cells #[.int .i64 0, .int .i64 0, .slice none 0 0, .slice none 0 0] 25)).alloc (.cells #[.bool true] 4) = w2 at hI ⊢
  have hwl : ∀ i, (ws.getD i ByteArray.empty).size ≤ 100000 := fun i => by
    rw [List.getD_eq_getElem?_getD]
    rcases Nat.lt_or_ge i ws.length with hi | hi
    · rw [List.getElem?_eq_getElem hi]
      exact Nat.le_trans (wordsB_mem_size (c := 32) (s := a0) (by rw [HW.out]; exact List.getElem_mem hi)) (by omega)
    · rw [List.getElem?_eq_none hi]
      exact Nat.zero_le _
  have HLEN := Aside0.mk (show ws.length ≤ 4001 from HW.out ▸ Nat.le_trans (wordsB_len 32 a0) (by omega))
  have HWL := Lib.hid hwl
  clear hwl
  have u1 := hI.word 1 (by omega)
  have u2 := hI.word 2 (by omega)
  have s1 := HWL.out 1
  have s2 := HWL.out 2
  obtain ⟨x1, hx1⟩ : ∃ x, ws.getD 1 ByteArray.empty = x := ⟨_, rfl⟩
  obtain ⟨x2, hx2⟩ : ∃ x, ws.getD 2 ByteArray.empty = x := ⟨_, rfl⟩
  rw [hx1] at u1 s1
  rw [hx2] at u2 s2
  have HX1 := Lib.hid hx1
  have HX2 := Lib.hid hx2
  clear hx1 hx2
  have l1 : (1 : Int) < ws.length := by omega
  have l2 : (2 : Int) < ws.length := by omega
  have hI' := hI.drew
  have hS : ParI w ws true 0 0 (.slice none 0 0) (.slice none 0 0) [] [] w2.drew ∧ w2.drew.cell? ⟨w.heap.size + 1, 1, none⟩ = some (.string x1) ∧ w2.drew.cell? ⟨w.heap.size + 1, 2, none⟩ = some (.string x2) := ⟨hI', u1, u2⟩
  have HI := Aside0.mk hI
  clear hI hI'
  go_region_held3 (fun W => W.cell? ⟨w.heap.size + 1, 1, none⟩ = some (.string x1) ∧ W.cell? ⟨w.heap.size + 1, 2, none⟩ = some (.string x2))
    (first | exact hS.2 | assumption | (refine ⟨?_, ?_⟩ <;> assumption) | (refine ⟨(cell_far (by show w.heap.size + 1 ≠ w.heap.size + 1 + 1; omega) _).trans ?_, (cell_far (by show w.heap.size + 1 ≠ w.heap.size + 1 + 1; omega) _).trans ?_⟩ <;> first | assumption | exact And.left ‹_ ∧ _› | exact And.right ‹_ ∧ _›))
    (first | (go_at_call 21; with_reducible refine (hS.1.num_call HG.out x1 s1).mono ?_; rintro e w3 ⟨rfl, hI3⟩; have k1 := HX1.out ▸ hI3.word 1 (by omega); have k2 := HX2.out ▸ hI3.word 2 (by omega)) | (go_at_call 21; with_reducible refine (hI3.num_call HG.out x2 s2).mono ?_; rintro e w4 ⟨rfl, hI4⟩; have k3 := HX1.out ▸ hI4.word 1 (by omega); have k4 := HX2.out ▸ hI4.word 2 (by omega); have f0 := blk_frozen hI4.fld 0; have f1 := blk_frozen hI4.fld 1; have g0 := (blk_cell hI4.fld 0).trans rfl; have g1 := (blk_cell hI4.fld 1).trans rfl))
  have hI5 := (hI4.setW (numV x1)).setH (numV x2)
  generalize ((w4.setCell { block := w.heap.size + 1 + 1, off := 0 } (Value.int IntKind.i64 (numV x1))).setCell { block := w.heap.size + 1 + 1, off := 1 } (Value.int IntKind.i64 (numV x2))) = w5 at hI5 ⊢
  clear hS HI u1 u2 s1 s2 l1 l2 hI3 hI4 k1 k2 k3 k4 f0 f1 g0 g1
  have u3 := hI5.word 3 (by omega)
  have l3 : (3 : Int) < ws.length := by omega
  have s3 := HWL.out 3
  obtain ⟨x3, hx3⟩ : ∃ x, ws.getD 3 ByteArray.empty = x := ⟨_, rfl⟩
  rw [hx3] at u3 s3
  have HX3 := Lib.hid hx3
  clear hx3
  have HI := Aside0.mk hI5
  clear hI5
  have hconv : ∀ (W : World) (s : ByteArray), (convert 9 40 (.string s)).run Tryd.prog W = .ok (.slice (some ⟨W.heap.size, 0, none⟩) s.size (grownCap W s.size 0 5)) (Lib.bytesWorld W 5 s) := fun W s => Lib.run_convert_string_bytes W 9 40 5 s Tryd.underlying9 Tryd.underlying40 Tryd.underlying5
  go_wp2_with fail
  clear hconv u3 l3
  have hIb := HI.out.grows (bytes_below (Below.refl _ _) (Nat.le_refl _) 5 x3)
  have hcell := fun j hj => Lib.bytesWorld_cell w5 5 x3 j hj
  have hnew := Lib.bytesWorld_at_new w5 5 x3
  have hgt : w.heap.size + 4 ≤ w5.heap.size := HI.out.size
  generalize Lib.bytesWorld w5 5 x3 = wb at hIb hcell hnew ⊢
  generalize grownCap w5 x3.size 0 5 = cb
  generalize w5.heap.size = bk at hcell hnew hgt ⊢
  have HC := Lib.hid hcell
  have HN := Lib.hid hnew
  have HIb := Aside0.mk hIb
  have HBK := Lib.hid hgt
  clear hgt
  clear hcell hnew HI hIb
  go_loopw [9, 43] (fun _ i wr => ∃ n : Nat, n ≤ x3.size ∧ i = .int .i64 n ∧ ∃ dv, Par1 w ws (numOk x1 && numOk x2) (numV x1) (numV x2) dv x3 n bk wb wr) (fun _ i _ => x3.size - (intOf i).toNat)
  case atStart => exact ⟨0, Nat.zero_le _, rfl, .slice none 0 0, ⟨by simpa [dirsOf] using HIb.out, rfl⟩⟩
  case round =>
    obtain ⟨n, hn, rfl, dv, hP⟩ := hrel
    have hcl := hP.cell HC.out
    by_cases hlt : n < x3.size
    · as_aux_lemma =>
      replace hcl := hcl hlt
      have HP := Aside0.mk hP
      clear hP
      have HSZ := Aside0.mk (dirsOf_length x3 n)
      have HDS := Lib.hid (dirsOf_next x3 n hlt)
      generalize x3.data.toList.getD n 0 = c at hcl HDS
      have hc0 : c.toNat < 256 := c.toNat_lt
      by_cases h47 : c.toNat = 47
      · have e47 : ((c.toNat : Int) != 47) = false := by simp [h47]
        have H47 := Lib.hid h47
        clear h47
        go_wp2_with fail
        go_roundw
        case rel => exact ⟨n + 1, by omega, by go_num, dv, HP.out.skip (by rw [HDS.out, dirOf, if_pos (UInt8.toNat_inj.1 (by simpa using H47.out)), List.append_nil])⟩
        case measure => simp [intOf]; omega
      · have e47 : ((c.toNat : Int) != 47) = true := by simp; omega
        have H47 := Lib.hid h47
        clear h47
        have cf := (blk_cell HP.out.par.fld 2).trans rfl
        have hz : wrap64 ((c.toNat : Int) - 48) = (c.toNat : Int) - 48 := by unfold wrap64; omega
        have HNE := Lib.hid (fun j (hj : j < w.heap.size + 4) => show some j ≠ dv.ownBlock from fun e => by have := ((Kd.R_bound HP.out.par.dsR).1 j e.symm).2.1; omega)
        go_wp2_with (first | ((with_reducible refine gate_builtin (b := .append) (xs := #[.tmp 50, .tmp 54]) rfl ?_); at_builtin; refine Kd.R_append (Kd.int .i64) (w0 := wr) (w.heap.size+4) rfl (.tmp 50) (.tmp 54) 22 3 (.int .i64 0) 8 rfl Tryd.underlying22 info3 rfl (by decide) (by omega) dv (dirsOf (x3.data.toList.take n)) ((c.toNat : Int) - 48) [.int .i64 ((c.toNat : Int) - 48)] (fun _ => True) (fun _ => False) rfl rfl ?aP (fun _ hk => hk.elim) ?aF ?aO ?aB ?aS ?aL ?_; (case aP => exact rfl); (case aF => exact (fun _ _ => trivial)); (case aO => exact HP.out.par.dsR); (case aB => exact Below.refl _ _); (case aS => exact HP.out.par.size); (case aL => have := HSZ.out; omega); intro v1 w1 ho hb hg hat; obtain ⟨A1, c1, rfl⟩ := Kd.R_slice ho; rw [List.length_append, List.length_singleton] at ho; have f2 := blk_frozen (blk_grown HP.out.par.fld hg (HNE.out _ (by omega))) 2; have g2 := (blk_cell (blk_grown HP.out.par.fld hg (HNE.out _ (by omega))) 2).trans rfl; have HO := Aside0.mk ho; have HGR := Aside0.mk hg; clear ho hb hg hat))
        go_roundw
        case rel => exact ⟨n + 1, by omega, by go_num, _, HP.out.append (p := (c.toNat : Int) - 48) HBK.out HN.out (by rw [HDS.out, dirOf, if_neg (by intro e; exact H47.out (by rw [e]; rfl))]) HO.out HGR.out⟩
        case measure => simp [intOf]; omega
    · obtain rfl : n = x3.size := by omega
      clear hcl
      have hp := hP.par
      clear hP
      rw [List.take_of_length_le (by simp)] at hp
      have hsl : (ws.length : Int) - 4 = ((ws.length - 4 : Nat) : Int) := by omega
      obtain ⟨B, hB⟩ : ∃ B, (if ws.length = 4 then some (⟨w.heap.size+1,0,none⟩ : Addr) else some ⟨w.heap.size+1,4,none⟩) = B := ⟨_, rfl⟩
      go_wp2_with fail
      have HBB := Lib.hid hB
      clear hB hsl
      go_loopw [11, 12, 61] (fun _ _ i wr => ∃ m : Nat, m ≤ ws.length - 4 ∧ i = .int .i64 m ∧ ((ws.drop 4).take m).all (fun x => (wordsB 44 x).length == 3) = true ∧ ∃ pv, ParI w ws (numOk x1 && numOk x2 && ((ws.drop 4).take m).all okOf) (numV x1) (numV x2) dv pv (dirsOf x3.data.toList) (((ws.drop 4).take m).map edgeOf) wr) (fun _ _ i _ => ws.length - 4 - (intOf i).toNat)
      case atStart => exact ⟨0, Nat.zero_le _, rfl, rfl, .slice none 0 0, by simpa using hp⟩
      case round =>
        clear hp
        obtain ⟨m, hm, rfl, hall, pv, hP⟩ := hrel
        by_cases hlt : m < ws.length - 4
        · as_aux_lemma =>
          have u := hP.word (4 + m) (by omega)
          have hy := HWL.out (4 + m)
          obtain ⟨y, hy2⟩ : ∃ y, ws.getD (4 + m) ByteArray.empty = y := ⟨_, rfl⟩
          rw [hy2] at u hy
          have HY2 := Lib.hid hy2
          have HP := Aside0.mk hP
          have HALL := Lib.hid hall
          clear hy2 hP hall
          have hB := HBB.out
          rw [if_neg (by omega)] at hB
          subst hB
          have hmi : (m : Int) < ((ws.length - 4 : Nat) : Int) := by omega
          go_wp2_with fail
          refine (split_call y 44 _ hy (HG.out.step HP.out.below)).mono ?_
          rintro e w6 ⟨rfl, rfl⟩
          obtain ⟨ps, hps⟩ : ∃ ps, wordsB 44 y = ps := ⟨_, rfl⟩
          rw [hps]
          have hI := HP.out.grows ((Below.refl _ _).alloc (Nat.le_refl _) (.cells (ps.map Value.string).toArray 9))
          have hpw : (wr.alloc (.cells (ps.map Value.string).toArray 9)).heap[wr.heap.size]? = some (.cells (ps.map Value.string).toArray 9 (0, 0)) := heap_alloc_new _ _
          generalize wr.alloc (.cells (ps.map Value.string).toArray 9) = w6 at hI hpw ⊢
          have HI := Aside0.mk hI
          have HPW := Lib.hid hpw
          clear hI hpw
          by_cases h3 : ps.length = 3
          · go_wp2_with fail
            obtain ⟨q0, q1, q2, rfl⟩ : ∃ q0 q1 q2, ps = [q0, q1, q2] := by
              match ps, h3 with
              | [q0, q1, q2], _ => exact ⟨_, _, _, rfl⟩
            have hj : Par2 w ws (numOk x1 && numOk x2 && ((ws.drop 4).take m).all okOf) (numV x1) (numV x2) dv pv (dirsOf x3.data.toList) (((ws.drop 4).take m).map edgeOf) wr.heap.size q0 q1 q2 w6 := ⟨HI.out, HPW.out, HP.out.size⟩
            have hj' := hj.drew
            obtain ⟨bp, hbp⟩ : ∃ bp, wr.heap.size = bp := ⟨_, rfl⟩
            have hQ : q0.size ≤ 100000 ∧ q1.size ≤ 100000 ∧ q2.size ≤ 100000 := ⟨Nat.le_trans (wordsB_mem_size (c := 44) (s := y) (by rw [hps]; simp)) hy, Nat.le_trans (wordsB_mem_size (c := 44) (s := y) (by rw [hps]; simp)) hy, Nat.le_trans (wordsB_mem_size (c := 44) (s := y) (by rw [hps]; simp)) hy⟩
            have HQ := Lib.hid hQ
            have hPL : (((ws.drop 4).take m).map edgeOf).length + 1 ≤ 100000 := by have := HLEN.out; rw [List.length_map, List.length_take, List.length_drop]; omega
            have HPL := Lib.hid hPL
            have htk := take_drop4 ws m (by omega)
            have HTK := Lib.hid htk
            have HPS := Lib.hid hps
            have hyo : okOf y = (numOk q0 && numOk q1 && numOk q2) := by rw [okOf, hps]; rfl
            have hye : edgeOf y = ⟨numV q0, numV q1, numV q2⟩ := by rw [edgeOf, hps]; rfl
            have HYO := Lib.hid hyo
            have HYE := Lib.hid hye
            clear hQ hPL htk hps hyo hye HI HPW h3
            have HRS := Lib.hid hbp
            rw [hbp] at hj hj' ⊢
            clear hbp
            generalize hPSe : ((ws.drop 4).take m).map edgeOf = PS at hj hj' HPL
            have HPSE := Lib.hid hPSe
            clear hPSe
            refine start_ (n := 22) (S := fun w' => w'.cell? ⟨w.heap.size + 1 + 1, 3, none⟩ = some pv ∧ w'.cell? ⟨bp, 0, none⟩ = some (.string q0) ∧ w'.cell? ⟨bp, 1, none⟩ = some (.string q1) ∧ w'.cell? ⟨bp, 2, none⟩ = some (.string q2)) (ds := [19, 21]) #[false, false, false, false, false, false, false, false, false, false, false, false, false, false, false, false, false, false, false, false, false, false] (by kernel_rfl) rfl rfl hj'.held (fun hHeld => ?_); refine with_tabW flow_Parse.tab22 flow_Parse.bits22 (fun HT_ HW_ => ?_)
            generalize w6.drew = w7 at hj' hHeld ⊢
            have HJ := Aside0.mk hj'
            clear hj hj'
            refine pure_ (i := 0) (N := some 71) (v := ?_) (a' := ?_) #[true, false, false, false, false, false, false, false, false, false, false, false, false, false, false, false, false, false, false, false, false, false] rfl rfl (any_of HT_.out (by kernel_rfl)) (fun _ _ _ h => h) (Or.inl ⟨by rfl, ?_⟩) ?_ ?_
            rotate_left
            · intro w'
              go_simp
              with_reducible rfl
            rotate_left
            · simp only [Act.put, List.setIfInBounds_toArray, List.set_cons_zero, List.set_cons_succ]
              rfl
            refine pure_ (i := 2) (N := some 73) (v := ?_) (a' := ?_) #[true, false, true, false, false, false, false, false, false, false, false, false, false, false, false, false, false, false, false, false, false, false] rfl rfl (any_of HT_.out (by kernel_rfl)) (fun _ _ _ h => h) (Or.inl ⟨by rfl, ?_⟩) ?_ ?_
            rotate_left
            · intro w'
              go_simp
              with_reducible rfl
            rotate_left
            · simp only [Act.put, List.setIfInBounds_toArray, List.set_cons_zero, List.set_cons_succ]
              rfl
            refine pure_ (i := 3) (N := some 74) (v := ?_) (a' := ?_) #[true, false, true, true, false, false, false, false, false, false, false, false, false, false, false, false, false, false, false, false, false, false] rfl rfl (any_of HT_.out (by kernel_rfl)) (fun _ _ _ h => h) (Or.inl ⟨by rfl, ?_⟩) ?_ ?_
            rotate_left
            · intro w'
              go_simp
              with_reducible rfl
            rotate_left
            · simp only [Act.put, List.setIfInBounds_toArray, List.set_cons_zero, List.set_cons_succ]
              rfl
            refine pure_ (i := 4) (N := some 75) (v := ?_) (a' := ?_) #[true, false, true, true, true, false, false, false, false, false, false, false, false, false, false, false, false, false, false, false, false, false] rfl rfl (any_of HT_.out (by kernel_rfl)) (fun _ _ _ h => h) (Or.inl ⟨by rfl, ?_⟩) ?_ ?_
            rotate_left
            · intro w'
              go_simp
              with_reducible rfl
            rotate_left
            · simp only [Act.put, List.setIfInBounds_toArray, List.set_cons_zero, List.set_cons_succ]
              rfl
            refine pure_ (i := 7) (N := some 78) (v := ?_) (a' := ?_) #[true, false, true, true, true, false, false, true, false, false, false, false, false, false, false, false, false, false, false, false, false, false] rfl rfl (any_of HT_.out (by kernel_rfl)) (fun _ _ _ h => h) (Or.inl ⟨by rfl, ?_⟩) ?_ ?_
            rotate_left
            · intro w'
              go_simp
              with_reducible rfl
            rotate_left
            · simp only [Act.put, List.setIfInBounds_toArray, List.set_cons_zero, List.set_cons_succ]
              rfl
            refine pure_ (i := 8) (N := some 79) (v := ?_) (a' := ?_) #[true, false, true, true, true, false, false, true, true, false, false, false, false, false, false, false, false, false, false, false, false, false] rfl rfl (any_of HT_.out (by kernel_rfl)) (fun _ _ _ h => h) (Or.inl ⟨by rfl, ?_⟩) ?_ ?_
            rotate_left
            · intro w'
              go_simp
              with_reducible rfl
            rotate_left
            · simp only [Act.put, List.setIfInBounds_toArray, List.set_cons_zero, List.set_cons_succ]
              rfl
            refine pure_ (i := 9) (N := some 80) (v := ?_) (a' := ?_) #[true, false, true, true, true, false, false, true, true, true, false, false, false, false, false, false, false, false, false, false, false, false] rfl rfl (any_of HT_.out (by kernel_rfl)) (fun _ _ _ h => h) (Or.inl ⟨by rfl, ?_⟩) ?_ ?_
            rotate_left
            · intro w'
              go_simp
              with_reducible rfl
            rotate_left
            · simp only [Act.put, List.setIfInBounds_toArray, List.set_cons_zero, List.set_cons_succ]
              rfl
            refine pure_ (i := 12) (N := some 83) (v := ?_) (a' := ?_) #[true, false, true, true, true, false, false, true, true, true, false, false, true, false, false, false, false, false, false, false, false, false] rfl rfl (any_of HT_.out (by kernel_rfl)) (fun _ _ _ h => h) (Or.inl ⟨by rfl, ?_⟩) ?_ ?_
            rotate_left
            · intro w'
              go_simp
              with_reducible rfl
            rotate_left
            · simp only [Act.put, List.setIfInBounds_toArray, List.set_cons_zero, List.set_cons_succ]
              rfl
            refine pure_ (i := 13) (N := some 84) (v := ?_) (a' := ?_) #[true, false, true, true, true, false, false, true, true, true, false, false, true, true, false, false, false, false, false, false, false, false] rfl rfl (any_of HT_.out (by kernel_rfl)) (fun _ _ _ h => h) (Or.inl ⟨by rfl, ?_⟩) ?_ ?_
            rotate_left
            · intro w'
              go_simp
              with_reducible rfl
            rotate_left
            · simp only [Act.put, List.setIfInBounds_toArray, List.set_cons_zero, List.set_cons_succ]
              rfl
            refine pure_ (i := 14) (N := some 85) (v := ?_) (a' := ?_) #[true, false, true, true, true, false, false, true, true, true, false, false, true, true, true, false, false, false, false, false, false, false] rfl rfl (any_of HT_.out (by kernel_rfl)) (fun _ _ _ h => h) (Or.inl ⟨by rfl, ?_⟩) ?_ ?_
            rotate_left
            · intro w'
              go_simp
              with_reducible rfl
            rotate_left
            · simp only [Act.put, List.setIfInBounds_toArray, List.set_cons_zero, List.set_cons_succ]
              rfl
            refine take_ (i := 1) (N := some 72) (v := ?_) (a' := ?_) #[true, true, true, true, true, false, false, true, true, true, false, false, true, true, true, false, false, false, false, false, false, false] rfl rfl (take_ofW HT_.out HW_.out (by kernel_rfl)) (fun _ _ _ h => h) (Or.inl ⟨by rfl, ?_⟩) hHeld ?_ ?_
            rotate_left
            · rintro w' ⟨s0, s1, s2, s3⟩
              go_simp
              with_reducible rfl
            rotate_left
            · simp only [Act.put, List.setIfInBounds_toArray, List.set_cons_zero, List.set_cons_succ]
              rfl
            refine take_ (i := 5) (N := some 76) (v := ?_) (a' := ?_) #[true, true, true, true, true, true, false, true, true, true, false, false, true, true, true, false, false, false, false, false, false, false] rfl rfl (take_ofW HT_.out HW_.out (by kernel_rfl)) (fun _ _ _ h => h) (Or.inl ⟨by rfl, ?_⟩) hHeld ?_ ?_
            rotate_left
            · rintro w' ⟨s0, s1, s2, s3⟩
              go_simp
              with_reducible rfl
            rotate_left
            · simp only [Act.put, List.setIfInBounds_toArray, List.set_cons_zero, List.set_cons_succ]
              rfl
            refine take_ (i := 10) (N := some 81) (v := ?_) (a' := ?_) #[true, true, true, true, true, true, false, true, true, true, true, false, true, true, true, false, false, false, false, false, false, false] rfl rfl (take_ofW HT_.out HW_.out (by kernel_rfl)) (fun _ _ _ h => h) (Or.inl ⟨by rfl, ?_⟩) hHeld ?_ ?_
            rotate_left
            · rintro w' ⟨s0, s1, s2, s3⟩
              go_simp
              with_reducible rfl
            rotate_left
            · simp only [Act.put, List.setIfInBounds_toArray, List.set_cons_zero, List.set_cons_succ]
              rfl
            refine take_ (i := 15) (N := some 86) (v := ?_) (a' := ?_) #[true, true, true, true, true, true, false, true, true, true, true, false, true, true, true, true, false, false, false, false, false, false] rfl rfl (take_ofW HT_.out HW_.out (by kernel_rfl)) (fun _ _ _ h => h) (Or.inl ⟨by rfl, ?_⟩) hHeld ?_ ?_
            rotate_left
            · rintro w' ⟨s0, s1, s2, s3⟩
              go_simp
              with_reducible rfl
            rotate_left
            · simp only [Act.put, List.setIfInBounds_toArray, List.set_cons_zero, List.set_cons_succ]
              rfl
            refine one_ (i := 6) (N := some 77) #[true, true, true, true, true, true, true, true, true, true, true, false, true, true, true, true, false, false, false, false, false, false] rfl rfl (one_of HT_.out (by kernel_rfl)) (by decide) (fun K hK => ?_)
            refine goesc_ Tryd.func21 (by kernel_rfl) rfl #[.string q0] #[.pointer (some ⟨w.heap.size + 1 + 1 + 1, 0, none⟩)] (by rfl) rfl rfl rfl (by simp only [List.map_toArray, List.map_cons, List.map_nil]; rfl) ?_
            refine (HJ.out.num_call HG.out q0 (by have := HQ.out; omega)).mono ?_
            rintro e w' ⟨rfl, hJ⟩
            refine ⟨_, rfl, ?_⟩
            refine hK.out _ _ hJ.held (fun hHeld => ?_)
            clear HJ
            have HJ := Aside0.mk hJ
            clear hJ
            clear hK K
            refine norm_ (a' := ?_) ?_ ?_
            rotate_left
            · show Act.put _ (some 77) _ = _
              simp only [Act.put, List.setIfInBounds_toArray, List.set_cons_zero, List.set_cons_succ]
              rfl
            refine one_ (i := 11) (N := some 82) #[true, true, true, true, true, true, true, true, true, true, true, true, true, true, true, true, false, false, false, false, false, false] rfl rfl (one_of HT_.out (by kernel_rfl)) (by decide) (fun K hK => ?_)
            refine goesc_ Tryd.func21 (by kernel_rfl) rfl #[.string q1] #[.pointer (some ⟨w.heap.size + 1 + 1 + 1, 0, none⟩)] (by rfl) rfl rfl rfl (by simp only [List.map_toArray, List.map_cons, List.map_nil]; rfl) ?_
            refine (HJ.out.num_call HG.out q1 (by have := HQ.out; omega)).mono ?_
            rintro e w' ⟨rfl, hJ⟩
            refine ⟨_, rfl, ?_⟩
            refine hK.out _ _ hJ.held (fun hHeld => ?_)
            clear HJ
            have HJ := Aside0.mk hJ
            clear hJ
            clear hK K
            refine norm_ (a' := ?_) ?_ ?_
            rotate_left
            · show Act.put _ (some 82) _ = _
              simp only [Act.put, List.setIfInBounds_toArray, List.set_cons_zero, List.set_cons_succ]
              rfl
            refine one_ (i := 16) (N := some 87) #[true, true, true, true, true, true, true, true, true, true, true, true, true, true, true, true, true, false, false, false, false, false] rfl rfl (one_of HT_.out (by kernel_rfl)) (by decide) (fun K hK => ?_)
            refine goesc_ Tryd.func21 (by kernel_rfl) rfl #[.string q2] #[.pointer (some ⟨w.heap.size + 1 + 1 + 1, 0, none⟩)] (by rfl) rfl rfl rfl (by simp only [List.map_toArray, List.map_cons, List.map_nil]; rfl) ?_
            refine (HJ.out.num_call HG.out q2 (by have := HQ.out; omega)).mono ?_
            rintro e w' ⟨rfl, hJ⟩
            refine ⟨_, rfl, ?_⟩
            refine hK.out _ _ hJ.held (fun hHeld => ?_)
            clear HJ
            have HJ := Aside0.mk hJ
            clear hJ
            clear hK K
            refine norm_ (a' := ?_) ?_ ?_
            rotate_left
            · show Act.put _ (some 87) _ = _
              simp only [Act.put, List.setIfInBounds_toArray, List.set_cons_zero, List.set_cons_succ]
              rfl
            refine pure_ (i := 17) (N := some 88) (v := ?_) (a' := ?_) #[true, true, true, true, true, true, true, true, true, true, true, true, true, true, true, true, true, true, false, false, false, false] rfl rfl (any_of HT_.out (by kernel_rfl)) (fun _ _ _ h => h) (Or.inl ⟨by rfl, ?_⟩) ?_ ?_
            rotate_left
            · intro w'
              go_simp
              with_reducible rfl
            rotate_left
            · simp only [Act.put, List.setIfInBounds_toArray, List.set_cons_zero, List.set_cons_succ]
              rfl
            refine one_ (i := 18) (N := some 89) #[true, true, true, true, true, true, true, true, true, true, true, true, true, true, true, true, true, true, true, false, false, false] rfl rfl (one_of HT_.out (by kernel_rfl)) (by decide) (fun K hK => ?_)
            refine value_ (w1 := ?_) (v := ?_) (by rfl) rfl ?_ ?_
            rotate_left 2
            · go_simp
              constructor
              · rfl
              · rfl
            refine hK.out _ _ (HJ.out.allocs _).held (fun hHeld => ?_)
            clear hK K
            refine norm_ (a' := ?_) ?_ ?_
            rotate_left
            · show Act.put _ (some 89) _ = _
              simp only [Act.put, List.setIfInBounds_toArray, List.set_cons_zero, List.set_cons_succ]
              rfl
            refine last_ (i := 19) (N := some 90) #[true, true, true, true, true, true, true, true, true, true, true, true, true, true, true, true, true, true, true, true, false, false] rfl rfl (one_of HT_.out (by kernel_rfl)) (by decide) (fun K hK => ?_)
            refine Kd.R_append_step k50 (w0 := w') (w.heap.size + 4) (by rfl) (.tmp 72) (.tmp 89) 23 50 (.agg #[(.int .i64 0), (.int .i64 0), (.int .i64 0)]) 24 rfl Tryd.underlying23 info50 rfl (by decide) (by omega) pv PS (⟨numV q0, numV q1, numV q2⟩ : S50) [.int .i64 (numV q0), .int .i64 (numV q1), .int .i64 (numV q2)] (fun _ => True) (fun _ => False) rfl rfl ?aP (fun _ hk => hk.elim) ?aF ?aO ?aB ?aS ?aL ?_
            (case aP => exact k50_mkM _ _ _ (⟨numV q0, numV q1, numV q2⟩ : S50))
            (case aB => exact Below.refl _ _)
            (case aF => exact (fun _ _ => trivial))
            (case aO => exact HJ.out.par.psR)
            (case aS => exact HJ.out.par.size)
            (case aL => have := HPL.out; omega)
            intro v1 w1 ho hb hg hat
            obtain ⟨A1, c1, rfl⟩ := Kd.R_slice ho
            refine hK.out _ _ ?_
            clear hK K
            refine norm_ (a' := ?_) ?_ ?_
            rotate_left
            · show Act.put _ (some 90) _ = _
              simp only [Act.put, List.setIfInBounds_toArray, List.set_cons_zero, List.set_cons_succ]
              rfl
            refine pure_ (i := 20) (N := some 91) (v := ?_) (a' := ?_) #[true, true, true, true, true, true, true, true, true, true, true, true, true, true, true, true, true, true, true, true, true, false] rfl rfl (any_of HT_.out (by kernel_rfl)) (fun _ _ _ h => h) (Or.inl ⟨by rfl, ?_⟩) ?_ ?_
            rotate_left
            · intro w'
              go_simp
              with_reducible rfl
            rotate_left
            · simp only [Act.put, List.setIfInBounds_toArray, List.set_cons_zero, List.set_cons_succ]
              rfl
            refine last_ (i := 21) (N := none) #[true, true, true, true, true, true, true, true, true, true, true, true, true, true, true, true, true, true, true, true, true, true] rfl rfl (one_of HT_.out (by kernel_rfl)) (by decide) (fun K hK => ?_)
            have hs51 := (blk_cell (blk_grown HJ.out.par.fld hg (HJ.out.par.ne_ps _ (by omega))) 3).trans rfl
            have hfs51 := blk_frozen (blk_grown HJ.out.par.fld hg (HJ.out.par.ne_ps _ (by omega))) 3
            refine skip_ (w1 := ?_) (by rfl) rfl ?_ ?_
            rotate_left
            · go_simp
              rfl
            refine hK.out _ _ ?_
            clear hK K
            refine done_ (done_of HT_.out (by kernel_rfl)) ?_
            have hfin := HJ.out.par.appP ho hg
            have HF := Aside0.mk hfin
            clear hfin ho hb hg hat hs51 hfs51 HJ hHeld
            go_wp2
            go_roundw
            case rel => exact ⟨m + 1, by omega, congrArg _ (show wrap64 ((m : Int) + 1) = ((m + 1 : Nat) : Int) by have := HLEN.out; unfold wrap64; omega), by rw [HTK.out, List.all_append, HALL.out, HY2.out]; simp [HPS.out], _, by rw [HTK.out, List.all_append, List.map_append, HY2.out]; simpa [HYO.out, HYE.out, HPSE.out, Bool.and_assoc] using HF.out⟩
            case measure => exact meas _ m hlt (by have := HLEN.out; omega)
          · have h3' : ((ps.length : Int) == 3) = false := by simp; omega
            have h3'' : ((ps.length : Int) != 3) = true := by simp; omega
            have r0 := (blk_cell HI.out.res 0).trans rfl; have r1' := (blk_cell HI.out.res 1).trans rfl; have r2' := (blk_cell HI.out.res 2).trans rfl; have r3' := (blk_cell HI.out.res 3).trans rfl
            have f0 := blk_frozen HI.out.res 0; have f1 := blk_frozen HI.out.res 1; have f2 := blk_frozen HI.out.res 2; have f3 := blk_frozen HI.out.res 3
            go_wp2
            have hbad : ((List.drop 4 (wordsB 32 a0)).all fun x => (wordsB 44 x).length == 3) = false := by
              rw [HW.out, Bool.eq_false_iff, ne_eq, List.all_eq_true]
              intro hall
              have := hall y (by rw [← HY2.out]; exact mem_drop4 ws m (by omega))
              rw [hps] at this
              exact h3 (by simpa using this)
            have h := H.out
            rw [if_pos hbad] at h
            simp only [Option.some.injEq, Prod.mk.injEq] at h
            obtain ⟨rfl, rfl, rfl, rfl, rfl⟩ := h
            refine bodyPost_ret (results_ct rfl _ _ w.heap.size 25 #[.int .i64 0, .int .i64 0, .slice none 0 0, .slice none 0 0] (0, 0) _ rfl (put4 HI.out.res _ _ _ _) Tryd.underlying25 rfl (by kernel_rfl)) rfl ?_
            exact ⟨_, _, rfl, Kd.R_nil _ _ _ _ _, Kd.R_nil _ _ _ _ _, below4 HI.out.below (Nat.le_refl _) _ _ _ _⟩
        · obtain rfl : m = ws.length - 4 := by omega
          rw [List.take_of_length_le (by simp)] at hP hall
          have h := H.out
          rw [HW.out, if_neg (by rw [hall]; simp), HX1.out, HX2.out, HX3.out] at h
          generalize List.map edgeOf (List.drop 4 ws) = ES at hP h
          generalize dirsOf x3.data.toList = DS at hP h
          have HP := Aside0.mk hP
          clear hP hall
          obtain ⟨⟨t, e⟩, hf, h⟩ := Option.bind_eq_some_iff.mp h
          have HF := Lib.hid hf
          have HR := Lib.hid h
          clear h hf
          obtain ⟨A2, c2, rfl⟩ := Kd.R_slice HP.out.dsR
          obtain ⟨A3, c3, rfl⟩ := Kd.R_slice HP.out.psR
          have g0 := (blk_cell HP.out.fld 0).trans rfl; have g1 := (blk_cell HP.out.fld 1).trans rfl; have g2 := (blk_cell HP.out.fld 2).trans rfl; have g3 := (blk_cell HP.out.fld 3).trans rfl
          go_wp2_with fail
          refine (flow_Format.calls k _ _ A2 c2 _ A3 c3 _ t e _ (Kd.R_reads' HP.out.dsR).2.2 (Kd.R_reads' HP.out.dsR).2.1 (Kd.R_reads' HP.out.psR).2.2 (Kd.R_reads' HP.out.psR).2.1 HF.out).mono ?_
          rintro e1 w8 ⟨rfl, hb⟩
          have HI := Aside0.mk (HP.out.grows hb)
          clear hb g0 g1 g2 g3 HF HP
          obtain ⟨OK, hOK⟩ : ∃ OK, (numOk x1 && numOk x2 && (ws.drop 4).all okOf) = OK := ⟨_, rfl⟩
          rw [hOK] at HI
          have HR' := HR.out
          rw [hOK] at HR'
          have HR := Lib.hid HR'
          clear hOK HR'
          have gok := (blk_cell HI.out.okb 0).trans rfl
          have g0 := (blk_cell HI.out.fld 0).trans rfl; have g1 := (blk_cell HI.out.fld 1).trans rfl; have g2 := (blk_cell HI.out.fld 2).trans rfl; have g3 := (blk_cell HI.out.fld 3).trans rfl
          have r0 := (blk_cell HI.out.res 0).trans rfl; have r1' := (blk_cell HI.out.res 1).trans rfl; have r2' := (blk_cell HI.out.res 2).trans rfl; have r3' := (blk_cell HI.out.res 3).trans rfl
          have f0 := blk_frozen HI.out.res 0; have f1 := blk_frozen HI.out.res 1; have f2 := blk_frozen HI.out.res 2; have f3 := blk_frozen HI.out.res 3
          cases OK with
          | false =>
            go_wp2
            have h := HR.out
            rw [if_neg (by simp)] at h
            simp only [Option.some.injEq, Prod.mk.injEq] at h
            obtain ⟨rfl, rfl, rfl, rfl, rfl⟩ := h
            refine bodyPost_ret (results_ct rfl _ _ w.heap.size 25 #[.int .i64 0, .int .i64 0, .slice none 0 0, .slice none 0 0] (0, 0) _ rfl (put4 HI.out.res _ _ _ _) Tryd.underlying25 rfl (by kernel_rfl)) rfl ?_
            exact ⟨_, _, rfl, Kd.R_nil _ _ _ _ _, Kd.R_nil _ _ _ _ _, below4 HI.out.below (Nat.le_refl _) _ _ _ _⟩
          | true =>
            have h := HR.out
            clear HR
            by_cases he : e = 0
            · subst he
              by_cases ht : t = a0
              · subst ht
                rw [if_pos ⟨rfl, rfl, rfl⟩] at h
                simp only [Option.some.injEq, Prod.mk.injEq] at h
                obtain ⟨rfl, rfl, rfl, rfl, rfl⟩ := h
                go_wp2
                refine bodyPost_ret (results_ct rfl _ _ w.heap.size 25 #[.int .i64 (numV x1), .int .i64 (numV x2), .slice A2 DS.length c2, .slice A3 ES.length c3] (0, 0) _ rfl (put4 HI.out.res _ _ _ _) Tryd.underlying25 rfl (by kernel_rfl)) rfl ?_
                exact ⟨_, _, rfl, R_4 HI.out.dsR (by omega) (by omega) _ _ _ _, R_4 HI.out.psR (by omega) (by omega) _ _ _ _, below4 HI.out.below (Nat.le_refl _) _ _ _ _⟩
              · rw [if_neg (fun c => ht c.2.2)] at h
                simp only [Option.some.injEq, Prod.mk.injEq] at h
                obtain ⟨rfl, rfl, rfl, rfl, rfl⟩ := h
                have htl : t.toList ≠ a0.toList := fun c => ht (bytesInj (by rw [← ByteArray.toList_eq, c, ByteArray.toList_eq]))
                have hb0 : (t.toList == a0.toList) = false := beq_eq_false_iff_ne.mpr htl
                have hb1 : (t.toList != a0.toList) = true := bne_iff_ne.mpr htl
                clear htl ht
                go_wp2
                refine bodyPost_ret (results_ct rfl _ _ w.heap.size 25 #[.int .i64 0, .int .i64 0, .slice none 0 0, .slice none 0 0] (0, 0) _ rfl (put4 HI.out.res _ _ _ _) Tryd.underlying25 rfl (by kernel_rfl)) rfl ?_
                exact ⟨_, _, rfl, Kd.R_nil _ _ _ _ _, Kd.R_nil _ _ _ _ _, below4 HI.out.below (Nat.le_refl _) _ _ _ _⟩
            · rw [if_neg (fun c => he c.2.1)] at h
              simp only [Option.some.injEq, Prod.mk.injEq] at h
              obtain ⟨rfl, rfl, rfl, rfl, rfl⟩ := h
              have hb0 : (e == 0) = false := beq_eq_false_iff_ne.mpr he
              have hb1 : (e != 0) = true := bne_iff_ne.mpr he
              clear he
              go_wp2
              refine bodyPost_ret (results_ct rfl _ _ w.heap.size 25 #[.int .i64 0, .int .i64 0, .slice none 0 0, .slice none 0 0] (0, 0) _ rfl (put4 HI.out.res _ _ _ _) Tryd.underlying25 rfl (by kernel_rfl)) rfl ?_
              exact ⟨_, _, rfl, Kd.R_nil _ _ _ _ _, Kd.R_nil _ _ _ _ _, below4 HI.out.below (Nat.le_refl _) _ _ _ _⟩
end Go.Proofs.YtfpikmeiooangaaDoor.PFlowTexts
