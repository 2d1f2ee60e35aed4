/-
  The law ModularSmall gives true. Made by program. Conditions: none.
-/
import Derived.Test.YtgkjdfojogemhaaWsk
import Derived.Test.YtgkjdfojogemhaaSan
set_option maxRecDepth 100000
set_option maxHeartbeats 20000000
set_option linter.unusedSimpArgs false
set_option linter.unusedVariables false
namespace Go.Proofs.Ytgkjdfojogemhaa.W
open Go.Am
theorem l_small {V : Int} {k : Nat} (hV1 : -32768 ≤ V) (hV2 : V ≤ 32767) (hk2 : k ≤ 255) : Gets Try.cx 9 [intA .i16 V, intA .u8 (k : Int)] (boolA true) := by
  refine gets_of (fn := Try.f9) (by kernel_rfl) rfl ?_
  show EvK _ _ _ ⟨[intA .i16 V, intA .u8 (k : Int)] ++ us 128, ⟨[], 0⟩⟩ _
  refine ev_seq ?_
  refine ev_reg (by kernel_rfl) ?_
  refine rs_alu [(4, No)] (fun cf => by kernel_rfl) ?_
  refine ev_seq ?_
  refine ev_reg (by kernel_rfl) ?_
  refine rs_cp 10 [] false (some 12) (Yes) (by kernel_rfl) (g_sanity) (by kernel_rfl) ?_
  refine rs_alu [(5, Yes)] (fun cf => by kernel_rfl) ?_
  refine ev_seq ?_
  refine ev_seq ?_
  refine ev_reg (by kernel_rfl) ?_
  refine rs_alu [(13, Yes), (14, No)] (fun cf => by kernel_rfl) ?_
  refine ev_false (by kernel_rfl) ?_
  refine ev_skip ?_
  refine ev_seq ?_
  refine ev_reg (by kernel_rfl) ?_
  refine rs_up 2 [(15, intA .u8 (k : Int)), (16, J (IntKind.wrap .i64 (k : Int)))] (fun cf => by kernel_rfl) ?_
  rw [wrapIn (n := k) (by omega)]
  refine rs_alu [(6, J (k : Int))] (fun cf => by kernel_rfl) ?_
  refine ev_seq ?_
  refine ev_reg (by kernel_rfl) ?_
  refine rs_up 2 [(18, intA .i16 V), (19, J (IntKind.wrap .i64 V))] (fun cf => by kernel_rfl) ?_
  rw [wrapI (n := V) (by omega) (by omega)]
  obtain ⟨⟨s301, x301⟩, ⟨l301, I301⟩, g301⟩ := g_of (n := V) (by omega) (by omega)
  have hl301 : l301.length ≤ 1 := iv_len I301 (by omega)
  refine rs_cp 27 [J V] false (some 20) (.ag [boolA s301, .d x301]) (by kernel_rfl) (g301) (by kernel_rfl) ?_
  refine rs_up 1 [(21, J (k : Int))] (fun cf => by kernel_rfl) ?_
  obtain ⟨⟨s302, x302⟩, ⟨l302, I302⟩, g302⟩ := g_of (n := (k : Int)) (by omega) (by omega)
  have hl302 : l302.length ≤ 1 := iv_len I302 (by omega)
  refine rs_cp 27 [J (k : Int)] false (some 22) (.ag [boolA s302, .d x302]) (by kernel_rfl) (g302) (by kernel_rfl) ?_
  rcases Nat.eq_zero_or_pos k with hk0 | hk0
  ·
    obtain ⟨res, hP, gR⟩ := p_rebuild0 I301 I302 (by omega) hk0
    have hP : res = ((false, nilD), (false, nilD), false) := hP
    subst hP
    have hno : ∀ (d : Nat) (n : Int), 1 ≤ d → ((2 * d * d : Nat) : Int) ≤ (k : Int) - 1 → ¬ Hit V k d n := fun d n h1 h2 => absurd (d_ge h2 h1) (by omega)
    have hcnt : cntO V k 11 1 = 0 := cntO_zero hno 11 1 (by omega)
    have hok : ∀ (d : Nat) (n : Int), 1 ≤ d → ((2 * d * d : Nat) : Int) ≤ (k : Int) - 1 → Hit V k d n → false = true ∧ (∃ l, Iv n false nilD l) ∧ (∃ l, Iv (d : Int) false nilD l) := fun d n h1 h2 h3 => absurd h3 (hno d n h1 h2)
    refine rs_cp 33 [.ag [boolA s301, .d x301], .ag [boolA s302, .d x302]] false (some 23) (.tu [.ag [No, .d (.v (.slice none 0 0)), No, .d (.v (.slice none 0 0))], No]) (by kernel_rfl) (gR) (by kernel_rfl) ?_
    refine rs_alm [(7, .ptr 0 0 0), (8, No), (17, .tu [.ag [No, .d (.v (.slice none 0 0)), No, .d (.v (.slice none 0 0))], No]), (24, .ag [No, .d (.v (.slice none 0 0)), No, .d (.v (.slice none 0 0))]), (25, No)] ⟨[.row [No, .d (.v (.slice none 0 0)), No, .d (.v (.slice none 0 0))] 0 .ow none], 1⟩ (fun cf => by kernel_rfl) ?_
    refine ev_seq ?_
    refine ev_reg (by kernel_rfl) ?_
    refine rs_all (s1 := ⟨[intA .i16 V, intA .u8 (k : Int), U, U, No, Yes, J (k : Int), .ptr 0 0 0, No, J 0, U, U, Yes, Yes, No, intA .u8 (k : Int), J (k : Int), .tu [.ag [No, .d (.v (.slice none 0 0)), No, .d (.v (.slice none 0 0))], No], intA .i16 V, J V, .ag [boolA s301, .d x301], J (k : Int), .ag [boolA s302, .d x302], .tu [.ag [No, .d (.v (.slice none 0 0)), No, .d (.v (.slice none 0 0))], No], .ag [No, .d (.v (.slice none 0 0)), No, .d (.v (.slice none 0 0))], No] ++ us 104, ⟨[.row [No, .d (.v (.slice none 0 0)), No, .d (.v (.slice none 0 0))] 0 .ow none], 1⟩⟩) (fun cf => by kernel_rfl) ?_
    refine ev_seq ?_
    refine ev_seq ?_
    refine ev_reg (by kernel_rfl) ?_
    refine rs_all (s1 := ⟨[intA .i16 V, intA .u8 (k : Int), U, U, No, Yes, J (k : Int), .ptr 0 0 0, No, J 0, J 1, U, Yes, Yes, No, intA .u8 (k : Int), J (k : Int), .tu [.ag [No, .d (.v (.slice none 0 0)), No, .d (.v (.slice none 0 0))], No], intA .i16 V, J V, .ag [boolA s301, .d x301], J (k : Int), .ag [boolA s302, .d x302], .tu [.ag [No, .d (.v (.slice none 0 0)), No, .d (.v (.slice none 0 0))], No], .ag [No, .d (.v (.slice none 0 0)), No, .d (.v (.slice none 0 0))], No] ++ us 104, ⟨[.row [No, .d (.v (.slice none 0 0)), No, .d (.v (.slice none 0 0))] 0 .ow none], 1⟩⟩) (fun cf => by kernel_rfl) ?_
    refine ev_block ?_
    refine smout_loop _ _ _ _ _ _ _ _ _ _ _ _ _ _ _ hV1 hV2 hk2 hok 11 1 0 _ _ _ _ _ _ _ _ _ _ _ _ _ _ _ _ _ _ _ _ _ _ _ _ _ _ _ _ _ _ _ _ _ _ _ _ _ _ _ _ _ _ _ _ _ _ _ _ _ _ _ _ _ _ _ _ _ _ _ _ _ _ _ _ _ _ _ _ _ _ _ _ _ _ _ _ _ _ _ (by omega) (by omega) (by omega) fun e v11 v26 v27 v28 v29 v30 v31 v32 v33 v34 v35 v36 v37 v38 v39 v40 v41 v42 v43 v44 v45 v46 v47 v48 v49 v50 v51 v52 v53 v54 v55 v56 v57 v58 v59 v60 v61 v62 v63 v64 v65 v66 v67 v68 v69 v70 v71 v72 v73 v74 v75 v76 v77 v78 v79 v80 v81 v82 v83 v84 v85 v86 v87 v88 v89 v90 v91 v92 v93 v94 v95 v96 v97 v98 v99 v100 v101 v102 v103 => ?_
    rw [hcnt]
    refine ev_seq ?_
    refine ev_reg (by kernel_rfl) ?_
    refine rs_all (s1 := ⟨[intA .i16 V, intA .u8 (k : Int), U, U, Yes, Yes, J (k : Int), .ptr 0 0 0, No, J 0, J (e : Int), v11, Yes, Yes, No, intA .u8 (k : Int), J (k : Int), .tu [.ag [No, .d (.v (.slice none 0 0)), No, .d (.v (.slice none 0 0))], No], intA .i16 V, J V, .ag [boolA s301, .d x301], J (k : Int), .ag [boolA s302, .d x302], .tu [.ag [No, .d (.v (.slice none 0 0)), No, .d (.v (.slice none 0 0))], No], .ag [No, .d (.v (.slice none 0 0)), No, .d (.v (.slice none 0 0))], No, v26, v27, v28, v29, v30, v31, v32, v33, v34, v35, v36, v37, v38, v39, v40, v41, v42, v43, v44, v45, v46, v47, v48, v49, v50, v51, v52, v53, v54, v55, v56, v57, v58, v59, v60, v61, v62, v63, v64, v65, v66, v67, v68, v69, v70, v71, v72, v73, v74, v75, v76, v77, v78, v79, v80, v81, v82, v83, v84, v85, v86, v87, v88, v89, v90, v91, v92, v93, v94, v95, v96, v97, v98, v99, v100, v101, v102, v103, No, J 0, No, Yes, Yes, J 0, Yes, Yes, Yes, No, No, .ptr 0 0 0, .ptr 0 0 1, .d (.v (.slice none 0 0)), J 0, .ptr 0 0 2, .ptr 0 0 3, .d (.v (.slice none 0 0)), J 0, J 0, Yes, Yes, Yes, Yes, Yes, Yes], ⟨[.row [No, .d (.v (.slice none 0 0)), No, .d (.v (.slice none 0 0))] 0 .ow none], 1⟩⟩) (fun cf => by kernel_rfl) ?_
    refine ev_ret ?_
    refine leaf (r0 := Yes) (r1 := Yes) (.inr rfl) (by kernel_rfl) (by kernel_rfl) ?_
    rfl
  ·
    obtain ⟨⟨⟨sB, xB⟩, ⟨sT, xT⟩, i⟩, ⟨R, hR1, hR2, E, hE, B, T, hBT, hP⟩, gR⟩ := p_rebuild I301 I302 (by omega) hk0 hk2
    obtain ⟨hs, hf⟩ := small_law hk0 hk2 hR1 hR2 hE hBT
    rcases hP with ⟨hc, hi, ⟨lB, IB⟩, ⟨lT, IT⟩⟩ | ⟨hc, hi⟩
    ·
      have hi : i = true := hi
      subst hi
      obtain ⟨t, hTt, ht1, ht2, hB1, hB2, hHit, huq⟩ := hs hc
      subst hTt
      have hcnt : cntO V k 11 1 = 1 := by rw [cntO_uniq ht1 ht2 hB1 hB2 hHit huq 11 1 (by omega), if_pos ⟨ht1, by have := d_le ht2 hk2; omega⟩]
      have hok : ∀ (d : Nat) (n : Int), 1 ≤ d → ((2 * d * d : Nat) : Int) ≤ (k : Int) - 1 → Hit V k d n → true = true ∧ (∃ l, Iv n sB xB l) ∧ (∃ l, Iv (d : Int) sT xT l) := fun d n h1 h2 h3 => by
        obtain ⟨e1, e2⟩ := huq d n h1 h2 h3
        subst e1 e2
        exact ⟨rfl, ⟨lB, IB⟩, ⟨lT, IT⟩⟩
      refine rs_cp 33 [.ag [boolA s301, .d x301], .ag [boolA s302, .d x302]] false (some 23) (.tu [.ag [boolA sB, .d xB, boolA sT, .d xT], Yes]) (by kernel_rfl) (gR) (by kernel_rfl) ?_
      refine rs_upm 4 [(7, .ptr 0 0 0), (17, .tu [.ag [boolA sB, .d xB, boolA sT, .d xT], Yes]), (24, .ag [boolA sB, .d xB, boolA sT, .d xT]), (25, Yes)] ⟨[.row [No, .d (.v (.slice none 0 0)), No, .d (.v (.slice none 0 0))] 0 .ow none], 1⟩ (fun cf => by kernel_rfl) ?_
      refine rs_cu (fun m9 => storeA Try.cx 36 m9 (.ptr 0 0 0) (.ag [boolA sB, .d xB, boolA sT, .d xT])) none ⟨[.row [boolA sB, .d xB, boolA sT, .d xT] 0 .ow none], 1⟩ (fun cf => by kernel_rfl) (store_rat IB.1 IT.1 rfl) ?_
      refine rs_alu [(8, Yes)] (fun cf => by kernel_rfl) ?_
      refine ev_seq ?_
      refine ev_reg (by kernel_rfl) ?_
      refine rs_all (s1 := ⟨[intA .i16 V, intA .u8 (k : Int), U, U, No, Yes, J (k : Int), .ptr 0 0 0, Yes, J 0, U, U, Yes, Yes, No, intA .u8 (k : Int), J (k : Int), .tu [.ag [boolA sB, .d xB, boolA sT, .d xT], Yes], intA .i16 V, J V, .ag [boolA s301, .d x301], J (k : Int), .ag [boolA s302, .d x302], .tu [.ag [boolA sB, .d xB, boolA sT, .d xT], Yes], .ag [boolA sB, .d xB, boolA sT, .d xT], Yes] ++ us 104, ⟨[.row [boolA sB, .d xB, boolA sT, .d xT] 0 .ow none], 1⟩⟩) (fun cf => by kernel_rfl) ?_
      refine ev_seq ?_
      refine ev_seq ?_
      refine ev_reg (by kernel_rfl) ?_
      refine rs_all (s1 := ⟨[intA .i16 V, intA .u8 (k : Int), U, U, No, Yes, J (k : Int), .ptr 0 0 0, Yes, J 0, J 1, U, Yes, Yes, No, intA .u8 (k : Int), J (k : Int), .tu [.ag [boolA sB, .d xB, boolA sT, .d xT], Yes], intA .i16 V, J V, .ag [boolA s301, .d x301], J (k : Int), .ag [boolA s302, .d x302], .tu [.ag [boolA sB, .d xB, boolA sT, .d xT], Yes], .ag [boolA sB, .d xB, boolA sT, .d xT], Yes] ++ us 104, ⟨[.row [boolA sB, .d xB, boolA sT, .d xT] 0 .ow none], 1⟩⟩) (fun cf => by kernel_rfl) ?_
      refine ev_block ?_
      refine smout_loop _ _ _ _ _ _ _ _ _ _ _ _ _ _ _ hV1 hV2 hk2 hok 11 1 0 _ _ _ _ _ _ _ _ _ _ _ _ _ _ _ _ _ _ _ _ _ _ _ _ _ _ _ _ _ _ _ _ _ _ _ _ _ _ _ _ _ _ _ _ _ _ _ _ _ _ _ _ _ _ _ _ _ _ _ _ _ _ _ _ _ _ _ _ _ _ _ _ _ _ _ _ _ _ _ (by omega) (by omega) (by omega) fun e v11 v26 v27 v28 v29 v30 v31 v32 v33 v34 v35 v36 v37 v38 v39 v40 v41 v42 v43 v44 v45 v46 v47 v48 v49 v50 v51 v52 v53 v54 v55 v56 v57 v58 v59 v60 v61 v62 v63 v64 v65 v66 v67 v68 v69 v70 v71 v72 v73 v74 v75 v76 v77 v78 v79 v80 v81 v82 v83 v84 v85 v86 v87 v88 v89 v90 v91 v92 v93 v94 v95 v96 v97 v98 v99 v100 v101 v102 v103 => ?_
      rw [hcnt]
      refine ev_seq ?_
      refine ev_reg (by kernel_rfl) ?_
      refine rs_all (s1 := ⟨[intA .i16 V, intA .u8 (k : Int), U, U, Yes, Yes, J (k : Int), .ptr 0 0 0, Yes, J 1, J (e : Int), v11, Yes, Yes, No, intA .u8 (k : Int), J (k : Int), .tu [.ag [boolA sB, .d xB, boolA sT, .d xT], Yes], intA .i16 V, J V, .ag [boolA s301, .d x301], J (k : Int), .ag [boolA s302, .d x302], .tu [.ag [boolA sB, .d xB, boolA sT, .d xT], Yes], .ag [boolA sB, .d xB, boolA sT, .d xT], Yes, v26, v27, v28, v29, v30, v31, v32, v33, v34, v35, v36, v37, v38, v39, v40, v41, v42, v43, v44, v45, v46, v47, v48, v49, v50, v51, v52, v53, v54, v55, v56, v57, v58, v59, v60, v61, v62, v63, v64, v65, v66, v67, v68, v69, v70, v71, v72, v73, v74, v75, v76, v77, v78, v79, v80, v81, v82, v83, v84, v85, v86, v87, v88, v89, v90, v91, v92, v93, v94, v95, v96, v97, v98, v99, v100, v101, v102, v103, Yes, J 1, Yes, Yes, Yes, J 1, Yes, Yes, Yes, Yes, Yes] ++ us 10 ++ [Yes, Yes, Yes, Yes, Yes], ⟨[.row [boolA sB, .d xB, boolA sT, .d xT] 0 .ow none], 1⟩⟩) (fun cf => by kernel_rfl) ?_
      refine ev_ret ?_
      refine leaf (r0 := Yes) (r1 := Yes) (.inr rfl) (by kernel_rfl) (by kernel_rfl) ?_
      rfl
    ·
      have hno := hf hc
      simp only [Prod.mk.injEq] at hi
      obtain ⟨⟨rfl, rfl⟩, ⟨rfl, rfl⟩, rfl⟩ := hi
      have hcnt : cntO V k 11 1 = 0 := cntO_zero hno 11 1 (by omega)
      have hok : ∀ (d : Nat) (n : Int), 1 ≤ d → ((2 * d * d : Nat) : Int) ≤ (k : Int) - 1 → Hit V k d n → false = true ∧ (∃ l, Iv n false nilD l) ∧ (∃ l, Iv (d : Int) false nilD l) := fun d n h1 h2 h3 => absurd h3 (hno d n h1 h2)
      refine rs_cp 33 [.ag [boolA s301, .d x301], .ag [boolA s302, .d x302]] false (some 23) (.tu [.ag [No, .d (.v (.slice none 0 0)), No, .d (.v (.slice none 0 0))], No]) (by kernel_rfl) (gR) (by kernel_rfl) ?_
      refine rs_alm [(7, .ptr 0 0 0), (8, No), (17, .tu [.ag [No, .d (.v (.slice none 0 0)), No, .d (.v (.slice none 0 0))], No]), (24, .ag [No, .d (.v (.slice none 0 0)), No, .d (.v (.slice none 0 0))]), (25, No)] ⟨[.row [No, .d (.v (.slice none 0 0)), No, .d (.v (.slice none 0 0))] 0 .ow none], 1⟩ (fun cf => by kernel_rfl) ?_
      refine ev_seq ?_
      refine ev_reg (by kernel_rfl) ?_
      refine rs_all (s1 := ⟨[intA .i16 V, intA .u8 (k : Int), U, U, No, Yes, J (k : Int), .ptr 0 0 0, No, J 0, U, U, Yes, Yes, No, intA .u8 (k : Int), J (k : Int), .tu [.ag [No, .d (.v (.slice none 0 0)), No, .d (.v (.slice none 0 0))], No], intA .i16 V, J V, .ag [boolA s301, .d x301], J (k : Int), .ag [boolA s302, .d x302], .tu [.ag [No, .d (.v (.slice none 0 0)), No, .d (.v (.slice none 0 0))], No], .ag [No, .d (.v (.slice none 0 0)), No, .d (.v (.slice none 0 0))], No] ++ us 104, ⟨[.row [No, .d (.v (.slice none 0 0)), No, .d (.v (.slice none 0 0))] 0 .ow none], 1⟩⟩) (fun cf => by kernel_rfl) ?_
      refine ev_seq ?_
      refine ev_seq ?_
      refine ev_reg (by kernel_rfl) ?_
      refine rs_all (s1 := ⟨[intA .i16 V, intA .u8 (k : Int), U, U, No, Yes, J (k : Int), .ptr 0 0 0, No, J 0, J 1, U, Yes, Yes, No, intA .u8 (k : Int), J (k : Int), .tu [.ag [No, .d (.v (.slice none 0 0)), No, .d (.v (.slice none 0 0))], No], intA .i16 V, J V, .ag [boolA s301, .d x301], J (k : Int), .ag [boolA s302, .d x302], .tu [.ag [No, .d (.v (.slice none 0 0)), No, .d (.v (.slice none 0 0))], No], .ag [No, .d (.v (.slice none 0 0)), No, .d (.v (.slice none 0 0))], No] ++ us 104, ⟨[.row [No, .d (.v (.slice none 0 0)), No, .d (.v (.slice none 0 0))] 0 .ow none], 1⟩⟩) (fun cf => by kernel_rfl) ?_
      refine ev_block ?_
      refine smout_loop _ _ _ _ _ _ _ _ _ _ _ _ _ _ _ hV1 hV2 hk2 hok 11 1 0 _ _ _ _ _ _ _ _ _ _ _ _ _ _ _ _ _ _ _ _ _ _ _ _ _ _ _ _ _ _ _ _ _ _ _ _ _ _ _ _ _ _ _ _ _ _ _ _ _ _ _ _ _ _ _ _ _ _ _ _ _ _ _ _ _ _ _ _ _ _ _ _ _ _ _ _ _ _ _ (by omega) (by omega) (by omega) fun e v11 v26 v27 v28 v29 v30 v31 v32 v33 v34 v35 v36 v37 v38 v39 v40 v41 v42 v43 v44 v45 v46 v47 v48 v49 v50 v51 v52 v53 v54 v55 v56 v57 v58 v59 v60 v61 v62 v63 v64 v65 v66 v67 v68 v69 v70 v71 v72 v73 v74 v75 v76 v77 v78 v79 v80 v81 v82 v83 v84 v85 v86 v87 v88 v89 v90 v91 v92 v93 v94 v95 v96 v97 v98 v99 v100 v101 v102 v103 => ?_
      rw [hcnt]
      refine ev_seq ?_
      refine ev_reg (by kernel_rfl) ?_
      refine rs_all (s1 := ⟨[intA .i16 V, intA .u8 (k : Int), U, U, Yes, Yes, J (k : Int), .ptr 0 0 0, No, J 0, J (e : Int), v11, Yes, Yes, No, intA .u8 (k : Int), J (k : Int), .tu [.ag [No, .d (.v (.slice none 0 0)), No, .d (.v (.slice none 0 0))], No], intA .i16 V, J V, .ag [boolA s301, .d x301], J (k : Int), .ag [boolA s302, .d x302], .tu [.ag [No, .d (.v (.slice none 0 0)), No, .d (.v (.slice none 0 0))], No], .ag [No, .d (.v (.slice none 0 0)), No, .d (.v (.slice none 0 0))], No, v26, v27, v28, v29, v30, v31, v32, v33, v34, v35, v36, v37, v38, v39, v40, v41, v42, v43, v44, v45, v46, v47, v48, v49, v50, v51, v52, v53, v54, v55, v56, v57, v58, v59, v60, v61, v62, v63, v64, v65, v66, v67, v68, v69, v70, v71, v72, v73, v74, v75, v76, v77, v78, v79, v80, v81, v82, v83, v84, v85, v86, v87, v88, v89, v90, v91, v92, v93, v94, v95, v96, v97, v98, v99, v100, v101, v102, v103, No, J 0, No, Yes, Yes, J 0, Yes, Yes, Yes, No, No, .ptr 0 0 0, .ptr 0 0 1, .d (.v (.slice none 0 0)), J 0, .ptr 0 0 2, .ptr 0 0 3, .d (.v (.slice none 0 0)), J 0, J 0, Yes, Yes, Yes, Yes, Yes, Yes], ⟨[.row [No, .d (.v (.slice none 0 0)), No, .d (.v (.slice none 0 0))] 0 .ow none], 1⟩⟩) (fun cf => by kernel_rfl) ?_
      refine ev_ret ?_
      refine leaf (r0 := Yes) (r1 := Yes) (.inr rfl) (by kernel_rfl) (by kernel_rfl) ?_
      rfl
end Go.Proofs.Ytgkjdfojogemhaa.W
