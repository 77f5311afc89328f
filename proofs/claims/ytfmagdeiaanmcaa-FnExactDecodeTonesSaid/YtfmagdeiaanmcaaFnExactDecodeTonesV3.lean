/- The tones' law of decoding: both decoders answer alike. -/
import Derived.Test.YtfmagdeiaanmcaaFnExactDecodeTonesV2
import Derived.Test.YtfmagdeiaanmcaaProg
import Derived.KernelRfl
set_option linter.unusedVariables false
set_option linter.unusedSimpArgs false
namespace Go.Proofs.V
open Go
def MG : List Int := [84, 79, 78, 49]
def rowN (b : List Int) : Nat := (bV b 56 12 + 15) / 16 + 1
def decE (b : List Int) : Int × S_Tones :=
  if 60000 < b.length then (1, zeroT') else
  if magE b 0 MG ≠ 0 then (magE b 0 MG, zeroT') else
  if b.length < 9 then (2, zeroT') else
  if bV b 68 4 ≠ 0 ∨ bV b 32 20 < 1 ∨ 1000000 < bV b 32 20 ∨ 4000 < bV b 56 12 then (5, zeroT') else
  match rowsE b (rowN b) 72 with
  | .error e => (e, zeroT')
  | .ok (x, p) =>
    if fillN b p ((8 - p % 8) % 8) then (if (p + (8 - p % 8) % 8) / 8 < b.length then (8, zeroT') else (0, S_Tones.mk (bV b 32 20 : Nat) (bV b 52 4 : Nat) (bV b 56 12 : Nat) x.1 x.2)) else (4, zeroT')

theorem bV20 (b : List Int) (p k : Nat) (hk : k ≤ 20) : bV b p k < 2 ^ k ∧ 2 ^ k ≤ 1048576 := ⟨bV_lt b p k, Nat.pow_le_pow_right (by decide) hk⟩

theorem c1 (e : Int) : m_impl_DecodeTonesC1 e = some (e, zeroT') := rfl

theorem impl_dec (b : List Int) (hx : ∀ x ∈ b, 0 ≤ x ∧ x ≤ 255) (hlen : b.length ≤ 9223372036854775807) : m_impl_DecodeTones b = some (decE b) := by
  unfold m_impl_DecodeTones m_impl_DecodeTones_0 decE
  simp only [decide_eq_true_eq, c1, Option.bind_some]
  by_cases h0 : 60000 < b.length
  · rw [if_pos h0, if_pos (by omega)]
  have hb : ByteL b := ⟨by omega, hx⟩
  have hl := hb.1
  rw [if_neg h0, if_neg (by omega)]
  have hm : m_impl_zmagic b (ByteArray.mk #[84, 79, 78, 49]) = some (magE b 0 MG) := z_mag b hl
  rw [hm]
  simp only [Option.bind_some]
  by_cases h1 : magE b 0 MG = 0
  · rw [if_neg (c := (magE b 0 MG != 0) = true) (by simp [h1]), if_neg (c := magE b 0 MG ≠ 0) (by simp [h1])]
    by_cases h2 : b.length < 9
    · rw [if_pos h2, if_pos (by omega)]
    · rw [if_neg h2, if_neg (by omega)]
      have t1 : m_impl_ztake_take ⟨b, 32, false⟩ 20 = _ := z_take hb 32 20 false (by omega) (by omega) (by omega)
      have t2 : m_impl_ztake_take ⟨b, ((52 : Nat) : Int), false⟩ 4 = _ := z_take hb 52 4 false (by omega) (by omega) (by omega)
      have t3 : m_impl_ztake_take ⟨b, ((56 : Nat) : Int), false⟩ 12 = _ := z_take hb 56 12 false (by omega) (by omega) (by omega)
      have t4 : m_impl_ztake_take ⟨b, ((68 : Nat) : Int), false⟩ 4 = _ := z_take hb 68 4 false (by omega) (by omega) (by omega)
      have v1 := bV20 b 32 20 (by omega)
      have v2 := bV20 b 52 4 (by omega)
      have v3 := bV20 b 56 12 (by omega)
      rw [t1]
      simp only [Option.bind_some]
      rw [t2]
      simp only [Option.bind_some]
      rw [t3]
      simp only [Option.bind_some]
      rw [t4]
      simp only [Option.bind_some, w64_id (x := ((bV b 32 20 : Nat) : Int)) (by omega) (by omega), w64_id (x := ((bV b 52 4 : Nat) : Int)) (by omega) (by omega), w64_id (x := ((bV b 56 12 : Nat) : Int)) (by omega) (by omega)]
      have hN : w64 (w64 (Int.tdiv (w64 (((bV b 56 12 : Nat) : Int) + 15)) 16) + 1) = (rowN b : Int) := by
        rw [w64_id (x := _ + 15) (by omega) (by omega), Int.tdiv_eq_ediv_of_nonneg (by omega), w64_id (x := _ / 16) (by omega) (by omega), w64_id (by omega) (by omega)]
        unfold rowN
        omega
      have bad : ∀ x a c d, m_impl_DecodeTones_32 b x true a c d = some (5, zeroT') := fun _ _ _ _ => rfl
      by_cases h3 : bV b 68 4 ≠ 0 ∨ bV b 32 20 < 1 ∨ 1000000 < bV b 32 20 ∨ 4000 < bV b 56 12
      · rw [if_pos h3]
        by_cases g1 : bV b 68 4 = 0
        · rw [if_neg (by simpa using g1)]
          by_cases g2 : bV b 32 20 < 1
          · rw [if_pos (by omega), bad]
          · rw [if_neg (by omega)]
            by_cases g3 : 1000000 < bV b 32 20
            · rw [if_pos (by omega), bad]
            · rw [if_neg (by omega), decide_eq_true (by omega), bad]
        · rw [if_pos (by simpa using g1), bad]
      · rw [if_neg h3, if_neg (by simp; omega), if_neg (by omega), if_neg (by omega), decide_eq_false (by omega)]
        unfold m_impl_DecodeTones_32
        rw [if_neg (by decide), hN]
        have hN2 : rowN b ≤ 1000 := by unfold rowN; omega
        have kr := z_rows hb (rowN b) hN2 ((bV b 32 20 : Nat) : Int) ((bV b 52 4 : Nat) : Int) ((bV b 56 12 : Nat) : Int) b (rowN b) 72 0 [] [] (by omega) rfl rfl (by omega)
        have kr' : loopM (lp_impl_DecodeTones_42 b ((bV b 32 20 : Nat) : Int) ((bV b 52 4 : Nat) : Int) ((bV b 56 12 : Nat) : Int)) ((rowN b : Int), 0, b, ((68 + 4 : Nat) : Int), false, [], []) = _ := kr
        simp only
        rw [kr']
        cases h4 : rowsE b (rowN b) 72 with
        | error e => rfl
        | ok x =>
          obtain ⟨x, p⟩ := x
          have hp := (rowsE_le h4 (by omega)).1
          simp only [Option.bind_some, List.nil_append, m_impl_DecodeTones_161, z_fill hb false p hp, c1]
          cases h5 : fillN b p ((8 - p % 8) % 8) with
          | false => rfl
          | true =>
            simp only [if_true, decide_eq_true_eq]
            rw [div8d (by omega)]
            by_cases h6 : (p + (8 - p % 8) % 8) / 8 < b.length
            · rw [if_pos h6, if_pos (by omega)]
            · rw [if_neg h6, if_neg (by omega)]
  · rw [if_pos (c := (magE b 0 MG != 0) = true) (by simp [h1]), if_pos (c := magE b 0 MG ≠ 0) h1]

theorem s_fill {b : List Int} (hb : ByteL b) (p : Nat) (hp : p ≤ 8 * b.length) : ∃ p' : Nat, m_spec_l10R_fill ⟨b, p, 0⟩ = some (S_l10R.mk b (p' : Int) (if fillN b p ((8 - p % 8) % 8) then 0 else 4)) ∧ (fillN b p ((8 - p % 8) % 8) = true → p' = p + (8 - p % 8) % 8) := by
  obtain ⟨p', h1, h2⟩ := s_fill_loop hb ((8 - p % 8) % 8) p hp rfl
  refine ⟨p', ?_, h2⟩
  unfold m_spec_l10R_fill m_spec_l10R_fill_0
  simp only [h1, Option.bind_some]
theorem s_fill_e (b : List Int) (p e : Int) (he : e ≠ 0) : m_spec_l10R_fill ⟨b, p, e⟩ = some ⟨b, p, e⟩ := by
  unfold m_spec_l10R_fill m_spec_l10R_fill_0
  rw [loopM_eq]
  simp only [lp_spec_l10R_fill_2, m_spec_l10R_fill_2]
  rw [if_neg (c := (e == 0) = true) (by simpa using he), ite_self]
  rfl

theorem spec_dec (b : List Int) (hx : ∀ x ∈ b, 0 ≤ x ∧ x ≤ 255) (hlen : b.length ≤ 9223372036854775807) : m_spec_DecodeTones b = some (decE b) := by
  unfold m_spec_DecodeTones m_spec_DecodeTones_0 decE
  simp only [decide_eq_true_eq]
  by_cases h0 : 60000 < b.length
  · rw [if_pos h0, if_pos (by omega)]; rfl
  have hb : ByteL b := ⟨by omega, hx⟩
  have hl := hb.1
  rw [if_neg h0, if_neg (by omega)]
  obtain ⟨p', hm, hp', h32⟩ := s_mark hb
  rw [hm]
  simp only [Option.bind_some]
  -- an error that stands
  have err30 : ∀ (x2 x3 x4 : Int × S_l10R) (p e : Int), e ≠ 0 → m_spec_DecodeTones_30 b x2 x3 x4 b p e = some (e, zeroT') := by
    intro x2 x3 x4 p e he
    unfold m_spec_DecodeTones_30
    rw [if_pos (by simpa using he)]
    rfl
  have err27 : ∀ (x5 x2 x3 x4 : Int × S_l10R), x5.2.err ≠ 0 → x5.2.data = b → m_spec_DecodeTones_27 b x5 x2 x3 x4 false = some (x5.2.err, zeroT') := by
    intro x5 x2 x3 x4 he hd
    unfold m_spec_DecodeTones_27
    rw [if_neg (by decide), hd]
    exact err30 _ _ _ _ _ he
  by_cases h1 : magE b 0 MG = 0
  · rw [if_neg (by simpa using h1)]
    have h32 := h32 h1
    subst h32
    rw [show magE b 0 [84, 79, 78, 49] = 0 from h1]
    have t1 : m_spec_l10R_take ⟨b, ((32 : Nat) : Int), 0⟩ 20 = _ := s_take hb 32 20 0 hp' (by omega)
    rw [t1]
    have sk : ∀ (q k : Nat) (e : Int), q ≤ 8 * b.length → k ≤ 20 → e ≠ 0 → m_spec_l10R_take ⟨b, q, e⟩ k = some (0, S_l10R.mk b q e) := fun q k e h1 h2 h3 => by rw [s_take hb q k e h1 h2, if_neg h3]
    have v1 := bV20 b 32 20 (by omega)
    have v2 := bV20 b 52 4 (by omega)
    have v3 := bV20 b 56 12 (by omega)
    have sk4 : ∀ (q : Nat), q ≤ 8 * b.length → m_spec_l10R_take ⟨b, q, 2⟩ 4 = some (0, S_l10R.mk b q 2) := fun q h => sk q 4 2 h (by omega) (by decide)
    have sk12 : ∀ (q : Nat), q ≤ 8 * b.length → m_spec_l10R_take ⟨b, q, 2⟩ 12 = some (0, S_l10R.mk b q 2) := fun q h => sk q 12 2 h (by omega) (by decide)
    by_cases h2 : b.length < 9
    · rw [if_pos h2]
      by_cases q1 : 32 + 20 ≤ 8 * b.length
      · rw [if_pos rfl, if_pos q1]
        simp only [Option.bind_some]
        have t2 : m_spec_l10R_take ⟨b, ((52 : Nat) : Int), 0⟩ 4 = _ := s_take hb 52 4 0 q1 (by omega)
        rw [t2]
        by_cases q2 : 52 + 4 ≤ 8 * b.length
        · rw [if_pos rfl, if_pos q2]
          simp only [Option.bind_some]
          have t3 : m_spec_l10R_take ⟨b, ((56 : Nat) : Int), 0⟩ 12 = _ := s_take hb 56 12 0 q2 (by omega)
          rw [t3]
          by_cases q3 : 56 + 12 ≤ 8 * b.length
          · omega
          · rw [if_pos rfl, if_neg q3]
            simp only [Option.bind_some]
            rw [sk4 56 q2]
            simp only [Option.bind_some]
            rw [if_neg (by decide), err27 _ _ _ _ (by simp) rfl]
        · rw [if_pos rfl, if_neg q2]
          simp only [Option.bind_some]
          rw [sk12 52 q1]
          simp only [Option.bind_some]
          rw [sk4 52 q1]
          simp only [Option.bind_some]
          rw [if_neg (by decide), err27 _ _ _ _ (by simp) rfl]
      · rw [if_pos rfl, if_neg q1]
        simp only [Option.bind_some]
        rw [sk4 32 hp']
        simp only [Option.bind_some]
        rw [sk12 32 hp']
        simp only [Option.bind_some]
        rw [sk4 32 hp']
        simp only [Option.bind_some]
        rw [if_neg (by decide), err27 _ _ _ _ (by simp) rfl]
    · rw [if_neg h2]
      have t2 : m_spec_l10R_take ⟨b, ((52 : Nat) : Int), 0⟩ 4 = _ := s_take hb 52 4 0 (by omega) (by omega)
      have t3 : m_spec_l10R_take ⟨b, ((56 : Nat) : Int), 0⟩ 12 = _ := s_take hb 56 12 0 (by omega) (by omega)
      have t4 : m_spec_l10R_take ⟨b, ((68 : Nat) : Int), 0⟩ 4 = _ := s_take hb 68 4 0 (by omega) (by omega)
      rw [if_pos rfl, if_pos (by omega)]
      simp only [Option.bind_some]
      rw [t2, if_pos rfl, if_pos (by omega)]
      simp only [Option.bind_some]
      rw [t3, if_pos rfl, if_pos (by omega)]
      simp only [Option.bind_some]
      rw [t4, if_pos rfl, if_pos (by omega)]
      simp only [Option.bind_some]
      rw [if_pos (c := ((0 : Int) == 0) = true) rfl]
      have bad : ∀ (x2 x3 x4 : Int × S_l10R), m_spec_DecodeTones_27 b (((bV b 68 4 : Nat) : Int), S_l10R.mk b ((68 + 4 : Nat) : Int) 0) x2 x3 x4 true = some (5, zeroT') := by
        intro x2 x3 x4
        unfold m_spec_DecodeTones_27
        rw [if_pos rfl, s_fail]
        simp only [Option.bind_some, stand, if_true]
        exact err30 _ _ _ _ 5 (by decide)
      have hh : m_spec_l11Head ((bV b 32 20 : Nat) : Int) ((bV b 52 4 : Nat) : Int) ((bV b 56 12 : Nat) : Int) = some (decide (1 ≤ bV b 32 20 ∧ bV b 32 20 ≤ 1000000 ∧ bV b 56 12 ≤ 4000)) := by
        unfold m_spec_l11Head m_spec_l11Head_0
        simp only [decide_eq_true_eq]
        by_cases g2 : 1 ≤ bV b 32 20
        · rw [if_pos (by omega)]
          by_cases g3 : bV b 32 20 ≤ 1000000
          · rw [if_pos (by omega), if_pos (by omega), if_pos (by omega), if_pos (by omega)]
            congr 1
            rw [decide_eq_decide]
            omega
          · rw [if_neg (by omega), decide_eq_false (by omega)]
        · rw [if_neg (by omega), decide_eq_false (by omega)]
      by_cases h3 : bV b 68 4 ≠ 0 ∨ bV b 32 20 < 1 ∨ 1000000 < bV b 32 20 ∨ 4000 < bV b 56 12
      · rw [if_pos h3]
        by_cases g1 : bV b 68 4 = 0
        · rw [if_neg (by simpa using g1), hh, decide_eq_false (by omega)]
          simp only [Option.bind_some]
          exact bad _ _ _
        · rw [if_pos (by simpa using g1), bad]
      · rw [if_neg h3, if_neg (by simp; omega), hh, decide_eq_true (by omega)]
        simp only [Option.bind_some, Bool.not_true]
        unfold m_spec_DecodeTones_27 m_spec_DecodeTones_30
        rw [if_neg (by decide)]
        simp only
        rw [if_neg (by decide)]
        have hN : m_spec_l11Slots ((bV b 56 12 : Nat) : Int) = some (rowN b : Int) := by
          unfold m_spec_l11Slots m_spec_l11Slots_0
          rw [w64_id (x := _ + 15) (by omega) (by omega), Int.tdiv_eq_ediv_of_nonneg (by omega), w64_id (x := _ / 16) (by omega) (by omega), w64_id (by omega) (by omega)]
          unfold rowN
          congr 1
        have hN2 : rowN b ≤ 1000 := by unfold rowN; omega
        have kr := s_rows hb (rowN b) hN2 b (((bV b 32 20 : Nat) : Int), S_l10R.mk b ((32 + 20 : Nat) : Int) 0) (((bV b 52 4 : Nat) : Int), S_l10R.mk b ((52 + 4 : Nat) : Int) 0) (((bV b 56 12 : Nat) : Int), S_l10R.mk b ((56 + 12 : Nat) : Int) 0) hN (rowN b) 72 0 [] [] (by omega) rfl rfl (by omega)
        cases h4 : rowsE b (rowN b) 72 with
        | error e =>
          rw [h4] at kr
          obtain ⟨he, q, m3, m4, k1, k2⟩ := kr
          rw [show loopM _ ((0 : Int), b, ((68 + 4 : Nat) : Int), (0 : Int), ([] : List (List Int)), ([] : List (List Int))) = _ from k2]
          simp only [Option.bind_some, m_spec_DecodeTones_105, s_fill_e b q e he]
          rw [if_neg (by simpa using he)]
          unfold m_spec_DecodeTones_110 m_spec_DecodeTones_113
          rw [if_neg (by decide), if_pos (by simpa using he)]
          rfl
        | ok x =>
          obtain ⟨x, p⟩ := x
          rw [h4] at kr
          simp only at kr
          have hp := (rowsE_le h4 (by omega)).1
          rw [show loopM _ ((0 : Int), b, ((68 + 4 : Nat) : Int), (0 : Int), ([] : List (List Int)), ([] : List (List Int))) = _ from kr]
          simp only [Option.bind_some, List.nil_append, m_spec_DecodeTones_105]
          obtain ⟨p2, f1, f2⟩ := s_fill hb p hp
          rw [f1]
          simp only [Option.bind_some]
          cases h5 : fillN b p ((8 - p % 8) % 8) with
          | false =>
            simp only [Bool.false_eq_true, if_false]
            unfold m_spec_DecodeTones_110 m_spec_DecodeTones_113
            rw [if_neg (by decide), if_neg (by decide), if_pos (by rfl)]
            rfl
          | true =>
            have f2 := f2 h5
            subst f2
            simp only [if_true]
            rw [if_pos (c := ((0 : Int) == 0) = true) rfl]
            have e8 : w64 (8 * (b.length : Int)) = ((8 * b.length : Nat) : Int) := by rw [w64_id (by omega) (by omega)]; omega
            rw [e8]
            unfold m_spec_DecodeTones_110 m_spec_DecodeTones_113
            by_cases h6 : (p + (8 - p % 8) % 8) / 8 < b.length
            · rw [if_pos h6, if_pos (decide_eq_true (by omega)), s_fail]
              simp only [Option.bind_some, stand, if_true]
              rfl
            · rw [if_neg h6, if_neg (by rw [decide_eq_true_eq]; omega), if_neg (by simp)]
  · rw [if_pos (by simpa using h1)]
    have he : magE b 0 [84, 79, 78, 49] ≠ 0 := h1
    have sk : ∀ (k : Nat), k ≤ 20 → m_spec_l10R_take ⟨b, p', magE b 0 [84, 79, 78, 49]⟩ k = some (0, S_l10R.mk b p' (magE b 0 [84, 79, 78, 49])) := fun k hk => by rw [s_take hb p' k _ hp' hk, if_neg he]
    rw [show m_spec_l10R_take ⟨b, p', magE b 0 [84, 79, 78, 49]⟩ 20 = _ from sk 20 (by omega)]
    simp only [Option.bind_some]
    rw [show m_spec_l10R_take ⟨b, p', magE b 0 [84, 79, 78, 49]⟩ 4 = _ from sk 4 (by omega)]
    simp only [Option.bind_some]
    rw [show m_spec_l10R_take ⟨b, p', magE b 0 [84, 79, 78, 49]⟩ 12 = _ from sk 12 (by omega)]
    simp only [Option.bind_some]
    rw [show m_spec_l10R_take ⟨b, p', magE b 0 [84, 79, 78, 49]⟩ 4 = _ from sk 4 (by omega)]
    simp only [Option.bind_some]
    rw [if_neg (by simpa using he), err27 _ _ _ _ he rfl]
    rfl
end Go.Proofs.V

/- printed by a program: what the helpers of a law answer -/
set_option linter.unusedSimpArgs false
set_option linter.unusedVariables false
set_option maxRecDepth 100000
namespace Go.Proofs.V
open Go
theorem to_ByteS (x : (List Int)) (hx : x.length ≤ 1048576) : m_laws_toByteS x = some x := by
  have hl : x.length ≤ 1048576 := hx
  simp only [m_laws_toByteS, m_laws_toByteS_0, m_laws_toByteS_19]
  rw [ck_eq (by omega)]
  simp only [Option.bind_some]
  suffices key : ∀ z, loopM (lp_laws_toByteS_9 x) (0, List.replicate (Int.toNat (x.length : Int)) z) = some x by
    rw [key]
    rfl
  intro z
  refine to_list (l := x) (fun i out hi ho => ?_) (fun out => ?_) z
  · simp only [lp_laws_toByteS_9, m_laws_toByteS_9]
    rw [if_pos (by simp <;> omega), rd_eq hi]
    simp only [Option.bind_some]
    rw [rd_eq (by omega)]
    simp only [Option.bind_some]
    rw [w64_succ (by omega)]
  · simp only [lp_laws_toByteS_9, m_laws_toByteS_9]
    rw [if_neg (by simp)]

theorem eq_IntS (x : (List Int)) (hx : x.length ≤ 1048576) : m_laws_eqIntS x x = some true := by
  have hl : x.length ≤ 1048576 := hx
  simp only [m_laws_eqIntS, m_laws_eqIntS_0, m_laws_eqIntS_31]
  rw [if_neg (by simp)]
  suffices key : loopM (lp_laws_eqIntS_15 x x) 0 = some (.inr ()) by
    rw [key]
    rfl
  refine eq_list (n := x.length) (fun i hi => ?_) ?_
  · simp only [lp_laws_eqIntS_15, m_laws_eqIntS_15]
    rw [if_pos (by simp <;> omega), rd_eq hi]
    simp only [Option.bind_some]
    rw [if_neg (by simp), w64_succ (by omega)]
  · simp only [lp_laws_eqIntS_15, m_laws_eqIntS_15]
    rw [if_neg (by simp)]

theorem eq_IntSS (x : (List (List Int))) (hx : (x.length ≤ 1048576 ∧ ∀ y0 ∈ x, y0.length ≤ 1048576)) : m_laws_eqIntSS x x = some true := by
  have hl : x.length ≤ 1048576 := hx.1
  simp only [m_laws_eqIntSS, m_laws_eqIntSS_0, m_laws_eqIntSS_31]
  rw [if_neg (by simp)]
  suffices key : loopM (lp_laws_eqIntSS_15 x x) 0 = some (.inr ()) by
    rw [key]
    rfl
  refine eq_list (n := x.length) (fun i hi => ?_) ?_
  · simp only [lp_laws_eqIntSS_15, m_laws_eqIntSS_15]
    rw [if_pos (by simp <;> omega), rd_eq hi]
    simp only [Option.bind_some]
    rw [eq_IntS x[i] (hx.2 _ (List.getElem_mem hi))]
    simp only [Option.bind_some, if_true]
    rw [w64_succ (by omega)]
  · simp only [lp_laws_eqIntSS_15, m_laws_eqIntSS_15]
    rw [if_neg (by simp)]

def Sm_S_Tones (x : S_Tones) : Prop := (x.slots.length ≤ 1048576 ∧ ∀ y0 ∈ x.slots, y0.length ≤ 1048576) ∧ (x.grades.length ≤ 1048576 ∧ ∀ y0 ∈ x.grades, y0.length ≤ 1048576)
theorem eq_Tones (x : S_Tones) (hx : Sm_S_Tones x) : m_laws_eqTones x x = some true := by
  simp only [m_laws_eqTones, m_laws_eqTones_0]
  rw [if_neg (by simp)]
  rw [if_neg (by simp)]
  rw [if_neg (by simp)]
  rw [eq_IntSS x.slots hx.1]
  simp only [Option.bind_some, if_true]
  rw [eq_IntSS x.grades hx.2]
  simp only [Option.bind_some, if_true]

theorem eq_ByteS (x : (List Int)) (hx : x.length ≤ 1048576) : m_laws_eqByteS x x = some true := by
  have hl : x.length ≤ 1048576 := hx
  simp only [m_laws_eqByteS, m_laws_eqByteS_0, m_laws_eqByteS_31]
  rw [if_neg (by simp)]
  suffices key : loopM (lp_laws_eqByteS_15 x x) 0 = some (.inr ()) by
    rw [key]
    rfl
  refine eq_list (n := x.length) (fun i hi => ?_) ?_
  · simp only [lp_laws_eqByteS_15, m_laws_eqByteS_15]
    rw [if_pos (by simp <;> omega), rd_eq hi]
    simp only [Option.bind_some]
    rw [if_neg (by simp), w64_succ (by omega)]
  · simp only [lp_laws_eqByteS_15, m_laws_eqByteS_15]
    rw [if_neg (by simp)]

theorem mark_ByteS (x : (List Int)) (k : Nat) (hx : x.length ≤ 1048576) (hk : k + 1048576 ≤ 4611686018427387904) : ∃ (x' : (List Int)) (k' : Nat), m_laws_markByteS x k = some ((k' : Int), x') ∧ x'.length = x.length ∧ k ≤ k' ∧ k' ≤ k + 1048576 := by
  have hl : x.length ≤ 1048576 := hx
  have hlc : x.length * 1 ≤ 1048576 := by omega
  have key := mark_list0 (Sm := fun y => True) 1 (b := lp_laws_markByteS_7) (fun l i k hi hl hk hs => ?_) (fun l k => ?_) x k hl (by omega) (fun _ _ => trivial)
  · obtain ⟨l1, k1, e1, e2, e3, e4⟩ := key
    refine ⟨l1, k1, ?_, e2, e3, by omega⟩
    · simp only [m_laws_markByteS, m_laws_markByteS_0]
      rw [e1]
      rfl
  · refine ⟨(wr .u8 (k : Int)), k + 1, ?_, by omega, by omega⟩
    · simp only [lp_laws_markByteS_7, m_laws_markByteS_7]
      rw [if_pos (by simp <;> omega), rd_eq hi]
      simp only [Option.bind_some]
      rw [w64_succ (by omega), w64_succ (by omega)]
      simp
  · simp only [lp_laws_markByteS_7, m_laws_markByteS_7]
    rw [if_neg (by simp)]

theorem mark_IntS (x : (List Int)) (k : Nat) (hx : x.length ≤ 1048576) (hk : k + 1048576 ≤ 4611686018427387904) : ∃ (x' : (List Int)) (k' : Nat), m_laws_markIntS x k = some ((k' : Int), x') ∧ x'.length = x.length ∧ k ≤ k' ∧ k' ≤ k + 1048576 ∧ m_laws_heldIntS x' k = some (k' : Int) := by
  have hl : x.length ≤ 1048576 := hx
  have hlc : x.length * 1 ≤ 1048576 := by omega
  have key := mark_list (Sm := fun y => True) 1 (b := lp_laws_markIntS_7) (bh := lp_laws_heldIntS_7) (fun l i k hi hl hk hs => ?_) (fun l k => ?_) (fun l k => ?_) x k hl (by omega) (fun _ _ => trivial)
  · obtain ⟨l1, k1, e1, e2, e3, e4, e5⟩ := key
    refine ⟨l1, k1, ?_, e2, e3, by omega, ?_⟩
    · simp only [m_laws_markIntS, m_laws_markIntS_0]
      rw [e1]
      rfl
    · simp only [m_laws_heldIntS, m_laws_heldIntS_0]
      rw [e5]
      rfl
  · refine ⟨(k : Int), k + 1, ?_, by omega, by omega, fun l' h' hl' hx' => ?_⟩
    · simp only [lp_laws_markIntS_7, m_laws_markIntS_7]
      rw [if_pos (by simp <;> omega), rd_eq hi]
      simp only [Option.bind_some]
      rw [w64_succ (by omega), w64_succ (by omega)]
      simp
    · simp only [lp_laws_heldIntS_7, m_laws_heldIntS_7]
      rw [if_pos (by simp <;> omega), rd_eq h', hx']
      simp only [Option.bind_some]
      rw [if_neg (by simp), w64_succ (by omega), w64_succ (by omega)]
  · simp only [lp_laws_markIntS_7, m_laws_markIntS_7]
    rw [if_neg (by simp)]
  · simp only [lp_laws_heldIntS_7, m_laws_heldIntS_7]
    rw [if_neg (by simp)]

theorem mark_IntSS (x : (List (List Int))) (k : Nat) (hx : (x.length ≤ 1048576 ∧ ∀ y0 ∈ x, y0.length ≤ 1048576)) (hk : k + 1099511627776 ≤ 4611686018427387904) : ∃ (x' : (List (List Int))) (k' : Nat), m_laws_markIntSS x k = some ((k' : Int), x') ∧ x'.length = x.length ∧ k ≤ k' ∧ k' ≤ k + 1099511627776 ∧ m_laws_heldIntSS x' k = some (k' : Int) := by
  have hl : x.length ≤ 1048576 := hx.1
  have hlc : x.length * 1048576 ≤ 1099511627776 := by omega
  have key := mark_list (Sm := fun y => y.length ≤ 1048576) 1048576 (b := lp_laws_markIntSS_7) (bh := lp_laws_heldIntSS_7) (fun l i k hi hl hk hs => ?_) (fun l k => ?_) (fun l k => ?_) x k hl (by omega) hx.2
  · obtain ⟨l1, k1, e1, e2, e3, e4, e5⟩ := key
    refine ⟨l1, k1, ?_, e2, e3, by omega, ?_⟩
    · simp only [m_laws_markIntSS, m_laws_markIntSS_0]
      rw [e1]
      rfl
    · simp only [m_laws_heldIntSS, m_laws_heldIntSS_0]
      rw [e5]
      rfl
  · obtain ⟨y, k2, f1, f2, f3, f4, f5⟩ := mark_IntS l[i] k hs (by omega)
    refine ⟨y, k2, ?_, f3, f4, fun l' h' hl' hx' => ?_⟩
    · simp only [lp_laws_markIntSS_7, m_laws_markIntSS_7]
      rw [if_pos (by simp <;> omega), rd_eq hi]
      simp only [Option.bind_some]
      rw [f1]
      simp only [Option.bind_some]
      rw [ck_eq f2]
      simp only [Option.bind_some]
      rw [w64_succ (by omega)]
      simp
    · simp only [lp_laws_heldIntSS_7, m_laws_heldIntSS_7]
      rw [if_pos (by simp <;> omega), rd_eq h', hx']
      simp only [Option.bind_some]
      rw [f5]
      simp only [Option.bind_some]
      rw [if_neg (by simp <;> omega), w64_succ (by omega)]
  · simp only [lp_laws_markIntSS_7, m_laws_markIntSS_7]
    rw [if_neg (by simp)]
  · simp only [lp_laws_heldIntSS_7, m_laws_heldIntSS_7]
    rw [if_neg (by simp)]

theorem mark_Tones (x : S_Tones) (k : Nat) (hx : Sm_S_Tones x) (hk : k + 2199023255552 ≤ 4611686018427387904) : ∃ (l_slots : (List (List Int))) (l_grades : (List (List Int))) (k' : Nat), m_laws_markTones x k = some ((k' : Int), (⟨x.rate, x.quality, x.length, l_slots, l_grades⟩ : S_Tones)) ∧ l_slots.length = x.slots.length ∧ l_grades.length = x.grades.length ∧ k ≤ k' ∧ k' ≤ k + 2199023255552 ∧ m_laws_heldTones ⟨x.rate, x.quality, x.length, l_slots, l_grades⟩ k = some (k' : Int) := by
  obtain ⟨y0, k0, a0, b0, c0, d0, e0⟩ := mark_IntSS x.slots k hx.1 (by omega)
  obtain ⟨y1, k1, a1, b1, c1, d1, e1⟩ := mark_IntSS x.grades k0 hx.2 (by omega)
  refine ⟨y0, y1, k1, ?_, b0, b1, by omega, by omega, ?_⟩
  · simp only [m_laws_markTones, m_laws_markTones_0]
    rw [a0]
    simp only [Option.bind_some]
    rw [ck_eq b0]
    simp only [Option.bind_some]
    rw [a1]
    simp only [Option.bind_some]
    rw [ck_eq b1]
    simp only [Option.bind_some]
    try rfl
  · simp only [m_laws_heldTones, m_laws_heldTones_0]
    rw [e0]
    simp only [Option.bind_some]
    rw [if_neg (by simp <;> omega)]
    rw [e1]
    simp only [Option.bind_some]
    rw [if_neg (by simp <;> omega)]

theorem plain_FnExactDecodeTones (p0 : (List Int)) (hp0 : (p0.length ≤ maxLen ∧ ∀ y0 ∈ p0, inK .u8 y0)) (core : (p0.length ≤ 1048576) → ∃ w : Int × S_Tones, m_spec_DecodeTones p0 = some w ∧ m_impl_DecodeTones p0 = some w ∧ Sm_S_Tones w.2) : m_laws_FnExactDecodeTones p0 = some true := by
  simp only [m_laws_FnExactDecodeTones, m_laws_FnExactDecodeTones_0, decide_eq_true_eq]
  by_cases hl : (p0.length : Int) > 1048576
  · rw [if_pos hl]
  rw [if_neg hl]
  have sm_p0 : p0.length ≤ 1048576 := by omega
  rw [to_ByteS p0 sm_p0]
  simp only [Option.bind_some]
  obtain ⟨w, hsp, him, sm1⟩ := core sm_p0
  rw [hsp]
  simp only [Option.bind_some]
  rw [him]
  simp only [Option.bind_some]
  rw [if_neg (by simp)]
  rw [eq_Tones w.2 sm1]
  simp only [Option.bind_some, if_true]
  rw [eq_ByteS p0 sm_p0]
  simp only [Option.bind_some, if_true]
  obtain ⟨y1, k1, a1, b1, c1x, d1⟩ := mark_ByteS p0 1 sm_p0 (by omega)
  replace a1 : m_laws_markByteS p0 1 = _ := a1
  rw [a1]
  simp only [Option.bind_some]
  rw [ck_eq (by first | assumption | rfl)]
  simp only [Option.bind_some]
  rw [if_neg (by simp <;> omega)]
  obtain ⟨y2_0, y2_1, k2, a2, b2_0, b2_1, c2x, d2, f2⟩ := mark_Tones w.2 1 sm1 (by omega)
  replace a2 : m_laws_markTones w.2 1 = _ := a2
  rw [a2]
  simp only [Option.bind_some]
  replace f2 : m_laws_heldTones _ 1 = _ := f2
  rw [ck_eq (by first | assumption | rfl)]
  simp only [Option.bind_some]
  rw [ck_eq (by first | assumption | rfl)]
  simp only [Option.bind_some]
  rw [f2]
  simp only [Option.bind_some]
  rw [if_neg (by simp <;> omega)]
  rw [if_neg (by simp)]

end Go.Proofs.V

/- The tones' law of decoding, plain. -/
set_option linter.unusedVariables false
namespace Go.Proofs.V
open Go
theorem decE_small (b : List Int) : Sm_S_Tones (decE b).2 := by
  have z : Sm_S_Tones zeroT' := by simp [Sm_S_Tones, zeroT']
  unfold decE
  split
  · exact z
  split
  · exact z
  split
  · exact z
  split
  · exact z
  rename_i h0 h1 h2 h3
  split
  · exact z
  · rename_i x p hx
    have := rowsE_le hx (by omega)
    split
    · split
      · exact z
      · have hr : rowN b ≤ 1000 := by unfold rowN; omega
        refine ⟨⟨?_, fun y hy => ?_⟩, ?_, fun y hy => ?_⟩
        · show x.1.length ≤ 1048576; omega
        · have := this.2.2.2.1 y hy; omega
        · show x.2.length ≤ 1048576; omega
        · have := this.2.2.2.2 y hy; omega
    · exact z
theorem final_FnExactDecodeTones (x : List Int) (w : x.length ≤ maxLen ∧ ∀ y0 ∈ x, inK .u8 y0) : m_laws_FnExactDecodeTones x = some true :=
  plain_FnExactDecodeTones x w fun hs => ⟨decE x, spec_dec x (fun y hy => w.2 y hy) w.1, impl_dec x (fun y hy => w.2 y hy) w.1, decE_small x⟩
end Go.Proofs.V

/- printed by a program: the plain functions, the code and the proofs of one law -/
set_option linter.unusedVariables false
set_option maxRecDepth 100000
namespace Go.Proofs.V
open Go
def c_laws_toByteS_12 : VC :=
  .ite (.s 11) (.skip) (.exit 0)
def c_laws_toByteS_18 : VC :=
  .r 4 [⟨none, [], none, .mv 12 (.s 4)⟩,
    ⟨none, [], none, .bin 13 .add (.s 12) (.k (.int .i64 1))⟩,
    ⟨none, [], none, .mv 4 (.s 13)⟩]
def c_laws_toByteS_15 : VC :=
  .seq (.blk 1 (.r 5 [⟨none, [], none, .mv 14 (.s 3)⟩,
    ⟨none, [], none, .mv 15 (.s 4)⟩,
    ⟨none, [], none, .mv 16 (.s 0)⟩,
    ⟨none, [], none, .mv 17 (.s 4)⟩,
    ⟨none, [], none, .iadr 18 (.s 16) (.s 17) 1⟩,
    ⟨none, [], none, .ld 19 (.s 18) 1 false⟩,
    ⟨none, [], none, .iadr 20 (.s 14) (.s 15) 1⟩,
    ⟨none, [], none, .st (.s 20) (.s 19) 1⟩])) c_laws_toByteS_18
def c_laws_toByteS_9 : VC :=
  .seq (.seq (.r 3 [⟨none, [], none, .mv 8 (.s 4)⟩,
    ⟨none, [], none, .mv 9 (.s 0)⟩,
    ⟨none, [], none, .len 10 (.s 9)⟩,
    ⟨none, [], none, .bin 11 .lss (.s 8) (.s 10)⟩]) c_laws_toByteS_12) c_laws_toByteS_15
def c_laws_toByteS_7 : VC :=
  .blk 0 (.loop [0, 3, 4] c_laws_toByteS_9)
def c_laws_toByteS_19 : VC :=
  .seq (.r 6 [⟨none, [], none, .mv 21 (.s 3)⟩,
    ⟨none, [], none, .mv 2 (.s 21)⟩]) (.ret)
def c_laws_toByteS_4 : VC :=
  .seq (.seq (.r 2 [⟨none, [], none, .mv 4 (.k (.int .i64 0))⟩]) c_laws_toByteS_7) (.kp [3] c_laws_toByteS_19)
def c_laws_toByteS_2 : VC :=
  .seq (.r 1 [⟨none, [], none, .mv 5 (.s 0)⟩,
    ⟨none, [], none, .len 6 (.s 5)⟩,
    ⟨none, [], none, .mk 7 (.s 6) [.sc] [(.int .u8 0)] 140737488355328⟩,
    ⟨none, [], none, .mv 3 (.s 7)⟩]) c_laws_toByteS_4
def c_laws_toByteS_0 : VC :=
  .seq (.r 0 [⟨none, [], none, .nil 2 [.sc]⟩]) c_laws_toByteS_2
def vf_laws_toByteS : VF := { pm := [.ro [.ro [.sc]]], rm := [.v [.own [.sc]]], nslots := 22, res := [2], rc := [], code := .kp [0] c_laws_toByteS_0 }
def c_spec_l1Bit_5 : VC :=
  .ite (.s 7) (.seq (.r 2 [⟨none, [], none, .mv 8 (.s 0)⟩,
    ⟨none, [], none, .mv 9 (.s 1)⟩,
    ⟨none, [], none, .bin 10 .quo (.s 9) (.k (.int .i64 8))⟩,
    ⟨none, [], none, .iadr 11 (.s 8) (.s 10) 1⟩,
    ⟨none, [], none, .ld 12 (.s 11) 1 false⟩,
    ⟨none, [], none, .mv 13 (.s 1)⟩,
    ⟨none, [], none, .bin 14 .rem (.s 13) (.k (.int .i64 8))⟩,
    ⟨none, [], none, .bin 15 .sub (.k (.int .i64 7)) (.s 14)⟩,
    ⟨none, [], none, .conv 16 .u64 (.s 15)⟩,
    ⟨none, [], none, .bin 17 .shr (.s 12) (.s 16)⟩,
    ⟨none, [], none, .conv 18 .u64 (.s 17)⟩,
    ⟨none, [], none, .bin 19 .and (.s 18) (.k (.int .u64 1))⟩,
    ⟨none, [], none, .mv 6 (.s 19)⟩]) (.ret)) (.skip)
def c_spec_l1Bit_10 : VC :=
  .seq (.r 3 [⟨none, [], none, .mv 20 (.s 0)⟩,
    ⟨none, [], none, .mv 21 (.s 1)⟩,
    ⟨none, [], none, .bin 22 .quo (.s 21) (.k (.int .i64 8))⟩,
    ⟨none, [], none, .iadr 23 (.s 20) (.s 22) 1⟩,
    ⟨none, [], none, .ld 24 (.s 23) 1 false⟩,
    ⟨none, [], none, .mv 25 (.s 1)⟩,
    ⟨none, [], none, .bin 26 .rem (.s 25) (.k (.int .i64 8))⟩,
    ⟨none, [], none, .conv 27 .u64 (.s 26)⟩,
    ⟨none, [], none, .bin 28 .shr (.s 24) (.s 27)⟩,
    ⟨none, [], none, .conv 29 .u64 (.s 28)⟩,
    ⟨none, [], none, .bin 30 .and (.s 29) (.k (.int .u64 1))⟩,
    ⟨none, [], none, .mv 6 (.s 30)⟩]) (.ret)
def c_spec_l1Bit_2 : VC :=
  .seq (.seq (.r 1 [⟨none, [], none, .mv 7 (.s 2)⟩]) c_spec_l1Bit_5) c_spec_l1Bit_10
def c_spec_l1Bit_0 : VC :=
  .seq (.r 0 [⟨none, [], none, .mv 6 (.k (.int .u64 0))⟩]) c_spec_l1Bit_2
def vf_spec_l1Bit : VF := { pm := [.ro [.ro [.sc]], .ro [.sc], .ro [.sc]], rm := [.v [.sc]], nslots := 31, res := [6], rc := [], code := .kp [0, 1, 2] c_spec_l1Bit_0 }
def c_spec_l1Take_5 : VC :=
  .ite (.s 37) (.seq (.r 2 [⟨none, [], none, .bld 38 [.k (.bool false), .k (.int .u64 0), .k (.int .i64 0)] []⟩,
    ⟨none, [], none, .st (.s 8) (.s 38) 3⟩]) (.ret)) (.skip)
def c_spec_l1Take_20 : VC :=
  .ite (.s 41) (.skip) (.exit 0)
def c_spec_l1Take_29 : VC :=
  .ite (.s 50) (.r 9 [⟨none, [], none, .mv 51 (.s 9)⟩,
    ⟨none, [], none, .bin 52 .mul (.s 51) (.k (.int .u64 2))⟩,
    ⟨none, [], none, .mv 53 (.s 11)⟩,
    ⟨none, [], none, .bin 54 .add (.s 52) (.s 53)⟩,
    ⟨none, [], none, .mv 9 (.s 54)⟩]) (.r 10 [⟨none, [], none, .mv 55 (.s 9)⟩,
    ⟨none, [], none, .mv 56 (.s 11)⟩,
    ⟨none, [], none, .mv 57 (.s 10)⟩,
    ⟨none, [], none, .conv 58 .u64 (.s 57)⟩,
    ⟨none, [], none, .bin 59 .shl (.s 56) (.s 58)⟩,
    ⟨none, [], none, .bin 60 .or (.s 55) (.s 59)⟩,
    ⟨none, [], none, .mv 9 (.s 60)⟩])
def c_spec_l1Take_27 : VC :=
  .seq (.r 8 [⟨none, [], none, .mv 50 (.s 3)⟩]) c_spec_l1Take_29
def c_spec_l1Take_32 : VC :=
  .r 6 [⟨none, [], none, .mv 42 (.s 10)⟩,
    ⟨none, [], none, .bin 43 .add (.s 42) (.k (.int .i64 1))⟩,
    ⟨none, [], none, .mv 10 (.s 43)⟩]
def c_spec_l1Take_23 : VC :=
  .seq (.blk 1 (.seq (.r 7 [⟨none, [], none, .mv 44 (.s 0)⟩,
    ⟨none, [], none, .mv 45 (.s 1)⟩,
    ⟨none, [], none, .mv 46 (.s 10)⟩,
    ⟨none, [], none, .bin 47 .add (.s 45) (.s 46)⟩,
    ⟨none, [], none, .mv 48 (.s 3)⟩,
    ⟨none, [], none, .call 49 212 [(.s 44), (.s 47), (.s 48)]⟩,
    ⟨none, [], none, .mv 11 (.s 49)⟩]) c_spec_l1Take_27)) c_spec_l1Take_32
def c_spec_l1Take_17 : VC :=
  .seq (.seq (.r 5 [⟨none, [], none, .mv 39 (.s 10)⟩,
    ⟨none, [], none, .mv 40 (.s 2)⟩,
    ⟨none, [], none, .bin 41 .lss (.s 39) (.s 40)⟩]) c_spec_l1Take_20) c_spec_l1Take_23
def c_spec_l1Take_15 : VC :=
  .blk 0 (.loop [0, 1, 2, 3, 8, 9, 10] c_spec_l1Take_17)
def c_spec_l1Take_33 : VC :=
  .seq (.r 11 [⟨none, [], none, .mv 61 (.s 9)⟩,
    ⟨none, [], none, .mv 62 (.s 1)⟩,
    ⟨none, [], none, .mv 63 (.s 2)⟩,
    ⟨none, [], none, .bin 64 .add (.s 62) (.s 63)⟩,
    ⟨none, [], none, .bld 65 [.k (.bool false), .k (.int .u64 0), .k (.int .i64 0)] [(0, 1, (.k (.bool true))), (1, 1, (.s 61)), (2, 1, (.s 64))]⟩,
    ⟨none, [], none, .st (.s 8) (.s 65) 3⟩]) (.ret)
def c_spec_l1Take_12 : VC :=
  .seq (.seq (.r 4 [⟨none, [], none, .mv 10 (.k (.int .i64 0))⟩]) c_spec_l1Take_15) (.kp [1, 2, 8, 9] c_spec_l1Take_33)
def c_spec_l1Take_10 : VC :=
  .seq (.r 3 [⟨none, [], none, .mv 9 (.k (.int .u64 0))⟩]) c_spec_l1Take_12
def c_spec_l1Take_2 : VC :=
  .seq (.seq (.r 1 [⟨none, [], none, .mv 12 (.s 2)⟩,
    ⟨none, [], none, .bin 13 .lss (.s 12) (.k (.int .i64 0))⟩,
    ⟨none, [], none, .mv 14 (.s 13)⟩,
    ⟨none, [], some (14, false), .mv 15 (.s 2)⟩,
    ⟨none, [], some (14, false), .bin 16 .gtr (.s 15) (.k (.int .i64 64))⟩,
    ⟨none, [], none, .pick 17 (.s 14) (.k (.bool true)) (.s 16)⟩,
    ⟨none, [], none, .mv 18 (.s 17)⟩,
    ⟨none, [], some (18, false), .mv 19 (.s 1)⟩,
    ⟨none, [], some (18, false), .bin 20 .lss (.s 19) (.k (.int .i64 0))⟩,
    ⟨none, [], none, .pick 21 (.s 18) (.k (.bool true)) (.s 20)⟩,
    ⟨none, [], none, .mv 22 (.s 21)⟩,
    ⟨none, [], some (22, false), .mv 23 (.s 1)⟩,
    ⟨none, [], some (22, false), .mv 24 (.s 0)⟩,
    ⟨none, [], some (22, false), .len 25 (.s 24)⟩,
    ⟨none, [], some (22, false), .bin 26 .mul (.k (.int .i64 8)) (.s 25)⟩,
    ⟨none, [], some (22, false), .bin 27 .gtr (.s 23) (.s 26)⟩,
    ⟨none, [], none, .pick 28 (.s 22) (.k (.bool true)) (.s 27)⟩,
    ⟨none, [], none, .mv 29 (.s 28)⟩,
    ⟨none, [], some (29, false), .mv 30 (.s 2)⟩,
    ⟨none, [], some (29, false), .mv 31 (.s 0)⟩,
    ⟨none, [], some (29, false), .len 32 (.s 31)⟩,
    ⟨none, [], some (29, false), .bin 33 .mul (.k (.int .i64 8)) (.s 32)⟩,
    ⟨none, [], some (29, false), .mv 34 (.s 1)⟩,
    ⟨none, [], some (29, false), .bin 35 .sub (.s 33) (.s 34)⟩,
    ⟨none, [], some (29, false), .bin 36 .gtr (.s 30) (.s 35)⟩,
    ⟨none, [], none, .pick 37 (.s 29) (.k (.bool true)) (.s 36)⟩]) (.kp [0, 1, 2, 3, 8, 37] c_spec_l1Take_5)) c_spec_l1Take_10
def c_spec_l1Take_0 : VC :=
  .seq (.r 0 [⟨none, [], none, .alloc 8 [.k (.bool false), .k (.int .u64 0), .k (.int .i64 0)]⟩]) c_spec_l1Take_2
def vf_spec_l1Take : VF := { pm := [.ro [.ro [.sc]], .ro [.sc], .ro [.sc], .ro [.sc]], rm := [.v [.sc, .sc, .sc]], nslots := 66, res := [8], rc := [some (3, true)], code := .kp [0, 1, 2, 3] c_spec_l1Take_0 }
def c_spec_l10R_fail_2 : VC :=
  .ite (.s 8) (.r 1 [⟨none, [], none, .mv 9 (.s 0)⟩,
    ⟨none, [], none, .mv 10 (.s 1)⟩,
    ⟨none, [], none, .nck 11 (.s 9)⟩,
    ⟨none, [], none, .fadr 12 (.s 11) 2⟩,
    ⟨none, [], none, .st (.s 12) (.s 10) 1⟩]) (.skip)
def c_spec_l10R_fail_0 : VC :=
  .seq (.r 0 [⟨none, [], none, .mv 4 (.s 0)⟩,
    ⟨none, [], none, .nck 5 (.s 4)⟩,
    ⟨none, [], none, .fadr 6 (.s 5) 2⟩,
    ⟨none, [], none, .ld 7 (.s 6) 1 false⟩,
    ⟨none, [], none, .bin 8 .eql (.s 7) (.k (.int .i64 0))⟩]) c_spec_l10R_fail_2
def vf_spec_l10R_fail : VF := { pm := [.mb [.ro [.sc], .sc, .sc], .ro [.sc]], rm := [], nslots := 13, res := [], rc := [], code := .kp [0, 1] c_spec_l10R_fail_0 }
def c_spec_l10R_take_7 : VC :=
  .ite (.s 18) (.r 3 [⟨none, [], none, .mv 19 (.s 0)⟩,
    ⟨none, [], none, .call 20 84 [(.s 19), (.k (.int .i64 2))]⟩]) (.skip)
def c_spec_l10R_take_13 : VC :=
  .ite (.s 25) (.seq (.r 5 [⟨none, [], none, .mv 4 (.k (.int .i64 0))⟩]) (.ret)) (.skip)
def c_spec_l10R_take_20 : VC :=
  .seq (.r 7 [⟨none, [], none, .fadr 31 (.s 5) 1⟩,
    ⟨none, [], none, .ld 32 (.s 31) 1 false⟩,
    ⟨none, [], none, .conv 33 .i64 (.s 32)⟩,
    ⟨none, [], none, .mv 4 (.s 33)⟩]) (.ret)
def c_spec_l10R_take_18 : VC :=
  .seq (.r 6 [⟨none, [], none, .mv 26 (.s 0)⟩,
    ⟨none, [], none, .fadr 27 (.s 5) 2⟩,
    ⟨none, [], none, .ld 28 (.s 27) 1 false⟩,
    ⟨none, [], none, .nck 29 (.s 26)⟩,
    ⟨none, [], none, .fadr 30 (.s 29) 1⟩,
    ⟨none, [], none, .st (.s 30) (.s 28) 1⟩]) c_spec_l10R_take_20
def c_spec_l10R_take_10 : VC :=
  .seq (.seq (.r 4 [⟨none, [], none, .mv 21 (.s 0)⟩,
    ⟨none, [], none, .nck 22 (.s 21)⟩,
    ⟨none, [], none, .fadr 23 (.s 22) 2⟩,
    ⟨none, [], none, .ld 24 (.s 23) 1 false⟩,
    ⟨none, [], none, .bin 25 .neq (.s 24) (.k (.int .i64 0))⟩]) c_spec_l10R_take_13) c_spec_l10R_take_18
def c_spec_l10R_take_4 : VC :=
  .seq (.seq (.r 2 [⟨none, [], none, .fadr 16 (.s 5) 0⟩,
    ⟨none, [], none, .ld 17 (.s 16) 1 false⟩,
    ⟨none, [], none, .un 18 .not (.s 17)⟩]) c_spec_l10R_take_7) (.kp [0, 5] c_spec_l10R_take_10)
def c_spec_l10R_take_2 : VC :=
  .seq (.d 1 [(0, ⟨none, [], none, .mv 6 (.s 0)⟩),
    (1, ⟨none, [], none, .nck 7 (.s 6)⟩),
    (2, ⟨none, [], none, .fadr 8 (.s 7) 0⟩),
    (3, ⟨none, [], none, .ld 9 (.s 8) 1 false⟩),
    (4, ⟨none, [], none, .mv 10 (.s 0)⟩),
    (5, ⟨none, [], none, .nck 11 (.s 10)⟩),
    (6, ⟨none, [], none, .fadr 12 (.s 11) 1⟩),
    (7, ⟨none, [], none, .ld 13 (.s 12) 1 false⟩),
    (8, ⟨none, [], none, .mv 14 (.s 1)⟩),
    (9, ⟨none, [], none, .call 15 160 [(.s 9), (.s 13), (.s 14), (.k (.bool true))]⟩),
    (10, ⟨none, [], none, .alloc 5 [.k (.bool false), .k (.int .u64 0), .k (.int .i64 0)]⟩),
    (11, ⟨none, [], none, .st (.s 5) (.s 15) 3⟩)]) c_spec_l10R_take_4
def c_spec_l10R_take_0 : VC :=
  .seq (.r 0 [⟨none, [], none, .mv 4 (.k (.int .i64 0))⟩]) c_spec_l10R_take_2
def vf_spec_l10R_take : VF := { pm := [.mb [.ro [.sc], .sc, .sc], .ro [.sc]], rm := [.v [.sc]], nslots := 34, res := [4], rc := [], code := .kp [0, 1] c_spec_l10R_take_0 }
def c_spec_l10R_mark_18 : VC :=
  .ite (.s 25) (.r 5 [⟨none, [], none, .mv 26 (.s 0)⟩,
    ⟨none, [], none, .call 27 84 [(.s 26), (.k (.int .i64 4))]⟩]) (.skip)
def c_spec_l10R_mark_16 : VC :=
  .seq (.r 4 [⟨none, [], none, .mv 15 (.s 0)⟩,
    ⟨none, [], none, .nck 16 (.s 15)⟩,
    ⟨none, [], none, .fadr 17 (.s 16) 2⟩,
    ⟨none, [], none, .ld 18 (.s 17) 1 false⟩,
    ⟨none, [], none, .bin 19 .eql (.s 18) (.k (.int .i64 0))⟩,
    ⟨none, [], none, .mv 20 (.s 19)⟩,
    ⟨none, [], some (20, true), .mv 21 (.s 6)⟩,
    ⟨none, [], some (20, true), .mv 22 (.s 5)⟩,
    ⟨none, [], some (20, true), .conv 23 .i64 (.s 22)⟩,
    ⟨none, [], some (20, true), .bin 24 .neq (.s 21) (.s 23)⟩,
    ⟨none, [], none, .pick 25 (.s 20) (.s 24) (.k (.bool false))⟩]) (.kp [0, 7, 8, 9, 25] c_spec_l10R_mark_18)
def c_spec_l10R_mark_14 : VC :=
  .seq (.r 3 [⟨none, [], none, .mv 13 (.s 0)⟩,
    ⟨none, [], none, .call 14 82 [(.s 13), (.k (.int .i64 8))]⟩,
    ⟨none, [], none, .mv 6 (.s 14)⟩]) c_spec_l10R_mark_16
def c_spec_l10R_mark_21 : VC :=
  .r 6 [⟨none, [], none, .bin 28 .add (.s 9) (.k (.int .i64 1))⟩,
    ⟨none, [], none, .mv 9 (.s 28)⟩]
def c_spec_l10R_mark_10 : VC :=
  .seq (.blk 1 (.seq (.r 2 [⟨none, [], none, .iadr 11 (.s 7) (.s 9) 1⟩,
    ⟨none, [], none, .ld 12 (.s 11) 1 false⟩,
    ⟨none, [], none, .mv 5 (.s 12)⟩]) c_spec_l10R_mark_14)) c_spec_l10R_mark_21
def c_spec_l10R_mark_6 : VC :=
  .seq (.ite (.s 10) (.skip) (.exit 0)) c_spec_l10R_mark_10
def c_spec_l10R_mark_4 : VC :=
  .seq (.r 1 [⟨none, [], none, .bin 10 .lss (.s 9) (.s 8)⟩]) c_spec_l10R_mark_6
def c_spec_l10R_mark_2 : VC :=
  .blk 0 (.loop [0, 7, 8, 9] c_spec_l10R_mark_4)
def c_spec_l10R_mark_0 : VC :=
  .seq (.r 0 [⟨none, [], none, .mv 7 (.s 1)⟩,
    ⟨none, [], none, .len 8 (.s 7)⟩,
    ⟨none, [], none, .mv 9 (.k (.int .i64 0))⟩]) c_spec_l10R_mark_2
def vf_spec_l10R_mark : VF := { pm := [.mb [.ro [.sc], .sc, .sc], .ro [.ro [.sc]]], rm := [], nslots := 29, res := [], rc := [], code := .kp [0, 1] c_spec_l10R_mark_0 }
def c_spec_l11Head_2 : VC :=
  .seq (.r 1 [⟨none, [], none, .mv 7 (.s 0)⟩,
    ⟨none, [], none, .bin 8 .geq (.s 7) (.k (.int .i64 1))⟩,
    ⟨none, [], none, .mv 9 (.s 8)⟩,
    ⟨none, [], some (9, true), .mv 10 (.s 0)⟩,
    ⟨none, [], some (9, true), .bin 11 .leq (.s 10) (.k (.int .i64 1000000))⟩,
    ⟨none, [], none, .pick 12 (.s 9) (.s 11) (.k (.bool false))⟩,
    ⟨none, [], none, .mv 13 (.s 12)⟩,
    ⟨none, [], some (13, true), .mv 14 (.s 1)⟩,
    ⟨none, [], some (13, true), .bin 15 .geq (.s 14) (.k (.int .i64 0))⟩,
    ⟨none, [], none, .pick 16 (.s 13) (.s 15) (.k (.bool false))⟩,
    ⟨none, [], none, .mv 17 (.s 16)⟩,
    ⟨none, [], some (17, true), .mv 18 (.s 1)⟩,
    ⟨none, [], some (17, true), .bin 19 .leq (.s 18) (.k (.int .i64 15))⟩,
    ⟨none, [], none, .pick 20 (.s 17) (.s 19) (.k (.bool false))⟩,
    ⟨none, [], none, .mv 21 (.s 20)⟩,
    ⟨none, [], some (21, true), .mv 22 (.s 2)⟩,
    ⟨none, [], some (21, true), .bin 23 .geq (.s 22) (.k (.int .i64 0))⟩,
    ⟨none, [], none, .pick 24 (.s 21) (.s 23) (.k (.bool false))⟩,
    ⟨none, [], none, .mv 25 (.s 24)⟩,
    ⟨none, [], some (25, true), .mv 26 (.s 2)⟩,
    ⟨none, [], some (25, true), .bin 27 .leq (.s 26) (.k (.int .i64 4000))⟩,
    ⟨none, [], none, .pick 28 (.s 25) (.s 27) (.k (.bool false))⟩,
    ⟨none, [], none, .mv 6 (.s 28)⟩]) (.ret)
def c_spec_l11Head_0 : VC :=
  .seq (.r 0 [⟨none, [], none, .mv 6 (.k (.bool false))⟩]) c_spec_l11Head_2
def vf_spec_l11Head : VF := { pm := [.ro [.sc], .ro [.sc], .ro [.sc]], rm := [.v [.sc]], nslots := 29, res := [6], rc := [], code := .kp [0, 1, 2] c_spec_l11Head_0 }
def c_spec_l11Slots_2 : VC :=
  .seq (.r 1 [⟨none, [], none, .mv 3 (.s 0)⟩,
    ⟨none, [], none, .bin 4 .add (.s 3) (.k (.int .i64 15))⟩,
    ⟨none, [], none, .bin 5 .quo (.s 4) (.k (.int .i64 16))⟩,
    ⟨none, [], none, .bin 6 .add (.s 5) (.k (.int .i64 1))⟩,
    ⟨none, [], none, .mv 2 (.s 6)⟩]) (.ret)
def c_spec_l11Slots_0 : VC :=
  .seq (.r 0 [⟨none, [], none, .mv 2 (.k (.int .i64 0))⟩]) c_spec_l11Slots_2
def vf_spec_l11Slots : VF := { pm := [.ro [.sc]], rm := [.v [.sc]], nslots := 7, res := [2], rc := [], code := .kp [0] c_spec_l11Slots_0 }
def c_spec_Unfold_5 : VC :=
  .ite (.s 5) (.seq (.r 2 [⟨none, [], none, .mv 6 (.s 0)⟩,
    ⟨none, [], none, .bin 7 .quo (.s 6) (.k (.int .u64 2))⟩,
    ⟨none, [], none, .conv 8 .i64 (.s 7)⟩,
    ⟨none, [], none, .un 9 .neg (.s 8)⟩,
    ⟨none, [], none, .bin 10 .sub (.s 9) (.k (.int .i64 1))⟩,
    ⟨none, [], none, .mv 2 (.s 10)⟩]) (.ret)) (.skip)
def c_spec_Unfold_10 : VC :=
  .seq (.r 3 [⟨none, [], none, .mv 11 (.s 0)⟩,
    ⟨none, [], none, .bin 12 .quo (.s 11) (.k (.int .u64 2))⟩,
    ⟨none, [], none, .conv 13 .i64 (.s 12)⟩,
    ⟨none, [], none, .mv 2 (.s 13)⟩]) (.ret)
def c_spec_Unfold_2 : VC :=
  .seq (.seq (.r 1 [⟨none, [], none, .mv 3 (.s 0)⟩,
    ⟨none, [], none, .bin 4 .rem (.s 3) (.k (.int .u64 2))⟩,
    ⟨none, [], none, .bin 5 .eql (.s 4) (.k (.int .u64 1))⟩]) c_spec_Unfold_5) c_spec_Unfold_10
def c_spec_Unfold_0 : VC :=
  .seq (.r 0 [⟨none, [], none, .mv 2 (.k (.int .i64 0))⟩]) c_spec_Unfold_2
def vf_spec_Unfold : VF := { pm := [.ro [.sc]], rm := [.v [.sc]], nslots := 14, res := [2], rc := [], code := .kp [0] c_spec_Unfold_0 }
def c_spec_l10R_folded_10 : VC :=
  .ite (.s 17) (.skip) (.exit 0)
def c_spec_l10R_folded_18 : VC :=
  .ite (.s 24) (.r 5 [⟨none, [], none, .mv 25 (.s 0)⟩,
    ⟨none, [], none, .call 26 84 [(.s 25), (.k (.int .i64 5))]⟩]) (.skip)
def c_spec_l10R_folded_16 : VC :=
  .seq (.r 4 [⟨none, [], none, .mv 20 (.s 5)⟩,
    ⟨none, [], none, .mv 21 (.s 1)⟩,
    ⟨none, [], none, .conv 22 .u64 (.s 21)⟩,
    ⟨none, [], none, .bin 23 .shl (.s 20) (.s 22)⟩,
    ⟨none, [], none, .bin 24 .gtr (.s 23) (.k (.int .i64 2097151))⟩]) c_spec_l10R_folded_18
def c_spec_l10R_folded_13 : VC :=
  .blk 1 (.seq (.r 3 [⟨none, [], none, .mv 18 (.s 5)⟩,
    ⟨none, [], none, .bin 19 .add (.s 18) (.k (.int .i64 1))⟩,
    ⟨none, [], none, .mv 5 (.s 19)⟩]) c_spec_l10R_folded_16)
def c_spec_l10R_folded_7 : VC :=
  .seq (.seq (.r 2 [⟨none, [], none, .mv 8 (.s 0)⟩,
    ⟨none, [], none, .nck 9 (.s 8)⟩,
    ⟨none, [], none, .fadr 10 (.s 9) 2⟩,
    ⟨none, [], none, .ld 11 (.s 10) 1 false⟩,
    ⟨none, [], none, .bin 12 .eql (.s 11) (.k (.int .i64 0))⟩,
    ⟨none, [], none, .mv 13 (.s 12)⟩,
    ⟨none, [], some (13, true), .mv 14 (.s 0)⟩,
    ⟨none, [], some (13, true), .call 15 82 [(.s 14), (.k (.int .i64 1))]⟩,
    ⟨none, [], some (13, true), .bin 16 .eql (.s 15) (.k (.int .i64 0))⟩,
    ⟨none, [], none, .pick 17 (.s 13) (.s 16) (.k (.bool false))⟩]) c_spec_l10R_folded_10) c_spec_l10R_folded_13
def c_spec_l10R_folded_28 : VC :=
  .ite (.s 44) (.r 9 [⟨none, [], none, .mv 45 (.s 0)⟩,
    ⟨none, [], none, .call 46 84 [(.s 45), (.k (.int .i64 5))]⟩]) (.skip)
def c_spec_l10R_folded_31 : VC :=
  .seq (.r 10 [⟨none, [], none, .mv 47 (.s 7)⟩,
    ⟨none, [], none, .conv 48 .u64 (.s 47)⟩,
    ⟨none, [], none, .call 49 161 [(.s 48)]⟩,
    ⟨none, [], none, .mv 4 (.s 49)⟩]) (.ret)
def c_spec_l10R_folded_25 : VC :=
  .seq (.seq (.r 8 [⟨none, [], none, .mv 36 (.s 0)⟩,
    ⟨none, [], none, .nck 37 (.s 36)⟩,
    ⟨none, [], none, .fadr 38 (.s 37) 2⟩,
    ⟨none, [], none, .ld 39 (.s 38) 1 false⟩,
    ⟨none, [], none, .bin 40 .eql (.s 39) (.k (.int .i64 0))⟩,
    ⟨none, [], none, .mv 41 (.s 40)⟩,
    ⟨none, [], some (41, true), .mv 42 (.s 7)⟩,
    ⟨none, [], some (41, true), .bin 43 .gtr (.s 42) (.k (.int .i64 2097151))⟩,
    ⟨none, [], none, .pick 44 (.s 41) (.s 43) (.k (.bool false))⟩]) (.kp [0, 7, 44] c_spec_l10R_folded_28)) (.kp [0, 7] c_spec_l10R_folded_31)
def c_spec_l10R_folded_23 : VC :=
  .seq (.r 7 [⟨none, [], none, .mv 30 (.s 5)⟩,
    ⟨none, [], none, .mv 31 (.s 1)⟩,
    ⟨none, [], none, .conv 32 .u64 (.s 31)⟩,
    ⟨none, [], none, .bin 33 .shl (.s 30) (.s 32)⟩,
    ⟨none, [], none, .mv 34 (.s 6)⟩,
    ⟨none, [], none, .bin 35 .or (.s 33) (.s 34)⟩,
    ⟨none, [], none, .mv 7 (.s 35)⟩]) c_spec_l10R_folded_25
def c_spec_l10R_folded_21 : VC :=
  .seq (.r 6 [⟨none, [], none, .mv 27 (.s 0)⟩,
    ⟨none, [], none, .mv 28 (.s 1)⟩,
    ⟨none, [], none, .call 29 82 [(.s 27), (.s 28)]⟩,
    ⟨none, [], none, .mv 6 (.s 29)⟩]) c_spec_l10R_folded_23
def c_spec_l10R_folded_4 : VC :=
  .seq (.blk 0 (.loop [0, 1, 5] c_spec_l10R_folded_7)) (.kp [0, 1, 5] c_spec_l10R_folded_21)
def c_spec_l10R_folded_2 : VC :=
  .seq (.r 1 [⟨none, [], none, .mv 5 (.k (.int .i64 0))⟩]) c_spec_l10R_folded_4
def c_spec_l10R_folded_0 : VC :=
  .seq (.r 0 [⟨none, [], none, .mv 4 (.k (.int .i64 0))⟩]) c_spec_l10R_folded_2
def vf_spec_l10R_folded : VF := { pm := [.mb [.ro [.sc], .sc, .sc], .ro [.sc]], rm := [.v [.sc]], nslots := 50, res := [4], rc := [], code := .kp [0, 1] c_spec_l10R_folded_0 }
def c_spec_l10R_fill_5 : VC :=
  .ite (.s 14) (.skip) (.exit 0)
def c_spec_l10R_fill_11 : VC :=
  .ite (.s 17) (.r 2 [⟨none, [], none, .mv 18 (.s 0)⟩,
    ⟨none, [], none, .call 19 84 [(.s 18), (.k (.int .i64 4))]⟩]) (.skip)
def c_spec_l10R_fill_8 : VC :=
  .blk 1 (.seq (.r 1 [⟨none, [], none, .mv 15 (.s 0)⟩,
    ⟨none, [], none, .call 16 82 [(.s 15), (.k (.int .i64 1))]⟩,
    ⟨none, [], none, .bin 17 .eql (.s 16) (.k (.int .i64 1))⟩]) c_spec_l10R_fill_11)
def c_spec_l10R_fill_2 : VC :=
  .seq (.seq (.r 0 [⟨none, [], none, .mv 2 (.s 0)⟩,
    ⟨none, [], none, .nck 3 (.s 2)⟩,
    ⟨none, [], none, .fadr 4 (.s 3) 1⟩,
    ⟨none, [], none, .ld 5 (.s 4) 1 false⟩,
    ⟨none, [], none, .bin 6 .rem (.s 5) (.k (.int .i64 8))⟩,
    ⟨none, [], none, .bin 7 .neq (.s 6) (.k (.int .i64 0))⟩,
    ⟨none, [], none, .mv 8 (.s 7)⟩,
    ⟨none, [], some (8, true), .mv 9 (.s 0)⟩,
    ⟨none, [], some (8, true), .nck 10 (.s 9)⟩,
    ⟨none, [], some (8, true), .fadr 11 (.s 10) 2⟩,
    ⟨none, [], some (8, true), .ld 12 (.s 11) 1 false⟩,
    ⟨none, [], some (8, true), .bin 13 .eql (.s 12) (.k (.int .i64 0))⟩,
    ⟨none, [], none, .pick 14 (.s 8) (.s 13) (.k (.bool false))⟩]) c_spec_l10R_fill_5) c_spec_l10R_fill_8
def c_spec_l10R_fill_0 : VC :=
  .blk 0 (.loop [0] c_spec_l10R_fill_2)
def vf_spec_l10R_fill : VF := { pm := [.mb [.ro [.sc], .sc, .sc]], rm := [], nslots := 20, res := [], rc := [], code := .kp [0] c_spec_l10R_fill_0 }
def c_spec_DecodeTones_5 : VC :=
  .ite (.s 15) (.seq (.r 2 [⟨none, [], none, .bld 16 [.k (.int .i64 0), .k (.int .i64 0), .k (.int .i64 0), .o [.own [.sc]], .o [.own [.sc]]] []⟩,
    ⟨none, [], none, .mv 2 (.k (.int .i64 1))⟩,
    ⟨none, [], none, .st (.s 3) (.s 16) 5⟩]) (.ret)) (.skip)
def c_spec_DecodeTones_27 : VC :=
  .ite (.s 53) (.r 11 [⟨none, [], none, .mv 54 (.s 4)⟩,
    ⟨none, [], none, .call 55 84 [(.s 54), (.k (.int .i64 5))]⟩]) (.skip)
def c_spec_DecodeTones_33 : VC :=
  .ite (.s 60) (.seq (.r 13 [⟨none, [], none, .mv 61 (.s 4)⟩,
    ⟨none, [], none, .nck 62 (.s 61)⟩,
    ⟨none, [], none, .fadr 63 (.s 62) 2⟩,
    ⟨none, [], none, .ld 64 (.s 63) 1 false⟩,
    ⟨none, [], none, .bld 65 [.k (.int .i64 0), .k (.int .i64 0), .k (.int .i64 0), .o [.own [.sc]], .o [.own [.sc]]] []⟩,
    ⟨none, [], none, .mv 2 (.s 64)⟩,
    ⟨none, [], none, .st (.s 3) (.s 65) 5⟩]) (.ret)) (.skip)
def c_spec_DecodeTones_46 : VC :=
  .ite (.s 77) (.skip) (.exit 0)
def c_spec_DecodeTones_72 : VC :=
  .ite (.s 102) (.r 23 [⟨none, [], none, .mv 103 (.s 4)⟩,
    ⟨none, [], none, .call 104 84 [(.s 103), (.k (.int .i64 5))]⟩]) (.skip)
def c_spec_DecodeTones_70 : VC :=
  .seq (.r 22 [⟨none, [], none, .mv 91 (.s 4)⟩,
    ⟨none, [], none, .nck 92 (.s 91)⟩,
    ⟨none, [], none, .fadr 93 (.s 92) 2⟩,
    ⟨none, [], none, .ld 94 (.s 93) 1 false⟩,
    ⟨none, [], none, .bin 95 .eql (.s 94) (.k (.int .i64 0))⟩,
    ⟨none, [], none, .mv 96 (.s 95)⟩,
    ⟨none, [], some (96, true), .mv 97 (.s 8)⟩,
    ⟨none, [], some (96, true), .mv 98 (.s 9)⟩,
    ⟨none, [], some (96, true), .iadr 99 (.s 97) (.s 98) 1⟩,
    ⟨none, [], some (96, true), .ld 100 (.s 99) 1 false⟩,
    ⟨none, [], some (96, true), .bin 101 .gtr (.s 100) (.k (.int .i64 12))⟩,
    ⟨none, [], none, .pick 102 (.s 96) (.s 101) (.k (.bool false))⟩]) (.kp [0, 3, 4, 5, 7, 8, 82, 83, 102] c_spec_DecodeTones_72)
def c_spec_DecodeTones_68 : VC :=
  .seq (.r 21 [⟨none, [], none, .mv 86 (.s 8)⟩,
    ⟨none, [], none, .mv 87 (.s 9)⟩,
    ⟨none, [], none, .mv 88 (.s 4)⟩,
    ⟨none, [], none, .call 89 82 [(.s 88), (.k (.int .i64 4))]⟩,
    ⟨none, [], none, .iadr 90 (.s 86) (.s 87) 1⟩,
    ⟨none, [], none, .st (.s 90) (.s 89) 1⟩]) c_spec_DecodeTones_70
def c_spec_DecodeTones_75 : VC :=
  .r 24 [⟨none, [], none, .bin 105 .add (.s 83) (.k (.int .i64 1))⟩,
    ⟨none, [], none, .mv 83 (.s 105)⟩]
def c_spec_DecodeTones_64 : VC :=
  .seq (.blk 3 (.seq (.r 20 [⟨none, [], none, .mv 85 (.s 83)⟩,
    ⟨none, [], none, .mv 9 (.s 85)⟩]) c_spec_DecodeTones_68)) c_spec_DecodeTones_75
def c_spec_DecodeTones_60 : VC :=
  .seq (.ite (.s 84) (.skip) (.exit 2)) c_spec_DecodeTones_64
def c_spec_DecodeTones_58 : VC :=
  .seq (.r 19 [⟨none, [], none, .bin 84 .lss (.s 83) (.s 82)⟩]) c_spec_DecodeTones_60
def c_spec_DecodeTones_56 : VC :=
  .blk 2 (.loop [0, 3, 4, 5, 7, 8, 82, 83] c_spec_DecodeTones_58)
def c_spec_DecodeTones_81 : VC :=
  .ite (.s 116) (.r 27 [⟨none, [], none, .mv 117 (.s 4)⟩,
    ⟨none, [], none, .call 118 84 [(.s 117), (.k (.int .i64 5))]⟩]) (.skip)
def c_spec_DecodeTones_94 : VC :=
  .ite (.s 128) (.skip) (.exit 4)
def c_spec_DecodeTones_100 : VC :=
  .r 31 [⟨none, [], none, .mv 129 (.s 12)⟩,
    ⟨none, [], none, .bin 130 .add (.s 129) (.k (.int .i64 1))⟩,
    ⟨none, [], none, .mv 12 (.s 130)⟩]
def c_spec_DecodeTones_97 : VC :=
  .seq (.blk 5 (.r 32 [⟨none, [], none, .mv 131 (.s 11)⟩,
    ⟨none, [], none, .mv 132 (.s 12)⟩,
    ⟨none, [], none, .mv 133 (.s 4)⟩,
    ⟨none, [], none, .mv 134 (.s 10)⟩,
    ⟨none, [], none, .call 135 86 [(.s 133), (.s 134)]⟩,
    ⟨none, [], none, .iadr 136 (.s 131) (.s 132) 1⟩,
    ⟨none, [], none, .st (.s 136) (.s 135) 1⟩])) c_spec_DecodeTones_100
def c_spec_DecodeTones_91 : VC :=
  .seq (.seq (.r 30 [⟨none, [], none, .mv 120 (.s 12)⟩,
    ⟨none, [], none, .bin 121 .lss (.s 120) (.k (.int .i64 16))⟩,
    ⟨none, [], none, .mv 122 (.s 121)⟩,
    ⟨none, [], some (122, true), .mv 123 (.s 4)⟩,
    ⟨none, [], some (122, true), .nck 124 (.s 123)⟩,
    ⟨none, [], some (122, true), .fadr 125 (.s 124) 2⟩,
    ⟨none, [], some (122, true), .ld 126 (.s 125) 1 false⟩,
    ⟨none, [], some (122, true), .bin 127 .eql (.s 126) (.k (.int .i64 0))⟩,
    ⟨none, [], none, .pick 128 (.s 122) (.s 127) (.k (.bool false))⟩]) c_spec_DecodeTones_94) c_spec_DecodeTones_97
def c_spec_DecodeTones_89 : VC :=
  .blk 4 (.loop [0, 3, 4, 5, 7, 8, 10, 11, 12] c_spec_DecodeTones_91)
def c_spec_DecodeTones_103 : VC :=
  .r 34 [⟨none, [], none, .fadr 143 (.s 5) 4⟩,
    ⟨none, [], none, .ld 144 (.s 143) 1 false⟩,
    ⟨none, [], none, .mv 145 (.s 8)⟩,
    ⟨none, [], none, .lits 146 [.own [.sc]] [(.s 145)]⟩,
    ⟨none, [], none, .app 147 (.s 144) (.s 146) [.own [.sc]] 5864062014805⟩,
    ⟨none, [], none, .fadr 148 (.s 5) 4⟩,
    ⟨none, [], none, .st (.s 148) (.s 147) 1⟩]
def c_spec_DecodeTones_101 : VC :=
  .seq (.r 33 [⟨none, [], none, .fadr 137 (.s 5) 3⟩,
    ⟨none, [], none, .ld 138 (.s 137) 1 false⟩,
    ⟨none, [], none, .mv 139 (.s 11)⟩,
    ⟨none, [], none, .lits 140 [.own [.sc]] [(.s 139)]⟩,
    ⟨none, [], none, .app 141 (.s 138) (.s 140) [.own [.sc]] 5864062014805⟩,
    ⟨none, [], none, .fadr 142 (.s 5) 3⟩,
    ⟨none, [], none, .st (.s 142) (.s 141) 1⟩]) c_spec_DecodeTones_103
def c_spec_DecodeTones_86 : VC :=
  .seq (.seq (.r 29 [⟨none, [], none, .mv 12 (.k (.int .i64 0))⟩]) c_spec_DecodeTones_89) (.kp [0, 3, 4, 5, 7, 8, 11] c_spec_DecodeTones_101)
def c_spec_DecodeTones_84 : VC :=
  .seq (.r 28 [⟨none, [], none, .mk 119 (.k (.int .i64 16)) [.sc] [(.int .i64 0)] 17592186044416⟩,
    ⟨none, [], none, .mv 11 (.s 119)⟩]) c_spec_DecodeTones_86
def c_spec_DecodeTones_78 : VC :=
  .seq (.seq (.r 26 [⟨none, [], none, .mv 108 (.s 4)⟩,
    ⟨none, [], none, .nck 109 (.s 108)⟩,
    ⟨none, [], none, .fadr 110 (.s 109) 2⟩,
    ⟨none, [], none, .ld 111 (.s 110) 1 false⟩,
    ⟨none, [], none, .bin 112 .eql (.s 111) (.k (.int .i64 0))⟩,
    ⟨none, [], none, .mv 113 (.s 112)⟩,
    ⟨none, [], some (113, true), .mv 114 (.s 10)⟩,
    ⟨none, [], some (113, true), .bin 115 .gtr (.s 114) (.k (.int .i64 16))⟩,
    ⟨none, [], none, .pick 116 (.s 113) (.s 115) (.k (.bool false))⟩]) (.kp [0, 3, 4, 5, 7, 8, 10, 116] c_spec_DecodeTones_81)) (.kp [0, 3, 4, 5, 7, 8, 10] c_spec_DecodeTones_84)
def c_spec_DecodeTones_76 : VC :=
  .seq (.r 25 [⟨none, [], none, .mv 106 (.s 4)⟩,
    ⟨none, [], none, .call 107 82 [(.s 106), (.k (.int .i64 5))]⟩,
    ⟨none, [], none, .mv 10 (.s 107)⟩]) c_spec_DecodeTones_78
def c_spec_DecodeTones_53 : VC :=
  .seq (.seq (.r 18 [⟨none, [], none, .mv 81 (.s 8)⟩,
    ⟨none, [], none, .len 82 (.s 81)⟩,
    ⟨none, [], none, .mv 83 (.k (.int .i64 0))⟩]) c_spec_DecodeTones_56) (.kp [0, 3, 4, 5, 7, 8] c_spec_DecodeTones_76)
def c_spec_DecodeTones_104 : VC :=
  .r 16 [⟨none, [], none, .mv 78 (.s 7)⟩,
    ⟨none, [], none, .bin 79 .add (.s 78) (.k (.int .i64 1))⟩,
    ⟨none, [], none, .mv 7 (.s 79)⟩]
def c_spec_DecodeTones_49 : VC :=
  .seq (.blk 1 (.seq (.r 17 [⟨none, [], none, .mk 80 (.k (.int .i64 8)) [.sc] [(.int .i64 0)] 17592186044416⟩,
    ⟨none, [], none, .mv 8 (.s 80)⟩]) c_spec_DecodeTones_53)) c_spec_DecodeTones_104
def c_spec_DecodeTones_43 : VC :=
  .seq (.seq (.r 15 [⟨none, [], none, .mv 66 (.s 7)⟩,
    ⟨none, [], none, .fadr 67 (.s 5) 2⟩,
    ⟨none, [], none, .ld 68 (.s 67) 1 false⟩,
    ⟨none, [], none, .call 69 85 [(.s 68)]⟩,
    ⟨none, [], none, .bin 70 .lss (.s 66) (.s 69)⟩,
    ⟨none, [], none, .mv 71 (.s 70)⟩,
    ⟨none, [], some (71, true), .mv 72 (.s 4)⟩,
    ⟨none, [], some (71, true), .nck 73 (.s 72)⟩,
    ⟨none, [], some (71, true), .fadr 74 (.s 73) 2⟩,
    ⟨none, [], some (71, true), .ld 75 (.s 74) 1 false⟩,
    ⟨none, [], some (71, true), .bin 76 .eql (.s 75) (.k (.int .i64 0))⟩,
    ⟨none, [], none, .pick 77 (.s 71) (.s 76) (.k (.bool false))⟩]) c_spec_DecodeTones_46) c_spec_DecodeTones_49
def c_spec_DecodeTones_41 : VC :=
  .blk 0 (.loop [0, 3, 4, 5, 7] c_spec_DecodeTones_43)
def c_spec_DecodeTones_110 : VC :=
  .ite (.s 165) (.r 37 [⟨none, [], none, .mv 166 (.s 4)⟩,
    ⟨none, [], none, .call 167 84 [(.s 166), (.k (.int .i64 8))]⟩]) (.skip)
def c_spec_DecodeTones_116 : VC :=
  .ite (.s 172) (.seq (.r 39 [⟨none, [], none, .mv 173 (.s 4)⟩,
    ⟨none, [], none, .nck 174 (.s 173)⟩,
    ⟨none, [], none, .fadr 175 (.s 174) 2⟩,
    ⟨none, [], none, .ld 176 (.s 175) 1 false⟩,
    ⟨none, [], none, .bld 177 [.k (.int .i64 0), .k (.int .i64 0), .k (.int .i64 0), .o [.own [.sc]], .o [.own [.sc]]] []⟩,
    ⟨none, [], none, .mv 2 (.s 176)⟩,
    ⟨none, [], none, .st (.s 3) (.s 177) 5⟩]) (.ret)) (.skip)
def c_spec_DecodeTones_121 : VC :=
  .seq (.d 40 [(0, ⟨none, [], none, .ld 178 (.s 5) 5 true⟩),
    (1, ⟨none, [], none, .mv 2 (.k (.int .i64 0))⟩),
    (2, ⟨none, [], none, .st (.s 3) (.s 178) 5⟩)]) (.ret)
def c_spec_DecodeTones_113 : VC :=
  .seq (.seq (.r 38 [⟨none, [], none, .mv 168 (.s 4)⟩,
    ⟨none, [], none, .nck 169 (.s 168)⟩,
    ⟨none, [], none, .fadr 170 (.s 169) 2⟩,
    ⟨none, [], none, .ld 171 (.s 170) 1 false⟩,
    ⟨none, [], none, .bin 172 .neq (.s 171) (.k (.int .i64 0))⟩]) c_spec_DecodeTones_116) c_spec_DecodeTones_121
def c_spec_DecodeTones_107 : VC :=
  .seq (.seq (.r 36 [⟨none, [], none, .mv 151 (.s 4)⟩,
    ⟨none, [], none, .nck 152 (.s 151)⟩,
    ⟨none, [], none, .fadr 153 (.s 152) 2⟩,
    ⟨none, [], none, .ld 154 (.s 153) 1 false⟩,
    ⟨none, [], none, .bin 155 .eql (.s 154) (.k (.int .i64 0))⟩,
    ⟨none, [], none, .mv 156 (.s 155)⟩,
    ⟨none, [], some (156, true), .mv 157 (.s 4)⟩,
    ⟨none, [], some (156, true), .nck 158 (.s 157)⟩,
    ⟨none, [], some (156, true), .fadr 159 (.s 158) 1⟩,
    ⟨none, [], some (156, true), .ld 160 (.s 159) 1 false⟩,
    ⟨none, [], some (156, true), .mv 161 (.s 0)⟩,
    ⟨none, [], some (156, true), .len 162 (.s 161)⟩,
    ⟨none, [], some (156, true), .bin 163 .mul (.k (.int .i64 8)) (.s 162)⟩,
    ⟨none, [], some (156, true), .bin 164 .lss (.s 160) (.s 163)⟩,
    ⟨none, [], none, .pick 165 (.s 156) (.s 164) (.k (.bool false))⟩]) (.kp [3, 4, 5, 165] c_spec_DecodeTones_110)) (.kp [3, 4, 5] c_spec_DecodeTones_113)
def c_spec_DecodeTones_105 : VC :=
  .seq (.r 35 [⟨none, [], none, .mv 149 (.s 4)⟩,
    ⟨none, [], none, .call 150 87 [(.s 149)]⟩]) c_spec_DecodeTones_107
def c_spec_DecodeTones_38 : VC :=
  .seq (.seq (.r 14 [⟨none, [], none, .mv 7 (.k (.int .i64 0))⟩]) c_spec_DecodeTones_41) (.kp [0, 3, 4, 5] c_spec_DecodeTones_105)
def c_spec_DecodeTones_30 : VC :=
  .seq (.seq (.r 12 [⟨none, [], none, .mv 56 (.s 4)⟩,
    ⟨none, [], none, .nck 57 (.s 56)⟩,
    ⟨none, [], none, .fadr 58 (.s 57) 2⟩,
    ⟨none, [], none, .ld 59 (.s 58) 1 false⟩,
    ⟨none, [], none, .bin 60 .neq (.s 59) (.k (.int .i64 0))⟩]) c_spec_DecodeTones_33) c_spec_DecodeTones_38
def c_spec_DecodeTones_24 : VC :=
  .seq (.seq (.r 10 [⟨none, [], none, .mv 35 (.s 4)⟩,
    ⟨none, [], none, .nck 36 (.s 35)⟩,
    ⟨none, [], none, .fadr 37 (.s 36) 2⟩,
    ⟨none, [], none, .ld 38 (.s 37) 1 false⟩,
    ⟨none, [], none, .bin 39 .eql (.s 38) (.k (.int .i64 0))⟩,
    ⟨none, [], none, .mv 40 (.s 39)⟩,
    ⟨none, [], some (40, true), .mv 41 (.s 6)⟩,
    ⟨none, [], some (40, true), .bin 42 .neq (.s 41) (.k (.int .i64 0))⟩,
    ⟨none, [], some (40, true), .mv 43 (.s 42)⟩,
    ⟨none, [], some (43, false), .fadr 44 (.s 5) 0⟩,
    ⟨none, [], some (43, false), .ld 45 (.s 44) 1 false⟩,
    ⟨none, [], some (43, false), .fadr 46 (.s 5) 1⟩,
    ⟨none, [], some (43, false), .ld 47 (.s 46) 1 false⟩,
    ⟨none, [], some (43, false), .fadr 48 (.s 5) 2⟩,
    ⟨none, [], some (43, false), .ld 49 (.s 48) 1 false⟩,
    ⟨none, [], some (43, false), .call 50 83 [(.s 45), (.s 47), (.s 49)]⟩,
    ⟨none, [], some (43, false), .un 51 .not (.s 50)⟩,
    ⟨none, [], some (40, true), .pick 52 (.s 43) (.k (.bool true)) (.s 51)⟩,
    ⟨none, [], none, .pick 53 (.s 40) (.s 52) (.k (.bool false))⟩]) (.kp [0, 3, 4, 5, 53] c_spec_DecodeTones_27)) (.kp [0, 3, 4, 5] c_spec_DecodeTones_30)
def c_spec_DecodeTones_22 : VC :=
  .seq (.r 9 [⟨none, [], none, .mv 33 (.s 4)⟩,
    ⟨none, [], none, .call 34 82 [(.s 33), (.k (.int .i64 4))]⟩,
    ⟨none, [], none, .mv 6 (.s 34)⟩]) c_spec_DecodeTones_24
def c_spec_DecodeTones_20 : VC :=
  .seq (.r 8 [⟨none, [], none, .mv 30 (.s 4)⟩,
    ⟨none, [], none, .call 31 82 [(.s 30), (.k (.int .i64 12))]⟩,
    ⟨none, [], none, .fadr 32 (.s 5) 2⟩,
    ⟨none, [], none, .st (.s 32) (.s 31) 1⟩]) c_spec_DecodeTones_22
def c_spec_DecodeTones_18 : VC :=
  .seq (.r 7 [⟨none, [], none, .mv 27 (.s 4)⟩,
    ⟨none, [], none, .call 28 82 [(.s 27), (.k (.int .i64 4))]⟩,
    ⟨none, [], none, .fadr 29 (.s 5) 1⟩,
    ⟨none, [], none, .st (.s 29) (.s 28) 1⟩]) c_spec_DecodeTones_20
def c_spec_DecodeTones_16 : VC :=
  .seq (.r 6 [⟨none, [], none, .mv 24 (.s 4)⟩,
    ⟨none, [], none, .call 25 82 [(.s 24), (.k (.int .i64 20))]⟩,
    ⟨none, [], none, .fadr 26 (.s 5) 0⟩,
    ⟨none, [], none, .st (.s 26) (.s 25) 1⟩]) c_spec_DecodeTones_18
def c_spec_DecodeTones_14 : VC :=
  .seq (.r 5 [⟨none, [], none, .bld 23 [.k (.int .i64 0), .k (.int .i64 0), .k (.int .i64 0), .o [.own [.sc]], .o [.own [.sc]]] []⟩,
    ⟨none, [], none, .alloc 5 [.k (.int .i64 0), .k (.int .i64 0), .k (.int .i64 0), .o [.own [.sc]], .o [.own [.sc]]]⟩,
    ⟨none, [], none, .st (.s 5) (.s 23) 5⟩]) c_spec_DecodeTones_16
def c_spec_DecodeTones_12 : VC :=
  .seq (.r 4 [⟨none, [], none, .mv 20 (.s 4)⟩,
    ⟨none, [], none, .lits 21 [.sc] [(.k (.int .u8 84)), (.k (.int .u8 79)), (.k (.int .u8 78)), (.k (.int .u8 49))]⟩,
    ⟨none, [(21, 0)], none, .call 22 81 [(.s 20), (.s 21)]⟩]) c_spec_DecodeTones_14
def c_spec_DecodeTones_10 : VC :=
  .seq (.r 3 [⟨none, [], none, .mv 17 (.s 0)⟩,
    ⟨none, [], none, .bld 18 [.k (.slice none 0 0), .k (.int .i64 0), .k (.int .i64 0)] [(0, 1, (.s 17))]⟩,
    ⟨none, [], none, .box 19 (.s 18)⟩,
    ⟨none, [], none, .mv 4 (.s 19)⟩]) c_spec_DecodeTones_12
def c_spec_DecodeTones_2 : VC :=
  .seq (.seq (.r 1 [⟨none, [], none, .mv 13 (.s 0)⟩,
    ⟨none, [], none, .len 14 (.s 13)⟩,
    ⟨none, [], none, .bin 15 .gtr (.s 14) (.k (.int .i64 60000))⟩]) c_spec_DecodeTones_5) c_spec_DecodeTones_10
def c_spec_DecodeTones_0 : VC :=
  .seq (.r 0 [⟨none, [], none, .mv 2 (.k (.int .i64 0))⟩,
    ⟨none, [], none, .alloc 3 [.k (.int .i64 0), .k (.int .i64 0), .k (.int .i64 0), .o [.own [.sc]], .o [.own [.sc]]]⟩]) c_spec_DecodeTones_2
def vf_spec_DecodeTones : VF := { pm := [.ro [.ro [.sc]]], rm := [.v [.sc], .v [.sc, .sc, .sc, .own [.own [.sc]], .own [.own [.sc]]]], nslots := 179, res := [2, 3], rc := [none, some (5, true)], code := .kp [0] c_spec_DecodeTones_0 }
def c_impl_DecodeTonesC1_2 : VC :=
  .seq (.r 1 [⟨none, [], none, .mv 4 (.s 0)⟩,
    ⟨none, [], none, .bld 5 [.k (.int .i64 0), .k (.int .i64 0), .k (.int .i64 0), .o [.own [.sc]], .o [.own [.sc]]] []⟩,
    ⟨none, [], none, .mv 2 (.s 4)⟩,
    ⟨none, [], none, .st (.s 3) (.s 5) 5⟩]) (.ret)
def c_impl_DecodeTonesC1_0 : VC :=
  .seq (.r 0 [⟨none, [], none, .mv 2 (.k (.int .i64 0))⟩,
    ⟨none, [], none, .alloc 3 [.k (.int .i64 0), .k (.int .i64 0), .k (.int .i64 0), .o [.own [.sc]], .o [.own [.sc]]]⟩]) c_impl_DecodeTonesC1_2
def vf_impl_DecodeTonesC1 : VF := { pm := [.ro [.sc]], rm := [.v [.sc], .v [.sc, .sc, .sc, .own [.own [.sc]], .own [.own [.sc]]]], nslots := 6, res := [2, 3], rc := [none, some (5, true)], code := .kp [0] c_impl_DecodeTonesC1_0 }
def c_impl_zmagic_20 : VC :=
  .ite (.s 14) (.seq (.r 5 [⟨none, [], none, .mv 4 (.k (.int .i64 2))⟩]) (.ret)) (.skip)
def c_impl_zmagic_27 : VC :=
  .ite (.s 22) (.seq (.r 7 [⟨none, [], none, .mv 4 (.k (.int .i64 4))⟩]) (.ret)) (.skip)
def c_impl_zmagic_25 : VC :=
  .seq (.d 6 [(0, ⟨none, [], none, .mv 15 (.s 0)⟩),
    (1, ⟨none, [], none, .mv 16 (.s 5)⟩),
    (2, ⟨none, [], none, .iadr 17 (.s 15) (.s 16) 1⟩),
    (3, ⟨none, [], none, .ld 18 (.s 17) 1 false⟩),
    (4, ⟨none, [], none, .mv 19 (.s 1)⟩),
    (5, ⟨none, [], none, .mv 20 (.s 5)⟩),
    (6, ⟨none, [], none, .idx 21 (.s 19) (.s 20)⟩),
    (7, ⟨none, [], none, .bin 22 .neq (.s 18) (.s 21)⟩)]) c_impl_zmagic_27
def c_impl_zmagic_17 : VC :=
  .seq (.seq (.r 4 [⟨none, [], none, .mv 11 (.s 5)⟩,
    ⟨none, [], none, .mv 12 (.s 0)⟩,
    ⟨none, [], none, .len 13 (.s 12)⟩,
    ⟨none, [], none, .bin 14 .geq (.s 11) (.s 13)⟩]) c_impl_zmagic_20) c_impl_zmagic_25
def c_impl_zmagic_32 : VC :=
  .r 8 [⟨none, [], none, .bin 23 .add (.s 8) (.k (.int .i64 1))⟩,
    ⟨none, [], none, .mv 8 (.s 23)⟩]
def c_impl_zmagic_13 : VC :=
  .seq (.blk 1 (.seq (.r 3 [⟨none, [], none, .mv 10 (.s 8)⟩,
    ⟨none, [], none, .mv 5 (.s 10)⟩]) c_impl_zmagic_17)) c_impl_zmagic_32
def c_impl_zmagic_9 : VC :=
  .seq (.ite (.s 9) (.skip) (.exit 0)) c_impl_zmagic_13
def c_impl_zmagic_7 : VC :=
  .seq (.r 2 [⟨none, [], none, .bin 9 .lss (.s 8) (.s 7)⟩]) c_impl_zmagic_9
def c_impl_zmagic_5 : VC :=
  .blk 0 (.loop [0, 1, 7, 8] c_impl_zmagic_7)
def c_impl_zmagic_33 : VC :=
  .seq (.r 9 [⟨none, [], none, .mv 4 (.k (.int .i64 0))⟩]) (.ret)
def c_impl_zmagic_2 : VC :=
  .seq (.seq (.r 1 [⟨none, [], none, .mv 6 (.s 1)⟩,
    ⟨none, [], none, .slen 7 (.s 6)⟩,
    ⟨none, [], none, .mv 8 (.k (.int .i64 0))⟩]) c_impl_zmagic_5) (.kp [] c_impl_zmagic_33)
def c_impl_zmagic_0 : VC :=
  .seq (.r 0 [⟨none, [], none, .mv 4 (.k (.int .i64 0))⟩]) c_impl_zmagic_2
def vf_impl_zmagic : VF := { pm := [.ro [.ro [.sc]], .ro [.sc]], rm := [.v [.sc]], nslots := 24, res := [4], rc := [], code := .kp [0, 1] c_impl_zmagic_0 }
def c_impl_ztake_bit_8 : VC :=
  .seq (.r 3 [⟨none, [], none, .mv 2 (.k (.int .i64 0))⟩]) (.ret)
def c_impl_ztake_bit_5 : VC :=
  .ite (.s 14) (.seq (.r 2 [⟨none, [], none, .mv 15 (.s 0)⟩,
    ⟨none, [], none, .nck 16 (.s 15)⟩,
    ⟨none, [], none, .fadr 17 (.s 16) 2⟩,
    ⟨none, [], none, .st (.s 17) (.k (.bool true)) 1⟩]) c_impl_ztake_bit_8) (.skip)
def c_impl_ztake_bit_16 : VC :=
  .seq (.r 6 [⟨none, [], none, .mv 45 (.s 3)⟩,
    ⟨none, [], none, .mv 2 (.s 45)⟩]) (.ret)
def c_impl_ztake_bit_14 : VC :=
  .seq (.r 5 [⟨none, [], none, .mv 38 (.s 0)⟩,
    ⟨none, [], none, .nck 39 (.s 38)⟩,
    ⟨none, [], none, .fadr 40 (.s 39) 1⟩,
    ⟨none, [], none, .ld 41 (.s 40) 1 false⟩,
    ⟨none, [], none, .bin 42 .add (.s 41) (.k (.int .i64 1))⟩,
    ⟨none, [], none, .nck 43 (.s 38)⟩,
    ⟨none, [], none, .fadr 44 (.s 43) 1⟩,
    ⟨none, [], none, .st (.s 44) (.s 42) 1⟩]) c_impl_ztake_bit_16
def c_impl_ztake_bit_12 : VC :=
  .seq (.d 4 [(0, ⟨none, [], none, .mv 18 (.s 0)⟩),
    (1, ⟨none, [], none, .nck 19 (.s 18)⟩),
    (2, ⟨none, [], none, .fadr 20 (.s 19) 0⟩),
    (3, ⟨none, [], none, .ld 21 (.s 20) 1 false⟩),
    (4, ⟨none, [], none, .mv 22 (.s 0)⟩),
    (5, ⟨none, [], none, .nck 23 (.s 22)⟩),
    (6, ⟨none, [], none, .fadr 24 (.s 23) 1⟩),
    (7, ⟨none, [], none, .ld 25 (.s 24) 1 false⟩),
    (8, ⟨none, [], none, .bin 26 .quo (.s 25) (.k (.int .i64 8))⟩),
    (9, ⟨none, [], none, .iadr 27 (.s 21) (.s 26) 1⟩),
    (10, ⟨none, [], none, .ld 28 (.s 27) 1 false⟩),
    (11, ⟨none, [], none, .mv 29 (.s 0)⟩),
    (12, ⟨none, [], none, .nck 30 (.s 29)⟩),
    (13, ⟨none, [], none, .fadr 31 (.s 30) 1⟩),
    (14, ⟨none, [], none, .ld 32 (.s 31) 1 false⟩),
    (15, ⟨none, [], none, .bin 33 .rem (.s 32) (.k (.int .i64 8))⟩),
    (16, ⟨none, [], none, .bin 34 .sub (.k (.int .i64 7)) (.s 33)⟩),
    (17, ⟨none, [], none, .bin 35 .shr (.s 28) (.s 34)⟩),
    (18, ⟨none, [], none, .bin 36 .and (.s 35) (.k (.int .u8 1))⟩),
    (19, ⟨none, [], none, .conv 37 .i64 (.s 36)⟩),
    (20, ⟨none, [], none, .mv 3 (.s 37)⟩)]) c_impl_ztake_bit_14
def c_impl_ztake_bit_2 : VC :=
  .seq (.seq (.d 1 [(0, ⟨none, [], none, .mv 4 (.s 0)⟩),
    (1, ⟨none, [], none, .nck 5 (.s 4)⟩),
    (2, ⟨none, [], none, .fadr 6 (.s 5) 1⟩),
    (3, ⟨none, [], none, .ld 7 (.s 6) 1 false⟩),
    (4, ⟨none, [], none, .mv 8 (.s 0)⟩),
    (5, ⟨none, [], none, .nck 9 (.s 8)⟩),
    (6, ⟨none, [], none, .fadr 10 (.s 9) 0⟩),
    (7, ⟨none, [], none, .ld 11 (.s 10) 1 false⟩),
    (8, ⟨none, [], none, .len 12 (.s 11)⟩),
    (9, ⟨none, [], none, .bin 13 .mul (.k (.int .i64 8)) (.s 12)⟩),
    (10, ⟨none, [], none, .bin 14 .geq (.s 7) (.s 13)⟩)]) c_impl_ztake_bit_5) c_impl_ztake_bit_12
def c_impl_ztake_bit_0 : VC :=
  .seq (.r 0 [⟨none, [], none, .mv 2 (.k (.int .i64 0))⟩]) c_impl_ztake_bit_2
def vf_impl_ztake_bit : VF := { pm := [.mb [.ro [.sc], .sc, .sc]], rm := [.v [.sc]], nslots := 46, res := [2], rc := [], code := .kp [0] c_impl_ztake_bit_0 }
def c_impl_ztake_take_18 : VC :=
  .r 5 [⟨none, [], none, .bin 15 .add (.s 7) (.k (.int .i64 1))⟩,
    ⟨none, [], none, .mv 7 (.s 15)⟩]
def c_impl_ztake_take_15 : VC :=
  .seq (.blk 1 (.r 4 [⟨none, [], none, .mv 9 (.s 5)⟩,
    ⟨none, [], none, .bin 10 .shl (.s 9) (.k (.int .u64 1))⟩,
    ⟨none, [], none, .mv 11 (.s 0)⟩,
    ⟨none, [], none, .call 12 91 [(.s 11)]⟩,
    ⟨none, [], none, .conv 13 .u64 (.s 12)⟩,
    ⟨none, [], none, .bin 14 .or (.s 10) (.s 13)⟩,
    ⟨none, [], none, .mv 5 (.s 14)⟩])) c_impl_ztake_take_18
def c_impl_ztake_take_11 : VC :=
  .seq (.ite (.s 8) (.skip) (.exit 0)) c_impl_ztake_take_15
def c_impl_ztake_take_9 : VC :=
  .seq (.r 3 [⟨none, [], none, .bin 8 .lss (.s 7) (.s 6)⟩]) c_impl_ztake_take_11
def c_impl_ztake_take_7 : VC :=
  .blk 0 (.loop [0, 5, 6, 7] c_impl_ztake_take_9)
def c_impl_ztake_take_19 : VC :=
  .seq (.r 6 [⟨none, [], none, .mv 16 (.s 5)⟩,
    ⟨none, [], none, .mv 4 (.s 16)⟩]) (.ret)
def c_impl_ztake_take_4 : VC :=
  .seq (.seq (.r 2 [⟨none, [], none, .mv 6 (.s 1)⟩,
    ⟨none, [], none, .mv 7 (.k (.int .i64 0))⟩]) c_impl_ztake_take_7) (.kp [0, 5] c_impl_ztake_take_19)
def c_impl_ztake_take_2 : VC :=
  .seq (.r 1 [⟨none, [], none, .mv 5 (.k (.int .u64 0))⟩]) c_impl_ztake_take_4
def c_impl_ztake_take_0 : VC :=
  .seq (.r 0 [⟨none, [], none, .mv 4 (.k (.int .u64 0))⟩]) c_impl_ztake_take_2
def vf_impl_ztake_take : VF := { pm := [.mb [.ro [.sc], .sc, .sc], .ro [.sc]], rm := [.v [.sc]], nslots := 17, res := [4], rc := [], code := .kp [0, 1] c_impl_ztake_take_0 }
def c_impl_Unfold_2 : VC :=
  .seq (.r 1 [⟨none, [], none, .mv 3 (.s 0)⟩,
    ⟨none, [], none, .bin 4 .shr (.s 3) (.k (.int .u64 1))⟩,
    ⟨none, [], none, .conv 5 .i64 (.s 4)⟩,
    ⟨none, [], none, .mv 6 (.s 0)⟩,
    ⟨none, [], none, .bin 7 .and (.s 6) (.k (.int .u64 1))⟩,
    ⟨none, [], none, .conv 8 .i64 (.s 7)⟩,
    ⟨none, [], none, .un 9 .neg (.s 8)⟩,
    ⟨none, [], none, .bin 10 .xor (.s 5) (.s 9)⟩,
    ⟨none, [], none, .mv 2 (.s 10)⟩]) (.ret)
def c_impl_Unfold_0 : VC :=
  .seq (.r 0 [⟨none, [], none, .mv 2 (.k (.int .i64 0))⟩]) c_impl_Unfold_2
def vf_impl_Unfold : VF := { pm := [.ro [.sc]], rm := [.v [.sc]], nslots := 11, res := [2], rc := [], code := .kp [0] c_impl_Unfold_0 }
def c_impl_ztake_fill_10 : VC :=
  .ite (.s 9) (.skip) (.exit 0)
def c_impl_ztake_fill_13 : VC :=
  .blk 1 (.r 3 [⟨none, [], none, .mv 10 (.s 0)⟩,
    ⟨none, [], none, .call 11 91 [(.s 10)]⟩,
    ⟨none, [], none, .bin 12 .eql (.s 11) (.k (.int .i64 0))⟩,
    ⟨none, [], none, .mv 13 (.s 12)⟩,
    ⟨none, [], some (13, true), .mv 14 (.s 3)⟩,
    ⟨none, [], none, .pick 15 (.s 13) (.s 14) (.k (.bool false))⟩,
    ⟨none, [], none, .mv 3 (.s 15)⟩])
def c_impl_ztake_fill_7 : VC :=
  .seq (.seq (.r 2 [⟨none, [], none, .mv 4 (.s 0)⟩,
    ⟨none, [], none, .nck 5 (.s 4)⟩,
    ⟨none, [], none, .fadr 6 (.s 5) 1⟩,
    ⟨none, [], none, .ld 7 (.s 6) 1 false⟩,
    ⟨none, [], none, .bin 8 .rem (.s 7) (.k (.int .i64 8))⟩,
    ⟨none, [], none, .bin 9 .neq (.s 8) (.k (.int .i64 0))⟩]) c_impl_ztake_fill_10) c_impl_ztake_fill_13
def c_impl_ztake_fill_15 : VC :=
  .seq (.r 4 [⟨none, [], none, .mv 16 (.s 3)⟩,
    ⟨none, [], none, .mv 2 (.s 16)⟩]) (.ret)
def c_impl_ztake_fill_4 : VC :=
  .seq (.blk 0 (.loop [0, 3] c_impl_ztake_fill_7)) (.kp [0, 3] c_impl_ztake_fill_15)
def c_impl_ztake_fill_2 : VC :=
  .seq (.r 1 [⟨none, [], none, .mv 3 (.k (.bool true))⟩]) c_impl_ztake_fill_4
def c_impl_ztake_fill_0 : VC :=
  .seq (.r 0 [⟨none, [], none, .mv 2 (.k (.bool false))⟩]) c_impl_ztake_fill_2
def vf_impl_ztake_fill : VF := { pm := [.mb [.ro [.sc], .sc, .sc]], rm := [.v [.sc]], nslots := 17, res := [2], rc := [], code := .kp [0] c_impl_ztake_fill_0 }
def c_impl_DecodeTones_20 : VC :=
  .ite (.s 31) (.seq (.r 7 [⟨none, [], none, .mv 35 (.s 4)⟩,
    ⟨none, [], none, .callc 36 (.s 35) [(.k (.int .i64 2))]⟩,
    ⟨none, [], none, .ext 37 (.s 36) 0⟩,
    ⟨none, [], none, .ext 38 (.s 36) 1⟩,
    ⟨none, [], none, .mv 2 (.s 37)⟩,
    ⟨none, [], none, .st (.s 3) (.s 38) 5⟩]) (.ret)) (.skip)
def c_impl_DecodeTones_14 : VC :=
  .ite (.s 21) (.seq (.r 5 [⟨none, [], none, .mv 25 (.s 4)⟩,
    ⟨none, [], none, .mv 26 (.s 0)⟩,
    ⟨none, [], none, .call 27 89 [(.s 26), (.k (.string (ByteArray.mk #[84, 79, 78, 49])))]⟩,
    ⟨none, [], none, .callc 28 (.s 25) [(.s 27)]⟩,
    ⟨none, [], none, .ext 29 (.s 28) 0⟩,
    ⟨none, [], none, .ext 30 (.s 28) 1⟩,
    ⟨none, [], none, .mv 2 (.s 29)⟩,
    ⟨none, [], none, .st (.s 3) (.s 30) 5⟩]) (.ret)) (.seq (.r 6 [⟨none, [], none, .mv 32 (.s 0)⟩,
    ⟨none, [], none, .len 33 (.s 32)⟩,
    ⟨none, [], none, .bin 34 .lss (.s 33) (.k (.int .i64 9))⟩,
    ⟨none, [], none, .mv 31 (.s 34)⟩]) c_impl_DecodeTones_20)
def c_impl_DecodeTones_8 : VC :=
  .ite (.s 13) (.seq (.r 3 [⟨none, [], none, .mv 17 (.s 4)⟩,
    ⟨none, [], none, .callc 18 (.s 17) [(.k (.int .i64 1))]⟩,
    ⟨none, [], none, .ext 19 (.s 18) 0⟩,
    ⟨none, [], none, .ext 20 (.s 18) 1⟩,
    ⟨none, [], none, .mv 2 (.s 19)⟩,
    ⟨none, [], none, .st (.s 3) (.s 20) 5⟩]) (.ret)) (.seq (.r 4 [⟨none, [], none, .mv 22 (.s 0)⟩,
    ⟨none, [], none, .call 23 89 [(.s 22), (.k (.string (ByteArray.mk #[84, 79, 78, 49])))]⟩,
    ⟨none, [], none, .bin 24 .neq (.s 23) (.k (.int .i64 0))⟩,
    ⟨none, [], none, .mv 21 (.s 24)⟩]) c_impl_DecodeTones_14)
def c_impl_DecodeTones_32 : VC :=
  .ite (.s 69) (.seq (.r 11 [⟨none, [], none, .mv 70 (.s 4)⟩,
    ⟨none, [], none, .callc 71 (.s 70) [(.k (.int .i64 5))]⟩,
    ⟨none, [], none, .ext 72 (.s 71) 0⟩,
    ⟨none, [], none, .ext 73 (.s 71) 1⟩,
    ⟨none, [], none, .mv 2 (.s 72)⟩,
    ⟨none, [], none, .st (.s 3) (.s 73) 5⟩]) (.ret)) (.skip)
def c_impl_DecodeTones_70 : VC :=
  .ite (.s 89) (.seq (.r 19 [⟨none, [], none, .mv 90 (.s 4)⟩,
    ⟨none, [], none, .callc 91 (.s 90) [(.k (.int .i64 2))]⟩,
    ⟨none, [], none, .ext 92 (.s 91) 0⟩,
    ⟨none, [], none, .ext 93 (.s 91) 1⟩,
    ⟨none, [], none, .mv 2 (.s 92)⟩,
    ⟨none, [], none, .st (.s 3) (.s 93) 5⟩]) (.ret)) (.skip)
def c_impl_DecodeTones_78 : VC :=
  .ite (.s 95) (.seq (.r 21 [⟨none, [], none, .mv 96 (.s 4)⟩,
    ⟨none, [], none, .callc 97 (.s 96) [(.k (.int .i64 5))]⟩,
    ⟨none, [], none, .ext 98 (.s 97) 0⟩,
    ⟨none, [], none, .ext 99 (.s 97) 1⟩,
    ⟨none, [], none, .mv 2 (.s 98)⟩,
    ⟨none, [], none, .st (.s 3) (.s 99) 5⟩]) (.ret)) (.skip)
def c_impl_DecodeTones_83 : VC :=
  .r 22 [⟨none, [], none, .mv 100 (.s 7)⟩,
    ⟨none, [], none, .mv 101 (.s 9)⟩,
    ⟨none, [], none, .lits 102 [.sc] [(.s 101)]⟩,
    ⟨none, [], none, .app 103 (.s 100) (.s 102) [.sc] 17592186044416⟩,
    ⟨none, [], none, .mv 7 (.s 103)⟩]
def c_impl_DecodeTones_75 : VC :=
  .seq (.seq (.r 20 [⟨none, [], none, .mv 94 (.s 9)⟩,
    ⟨none, [], none, .bin 95 .gtr (.s 94) (.k (.int .i64 12))⟩]) c_impl_DecodeTones_78) c_impl_DecodeTones_83
def c_impl_DecodeTones_67 : VC :=
  .seq (.seq (.r 18 [⟨none, [], none, .mv 86 (.s 5)⟩,
    ⟨none, [], none, .nck 87 (.s 86)⟩,
    ⟨none, [], none, .fadr 88 (.s 87) 2⟩,
    ⟨none, [], none, .ld 89 (.s 88) 1 false⟩]) c_impl_DecodeTones_70) c_impl_DecodeTones_75
def c_impl_DecodeTones_84 : VC :=
  .r 23 [⟨none, [], none, .bin 104 .add (.s 81) (.k (.int .i64 1))⟩,
    ⟨none, [], none, .mv 81 (.s 104)⟩]
def c_impl_DecodeTones_63 : VC :=
  .seq (.blk 4 (.seq (.r 17 [⟨none, [], none, .mv 83 (.s 5)⟩,
    ⟨none, [], none, .call 84 90 [(.s 83), (.k (.int .i64 4))]⟩,
    ⟨none, [], none, .conv 85 .i64 (.s 84)⟩,
    ⟨none, [], none, .mv 9 (.s 85)⟩]) c_impl_DecodeTones_67)) c_impl_DecodeTones_84
def c_impl_DecodeTones_59 : VC :=
  .seq (.ite (.s 82) (.skip) (.exit 3)) c_impl_DecodeTones_63
def c_impl_DecodeTones_57 : VC :=
  .seq (.r 16 [⟨none, [], none, .bin 82 .lss (.s 81) (.k (.int .i64 8))⟩]) c_impl_DecodeTones_59
def c_impl_DecodeTones_55 : VC :=
  .blk 3 (.loop [0, 3, 4, 5, 6, 7, 8, 78, 79, 81] c_impl_DecodeTones_57)
def c_impl_DecodeTones_90 : VC :=
  .ite (.s 111) (.seq (.r 26 [⟨none, [], none, .mv 112 (.s 4)⟩,
    ⟨none, [], none, .callc 113 (.s 112) [(.k (.int .i64 2))]⟩,
    ⟨none, [], none, .ext 114 (.s 113) 0⟩,
    ⟨none, [], none, .ext 115 (.s 113) 1⟩,
    ⟨none, [], none, .mv 2 (.s 114)⟩,
    ⟨none, [], none, .st (.s 3) (.s 115) 5⟩]) (.ret)) (.skip)
def c_impl_DecodeTones_98 : VC :=
  .ite (.s 117) (.seq (.r 28 [⟨none, [], none, .mv 118 (.s 4)⟩,
    ⟨none, [], none, .callc 119 (.s 118) [(.k (.int .i64 5))]⟩,
    ⟨none, [], none, .ext 120 (.s 119) 0⟩,
    ⟨none, [], none, .ext 121 (.s 119) 1⟩,
    ⟨none, [], none, .mv 2 (.s 120)⟩,
    ⟨none, [], none, .st (.s 3) (.s 121) 5⟩]) (.ret)) (.skip)
def c_impl_DecodeTones_124 : VC :=
  .ite (.s 133) (.skip) (.exit 7)
def c_impl_DecodeTones_132 : VC :=
  .ite (.s 139) (.seq (.r 35 [⟨none, [], none, .mv 140 (.s 4)⟩,
    ⟨none, [], none, .callc 141 (.s 140) [(.k (.int .i64 5))]⟩,
    ⟨none, [], none, .ext 142 (.s 141) 0⟩,
    ⟨none, [], none, .ext 143 (.s 141) 1⟩,
    ⟨none, [], none, .mv 2 (.s 142)⟩,
    ⟨none, [], none, .st (.s 3) (.s 143) 5⟩]) (.ret)) (.skip)
def c_impl_DecodeTones_130 : VC :=
  .seq (.r 34 [⟨none, [], none, .mv 136 (.s 11)⟩,
    ⟨none, [], none, .mv 137 (.s 10)⟩,
    ⟨none, [], none, .bin 138 .shl (.s 136) (.s 137)⟩,
    ⟨none, [], none, .bin 139 .gtr (.s 138) (.k (.int .u64 2097151))⟩]) c_impl_DecodeTones_132
def c_impl_DecodeTones_127 : VC :=
  .blk 8 (.seq (.r 33 [⟨none, [], none, .mv 134 (.s 11)⟩,
    ⟨none, [], none, .bin 135 .add (.s 134) (.k (.int .u64 1))⟩,
    ⟨none, [], none, .mv 11 (.s 135)⟩]) c_impl_DecodeTones_130)
def c_impl_DecodeTones_121 : VC :=
  .seq (.seq (.r 32 [⟨none, [], none, .mv 124 (.s 5)⟩,
    ⟨none, [], none, .call 125 91 [(.s 124)]⟩,
    ⟨none, [], none, .bin 126 .eql (.s 125) (.k (.int .i64 0))⟩,
    ⟨none, [], none, .mv 127 (.s 126)⟩,
    ⟨none, [], some (127, true), .mv 128 (.s 5)⟩,
    ⟨none, [], some (127, true), .nck 129 (.s 128)⟩,
    ⟨none, [], some (127, true), .fadr 130 (.s 129) 2⟩,
    ⟨none, [], some (127, true), .ld 131 (.s 130) 1 false⟩,
    ⟨none, [], some (127, true), .un 132 .not (.s 131)⟩,
    ⟨none, [], none, .pick 133 (.s 127) (.s 132) (.k (.bool false))⟩]) c_impl_DecodeTones_124) c_impl_DecodeTones_127
def c_impl_DecodeTones_142 : VC :=
  .ite (.s 154) (.seq (.r 38 [⟨none, [], none, .mv 155 (.s 4)⟩,
    ⟨none, [], none, .callc 156 (.s 155) [(.k (.int .i64 2))]⟩,
    ⟨none, [], none, .ext 157 (.s 156) 0⟩,
    ⟨none, [], none, .ext 158 (.s 156) 1⟩,
    ⟨none, [], none, .mv 2 (.s 157)⟩,
    ⟨none, [], none, .st (.s 3) (.s 158) 5⟩]) (.ret)) (.skip)
def c_impl_DecodeTones_150 : VC :=
  .ite (.s 160) (.seq (.r 40 [⟨none, [], none, .mv 161 (.s 4)⟩,
    ⟨none, [], none, .callc 162 (.s 161) [(.k (.int .i64 5))]⟩,
    ⟨none, [], none, .ext 163 (.s 162) 0⟩,
    ⟨none, [], none, .ext 164 (.s 162) 1⟩,
    ⟨none, [], none, .mv 2 (.s 163)⟩,
    ⟨none, [], none, .st (.s 3) (.s 164) 5⟩]) (.ret)) (.skip)
def c_impl_DecodeTones_155 : VC :=
  .r 41 [⟨none, [], none, .mv 165 (.s 8)⟩,
    ⟨none, [], none, .mv 166 (.s 12)⟩,
    ⟨none, [], none, .call 167 92 [(.s 166)]⟩,
    ⟨none, [], none, .lits 168 [.sc] [(.s 167)]⟩,
    ⟨none, [], none, .app 169 (.s 165) (.s 168) [.sc] 17592186044416⟩,
    ⟨none, [], none, .mv 8 (.s 169)⟩]
def c_impl_DecodeTones_147 : VC :=
  .seq (.seq (.r 39 [⟨none, [], none, .mv 159 (.s 12)⟩,
    ⟨none, [], none, .bin 160 .gtr (.s 159) (.k (.int .u64 2097151))⟩]) c_impl_DecodeTones_150) c_impl_DecodeTones_155
def c_impl_DecodeTones_139 : VC :=
  .seq (.seq (.r 37 [⟨none, [], none, .mv 151 (.s 5)⟩,
    ⟨none, [], none, .nck 152 (.s 151)⟩,
    ⟨none, [], none, .fadr 153 (.s 152) 2⟩,
    ⟨none, [], none, .ld 154 (.s 153) 1 false⟩]) c_impl_DecodeTones_142) c_impl_DecodeTones_147
def c_impl_DecodeTones_137 : VC :=
  .seq (.d 36 [(0, ⟨none, [], none, .mv 144 (.s 11)⟩),
    (1, ⟨none, [], none, .mv 145 (.s 10)⟩),
    (2, ⟨none, [], none, .bin 146 .shl (.s 144) (.s 145)⟩),
    (3, ⟨none, [], none, .mv 147 (.s 5)⟩),
    (4, ⟨none, [], none, .mv 148 (.s 10)⟩),
    (5, ⟨none, [], none, .call 149 90 [(.s 147), (.s 148)]⟩),
    (6, ⟨none, [], none, .bin 150 .or (.s 146) (.s 149)⟩),
    (7, ⟨none, [], none, .mv 12 (.s 150)⟩)]) c_impl_DecodeTones_139
def c_impl_DecodeTones_118 : VC :=
  .seq (.blk 7 (.loop [0, 3, 4, 5, 6, 7, 8, 10, 11, 78, 79, 122] c_impl_DecodeTones_121)) (.kp [0, 3, 4, 5, 6, 7, 8, 10, 11, 78, 79, 122] c_impl_DecodeTones_137)
def c_impl_DecodeTones_156 : VC :=
  .r 42 [⟨none, [], none, .bin 170 .add (.s 122) (.k (.int .i64 1))⟩,
    ⟨none, [], none, .mv 122 (.s 170)⟩]
def c_impl_DecodeTones_114 : VC :=
  .seq (.blk 6 (.seq (.r 31 [⟨none, [], none, .mv 11 (.k (.int .u64 0))⟩]) c_impl_DecodeTones_118)) c_impl_DecodeTones_156
def c_impl_DecodeTones_110 : VC :=
  .seq (.ite (.s 123) (.skip) (.exit 5)) c_impl_DecodeTones_114
def c_impl_DecodeTones_108 : VC :=
  .seq (.r 30 [⟨none, [], none, .bin 123 .lss (.s 122) (.k (.int .i64 16))⟩]) c_impl_DecodeTones_110
def c_impl_DecodeTones_106 : VC :=
  .blk 5 (.loop [0, 3, 4, 5, 6, 7, 8, 10, 78, 79, 122] c_impl_DecodeTones_108)
def c_impl_DecodeTones_159 : VC :=
  .r 44 [⟨none, [], none, .fadr 177 (.s 6) 4⟩,
    ⟨none, [], none, .ld 178 (.s 177) 1 false⟩,
    ⟨none, [], none, .mv 179 (.s 7)⟩,
    ⟨none, [], none, .lits 180 [.own [.sc]] [(.s 179)]⟩,
    ⟨none, [], none, .app 181 (.s 178) (.s 180) [.own [.sc]] 5864062014805⟩,
    ⟨none, [], none, .fadr 182 (.s 6) 4⟩,
    ⟨none, [], none, .st (.s 182) (.s 181) 1⟩]
def c_impl_DecodeTones_157 : VC :=
  .seq (.r 43 [⟨none, [], none, .fadr 171 (.s 6) 3⟩,
    ⟨none, [], none, .ld 172 (.s 171) 1 false⟩,
    ⟨none, [], none, .mv 173 (.s 8)⟩,
    ⟨none, [], none, .lits 174 [.own [.sc]] [(.s 173)]⟩,
    ⟨none, [], none, .app 175 (.s 172) (.s 174) [.own [.sc]] 5864062014805⟩,
    ⟨none, [], none, .fadr 176 (.s 6) 3⟩,
    ⟨none, [], none, .st (.s 176) (.s 175) 1⟩]) c_impl_DecodeTones_159
def c_impl_DecodeTones_103 : VC :=
  .seq (.seq (.r 29 [⟨none, [], none, .mv 122 (.k (.int .i64 0))⟩]) c_impl_DecodeTones_106) (.kp [0, 3, 4, 5, 6, 7, 8, 78, 79] c_impl_DecodeTones_157)
def c_impl_DecodeTones_95 : VC :=
  .seq (.seq (.r 27 [⟨none, [], none, .mv 116 (.s 10)⟩,
    ⟨none, [], none, .bin 117 .gtr (.s 116) (.k (.int .i64 16))⟩]) c_impl_DecodeTones_98) c_impl_DecodeTones_103
def c_impl_DecodeTones_87 : VC :=
  .seq (.seq (.r 25 [⟨none, [], none, .mv 108 (.s 5)⟩,
    ⟨none, [], none, .nck 109 (.s 108)⟩,
    ⟨none, [], none, .fadr 110 (.s 109) 2⟩,
    ⟨none, [], none, .ld 111 (.s 110) 1 false⟩]) c_impl_DecodeTones_90) c_impl_DecodeTones_95
def c_impl_DecodeTones_85 : VC :=
  .seq (.r 24 [⟨none, [], none, .mv 105 (.s 5)⟩,
    ⟨none, [], none, .call 106 90 [(.s 105), (.k (.int .i64 5))]⟩,
    ⟨none, [], none, .conv 107 .i64 (.s 106)⟩,
    ⟨none, [], none, .mv 10 (.s 107)⟩]) c_impl_DecodeTones_87
def c_impl_DecodeTones_52 : VC :=
  .seq (.seq (.r 15 [⟨none, [], none, .mv 81 (.k (.int .i64 0))⟩]) c_impl_DecodeTones_55) (.kp [0, 3, 4, 5, 6, 7, 8, 78, 79] c_impl_DecodeTones_85)
def c_impl_DecodeTones_160 : VC :=
  .r 45 [⟨none, [], none, .bin 183 .add (.s 79) (.k (.int .i64 1))⟩,
    ⟨none, [], none, .mv 79 (.s 183)⟩]
def c_impl_DecodeTones_48 : VC :=
  .seq (.blk 2 (.seq (.r 14 [⟨none, [], none, .nil 7 [.sc]⟩,
    ⟨none, [], none, .nil 8 [.sc]⟩]) c_impl_DecodeTones_52)) c_impl_DecodeTones_160
def c_impl_DecodeTones_44 : VC :=
  .seq (.ite (.s 80) (.skip) (.exit 1)) c_impl_DecodeTones_48
def c_impl_DecodeTones_42 : VC :=
  .seq (.r 13 [⟨none, [], none, .bin 80 .lss (.s 79) (.s 78)⟩]) c_impl_DecodeTones_44
def c_impl_DecodeTones_40 : VC :=
  .blk 1 (.loop [0, 3, 4, 5, 6, 78, 79] c_impl_DecodeTones_42)
def c_impl_DecodeTones_164 : VC :=
  .ite (.s 186) (.seq (.r 47 [⟨none, [], none, .mv 187 (.s 4)⟩,
    ⟨none, [], none, .callc 188 (.s 187) [(.k (.int .i64 4))]⟩,
    ⟨none, [], none, .ext 189 (.s 188) 0⟩,
    ⟨none, [], none, .ext 190 (.s 188) 1⟩,
    ⟨none, [], none, .mv 2 (.s 189)⟩,
    ⟨none, [], none, .st (.s 3) (.s 190) 5⟩]) (.ret)) (.skip)
def c_impl_DecodeTones_172 : VC :=
  .ite (.s 198) (.seq (.r 49 [⟨none, [], none, .mv 199 (.s 4)⟩,
    ⟨none, [], none, .callc 200 (.s 199) [(.k (.int .i64 8))]⟩,
    ⟨none, [], none, .ext 201 (.s 200) 0⟩,
    ⟨none, [], none, .ext 202 (.s 200) 1⟩,
    ⟨none, [], none, .mv 2 (.s 201)⟩,
    ⟨none, [], none, .st (.s 3) (.s 202) 5⟩]) (.ret)) (.skip)
def c_impl_DecodeTones_177 : VC :=
  .seq (.d 50 [(0, ⟨none, [], none, .ld 203 (.s 6) 5 true⟩),
    (1, ⟨none, [], none, .mv 2 (.k (.int .i64 0))⟩),
    (2, ⟨none, [], none, .st (.s 3) (.s 203) 5⟩)]) (.ret)
def c_impl_DecodeTones_169 : VC :=
  .seq (.seq (.r 48 [⟨none, [], none, .mv 191 (.s 5)⟩,
    ⟨none, [], none, .nck 192 (.s 191)⟩,
    ⟨none, [], none, .fadr 193 (.s 192) 1⟩,
    ⟨none, [], none, .ld 194 (.s 193) 1 false⟩,
    ⟨none, [], none, .bin 195 .quo (.s 194) (.k (.int .i64 8))⟩,
    ⟨none, [], none, .mv 196 (.s 0)⟩,
    ⟨none, [], none, .len 197 (.s 196)⟩,
    ⟨none, [], none, .bin 198 .lss (.s 195) (.s 197)⟩]) c_impl_DecodeTones_172) c_impl_DecodeTones_177
def c_impl_DecodeTones_161 : VC :=
  .seq (.seq (.r 46 [⟨none, [], none, .mv 184 (.s 5)⟩,
    ⟨none, [], none, .call 185 93 [(.s 184)]⟩,
    ⟨none, [], none, .un 186 .not (.s 185)⟩]) c_impl_DecodeTones_164) c_impl_DecodeTones_169
def c_impl_DecodeTones_37 : VC :=
  .seq (.seq (.r 12 [⟨none, [], none, .fadr 74 (.s 6) 2⟩,
    ⟨none, [], none, .ld 75 (.s 74) 1 false⟩,
    ⟨none, [], none, .bin 76 .add (.s 75) (.k (.int .i64 15))⟩,
    ⟨none, [], none, .bin 77 .quo (.s 76) (.k (.int .i64 16))⟩,
    ⟨none, [], none, .bin 78 .add (.s 77) (.k (.int .i64 1))⟩,
    ⟨none, [], none, .mv 79 (.k (.int .i64 0))⟩]) c_impl_DecodeTones_40) (.kp [0, 3, 4, 5, 6] c_impl_DecodeTones_161)
def c_impl_DecodeTones_29 : VC :=
  .seq (.seq (.r 10 [⟨none, [], none, .mv 52 (.s 5)⟩,
    ⟨none, [], none, .call 53 90 [(.s 52), (.k (.int .i64 4))]⟩,
    ⟨none, [], none, .bin 54 .neq (.s 53) (.k (.int .u64 0))⟩,
    ⟨none, [], none, .mv 55 (.s 54)⟩,
    ⟨none, [], some (55, false), .fadr 56 (.s 6) 0⟩,
    ⟨none, [], some (55, false), .ld 57 (.s 56) 1 false⟩,
    ⟨none, [], some (55, false), .bin 58 .lss (.s 57) (.k (.int .i64 1))⟩,
    ⟨none, [], none, .pick 59 (.s 55) (.k (.bool true)) (.s 58)⟩,
    ⟨none, [], none, .mv 60 (.s 59)⟩,
    ⟨none, [], some (60, false), .fadr 61 (.s 6) 0⟩,
    ⟨none, [], some (60, false), .ld 62 (.s 61) 1 false⟩,
    ⟨none, [], some (60, false), .bin 63 .gtr (.s 62) (.k (.int .i64 1000000))⟩,
    ⟨none, [], none, .pick 64 (.s 60) (.k (.bool true)) (.s 63)⟩,
    ⟨none, [], none, .mv 65 (.s 64)⟩,
    ⟨none, [], some (65, false), .fadr 66 (.s 6) 2⟩,
    ⟨none, [], some (65, false), .ld 67 (.s 66) 1 false⟩,
    ⟨none, [], some (65, false), .bin 68 .gtr (.s 67) (.k (.int .i64 4000))⟩,
    ⟨none, [], none, .pick 69 (.s 65) (.k (.bool true)) (.s 68)⟩]) (.kp [0, 3, 4, 5, 6, 69] c_impl_DecodeTones_32)) c_impl_DecodeTones_37
def c_impl_DecodeTones_27 : VC :=
  .seq (.r 9 [⟨none, [], none, .mv 42 (.s 5)⟩,
    ⟨none, [], none, .call 43 90 [(.s 42), (.k (.int .i64 20))]⟩,
    ⟨none, [], none, .conv 44 .i64 (.s 43)⟩,
    ⟨none, [], none, .mv 45 (.s 5)⟩,
    ⟨none, [], none, .call 46 90 [(.s 45), (.k (.int .i64 4))]⟩,
    ⟨none, [], none, .conv 47 .i64 (.s 46)⟩,
    ⟨none, [], none, .mv 48 (.s 5)⟩,
    ⟨none, [], none, .call 49 90 [(.s 48), (.k (.int .i64 12))]⟩,
    ⟨none, [], none, .conv 50 .i64 (.s 49)⟩,
    ⟨none, [], none, .bld 51 [.k (.int .i64 0), .k (.int .i64 0), .k (.int .i64 0), .o [.own [.sc]], .o [.own [.sc]]] [(0, 1, (.s 44)), (1, 1, (.s 47)), (2, 1, (.s 50))]⟩,
    ⟨none, [], none, .alloc 6 [.k (.int .i64 0), .k (.int .i64 0), .k (.int .i64 0), .o [.own [.sc]], .o [.own [.sc]]]⟩,
    ⟨none, [], none, .st (.s 6) (.s 51) 5⟩]) c_impl_DecodeTones_29
def c_impl_DecodeTones_25 : VC :=
  .seq (.r 8 [⟨none, [], none, .mv 39 (.s 0)⟩,
    ⟨none, [], none, .bld 40 [.k (.slice none 0 0), .k (.int .i64 0), .k (.bool false)] [(0, 1, (.s 39)), (1, 1, (.k (.int .i64 32)))]⟩,
    ⟨none, [], none, .box 41 (.s 40)⟩,
    ⟨none, [], none, .mv 5 (.s 41)⟩]) c_impl_DecodeTones_27
def c_impl_DecodeTones_4 : VC :=
  .seq (.blk 0 (.seq (.r 2 [⟨none, [], none, .mv 14 (.s 0)⟩,
    ⟨none, [], none, .len 15 (.s 14)⟩,
    ⟨none, [], none, .bin 16 .gtr (.s 15) (.k (.int .i64 60000))⟩,
    ⟨none, [], none, .mv 13 (.s 16)⟩]) c_impl_DecodeTones_8)) c_impl_DecodeTones_25
def c_impl_DecodeTones_2 : VC :=
  .seq (.r 1 [⟨none, [], none, .mv 4 (.f 88)⟩]) c_impl_DecodeTones_4
def c_impl_DecodeTones_0 : VC :=
  .seq (.r 0 [⟨none, [], none, .mv 2 (.k (.int .i64 0))⟩,
    ⟨none, [], none, .alloc 3 [.k (.int .i64 0), .k (.int .i64 0), .k (.int .i64 0), .o [.own [.sc]], .o [.own [.sc]]]⟩]) c_impl_DecodeTones_2
def vf_impl_DecodeTones : VF := { pm := [.ro [.ro [.sc]]], rm := [.v [.sc], .v [.sc, .sc, .sc, .own [.own [.sc]], .own [.own [.sc]]]], nslots := 204, res := [2, 3], rc := [none, some (5, true)], code := .kp [0] c_impl_DecodeTones_0 }
def c_laws_eqIntS_5 : VC :=
  .ite (.s 10) (.seq (.r 2 [⟨none, [], none, .mv 4 (.k (.bool false))⟩]) (.ret)) (.skip)
def c_laws_eqIntS_18 : VC :=
  .ite (.s 14) (.skip) (.exit 0)
def c_laws_eqIntS_25 : VC :=
  .ite (.s 25) (.seq (.r 7 [⟨none, [], none, .mv 4 (.k (.bool false))⟩]) (.ret)) (.skip)
def c_laws_eqIntS_30 : VC :=
  .r 5 [⟨none, [], none, .mv 15 (.s 5)⟩,
    ⟨none, [], none, .bin 16 .add (.s 15) (.k (.int .i64 1))⟩,
    ⟨none, [], none, .mv 5 (.s 16)⟩]
def c_laws_eqIntS_21 : VC :=
  .seq (.blk 1 (.seq (.d 6 [(0, ⟨none, [], none, .mv 17 (.s 0)⟩),
    (1, ⟨none, [], none, .mv 18 (.s 5)⟩),
    (2, ⟨none, [], none, .iadr 19 (.s 17) (.s 18) 1⟩),
    (3, ⟨none, [], none, .ld 20 (.s 19) 1 false⟩),
    (4, ⟨none, [], none, .mv 21 (.s 1)⟩),
    (5, ⟨none, [], none, .mv 22 (.s 5)⟩),
    (6, ⟨none, [], none, .iadr 23 (.s 21) (.s 22) 1⟩),
    (7, ⟨none, [], none, .ld 24 (.s 23) 1 false⟩),
    (8, ⟨none, [], none, .bin 25 .neq (.s 20) (.s 24)⟩)]) c_laws_eqIntS_25)) c_laws_eqIntS_30
def c_laws_eqIntS_15 : VC :=
  .seq (.seq (.r 4 [⟨none, [], none, .mv 11 (.s 5)⟩,
    ⟨none, [], none, .mv 12 (.s 0)⟩,
    ⟨none, [], none, .len 13 (.s 12)⟩,
    ⟨none, [], none, .bin 14 .lss (.s 11) (.s 13)⟩]) c_laws_eqIntS_18) c_laws_eqIntS_21
def c_laws_eqIntS_13 : VC :=
  .blk 0 (.loop [0, 1, 5] c_laws_eqIntS_15)
def c_laws_eqIntS_31 : VC :=
  .seq (.r 8 [⟨none, [], none, .mv 4 (.k (.bool true))⟩]) (.ret)
def c_laws_eqIntS_10 : VC :=
  .seq (.seq (.r 3 [⟨none, [], none, .mv 5 (.k (.int .i64 0))⟩]) c_laws_eqIntS_13) (.kp [] c_laws_eqIntS_31)
def c_laws_eqIntS_2 : VC :=
  .seq (.seq (.r 1 [⟨none, [], none, .mv 6 (.s 0)⟩,
    ⟨none, [], none, .len 7 (.s 6)⟩,
    ⟨none, [], none, .mv 8 (.s 1)⟩,
    ⟨none, [], none, .len 9 (.s 8)⟩,
    ⟨none, [], none, .bin 10 .neq (.s 7) (.s 9)⟩]) c_laws_eqIntS_5) c_laws_eqIntS_10
def c_laws_eqIntS_0 : VC :=
  .seq (.r 0 [⟨none, [], none, .mv 4 (.k (.bool false))⟩]) c_laws_eqIntS_2
def vf_laws_eqIntS : VF := { pm := [.ro [.ro [.sc]], .ro [.ro [.sc]]], rm := [.v [.sc]], nslots := 26, res := [4], rc := [], code := .kp [0, 1] c_laws_eqIntS_0 }
def c_laws_eqIntSS_5 : VC :=
  .ite (.s 10) (.seq (.r 2 [⟨none, [], none, .mv 4 (.k (.bool false))⟩]) (.ret)) (.skip)
def c_laws_eqIntSS_18 : VC :=
  .ite (.s 14) (.skip) (.exit 0)
def c_laws_eqIntSS_25 : VC :=
  .ite (.s 26) (.seq (.r 7 [⟨none, [], none, .mv 4 (.k (.bool false))⟩]) (.ret)) (.skip)
def c_laws_eqIntSS_30 : VC :=
  .r 5 [⟨none, [], none, .mv 15 (.s 5)⟩,
    ⟨none, [], none, .bin 16 .add (.s 15) (.k (.int .i64 1))⟩,
    ⟨none, [], none, .mv 5 (.s 16)⟩]
def c_laws_eqIntSS_21 : VC :=
  .seq (.blk 1 (.seq (.d 6 [(0, ⟨none, [], none, .mv 17 (.s 0)⟩),
    (1, ⟨none, [], none, .mv 18 (.s 5)⟩),
    (2, ⟨none, [], none, .iadr 19 (.s 17) (.s 18) 1⟩),
    (3, ⟨none, [], none, .ld 20 (.s 19) 1 false⟩),
    (4, ⟨none, [], none, .mv 21 (.s 1)⟩),
    (5, ⟨none, [], none, .mv 22 (.s 5)⟩),
    (6, ⟨none, [], none, .iadr 23 (.s 21) (.s 22) 1⟩),
    (7, ⟨none, [], none, .ld 24 (.s 23) 1 false⟩),
    (8, ⟨none, [], none, .call 25 62 [(.s 20), (.s 24)]⟩),
    (9, ⟨none, [], none, .un 26 .not (.s 25)⟩)]) c_laws_eqIntSS_25)) c_laws_eqIntSS_30
def c_laws_eqIntSS_15 : VC :=
  .seq (.seq (.r 4 [⟨none, [], none, .mv 11 (.s 5)⟩,
    ⟨none, [], none, .mv 12 (.s 0)⟩,
    ⟨none, [], none, .len 13 (.s 12)⟩,
    ⟨none, [], none, .bin 14 .lss (.s 11) (.s 13)⟩]) c_laws_eqIntSS_18) c_laws_eqIntSS_21
def c_laws_eqIntSS_13 : VC :=
  .blk 0 (.loop [0, 1, 5] c_laws_eqIntSS_15)
def c_laws_eqIntSS_31 : VC :=
  .seq (.r 8 [⟨none, [], none, .mv 4 (.k (.bool true))⟩]) (.ret)
def c_laws_eqIntSS_10 : VC :=
  .seq (.seq (.r 3 [⟨none, [], none, .mv 5 (.k (.int .i64 0))⟩]) c_laws_eqIntSS_13) (.kp [] c_laws_eqIntSS_31)
def c_laws_eqIntSS_2 : VC :=
  .seq (.seq (.r 1 [⟨none, [], none, .mv 6 (.s 0)⟩,
    ⟨none, [], none, .len 7 (.s 6)⟩,
    ⟨none, [], none, .mv 8 (.s 1)⟩,
    ⟨none, [], none, .len 9 (.s 8)⟩,
    ⟨none, [], none, .bin 10 .neq (.s 7) (.s 9)⟩]) c_laws_eqIntSS_5) c_laws_eqIntSS_10
def c_laws_eqIntSS_0 : VC :=
  .seq (.r 0 [⟨none, [], none, .mv 4 (.k (.bool false))⟩]) c_laws_eqIntSS_2
def vf_laws_eqIntSS : VF := { pm := [.ro [.ro [.ro [.sc]]], .ro [.ro [.ro [.sc]]]], rm := [.v [.sc]], nslots := 27, res := [4], rc := [], code := .kp [0, 1] c_laws_eqIntSS_0 }
def c_laws_eqTones_5 : VC :=
  .ite (.s 9) (.seq (.r 2 [⟨none, [], none, .mv 4 (.k (.bool false))⟩]) (.ret)) (.skip)
def c_laws_eqTones_13 : VC :=
  .ite (.s 14) (.seq (.r 4 [⟨none, [], none, .mv 4 (.k (.bool false))⟩]) (.ret)) (.skip)
def c_laws_eqTones_21 : VC :=
  .ite (.s 19) (.seq (.r 6 [⟨none, [], none, .mv 4 (.k (.bool false))⟩]) (.ret)) (.skip)
def c_laws_eqTones_29 : VC :=
  .ite (.s 25) (.seq (.r 8 [⟨none, [], none, .mv 4 (.k (.bool false))⟩]) (.ret)) (.skip)
def c_laws_eqTones_37 : VC :=
  .ite (.s 31) (.seq (.r 10 [⟨none, [], none, .mv 4 (.k (.bool false))⟩]) (.ret)) (.skip)
def c_laws_eqTones_42 : VC :=
  .seq (.r 11 [⟨none, [], none, .mv 4 (.k (.bool true))⟩]) (.ret)
def c_laws_eqTones_34 : VC :=
  .seq (.seq (.r 9 [⟨none, [], none, .fadr 26 (.s 2) 4⟩,
    ⟨none, [], none, .ld 27 (.s 26) 1 false⟩,
    ⟨none, [], none, .fadr 28 (.s 3) 4⟩,
    ⟨none, [], none, .ld 29 (.s 28) 1 false⟩,
    ⟨none, [], none, .call 30 40 [(.s 27), (.s 29)]⟩,
    ⟨none, [], none, .un 31 .not (.s 30)⟩]) c_laws_eqTones_37) c_laws_eqTones_42
def c_laws_eqTones_26 : VC :=
  .seq (.seq (.r 7 [⟨none, [], none, .fadr 20 (.s 2) 3⟩,
    ⟨none, [], none, .ld 21 (.s 20) 1 false⟩,
    ⟨none, [], none, .fadr 22 (.s 3) 3⟩,
    ⟨none, [], none, .ld 23 (.s 22) 1 false⟩,
    ⟨none, [], none, .call 24 40 [(.s 21), (.s 23)]⟩,
    ⟨none, [], none, .un 25 .not (.s 24)⟩]) c_laws_eqTones_29) c_laws_eqTones_34
def c_laws_eqTones_18 : VC :=
  .seq (.seq (.r 5 [⟨none, [], none, .fadr 15 (.s 2) 2⟩,
    ⟨none, [], none, .ld 16 (.s 15) 1 false⟩,
    ⟨none, [], none, .fadr 17 (.s 3) 2⟩,
    ⟨none, [], none, .ld 18 (.s 17) 1 false⟩,
    ⟨none, [], none, .bin 19 .neq (.s 16) (.s 18)⟩]) c_laws_eqTones_21) c_laws_eqTones_26
def c_laws_eqTones_10 : VC :=
  .seq (.seq (.r 3 [⟨none, [], none, .fadr 10 (.s 2) 1⟩,
    ⟨none, [], none, .ld 11 (.s 10) 1 false⟩,
    ⟨none, [], none, .fadr 12 (.s 3) 1⟩,
    ⟨none, [], none, .ld 13 (.s 12) 1 false⟩,
    ⟨none, [], none, .bin 14 .neq (.s 11) (.s 13)⟩]) c_laws_eqTones_13) c_laws_eqTones_18
def c_laws_eqTones_2 : VC :=
  .seq (.seq (.r 1 [⟨none, [], none, .fadr 5 (.s 2) 0⟩,
    ⟨none, [], none, .ld 6 (.s 5) 1 false⟩,
    ⟨none, [], none, .fadr 7 (.s 3) 0⟩,
    ⟨none, [], none, .ld 8 (.s 7) 1 false⟩,
    ⟨none, [], none, .bin 9 .neq (.s 6) (.s 8)⟩]) c_laws_eqTones_5) c_laws_eqTones_10
def c_laws_eqTones_0 : VC :=
  .seq (.r 0 [⟨none, [], none, .box 2 (.s 0)⟩,
    ⟨none, [], none, .box 3 (.s 1)⟩,
    ⟨none, [], none, .mv 4 (.k (.bool false))⟩]) c_laws_eqTones_2
def vf_laws_eqTones : VF := { pm := [.ro [.sc, .sc, .sc, .ro [.ro [.sc]], .ro [.ro [.sc]]], .ro [.sc, .sc, .sc, .ro [.ro [.sc]], .ro [.ro [.sc]]]], rm := [.v [.sc]], nslots := 32, res := [4], rc := [], code := .kp [0, 1] c_laws_eqTones_0 }
def c_laws_eqByteS_5 : VC :=
  .ite (.s 10) (.seq (.r 2 [⟨none, [], none, .mv 4 (.k (.bool false))⟩]) (.ret)) (.skip)
def c_laws_eqByteS_18 : VC :=
  .ite (.s 14) (.skip) (.exit 0)
def c_laws_eqByteS_25 : VC :=
  .ite (.s 25) (.seq (.r 7 [⟨none, [], none, .mv 4 (.k (.bool false))⟩]) (.ret)) (.skip)
def c_laws_eqByteS_30 : VC :=
  .r 5 [⟨none, [], none, .mv 15 (.s 5)⟩,
    ⟨none, [], none, .bin 16 .add (.s 15) (.k (.int .i64 1))⟩,
    ⟨none, [], none, .mv 5 (.s 16)⟩]
def c_laws_eqByteS_21 : VC :=
  .seq (.blk 1 (.seq (.d 6 [(0, ⟨none, [], none, .mv 17 (.s 0)⟩),
    (1, ⟨none, [], none, .mv 18 (.s 5)⟩),
    (2, ⟨none, [], none, .iadr 19 (.s 17) (.s 18) 1⟩),
    (3, ⟨none, [], none, .ld 20 (.s 19) 1 false⟩),
    (4, ⟨none, [], none, .mv 21 (.s 1)⟩),
    (5, ⟨none, [], none, .mv 22 (.s 5)⟩),
    (6, ⟨none, [], none, .iadr 23 (.s 21) (.s 22) 1⟩),
    (7, ⟨none, [], none, .ld 24 (.s 23) 1 false⟩),
    (8, ⟨none, [], none, .bin 25 .neq (.s 20) (.s 24)⟩)]) c_laws_eqByteS_25)) c_laws_eqByteS_30
def c_laws_eqByteS_15 : VC :=
  .seq (.seq (.r 4 [⟨none, [], none, .mv 11 (.s 5)⟩,
    ⟨none, [], none, .mv 12 (.s 0)⟩,
    ⟨none, [], none, .len 13 (.s 12)⟩,
    ⟨none, [], none, .bin 14 .lss (.s 11) (.s 13)⟩]) c_laws_eqByteS_18) c_laws_eqByteS_21
def c_laws_eqByteS_13 : VC :=
  .blk 0 (.loop [0, 1, 5] c_laws_eqByteS_15)
def c_laws_eqByteS_31 : VC :=
  .seq (.r 8 [⟨none, [], none, .mv 4 (.k (.bool true))⟩]) (.ret)
def c_laws_eqByteS_10 : VC :=
  .seq (.seq (.r 3 [⟨none, [], none, .mv 5 (.k (.int .i64 0))⟩]) c_laws_eqByteS_13) (.kp [] c_laws_eqByteS_31)
def c_laws_eqByteS_2 : VC :=
  .seq (.seq (.r 1 [⟨none, [], none, .mv 6 (.s 0)⟩,
    ⟨none, [], none, .len 7 (.s 6)⟩,
    ⟨none, [], none, .mv 8 (.s 1)⟩,
    ⟨none, [], none, .len 9 (.s 8)⟩,
    ⟨none, [], none, .bin 10 .neq (.s 7) (.s 9)⟩]) c_laws_eqByteS_5) c_laws_eqByteS_10
def c_laws_eqByteS_0 : VC :=
  .seq (.r 0 [⟨none, [], none, .mv 4 (.k (.bool false))⟩]) c_laws_eqByteS_2
def vf_laws_eqByteS : VF := { pm := [.ro [.ro [.sc]], .ro [.ro [.sc]]], rm := [.v [.sc]], nslots := 26, res := [4], rc := [], code := .kp [0, 1] c_laws_eqByteS_0 }
def c_laws_markByteS_10 : VC :=
  .ite (.s 9) (.skip) (.exit 0)
def c_laws_markByteS_17 : VC :=
  .r 5 [⟨none, [], none, .mv 17 (.s 1)⟩,
    ⟨none, [], none, .bin 18 .add (.s 17) (.k (.int .i64 1))⟩,
    ⟨none, [], none, .mv 1 (.s 18)⟩]
def c_laws_markByteS_18 : VC :=
  .r 3 [⟨none, [], none, .mv 10 (.s 5)⟩,
    ⟨none, [], none, .bin 11 .add (.s 10) (.k (.int .i64 1))⟩,
    ⟨none, [], none, .mv 5 (.s 11)⟩]
def c_laws_markByteS_13 : VC :=
  .seq (.blk 1 (.seq (.r 4 [⟨none, [], none, .mv 12 (.s 0)⟩,
    ⟨none, [], none, .mv 13 (.s 5)⟩,
    ⟨none, [], none, .mv 14 (.s 1)⟩,
    ⟨none, [], none, .conv 15 .u8 (.s 14)⟩,
    ⟨none, [], none, .iadr 16 (.s 12) (.s 13) 1⟩,
    ⟨none, [], none, .st (.s 16) (.s 15) 1⟩]) c_laws_markByteS_17)) c_laws_markByteS_18
def c_laws_markByteS_7 : VC :=
  .seq (.seq (.r 2 [⟨none, [], none, .mv 6 (.s 5)⟩,
    ⟨none, [], none, .mv 7 (.s 0)⟩,
    ⟨none, [], none, .len 8 (.s 7)⟩,
    ⟨none, [], none, .bin 9 .lss (.s 6) (.s 8)⟩]) c_laws_markByteS_10) c_laws_markByteS_13
def c_laws_markByteS_5 : VC :=
  .blk 0 (.loop [0, 1, 5] c_laws_markByteS_7)
def c_laws_markByteS_19 : VC :=
  .seq (.r 6 [⟨none, [], none, .mv 19 (.s 1)⟩,
    ⟨none, [], none, .mv 4 (.s 19)⟩]) (.ret)
def c_laws_markByteS_2 : VC :=
  .seq (.seq (.r 1 [⟨none, [], none, .mv 5 (.k (.int .i64 0))⟩]) c_laws_markByteS_5) (.kp [0, 1] c_laws_markByteS_19)
def c_laws_markByteS_0 : VC :=
  .seq (.r 0 [⟨none, [], none, .mv 4 (.k (.int .i64 0))⟩]) c_laws_markByteS_2
def vf_laws_markByteS : VF := { pm := [.ms [.sc], .ro [.sc]], rm := [.v [.sc]], nslots := 20, res := [4], rc := [], code := .kp [0, 1] c_laws_markByteS_0 }
def c_laws_markIntS_10 : VC :=
  .ite (.s 9) (.skip) (.exit 0)
def c_laws_markIntS_17 : VC :=
  .r 5 [⟨none, [], none, .mv 16 (.s 1)⟩,
    ⟨none, [], none, .bin 17 .add (.s 16) (.k (.int .i64 1))⟩,
    ⟨none, [], none, .mv 1 (.s 17)⟩]
def c_laws_markIntS_18 : VC :=
  .r 3 [⟨none, [], none, .mv 10 (.s 5)⟩,
    ⟨none, [], none, .bin 11 .add (.s 10) (.k (.int .i64 1))⟩,
    ⟨none, [], none, .mv 5 (.s 11)⟩]
def c_laws_markIntS_13 : VC :=
  .seq (.blk 1 (.seq (.r 4 [⟨none, [], none, .mv 12 (.s 0)⟩,
    ⟨none, [], none, .mv 13 (.s 5)⟩,
    ⟨none, [], none, .mv 14 (.s 1)⟩,
    ⟨none, [], none, .iadr 15 (.s 12) (.s 13) 1⟩,
    ⟨none, [], none, .st (.s 15) (.s 14) 1⟩]) c_laws_markIntS_17)) c_laws_markIntS_18
def c_laws_markIntS_7 : VC :=
  .seq (.seq (.r 2 [⟨none, [], none, .mv 6 (.s 5)⟩,
    ⟨none, [], none, .mv 7 (.s 0)⟩,
    ⟨none, [], none, .len 8 (.s 7)⟩,
    ⟨none, [], none, .bin 9 .lss (.s 6) (.s 8)⟩]) c_laws_markIntS_10) c_laws_markIntS_13
def c_laws_markIntS_5 : VC :=
  .blk 0 (.loop [0, 1, 5] c_laws_markIntS_7)
def c_laws_markIntS_19 : VC :=
  .seq (.r 6 [⟨none, [], none, .mv 18 (.s 1)⟩,
    ⟨none, [], none, .mv 4 (.s 18)⟩]) (.ret)
def c_laws_markIntS_2 : VC :=
  .seq (.seq (.r 1 [⟨none, [], none, .mv 5 (.k (.int .i64 0))⟩]) c_laws_markIntS_5) (.kp [0, 1] c_laws_markIntS_19)
def c_laws_markIntS_0 : VC :=
  .seq (.r 0 [⟨none, [], none, .mv 4 (.k (.int .i64 0))⟩]) c_laws_markIntS_2
def vf_laws_markIntS : VF := { pm := [.ms [.sc], .ro [.sc]], rm := [.v [.sc]], nslots := 19, res := [4], rc := [], code := .kp [0, 1] c_laws_markIntS_0 }
def c_laws_markIntSS_10 : VC :=
  .ite (.s 9) (.skip) (.exit 0)
def c_laws_markIntSS_16 : VC :=
  .r 3 [⟨none, [], none, .mv 10 (.s 5)⟩,
    ⟨none, [], none, .bin 11 .add (.s 10) (.k (.int .i64 1))⟩,
    ⟨none, [], none, .mv 5 (.s 11)⟩]
def c_laws_markIntSS_13 : VC :=
  .seq (.blk 1 (.r 4 [⟨none, [], none, .mv 12 (.s 0)⟩,
    ⟨none, [], none, .mv 13 (.s 5)⟩,
    ⟨none, [], none, .iadr 14 (.s 12) (.s 13) 1⟩,
    ⟨none, [], none, .ld 15 (.s 14) 1 false⟩,
    ⟨none, [], none, .mv 16 (.s 1)⟩,
    ⟨none, [], none, .call 17 63 [(.s 15), (.s 16)]⟩,
    ⟨none, [], none, .mv 1 (.s 17)⟩])) c_laws_markIntSS_16
def c_laws_markIntSS_7 : VC :=
  .seq (.seq (.r 2 [⟨none, [], none, .mv 6 (.s 5)⟩,
    ⟨none, [], none, .mv 7 (.s 0)⟩,
    ⟨none, [], none, .len 8 (.s 7)⟩,
    ⟨none, [], none, .bin 9 .lss (.s 6) (.s 8)⟩]) c_laws_markIntSS_10) c_laws_markIntSS_13
def c_laws_markIntSS_5 : VC :=
  .blk 0 (.loop [0, 1, 5] c_laws_markIntSS_7)
def c_laws_markIntSS_17 : VC :=
  .seq (.r 5 [⟨none, [], none, .mv 18 (.s 1)⟩,
    ⟨none, [], none, .mv 4 (.s 18)⟩]) (.ret)
def c_laws_markIntSS_2 : VC :=
  .seq (.seq (.r 1 [⟨none, [], none, .mv 5 (.k (.int .i64 0))⟩]) c_laws_markIntSS_5) (.kp [0, 1] c_laws_markIntSS_17)
def c_laws_markIntSS_0 : VC :=
  .seq (.r 0 [⟨none, [], none, .mv 4 (.k (.int .i64 0))⟩]) c_laws_markIntSS_2
def vf_laws_markIntSS : VF := { pm := [.ms [.own [.sc]], .ro [.sc]], rm := [.v [.sc]], nslots := 19, res := [4], rc := [], code := .kp [0, 1] c_laws_markIntSS_0 }
def c_laws_markTones_6 : VC :=
  .seq (.r 3 [⟨none, [], none, .mv 13 (.s 1)⟩,
    ⟨none, [], none, .mv 4 (.s 13)⟩]) (.ret)
def c_laws_markTones_4 : VC :=
  .seq (.r 2 [⟨none, [], none, .fadr 9 (.s 2) 4⟩,
    ⟨none, [], none, .ld 10 (.s 9) 1 false⟩,
    ⟨none, [], none, .mv 11 (.s 1)⟩,
    ⟨none, [], none, .call 12 43 [(.s 10), (.s 11)]⟩,
    ⟨none, [], none, .mv 1 (.s 12)⟩]) c_laws_markTones_6
def c_laws_markTones_2 : VC :=
  .seq (.r 1 [⟨none, [], none, .fadr 5 (.s 2) 3⟩,
    ⟨none, [], none, .ld 6 (.s 5) 1 false⟩,
    ⟨none, [], none, .mv 7 (.s 1)⟩,
    ⟨none, [], none, .call 8 43 [(.s 6), (.s 7)]⟩,
    ⟨none, [], none, .mv 1 (.s 8)⟩]) c_laws_markTones_4
def c_laws_markTones_0 : VC :=
  .seq (.r 0 [⟨none, [], none, .box 2 (.s 0)⟩,
    ⟨none, [], none, .mv 4 (.k (.int .i64 0))⟩]) c_laws_markTones_2
def vf_laws_markTones : VF := { pm := [.mg [.sc, .sc, .sc, .own [.own [.sc]], .own [.own [.sc]]], .ro [.sc]], rm := [.v [.sc]], nslots := 14, res := [4], rc := [], code := .kp [0, 1] c_laws_markTones_0 }
def c_laws_heldIntS_10 : VC :=
  .ite (.s 9) (.skip) (.exit 0)
def c_laws_heldIntS_18 : VC :=
  .ite (.s 17) (.seq (.r 5 [⟨none, [], none, .mv 4 (.k (.int .i64 (-1)))⟩]) (.ret)) (.skip)
def c_laws_heldIntS_23 : VC :=
  .r 6 [⟨none, [], none, .mv 18 (.s 1)⟩,
    ⟨none, [], none, .bin 19 .add (.s 18) (.k (.int .i64 1))⟩,
    ⟨none, [], none, .mv 1 (.s 19)⟩]
def c_laws_heldIntS_24 : VC :=
  .r 3 [⟨none, [], none, .mv 10 (.s 5)⟩,
    ⟨none, [], none, .bin 11 .add (.s 10) (.k (.int .i64 1))⟩,
    ⟨none, [], none, .mv 5 (.s 11)⟩]
def c_laws_heldIntS_13 : VC :=
  .seq (.blk 1 (.seq (.seq (.r 4 [⟨none, [], none, .mv 12 (.s 0)⟩,
    ⟨none, [], none, .mv 13 (.s 5)⟩,
    ⟨none, [], none, .iadr 14 (.s 12) (.s 13) 1⟩,
    ⟨none, [], none, .ld 15 (.s 14) 1 false⟩,
    ⟨none, [], none, .mv 16 (.s 1)⟩,
    ⟨none, [], none, .bin 17 .neq (.s 15) (.s 16)⟩]) c_laws_heldIntS_18) c_laws_heldIntS_23)) c_laws_heldIntS_24
def c_laws_heldIntS_7 : VC :=
  .seq (.seq (.r 2 [⟨none, [], none, .mv 6 (.s 5)⟩,
    ⟨none, [], none, .mv 7 (.s 0)⟩,
    ⟨none, [], none, .len 8 (.s 7)⟩,
    ⟨none, [], none, .bin 9 .lss (.s 6) (.s 8)⟩]) c_laws_heldIntS_10) c_laws_heldIntS_13
def c_laws_heldIntS_5 : VC :=
  .blk 0 (.loop [0, 1, 5] c_laws_heldIntS_7)
def c_laws_heldIntS_25 : VC :=
  .seq (.r 7 [⟨none, [], none, .mv 20 (.s 1)⟩,
    ⟨none, [], none, .mv 4 (.s 20)⟩]) (.ret)
def c_laws_heldIntS_2 : VC :=
  .seq (.seq (.r 1 [⟨none, [], none, .mv 5 (.k (.int .i64 0))⟩]) c_laws_heldIntS_5) (.kp [1] c_laws_heldIntS_25)
def c_laws_heldIntS_0 : VC :=
  .seq (.r 0 [⟨none, [], none, .mv 4 (.k (.int .i64 0))⟩]) c_laws_heldIntS_2
def vf_laws_heldIntS : VF := { pm := [.ro [.ro [.sc]], .ro [.sc]], rm := [.v [.sc]], nslots := 21, res := [4], rc := [], code := .kp [0, 1] c_laws_heldIntS_0 }
def c_laws_heldIntSS_10 : VC :=
  .ite (.s 9) (.skip) (.exit 0)
def c_laws_heldIntSS_19 : VC :=
  .ite (.s 19) (.seq (.r 6 [⟨none, [], none, .mv 4 (.k (.int .i64 (-1)))⟩]) (.ret)) (.skip)
def c_laws_heldIntSS_17 : VC :=
  .seq (.r 5 [⟨none, [], none, .mv 18 (.s 1)⟩,
    ⟨none, [], none, .bin 19 .lss (.s 18) (.k (.int .i64 0))⟩]) c_laws_heldIntSS_19
def c_laws_heldIntSS_24 : VC :=
  .r 3 [⟨none, [], none, .mv 10 (.s 5)⟩,
    ⟨none, [], none, .bin 11 .add (.s 10) (.k (.int .i64 1))⟩,
    ⟨none, [], none, .mv 5 (.s 11)⟩]
def c_laws_heldIntSS_13 : VC :=
  .seq (.blk 1 (.seq (.r 4 [⟨none, [], none, .mv 12 (.s 0)⟩,
    ⟨none, [], none, .mv 13 (.s 5)⟩,
    ⟨none, [], none, .iadr 14 (.s 12) (.s 13) 1⟩,
    ⟨none, [], none, .ld 15 (.s 14) 1 false⟩,
    ⟨none, [], none, .mv 16 (.s 1)⟩,
    ⟨none, [], none, .call 17 64 [(.s 15), (.s 16)]⟩,
    ⟨none, [], none, .mv 1 (.s 17)⟩]) c_laws_heldIntSS_17)) c_laws_heldIntSS_24
def c_laws_heldIntSS_7 : VC :=
  .seq (.seq (.r 2 [⟨none, [], none, .mv 6 (.s 5)⟩,
    ⟨none, [], none, .mv 7 (.s 0)⟩,
    ⟨none, [], none, .len 8 (.s 7)⟩,
    ⟨none, [], none, .bin 9 .lss (.s 6) (.s 8)⟩]) c_laws_heldIntSS_10) c_laws_heldIntSS_13
def c_laws_heldIntSS_5 : VC :=
  .blk 0 (.loop [0, 1, 5] c_laws_heldIntSS_7)
def c_laws_heldIntSS_25 : VC :=
  .seq (.r 7 [⟨none, [], none, .mv 20 (.s 1)⟩,
    ⟨none, [], none, .mv 4 (.s 20)⟩]) (.ret)
def c_laws_heldIntSS_2 : VC :=
  .seq (.seq (.r 1 [⟨none, [], none, .mv 5 (.k (.int .i64 0))⟩]) c_laws_heldIntSS_5) (.kp [1] c_laws_heldIntSS_25)
def c_laws_heldIntSS_0 : VC :=
  .seq (.r 0 [⟨none, [], none, .mv 4 (.k (.int .i64 0))⟩]) c_laws_heldIntSS_2
def vf_laws_heldIntSS : VF := { pm := [.ro [.ro [.ro [.sc]]], .ro [.sc]], rm := [.v [.sc]], nslots := 21, res := [4], rc := [], code := .kp [0, 1] c_laws_heldIntSS_0 }
def c_laws_heldTones_7 : VC :=
  .ite (.s 10) (.seq (.r 3 [⟨none, [], none, .mv 4 (.k (.int .i64 (-1)))⟩]) (.ret)) (.skip)
def c_laws_heldTones_17 : VC :=
  .ite (.s 16) (.seq (.r 6 [⟨none, [], none, .mv 4 (.k (.int .i64 (-1)))⟩]) (.ret)) (.skip)
def c_laws_heldTones_22 : VC :=
  .seq (.r 7 [⟨none, [], none, .mv 17 (.s 1)⟩,
    ⟨none, [], none, .mv 4 (.s 17)⟩]) (.ret)
def c_laws_heldTones_14 : VC :=
  .seq (.seq (.r 5 [⟨none, [], none, .mv 15 (.s 1)⟩,
    ⟨none, [], none, .bin 16 .lss (.s 15) (.k (.int .i64 0))⟩]) c_laws_heldTones_17) c_laws_heldTones_22
def c_laws_heldTones_12 : VC :=
  .seq (.r 4 [⟨none, [], none, .fadr 11 (.s 2) 4⟩,
    ⟨none, [], none, .ld 12 (.s 11) 1 false⟩,
    ⟨none, [], none, .mv 13 (.s 1)⟩,
    ⟨none, [], none, .call 14 44 [(.s 12), (.s 13)]⟩,
    ⟨none, [], none, .mv 1 (.s 14)⟩]) c_laws_heldTones_14
def c_laws_heldTones_4 : VC :=
  .seq (.seq (.r 2 [⟨none, [], none, .mv 9 (.s 1)⟩,
    ⟨none, [], none, .bin 10 .lss (.s 9) (.k (.int .i64 0))⟩]) c_laws_heldTones_7) c_laws_heldTones_12
def c_laws_heldTones_2 : VC :=
  .seq (.r 1 [⟨none, [], none, .fadr 5 (.s 2) 3⟩,
    ⟨none, [], none, .ld 6 (.s 5) 1 false⟩,
    ⟨none, [], none, .mv 7 (.s 1)⟩,
    ⟨none, [], none, .call 8 44 [(.s 6), (.s 7)]⟩,
    ⟨none, [], none, .mv 1 (.s 8)⟩]) c_laws_heldTones_4
def c_laws_heldTones_0 : VC :=
  .seq (.r 0 [⟨none, [], none, .box 2 (.s 0)⟩,
    ⟨none, [], none, .mv 4 (.k (.int .i64 0))⟩]) c_laws_heldTones_2
def vf_laws_heldTones : VF := { pm := [.ro [.sc, .sc, .sc, .ro [.ro [.sc]], .ro [.ro [.sc]]], .ro [.sc]], rm := [.v [.sc]], nslots := 18, res := [4], rc := [], code := .kp [0, 1] c_laws_heldTones_0 }
def c_laws_FnExactDecodeTones_5 : VC :=
  .ite (.s 15) (.seq (.r 2 [⟨none, [], none, .mv 2 (.k (.bool true))⟩]) (.ret)) (.skip)
def c_laws_FnExactDecodeTones_19 : VC :=
  .ite (.s 37) (.seq (.r 7 [⟨none, [], none, .mv 2 (.k (.bool false))⟩]) (.ret)) (.skip)
def c_laws_FnExactDecodeTones_27 : VC :=
  .ite (.s 42) (.seq (.r 9 [⟨none, [], none, .mv 2 (.k (.bool false))⟩]) (.ret)) (.skip)
def c_laws_FnExactDecodeTones_39 : VC :=
  .ite (.s 58) (.seq (.r 13 [⟨none, [], none, .mv 2 (.k (.bool false))⟩]) (.ret)) (.skip)
def c_laws_FnExactDecodeTones_55 : VC :=
  .ite (.s 66) (.seq (.r 19 [⟨none, [], none, .mv 2 (.k (.bool false))⟩]) (.ret)) (.skip)
def c_laws_FnExactDecodeTones_63 : VC :=
  .ite (.s 69) (.seq (.r 21 [⟨none, [], none, .mv 2 (.k (.bool false))⟩]) (.ret)) (.skip)
def c_laws_FnExactDecodeTones_73 : VC :=
  .ite (.s 84) (.seq (.r 24 [⟨none, [], none, .mv 2 (.k (.bool false))⟩]) (.ret)) (.skip)
def c_laws_FnExactDecodeTones_85 : VC :=
  .ite (.s 89) (.seq (.r 28 [⟨none, [], none, .mv 2 (.k (.bool false))⟩]) (.ret)) (.skip)
def c_laws_FnExactDecodeTones_93 : VC :=
  .ite (.s 92) (.seq (.r 30 [⟨none, [], none, .mv 2 (.k (.bool false))⟩]) (.ret)) (.skip)
def c_laws_FnExactDecodeTones_98 : VC :=
  .seq (.r 31 [⟨none, [], none, .mv 2 (.k (.bool true))⟩]) (.ret)
def c_laws_FnExactDecodeTones_90 : VC :=
  .seq (.seq (.r 29 [⟨none, [], none, .mv 90 (.s 10)⟩,
    ⟨none, [], none, .mv 91 (.s 9)⟩,
    ⟨none, [], none, .bin 92 .neq (.s 90) (.s 91)⟩]) c_laws_FnExactDecodeTones_93) c_laws_FnExactDecodeTones_98
def c_laws_FnExactDecodeTones_82 : VC :=
  .seq (.seq (.r 27 [⟨none, [], none, .mv 88 (.s 10)⟩,
    ⟨none, [], none, .bin 89 .lss (.s 88) (.k (.int .i64 0))⟩]) c_laws_FnExactDecodeTones_85) c_laws_FnExactDecodeTones_90
def c_laws_FnExactDecodeTones_80 : VC :=
  .seq (.r 26 [⟨none, [], none, .ld 85 (.s 7) 5 true⟩,
    ⟨none, [], none, .mv 86 (.s 10)⟩,
    ⟨none, [], none, .call 87 24 [(.s 85), (.s 86)]⟩,
    ⟨none, [], none, .mv 10 (.s 87)⟩]) c_laws_FnExactDecodeTones_82
def c_laws_FnExactDecodeTones_78 : VC :=
  .seq (.r 25 [⟨none, [], none, .mv 10 (.k (.int .i64 1))⟩]) c_laws_FnExactDecodeTones_80
def c_laws_FnExactDecodeTones_70 : VC :=
  .seq (.seq (.r 23 [⟨none, [], none, .mv 76 (.s 11)⟩,
    ⟨none, [], none, .mv 77 (.s 3)⟩,
    ⟨none, [], none, .bin 78 .neq (.s 76) (.s 77)⟩,
    ⟨none, [], none, .mv 79 (.s 78)⟩,
    ⟨none, [], some (79, false), .ld 80 (.s 12) 5 true⟩,
    ⟨none, [], some (79, false), .ld 81 (.s 4) 5 true⟩,
    ⟨none, [], some (79, false), .call 82 17 [(.s 80), (.s 81)]⟩,
    ⟨none, [], some (79, false), .un 83 .not (.s 82)⟩,
    ⟨none, [], none, .pick 84 (.s 79) (.k (.bool true)) (.s 83)⟩]) c_laws_FnExactDecodeTones_73) c_laws_FnExactDecodeTones_78
def c_laws_FnExactDecodeTones_68 : VC :=
  .seq (.r 22 [⟨none, [], none, .mv 71 (.s 0)⟩,
    ⟨none, [], none, .call 72 22 [(.s 71)]⟩,
    ⟨none, [], none, .call 73 23 [(.s 72)]⟩,
    ⟨none, [], none, .mv 70 (.s 73)⟩,
    ⟨none, [], none, .ext 74 (.s 70) 0⟩,
    ⟨none, [], none, .ext 75 (.s 70) 1⟩,
    ⟨none, [], none, .alloc 12 [.k (.int .i64 0), .k (.int .i64 0), .k (.int .i64 0), .o [.own [.sc]], .o [.own [.sc]]]⟩,
    ⟨none, [], none, .mv 11 (.s 74)⟩,
    ⟨none, [], none, .st (.s 12) (.s 75) 5⟩]) c_laws_FnExactDecodeTones_70
def c_laws_FnExactDecodeTones_60 : VC :=
  .seq (.seq (.r 20 [⟨none, [], none, .mv 67 (.s 10)⟩,
    ⟨none, [], none, .mv 68 (.s 9)⟩,
    ⟨none, [], none, .bin 69 .neq (.s 67) (.s 68)⟩]) c_laws_FnExactDecodeTones_63) c_laws_FnExactDecodeTones_68
def c_laws_FnExactDecodeTones_52 : VC :=
  .seq (.seq (.r 18 [⟨none, [], none, .mv 65 (.s 10)⟩,
    ⟨none, [], none, .bin 66 .lss (.s 65) (.k (.int .i64 0))⟩]) c_laws_FnExactDecodeTones_55) c_laws_FnExactDecodeTones_60
def c_laws_FnExactDecodeTones_50 : VC :=
  .seq (.r 17 [⟨none, [], none, .ld 62 (.s 7) 5 true⟩,
    ⟨none, [], none, .mv 63 (.s 10)⟩,
    ⟨none, [], none, .call 64 24 [(.s 62), (.s 63)]⟩,
    ⟨none, [], none, .mv 10 (.s 64)⟩]) c_laws_FnExactDecodeTones_52
def c_laws_FnExactDecodeTones_48 : VC :=
  .seq (.r 16 [⟨none, [], none, .mv 10 (.k (.int .i64 1))⟩]) c_laws_FnExactDecodeTones_50
def c_laws_FnExactDecodeTones_46 : VC :=
  .seq (.r 15 [⟨none, [], none, .ld 59 (.s 7) 5 true⟩,
    ⟨none, [], none, .mv 60 (.s 9)⟩,
    ⟨none, [], none, .call 61 18 [(.s 59), (.s 60)]⟩,
    ⟨none, [], none, .mv 9 (.s 61)⟩]) c_laws_FnExactDecodeTones_48
def c_laws_FnExactDecodeTones_44 : VC :=
  .seq (.r 14 [⟨none, [], none, .mv 9 (.k (.int .i64 1))⟩]) c_laws_FnExactDecodeTones_46
def c_laws_FnExactDecodeTones_36 : VC :=
  .seq (.seq (.r 12 [⟨none, [], none, .mv 46 (.s 8)⟩,
    ⟨none, [], none, .bin 47 .lss (.s 46) (.k (.int .i64 0))⟩,
    ⟨none, [], none, .mv 48 (.s 47)⟩,
    ⟨none, [], some (48, false), .mv 49 (.s 6)⟩,
    ⟨none, [], some (48, false), .mv 50 (.s 3)⟩,
    ⟨none, [], some (48, false), .bin 51 .neq (.s 49) (.s 50)⟩,
    ⟨none, [], none, .pick 52 (.s 48) (.k (.bool true)) (.s 51)⟩,
    ⟨none, [], none, .mv 53 (.s 52)⟩,
    ⟨none, [], some (53, false), .ld 54 (.s 7) 5 true⟩,
    ⟨none, [], some (53, false), .ld 55 (.s 4) 5 true⟩,
    ⟨none, [], some (53, false), .call 56 17 [(.s 54), (.s 55)]⟩,
    ⟨none, [], some (53, false), .un 57 .not (.s 56)⟩,
    ⟨none, [], none, .pick 58 (.s 53) (.k (.bool true)) (.s 57)⟩]) c_laws_FnExactDecodeTones_39) c_laws_FnExactDecodeTones_44
def c_laws_FnExactDecodeTones_34 : VC :=
  .seq (.r 11 [⟨none, [], none, .mv 43 (.s 5)⟩,
    ⟨none, [], none, .mv 44 (.s 8)⟩,
    ⟨none, [], none, .call 45 19 [(.s 43), (.s 44)]⟩,
    ⟨none, [], none, .mv 8 (.s 45)⟩]) c_laws_FnExactDecodeTones_36
def c_laws_FnExactDecodeTones_32 : VC :=
  .seq (.r 10 [⟨none, [], none, .mv 8 (.k (.int .i64 1))⟩]) c_laws_FnExactDecodeTones_34
def c_laws_FnExactDecodeTones_24 : VC :=
  .seq (.seq (.r 8 [⟨none, [], none, .mv 38 (.s 5)⟩,
    ⟨none, [], none, .mv 39 (.s 0)⟩,
    ⟨none, [], none, .call 40 22 [(.s 39)]⟩,
    ⟨none, [], none, .call 41 16 [(.s 38), (.s 40)]⟩,
    ⟨none, [], none, .un 42 .not (.s 41)⟩]) c_laws_FnExactDecodeTones_27) c_laws_FnExactDecodeTones_32
def c_laws_FnExactDecodeTones_16 : VC :=
  .seq (.seq (.r 6 [⟨none, [], none, .mv 29 (.s 6)⟩,
    ⟨none, [], none, .mv 30 (.s 3)⟩,
    ⟨none, [], none, .bin 31 .neq (.s 29) (.s 30)⟩,
    ⟨none, [], none, .mv 32 (.s 31)⟩,
    ⟨none, [], some (32, false), .ld 33 (.s 7) 5 true⟩,
    ⟨none, [], some (32, false), .ld 34 (.s 4) 5 true⟩,
    ⟨none, [], some (32, false), .call 35 17 [(.s 33), (.s 34)]⟩,
    ⟨none, [], some (32, false), .un 36 .not (.s 35)⟩,
    ⟨none, [], none, .pick 37 (.s 32) (.k (.bool true)) (.s 36)⟩]) c_laws_FnExactDecodeTones_19) c_laws_FnExactDecodeTones_24
def c_laws_FnExactDecodeTones_14 : VC :=
  .seq (.r 5 [⟨none, [], none, .mv 25 (.s 5)⟩,
    ⟨none, [], none, .call 26 23 [(.s 25)]⟩,
    ⟨none, [], none, .mv 24 (.s 26)⟩,
    ⟨none, [], none, .ext 27 (.s 24) 0⟩,
    ⟨none, [], none, .ext 28 (.s 24) 1⟩,
    ⟨none, [], none, .alloc 7 [.k (.int .i64 0), .k (.int .i64 0), .k (.int .i64 0), .o [.own [.sc]], .o [.own [.sc]]]⟩,
    ⟨none, [], none, .mv 6 (.s 27)⟩,
    ⟨none, [], none, .st (.s 7) (.s 28) 5⟩]) c_laws_FnExactDecodeTones_16
def c_laws_FnExactDecodeTones_12 : VC :=
  .seq (.r 4 [⟨none, [], none, .mv 22 (.s 0)⟩,
    ⟨none, [], none, .call 23 22 [(.s 22)]⟩,
    ⟨none, [], none, .mv 5 (.s 23)⟩]) c_laws_FnExactDecodeTones_14
def c_laws_FnExactDecodeTones_10 : VC :=
  .seq (.r 3 [⟨none, [], none, .mv 17 (.s 0)⟩,
    ⟨none, [], none, .call 18 22 [(.s 17)]⟩,
    ⟨none, [], none, .call 19 21 [(.s 18)]⟩,
    ⟨none, [], none, .mv 16 (.s 19)⟩,
    ⟨none, [], none, .ext 20 (.s 16) 0⟩,
    ⟨none, [], none, .ext 21 (.s 16) 1⟩,
    ⟨none, [], none, .alloc 4 [.k (.int .i64 0), .k (.int .i64 0), .k (.int .i64 0), .o [.own [.sc]], .o [.own [.sc]]]⟩,
    ⟨none, [], none, .mv 3 (.s 20)⟩,
    ⟨none, [], none, .st (.s 4) (.s 21) 5⟩]) c_laws_FnExactDecodeTones_12
def c_laws_FnExactDecodeTones_2 : VC :=
  .seq (.seq (.r 1 [⟨none, [], none, .mv 13 (.s 0)⟩,
    ⟨none, [], none, .len 14 (.s 13)⟩,
    ⟨none, [], none, .bin 15 .gtr (.s 14) (.k (.int .i64 1048576))⟩]) c_laws_FnExactDecodeTones_5) c_laws_FnExactDecodeTones_10
def c_laws_FnExactDecodeTones_0 : VC :=
  .seq (.r 0 [⟨none, [], none, .mv 2 (.k (.bool false))⟩]) c_laws_FnExactDecodeTones_2
def vf_laws_FnExactDecodeTones : VF := { pm := [.ro [.ro [.sc]]], rm := [.v [.sc]], nslots := 93, res := [2], rc := [], code := .kp [0] c_laws_FnExactDecodeTones_0 }
def ext : FuncId → List Arg → Option FRes := fun _ _ => none
def tblL : List (FuncId × VF) := [(22, vf_laws_toByteS), (212, vf_spec_l1Bit), (160, vf_spec_l1Take), (84, vf_spec_l10R_fail), (82, vf_spec_l10R_take), (81, vf_spec_l10R_mark), (83, vf_spec_l11Head), (85, vf_spec_l11Slots), (161, vf_spec_Unfold), (86, vf_spec_l10R_folded), (87, vf_spec_l10R_fill), (21, vf_spec_DecodeTones), (88, vf_impl_DecodeTonesC1), (89, vf_impl_zmagic), (91, vf_impl_ztake_bit), (90, vf_impl_ztake_take), (92, vf_impl_Unfold), (93, vf_impl_ztake_fill), (23, vf_impl_DecodeTones), (62, vf_laws_eqIntS), (40, vf_laws_eqIntSS), (17, vf_laws_eqTones), (16, vf_laws_eqByteS), (19, vf_laws_markByteS), (63, vf_laws_markIntS), (43, vf_laws_markIntSS), (18, vf_laws_markTones), (64, vf_laws_heldIntS), (44, vf_laws_heldIntSS), (24, vf_laws_heldTones), (4, vf_laws_FnExactDecodeTones)]
def tbl : FuncId → Option VF := fun f => tblL.lookup f
end Go.Proofs.V

/- printed by a program: the plain functions, the code and the proofs of one law -/
set_option linter.unusedVariables false
set_option maxRecDepth 100000
namespace Go.Proofs.V
open Go
theorem fi_laws_toByteS : funcIs Go.Proofs.Try.prog tbl 22 vf_laws_toByteS = true := by kernel_rfl
theorem fi_spec_l1Bit : funcIs Go.Proofs.Try.prog tbl 212 vf_spec_l1Bit = true := by kernel_rfl
theorem fi_spec_l1Take : funcIs Go.Proofs.Try.prog tbl 160 vf_spec_l1Take = true := by kernel_rfl
theorem fi_spec_l10R_fail : funcIs Go.Proofs.Try.prog tbl 84 vf_spec_l10R_fail = true := by kernel_rfl
theorem fi_spec_l10R_take : funcIs Go.Proofs.Try.prog tbl 82 vf_spec_l10R_take = true := by kernel_rfl
theorem fi_spec_l10R_mark : funcIs Go.Proofs.Try.prog tbl 81 vf_spec_l10R_mark = true := by kernel_rfl
theorem fi_spec_l11Head : funcIs Go.Proofs.Try.prog tbl 83 vf_spec_l11Head = true := by kernel_rfl
theorem fi_spec_l11Slots : funcIs Go.Proofs.Try.prog tbl 85 vf_spec_l11Slots = true := by kernel_rfl
theorem fi_spec_Unfold : funcIs Go.Proofs.Try.prog tbl 161 vf_spec_Unfold = true := by kernel_rfl
theorem fi_spec_l10R_folded : funcIs Go.Proofs.Try.prog tbl 86 vf_spec_l10R_folded = true := by kernel_rfl
theorem fi_spec_l10R_fill : funcIs Go.Proofs.Try.prog tbl 87 vf_spec_l10R_fill = true := by kernel_rfl
theorem fi_spec_DecodeTones : funcIs Go.Proofs.Try.prog tbl 21 vf_spec_DecodeTones = true := by kernel_rfl
theorem fi_impl_DecodeTonesC1 : funcIs Go.Proofs.Try.prog tbl 88 vf_impl_DecodeTonesC1 = true := by kernel_rfl
theorem fi_impl_zmagic : funcIs Go.Proofs.Try.prog tbl 89 vf_impl_zmagic = true := by kernel_rfl
theorem fi_impl_ztake_bit : funcIs Go.Proofs.Try.prog tbl 91 vf_impl_ztake_bit = true := by kernel_rfl
theorem fi_impl_ztake_take : funcIs Go.Proofs.Try.prog tbl 90 vf_impl_ztake_take = true := by kernel_rfl
theorem fi_impl_Unfold : funcIs Go.Proofs.Try.prog tbl 92 vf_impl_Unfold = true := by kernel_rfl
theorem fi_impl_ztake_fill : funcIs Go.Proofs.Try.prog tbl 93 vf_impl_ztake_fill = true := by kernel_rfl
theorem fi_impl_DecodeTones : funcIs Go.Proofs.Try.prog tbl 23 vf_impl_DecodeTones = true := by kernel_rfl
theorem fi_laws_eqIntS : funcIs Go.Proofs.Try.prog tbl 62 vf_laws_eqIntS = true := by kernel_rfl
theorem fi_laws_eqIntSS : funcIs Go.Proofs.Try.prog tbl 40 vf_laws_eqIntSS = true := by kernel_rfl
theorem fi_laws_eqTones : funcIs Go.Proofs.Try.prog tbl 17 vf_laws_eqTones = true := by kernel_rfl
theorem fi_laws_eqByteS : funcIs Go.Proofs.Try.prog tbl 16 vf_laws_eqByteS = true := by kernel_rfl
theorem fi_laws_markByteS : funcIs Go.Proofs.Try.prog tbl 19 vf_laws_markByteS = true := by kernel_rfl
theorem fi_laws_markIntS : funcIs Go.Proofs.Try.prog tbl 63 vf_laws_markIntS = true := by kernel_rfl
theorem fi_laws_markIntSS : funcIs Go.Proofs.Try.prog tbl 43 vf_laws_markIntSS = true := by kernel_rfl
theorem fi_laws_markTones : funcIs Go.Proofs.Try.prog tbl 18 vf_laws_markTones = true := by kernel_rfl
theorem fi_laws_heldIntS : funcIs Go.Proofs.Try.prog tbl 64 vf_laws_heldIntS = true := by kernel_rfl
theorem fi_laws_heldIntSS : funcIs Go.Proofs.Try.prog tbl 44 vf_laws_heldIntSS = true := by kernel_rfl
theorem fi_laws_heldTones : funcIs Go.Proofs.Try.prog tbl 24 vf_laws_heldTones = true := by kernel_rfl
theorem fi_laws_FnExactDecodeTones : funcIs Go.Proofs.Try.prog tbl 4 vf_laws_FnExactDecodeTones = true := by kernel_rfl
end Go.Proofs.V
