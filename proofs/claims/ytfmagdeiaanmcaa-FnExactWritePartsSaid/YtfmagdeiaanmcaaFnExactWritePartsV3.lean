/- The law of WriteParts: the program's way: the pile. -/
import Derived.Test.YtfmagdeiaanmcaaFnExactWritePartsV2
import Derived.Test.YtfmagdeiaanmcaaProg
import Derived.KernelRfl
set_option linter.unusedVariables false
set_option linter.unusedSimpArgs false
namespace Go.Proofs.V
open Go
theorem i_zrange (l : List Int) (n : Nat) (hl : l.length = n) (hb : n ≤ 1048576) : m_impl_zrange l 0 40 (n : Int) = some (l.all fun x => decide (0 ≤ x ∧ x ≤ 40)) := by
  unfold m_impl_zrange m_impl_zrange_0
  rw [if_neg (by simp; omega), all_list (l := l) (q := fun x => decide (0 ≤ x ∧ x ≤ 40)) (by omega) (fun i hi => ?_) ?_]
  · cases l.all fun x => decide (0 ≤ x ∧ x ≤ 40) <;> rfl
  · simp only [lp_impl_zrange_15, m_impl_zrange_15]
    rw [if_neg (by simp)]
  · simp only [lp_impl_zrange_15, m_impl_zrange_15, decide_eq_true_eq]
    rw [if_pos (by omega), rd_eq hi, w64_succ (by omega)]
    simp only [Option.bind_some]
    by_cases h1 : l[i] < 0
    · rw [if_pos h1, if_neg (by omega)]
    · rw [if_neg h1]
      by_cases h2 : l[i] > 40
      · rw [if_pos h2, if_neg (by omega)]
      · rw [if_neg h2, if_pos (by omega)]
theorem upTo_len (p : S_Piled) (hs : WpS p) : ∀ i, i ≤ p.parts.length → (upTo p i).length ≤ 6 + i * 1048585
  | 0, _ => by simp [upTo, mk6]
  | i + 1, h => by
    have h1 := upTo_len p hs i (by omega)
    have h2 := ptAt_len hs i
    rw [upTo_succ p i (by omega)]
    have : (pc p i).length = (ptAt p i).length + 9 := pc_len _ _ _
    simp only [List.length_append, this]
    omega
theorem i_pile (p : S_Piled) (hs : WpS p) (hk : p.keys.length = p.parts.length) (hst : p.steps.length = p.parts.length) (hok : ∀ i, i < p.parts.length → stOk p i) : m_impl_zpile p = some (pile p) := by
  unfold m_impl_zpile m_impl_zpile_0
  have hn := hs.2.2.1
  have key := loopM_fun (b := lp_impl_zpile_9 p) (fun i (s : List Int) => ((i : Int), s)) p.parts.length (fun i => upTo p i) (e := pile p) (fun i hi => ?_) ?_
  · simp only [upTo_zero, mk6, show ((0 : Nat) : Int) = 0 from rfl] at key
    rw [key]
    rfl
  · obtain ⟨h1, h2⟩ := hok i hi
    have hpl := ptAt_len hs i
    have hul := upTo_len p hs i (by omega)
    have hul2 : i * 1048585 ≤ 1048576 * 1048585 := Nat.mul_le_mul_right _ (by omega)
    have tail : ∀ b : Int, wr .u8 b = hbOf (stAt p i) (kyAt p i) → m_impl_zpile_27 (ptAt p i) p (i : Int) (upTo p i) b = some (.inl (((i + 1 : Nat) : Int), upTo p (i + 1))) := by
      intro b hb
      unfold m_impl_zpile_27
      rw [hb, i_four]
      simp only [Option.bind_some]
      have hl := headB_len (stAt p i) (kyAt p i) (ptAt p i)
      rw [ck_eq (by simp [four]), Option.bind_some, ck_eq (by simp [four]; omega), Option.bind_some]
      rw [show ([hbOf (stAt p i) (kyAt p i)] ++ four (ptAt p i).length) ++ ptAt p i = headB (stAt p i) (kyAt p i) (ptAt p i) from rfl]
      have hc := crcN_eq (headB (stAt p i) (kyAt p i) (ptAt p i))
      rw [ck_eq (by rw [hl]; omega), Option.bind_some, impl_crc _ (by omega), Option.bind_some, hc.1, w64_id (by omega) (by omega), i_four, Option.bind_some]
      rw [ck_eq (by simp only [List.length_append, hl]; simp [four]; omega), Option.bind_some, w64_succ (by omega)]
      rw [upTo_succ p i hi]
      simp only [pc, pcOf, List.append_assoc]
    simp only [lp_impl_zpile_9, m_impl_zpile_9, decide_eq_true_eq]
    rw [if_pos (by omega), ptAt_eq p i hi, stAt_eq p i (by omega), kyAt_eq p i (by omega)]
    simp only [Option.bind_some]
    cases hky : kyAt p i with
    | true =>
      rw [if_pos rfl]
      apply tail
      rw [hky, w64_id (by omega) (by omega), wu8_id (by omega) (by omega)]
      rfl
    | false =>
      rw [if_neg (by decide)]
      apply tail
      rw [hky, wu8_id (by omega) (by omega)]
      rfl
  · simp only [lp_impl_zpile_9, m_impl_zpile_9]
    rw [if_neg (by simp)]
    rfl
-- ---------------------------------------------------------------- reading the pile
theorem hb_parts (s : Int) (h : 0 ≤ s ∧ s ≤ 40) (k : Bool) : andI .u8 (hbOf s k) 127 = s ∧ decide (hbOf s k > 127) = k ∧ 0 ≤ hbOf s k ∧ hbOf s k ≤ 168 := by
  obtain ⟨n, rfl⟩ : ∃ n : Nat, s = n := ⟨s.toNat, by omega⟩
  have hn : n ≤ 40 := by omega
  have key : ∀ m : Fin 41, (andI .u8 ((m.val : Int) + 128) 127 = (m.val : Int)) ∧ andI .u8 (m.val : Int) 127 = (m.val : Int) := by decide +kernel
  have := key ⟨n, by omega⟩
  cases k with
  | true => exact ⟨this.1, by simp [hbOf]; omega, by simp [hbOf]; omega, by simp [hbOf]; omega⟩
  | false => exact ⟨this.2, by simp [hbOf]; omega, by simp [hbOf], by simp [hbOf]; omega⟩
def restAt (p : S_Piled) (i : Nat) : List Int := ((pcs p).drop i).flatten
theorem rest_succ (p : S_Piled) (i : Nat) (h : i < p.parts.length) : restAt p i = pc p i ++ restAt p (i + 1) := by
  unfold restAt
  rw [List.drop_eq_getElem_cons (by rw [pcs_len]; exact h), pcs_at p i h]
  simp
theorem pile_rest (p : S_Piled) : pile p = mk6 p ++ restAt p 0 := by
  unfold pile upTo restAt
  rw [List.drop_zero, List.take_of_length_le (by rw [pcs_len]; exact Nat.le_refl _)]
theorem rest_len (p : S_Piled) : ∀ (d i : Nat), i + d = p.parts.length → (restAt p i).length ≤ (restAt p 0).length
  | d, 0, h => Nat.le_refl _
  | d, i + 1, h => by
    have h1 := rest_len p (d + 1) i (by omega)
    rw [rest_succ p i (by omega)] at h1
    simp at h1
    omega
/-- what the loop's answer must be -/
def RdR (p : S_Piled) (W H : Int) (e : (Int × Int × List Bool × List Int × List (List Int)) ⊕ S_Piled) : Prop :=
  (∃ ks ss ps, e = .inl (W, H, ks, ss, ps) ∧ ps.length = p.parts.length ∧ p.parts.length ≤ 24 ∧ (p.parts.length : Int) * W * H ≤ 8192 ∧ (1 ≤ p.parts.length → kyAt p 0 = true)) ∨
  (∃ q, e = .inr q ∧ q.err ≠ 0 ∧ ¬ (p.parts.length ≤ 24 ∧ (p.parts.length : Int) * W * H ≤ 8192 ∧ kyAt p 0 = true))
theorem mul_mono3 {a b : Int} {W H : Int} (h : a ≤ b) (hW : 0 ≤ W) (hH : 0 ≤ H) : a * W * H ≤ b * W * H := Int.mul_le_mul_of_nonneg_right (Int.mul_le_mul_of_nonneg_right h hW) hH
theorem rd_loop (p : S_Piled) (hs : WpS p) (hok : ∀ i, i < p.parts.length → stOk p i) (W H : Int) (hW : 8 ≤ W ∧ W ≤ 64) (hH : 8 ≤ H ∧ H ≤ 64) (hlen : (restAt p 0).length ≤ 60000) :
    ∀ (d i : Nat) (ks : List Bool) (ss : List Int) (ps : List (List Int)), i + d = p.parts.length → ks.length = i → ss.length = i → ps.length = i → i ≤ 24 → (i : Int) * W * H ≤ 8192 → (1 ≤ i → kyAt p 0 = true) →
    ∃ e, loopM lp_impl_ReadParts_40 (restAt p i, W, H, ks, ss, ps) = some e ∧ RdR p W H e
  | 0, i, ks, ss, ps, h, hk, hss, hps, h24, hWH, hky => by
    have : i = p.parts.length := by omega
    subst this
    have e0 : restAt p p.parts.length = [] := by unfold restAt; rw [List.drop_of_length_le (by rw [pcs_len]; exact Nat.le_refl _)]; rfl
    refine ⟨.inl (W, H, ks, ss, ps), ?_, .inl ⟨ks, ss, ps, rfl, hps, h24, hWH, hky⟩⟩
    rw [loopM_eq, e0]
    simp [lp_impl_ReadParts_40, m_impl_ReadParts_40]
  | d + 1, i, ks, ss, ps, h, hk, hss, hps, h24, hWH, hky => by
    have hi : i < p.parts.length := by omega
    obtain ⟨st1, st2⟩ := hok i hi
    have hpl := ptAt_len hs i
    have hrl := rest_len p (d + 1) i (by omega)
    rw [loopM_eq]
    simp only [lp_impl_ReadParts_40]
    have hpc : pc p i = headB (stAt p i) (kyAt p i) (ptAt p i) ++ four (crcN (headB (stAt p i) (kyAt p i) (ptAt p i))) := rfl
    have hlB := headB_len (stAt p i) (kyAt p i) (ptAt p i)
    have hcN := crcN_eq (headB (stAt p i) (kyAt p i) (ptAt p i))
    generalize hBd : headB (stAt p i) (kyAt p i) (ptAt p i) = B at hpc hlB hcN
    generalize hNd : crcN B = N at hpc hcN
    have hD : restAt p i = B ++ (four N ++ restAt p (i + 1)) := by rw [rest_succ p i hi, hpc, List.append_assoc]
    have hDl : (restAt p i).length = (ptAt p i).length + 9 + (restAt p (i + 1)).length := by rw [hD]; simp [four, hlB]; omega
    have hB : B = hbOf (stAt p i) (kyAt p i) :: (four (ptAt p i).length ++ ptAt p i) := by rw [← hBd]; rfl
    have d1 : (restAt p i).drop (Int.toNat 1) = four (ptAt p i).length ++ (ptAt p i ++ (four N ++ restAt p (i + 1))) := by rw [hD, hB]; simp
    have r0 : rd (restAt p i) 0 = some (hbOf (stAt p i) (kyAt p i)) := by rw [hD, hB]; rfl
    have hn5 : w64 (5 + ((ptAt p i).length : Int)) = ((B.length : Nat) : Int) := by rw [w64_id (by omega) (by omega), hlB]; push_cast; omega
    have d5 : (restAt p i).drop (Int.toNat ((B.length : Nat) : Int)) = four N ++ restAt p (i + 1) := by rw [hD, Int.toNat_natCast]; simp
    have t5 : ((restAt p i).take (Int.toNat ((B.length : Nat) : Int))).drop 0 = B := by rw [hD, Int.toNat_natCast]; simp
    obtain ⟨b1, b2, b3, b4⟩ := hb_parts (stAt p i) ⟨st1, st2⟩ (kyAt p i)
    have g1 := i_get4 (ptAt p i).length (by omega) (ptAt p i ++ (four N ++ restAt p (i + 1)))
    have g5 := i_get4 N hcN.2 (restAt p (i + 1))
    unfold m_impl_ReadParts_40
    simp only [decide_eq_true_eq]
    rw [if_pos (by omega), if_neg (by omega), ck_eq (by omega), Option.bind_some, d1, g1, Option.bind_some, w64_id (x := ((restAt p i).length : Int) - 9) (by omega) (by omega), decide_eq_false (by omega)]
    unfold m_impl_ReadParts_50
    rw [if_neg (by decide), ck_eq (by omega), Option.bind_some, d1, g1, Option.bind_some, r0, Option.bind_some, b1, w64_id (x := stAt p i) (by omega) (by omega), if_neg (by simp; omega), hn5, ck_eq (by omega), Option.bind_some, d5, g5, Option.bind_some, t5]
    rw [impl_crc _ (by omega), Option.bind_some, hcN.1, w64_id (x := (N : Int)) (by omega) (by omega), if_neg (by simp), b2]
    -- behind the checks of one piece
    have go : (kyAt p 0 = true) → ∃ y, m_impl_ReadParts_77 (restAt p i) W H ks ss ps ((B.length : Nat) : Int) (stAt p i) (kyAt p i) false = some y ∧
        ((∃ s' e, y = .inl s' ∧ loopM lp_impl_ReadParts_40 s' = some e ∧ RdR p W H e) ∨ ∃ e, y = .inr e ∧ RdR p W H e) := by
      intro hky0
      have hps' : (ps.length : Int) = (i : Int) := by omega
      unfold m_impl_ReadParts_77
      rw [if_neg (by decide), hps']
      by_cases c24 : i = 24
      · subst c24
        rw [if_pos (by decide)]
        exact ⟨_, rfl, .inr ⟨.inr (S_Piled.mk 7 0 0 [] [] []), rfl, .inr ⟨_, rfl, by decide, fun hh => by omega⟩⟩⟩
      · rw [if_neg (by simp; omega)]
        have hb1 : ((i : Int) + 1) * W ≤ 25 * 64 := Int.mul_le_mul (by omega) (by omega) (by omega) (by omega)
        have hb0 : 0 ≤ ((i : Int) + 1) * W := Int.mul_nonneg (by omega) (by omega)
        have hb2 : ((i : Int) + 1) * W * H ≤ (25 * 64) * 64 := Int.mul_le_mul hb1 (by omega) (by omega) (by omega)
        have hb3 : 0 ≤ ((i : Int) + 1) * W * H := Int.mul_nonneg hb0 (by omega)
        rw [w64_id (x := (i : Int) + 1) (by omega) (by omega), w64_id (x := ((i : Int) + 1) * W) (by omega) (by omega), w64_id (x := ((i : Int) + 1) * W * H) (by omega) (by omega)]
        unfold m_impl_ReadParts_83
        by_cases c8 : ((i : Int) + 1) * W * H > 8192
        · rw [decide_eq_true c8, if_pos rfl]
          refine ⟨_, rfl, .inr ⟨.inr (S_Piled.mk 7 0 0 [] [] []), rfl, .inr ⟨_, rfl, by decide, fun hh => ?_⟩⟩⟩
          have := mul_mono3 (a := (i : Int) + 1) (b := (p.parts.length : Int)) (W := W) (H := H) (by omega) (by omega) (by omega)
          have := hh.2.1
          omega
        · rw [decide_eq_false c8, if_neg (by decide)]
          rw [ck_eq (by simp; omega), Option.bind_some, ck_eq (by simp; omega), Option.bind_some, ck_eq (by omega), Option.bind_some, ck_eq (by omega), Option.bind_some]
          have ht5 : ((restAt p i).take (Int.toNat ((B.length : Nat) : Int))).drop (Int.toNat 5) = ptAt p i := by
            have : (restAt p i).take (Int.toNat ((B.length : Nat) : Int)) = B := by simpa using t5
            rw [this, hB]
            simp [four]
          rw [ht5, ck_eq (by simp; omega), Option.bind_some, ck_eq (by simp; omega), Option.bind_some]
          have hn9 : w64 (((B.length : Nat) : Int) + 4) = ((B.length + 4 : Nat) : Int) := by rw [w64_id (by omega) (by omega)]; push_cast; rfl
          rw [hn9, ck_eq (by omega), Option.bind_some]
          have hd9 : (restAt p i).drop (Int.toNat ((B.length + 4 : Nat) : Int)) = restAt p (i + 1) := by
            rw [Int.toNat_natCast, hD, ← List.drop_drop]
            simp [four]
          rw [hd9]
          obtain ⟨e, k1, k2⟩ := rd_loop p hs hok W H hW hH hlen d (i + 1) (ks ++ [kyAt p i]) (ss ++ [stAt p i]) (ps ++ [[] ++ ptAt p i]) (by omega) (by simp [hk]) (by simp [hss]) (by simp [hps]) (by omega) (by push_cast; omega) (fun _ => hky0)
          exact ⟨_, rfl, .inl ⟨_, e, rfl, k1, k2⟩⟩
    by_cases c0 : i = 0
    · subst c0
      have hps0 : ps = [] := List.eq_nil_of_length_eq_zero hps
      rw [if_pos (by simp [hps0])]
      by_cases hky0 : kyAt p 0 = true
      · obtain ⟨y, k1, k2⟩ := go hky0
        rw [hky0] at k1 ⊢
        rw [show (!true) = false from rfl, k1]
        rcases k2 with ⟨s', e, rfl, k3, k4⟩ | ⟨e, rfl, k4⟩
        · exact ⟨e, k3, k4⟩
        · exact ⟨e, rfl, k4⟩
      · have hky0' : kyAt p 0 = false := by simpa using hky0
        rw [hky0']
        refine ⟨.inr (S_Piled.mk 6 0 0 [] [] []), rfl, .inr ⟨_, rfl, by decide, fun hh => by rw [hky0'] at hh; simp at hh⟩⟩
    · rw [if_neg (by simp; intro e; rw [e] at hps; simp at hps; omega)]
      obtain ⟨y, k1, k2⟩ := go (hky (by omega))
      rw [k1]
      rcases k2 with ⟨s', e, rfl, k3, k4⟩ | ⟨e, rfl, k4⟩
      · exact ⟨e, k3, k4⟩
      · exact ⟨e, rfl, k4⟩
end Go.Proofs.V

/- The law of WriteParts: both ways are one. -/
set_option linter.unusedVariables false
set_option linter.unusedSimpArgs false
namespace Go.Proofs.V
open Go
theorem zmag_ok (t : List Int) (ht : t.length ≤ 60000) : m_impl_zmagic ([86, 73, 68, 49] ++ t) (ByteArray.mk #[86, 73, 68, 49]) = some 0 := by
  unfold m_impl_zmagic m_impl_zmagic_0
  have key := loopM_fun (b := lp_impl_zmagic_7 ([86, 73, 68, 49] ++ t) (ByteArray.mk #[86, 73, 68, 49])) (fun i (s : Unit) => (i : Int)) 4 (fun _ => ()) (e := .inr ()) (fun i hi => ?_) ?_
  · simp only [show ((0 : Nat) : Int) = 0 from rfl] at key
    rw [key]
    rfl
  · have hsz : ((ByteArray.mk #[86, 73, 68, 49]).size : Int) = 4 := rfl
    have hl : (([86, 73, 68, 49] ++ t).length : Int) = 4 + t.length := by simp; omega
    simp only [lp_impl_zmagic_7, m_impl_zmagic_7, hsz, hl, decide_eq_true_eq]
    rw [if_pos (by omega), if_neg (by omega)]
    have hc : i = 0 ∨ i = 1 ∨ i = 2 ∨ i = 3 := by omega
    rcases hc with rfl | rfl | rfl | rfl
    · rfl
    · rfl
    · rfl
    · rfl
  · rfl
theorem s8 {x : Int} (h : x % 8 = 0) (h1 : 8 ≤ x) (h2 : x ≤ 64) : w64 (8 * w64 (wr .u8 (w64 (Int.tdiv x 8)))) = x := by
  rw [Int.tdiv_eq_ediv_of_nonneg (by omega), w64_id (x := x / 8) (by omega) (by omega), wu8_id (by omega) (by omega), w64_id (x := x / 8) (by omega) (by omega), w64_id (by omega) (by omega)]
  omega
/-- what is read of the pile -/
theorem i_read (p : S_Piled) (hs : WpS p) (hok : ∀ i, i < p.parts.length → stOk p i) (hsd : sidesOk p.width p.height = true) (hl : (pile p).length ≤ 60000) :
    ∃ q, m_impl_ReadParts (pile p) = some q ∧
      ((q.err = 0 ∧ q.parts.length = p.parts.length ∧ 1 ≤ p.parts.length ∧ p.parts.length ≤ 24 ∧ (p.parts.length : Int) * p.width * p.height ≤ 8192 ∧ kyAt p 0 = true) ∨
       (q.err ≠ 0 ∧ ¬ (1 ≤ p.parts.length ∧ p.parts.length ≤ 24 ∧ (p.parts.length : Int) * p.width * p.height ≤ 8192 ∧ kyAt p 0 = true))) := by
  have hsd' := hsd
  simp only [sidesOk, decide_eq_true_eq] at hsd'
  have hp := pile_rest p
  have hm : mk6 p = [86, 73, 68, 49] ++ [wr .u8 (w64 (Int.tdiv p.width 8)), wr .u8 (w64 (Int.tdiv p.height 8))] := rfl
  have hp2 : pile p = [86, 73, 68, 49] ++ ([wr .u8 (w64 (Int.tdiv p.width 8)), wr .u8 (w64 (Int.tdiv p.height 8))] ++ restAt p 0) := by rw [hp, hm, List.append_assoc]
  have hl2 : (pile p).length = 6 + (restAt p 0).length := by rw [hp2]; simp; omega
  have r4 : rd (pile p) 4 = some (wr .u8 (w64 (Int.tdiv p.width 8))) := by rw [hp2]; rfl
  have r5 : rd (pile p) 5 = some (wr .u8 (w64 (Int.tdiv p.height 8))) := by rw [hp2]; rfl
  have d6 : (pile p).drop (Int.toNat 6) = restAt p 0 := by rw [hp2]; rfl
  have hz : m_impl_zmagic (pile p) (ByteArray.mk #[86, 73, 68, 49]) = some 0 := by rw [hp2]; exact zmag_ok _ (by simp; omega)
  unfold m_impl_ReadParts m_impl_ReadParts_0
  simp only [decide_eq_true_eq]
  rw [if_neg (by omega), hz, Option.bind_some, if_neg (by decide), if_neg (by omega), r4, Option.bind_some, r5, Option.bind_some, s8 hsd'.1 hsd'.2.2.1 hsd'.2.2.2.1, s8 hsd'.2.1 hsd'.2.2.2.2.1 hsd'.2.2.2.2.2, i_sides14, Option.bind_some, if_pos hsd, ck_eq (by omega), Option.bind_some, d6]
  obtain ⟨e, k1, k2⟩ := rd_loop p hs hok p.width p.height ⟨hsd'.2.2.1, hsd'.2.2.2.1⟩ ⟨hsd'.2.2.2.2.1, hsd'.2.2.2.2.2⟩ (by omega) p.parts.length 0 [] [] [] (by omega) rfl rfl rfl (by omega) (by simp) (by omega)
  rw [k1]
  rcases k2 with ⟨ks, ss, ps, rfl, g1, g2, g3, g4⟩ | ⟨q, rfl, g1, g2⟩
  · simp only [Option.bind_some, m_impl_ReadParts_95]
    by_cases h0 : ps.length = 0
    · rw [if_pos (by simp [h0])]
      exact ⟨_, rfl, .inr ⟨by decide, fun hh => by omega⟩⟩
    · rw [if_neg (by simp only [beq_iff_eq]; omega)]
      exact ⟨_, rfl, .inl ⟨rfl, g1, by omega, g2, g3, g4 (by omega)⟩⟩
  · exact ⟨q, rfl, .inr ⟨g1, fun hh => g2 ⟨hh.2.1, hh.2.2⟩⟩⟩
open Classical in
theorem impl_wp (p : S_Piled) (hs : WpS p) : m_impl_WriteParts p = some (if wpOk p then pile p else []) := by
  unfold m_impl_WriteParts m_impl_WriteParts_0
  by_cases c1 : p.err = 0
  rotate_left
  · rw [if_pos (by simpa using c1), if_neg (fun h => c1 h.1)]
  rw [if_neg (by simpa using c1)]
  by_cases c5 : p.keys.length = p.parts.length
  rotate_left
  · rw [if_pos (by simp only [bne_iff_ne, ne_eq]; omega), if_neg (fun h => c5 h.2.2.2.2.1)]
  rw [if_neg (by simp only [bne_iff_ne, ne_eq]; omega)]
  by_cases c6 : p.steps.length = p.parts.length
  rotate_left
  · rw [if_pos (by simp only [bne_iff_ne, ne_eq]; omega), if_neg (fun h => c6 h.2.2.2.2.2.1)]
  rw [if_neg (by simp only [bne_iff_ne, ne_eq]; omega), i_zrange p.steps p.parts.length c6 hs.2.2.1]
  simp only [Option.bind_some]
  by_cases c9 : ∀ i, i < p.parts.length → stOk p i
  rotate_left
  · have : ¬ (p.steps.all fun x => decide (0 ≤ x ∧ x ≤ 40)) = true := by
      intro h
      apply c9
      intro i hi
      have hi' : i < p.steps.length := by omega
      have h2 := List.all_eq_true.1 h p.steps[i] (List.getElem_mem hi')
      have h3 : stAt p i = p.steps[i] := by unfold stAt; rw [List.getD_eq_getElem?_getD, List.getElem?_eq_getElem hi']; rfl
      unfold stOk
      rw [h3]
      simpa using h2
    rw [if_neg this, if_neg (fun h => c9 h.2.2.2.2.2.2.2.2.1)]
  have hall : (p.steps.all fun x => decide (0 ≤ x ∧ x ≤ 40)) = true := by
    rw [List.all_eq_true]
    intro x hx
    obtain ⟨i, hi, rfl⟩ := List.getElem_of_mem hx
    have h2 := c9 i (by omega)
    have h3 : stAt p i = p.steps[i] := by unfold stAt; rw [List.getD_eq_getElem?_getD, List.getElem?_eq_getElem hi]; rfl
    unfold stOk at h2
    rw [h3] at h2
    simpa using h2
  rw [if_pos hall, i_sides14]
  simp only [Option.bind_some]
  by_cases c2 : sidesOk p.width p.height = true
  rotate_left
  · rw [if_neg c2, if_neg (fun h => c2 h.2.1)]
  rw [if_pos c2, i_pile p hs c5 c6 c9]
  simp only [Option.bind_some]
  by_cases c10 : (pile p).length ≤ 60000
  rotate_left
  · have hbad : m_impl_ReadParts (pile p) = some (S_Piled.mk 1 0 0 [] [] []) := by
      unfold m_impl_ReadParts m_impl_ReadParts_0
      rw [if_pos (decide_eq_true (by omega))]
      rfl
    rw [hbad]
    simp only [Option.bind_some]
    rw [if_pos (by decide), if_neg (fun h => c10 h.2.2.2.2.2.2.2.2.2)]
  obtain ⟨q, k1, k2⟩ := i_read p hs c9 c2 c10
  rw [k1]
  simp only [Option.bind_some]
  rcases k2 with ⟨g1, g2, g3, g4, g5, g6⟩ | ⟨g1, g2⟩
  · rw [if_neg (by simp [g1]), if_neg (by simp [g2]), if_pos ⟨c1, c2, g3, g4, c5, c6, g6, g5, c9, c10⟩]
  · rw [if_pos (by simpa using g1), if_neg (fun h => g2 ⟨h.2.2.1, h.2.2.2.1, h.2.2.2.2.2.2.2.1, h.2.2.2.2.2.2.1⟩)]
end Go.Proofs.V

/- printed by a program: what the helpers of a law answer -/
set_option linter.unusedSimpArgs false
set_option linter.unusedVariables false
set_option maxRecDepth 100000
namespace Go.Proofs.V
open Go
def wfS_Piled (x : S_Piled) : Prop := inK .i64 x.err ∧ inK .i64 x.width ∧ inK .i64 x.height ∧ (x.keys.length ≤ maxLen ∧ ∀ y0 ∈ x.keys, True) ∧ (x.steps.length ≤ maxLen ∧ ∀ y0 ∈ x.steps, inK .i64 y0) ∧ (x.parts.length ≤ maxLen ∧ ∀ y0 ∈ x.parts, (y0.length ≤ maxLen ∧ ∀ y1 ∈ y0, inK .u8 y1)) ∧ True
theorem sz_BoolS (x : (List Bool)) (hx : (x.length ≤ maxLen ∧ ∀ y0 ∈ x, True)) (left : Int) (h0 : 0 ≤ left) (h1 : left ≤ 1048576) : ∃ v, m_laws_szBoolS x left = some v ∧ (v < 0 ∨ 0 ≤ v ∧ v ≤ left ∧ x.length ≤ 1048576) := by
  have hm : x.length ≤ 9223372036854775807 := hx.1
  simp only [m_laws_szBoolS, m_laws_szBoolS_0]
  rw [w64_id (by omega) (by omega)]
  simp only [decide_eq_true_eq]
  by_cases h : left - (x.length : Int) < 0
  · exact ⟨-1, if_pos h, .inl (by omega)⟩
  · exact ⟨_, if_neg h, .inr ⟨by omega, by omega, by omega⟩⟩

theorem sz_IntS (x : (List Int)) (hx : (x.length ≤ maxLen ∧ ∀ y0 ∈ x, inK .i64 y0)) (left : Int) (h0 : 0 ≤ left) (h1 : left ≤ 1048576) : ∃ v, m_laws_szIntS x left = some v ∧ (v < 0 ∨ 0 ≤ v ∧ v ≤ left ∧ x.length ≤ 1048576) := by
  have hm : x.length ≤ 9223372036854775807 := hx.1
  simp only [m_laws_szIntS, m_laws_szIntS_0]
  rw [w64_id (by omega) (by omega)]
  simp only [decide_eq_true_eq]
  by_cases h : left - (x.length : Int) < 0
  · exact ⟨-1, if_pos h, .inl (by omega)⟩
  · exact ⟨_, if_neg h, .inr ⟨by omega, by omega, by omega⟩⟩

theorem sz_ByteS (x : (List Int)) (hx : (x.length ≤ maxLen ∧ ∀ y0 ∈ x, inK .u8 y0)) (left : Int) (h0 : 0 ≤ left) (h1 : left ≤ 1048576) : ∃ v, m_laws_szByteS x left = some v ∧ (v < 0 ∨ 0 ≤ v ∧ v ≤ left ∧ x.length ≤ 1048576) := by
  have hm : x.length ≤ 9223372036854775807 := hx.1
  simp only [m_laws_szByteS, m_laws_szByteS_0]
  rw [w64_id (by omega) (by omega)]
  simp only [decide_eq_true_eq]
  by_cases h : left - (x.length : Int) < 0
  · exact ⟨-1, if_pos h, .inl (by omega)⟩
  · exact ⟨_, if_neg h, .inr ⟨by omega, by omega, by omega⟩⟩

theorem sz_ByteSS (x : (List (List Int))) (hx : (x.length ≤ maxLen ∧ ∀ y0 ∈ x, (y0.length ≤ maxLen ∧ ∀ y1 ∈ y0, inK .u8 y1))) (left : Int) (h0 : 0 ≤ left) (h1 : left ≤ 1048576) : ∃ v, m_laws_szByteSS x left = some v ∧ (v < 0 ∨ 0 ≤ v ∧ v ≤ left ∧ (x.length ≤ 1048576 ∧ ∀ y0 ∈ x, y0.length ≤ 1048576)) := by
  have hm : x.length ≤ 9223372036854775807 := hx.1
  simp only [m_laws_szByteSS, m_laws_szByteSS_0, m_laws_szByteSS_35]
  rw [w64_id (by omega) (by omega)]
  simp only [decide_eq_true_eq]
  by_cases h : left - (x.length : Int) < 0
  · exact ⟨-1, if_pos h, .inl (by omega)⟩
  rw [if_neg h]
  have key := sz_list (l := x) (b := lp_laws_szByteSS_17 x) (Sm := fun y => y.length ≤ 1048576) (fun left i hi h0 h1 => ?_) (fun left => ?_) (left - x.length) (by omega) (by omega)
  · obtain ⟨e, he, hr⟩ := key
    rw [he]
    rcases hr with rfl | ⟨s, rfl, h3, h4, h5⟩
    · exact ⟨-1, rfl, .inl (by omega)⟩
    · exact ⟨s, rfl, .inr ⟨h3, by omega, by omega, h5⟩⟩
  · simp only [lp_laws_szByteSS_17, m_laws_szByteSS_17]
    rw [if_pos (by simp <;> omega), rd_eq hi]
    simp only [Option.bind_some]
    obtain ⟨v, hv, hc⟩ := sz_ByteS x[i] (hx.2 _ (List.getElem_mem hi)) left h0 h1
    rw [hv]
    simp only [Option.bind_some]
    rcases hc with hc | hc
    · left; rw [if_pos (by simpa using hc)]
    · right; rw [if_neg (by simp <;> omega), w64_succ (by omega)]
      exact ⟨_, rfl, hc.1, hc.2.1, hc.2.2⟩
  · simp only [lp_laws_szByteSS_17, m_laws_szByteSS_17]
    rw [if_neg (by simp)]

def Sm_S_Piled (x : S_Piled) : Prop := x.keys.length ≤ 1048576 ∧ x.steps.length ≤ 1048576 ∧ (x.parts.length ≤ 1048576 ∧ ∀ y0 ∈ x.parts, y0.length ≤ 1048576)
theorem sz_Piled (x : S_Piled) (hx : wfS_Piled x) (left : Int) (h0 : 0 ≤ left) (h1 : left ≤ 1048576) : ∃ v, m_laws_szPiled x left = some v ∧ (v < 0 ∨ 0 ≤ v ∧ v ≤ left ∧ Sm_S_Piled x) := by
  simp only [m_laws_szPiled, m_laws_szPiled_0]
  obtain ⟨v1, e1, c1⟩ := sz_BoolS x.keys (hx.2.2.2.1) left (by omega) (by omega)
  rw [e1]
  simp only [Option.bind_some, decide_eq_true_eq]
  rcases c1 with c1 | ⟨d1, f1, g1⟩
  · exact ⟨-1, by rw [if_pos c1], .inl (by omega)⟩
  rw [if_neg (by omega)]
  obtain ⟨v2, e2, c2⟩ := sz_IntS x.steps (hx.2.2.2.2.1) v1 (by omega) (by omega)
  rw [e2]
  simp only [Option.bind_some, decide_eq_true_eq]
  rcases c2 with c2 | ⟨d2, f2, g2⟩
  · exact ⟨-1, by rw [if_pos c2], .inl (by omega)⟩
  rw [if_neg (by omega)]
  obtain ⟨v3, e3, c3⟩ := sz_ByteSS x.parts (hx.2.2.2.2.2.1) v2 (by omega) (by omega)
  rw [e3]
  simp only [Option.bind_some, decide_eq_true_eq]
  rcases c3 with c3 | ⟨d3, f3, g3⟩
  · exact ⟨-1, by rw [if_pos c3], .inl (by omega)⟩
  rw [if_neg (by omega)]
  exact ⟨_, rfl, .inr ⟨by omega, by omega, g1, g2, g3⟩⟩

theorem to_BoolS (x : (List Bool)) (hx : x.length ≤ 1048576) : m_laws_toBoolS x = some x := by
  have hl : x.length ≤ 1048576 := hx
  simp only [m_laws_toBoolS, m_laws_toBoolS_0, m_laws_toBoolS_19]
  rw [ck_eq (by omega)]
  simp only [Option.bind_some]
  suffices key : ∀ z, loopM (lp_laws_toBoolS_9 x) (0, List.replicate (Int.toNat (x.length : Int)) z) = some x by
    rw [key]
    rfl
  intro z
  refine to_list (l := x) (fun i out hi ho => ?_) (fun out => ?_) z
  · simp only [lp_laws_toBoolS_9, m_laws_toBoolS_9]
    rw [if_pos (by simp <;> omega), rd_eq hi]
    simp only [Option.bind_some]
    rw [rd_eq (by omega)]
    simp only [Option.bind_some]
    rw [w64_succ (by omega)]
  · simp only [lp_laws_toBoolS_9, m_laws_toBoolS_9]
    rw [if_neg (by simp)]

theorem to_IntS (x : (List Int)) (hx : x.length ≤ 1048576) : m_laws_toIntS x = some x := by
  have hl : x.length ≤ 1048576 := hx
  simp only [m_laws_toIntS, m_laws_toIntS_0, m_laws_toIntS_19]
  rw [ck_eq (by omega)]
  simp only [Option.bind_some]
  suffices key : ∀ z, loopM (lp_laws_toIntS_9 x) (0, List.replicate (Int.toNat (x.length : Int)) z) = some x by
    rw [key]
    rfl
  intro z
  refine to_list (l := x) (fun i out hi ho => ?_) (fun out => ?_) z
  · simp only [lp_laws_toIntS_9, m_laws_toIntS_9]
    rw [if_pos (by simp <;> omega), rd_eq hi]
    simp only [Option.bind_some]
    rw [rd_eq (by omega)]
    simp only [Option.bind_some]
    rw [w64_succ (by omega)]
  · simp only [lp_laws_toIntS_9, m_laws_toIntS_9]
    rw [if_neg (by simp)]

theorem to_ByteS (x : (List Int)) (hx : x.length ≤ 1048576) : m_laws_toByteS x = some x := by
  have hl : x.length ≤ 1048576 := hx
  simp only [m_laws_toByteS, m_laws_toByteS_0, m_laws_toByteS_19]
  rw [ck_eq (by omega)]
  simp only [Option.bind_some]
  suffices key : ∀ z, loopM (lp_laws_toByteS_9 x) (0, List.replicate (Int.toNat (x.length : Int)) z) = some x by
    rw [key]
    rfl
  intro z
  refine to_list (l := x) (fun i out hi ho => ?_) (fun out => ?_) z
  · simp only [lp_laws_toByteS_9, m_laws_toByteS_9]
    rw [if_pos (by simp <;> omega), rd_eq hi]
    simp only [Option.bind_some]
    rw [rd_eq (by omega)]
    simp only [Option.bind_some]
    rw [w64_succ (by omega)]
  · simp only [lp_laws_toByteS_9, m_laws_toByteS_9]
    rw [if_neg (by simp)]

theorem to_ByteSS (x : (List (List Int))) (hx : (x.length ≤ 1048576 ∧ ∀ y0 ∈ x, y0.length ≤ 1048576)) : m_laws_toByteSS x = some x := by
  have hl : x.length ≤ 1048576 := hx.1
  simp only [m_laws_toByteSS, m_laws_toByteSS_0, m_laws_toByteSS_19]
  rw [ck_eq (by omega)]
  simp only [Option.bind_some]
  suffices key : ∀ z, loopM (lp_laws_toByteSS_9 x) (0, List.replicate (Int.toNat (x.length : Int)) z) = some x by
    rw [key]
    rfl
  intro z
  refine to_list (l := x) (fun i out hi ho => ?_) (fun out => ?_) z
  · simp only [lp_laws_toByteSS_9, m_laws_toByteSS_9]
    rw [if_pos (by simp <;> omega), rd_eq hi]
    simp only [Option.bind_some]
    rw [to_ByteS x[i] (hx.2 _ (List.getElem_mem hi))]
    simp only [Option.bind_some]
    rw [rd_eq (by omega)]
    simp only [Option.bind_some]
    rw [w64_succ (by omega)]
  · simp only [lp_laws_toByteSS_9, m_laws_toByteSS_9]
    rw [if_neg (by simp)]

theorem to_Piled (x : S_Piled) (hx : Sm_S_Piled x) : m_laws_toPiled x = some x := by
  simp only [m_laws_toPiled, m_laws_toPiled_0]
  rw [to_BoolS x.keys hx.1]
  simp only [Option.bind_some]
  rw [to_IntS x.steps hx.2.1]
  simp only [Option.bind_some]
  rw [to_ByteSS x.parts hx.2.2]
  simp only [Option.bind_some]

theorem eq_ByteS (x : (List Int)) (hx : x.length ≤ 1048576) : m_laws_eqByteS x x = some true := by
  have hl : x.length ≤ 1048576 := hx
  simp only [m_laws_eqByteS, m_laws_eqByteS_0, m_laws_eqByteS_31]
  rw [if_neg (by simp)]
  suffices key : loopM (lp_laws_eqByteS_15 x x) 0 = some (.inr ()) by
    rw [key]
    rfl
  refine eq_list (n := x.length) (fun i hi => ?_) ?_
  · simp only [lp_laws_eqByteS_15, m_laws_eqByteS_15]
    rw [if_pos (by simp <;> omega), rd_eq hi]
    simp only [Option.bind_some]
    rw [if_neg (by simp), w64_succ (by omega)]
  · simp only [lp_laws_eqByteS_15, m_laws_eqByteS_15]
    rw [if_neg (by simp)]

theorem eq_BoolS (x : (List Bool)) (hx : x.length ≤ 1048576) : m_laws_eqBoolS x x = some true := by
  have hl : x.length ≤ 1048576 := hx
  simp only [m_laws_eqBoolS, m_laws_eqBoolS_0, m_laws_eqBoolS_31]
  rw [if_neg (by simp)]
  suffices key : loopM (lp_laws_eqBoolS_15 x x) 0 = some (.inr ()) by
    rw [key]
    rfl
  refine eq_list (n := x.length) (fun i hi => ?_) ?_
  · simp only [lp_laws_eqBoolS_15, m_laws_eqBoolS_15]
    rw [if_pos (by simp <;> omega), rd_eq hi]
    simp only [Option.bind_some]
    rw [if_pos (by simp), w64_succ (by omega)]
  · simp only [lp_laws_eqBoolS_15, m_laws_eqBoolS_15]
    rw [if_neg (by simp)]

theorem eq_IntS (x : (List Int)) (hx : x.length ≤ 1048576) : m_laws_eqIntS x x = some true := by
  have hl : x.length ≤ 1048576 := hx
  simp only [m_laws_eqIntS, m_laws_eqIntS_0, m_laws_eqIntS_31]
  rw [if_neg (by simp)]
  suffices key : loopM (lp_laws_eqIntS_15 x x) 0 = some (.inr ()) by
    rw [key]
    rfl
  refine eq_list (n := x.length) (fun i hi => ?_) ?_
  · simp only [lp_laws_eqIntS_15, m_laws_eqIntS_15]
    rw [if_pos (by simp <;> omega), rd_eq hi]
    simp only [Option.bind_some]
    rw [if_neg (by simp), w64_succ (by omega)]
  · simp only [lp_laws_eqIntS_15, m_laws_eqIntS_15]
    rw [if_neg (by simp)]

theorem eq_ByteSS (x : (List (List Int))) (hx : (x.length ≤ 1048576 ∧ ∀ y0 ∈ x, y0.length ≤ 1048576)) : m_laws_eqByteSS x x = some true := by
  have hl : x.length ≤ 1048576 := hx.1
  simp only [m_laws_eqByteSS, m_laws_eqByteSS_0, m_laws_eqByteSS_31]
  rw [if_neg (by simp)]
  suffices key : loopM (lp_laws_eqByteSS_15 x x) 0 = some (.inr ()) by
    rw [key]
    rfl
  refine eq_list (n := x.length) (fun i hi => ?_) ?_
  · simp only [lp_laws_eqByteSS_15, m_laws_eqByteSS_15]
    rw [if_pos (by simp <;> omega), rd_eq hi]
    simp only [Option.bind_some]
    rw [eq_ByteS x[i] (hx.2 _ (List.getElem_mem hi))]
    simp only [Option.bind_some, if_true]
    rw [w64_succ (by omega)]
  · simp only [lp_laws_eqByteSS_15, m_laws_eqByteSS_15]
    rw [if_neg (by simp)]

theorem eq_Piled (x : S_Piled) (hx : Sm_S_Piled x) : m_laws_eqPiled x x = some true := by
  simp only [m_laws_eqPiled, m_laws_eqPiled_0]
  rw [if_neg (by simp)]
  rw [if_neg (by simp)]
  rw [if_neg (by simp)]
  rw [eq_BoolS x.keys hx.1]
  simp only [Option.bind_some, if_true]
  rw [eq_IntS x.steps hx.2.1]
  simp only [Option.bind_some, if_true]
  rw [eq_ByteSS x.parts hx.2.2]
  simp only [Option.bind_some, if_true]

theorem mark_BoolS (x : (List Bool)) (k : Nat) (hx : x.length ≤ 1048576) (hk : k + 1048576 ≤ 4611686018427387904) : ∃ (x' : (List Bool)) (k' : Nat), m_laws_markBoolS x k = some ((k' : Int), x') ∧ x'.length = x.length ∧ k ≤ k' ∧ k' ≤ k + 1048576 := by
  have hl : x.length ≤ 1048576 := hx
  have hlc : x.length * 1 ≤ 1048576 := by omega
  have key := mark_list0 (Sm := fun y => True) 1 (b := lp_laws_markBoolS_7) (fun l i k hi hl hk hs => ?_) (fun l k => ?_) x k hl (by omega) (fun _ _ => trivial)
  · obtain ⟨l1, k1, e1, e2, e3, e4⟩ := key
    refine ⟨l1, k1, ?_, e2, e3, by omega⟩
    · simp only [m_laws_markBoolS, m_laws_markBoolS_0]
      rw [e1]
      rfl
  · refine ⟨(Int.tmod (k : Int) 3 == 0), k + 1, ?_, by omega, by omega⟩
    · simp only [lp_laws_markBoolS_7, m_laws_markBoolS_7]
      rw [if_pos (by simp <;> omega), rd_eq hi]
      simp only [Option.bind_some]
      rw [w64_succ (by omega), w64_succ (by omega)]
      simp
  · simp only [lp_laws_markBoolS_7, m_laws_markBoolS_7]
    rw [if_neg (by simp)]

theorem mark_IntS (x : (List Int)) (k : Nat) (hx : x.length ≤ 1048576) (hk : k + 1048576 ≤ 4611686018427387904) : ∃ (x' : (List Int)) (k' : Nat), m_laws_markIntS x k = some ((k' : Int), x') ∧ x'.length = x.length ∧ k ≤ k' ∧ k' ≤ k + 1048576 := by
  have hl : x.length ≤ 1048576 := hx
  have hlc : x.length * 1 ≤ 1048576 := by omega
  have key := mark_list0 (Sm := fun y => True) 1 (b := lp_laws_markIntS_7) (fun l i k hi hl hk hs => ?_) (fun l k => ?_) x k hl (by omega) (fun _ _ => trivial)
  · obtain ⟨l1, k1, e1, e2, e3, e4⟩ := key
    refine ⟨l1, k1, ?_, e2, e3, by omega⟩
    · simp only [m_laws_markIntS, m_laws_markIntS_0]
      rw [e1]
      rfl
  · refine ⟨(k : Int), k + 1, ?_, by omega, by omega⟩
    · simp only [lp_laws_markIntS_7, m_laws_markIntS_7]
      rw [if_pos (by simp <;> omega), rd_eq hi]
      simp only [Option.bind_some]
      rw [w64_succ (by omega), w64_succ (by omega)]
      simp
  · simp only [lp_laws_markIntS_7, m_laws_markIntS_7]
    rw [if_neg (by simp)]

theorem mark_ByteS (x : (List Int)) (k : Nat) (hx : x.length ≤ 1048576) (hk : k + 1048576 ≤ 4611686018427387904) : ∃ (x' : (List Int)) (k' : Nat), m_laws_markByteS x k = some ((k' : Int), x') ∧ x'.length = x.length ∧ k ≤ k' ∧ k' ≤ k + 1048576 ∧ m_laws_heldByteS x' k = some (k' : Int) := by
  have hl : x.length ≤ 1048576 := hx
  have hlc : x.length * 1 ≤ 1048576 := by omega
  have key := mark_list (Sm := fun y => True) 1 (b := lp_laws_markByteS_7) (bh := lp_laws_heldByteS_7) (fun l i k hi hl hk hs => ?_) (fun l k => ?_) (fun l k => ?_) x k hl (by omega) (fun _ _ => trivial)
  · obtain ⟨l1, k1, e1, e2, e3, e4, e5⟩ := key
    refine ⟨l1, k1, ?_, e2, e3, by omega, ?_⟩
    · simp only [m_laws_markByteS, m_laws_markByteS_0]
      rw [e1]
      rfl
    · simp only [m_laws_heldByteS, m_laws_heldByteS_0]
      rw [e5]
      rfl
  · refine ⟨(wr .u8 (k : Int)), k + 1, ?_, by omega, by omega, fun l' h' hl' hx' => ?_⟩
    · simp only [lp_laws_markByteS_7, m_laws_markByteS_7]
      rw [if_pos (by simp <;> omega), rd_eq hi]
      simp only [Option.bind_some]
      rw [w64_succ (by omega), w64_succ (by omega)]
      simp
    · simp only [lp_laws_heldByteS_7, m_laws_heldByteS_7]
      rw [if_pos (by simp <;> omega), rd_eq h', hx']
      simp only [Option.bind_some]
      rw [if_neg (by simp), w64_succ (by omega), w64_succ (by omega)]
  · simp only [lp_laws_markByteS_7, m_laws_markByteS_7]
    rw [if_neg (by simp)]
  · simp only [lp_laws_heldByteS_7, m_laws_heldByteS_7]
    rw [if_neg (by simp)]

theorem mark_ByteSS (x : (List (List Int))) (k : Nat) (hx : (x.length ≤ 1048576 ∧ ∀ y0 ∈ x, y0.length ≤ 1048576)) (hk : k + 1099511627776 ≤ 4611686018427387904) : ∃ (x' : (List (List Int))) (k' : Nat), m_laws_markByteSS x k = some ((k' : Int), x') ∧ x'.length = x.length ∧ k ≤ k' ∧ k' ≤ k + 1099511627776 := by
  have hl : x.length ≤ 1048576 := hx.1
  have hlc : x.length * 1048576 ≤ 1099511627776 := by omega
  have key := mark_list0 (Sm := fun y => y.length ≤ 1048576) 1048576 (b := lp_laws_markByteSS_7) (fun l i k hi hl hk hs => ?_) (fun l k => ?_) x k hl (by omega) hx.2
  · obtain ⟨l1, k1, e1, e2, e3, e4⟩ := key
    refine ⟨l1, k1, ?_, e2, e3, by omega⟩
    · simp only [m_laws_markByteSS, m_laws_markByteSS_0]
      rw [e1]
      rfl
  · obtain ⟨y, k2, f1, f2, f3, f4, f5⟩ := mark_ByteS l[i] k hs (by omega)
    refine ⟨y, k2, ?_, f3, f4⟩
    · simp only [lp_laws_markByteSS_7, m_laws_markByteSS_7]
      rw [if_pos (by simp <;> omega), rd_eq hi]
      simp only [Option.bind_some]
      rw [f1]
      simp only [Option.bind_some]
      rw [ck_eq f2]
      simp only [Option.bind_some]
      rw [w64_succ (by omega)]
      simp
  · simp only [lp_laws_markByteSS_7, m_laws_markByteSS_7]
    rw [if_neg (by simp)]

theorem mark_Piled (x : S_Piled) (k : Nat) (hx : Sm_S_Piled x) (hk : k + 1099513724928 ≤ 4611686018427387904) : ∃ (l_keys : (List Bool)) (l_steps : (List Int)) (l_parts : (List (List Int))) (k' : Nat), m_laws_markPiled x k = some ((k' : Int), (⟨x.err, x.width, x.height, l_keys, l_steps, l_parts⟩ : S_Piled)) ∧ l_keys.length = x.keys.length ∧ l_steps.length = x.steps.length ∧ l_parts.length = x.parts.length ∧ k ≤ k' ∧ k' ≤ k + 1099513724928 := by
  obtain ⟨y0, k0, a0, b0, c0, d0⟩ := mark_BoolS x.keys k hx.1 (by omega)
  obtain ⟨y1, k1, a1, b1, c1, d1⟩ := mark_IntS x.steps k0 hx.2.1 (by omega)
  obtain ⟨y2, k2, a2, b2, c2, d2⟩ := mark_ByteSS x.parts k1 hx.2.2 (by omega)
  refine ⟨y0, y1, y2, k2, ?_, b0, b1, b2, by omega, by omega⟩
  · simp only [m_laws_markPiled, m_laws_markPiled_0]
    rw [a0]
    simp only [Option.bind_some]
    rw [ck_eq b0]
    simp only [Option.bind_some]
    rw [a1]
    simp only [Option.bind_some]
    rw [ck_eq b1]
    simp only [Option.bind_some]
    rw [a2]
    simp only [Option.bind_some]
    rw [ck_eq b2]
    simp only [Option.bind_some]
    try rfl

theorem plain_FnExactWriteParts (p0 : S_Piled) (hp0 : wfS_Piled p0) (core : (Sm_S_Piled p0) → ∃ w : (List Int), m_spec_WriteParts p0 = some w ∧ m_impl_WriteParts p0 = some w ∧ w.length ≤ 1048576) : m_laws_FnExactWriteParts p0 = some true := by
  simp only [m_laws_FnExactWriteParts, m_laws_FnExactWriteParts_0, decide_eq_true_eq]
  obtain ⟨v1, e1, c1⟩ := sz_Piled p0 hp0 1048576 (by omega) (by omega)
  rw [e1]
  simp only [Option.bind_some, decide_eq_true_eq]
  rcases c1 with c1 | c1
  · rw [if_pos (by simpa using c1)]
  rw [if_neg (by simp <;> omega)]
  have sm_p0 : Sm_S_Piled p0 := c1.2.2
  rw [to_Piled p0 sm_p0]
  simp only [Option.bind_some]
  obtain ⟨w, hsp, him, sm0⟩ := core sm_p0
  rw [hsp]
  simp only [Option.bind_some]
  rw [him]
  simp only [Option.bind_some]
  rw [eq_ByteS w sm0]
  simp only [Option.bind_some, if_true]
  rw [eq_Piled p0 sm_p0]
  simp only [Option.bind_some, if_true]
  obtain ⟨y1_0, y1_1, y1_2, k1, a1, b1_0, b1_1, b1_2, c1x, d1⟩ := mark_Piled p0 1 sm_p0 (by omega)
  replace a1 : m_laws_markPiled p0 1 = _ := a1
  rw [a1]
  simp only [Option.bind_some]
  rw [ck_eq (by first | assumption | rfl)]
  simp only [Option.bind_some]
  rw [ck_eq (by first | assumption | rfl)]
  simp only [Option.bind_some]
  rw [ck_eq (by first | assumption | rfl)]
  simp only [Option.bind_some]
  rw [if_neg (by simp <;> omega)]
  obtain ⟨y2, k2, a2, b2, c2x, d2, f2⟩ := mark_ByteS w 1 sm0 (by omega)
  replace a2 : m_laws_markByteS w 1 = _ := a2
  rw [a2]
  simp only [Option.bind_some]
  replace f2 : m_laws_heldByteS _ 1 = _ := f2
  rw [ck_eq (by first | assumption | rfl)]
  simp only [Option.bind_some]
  rw [f2]
  simp only [Option.bind_some]
  rw [if_neg (by simp <;> omega)]
  rw [if_neg (by simp)]

end Go.Proofs.V

/- The law of WriteParts, plain. -/
set_option linter.unusedVariables false
namespace Go.Proofs.V
open Go
open Classical in
theorem final_FnExactWriteParts (x : S_Piled) (w : wfS_Piled x) : m_laws_FnExactWriteParts x = some true := by
  refine plain_FnExactWriteParts x w fun hs => ?_
  obtain ⟨a, ⟨b1, b2⟩, c, d, e, f, _⟩ := w
  obtain ⟨s1, s2, s3, s4⟩ := hs
  have hr : WpS x := ⟨s1, s2, s3, s4⟩
  refine ⟨_, spec_wp x hr ⟨b1, b2⟩, impl_wp x hr, ?_⟩
  split
  · rename_i h
    have := h.2.2.2.2.2.2.2.2.2
    omega
  · simp
end Go.Proofs.V

/- printed by a program: the plain functions, the code and the proofs of one law -/
set_option linter.unusedVariables false
set_option maxRecDepth 100000
namespace Go.Proofs.V
open Go
def c_laws_szBoolS_7 : VC :=
  .ite (.s 10) (.seq (.r 3 [⟨none, [], none, .mv 4 (.k (.int .i64 (-1)))⟩]) (.ret)) (.skip)
def c_laws_szBoolS_12 : VC :=
  .seq (.r 4 [⟨none, [], none, .mv 11 (.s 1)⟩,
    ⟨none, [], none, .mv 4 (.s 11)⟩]) (.ret)
def c_laws_szBoolS_4 : VC :=
  .seq (.seq (.r 2 [⟨none, [], none, .mv 9 (.s 1)⟩,
    ⟨none, [], none, .bin 10 .lss (.s 9) (.k (.int .i64 0))⟩]) c_laws_szBoolS_7) c_laws_szBoolS_12
def c_laws_szBoolS_2 : VC :=
  .seq (.r 1 [⟨none, [], none, .mv 5 (.s 1)⟩,
    ⟨none, [], none, .mv 6 (.s 0)⟩,
    ⟨none, [], none, .len 7 (.s 6)⟩,
    ⟨none, [], none, .bin 8 .sub (.s 5) (.s 7)⟩,
    ⟨none, [], none, .mv 1 (.s 8)⟩]) c_laws_szBoolS_4
def c_laws_szBoolS_0 : VC :=
  .seq (.r 0 [⟨none, [], none, .mv 4 (.k (.int .i64 0))⟩]) c_laws_szBoolS_2
def vf_laws_szBoolS : VF := { pm := [.ro [.ro [.sc]], .ro [.sc]], rm := [.v [.sc]], nslots := 12, res := [4], rc := [], code := .kp [0, 1] c_laws_szBoolS_0 }
def c_laws_szIntS_7 : VC :=
  .ite (.s 10) (.seq (.r 3 [⟨none, [], none, .mv 4 (.k (.int .i64 (-1)))⟩]) (.ret)) (.skip)
def c_laws_szIntS_12 : VC :=
  .seq (.r 4 [⟨none, [], none, .mv 11 (.s 1)⟩,
    ⟨none, [], none, .mv 4 (.s 11)⟩]) (.ret)
def c_laws_szIntS_4 : VC :=
  .seq (.seq (.r 2 [⟨none, [], none, .mv 9 (.s 1)⟩,
    ⟨none, [], none, .bin 10 .lss (.s 9) (.k (.int .i64 0))⟩]) c_laws_szIntS_7) c_laws_szIntS_12
def c_laws_szIntS_2 : VC :=
  .seq (.r 1 [⟨none, [], none, .mv 5 (.s 1)⟩,
    ⟨none, [], none, .mv 6 (.s 0)⟩,
    ⟨none, [], none, .len 7 (.s 6)⟩,
    ⟨none, [], none, .bin 8 .sub (.s 5) (.s 7)⟩,
    ⟨none, [], none, .mv 1 (.s 8)⟩]) c_laws_szIntS_4
def c_laws_szIntS_0 : VC :=
  .seq (.r 0 [⟨none, [], none, .mv 4 (.k (.int .i64 0))⟩]) c_laws_szIntS_2
def vf_laws_szIntS : VF := { pm := [.ro [.ro [.sc]], .ro [.sc]], rm := [.v [.sc]], nslots := 12, res := [4], rc := [], code := .kp [0, 1] c_laws_szIntS_0 }
def c_laws_szByteS_7 : VC :=
  .ite (.s 10) (.seq (.r 3 [⟨none, [], none, .mv 4 (.k (.int .i64 (-1)))⟩]) (.ret)) (.skip)
def c_laws_szByteS_12 : VC :=
  .seq (.r 4 [⟨none, [], none, .mv 11 (.s 1)⟩,
    ⟨none, [], none, .mv 4 (.s 11)⟩]) (.ret)
def c_laws_szByteS_4 : VC :=
  .seq (.seq (.r 2 [⟨none, [], none, .mv 9 (.s 1)⟩,
    ⟨none, [], none, .bin 10 .lss (.s 9) (.k (.int .i64 0))⟩]) c_laws_szByteS_7) c_laws_szByteS_12
def c_laws_szByteS_2 : VC :=
  .seq (.r 1 [⟨none, [], none, .mv 5 (.s 1)⟩,
    ⟨none, [], none, .mv 6 (.s 0)⟩,
    ⟨none, [], none, .len 7 (.s 6)⟩,
    ⟨none, [], none, .bin 8 .sub (.s 5) (.s 7)⟩,
    ⟨none, [], none, .mv 1 (.s 8)⟩]) c_laws_szByteS_4
def c_laws_szByteS_0 : VC :=
  .seq (.r 0 [⟨none, [], none, .mv 4 (.k (.int .i64 0))⟩]) c_laws_szByteS_2
def vf_laws_szByteS : VF := { pm := [.ro [.ro [.sc]], .ro [.sc]], rm := [.v [.sc]], nslots := 12, res := [4], rc := [], code := .kp [0, 1] c_laws_szByteS_0 }
def c_laws_szByteSS_7 : VC :=
  .ite (.s 11) (.seq (.r 3 [⟨none, [], none, .mv 4 (.k (.int .i64 (-1)))⟩]) (.ret)) (.skip)
def c_laws_szByteSS_20 : VC :=
  .ite (.s 15) (.skip) (.exit 0)
def c_laws_szByteSS_29 : VC :=
  .ite (.s 25) (.seq (.r 9 [⟨none, [], none, .mv 4 (.k (.int .i64 (-1)))⟩]) (.ret)) (.skip)
def c_laws_szByteSS_27 : VC :=
  .seq (.r 8 [⟨none, [], none, .mv 24 (.s 1)⟩,
    ⟨none, [], none, .bin 25 .lss (.s 24) (.k (.int .i64 0))⟩]) c_laws_szByteSS_29
def c_laws_szByteSS_34 : VC :=
  .r 6 [⟨none, [], none, .mv 16 (.s 5)⟩,
    ⟨none, [], none, .bin 17 .add (.s 16) (.k (.int .i64 1))⟩,
    ⟨none, [], none, .mv 5 (.s 17)⟩]
def c_laws_szByteSS_23 : VC :=
  .seq (.blk 1 (.seq (.r 7 [⟨none, [], none, .mv 18 (.s 0)⟩,
    ⟨none, [], none, .mv 19 (.s 5)⟩,
    ⟨none, [], none, .iadr 20 (.s 18) (.s 19) 1⟩,
    ⟨none, [], none, .ld 21 (.s 20) 1 false⟩,
    ⟨none, [], none, .mv 22 (.s 1)⟩,
    ⟨none, [], none, .call 23 173 [(.s 21), (.s 22)]⟩,
    ⟨none, [], none, .mv 1 (.s 23)⟩]) c_laws_szByteSS_27)) c_laws_szByteSS_34
def c_laws_szByteSS_17 : VC :=
  .seq (.seq (.r 5 [⟨none, [], none, .mv 12 (.s 5)⟩,
    ⟨none, [], none, .mv 13 (.s 0)⟩,
    ⟨none, [], none, .len 14 (.s 13)⟩,
    ⟨none, [], none, .bin 15 .lss (.s 12) (.s 14)⟩]) c_laws_szByteSS_20) c_laws_szByteSS_23
def c_laws_szByteSS_15 : VC :=
  .blk 0 (.loop [0, 1, 5] c_laws_szByteSS_17)
def c_laws_szByteSS_35 : VC :=
  .seq (.r 10 [⟨none, [], none, .mv 26 (.s 1)⟩,
    ⟨none, [], none, .mv 4 (.s 26)⟩]) (.ret)
def c_laws_szByteSS_12 : VC :=
  .seq (.seq (.r 4 [⟨none, [], none, .mv 5 (.k (.int .i64 0))⟩]) c_laws_szByteSS_15) (.kp [1] c_laws_szByteSS_35)
def c_laws_szByteSS_4 : VC :=
  .seq (.seq (.r 2 [⟨none, [], none, .mv 10 (.s 1)⟩,
    ⟨none, [], none, .bin 11 .lss (.s 10) (.k (.int .i64 0))⟩]) c_laws_szByteSS_7) c_laws_szByteSS_12
def c_laws_szByteSS_2 : VC :=
  .seq (.r 1 [⟨none, [], none, .mv 6 (.s 1)⟩,
    ⟨none, [], none, .mv 7 (.s 0)⟩,
    ⟨none, [], none, .len 8 (.s 7)⟩,
    ⟨none, [], none, .bin 9 .sub (.s 6) (.s 8)⟩,
    ⟨none, [], none, .mv 1 (.s 9)⟩]) c_laws_szByteSS_4
def c_laws_szByteSS_0 : VC :=
  .seq (.r 0 [⟨none, [], none, .mv 4 (.k (.int .i64 0))⟩]) c_laws_szByteSS_2
def vf_laws_szByteSS : VF := { pm := [.ro [.ro [.ro [.sc]]], .ro [.sc]], rm := [.v [.sc]], nslots := 27, res := [4], rc := [], code := .kp [0, 1] c_laws_szByteSS_0 }
def c_laws_szPiled_7 : VC :=
  .ite (.s 10) (.seq (.r 3 [⟨none, [], none, .mv 4 (.k (.int .i64 (-1)))⟩]) (.ret)) (.skip)
def c_laws_szPiled_17 : VC :=
  .ite (.s 16) (.seq (.r 6 [⟨none, [], none, .mv 4 (.k (.int .i64 (-1)))⟩]) (.ret)) (.skip)
def c_laws_szPiled_27 : VC :=
  .ite (.s 22) (.seq (.r 9 [⟨none, [], none, .mv 4 (.k (.int .i64 (-1)))⟩]) (.ret)) (.skip)
def c_laws_szPiled_32 : VC :=
  .seq (.r 10 [⟨none, [], none, .mv 23 (.s 1)⟩,
    ⟨none, [], none, .mv 4 (.s 23)⟩]) (.ret)
def c_laws_szPiled_24 : VC :=
  .seq (.seq (.r 8 [⟨none, [], none, .mv 21 (.s 1)⟩,
    ⟨none, [], none, .bin 22 .lss (.s 21) (.k (.int .i64 0))⟩]) c_laws_szPiled_27) c_laws_szPiled_32
def c_laws_szPiled_22 : VC :=
  .seq (.r 7 [⟨none, [], none, .fadr 17 (.s 2) 5⟩,
    ⟨none, [], none, .ld 18 (.s 17) 1 false⟩,
    ⟨none, [], none, .mv 19 (.s 1)⟩,
    ⟨none, [], none, .call 20 109 [(.s 18), (.s 19)]⟩,
    ⟨none, [], none, .mv 1 (.s 20)⟩]) c_laws_szPiled_24
def c_laws_szPiled_14 : VC :=
  .seq (.seq (.r 5 [⟨none, [], none, .mv 15 (.s 1)⟩,
    ⟨none, [], none, .bin 16 .lss (.s 15) (.k (.int .i64 0))⟩]) c_laws_szPiled_17) c_laws_szPiled_22
def c_laws_szPiled_12 : VC :=
  .seq (.r 4 [⟨none, [], none, .fadr 11 (.s 2) 4⟩,
    ⟨none, [], none, .ld 12 (.s 11) 1 false⟩,
    ⟨none, [], none, .mv 13 (.s 1)⟩,
    ⟨none, [], none, .call 14 95 [(.s 12), (.s 13)]⟩,
    ⟨none, [], none, .mv 1 (.s 14)⟩]) c_laws_szPiled_14
def c_laws_szPiled_4 : VC :=
  .seq (.seq (.r 2 [⟨none, [], none, .mv 9 (.s 1)⟩,
    ⟨none, [], none, .bin 10 .lss (.s 9) (.k (.int .i64 0))⟩]) c_laws_szPiled_7) c_laws_szPiled_12
def c_laws_szPiled_2 : VC :=
  .seq (.r 1 [⟨none, [], none, .fadr 5 (.s 2) 3⟩,
    ⟨none, [], none, .ld 6 (.s 5) 1 false⟩,
    ⟨none, [], none, .mv 7 (.s 1)⟩,
    ⟨none, [], none, .call 8 108 [(.s 6), (.s 7)]⟩,
    ⟨none, [], none, .mv 1 (.s 8)⟩]) c_laws_szPiled_4
def c_laws_szPiled_0 : VC :=
  .seq (.r 0 [⟨none, [], none, .box 2 (.s 0)⟩,
    ⟨none, [], none, .mv 4 (.k (.int .i64 0))⟩]) c_laws_szPiled_2
def vf_laws_szPiled : VF := { pm := [.ro [.sc, .sc, .sc, .ro [.sc], .ro [.sc], .ro [.ro [.sc]]], .ro [.sc]], rm := [.v [.sc]], nslots := 24, res := [4], rc := [], code := .kp [0, 1] c_laws_szPiled_0 }
def c_laws_toBoolS_12 : VC :=
  .ite (.s 11) (.skip) (.exit 0)
def c_laws_toBoolS_18 : VC :=
  .r 4 [⟨none, [], none, .mv 12 (.s 4)⟩,
    ⟨none, [], none, .bin 13 .add (.s 12) (.k (.int .i64 1))⟩,
    ⟨none, [], none, .mv 4 (.s 13)⟩]
def c_laws_toBoolS_15 : VC :=
  .seq (.blk 1 (.r 5 [⟨none, [], none, .mv 14 (.s 3)⟩,
    ⟨none, [], none, .mv 15 (.s 4)⟩,
    ⟨none, [], none, .mv 16 (.s 0)⟩,
    ⟨none, [], none, .mv 17 (.s 4)⟩,
    ⟨none, [], none, .iadr 18 (.s 16) (.s 17) 1⟩,
    ⟨none, [], none, .ld 19 (.s 18) 1 false⟩,
    ⟨none, [], none, .iadr 20 (.s 14) (.s 15) 1⟩,
    ⟨none, [], none, .st (.s 20) (.s 19) 1⟩])) c_laws_toBoolS_18
def c_laws_toBoolS_9 : VC :=
  .seq (.seq (.r 3 [⟨none, [], none, .mv 8 (.s 4)⟩,
    ⟨none, [], none, .mv 9 (.s 0)⟩,
    ⟨none, [], none, .len 10 (.s 9)⟩,
    ⟨none, [], none, .bin 11 .lss (.s 8) (.s 10)⟩]) c_laws_toBoolS_12) c_laws_toBoolS_15
def c_laws_toBoolS_7 : VC :=
  .blk 0 (.loop [0, 3, 4] c_laws_toBoolS_9)
def c_laws_toBoolS_19 : VC :=
  .seq (.r 6 [⟨none, [], none, .mv 21 (.s 3)⟩,
    ⟨none, [], none, .mv 2 (.s 21)⟩]) (.ret)
def c_laws_toBoolS_4 : VC :=
  .seq (.seq (.r 2 [⟨none, [], none, .mv 4 (.k (.int .i64 0))⟩]) c_laws_toBoolS_7) (.kp [3] c_laws_toBoolS_19)
def c_laws_toBoolS_2 : VC :=
  .seq (.r 1 [⟨none, [], none, .mv 5 (.s 0)⟩,
    ⟨none, [], none, .len 6 (.s 5)⟩,
    ⟨none, [], none, .mk 7 (.s 6) [.sc] [(.bool false)] 140737488355328⟩,
    ⟨none, [], none, .mv 3 (.s 7)⟩]) c_laws_toBoolS_4
def c_laws_toBoolS_0 : VC :=
  .seq (.r 0 [⟨none, [], none, .nil 2 [.sc]⟩]) c_laws_toBoolS_2
def vf_laws_toBoolS : VF := { pm := [.ro [.ro [.sc]]], rm := [.v [.own [.sc]]], nslots := 22, res := [2], rc := [], code := .kp [0] c_laws_toBoolS_0 }
def c_laws_toIntS_12 : VC :=
  .ite (.s 11) (.skip) (.exit 0)
def c_laws_toIntS_18 : VC :=
  .r 4 [⟨none, [], none, .mv 12 (.s 4)⟩,
    ⟨none, [], none, .bin 13 .add (.s 12) (.k (.int .i64 1))⟩,
    ⟨none, [], none, .mv 4 (.s 13)⟩]
def c_laws_toIntS_15 : VC :=
  .seq (.blk 1 (.r 5 [⟨none, [], none, .mv 14 (.s 3)⟩,
    ⟨none, [], none, .mv 15 (.s 4)⟩,
    ⟨none, [], none, .mv 16 (.s 0)⟩,
    ⟨none, [], none, .mv 17 (.s 4)⟩,
    ⟨none, [], none, .iadr 18 (.s 16) (.s 17) 1⟩,
    ⟨none, [], none, .ld 19 (.s 18) 1 false⟩,
    ⟨none, [], none, .iadr 20 (.s 14) (.s 15) 1⟩,
    ⟨none, [], none, .st (.s 20) (.s 19) 1⟩])) c_laws_toIntS_18
def c_laws_toIntS_9 : VC :=
  .seq (.seq (.r 3 [⟨none, [], none, .mv 8 (.s 4)⟩,
    ⟨none, [], none, .mv 9 (.s 0)⟩,
    ⟨none, [], none, .len 10 (.s 9)⟩,
    ⟨none, [], none, .bin 11 .lss (.s 8) (.s 10)⟩]) c_laws_toIntS_12) c_laws_toIntS_15
def c_laws_toIntS_7 : VC :=
  .blk 0 (.loop [0, 3, 4] c_laws_toIntS_9)
def c_laws_toIntS_19 : VC :=
  .seq (.r 6 [⟨none, [], none, .mv 21 (.s 3)⟩,
    ⟨none, [], none, .mv 2 (.s 21)⟩]) (.ret)
def c_laws_toIntS_4 : VC :=
  .seq (.seq (.r 2 [⟨none, [], none, .mv 4 (.k (.int .i64 0))⟩]) c_laws_toIntS_7) (.kp [3] c_laws_toIntS_19)
def c_laws_toIntS_2 : VC :=
  .seq (.r 1 [⟨none, [], none, .mv 5 (.s 0)⟩,
    ⟨none, [], none, .len 6 (.s 5)⟩,
    ⟨none, [], none, .mk 7 (.s 6) [.sc] [(.int .i64 0)] 17592186044416⟩,
    ⟨none, [], none, .mv 3 (.s 7)⟩]) c_laws_toIntS_4
def c_laws_toIntS_0 : VC :=
  .seq (.r 0 [⟨none, [], none, .nil 2 [.sc]⟩]) c_laws_toIntS_2
def vf_laws_toIntS : VF := { pm := [.ro [.ro [.sc]]], rm := [.v [.own [.sc]]], nslots := 22, res := [2], rc := [], code := .kp [0] c_laws_toIntS_0 }
def c_laws_toByteS_12 : VC :=
  .ite (.s 11) (.skip) (.exit 0)
def c_laws_toByteS_18 : VC :=
  .r 4 [⟨none, [], none, .mv 12 (.s 4)⟩,
    ⟨none, [], none, .bin 13 .add (.s 12) (.k (.int .i64 1))⟩,
    ⟨none, [], none, .mv 4 (.s 13)⟩]
def c_laws_toByteS_15 : VC :=
  .seq (.blk 1 (.r 5 [⟨none, [], none, .mv 14 (.s 3)⟩,
    ⟨none, [], none, .mv 15 (.s 4)⟩,
    ⟨none, [], none, .mv 16 (.s 0)⟩,
    ⟨none, [], none, .mv 17 (.s 4)⟩,
    ⟨none, [], none, .iadr 18 (.s 16) (.s 17) 1⟩,
    ⟨none, [], none, .ld 19 (.s 18) 1 false⟩,
    ⟨none, [], none, .iadr 20 (.s 14) (.s 15) 1⟩,
    ⟨none, [], none, .st (.s 20) (.s 19) 1⟩])) c_laws_toByteS_18
def c_laws_toByteS_9 : VC :=
  .seq (.seq (.r 3 [⟨none, [], none, .mv 8 (.s 4)⟩,
    ⟨none, [], none, .mv 9 (.s 0)⟩,
    ⟨none, [], none, .len 10 (.s 9)⟩,
    ⟨none, [], none, .bin 11 .lss (.s 8) (.s 10)⟩]) c_laws_toByteS_12) c_laws_toByteS_15
def c_laws_toByteS_7 : VC :=
  .blk 0 (.loop [0, 3, 4] c_laws_toByteS_9)
def c_laws_toByteS_19 : VC :=
  .seq (.r 6 [⟨none, [], none, .mv 21 (.s 3)⟩,
    ⟨none, [], none, .mv 2 (.s 21)⟩]) (.ret)
def c_laws_toByteS_4 : VC :=
  .seq (.seq (.r 2 [⟨none, [], none, .mv 4 (.k (.int .i64 0))⟩]) c_laws_toByteS_7) (.kp [3] c_laws_toByteS_19)
def c_laws_toByteS_2 : VC :=
  .seq (.r 1 [⟨none, [], none, .mv 5 (.s 0)⟩,
    ⟨none, [], none, .len 6 (.s 5)⟩,
    ⟨none, [], none, .mk 7 (.s 6) [.sc] [(.int .u8 0)] 140737488355328⟩,
    ⟨none, [], none, .mv 3 (.s 7)⟩]) c_laws_toByteS_4
def c_laws_toByteS_0 : VC :=
  .seq (.r 0 [⟨none, [], none, .nil 2 [.sc]⟩]) c_laws_toByteS_2
def vf_laws_toByteS : VF := { pm := [.ro [.ro [.sc]]], rm := [.v [.own [.sc]]], nslots := 22, res := [2], rc := [], code := .kp [0] c_laws_toByteS_0 }
def c_laws_toByteSS_12 : VC :=
  .ite (.s 11) (.skip) (.exit 0)
def c_laws_toByteSS_18 : VC :=
  .r 4 [⟨none, [], none, .mv 12 (.s 4)⟩,
    ⟨none, [], none, .bin 13 .add (.s 12) (.k (.int .i64 1))⟩,
    ⟨none, [], none, .mv 4 (.s 13)⟩]
def c_laws_toByteSS_15 : VC :=
  .seq (.blk 1 (.r 5 [⟨none, [], none, .mv 14 (.s 3)⟩,
    ⟨none, [], none, .mv 15 (.s 4)⟩,
    ⟨none, [], none, .mv 16 (.s 0)⟩,
    ⟨none, [], none, .mv 17 (.s 4)⟩,
    ⟨none, [], none, .iadr 18 (.s 16) (.s 17) 1⟩,
    ⟨none, [], none, .ld 19 (.s 18) 1 false⟩,
    ⟨none, [], none, .call 20 22 [(.s 19)]⟩,
    ⟨none, [], none, .iadr 21 (.s 14) (.s 15) 1⟩,
    ⟨none, [], none, .st (.s 21) (.s 20) 1⟩])) c_laws_toByteSS_18
def c_laws_toByteSS_9 : VC :=
  .seq (.seq (.r 3 [⟨none, [], none, .mv 8 (.s 4)⟩,
    ⟨none, [], none, .mv 9 (.s 0)⟩,
    ⟨none, [], none, .len 10 (.s 9)⟩,
    ⟨none, [], none, .bin 11 .lss (.s 8) (.s 10)⟩]) c_laws_toByteSS_12) c_laws_toByteSS_15
def c_laws_toByteSS_7 : VC :=
  .blk 0 (.loop [0, 3, 4] c_laws_toByteSS_9)
def c_laws_toByteSS_19 : VC :=
  .seq (.r 6 [⟨none, [], none, .mv 22 (.s 3)⟩,
    ⟨none, [], none, .mv 2 (.s 22)⟩]) (.ret)
def c_laws_toByteSS_4 : VC :=
  .seq (.seq (.r 2 [⟨none, [], none, .mv 4 (.k (.int .i64 0))⟩]) c_laws_toByteSS_7) (.kp [3] c_laws_toByteSS_19)
def c_laws_toByteSS_2 : VC :=
  .seq (.r 1 [⟨none, [], none, .mv 5 (.s 0)⟩,
    ⟨none, [], none, .len 6 (.s 5)⟩,
    ⟨none, [], none, .mk 7 (.s 6) [.own [.sc]] [(.slice none 0 0)] 5864062014805⟩,
    ⟨none, [], none, .mv 3 (.s 7)⟩]) c_laws_toByteSS_4
def c_laws_toByteSS_0 : VC :=
  .seq (.r 0 [⟨none, [], none, .nil 2 [.own [.sc]]⟩]) c_laws_toByteSS_2
def vf_laws_toByteSS : VF := { pm := [.ro [.ro [.ro [.sc]]]], rm := [.v [.own [.own [.sc]]]], nslots := 23, res := [2], rc := [], code := .kp [0] c_laws_toByteSS_0 }
def c_laws_toPiled_16 : VC :=
  .seq (.r 8 [⟨none, [], none, .ld 25 (.s 3) 6 true⟩,
    ⟨none, [], none, .st (.s 2) (.s 25) 6⟩]) (.ret)
def c_laws_toPiled_14 : VC :=
  .seq (.r 7 [⟨none, [], none, .fadr 21 (.s 1) 5⟩,
    ⟨none, [], none, .ld 22 (.s 21) 1 false⟩,
    ⟨none, [], none, .call 23 114 [(.s 22)]⟩,
    ⟨none, [], none, .fadr 24 (.s 3) 5⟩,
    ⟨none, [], none, .st (.s 24) (.s 23) 1⟩]) c_laws_toPiled_16
def c_laws_toPiled_12 : VC :=
  .seq (.r 6 [⟨none, [], none, .fadr 17 (.s 1) 4⟩,
    ⟨none, [], none, .ld 18 (.s 17) 1 false⟩,
    ⟨none, [], none, .call 19 60 [(.s 18)]⟩,
    ⟨none, [], none, .fadr 20 (.s 3) 4⟩,
    ⟨none, [], none, .st (.s 20) (.s 19) 1⟩]) c_laws_toPiled_14
def c_laws_toPiled_10 : VC :=
  .seq (.r 5 [⟨none, [], none, .fadr 13 (.s 1) 3⟩,
    ⟨none, [], none, .ld 14 (.s 13) 1 false⟩,
    ⟨none, [], none, .call 15 113 [(.s 14)]⟩,
    ⟨none, [], none, .fadr 16 (.s 3) 3⟩,
    ⟨none, [], none, .st (.s 16) (.s 15) 1⟩]) c_laws_toPiled_12
def c_laws_toPiled_8 : VC :=
  .seq (.r 4 [⟨none, [], none, .fadr 10 (.s 1) 2⟩,
    ⟨none, [], none, .ld 11 (.s 10) 1 false⟩,
    ⟨none, [], none, .fadr 12 (.s 3) 2⟩,
    ⟨none, [], none, .st (.s 12) (.s 11) 1⟩]) c_laws_toPiled_10
def c_laws_toPiled_6 : VC :=
  .seq (.r 3 [⟨none, [], none, .fadr 7 (.s 1) 1⟩,
    ⟨none, [], none, .ld 8 (.s 7) 1 false⟩,
    ⟨none, [], none, .fadr 9 (.s 3) 1⟩,
    ⟨none, [], none, .st (.s 9) (.s 8) 1⟩]) c_laws_toPiled_8
def c_laws_toPiled_4 : VC :=
  .seq (.r 2 [⟨none, [], none, .fadr 4 (.s 1) 0⟩,
    ⟨none, [], none, .ld 5 (.s 4) 1 false⟩,
    ⟨none, [], none, .fadr 6 (.s 3) 0⟩,
    ⟨none, [], none, .st (.s 6) (.s 5) 1⟩]) c_laws_toPiled_6
def c_laws_toPiled_2 : VC :=
  .seq (.r 1 [⟨none, [], none, .alloc 3 [.k (.int .i64 0), .k (.int .i64 0), .k (.int .i64 0), .o [.sc], .o [.sc], .o [.own [.sc]]]⟩]) c_laws_toPiled_4
def c_laws_toPiled_0 : VC :=
  .seq (.r 0 [⟨none, [], none, .box 1 (.s 0)⟩,
    ⟨none, [], none, .alloc 2 [.k (.int .i64 0), .k (.int .i64 0), .k (.int .i64 0), .o [.sc], .o [.sc], .o [.own [.sc]]]⟩]) c_laws_toPiled_2
def vf_laws_toPiled : VF := { pm := [.ro [.sc, .sc, .sc, .ro [.sc], .ro [.sc], .ro [.ro [.sc]]]], rm := [.v [.sc, .sc, .sc, .own [.sc], .own [.sc], .own [.own [.sc]]]], nslots := 26, res := [2], rc := [some (6, true)], code := .kp [0] c_laws_toPiled_0 }
def c_spec_l14Sides_2 : VC :=
  .seq (.r 1 [⟨none, [], none, .mv 5 (.s 0)⟩,
    ⟨none, [], none, .bin 6 .rem (.s 5) (.k (.int .i64 8))⟩,
    ⟨none, [], none, .bin 7 .eql (.s 6) (.k (.int .i64 0))⟩,
    ⟨none, [], none, .mv 8 (.s 7)⟩,
    ⟨none, [], some (8, true), .mv 9 (.s 1)⟩,
    ⟨none, [], some (8, true), .bin 10 .rem (.s 9) (.k (.int .i64 8))⟩,
    ⟨none, [], some (8, true), .bin 11 .eql (.s 10) (.k (.int .i64 0))⟩,
    ⟨none, [], none, .pick 12 (.s 8) (.s 11) (.k (.bool false))⟩,
    ⟨none, [], none, .mv 13 (.s 12)⟩,
    ⟨none, [], some (13, true), .mv 14 (.s 0)⟩,
    ⟨none, [], some (13, true), .bin 15 .geq (.s 14) (.k (.int .i64 8))⟩,
    ⟨none, [], none, .pick 16 (.s 13) (.s 15) (.k (.bool false))⟩,
    ⟨none, [], none, .mv 17 (.s 16)⟩,
    ⟨none, [], some (17, true), .mv 18 (.s 0)⟩,
    ⟨none, [], some (17, true), .bin 19 .leq (.s 18) (.k (.int .i64 64))⟩,
    ⟨none, [], none, .pick 20 (.s 17) (.s 19) (.k (.bool false))⟩,
    ⟨none, [], none, .mv 21 (.s 20)⟩,
    ⟨none, [], some (21, true), .mv 22 (.s 1)⟩,
    ⟨none, [], some (21, true), .bin 23 .geq (.s 22) (.k (.int .i64 8))⟩,
    ⟨none, [], none, .pick 24 (.s 21) (.s 23) (.k (.bool false))⟩,
    ⟨none, [], none, .mv 25 (.s 24)⟩,
    ⟨none, [], some (25, true), .mv 26 (.s 1)⟩,
    ⟨none, [], some (25, true), .bin 27 .leq (.s 26) (.k (.int .i64 64))⟩,
    ⟨none, [], none, .pick 28 (.s 25) (.s 27) (.k (.bool false))⟩,
    ⟨none, [], none, .mv 4 (.s 28)⟩]) (.ret)
def c_spec_l14Sides_0 : VC :=
  .seq (.r 0 [⟨none, [], none, .mv 4 (.k (.bool false))⟩]) c_spec_l14Sides_2
def vf_spec_l14Sides : VF := { pm := [.ro [.sc], .ro [.sc]], rm := [.v [.sc]], nslots := 29, res := [4], rc := [], code := .kp [0, 1] c_spec_l14Sides_0 }
def c_spec_l14Mark_2 : VC :=
  .seq (.r 1 [⟨none, [], none, .mv 5 (.s 0)⟩,
    ⟨none, [], none, .bin 6 .quo (.s 5) (.k (.int .i64 8))⟩,
    ⟨none, [], none, .conv 7 .u8 (.s 6)⟩,
    ⟨none, [], none, .mv 8 (.s 1)⟩,
    ⟨none, [], none, .bin 9 .quo (.s 8) (.k (.int .i64 8))⟩,
    ⟨none, [], none, .conv 10 .u8 (.s 9)⟩,
    ⟨none, [], none, .lits 11 [.sc] [(.k (.int .u8 86)), (.k (.int .u8 73)), (.k (.int .u8 68)), (.k (.int .u8 49)), (.s 7), (.s 10)]⟩,
    ⟨none, [], none, .mv 4 (.s 11)⟩]) (.ret)
def c_spec_l14Mark_0 : VC :=
  .seq (.r 0 [⟨none, [], none, .nil 4 [.sc]⟩]) c_spec_l14Mark_2
def vf_spec_l14Mark : VF := { pm := [.ro [.sc], .ro [.sc]], rm := [.v [.own [.sc]]], nslots := 12, res := [4], rc := [], code := .kp [0, 1] c_spec_l14Mark_0 }
def c_spec_l3Four_2 : VC :=
  .seq (.r 1 [⟨none, [], none, .mv 3 (.s 0)⟩,
    ⟨none, [], none, .bin 4 .shr (.s 3) (.k (.int .u64 24))⟩,
    ⟨none, [], none, .conv 5 .u8 (.s 4)⟩,
    ⟨none, [], none, .mv 6 (.s 0)⟩,
    ⟨none, [], none, .bin 7 .shr (.s 6) (.k (.int .u64 16))⟩,
    ⟨none, [], none, .conv 8 .u8 (.s 7)⟩,
    ⟨none, [], none, .mv 9 (.s 0)⟩,
    ⟨none, [], none, .bin 10 .shr (.s 9) (.k (.int .u64 8))⟩,
    ⟨none, [], none, .conv 11 .u8 (.s 10)⟩,
    ⟨none, [], none, .mv 12 (.s 0)⟩,
    ⟨none, [], none, .conv 13 .u8 (.s 12)⟩,
    ⟨none, [], none, .lits 14 [.sc] [(.s 5), (.s 8), (.s 11), (.s 13)]⟩,
    ⟨none, [], none, .mv 2 (.s 14)⟩]) (.ret)
def c_spec_l3Four_0 : VC :=
  .seq (.r 0 [⟨none, [], none, .nil 2 [.sc]⟩]) c_spec_l3Four_2
def vf_spec_l3Four : VF := { pm := [.ro [.sc]], rm := [.v [.own [.sc]]], nslots := 15, res := [2], rc := [], code := .kp [0] c_spec_l3Four_0 }
def c_spec_Crc_28 : VC :=
  .ite (.s 19) (.skip) (.exit 2)
def c_spec_Crc_39 : VC :=
  .ite (.s 27) (.r 12 [⟨none, [], none, .mv 28 (.s 3)⟩,
    ⟨none, [], none, .bin 29 .xor (.s 28) (.k (.int .u32 3988292384))⟩,
    ⟨none, [], none, .mv 3 (.s 29)⟩]) (.skip)
def c_spec_Crc_37 : VC :=
  .seq (.r 11 [⟨none, [], none, .mv 26 (.s 7)⟩,
    ⟨none, [], none, .bin 27 .eql (.s 26) (.k (.int .u32 1))⟩]) c_spec_Crc_39
def c_spec_Crc_35 : VC :=
  .seq (.r 10 [⟨none, [], none, .mv 24 (.s 3)⟩,
    ⟨none, [], none, .bin 25 .shr (.s 24) (.k (.int .u64 1))⟩,
    ⟨none, [], none, .mv 3 (.s 25)⟩]) c_spec_Crc_37
def c_spec_Crc_42 : VC :=
  .r 8 [⟨none, [], none, .mv 20 (.s 6)⟩,
    ⟨none, [], none, .bin 21 .add (.s 20) (.k (.int .i64 1))⟩,
    ⟨none, [], none, .mv 6 (.s 21)⟩]
def c_spec_Crc_31 : VC :=
  .seq (.blk 3 (.seq (.r 9 [⟨none, [], none, .mv 22 (.s 3)⟩,
    ⟨none, [], none, .bin 23 .and (.s 22) (.k (.int .u32 1))⟩,
    ⟨none, [], none, .mv 7 (.s 23)⟩]) c_spec_Crc_35)) c_spec_Crc_42
def c_spec_Crc_25 : VC :=
  .seq (.seq (.r 7 [⟨none, [], none, .mv 18 (.s 6)⟩,
    ⟨none, [], none, .bin 19 .lss (.s 18) (.k (.int .i64 8))⟩]) c_spec_Crc_28) c_spec_Crc_31
def c_spec_Crc_23 : VC :=
  .blk 2 (.loop [3, 6, 8, 9, 10] c_spec_Crc_25)
def c_spec_Crc_21 : VC :=
  .seq (.r 6 [⟨none, [], none, .mv 6 (.k (.int .i64 0))⟩]) c_spec_Crc_23
def c_spec_Crc_19 : VC :=
  .seq (.r 5 [⟨none, [], none, .mv 14 (.s 3)⟩,
    ⟨none, [], none, .mv 15 (.s 5)⟩,
    ⟨none, [], none, .conv 16 .u32 (.s 15)⟩,
    ⟨none, [], none, .bin 17 .xor (.s 14) (.s 16)⟩,
    ⟨none, [], none, .mv 3 (.s 17)⟩]) c_spec_Crc_21
def c_spec_Crc_43 : VC :=
  .r 13 [⟨none, [], none, .bin 30 .add (.s 10) (.k (.int .i64 1))⟩,
    ⟨none, [], none, .mv 10 (.s 30)⟩]
def c_spec_Crc_15 : VC :=
  .seq (.blk 1 (.seq (.r 4 [⟨none, [], none, .iadr 12 (.s 8) (.s 10) 1⟩,
    ⟨none, [], none, .ld 13 (.s 12) 1 false⟩,
    ⟨none, [], none, .mv 5 (.s 13)⟩]) c_spec_Crc_19)) (.kp [3, 8, 9, 10] c_spec_Crc_43)
def c_spec_Crc_11 : VC :=
  .seq (.ite (.s 11) (.skip) (.exit 0)) c_spec_Crc_15
def c_spec_Crc_9 : VC :=
  .seq (.r 3 [⟨none, [], none, .bin 11 .lss (.s 10) (.s 9)⟩]) c_spec_Crc_11
def c_spec_Crc_7 : VC :=
  .blk 0 (.loop [3, 8, 9, 10] c_spec_Crc_9)
def c_spec_Crc_44 : VC :=
  .seq (.r 14 [⟨none, [], none, .mv 31 (.s 3)⟩,
    ⟨none, [], none, .un 32 .xor (.s 31)⟩,
    ⟨none, [], none, .mv 2 (.s 32)⟩]) (.ret)
def c_spec_Crc_4 : VC :=
  .seq (.seq (.r 2 [⟨none, [], none, .mv 8 (.s 0)⟩,
    ⟨none, [], none, .len 9 (.s 8)⟩,
    ⟨none, [], none, .mv 10 (.k (.int .i64 0))⟩]) c_spec_Crc_7) (.kp [3] c_spec_Crc_44)
def c_spec_Crc_2 : VC :=
  .seq (.r 1 [⟨none, [], none, .mv 3 (.k (.int .u32 4294967295))⟩]) c_spec_Crc_4
def c_spec_Crc_0 : VC :=
  .seq (.r 0 [⟨none, [], none, .mv 2 (.k (.int .u32 0))⟩]) c_spec_Crc_2
def vf_spec_Crc : VF := { pm := [.ro [.ro [.sc]]], rm := [.v [.sc]], nslots := 33, res := [2], rc := [], code := .kp [0] c_spec_Crc_0 }
def c_spec_l14Part_7 : VC :=
  .ite (.s 11) (.r 3 [⟨none, [], none, .mv 12 (.s 7)⟩,
    ⟨none, [], none, .bin 13 .add (.s 12) (.k (.int .u8 128))⟩,
    ⟨none, [], none, .mv 7 (.s 13)⟩]) (.skip)
def c_spec_l14Part_16 : VC :=
  .seq (.r 7 [⟨none, [], none, .mv 25 (.s 8)⟩,
    ⟨none, [], none, .mv 26 (.s 8)⟩,
    ⟨none, [], none, .call 27 175 [(.s 26)]⟩,
    ⟨none, [], none, .call 28 174 [(.s 27)]⟩,
    ⟨none, [], none, .app 29 (.s 25) (.s 28) [.sc] 140737488355328⟩,
    ⟨none, [], none, .mv 6 (.s 29)⟩]) (.ret)
def c_spec_l14Part_14 : VC :=
  .seq (.r 6 [⟨none, [], none, .mv 22 (.s 8)⟩,
    ⟨none, [], none, .mv 23 (.s 2)⟩,
    ⟨none, [], none, .app 24 (.s 22) (.s 23) [.sc] 140737488355328⟩,
    ⟨none, [], none, .mv 8 (.s 24)⟩]) c_spec_l14Part_16
def c_spec_l14Part_12 : VC :=
  .seq (.r 5 [⟨none, [], none, .mv 16 (.s 8)⟩,
    ⟨none, [], none, .mv 17 (.s 2)⟩,
    ⟨none, [], none, .len 18 (.s 17)⟩,
    ⟨none, [], none, .conv 19 .u32 (.s 18)⟩,
    ⟨none, [], none, .call 20 174 [(.s 19)]⟩,
    ⟨none, [], none, .app 21 (.s 16) (.s 20) [.sc] 140737488355328⟩,
    ⟨none, [], none, .mv 8 (.s 21)⟩]) c_spec_l14Part_14
def c_spec_l14Part_10 : VC :=
  .seq (.r 4 [⟨none, [], none, .mv 14 (.s 7)⟩,
    ⟨none, [], none, .lits 15 [.sc] [(.s 14)]⟩,
    ⟨none, [], none, .mv 8 (.s 15)⟩]) c_spec_l14Part_12
def c_spec_l14Part_4 : VC :=
  .seq (.seq (.r 2 [⟨none, [], none, .mv 11 (.s 1)⟩]) c_spec_l14Part_7) (.kp [2, 7] c_spec_l14Part_10)
def c_spec_l14Part_2 : VC :=
  .seq (.r 1 [⟨none, [], none, .mv 9 (.s 0)⟩,
    ⟨none, [], none, .conv 10 .u8 (.s 9)⟩,
    ⟨none, [], none, .mv 7 (.s 10)⟩]) c_spec_l14Part_4
def c_spec_l14Part_0 : VC :=
  .seq (.r 0 [⟨none, [], none, .nil 6 [.sc]⟩]) c_spec_l14Part_2
def vf_spec_l14Part : VF := { pm := [.ro [.sc], .ro [.sc], .ro [.ro [.sc]]], rm := [.v [.own [.sc]]], nslots := 30, res := [6], rc := [], code := .kp [0, 1, 2] c_spec_l14Part_0 }
def c_spec_WriteParts_5 : VC :=
  .ite (.s 52) (.seq (.r 2 [⟨none, [], none, .nil 2 [.sc]⟩]) (.ret)) (.skip)
def c_spec_WriteParts_13 : VC :=
  .ite (.s 62) (.seq (.r 4 [⟨none, [], none, .nil 2 [.sc]⟩]) (.ret)) (.skip)
def c_spec_WriteParts_38 : VC :=
  .ite (.s 100) (.seq (.r 10 [⟨none, [], none, .nil 2 [.sc]⟩]) (.ret)) (.skip)
def c_spec_WriteParts_43 : VC :=
  .d 11 [(0, ⟨none, [], none, .mv 101 (.s 3)⟩),
    (1, ⟨none, [], none, .fadv 102 (.s 1) 4⟩),
    (2, ⟨none, [], none, .ldv 103 (.s 102) 1 false⟩),
    (3, ⟨none, [], none, .mv 104 (.s 4)⟩),
    (4, ⟨none, [], none, .iadr 105 (.s 103) (.s 104) 1⟩),
    (5, ⟨none, [], none, .ldv 106 (.s 105) 1 false⟩),
    (6, ⟨none, [], none, .fadv 107 (.s 1) 3⟩),
    (7, ⟨none, [], none, .ldv 108 (.s 107) 1 false⟩),
    (8, ⟨none, [], none, .mv 109 (.s 4)⟩),
    (9, ⟨none, [], none, .iadr 110 (.s 108) (.s 109) 1⟩),
    (10, ⟨none, [], none, .ldv 111 (.s 110) 1 false⟩),
    (11, ⟨none, [], none, .fadv 112 (.s 1) 5⟩),
    (12, ⟨none, [], none, .ldv 113 (.s 112) 1 false⟩),
    (13, ⟨none, [], none, .mv 114 (.s 4)⟩),
    (14, ⟨none, [], none, .iadr 115 (.s 113) (.s 114) 1⟩),
    (15, ⟨none, [], none, .ldv 116 (.s 115) 1 false⟩),
    (16, ⟨none, [], none, .call 117 112 [(.s 106), (.s 111), (.s 116)]⟩),
    (17, ⟨none, [], none, .app 118 (.s 101) (.s 117) [.sc] 140737488355328⟩),
    (18, ⟨none, [], none, .mv 3 (.s 118)⟩)]
def c_spec_WriteParts_35 : VC :=
  .seq (.seq (.r 9 [⟨none, [], none, .fadr 74 (.s 1) 4⟩,
    ⟨none, [], none, .ld 75 (.s 74) 1 false⟩,
    ⟨none, [], none, .mv 76 (.s 4)⟩,
    ⟨none, [], none, .iadr 77 (.s 75) (.s 76) 1⟩,
    ⟨none, [], none, .ld 78 (.s 77) 1 false⟩,
    ⟨none, [], none, .bin 79 .lss (.s 78) (.k (.int .i64 0))⟩,
    ⟨none, [], none, .mv 80 (.s 79)⟩,
    ⟨none, [], some (80, false), .fadr 81 (.s 1) 4⟩,
    ⟨none, [], some (80, false), .ld 82 (.s 81) 1 false⟩,
    ⟨none, [], some (80, false), .mv 83 (.s 4)⟩,
    ⟨none, [], some (80, false), .iadr 84 (.s 82) (.s 83) 1⟩,
    ⟨none, [], some (80, false), .ld 85 (.s 84) 1 false⟩,
    ⟨none, [], some (80, false), .bin 86 .gtr (.s 85) (.k (.int .i64 40))⟩,
    ⟨none, [], none, .pick 87 (.s 80) (.k (.bool true)) (.s 86)⟩,
    ⟨none, [], none, .mv 88 (.s 87)⟩,
    ⟨none, [], some (88, false), .mv 89 (.s 3)⟩,
    ⟨none, [], some (88, false), .len 90 (.s 89)⟩,
    ⟨none, [], some (88, false), .fadr 91 (.s 1) 5⟩,
    ⟨none, [], some (88, false), .ld 92 (.s 91) 1 false⟩,
    ⟨none, [], some (88, false), .mv 93 (.s 4)⟩,
    ⟨none, [], some (88, false), .iadr 94 (.s 92) (.s 93) 1⟩,
    ⟨none, [], some (88, false), .ld 95 (.s 94) 1 false⟩,
    ⟨none, [], some (88, false), .len 96 (.s 95)⟩,
    ⟨none, [], some (88, false), .bin 97 .add (.s 90) (.s 96)⟩,
    ⟨none, [], some (88, false), .bin 98 .add (.s 97) (.k (.int .i64 9))⟩,
    ⟨none, [], some (88, false), .bin 99 .gtr (.s 98) (.k (.int .i64 60000))⟩,
    ⟨none, [], none, .pick 100 (.s 88) (.k (.bool true)) (.s 99)⟩]) c_spec_WriteParts_38) c_spec_WriteParts_43
def c_spec_WriteParts_44 : VC :=
  .r 12 [⟨none, [], none, .bin 119 .add (.s 71) (.k (.int .i64 1))⟩,
    ⟨none, [], none, .mv 71 (.s 119)⟩]
def c_spec_WriteParts_31 : VC :=
  .seq (.blk 1 (.seq (.r 8 [⟨none, [], none, .mv 73 (.s 71)⟩,
    ⟨none, [], none, .mv 4 (.s 73)⟩]) c_spec_WriteParts_35)) c_spec_WriteParts_44
def c_spec_WriteParts_27 : VC :=
  .seq (.ite (.s 72) (.skip) (.exit 0)) c_spec_WriteParts_31
def c_spec_WriteParts_25 : VC :=
  .seq (.r 7 [⟨none, [], none, .bin 72 .lss (.s 71) (.s 70)⟩]) c_spec_WriteParts_27
def c_spec_WriteParts_23 : VC :=
  .blk 0 (.loop [1, 3, 70, 71] c_spec_WriteParts_25)
def c_spec_WriteParts_45 : VC :=
  .seq (.r 13 [⟨none, [], none, .mv 120 (.s 3)⟩,
    ⟨none, [], none, .mv 2 (.s 120)⟩]) (.ret)
def c_spec_WriteParts_20 : VC :=
  .seq (.seq (.r 6 [⟨none, [], none, .fadr 68 (.s 1) 5⟩,
    ⟨none, [], none, .ld 69 (.s 68) 1 false⟩,
    ⟨none, [], none, .len 70 (.s 69)⟩,
    ⟨none, [], none, .mv 71 (.k (.int .i64 0))⟩]) c_spec_WriteParts_23) (.kp [3] c_spec_WriteParts_45)
def c_spec_WriteParts_18 : VC :=
  .seq (.r 5 [⟨none, [], none, .fadr 63 (.s 1) 1⟩,
    ⟨none, [], none, .ld 64 (.s 63) 1 false⟩,
    ⟨none, [], none, .fadr 65 (.s 1) 2⟩,
    ⟨none, [], none, .ld 66 (.s 65) 1 false⟩,
    ⟨none, [], none, .call 67 111 [(.s 64), (.s 66)]⟩,
    ⟨none, [], none, .mv 3 (.s 67)⟩]) c_spec_WriteParts_20
def c_spec_WriteParts_10 : VC :=
  .seq (.seq (.r 3 [⟨none, [], none, .fadr 53 (.s 1) 5⟩,
    ⟨none, [], none, .ld 54 (.s 53) 1 false⟩,
    ⟨none, [], none, .len 55 (.s 54)⟩,
    ⟨none, [], none, .fadr 56 (.s 1) 1⟩,
    ⟨none, [], none, .ld 57 (.s 56) 1 false⟩,
    ⟨none, [], none, .bin 58 .mul (.s 55) (.s 57)⟩,
    ⟨none, [], none, .fadr 59 (.s 1) 2⟩,
    ⟨none, [], none, .ld 60 (.s 59) 1 false⟩,
    ⟨none, [], none, .bin 61 .mul (.s 58) (.s 60)⟩,
    ⟨none, [], none, .bin 62 .gtr (.s 61) (.k (.int .i64 8192))⟩]) c_spec_WriteParts_13) c_spec_WriteParts_18
def c_spec_WriteParts_2 : VC :=
  .seq (.seq (.r 1 [⟨none, [], none, .fadr 5 (.s 1) 0⟩,
    ⟨none, [], none, .ld 6 (.s 5) 1 false⟩,
    ⟨none, [], none, .bin 7 .neq (.s 6) (.k (.int .i64 0))⟩,
    ⟨none, [], none, .mv 8 (.s 7)⟩,
    ⟨none, [], some (8, false), .fadr 9 (.s 1) 1⟩,
    ⟨none, [], some (8, false), .ld 10 (.s 9) 1 false⟩,
    ⟨none, [], some (8, false), .fadr 11 (.s 1) 2⟩,
    ⟨none, [], some (8, false), .ld 12 (.s 11) 1 false⟩,
    ⟨none, [], some (8, false), .call 13 110 [(.s 10), (.s 12)]⟩,
    ⟨none, [], some (8, false), .un 14 .not (.s 13)⟩,
    ⟨none, [], none, .pick 15 (.s 8) (.k (.bool true)) (.s 14)⟩,
    ⟨none, [], none, .mv 16 (.s 15)⟩,
    ⟨none, [], some (16, false), .fadr 17 (.s 1) 5⟩,
    ⟨none, [], some (16, false), .ld 18 (.s 17) 1 false⟩,
    ⟨none, [], some (16, false), .len 19 (.s 18)⟩,
    ⟨none, [], some (16, false), .bin 20 .lss (.s 19) (.k (.int .i64 1))⟩,
    ⟨none, [], none, .pick 21 (.s 16) (.k (.bool true)) (.s 20)⟩,
    ⟨none, [], none, .mv 22 (.s 21)⟩,
    ⟨none, [], some (22, false), .fadr 23 (.s 1) 5⟩,
    ⟨none, [], some (22, false), .ld 24 (.s 23) 1 false⟩,
    ⟨none, [], some (22, false), .len 25 (.s 24)⟩,
    ⟨none, [], some (22, false), .bin 26 .gtr (.s 25) (.k (.int .i64 24))⟩,
    ⟨none, [], none, .pick 27 (.s 22) (.k (.bool true)) (.s 26)⟩,
    ⟨none, [], none, .mv 28 (.s 27)⟩,
    ⟨none, [], some (28, false), .fadr 29 (.s 1) 3⟩,
    ⟨none, [], some (28, false), .ld 30 (.s 29) 1 false⟩,
    ⟨none, [], some (28, false), .len 31 (.s 30)⟩,
    ⟨none, [], some (28, false), .fadr 32 (.s 1) 5⟩,
    ⟨none, [], some (28, false), .ld 33 (.s 32) 1 false⟩,
    ⟨none, [], some (28, false), .len 34 (.s 33)⟩,
    ⟨none, [], some (28, false), .bin 35 .neq (.s 31) (.s 34)⟩,
    ⟨none, [], none, .pick 36 (.s 28) (.k (.bool true)) (.s 35)⟩,
    ⟨none, [], none, .mv 37 (.s 36)⟩,
    ⟨none, [], some (37, false), .fadr 38 (.s 1) 4⟩,
    ⟨none, [], some (37, false), .ld 39 (.s 38) 1 false⟩,
    ⟨none, [], some (37, false), .len 40 (.s 39)⟩,
    ⟨none, [], some (37, false), .fadr 41 (.s 1) 5⟩,
    ⟨none, [], some (37, false), .ld 42 (.s 41) 1 false⟩,
    ⟨none, [], some (37, false), .len 43 (.s 42)⟩,
    ⟨none, [], some (37, false), .bin 44 .neq (.s 40) (.s 43)⟩,
    ⟨none, [], none, .pick 45 (.s 37) (.k (.bool true)) (.s 44)⟩,
    ⟨none, [], none, .mv 46 (.s 45)⟩,
    ⟨none, [], some (46, false), .fadr 47 (.s 1) 3⟩,
    ⟨none, [], some (46, false), .ld 48 (.s 47) 1 false⟩,
    ⟨none, [], some (46, false), .iadr 49 (.s 48) (.k (.int .i64 0)) 1⟩,
    ⟨none, [], some (46, false), .ld 50 (.s 49) 1 false⟩,
    ⟨none, [], some (46, false), .un 51 .not (.s 50)⟩,
    ⟨none, [], none, .pick 52 (.s 46) (.k (.bool true)) (.s 51)⟩]) c_spec_WriteParts_5) c_spec_WriteParts_10
def c_spec_WriteParts_0 : VC :=
  .seq (.r 0 [⟨none, [], none, .box 1 (.s 0)⟩,
    ⟨none, [], none, .nil 2 [.sc]⟩]) c_spec_WriteParts_2
def vf_spec_WriteParts : VF := { pm := [.ro [.sc, .sc, .sc, .ro [.sc], .ro [.sc], .ro [.ro [.sc]]]], rm := [.v [.own [.sc]]], nslots := 121, res := [2], rc := [], code := .kp [0] c_spec_WriteParts_0 }
def c_impl_zrange_5 : VC :=
  .ite (.s 14) (.seq (.r 2 [⟨none, [], none, .mv 8 (.k (.bool false))⟩]) (.ret)) (.skip)
def c_impl_zrange_27 : VC :=
  .ite (.s 28) (.seq (.r 7 [⟨none, [], none, .mv 8 (.k (.bool false))⟩]) (.ret)) (.skip)
def c_impl_zrange_25 : VC :=
  .seq (.r 6 [⟨none, [], none, .mv 21 (.s 10)⟩,
    ⟨none, [], none, .mv 22 (.s 1)⟩,
    ⟨none, [], none, .bin 23 .lss (.s 21) (.s 22)⟩,
    ⟨none, [], none, .mv 24 (.s 23)⟩,
    ⟨none, [], some (24, false), .mv 25 (.s 10)⟩,
    ⟨none, [], some (24, false), .mv 26 (.s 2)⟩,
    ⟨none, [], some (24, false), .bin 27 .gtr (.s 25) (.s 26)⟩,
    ⟨none, [], none, .pick 28 (.s 24) (.k (.bool true)) (.s 27)⟩]) c_impl_zrange_27
def c_impl_zrange_32 : VC :=
  .r 8 [⟨none, [], none, .bin 29 .add (.s 17) (.k (.int .i64 1))⟩,
    ⟨none, [], none, .mv 17 (.s 29)⟩]
def c_impl_zrange_21 : VC :=
  .seq (.blk 1 (.seq (.r 5 [⟨none, [], none, .iadr 19 (.s 15) (.s 17) 1⟩,
    ⟨none, [], none, .ld 20 (.s 19) 1 false⟩,
    ⟨none, [], none, .mv 10 (.s 20)⟩]) c_impl_zrange_25)) c_impl_zrange_32
def c_impl_zrange_17 : VC :=
  .seq (.ite (.s 18) (.skip) (.exit 0)) c_impl_zrange_21
def c_impl_zrange_15 : VC :=
  .seq (.r 4 [⟨none, [], none, .bin 18 .lss (.s 17) (.s 16)⟩]) c_impl_zrange_17
def c_impl_zrange_13 : VC :=
  .blk 0 (.loop [1, 2, 15, 16, 17] c_impl_zrange_15)
def c_impl_zrange_33 : VC :=
  .seq (.r 9 [⟨none, [], none, .mv 8 (.k (.bool true))⟩]) (.ret)
def c_impl_zrange_10 : VC :=
  .seq (.seq (.r 3 [⟨none, [], none, .mv 15 (.s 0)⟩,
    ⟨none, [], none, .len 16 (.s 15)⟩,
    ⟨none, [], none, .mv 17 (.k (.int .i64 0))⟩]) c_impl_zrange_13) (.kp [] c_impl_zrange_33)
def c_impl_zrange_2 : VC :=
  .seq (.seq (.r 1 [⟨none, [], none, .mv 11 (.s 0)⟩,
    ⟨none, [], none, .len 12 (.s 11)⟩,
    ⟨none, [], none, .mv 13 (.s 3)⟩,
    ⟨none, [], none, .bin 14 .gtr (.s 12) (.s 13)⟩]) c_impl_zrange_5) c_impl_zrange_10
def c_impl_zrange_0 : VC :=
  .seq (.r 0 [⟨none, [], none, .mv 8 (.k (.bool false))⟩]) c_impl_zrange_2
def vf_impl_zrange : VF := { pm := [.ro [.ro [.sc]], .ro [.sc], .ro [.sc], .ro [.sc]], rm := [.v [.sc]], nslots := 30, res := [8], rc := [], code := .kp [0, 1, 2, 3] c_impl_zrange_0 }
def c_impl_zsides_2 : VC :=
  .seq (.r 1 [⟨none, [], none, .mv 5 (.s 0)⟩,
    ⟨none, [], none, .bin 6 .geq (.s 5) (.k (.int .i64 8))⟩,
    ⟨none, [], none, .mv 7 (.s 6)⟩,
    ⟨none, [], some (7, true), .mv 8 (.s 0)⟩,
    ⟨none, [], some (7, true), .bin 9 .leq (.s 8) (.k (.int .i64 64))⟩,
    ⟨none, [], none, .pick 10 (.s 7) (.s 9) (.k (.bool false))⟩,
    ⟨none, [], none, .mv 11 (.s 10)⟩,
    ⟨none, [], some (11, true), .mv 12 (.s 0)⟩,
    ⟨none, [], some (11, true), .bin 13 .rem (.s 12) (.k (.int .i64 8))⟩,
    ⟨none, [], some (11, true), .bin 14 .eql (.s 13) (.k (.int .i64 0))⟩,
    ⟨none, [], none, .pick 15 (.s 11) (.s 14) (.k (.bool false))⟩,
    ⟨none, [], none, .mv 16 (.s 15)⟩,
    ⟨none, [], some (16, true), .mv 17 (.s 1)⟩,
    ⟨none, [], some (16, true), .bin 18 .geq (.s 17) (.k (.int .i64 8))⟩,
    ⟨none, [], none, .pick 19 (.s 16) (.s 18) (.k (.bool false))⟩,
    ⟨none, [], none, .mv 20 (.s 19)⟩,
    ⟨none, [], some (20, true), .mv 21 (.s 1)⟩,
    ⟨none, [], some (20, true), .bin 22 .leq (.s 21) (.k (.int .i64 64))⟩,
    ⟨none, [], none, .pick 23 (.s 20) (.s 22) (.k (.bool false))⟩,
    ⟨none, [], none, .mv 24 (.s 23)⟩,
    ⟨none, [], some (24, true), .mv 25 (.s 1)⟩,
    ⟨none, [], some (24, true), .bin 26 .rem (.s 25) (.k (.int .i64 8))⟩,
    ⟨none, [], some (24, true), .bin 27 .eql (.s 26) (.k (.int .i64 0))⟩,
    ⟨none, [], none, .pick 28 (.s 24) (.s 27) (.k (.bool false))⟩,
    ⟨none, [], none, .mv 4 (.s 28)⟩]) (.ret)
def c_impl_zsides_0 : VC :=
  .seq (.r 0 [⟨none, [], none, .mv 4 (.k (.bool false))⟩]) c_impl_zsides_2
def vf_impl_zsides : VF := { pm := [.ro [.sc], .ro [.sc]], rm := [.v [.sc]], nslots := 29, res := [4], rc := [], code := .kp [0, 1] c_impl_zsides_0 }
def c_impl_zput4_2 : VC :=
  .seq (.r 1 [⟨none, [], none, .mv 3 (.s 0)⟩,
    ⟨none, [], none, .bin 4 .shr (.s 3) (.k (.int .u64 24))⟩,
    ⟨none, [], none, .conv 5 .u8 (.s 4)⟩,
    ⟨none, [], none, .mv 6 (.s 0)⟩,
    ⟨none, [], none, .bin 7 .shr (.s 6) (.k (.int .u64 16))⟩,
    ⟨none, [], none, .conv 8 .u8 (.s 7)⟩,
    ⟨none, [], none, .mv 9 (.s 0)⟩,
    ⟨none, [], none, .bin 10 .shr (.s 9) (.k (.int .u64 8))⟩,
    ⟨none, [], none, .conv 11 .u8 (.s 10)⟩,
    ⟨none, [], none, .mv 12 (.s 0)⟩,
    ⟨none, [], none, .conv 13 .u8 (.s 12)⟩,
    ⟨none, [], none, .lits 14 [.sc] [(.s 5), (.s 8), (.s 11), (.s 13)]⟩,
    ⟨none, [], none, .mv 2 (.s 14)⟩]) (.ret)
def c_impl_zput4_0 : VC :=
  .seq (.r 0 [⟨none, [], none, .nil 2 [.sc]⟩]) c_impl_zput4_2
def vf_impl_zput4 : VF := { pm := [.ro [.sc]], rm := [.v [.own [.sc]]], nslots := 15, res := [2], rc := [], code := .kp [0] c_impl_zput4_0 }
def c_impl_Crc_34 : VC :=
  .r 9 [⟨none, [], none, .bin 24 .add (.s 16) (.k (.int .i64 1))⟩,
    ⟨none, [], none, .mv 16 (.s 24)⟩]
def c_impl_Crc_31 : VC :=
  .seq (.blk 3 (.r 8 [⟨none, [], none, .mv 18 (.s 3)⟩,
    ⟨none, [], none, .bin 19 .shr (.s 18) (.k (.int .u64 1))⟩,
    ⟨none, [], none, .mv 20 (.s 3)⟩,
    ⟨none, [], none, .bin 21 .and (.s 20) (.k (.int .u32 1))⟩,
    ⟨none, [], none, .bin 22 .mul (.k (.int .u32 3988292384)) (.s 21)⟩,
    ⟨none, [], none, .bin 23 .xor (.s 19) (.s 22)⟩,
    ⟨none, [], none, .mv 3 (.s 23)⟩])) c_impl_Crc_34
def c_impl_Crc_27 : VC :=
  .seq (.ite (.s 17) (.skip) (.exit 2)) c_impl_Crc_31
def c_impl_Crc_25 : VC :=
  .seq (.r 7 [⟨none, [], none, .bin 17 .lss (.s 16) (.k (.int .i64 8))⟩]) c_impl_Crc_27
def c_impl_Crc_23 : VC :=
  .blk 2 (.loop [3, 6, 7, 8, 16] c_impl_Crc_25)
def c_impl_Crc_21 : VC :=
  .seq (.r 6 [⟨none, [], none, .mv 16 (.k (.int .i64 0))⟩]) c_impl_Crc_23
def c_impl_Crc_19 : VC :=
  .seq (.r 5 [⟨none, [], none, .mv 12 (.s 3)⟩,
    ⟨none, [], none, .mv 13 (.s 5)⟩,
    ⟨none, [], none, .conv 14 .u32 (.s 13)⟩,
    ⟨none, [], none, .bin 15 .xor (.s 12) (.s 14)⟩,
    ⟨none, [], none, .mv 3 (.s 15)⟩]) c_impl_Crc_21
def c_impl_Crc_35 : VC :=
  .r 10 [⟨none, [], none, .bin 25 .add (.s 8) (.k (.int .i64 1))⟩,
    ⟨none, [], none, .mv 8 (.s 25)⟩]
def c_impl_Crc_15 : VC :=
  .seq (.blk 1 (.seq (.r 4 [⟨none, [], none, .iadr 10 (.s 6) (.s 8) 1⟩,
    ⟨none, [], none, .ld 11 (.s 10) 1 false⟩,
    ⟨none, [], none, .mv 5 (.s 11)⟩]) c_impl_Crc_19)) (.kp [3, 6, 7, 8] c_impl_Crc_35)
def c_impl_Crc_11 : VC :=
  .seq (.ite (.s 9) (.skip) (.exit 0)) c_impl_Crc_15
def c_impl_Crc_9 : VC :=
  .seq (.r 3 [⟨none, [], none, .bin 9 .lss (.s 8) (.s 7)⟩]) c_impl_Crc_11
def c_impl_Crc_7 : VC :=
  .blk 0 (.loop [3, 6, 7, 8] c_impl_Crc_9)
def c_impl_Crc_36 : VC :=
  .seq (.r 11 [⟨none, [], none, .mv 26 (.s 3)⟩,
    ⟨none, [], none, .un 27 .xor (.s 26)⟩,
    ⟨none, [], none, .mv 2 (.s 27)⟩]) (.ret)
def c_impl_Crc_4 : VC :=
  .seq (.seq (.r 2 [⟨none, [], none, .mv 6 (.s 0)⟩,
    ⟨none, [], none, .len 7 (.s 6)⟩,
    ⟨none, [], none, .mv 8 (.k (.int .i64 0))⟩]) c_impl_Crc_7) (.kp [3] c_impl_Crc_36)
def c_impl_Crc_2 : VC :=
  .seq (.r 1 [⟨none, [], none, .mv 3 (.k (.int .u32 4294967295))⟩]) c_impl_Crc_4
def c_impl_Crc_0 : VC :=
  .seq (.r 0 [⟨none, [], none, .mv 2 (.k (.int .u32 0))⟩]) c_impl_Crc_2
def vf_impl_Crc : VF := { pm := [.ro [.ro [.sc]]], rm := [.v [.sc]], nslots := 28, res := [2], rc := [], code := .kp [0] c_impl_Crc_0 }
def c_impl_zpile_24 : VC :=
  .ite (.s 34) (.r 7 [⟨none, [], none, .mv 35 (.s 6)⟩,
    ⟨none, [], none, .bin 36 .add (.s 35) (.k (.int .i64 128))⟩,
    ⟨none, [], none, .mv 6 (.s 36)⟩]) (.skip)
def c_impl_zpile_31 : VC :=
  .r 10 [⟨none, [], none, .mv 47 (.s 3)⟩,
    ⟨none, [], none, .mv 48 (.s 7)⟩,
    ⟨none, [], none, .app 49 (.s 47) (.s 48) [.sc] 140737488355328⟩,
    ⟨none, [], none, .mv 50 (.s 7)⟩,
    ⟨none, [], none, .call 51 177 [(.s 50)]⟩,
    ⟨none, [], none, .conv 52 .i64 (.s 51)⟩,
    ⟨none, [], none, .call 53 176 [(.s 52)]⟩,
    ⟨none, [], none, .app 54 (.s 49) (.s 53) [.sc] 140737488355328⟩,
    ⟨none, [], none, .mv 3 (.s 54)⟩]
def c_impl_zpile_29 : VC :=
  .seq (.r 9 [⟨none, [], none, .mv 44 (.s 7)⟩,
    ⟨none, [], none, .mv 45 (.s 5)⟩,
    ⟨none, [], none, .app 46 (.s 44) (.s 45) [.sc] 140737488355328⟩,
    ⟨none, [], none, .mv 7 (.s 46)⟩]) c_impl_zpile_31
def c_impl_zpile_27 : VC :=
  .seq (.r 8 [⟨none, [], none, .mv 37 (.s 6)⟩,
    ⟨none, [], none, .conv 38 .u8 (.s 37)⟩,
    ⟨none, [], none, .lits 39 [.sc] [(.s 38)]⟩,
    ⟨none, [], none, .mv 40 (.s 5)⟩,
    ⟨none, [], none, .len 41 (.s 40)⟩,
    ⟨none, [], none, .call 42 176 [(.s 41)]⟩,
    ⟨none, [], none, .app 43 (.s 39) (.s 42) [.sc] 140737488355328⟩,
    ⟨none, [], none, .mv 7 (.s 43)⟩]) c_impl_zpile_29
def c_impl_zpile_21 : VC :=
  .seq (.seq (.r 6 [⟨none, [], none, .fadr 30 (.s 1) 3⟩,
    ⟨none, [], none, .ld 31 (.s 30) 1 false⟩,
    ⟨none, [], none, .mv 32 (.s 4)⟩,
    ⟨none, [], none, .iadr 33 (.s 31) (.s 32) 1⟩,
    ⟨none, [], none, .ld 34 (.s 33) 1 false⟩]) c_impl_zpile_24) (.kp [1, 3, 5, 6, 18, 19, 20] c_impl_zpile_27)
def c_impl_zpile_19 : VC :=
  .seq (.r 5 [⟨none, [], none, .fadr 25 (.s 1) 4⟩,
    ⟨none, [], none, .ld 26 (.s 25) 1 false⟩,
    ⟨none, [], none, .mv 27 (.s 4)⟩,
    ⟨none, [], none, .iadr 28 (.s 26) (.s 27) 1⟩,
    ⟨none, [], none, .ld 29 (.s 28) 1 false⟩,
    ⟨none, [], none, .mv 6 (.s 29)⟩]) c_impl_zpile_21
def c_impl_zpile_32 : VC :=
  .r 11 [⟨none, [], none, .bin 55 .add (.s 20) (.k (.int .i64 1))⟩,
    ⟨none, [], none, .mv 20 (.s 55)⟩]
def c_impl_zpile_15 : VC :=
  .seq (.blk 1 (.seq (.r 4 [⟨none, [], none, .mv 22 (.s 20)⟩,
    ⟨none, [], none, .iadr 23 (.s 18) (.s 20) 1⟩,
    ⟨none, [], none, .ld 24 (.s 23) 1 false⟩,
    ⟨none, [], none, .mv 4 (.s 22)⟩,
    ⟨none, [], none, .mv 5 (.s 24)⟩]) c_impl_zpile_19)) c_impl_zpile_32
def c_impl_zpile_11 : VC :=
  .seq (.ite (.s 21) (.skip) (.exit 0)) c_impl_zpile_15
def c_impl_zpile_9 : VC :=
  .seq (.r 3 [⟨none, [], none, .bin 21 .lss (.s 20) (.s 19)⟩]) c_impl_zpile_11
def c_impl_zpile_7 : VC :=
  .blk 0 (.loop [1, 3, 18, 19, 20] c_impl_zpile_9)
def c_impl_zpile_33 : VC :=
  .seq (.r 12 [⟨none, [], none, .mv 56 (.s 3)⟩,
    ⟨none, [], none, .mv 2 (.s 56)⟩]) (.ret)
def c_impl_zpile_4 : VC :=
  .seq (.seq (.r 2 [⟨none, [], none, .fadr 17 (.s 1) 5⟩,
    ⟨none, [], none, .ld 18 (.s 17) 1 false⟩,
    ⟨none, [], none, .len 19 (.s 18)⟩,
    ⟨none, [], none, .mv 20 (.k (.int .i64 0))⟩]) c_impl_zpile_7) (.kp [3] c_impl_zpile_33)
def c_impl_zpile_2 : VC :=
  .seq (.r 1 [⟨none, [], none, .fadr 8 (.s 1) 1⟩,
    ⟨none, [], none, .ld 9 (.s 8) 1 false⟩,
    ⟨none, [], none, .bin 10 .quo (.s 9) (.k (.int .i64 8))⟩,
    ⟨none, [], none, .conv 11 .u8 (.s 10)⟩,
    ⟨none, [], none, .fadr 12 (.s 1) 2⟩,
    ⟨none, [], none, .ld 13 (.s 12) 1 false⟩,
    ⟨none, [], none, .bin 14 .quo (.s 13) (.k (.int .i64 8))⟩,
    ⟨none, [], none, .conv 15 .u8 (.s 14)⟩,
    ⟨none, [], none, .lits 16 [.sc] [(.k (.int .u8 86)), (.k (.int .u8 73)), (.k (.int .u8 68)), (.k (.int .u8 49)), (.s 11), (.s 15)]⟩,
    ⟨none, [], none, .mv 3 (.s 16)⟩]) c_impl_zpile_4
def c_impl_zpile_0 : VC :=
  .seq (.r 0 [⟨none, [], none, .box 1 (.s 0)⟩,
    ⟨none, [], none, .nil 2 [.sc]⟩]) c_impl_zpile_2
def vf_impl_zpile : VF := { pm := [.ro [.sc, .sc, .sc, .ro [.sc], .ro [.sc], .ro [.ro [.sc]]]], rm := [.v [.own [.sc]]], nslots := 57, res := [2], rc := [], code := .kp [0] c_impl_zpile_0 }
def c_impl_ReadPartsC1_2 : VC :=
  .seq (.r 1 [⟨none, [], none, .mv 3 (.s 0)⟩,
    ⟨none, [], none, .bld 4 [.k (.int .i64 0), .k (.int .i64 0), .k (.int .i64 0), .o [.sc], .o [.sc], .o [.own [.sc]]] [(0, 1, (.s 3))]⟩,
    ⟨none, [], none, .st (.s 2) (.s 4) 6⟩]) (.ret)
def c_impl_ReadPartsC1_0 : VC :=
  .seq (.r 0 [⟨none, [], none, .alloc 2 [.k (.int .i64 0), .k (.int .i64 0), .k (.int .i64 0), .o [.sc], .o [.sc], .o [.own [.sc]]]⟩]) c_impl_ReadPartsC1_2
def vf_impl_ReadPartsC1 : VF := { pm := [.ro [.sc]], rm := [.v [.sc, .sc, .sc, .own [.sc], .own [.sc], .own [.own [.sc]]]], nslots := 5, res := [2], rc := [some (6, true)], code := .kp [0] c_impl_ReadPartsC1_0 }
def c_impl_zmagic_20 : VC :=
  .ite (.s 14) (.seq (.r 5 [⟨none, [], none, .mv 4 (.k (.int .i64 2))⟩]) (.ret)) (.skip)
def c_impl_zmagic_27 : VC :=
  .ite (.s 22) (.seq (.r 7 [⟨none, [], none, .mv 4 (.k (.int .i64 4))⟩]) (.ret)) (.skip)
def c_impl_zmagic_25 : VC :=
  .seq (.d 6 [(0, ⟨none, [], none, .mv 15 (.s 0)⟩),
    (1, ⟨none, [], none, .mv 16 (.s 5)⟩),
    (2, ⟨none, [], none, .iadr 17 (.s 15) (.s 16) 1⟩),
    (3, ⟨none, [], none, .ldv 18 (.s 17) 1 false⟩),
    (4, ⟨none, [], none, .mv 19 (.s 1)⟩),
    (5, ⟨none, [], none, .mv 20 (.s 5)⟩),
    (6, ⟨none, [], none, .idx 21 (.s 19) (.s 20)⟩),
    (7, ⟨none, [], none, .bin 22 .neq (.s 18) (.s 21)⟩)]) c_impl_zmagic_27
def c_impl_zmagic_17 : VC :=
  .seq (.seq (.r 4 [⟨none, [], none, .mv 11 (.s 5)⟩,
    ⟨none, [], none, .mv 12 (.s 0)⟩,
    ⟨none, [], none, .len 13 (.s 12)⟩,
    ⟨none, [], none, .bin 14 .geq (.s 11) (.s 13)⟩]) c_impl_zmagic_20) c_impl_zmagic_25
def c_impl_zmagic_32 : VC :=
  .r 8 [⟨none, [], none, .bin 23 .add (.s 8) (.k (.int .i64 1))⟩,
    ⟨none, [], none, .mv 8 (.s 23)⟩]
def c_impl_zmagic_13 : VC :=
  .seq (.blk 1 (.seq (.r 3 [⟨none, [], none, .mv 10 (.s 8)⟩,
    ⟨none, [], none, .mv 5 (.s 10)⟩]) c_impl_zmagic_17)) c_impl_zmagic_32
def c_impl_zmagic_9 : VC :=
  .seq (.ite (.s 9) (.skip) (.exit 0)) c_impl_zmagic_13
def c_impl_zmagic_7 : VC :=
  .seq (.r 2 [⟨none, [], none, .bin 9 .lss (.s 8) (.s 7)⟩]) c_impl_zmagic_9
def c_impl_zmagic_5 : VC :=
  .blk 0 (.loop [0, 1, 7, 8] c_impl_zmagic_7)
def c_impl_zmagic_33 : VC :=
  .seq (.r 9 [⟨none, [], none, .mv 4 (.k (.int .i64 0))⟩]) (.ret)
def c_impl_zmagic_2 : VC :=
  .seq (.seq (.r 1 [⟨none, [], none, .mv 6 (.s 1)⟩,
    ⟨none, [], none, .slen 7 (.s 6)⟩,
    ⟨none, [], none, .mv 8 (.k (.int .i64 0))⟩]) c_impl_zmagic_5) (.kp [] c_impl_zmagic_33)
def c_impl_zmagic_0 : VC :=
  .seq (.r 0 [⟨none, [], none, .mv 4 (.k (.int .i64 0))⟩]) c_impl_zmagic_2
def vf_impl_zmagic : VF := { pm := [.ro [.ro [.sc]], .ro [.sc]], rm := [.v [.sc]], nslots := 24, res := [4], rc := [], code := .kp [0, 1] c_impl_zmagic_0 }
def c_impl_zget4_2 : VC :=
  .seq (.d 1 [(0, ⟨none, [], none, .mv 3 (.s 0)⟩),
    (1, ⟨none, [], none, .iadr 4 (.s 3) (.k (.int .i64 0)) 1⟩),
    (2, ⟨none, [], none, .ldv 5 (.s 4) 1 false⟩),
    (3, ⟨none, [], none, .conv 6 .i64 (.s 5)⟩),
    (4, ⟨none, [], none, .bin 7 .shl (.s 6) (.k (.int .u64 24))⟩),
    (5, ⟨none, [], none, .mv 8 (.s 0)⟩),
    (6, ⟨none, [], none, .iadr 9 (.s 8) (.k (.int .i64 1)) 1⟩),
    (7, ⟨none, [], none, .ldv 10 (.s 9) 1 false⟩),
    (8, ⟨none, [], none, .conv 11 .i64 (.s 10)⟩),
    (9, ⟨none, [], none, .bin 12 .shl (.s 11) (.k (.int .u64 16))⟩),
    (10, ⟨none, [], none, .bin 13 .or (.s 7) (.s 12)⟩),
    (11, ⟨none, [], none, .mv 14 (.s 0)⟩),
    (12, ⟨none, [], none, .iadr 15 (.s 14) (.k (.int .i64 2)) 1⟩),
    (13, ⟨none, [], none, .ldv 16 (.s 15) 1 false⟩),
    (14, ⟨none, [], none, .conv 17 .i64 (.s 16)⟩),
    (15, ⟨none, [], none, .bin 18 .shl (.s 17) (.k (.int .u64 8))⟩),
    (16, ⟨none, [], none, .bin 19 .or (.s 13) (.s 18)⟩),
    (17, ⟨none, [], none, .mv 20 (.s 0)⟩),
    (18, ⟨none, [], none, .iadr 21 (.s 20) (.k (.int .i64 3)) 1⟩),
    (19, ⟨none, [], none, .ldv 22 (.s 21) 1 false⟩),
    (20, ⟨none, [], none, .conv 23 .i64 (.s 22)⟩),
    (21, ⟨none, [], none, .bin 24 .or (.s 19) (.s 23)⟩),
    (22, ⟨none, [], none, .mv 2 (.s 24)⟩)]) (.ret)
def c_impl_zget4_0 : VC :=
  .seq (.r 0 [⟨none, [], none, .mv 2 (.k (.int .i64 0))⟩]) c_impl_zget4_2
def vf_impl_zget4 : VF := { pm := [.ro [.ro [.sc]]], rm := [.v [.sc]], nslots := 25, res := [2], rc := [], code := .kp [0] c_impl_zget4_0 }
def c_impl_ReadParts_20 : VC :=
  .ite (.s 23) (.seq (.r 7 [⟨none, [], none, .mv 27 (.s 3)⟩,
    ⟨none, [], none, .callc 28 (.s 27) [(.k (.int .i64 2))]⟩,
    ⟨none, [], none, .st (.s 2) (.s 28) 6⟩]) (.ret)) (.skip)
def c_impl_ReadParts_14 : VC :=
  .ite (.s 15) (.seq (.r 5 [⟨none, [], none, .mv 19 (.s 3)⟩,
    ⟨none, [], none, .mv 20 (.s 0)⟩,
    ⟨none, [], none, .call 21 89 [(.s 20), (.k (.string (ByteArray.mk #[86, 73, 68, 49])))]⟩,
    ⟨none, [], none, .callc 22 (.s 19) [(.s 21)]⟩,
    ⟨none, [], none, .st (.s 2) (.s 22) 6⟩]) (.ret)) (.seq (.r 6 [⟨none, [], none, .mv 24 (.s 0)⟩,
    ⟨none, [], none, .len 25 (.s 24)⟩,
    ⟨none, [], none, .bin 26 .lss (.s 25) (.k (.int .i64 6))⟩,
    ⟨none, [], none, .mv 23 (.s 26)⟩]) c_impl_ReadParts_20)
def c_impl_ReadParts_8 : VC :=
  .ite (.s 9) (.seq (.r 3 [⟨none, [], none, .mv 13 (.s 3)⟩,
    ⟨none, [], none, .callc 14 (.s 13) [(.k (.int .i64 1))]⟩,
    ⟨none, [], none, .st (.s 2) (.s 14) 6⟩]) (.ret)) (.seq (.r 4 [⟨none, [], none, .mv 16 (.s 0)⟩,
    ⟨none, [], none, .call 17 89 [(.s 16), (.k (.string (ByteArray.mk #[86, 73, 68, 49])))]⟩,
    ⟨none, [], none, .bin 18 .neq (.s 17) (.k (.int .i64 0))⟩,
    ⟨none, [], none, .mv 15 (.s 18)⟩]) c_impl_ReadParts_14)
def c_impl_ReadParts_30 : VC :=
  .ite (.s 45) (.seq (.r 10 [⟨none, [], none, .mv 46 (.s 3)⟩,
    ⟨none, [], none, .callc 47 (.s 46) [(.k (.int .i64 5))]⟩,
    ⟨none, [], none, .st (.s 2) (.s 47) 6⟩]) (.ret)) (.skip)
def c_impl_ReadParts_43 : VC :=
  .ite (.s 52) (.skip) (.exit 1)
def c_impl_ReadParts_50 : VC :=
  .ite (.s 64) (.seq (.r 14 [⟨none, [], none, .mv 65 (.s 3)⟩,
    ⟨none, [], none, .callc 66 (.s 65) [(.k (.int .i64 2))]⟩,
    ⟨none, [], none, .st (.s 2) (.s 66) 6⟩]) (.ret)) (.skip)
def c_impl_ReadParts_83 : VC :=
  .ite (.s 109) (.seq (.r 25 [⟨none, [], none, .mv 127 (.s 3)⟩,
    ⟨none, [], none, .callc 128 (.s 127) [(.k (.int .i64 7))]⟩,
    ⟨none, [], none, .st (.s 2) (.s 128) 6⟩]) (.ret)) (.skip)
def c_impl_ReadParts_77 : VC :=
  .ite (.s 98) (.seq (.r 23 [⟨none, [], none, .mv 107 (.s 3)⟩,
    ⟨none, [], none, .callc 108 (.s 107) [(.k (.int .i64 6))]⟩,
    ⟨none, [], none, .st (.s 2) (.s 108) 6⟩]) (.ret)) (.seq (.r 24 [⟨none, [], none, .fadr 110 (.s 4) 5⟩,
    ⟨none, [], none, .ld 111 (.s 110) 1 false⟩,
    ⟨none, [], none, .len 112 (.s 111)⟩,
    ⟨none, [], none, .bin 113 .eql (.s 112) (.k (.int .i64 24))⟩,
    ⟨none, [], none, .mv 114 (.s 113)⟩,
    ⟨none, [], some (114, false), .fadr 115 (.s 4) 5⟩,
    ⟨none, [], some (114, false), .ld 116 (.s 115) 1 false⟩,
    ⟨none, [], some (114, false), .len 117 (.s 116)⟩,
    ⟨none, [], some (114, false), .bin 118 .add (.s 117) (.k (.int .i64 1))⟩,
    ⟨none, [], some (114, false), .fadr 119 (.s 4) 1⟩,
    ⟨none, [], some (114, false), .ld 120 (.s 119) 1 false⟩,
    ⟨none, [], some (114, false), .bin 121 .mul (.s 118) (.s 120)⟩,
    ⟨none, [], some (114, false), .fadr 122 (.s 4) 2⟩,
    ⟨none, [], some (114, false), .ld 123 (.s 122) 1 false⟩,
    ⟨none, [], some (114, false), .bin 124 .mul (.s 121) (.s 123)⟩,
    ⟨none, [], some (114, false), .bin 125 .gtr (.s 124) (.k (.int .i64 8192))⟩,
    ⟨none, [], none, .pick 126 (.s 114) (.k (.bool true)) (.s 125)⟩,
    ⟨none, [], none, .mv 109 (.s 126)⟩]) (.kp [2, 3, 4, 5, 6, 7, 8, 109] c_impl_ReadParts_83))
def c_impl_ReadParts_71 : VC :=
  .ite (.s 85) (.seq (.r 21 [⟨none, [], none, .mv 96 (.s 3)⟩,
    ⟨none, [], none, .callc 97 (.s 96) [(.k (.int .i64 3))]⟩,
    ⟨none, [], none, .st (.s 2) (.s 97) 6⟩]) (.ret)) (.seq (.r 22 [⟨none, [], none, .fadr 99 (.s 4) 5⟩,
    ⟨none, [], none, .ld 100 (.s 99) 1 false⟩,
    ⟨none, [], none, .len 101 (.s 100)⟩,
    ⟨none, [], none, .bin 102 .eql (.s 101) (.k (.int .i64 0))⟩,
    ⟨none, [], none, .mv 103 (.s 102)⟩,
    ⟨none, [], some (103, true), .mv 104 (.s 8)⟩,
    ⟨none, [], some (103, true), .un 105 .not (.s 104)⟩,
    ⟨none, [], none, .pick 106 (.s 103) (.s 105) (.k (.bool false))⟩,
    ⟨none, [], none, .mv 98 (.s 106)⟩]) (.kp [2, 3, 4, 5, 6, 7, 8, 98] c_impl_ReadParts_77))
def c_impl_ReadParts_65 : VC :=
  .ite (.s 80) (.seq (.r 19 [⟨none, [], none, .mv 83 (.s 3)⟩,
    ⟨none, [], none, .callc 84 (.s 83) [(.k (.int .i64 5))]⟩,
    ⟨none, [], none, .st (.s 2) (.s 84) 6⟩]) (.ret)) (.seq (.d 20 [(0, ⟨none, [], none, .mv 86 (.s 5)⟩),
    (1, ⟨none, [], none, .mv 87 (.s 6)⟩),
    (2, ⟨none, [], none, .slc 88 (.s 86) (some (.s 87)) none 1⟩),
    (3, ⟨none, [], none, .call 89 179 [(.s 88)]⟩),
    (4, ⟨none, [], none, .mv 90 (.s 5)⟩),
    (5, ⟨none, [], none, .mv 91 (.s 6)⟩),
    (6, ⟨none, [], none, .slc 92 (.s 90) none (some (.s 91)) 1⟩),
    (7, ⟨none, [], none, .call 93 177 [(.s 92)]⟩),
    (8, ⟨none, [], none, .conv 94 .i64 (.s 93)⟩),
    (9, ⟨none, [], none, .bin 95 .neq (.s 89) (.s 94)⟩),
    (10, ⟨none, [], none, .mv 85 (.s 95)⟩)]) c_impl_ReadParts_71)
def c_impl_ReadParts_94 : VC :=
  .r 29 [⟨none, [], none, .mv 151 (.s 5)⟩,
    ⟨none, [], none, .mv 152 (.s 6)⟩,
    ⟨none, [], none, .bin 153 .add (.s 152) (.k (.int .i64 4))⟩,
    ⟨none, [], none, .slc 154 (.s 151) (some (.s 153)) none 1⟩,
    ⟨none, [], none, .mv 5 (.s 154)⟩]
def c_impl_ReadParts_92 : VC :=
  .seq (.d 28 [(0, ⟨none, [], none, .fadv 141 (.s 4) 5⟩),
    (1, ⟨none, [], none, .ldv 142 (.s 141) 1 false⟩),
    (3, ⟨none, [], none, .mv 144 (.s 5)⟩),
    (4, ⟨none, [], none, .mv 145 (.s 6)⟩),
    (5, ⟨none, [], none, .slc 146 (.s 144) (some (.k (.int .i64 5))) (some (.s 145)) 1⟩),
    (2, ⟨none, [], none, .lits 143 [.sc] []⟩),
    (6, ⟨none, [], none, .app 147 (.s 143) (.s 146) [.sc] 140737488355328⟩),
    (7, ⟨none, [], none, .lits 148 [.own [.sc]] [(.s 147)]⟩),
    (8, ⟨none, [], none, .app 149 (.s 142) (.s 148) [.own [.sc]] 5864062014805⟩),
    (9, ⟨none, [], none, .fadv 150 (.s 4) 5⟩),
    (10, ⟨none, [], none, .st (.s 150) (.s 149) 1⟩)]) c_impl_ReadParts_94
def c_impl_ReadParts_90 : VC :=
  .seq (.r 27 [⟨none, [], none, .fadr 135 (.s 4) 4⟩,
    ⟨none, [], none, .ld 136 (.s 135) 1 false⟩,
    ⟨none, [], none, .mv 137 (.s 7)⟩,
    ⟨none, [], none, .lits 138 [.sc] [(.s 137)]⟩,
    ⟨none, [], none, .app 139 (.s 136) (.s 138) [.sc] 17592186044416⟩,
    ⟨none, [], none, .fadr 140 (.s 4) 4⟩,
    ⟨none, [], none, .st (.s 140) (.s 139) 1⟩]) c_impl_ReadParts_92
def c_impl_ReadParts_88 : VC :=
  .seq (.r 26 [⟨none, [], none, .fadr 129 (.s 4) 3⟩,
    ⟨none, [], none, .ld 130 (.s 129) 1 false⟩,
    ⟨none, [], none, .mv 131 (.s 8)⟩,
    ⟨none, [], none, .lits 132 [.sc] [(.s 131)]⟩,
    ⟨none, [], none, .app 133 (.s 130) (.s 132) [.sc] 140737488355328⟩,
    ⟨none, [], none, .fadr 134 (.s 4) 3⟩,
    ⟨none, [], none, .st (.s 134) (.s 133) 1⟩]) c_impl_ReadParts_90
def c_impl_ReadParts_61 : VC :=
  .seq (.blk 3 (.seq (.r 18 [⟨none, [], none, .mv 81 (.s 7)⟩,
    ⟨none, [], none, .bin 82 .gtr (.s 81) (.k (.int .i64 40))⟩,
    ⟨none, [], none, .mv 80 (.s 82)⟩]) c_impl_ReadParts_65)) c_impl_ReadParts_88
def c_impl_ReadParts_59 : VC :=
  .seq (.r 17 [⟨none, [], none, .mv 76 (.s 5)⟩,
    ⟨none, [], none, .iadr 77 (.s 76) (.k (.int .i64 0)) 1⟩,
    ⟨none, [], none, .ld 78 (.s 77) 1 false⟩,
    ⟨none, [], none, .bin 79 .gtr (.s 78) (.k (.int .u8 127))⟩,
    ⟨none, [], none, .mv 8 (.s 79)⟩]) c_impl_ReadParts_61
def c_impl_ReadParts_57 : VC :=
  .seq (.r 16 [⟨none, [], none, .mv 71 (.s 5)⟩,
    ⟨none, [], none, .iadr 72 (.s 71) (.k (.int .i64 0)) 1⟩,
    ⟨none, [], none, .ld 73 (.s 72) 1 false⟩,
    ⟨none, [], none, .bin 74 .and (.s 73) (.k (.int .u8 127))⟩,
    ⟨none, [], none, .conv 75 .i64 (.s 74)⟩,
    ⟨none, [], none, .mv 7 (.s 75)⟩]) c_impl_ReadParts_59
def c_impl_ReadParts_55 : VC :=
  .seq (.r 15 [⟨none, [], none, .mv 67 (.s 5)⟩,
    ⟨none, [], none, .slc 68 (.s 67) (some (.k (.int .i64 1))) none 1⟩,
    ⟨none, [], none, .call 69 179 [(.s 68)]⟩,
    ⟨none, [], none, .bin 70 .add (.k (.int .i64 5)) (.s 69)⟩,
    ⟨none, [], none, .mv 6 (.s 70)⟩]) c_impl_ReadParts_57
def c_impl_ReadParts_46 : VC :=
  .blk 2 (.seq (.seq (.r 13 [⟨none, [], none, .mv 53 (.s 5)⟩,
    ⟨none, [], none, .len 54 (.s 53)⟩,
    ⟨none, [], none, .bin 55 .lss (.s 54) (.k (.int .i64 5))⟩,
    ⟨none, [], none, .mv 56 (.s 55)⟩,
    ⟨none, [], some (56, false), .mv 57 (.s 5)⟩,
    ⟨none, [], some (56, false), .slc 58 (.s 57) (some (.k (.int .i64 1))) none 1⟩,
    ⟨none, [], some (56, false), .call 59 179 [(.s 58)]⟩,
    ⟨none, [], some (56, false), .mv 60 (.s 5)⟩,
    ⟨none, [], some (56, false), .len 61 (.s 60)⟩,
    ⟨none, [], some (56, false), .bin 62 .sub (.s 61) (.k (.int .i64 9))⟩,
    ⟨none, [], some (56, false), .bin 63 .gtr (.s 59) (.s 62)⟩,
    ⟨none, [], none, .pick 64 (.s 56) (.k (.bool true)) (.s 63)⟩]) (.kp [2, 3, 4, 5, 64] c_impl_ReadParts_50)) c_impl_ReadParts_55)
def c_impl_ReadParts_40 : VC :=
  .seq (.seq (.r 12 [⟨none, [], none, .mv 50 (.s 5)⟩,
    ⟨none, [], none, .len 51 (.s 50)⟩,
    ⟨none, [], none, .bin 52 .gtr (.s 51) (.k (.int .i64 0))⟩]) c_impl_ReadParts_43) c_impl_ReadParts_46
def c_impl_ReadParts_38 : VC :=
  .blk 1 (.pre [.nlv 4 3 [.sc], .nlv 4 4 [.sc], .nlv 4 5 [.own [.sc]]] (.loop [2, 3, 4, 5] c_impl_ReadParts_40))
def c_impl_ReadParts_98 : VC :=
  .ite (.s 158) (.seq (.r 31 [⟨none, [], none, .mv 159 (.s 3)⟩,
    ⟨none, [], none, .callc 160 (.s 159) [(.k (.int .i64 2))]⟩,
    ⟨none, [], none, .st (.s 2) (.s 160) 6⟩]) (.ret)) (.skip)
def c_impl_ReadParts_103 : VC :=
  .seq (.r 32 [⟨none, [], none, .ld 161 (.s 4) 6 true⟩,
    ⟨none, [], none, .st (.s 2) (.s 161) 6⟩]) (.ret)
def c_impl_ReadParts_95 : VC :=
  .seq (.seq (.r 30 [⟨none, [], none, .fadr 155 (.s 4) 5⟩,
    ⟨none, [], none, .ld 156 (.s 155) 1 false⟩,
    ⟨none, [], none, .len 157 (.s 156)⟩,
    ⟨none, [], none, .bin 158 .eql (.s 157) (.k (.int .i64 0))⟩]) c_impl_ReadParts_98) c_impl_ReadParts_103
def c_impl_ReadParts_35 : VC :=
  .seq (.seq (.r 11 [⟨none, [], none, .mv 48 (.s 0)⟩,
    ⟨none, [], none, .slc 49 (.s 48) (some (.k (.int .i64 6))) none 1⟩,
    ⟨none, [], none, .mv 5 (.s 49)⟩]) c_impl_ReadParts_38) (.kp [2, 3, 4] c_impl_ReadParts_95)
def c_impl_ReadParts_27 : VC :=
  .seq (.seq (.r 9 [⟨none, [], none, .fadr 40 (.s 4) 1⟩,
    ⟨none, [], none, .ld 41 (.s 40) 1 false⟩,
    ⟨none, [], none, .fadr 42 (.s 4) 2⟩,
    ⟨none, [], none, .ld 43 (.s 42) 1 false⟩,
    ⟨none, [], none, .call 44 116 [(.s 41), (.s 43)]⟩,
    ⟨none, [], none, .un 45 .not (.s 44)⟩]) c_impl_ReadParts_30) c_impl_ReadParts_35
def c_impl_ReadParts_25 : VC :=
  .seq (.d 8 [(0, ⟨none, [], none, .mv 29 (.s 0)⟩),
    (1, ⟨none, [], none, .iadr 30 (.s 29) (.k (.int .i64 4)) 1⟩),
    (2, ⟨none, [], none, .ldv 31 (.s 30) 1 false⟩),
    (3, ⟨none, [], none, .conv 32 .i64 (.s 31)⟩),
    (4, ⟨none, [], none, .bin 33 .mul (.k (.int .i64 8)) (.s 32)⟩),
    (5, ⟨none, [], none, .mv 34 (.s 0)⟩),
    (6, ⟨none, [], none, .iadr 35 (.s 34) (.k (.int .i64 5)) 1⟩),
    (7, ⟨none, [], none, .ldv 36 (.s 35) 1 false⟩),
    (8, ⟨none, [], none, .conv 37 .i64 (.s 36)⟩),
    (9, ⟨none, [], none, .bin 38 .mul (.k (.int .i64 8)) (.s 37)⟩),
    (10, ⟨none, [], none, .bld 39 [.k (.int .i64 0), .k (.int .i64 0), .k (.int .i64 0), .k (.slice none 0 0), .k (.slice none 0 0), .k (.slice none 0 0)] [(1, 1, (.s 33)), (2, 1, (.s 38))]⟩),
    (11, ⟨none, [], none, .alloc 4 [.k (.int .i64 0), .k (.int .i64 0), .k (.int .i64 0), .o [.sc], .o [.sc], .o [.own [.sc]]]⟩),
    (12, ⟨none, [], none, .st (.s 4) (.s 39) 6⟩)]) c_impl_ReadParts_27
def c_impl_ReadParts_4 : VC :=
  .seq (.blk 0 (.seq (.r 2 [⟨none, [], none, .mv 10 (.s 0)⟩,
    ⟨none, [], none, .len 11 (.s 10)⟩,
    ⟨none, [], none, .bin 12 .gtr (.s 11) (.k (.int .i64 60000))⟩,
    ⟨none, [], none, .mv 9 (.s 12)⟩]) c_impl_ReadParts_8)) c_impl_ReadParts_25
def c_impl_ReadParts_2 : VC :=
  .seq (.r 1 [⟨none, [], none, .mv 3 (.f 178)⟩]) c_impl_ReadParts_4
def c_impl_ReadParts_0 : VC :=
  .seq (.r 0 [⟨none, [], none, .alloc 2 [.k (.int .i64 0), .k (.int .i64 0), .k (.int .i64 0), .o [.sc], .o [.sc], .o [.own [.sc]]]⟩]) c_impl_ReadParts_2
def vf_impl_ReadParts : VF := { pm := [.ro [.ro [.sc]]], rm := [.v [.sc, .sc, .sc, .own [.sc], .own [.sc], .own [.own [.sc]]]], nslots := 162, res := [2], rc := [some (6, true)], code := .kp [0] c_impl_ReadParts_0 }
def c_impl_WriteParts_7 : VC :=
  .ite (.s 40) (.seq (.r 3 [⟨none, [], none, .nil 2 [.sc]⟩]) (.ret)) (.skip)
def c_impl_WriteParts_19 : VC :=
  .ite (.s 54) (.seq (.r 7 [⟨none, [], none, .nil 2 [.sc]⟩]) (.ret)) (.skip)
def c_impl_WriteParts_17 : VC :=
  .seq (.r 6 [⟨none, [], none, .fadr 45 (.s 5) 0⟩,
    ⟨none, [], none, .ld 46 (.s 45) 1 false⟩,
    ⟨none, [], none, .bin 47 .neq (.s 46) (.k (.int .i64 0))⟩,
    ⟨none, [], none, .mv 48 (.s 47)⟩,
    ⟨none, [], some (48, false), .fadr 49 (.s 5) 5⟩,
    ⟨none, [], some (48, false), .ld 50 (.s 49) 1 false⟩,
    ⟨none, [], some (48, false), .len 51 (.s 50)⟩,
    ⟨none, [], some (48, false), .mv 52 (.s 3)⟩,
    ⟨none, [], some (48, false), .bin 53 .neq (.s 51) (.s 52)⟩,
    ⟨none, [], none, .pick 54 (.s 48) (.k (.bool true)) (.s 53)⟩]) c_impl_WriteParts_19
def c_impl_WriteParts_24 : VC :=
  .seq (.r 8 [⟨none, [], none, .mv 55 (.s 4)⟩,
    ⟨none, [], none, .mv 2 (.s 55)⟩]) (.ret)
def c_impl_WriteParts_14 : VC :=
  .seq (.seq (.r 5 [⟨none, [], none, .mv 43 (.s 4)⟩,
    ⟨none, [], none, .call 44 118 [(.s 43)]⟩,
    ⟨none, [], none, .alloc 5 [.k (.int .i64 0), .k (.int .i64 0), .k (.int .i64 0), .o [.sc], .o [.sc], .o [.own [.sc]]]⟩,
    ⟨none, [], none, .st (.s 5) (.s 44) 6⟩]) c_impl_WriteParts_17) c_impl_WriteParts_24
def c_impl_WriteParts_12 : VC :=
  .seq (.r 4 [⟨none, [], none, .ld 41 (.s 1) 6 true⟩,
    ⟨none, [], none, .call 42 117 [(.s 41)]⟩,
    ⟨none, [], none, .mv 4 (.s 42)⟩]) c_impl_WriteParts_14
def c_impl_WriteParts_4 : VC :=
  .seq (.seq (.r 2 [⟨none, [], none, .fadr 9 (.s 1) 0⟩,
    ⟨none, [], none, .ld 10 (.s 9) 1 false⟩,
    ⟨none, [], none, .bin 11 .neq (.s 10) (.k (.int .i64 0))⟩,
    ⟨none, [], none, .mv 12 (.s 11)⟩,
    ⟨none, [], some (12, false), .fadr 13 (.s 1) 3⟩,
    ⟨none, [], some (12, false), .ld 14 (.s 13) 1 false⟩,
    ⟨none, [], some (12, false), .len 15 (.s 14)⟩,
    ⟨none, [], some (12, false), .mv 16 (.s 3)⟩,
    ⟨none, [], some (12, false), .bin 17 .neq (.s 15) (.s 16)⟩,
    ⟨none, [], none, .pick 18 (.s 12) (.k (.bool true)) (.s 17)⟩,
    ⟨none, [], none, .mv 19 (.s 18)⟩,
    ⟨none, [], some (19, false), .fadr 20 (.s 1) 4⟩,
    ⟨none, [], some (19, false), .ld 21 (.s 20) 1 false⟩,
    ⟨none, [], some (19, false), .len 22 (.s 21)⟩,
    ⟨none, [], some (19, false), .mv 23 (.s 3)⟩,
    ⟨none, [], some (19, false), .bin 24 .neq (.s 22) (.s 23)⟩,
    ⟨none, [], none, .pick 25 (.s 19) (.k (.bool true)) (.s 24)⟩,
    ⟨none, [], none, .mv 26 (.s 25)⟩,
    ⟨none, [], some (26, false), .fadr 27 (.s 1) 4⟩,
    ⟨none, [], some (26, false), .ld 28 (.s 27) 1 false⟩,
    ⟨none, [], some (26, false), .mv 29 (.s 3)⟩,
    ⟨none, [], some (26, false), .call 30 115 [(.s 28), (.k (.int .i64 0)), (.k (.int .i64 40)), (.s 29)]⟩,
    ⟨none, [], some (26, false), .un 31 .not (.s 30)⟩,
    ⟨none, [], none, .pick 32 (.s 26) (.k (.bool true)) (.s 31)⟩,
    ⟨none, [], none, .mv 33 (.s 32)⟩,
    ⟨none, [], some (33, false), .fadr 34 (.s 1) 1⟩,
    ⟨none, [], some (33, false), .ld 35 (.s 34) 1 false⟩,
    ⟨none, [], some (33, false), .fadr 36 (.s 1) 2⟩,
    ⟨none, [], some (33, false), .ld 37 (.s 36) 1 false⟩,
    ⟨none, [], some (33, false), .call 38 116 [(.s 35), (.s 37)]⟩,
    ⟨none, [], some (33, false), .un 39 .not (.s 38)⟩,
    ⟨none, [], none, .pick 40 (.s 33) (.k (.bool true)) (.s 39)⟩]) c_impl_WriteParts_7) c_impl_WriteParts_12
def c_impl_WriteParts_2 : VC :=
  .seq (.r 1 [⟨none, [], none, .fadr 6 (.s 1) 5⟩,
    ⟨none, [], none, .ld 7 (.s 6) 1 false⟩,
    ⟨none, [], none, .len 8 (.s 7)⟩,
    ⟨none, [], none, .mv 3 (.s 8)⟩]) c_impl_WriteParts_4
def c_impl_WriteParts_0 : VC :=
  .seq (.r 0 [⟨none, [], none, .box 1 (.s 0)⟩,
    ⟨none, [], none, .nil 2 [.sc]⟩]) c_impl_WriteParts_2
def vf_impl_WriteParts : VF := { pm := [.ro [.sc, .sc, .sc, .ro [.sc], .ro [.sc], .ro [.ro [.sc]]]], rm := [.v [.own [.sc]]], nslots := 56, res := [2], rc := [], code := .kp [0] c_impl_WriteParts_0 }
def c_laws_eqByteS_5 : VC :=
  .ite (.s 10) (.seq (.r 2 [⟨none, [], none, .mv 4 (.k (.bool false))⟩]) (.ret)) (.skip)
def c_laws_eqByteS_18 : VC :=
  .ite (.s 14) (.skip) (.exit 0)
def c_laws_eqByteS_25 : VC :=
  .ite (.s 25) (.seq (.r 7 [⟨none, [], none, .mv 4 (.k (.bool false))⟩]) (.ret)) (.skip)
def c_laws_eqByteS_30 : VC :=
  .r 5 [⟨none, [], none, .mv 15 (.s 5)⟩,
    ⟨none, [], none, .bin 16 .add (.s 15) (.k (.int .i64 1))⟩,
    ⟨none, [], none, .mv 5 (.s 16)⟩]
def c_laws_eqByteS_21 : VC :=
  .seq (.blk 1 (.seq (.d 6 [(0, ⟨none, [], none, .mv 17 (.s 0)⟩),
    (1, ⟨none, [], none, .mv 18 (.s 5)⟩),
    (2, ⟨none, [], none, .iadr 19 (.s 17) (.s 18) 1⟩),
    (3, ⟨none, [], none, .ldv 20 (.s 19) 1 false⟩),
    (4, ⟨none, [], none, .mv 21 (.s 1)⟩),
    (5, ⟨none, [], none, .mv 22 (.s 5)⟩),
    (6, ⟨none, [], none, .iadr 23 (.s 21) (.s 22) 1⟩),
    (7, ⟨none, [], none, .ldv 24 (.s 23) 1 false⟩),
    (8, ⟨none, [], none, .bin 25 .neq (.s 20) (.s 24)⟩)]) c_laws_eqByteS_25)) c_laws_eqByteS_30
def c_laws_eqByteS_15 : VC :=
  .seq (.seq (.r 4 [⟨none, [], none, .mv 11 (.s 5)⟩,
    ⟨none, [], none, .mv 12 (.s 0)⟩,
    ⟨none, [], none, .len 13 (.s 12)⟩,
    ⟨none, [], none, .bin 14 .lss (.s 11) (.s 13)⟩]) c_laws_eqByteS_18) c_laws_eqByteS_21
def c_laws_eqByteS_13 : VC :=
  .blk 0 (.loop [0, 1, 5] c_laws_eqByteS_15)
def c_laws_eqByteS_31 : VC :=
  .seq (.r 8 [⟨none, [], none, .mv 4 (.k (.bool true))⟩]) (.ret)
def c_laws_eqByteS_10 : VC :=
  .seq (.seq (.r 3 [⟨none, [], none, .mv 5 (.k (.int .i64 0))⟩]) c_laws_eqByteS_13) (.kp [] c_laws_eqByteS_31)
def c_laws_eqByteS_2 : VC :=
  .seq (.seq (.r 1 [⟨none, [], none, .mv 6 (.s 0)⟩,
    ⟨none, [], none, .len 7 (.s 6)⟩,
    ⟨none, [], none, .mv 8 (.s 1)⟩,
    ⟨none, [], none, .len 9 (.s 8)⟩,
    ⟨none, [], none, .bin 10 .neq (.s 7) (.s 9)⟩]) c_laws_eqByteS_5) c_laws_eqByteS_10
def c_laws_eqByteS_0 : VC :=
  .seq (.r 0 [⟨none, [], none, .mv 4 (.k (.bool false))⟩]) c_laws_eqByteS_2
def vf_laws_eqByteS : VF := { pm := [.ro [.ro [.sc]], .ro [.ro [.sc]]], rm := [.v [.sc]], nslots := 26, res := [4], rc := [], code := .kp [0, 1] c_laws_eqByteS_0 }
def c_laws_eqBoolS_5 : VC :=
  .ite (.s 10) (.seq (.r 2 [⟨none, [], none, .mv 4 (.k (.bool false))⟩]) (.ret)) (.skip)
def c_laws_eqBoolS_18 : VC :=
  .ite (.s 14) (.skip) (.exit 0)
def c_laws_eqBoolS_25 : VC :=
  .ite (.s 25) (.seq (.r 7 [⟨none, [], none, .mv 4 (.k (.bool false))⟩]) (.ret)) (.skip)
def c_laws_eqBoolS_30 : VC :=
  .r 5 [⟨none, [], none, .mv 15 (.s 5)⟩,
    ⟨none, [], none, .bin 16 .add (.s 15) (.k (.int .i64 1))⟩,
    ⟨none, [], none, .mv 5 (.s 16)⟩]
def c_laws_eqBoolS_21 : VC :=
  .seq (.blk 1 (.seq (.d 6 [(0, ⟨none, [], none, .mv 17 (.s 0)⟩),
    (1, ⟨none, [], none, .mv 18 (.s 5)⟩),
    (2, ⟨none, [], none, .iadr 19 (.s 17) (.s 18) 1⟩),
    (3, ⟨none, [], none, .ldv 20 (.s 19) 1 false⟩),
    (4, ⟨none, [], none, .mv 21 (.s 1)⟩),
    (5, ⟨none, [], none, .mv 22 (.s 5)⟩),
    (6, ⟨none, [], none, .iadr 23 (.s 21) (.s 22) 1⟩),
    (7, ⟨none, [], none, .ldv 24 (.s 23) 1 false⟩),
    (8, ⟨none, [], none, .beq 25 true (.s 20) (.s 24)⟩)]) c_laws_eqBoolS_25)) c_laws_eqBoolS_30
def c_laws_eqBoolS_15 : VC :=
  .seq (.seq (.r 4 [⟨none, [], none, .mv 11 (.s 5)⟩,
    ⟨none, [], none, .mv 12 (.s 0)⟩,
    ⟨none, [], none, .len 13 (.s 12)⟩,
    ⟨none, [], none, .bin 14 .lss (.s 11) (.s 13)⟩]) c_laws_eqBoolS_18) c_laws_eqBoolS_21
def c_laws_eqBoolS_13 : VC :=
  .blk 0 (.loop [0, 1, 5] c_laws_eqBoolS_15)
def c_laws_eqBoolS_31 : VC :=
  .seq (.r 8 [⟨none, [], none, .mv 4 (.k (.bool true))⟩]) (.ret)
def c_laws_eqBoolS_10 : VC :=
  .seq (.seq (.r 3 [⟨none, [], none, .mv 5 (.k (.int .i64 0))⟩]) c_laws_eqBoolS_13) (.kp [] c_laws_eqBoolS_31)
def c_laws_eqBoolS_2 : VC :=
  .seq (.seq (.r 1 [⟨none, [], none, .mv 6 (.s 0)⟩,
    ⟨none, [], none, .len 7 (.s 6)⟩,
    ⟨none, [], none, .mv 8 (.s 1)⟩,
    ⟨none, [], none, .len 9 (.s 8)⟩,
    ⟨none, [], none, .bin 10 .neq (.s 7) (.s 9)⟩]) c_laws_eqBoolS_5) c_laws_eqBoolS_10
def c_laws_eqBoolS_0 : VC :=
  .seq (.r 0 [⟨none, [], none, .mv 4 (.k (.bool false))⟩]) c_laws_eqBoolS_2
def vf_laws_eqBoolS : VF := { pm := [.ro [.ro [.sc]], .ro [.ro [.sc]]], rm := [.v [.sc]], nslots := 26, res := [4], rc := [], code := .kp [0, 1] c_laws_eqBoolS_0 }
def c_laws_eqIntS_5 : VC :=
  .ite (.s 10) (.seq (.r 2 [⟨none, [], none, .mv 4 (.k (.bool false))⟩]) (.ret)) (.skip)
def c_laws_eqIntS_18 : VC :=
  .ite (.s 14) (.skip) (.exit 0)
def c_laws_eqIntS_25 : VC :=
  .ite (.s 25) (.seq (.r 7 [⟨none, [], none, .mv 4 (.k (.bool false))⟩]) (.ret)) (.skip)
def c_laws_eqIntS_30 : VC :=
  .r 5 [⟨none, [], none, .mv 15 (.s 5)⟩,
    ⟨none, [], none, .bin 16 .add (.s 15) (.k (.int .i64 1))⟩,
    ⟨none, [], none, .mv 5 (.s 16)⟩]
def c_laws_eqIntS_21 : VC :=
  .seq (.blk 1 (.seq (.d 6 [(0, ⟨none, [], none, .mv 17 (.s 0)⟩),
    (1, ⟨none, [], none, .mv 18 (.s 5)⟩),
    (2, ⟨none, [], none, .iadr 19 (.s 17) (.s 18) 1⟩),
    (3, ⟨none, [], none, .ldv 20 (.s 19) 1 false⟩),
    (4, ⟨none, [], none, .mv 21 (.s 1)⟩),
    (5, ⟨none, [], none, .mv 22 (.s 5)⟩),
    (6, ⟨none, [], none, .iadr 23 (.s 21) (.s 22) 1⟩),
    (7, ⟨none, [], none, .ldv 24 (.s 23) 1 false⟩),
    (8, ⟨none, [], none, .bin 25 .neq (.s 20) (.s 24)⟩)]) c_laws_eqIntS_25)) c_laws_eqIntS_30
def c_laws_eqIntS_15 : VC :=
  .seq (.seq (.r 4 [⟨none, [], none, .mv 11 (.s 5)⟩,
    ⟨none, [], none, .mv 12 (.s 0)⟩,
    ⟨none, [], none, .len 13 (.s 12)⟩,
    ⟨none, [], none, .bin 14 .lss (.s 11) (.s 13)⟩]) c_laws_eqIntS_18) c_laws_eqIntS_21
def c_laws_eqIntS_13 : VC :=
  .blk 0 (.loop [0, 1, 5] c_laws_eqIntS_15)
def c_laws_eqIntS_31 : VC :=
  .seq (.r 8 [⟨none, [], none, .mv 4 (.k (.bool true))⟩]) (.ret)
def c_laws_eqIntS_10 : VC :=
  .seq (.seq (.r 3 [⟨none, [], none, .mv 5 (.k (.int .i64 0))⟩]) c_laws_eqIntS_13) (.kp [] c_laws_eqIntS_31)
def c_laws_eqIntS_2 : VC :=
  .seq (.seq (.r 1 [⟨none, [], none, .mv 6 (.s 0)⟩,
    ⟨none, [], none, .len 7 (.s 6)⟩,
    ⟨none, [], none, .mv 8 (.s 1)⟩,
    ⟨none, [], none, .len 9 (.s 8)⟩,
    ⟨none, [], none, .bin 10 .neq (.s 7) (.s 9)⟩]) c_laws_eqIntS_5) c_laws_eqIntS_10
def c_laws_eqIntS_0 : VC :=
  .seq (.r 0 [⟨none, [], none, .mv 4 (.k (.bool false))⟩]) c_laws_eqIntS_2
def vf_laws_eqIntS : VF := { pm := [.ro [.ro [.sc]], .ro [.ro [.sc]]], rm := [.v [.sc]], nslots := 26, res := [4], rc := [], code := .kp [0, 1] c_laws_eqIntS_0 }
def c_laws_eqByteSS_5 : VC :=
  .ite (.s 10) (.seq (.r 2 [⟨none, [], none, .mv 4 (.k (.bool false))⟩]) (.ret)) (.skip)
def c_laws_eqByteSS_18 : VC :=
  .ite (.s 14) (.skip) (.exit 0)
def c_laws_eqByteSS_25 : VC :=
  .ite (.s 26) (.seq (.r 7 [⟨none, [], none, .mv 4 (.k (.bool false))⟩]) (.ret)) (.skip)
def c_laws_eqByteSS_30 : VC :=
  .r 5 [⟨none, [], none, .mv 15 (.s 5)⟩,
    ⟨none, [], none, .bin 16 .add (.s 15) (.k (.int .i64 1))⟩,
    ⟨none, [], none, .mv 5 (.s 16)⟩]
def c_laws_eqByteSS_21 : VC :=
  .seq (.blk 1 (.seq (.d 6 [(0, ⟨none, [], none, .mv 17 (.s 0)⟩),
    (1, ⟨none, [], none, .mv 18 (.s 5)⟩),
    (2, ⟨none, [], none, .iadr 19 (.s 17) (.s 18) 1⟩),
    (3, ⟨none, [], none, .ldv 20 (.s 19) 1 false⟩),
    (4, ⟨none, [], none, .mv 21 (.s 1)⟩),
    (5, ⟨none, [], none, .mv 22 (.s 5)⟩),
    (6, ⟨none, [], none, .iadr 23 (.s 21) (.s 22) 1⟩),
    (7, ⟨none, [], none, .ldv 24 (.s 23) 1 false⟩),
    (8, ⟨none, [], none, .call 25 16 [(.s 20), (.s 24)]⟩),
    (9, ⟨none, [], none, .un 26 .not (.s 25)⟩)]) c_laws_eqByteSS_25)) c_laws_eqByteSS_30
def c_laws_eqByteSS_15 : VC :=
  .seq (.seq (.r 4 [⟨none, [], none, .mv 11 (.s 5)⟩,
    ⟨none, [], none, .mv 12 (.s 0)⟩,
    ⟨none, [], none, .len 13 (.s 12)⟩,
    ⟨none, [], none, .bin 14 .lss (.s 11) (.s 13)⟩]) c_laws_eqByteSS_18) c_laws_eqByteSS_21
def c_laws_eqByteSS_13 : VC :=
  .blk 0 (.loop [0, 1, 5] c_laws_eqByteSS_15)
def c_laws_eqByteSS_31 : VC :=
  .seq (.r 8 [⟨none, [], none, .mv 4 (.k (.bool true))⟩]) (.ret)
def c_laws_eqByteSS_10 : VC :=
  .seq (.seq (.r 3 [⟨none, [], none, .mv 5 (.k (.int .i64 0))⟩]) c_laws_eqByteSS_13) (.kp [] c_laws_eqByteSS_31)
def c_laws_eqByteSS_2 : VC :=
  .seq (.seq (.r 1 [⟨none, [], none, .mv 6 (.s 0)⟩,
    ⟨none, [], none, .len 7 (.s 6)⟩,
    ⟨none, [], none, .mv 8 (.s 1)⟩,
    ⟨none, [], none, .len 9 (.s 8)⟩,
    ⟨none, [], none, .bin 10 .neq (.s 7) (.s 9)⟩]) c_laws_eqByteSS_5) c_laws_eqByteSS_10
def c_laws_eqByteSS_0 : VC :=
  .seq (.r 0 [⟨none, [], none, .mv 4 (.k (.bool false))⟩]) c_laws_eqByteSS_2
def vf_laws_eqByteSS : VF := { pm := [.ro [.ro [.ro [.sc]]], .ro [.ro [.ro [.sc]]]], rm := [.v [.sc]], nslots := 27, res := [4], rc := [], code := .kp [0, 1] c_laws_eqByteSS_0 }
def c_laws_eqPiled_5 : VC :=
  .ite (.s 9) (.seq (.r 2 [⟨none, [], none, .mv 4 (.k (.bool false))⟩]) (.ret)) (.skip)
def c_laws_eqPiled_13 : VC :=
  .ite (.s 14) (.seq (.r 4 [⟨none, [], none, .mv 4 (.k (.bool false))⟩]) (.ret)) (.skip)
def c_laws_eqPiled_21 : VC :=
  .ite (.s 19) (.seq (.r 6 [⟨none, [], none, .mv 4 (.k (.bool false))⟩]) (.ret)) (.skip)
def c_laws_eqPiled_29 : VC :=
  .ite (.s 25) (.seq (.r 8 [⟨none, [], none, .mv 4 (.k (.bool false))⟩]) (.ret)) (.skip)
def c_laws_eqPiled_37 : VC :=
  .ite (.s 31) (.seq (.r 10 [⟨none, [], none, .mv 4 (.k (.bool false))⟩]) (.ret)) (.skip)
def c_laws_eqPiled_45 : VC :=
  .ite (.s 37) (.seq (.r 12 [⟨none, [], none, .mv 4 (.k (.bool false))⟩]) (.ret)) (.skip)
def c_laws_eqPiled_50 : VC :=
  .seq (.r 13 [⟨none, [], none, .mv 4 (.k (.bool true))⟩]) (.ret)
def c_laws_eqPiled_42 : VC :=
  .seq (.seq (.r 11 [⟨none, [], none, .fadr 32 (.s 2) 5⟩,
    ⟨none, [], none, .ld 33 (.s 32) 1 false⟩,
    ⟨none, [], none, .fadr 34 (.s 3) 5⟩,
    ⟨none, [], none, .ld 35 (.s 34) 1 false⟩,
    ⟨none, [], none, .call 36 120 [(.s 33), (.s 35)]⟩,
    ⟨none, [], none, .un 37 .not (.s 36)⟩]) c_laws_eqPiled_45) c_laws_eqPiled_50
def c_laws_eqPiled_34 : VC :=
  .seq (.seq (.r 9 [⟨none, [], none, .fadr 26 (.s 2) 4⟩,
    ⟨none, [], none, .ld 27 (.s 26) 1 false⟩,
    ⟨none, [], none, .fadr 28 (.s 3) 4⟩,
    ⟨none, [], none, .ld 29 (.s 28) 1 false⟩,
    ⟨none, [], none, .call 30 62 [(.s 27), (.s 29)]⟩,
    ⟨none, [], none, .un 31 .not (.s 30)⟩]) c_laws_eqPiled_37) c_laws_eqPiled_42
def c_laws_eqPiled_26 : VC :=
  .seq (.seq (.r 7 [⟨none, [], none, .fadr 20 (.s 2) 3⟩,
    ⟨none, [], none, .ld 21 (.s 20) 1 false⟩,
    ⟨none, [], none, .fadr 22 (.s 3) 3⟩,
    ⟨none, [], none, .ld 23 (.s 22) 1 false⟩,
    ⟨none, [], none, .call 24 119 [(.s 21), (.s 23)]⟩,
    ⟨none, [], none, .un 25 .not (.s 24)⟩]) c_laws_eqPiled_29) c_laws_eqPiled_34
def c_laws_eqPiled_18 : VC :=
  .seq (.seq (.r 5 [⟨none, [], none, .fadr 15 (.s 2) 2⟩,
    ⟨none, [], none, .ld 16 (.s 15) 1 false⟩,
    ⟨none, [], none, .fadr 17 (.s 3) 2⟩,
    ⟨none, [], none, .ld 18 (.s 17) 1 false⟩,
    ⟨none, [], none, .bin 19 .neq (.s 16) (.s 18)⟩]) c_laws_eqPiled_21) c_laws_eqPiled_26
def c_laws_eqPiled_10 : VC :=
  .seq (.seq (.r 3 [⟨none, [], none, .fadr 10 (.s 2) 1⟩,
    ⟨none, [], none, .ld 11 (.s 10) 1 false⟩,
    ⟨none, [], none, .fadr 12 (.s 3) 1⟩,
    ⟨none, [], none, .ld 13 (.s 12) 1 false⟩,
    ⟨none, [], none, .bin 14 .neq (.s 11) (.s 13)⟩]) c_laws_eqPiled_13) c_laws_eqPiled_18
def c_laws_eqPiled_2 : VC :=
  .seq (.seq (.r 1 [⟨none, [], none, .fadr 5 (.s 2) 0⟩,
    ⟨none, [], none, .ld 6 (.s 5) 1 false⟩,
    ⟨none, [], none, .fadr 7 (.s 3) 0⟩,
    ⟨none, [], none, .ld 8 (.s 7) 1 false⟩,
    ⟨none, [], none, .bin 9 .neq (.s 6) (.s 8)⟩]) c_laws_eqPiled_5) c_laws_eqPiled_10
def c_laws_eqPiled_0 : VC :=
  .seq (.r 0 [⟨none, [], none, .box 2 (.s 0)⟩,
    ⟨none, [], none, .box 3 (.s 1)⟩,
    ⟨none, [], none, .mv 4 (.k (.bool false))⟩]) c_laws_eqPiled_2
def vf_laws_eqPiled : VF := { pm := [.ro [.sc, .sc, .sc, .ro [.sc], .ro [.sc], .ro [.ro [.sc]]], .ro [.sc, .sc, .sc, .ro [.sc], .ro [.sc], .ro [.ro [.sc]]]], rm := [.v [.sc]], nslots := 38, res := [4], rc := [], code := .kp [0, 1] c_laws_eqPiled_0 }
def c_laws_markBoolS_10 : VC :=
  .ite (.s 9) (.skip) (.exit 0)
def c_laws_markBoolS_17 : VC :=
  .r 5 [⟨none, [], none, .mv 18 (.s 1)⟩,
    ⟨none, [], none, .bin 19 .add (.s 18) (.k (.int .i64 1))⟩,
    ⟨none, [], none, .mv 1 (.s 19)⟩]
def c_laws_markBoolS_18 : VC :=
  .r 3 [⟨none, [], none, .mv 10 (.s 5)⟩,
    ⟨none, [], none, .bin 11 .add (.s 10) (.k (.int .i64 1))⟩,
    ⟨none, [], none, .mv 5 (.s 11)⟩]
def c_laws_markBoolS_13 : VC :=
  .seq (.blk 1 (.seq (.r 4 [⟨none, [], none, .mv 12 (.s 0)⟩,
    ⟨none, [], none, .mv 13 (.s 5)⟩,
    ⟨none, [], none, .mv 14 (.s 1)⟩,
    ⟨none, [], none, .bin 15 .rem (.s 14) (.k (.int .i64 3))⟩,
    ⟨none, [], none, .bin 16 .eql (.s 15) (.k (.int .i64 0))⟩,
    ⟨none, [], none, .iadr 17 (.s 12) (.s 13) 1⟩,
    ⟨none, [], none, .st (.s 17) (.s 16) 1⟩]) c_laws_markBoolS_17)) c_laws_markBoolS_18
def c_laws_markBoolS_7 : VC :=
  .seq (.seq (.r 2 [⟨none, [], none, .mv 6 (.s 5)⟩,
    ⟨none, [], none, .mv 7 (.s 0)⟩,
    ⟨none, [], none, .len 8 (.s 7)⟩,
    ⟨none, [], none, .bin 9 .lss (.s 6) (.s 8)⟩]) c_laws_markBoolS_10) c_laws_markBoolS_13
def c_laws_markBoolS_5 : VC :=
  .blk 0 (.loop [0, 1, 5] c_laws_markBoolS_7)
def c_laws_markBoolS_19 : VC :=
  .seq (.r 6 [⟨none, [], none, .mv 20 (.s 1)⟩,
    ⟨none, [], none, .mv 4 (.s 20)⟩]) (.ret)
def c_laws_markBoolS_2 : VC :=
  .seq (.seq (.r 1 [⟨none, [], none, .mv 5 (.k (.int .i64 0))⟩]) c_laws_markBoolS_5) (.kp [0, 1] c_laws_markBoolS_19)
def c_laws_markBoolS_0 : VC :=
  .seq (.r 0 [⟨none, [], none, .mv 4 (.k (.int .i64 0))⟩]) c_laws_markBoolS_2
def vf_laws_markBoolS : VF := { pm := [.ms [.sc], .ro [.sc]], rm := [.v [.sc]], nslots := 21, res := [4], rc := [], code := .kp [0, 1] c_laws_markBoolS_0 }
def c_laws_markIntS_10 : VC :=
  .ite (.s 9) (.skip) (.exit 0)
def c_laws_markIntS_17 : VC :=
  .r 5 [⟨none, [], none, .mv 16 (.s 1)⟩,
    ⟨none, [], none, .bin 17 .add (.s 16) (.k (.int .i64 1))⟩,
    ⟨none, [], none, .mv 1 (.s 17)⟩]
def c_laws_markIntS_18 : VC :=
  .r 3 [⟨none, [], none, .mv 10 (.s 5)⟩,
    ⟨none, [], none, .bin 11 .add (.s 10) (.k (.int .i64 1))⟩,
    ⟨none, [], none, .mv 5 (.s 11)⟩]
def c_laws_markIntS_13 : VC :=
  .seq (.blk 1 (.seq (.r 4 [⟨none, [], none, .mv 12 (.s 0)⟩,
    ⟨none, [], none, .mv 13 (.s 5)⟩,
    ⟨none, [], none, .mv 14 (.s 1)⟩,
    ⟨none, [], none, .iadr 15 (.s 12) (.s 13) 1⟩,
    ⟨none, [], none, .st (.s 15) (.s 14) 1⟩]) c_laws_markIntS_17)) c_laws_markIntS_18
def c_laws_markIntS_7 : VC :=
  .seq (.seq (.r 2 [⟨none, [], none, .mv 6 (.s 5)⟩,
    ⟨none, [], none, .mv 7 (.s 0)⟩,
    ⟨none, [], none, .len 8 (.s 7)⟩,
    ⟨none, [], none, .bin 9 .lss (.s 6) (.s 8)⟩]) c_laws_markIntS_10) c_laws_markIntS_13
def c_laws_markIntS_5 : VC :=
  .blk 0 (.loop [0, 1, 5] c_laws_markIntS_7)
def c_laws_markIntS_19 : VC :=
  .seq (.r 6 [⟨none, [], none, .mv 18 (.s 1)⟩,
    ⟨none, [], none, .mv 4 (.s 18)⟩]) (.ret)
def c_laws_markIntS_2 : VC :=
  .seq (.seq (.r 1 [⟨none, [], none, .mv 5 (.k (.int .i64 0))⟩]) c_laws_markIntS_5) (.kp [0, 1] c_laws_markIntS_19)
def c_laws_markIntS_0 : VC :=
  .seq (.r 0 [⟨none, [], none, .mv 4 (.k (.int .i64 0))⟩]) c_laws_markIntS_2
def vf_laws_markIntS : VF := { pm := [.ms [.sc], .ro [.sc]], rm := [.v [.sc]], nslots := 19, res := [4], rc := [], code := .kp [0, 1] c_laws_markIntS_0 }
def c_laws_markByteS_10 : VC :=
  .ite (.s 9) (.skip) (.exit 0)
def c_laws_markByteS_17 : VC :=
  .r 5 [⟨none, [], none, .mv 17 (.s 1)⟩,
    ⟨none, [], none, .bin 18 .add (.s 17) (.k (.int .i64 1))⟩,
    ⟨none, [], none, .mv 1 (.s 18)⟩]
def c_laws_markByteS_18 : VC :=
  .r 3 [⟨none, [], none, .mv 10 (.s 5)⟩,
    ⟨none, [], none, .bin 11 .add (.s 10) (.k (.int .i64 1))⟩,
    ⟨none, [], none, .mv 5 (.s 11)⟩]
def c_laws_markByteS_13 : VC :=
  .seq (.blk 1 (.seq (.r 4 [⟨none, [], none, .mv 12 (.s 0)⟩,
    ⟨none, [], none, .mv 13 (.s 5)⟩,
    ⟨none, [], none, .mv 14 (.s 1)⟩,
    ⟨none, [], none, .conv 15 .u8 (.s 14)⟩,
    ⟨none, [], none, .iadr 16 (.s 12) (.s 13) 1⟩,
    ⟨none, [], none, .st (.s 16) (.s 15) 1⟩]) c_laws_markByteS_17)) c_laws_markByteS_18
def c_laws_markByteS_7 : VC :=
  .seq (.seq (.r 2 [⟨none, [], none, .mv 6 (.s 5)⟩,
    ⟨none, [], none, .mv 7 (.s 0)⟩,
    ⟨none, [], none, .len 8 (.s 7)⟩,
    ⟨none, [], none, .bin 9 .lss (.s 6) (.s 8)⟩]) c_laws_markByteS_10) c_laws_markByteS_13
def c_laws_markByteS_5 : VC :=
  .blk 0 (.loop [0, 1, 5] c_laws_markByteS_7)
def c_laws_markByteS_19 : VC :=
  .seq (.r 6 [⟨none, [], none, .mv 19 (.s 1)⟩,
    ⟨none, [], none, .mv 4 (.s 19)⟩]) (.ret)
def c_laws_markByteS_2 : VC :=
  .seq (.seq (.r 1 [⟨none, [], none, .mv 5 (.k (.int .i64 0))⟩]) c_laws_markByteS_5) (.kp [0, 1] c_laws_markByteS_19)
def c_laws_markByteS_0 : VC :=
  .seq (.r 0 [⟨none, [], none, .mv 4 (.k (.int .i64 0))⟩]) c_laws_markByteS_2
def vf_laws_markByteS : VF := { pm := [.ms [.sc], .ro [.sc]], rm := [.v [.sc]], nslots := 20, res := [4], rc := [], code := .kp [0, 1] c_laws_markByteS_0 }
def c_laws_markByteSS_10 : VC :=
  .ite (.s 9) (.skip) (.exit 0)
def c_laws_markByteSS_16 : VC :=
  .r 3 [⟨none, [], none, .mv 10 (.s 5)⟩,
    ⟨none, [], none, .bin 11 .add (.s 10) (.k (.int .i64 1))⟩,
    ⟨none, [], none, .mv 5 (.s 11)⟩]
def c_laws_markByteSS_13 : VC :=
  .seq (.blk 1 (.r 4 [⟨none, [], none, .mv 12 (.s 0)⟩,
    ⟨none, [], none, .mv 13 (.s 5)⟩,
    ⟨none, [], none, .iadr 14 (.s 12) (.s 13) 1⟩,
    ⟨none, [], none, .ld 15 (.s 14) 1 false⟩,
    ⟨none, [], none, .mv 16 (.s 1)⟩,
    ⟨none, [], none, .call 17 19 [(.s 15), (.s 16)]⟩,
    ⟨none, [], none, .mv 1 (.s 17)⟩])) c_laws_markByteSS_16
def c_laws_markByteSS_7 : VC :=
  .seq (.seq (.r 2 [⟨none, [], none, .mv 6 (.s 5)⟩,
    ⟨none, [], none, .mv 7 (.s 0)⟩,
    ⟨none, [], none, .len 8 (.s 7)⟩,
    ⟨none, [], none, .bin 9 .lss (.s 6) (.s 8)⟩]) c_laws_markByteSS_10) c_laws_markByteSS_13
def c_laws_markByteSS_5 : VC :=
  .blk 0 (.loop [0, 1, 5] c_laws_markByteSS_7)
def c_laws_markByteSS_17 : VC :=
  .seq (.r 5 [⟨none, [], none, .mv 18 (.s 1)⟩,
    ⟨none, [], none, .mv 4 (.s 18)⟩]) (.ret)
def c_laws_markByteSS_2 : VC :=
  .seq (.seq (.r 1 [⟨none, [], none, .mv 5 (.k (.int .i64 0))⟩]) c_laws_markByteSS_5) (.kp [0, 1] c_laws_markByteSS_17)
def c_laws_markByteSS_0 : VC :=
  .seq (.r 0 [⟨none, [], none, .mv 4 (.k (.int .i64 0))⟩]) c_laws_markByteSS_2
def vf_laws_markByteSS : VF := { pm := [.ms [.own [.sc]], .ro [.sc]], rm := [.v [.sc]], nslots := 19, res := [4], rc := [], code := .kp [0, 1] c_laws_markByteSS_0 }
def c_laws_markPiled_8 : VC :=
  .seq (.r 4 [⟨none, [], none, .mv 17 (.s 1)⟩,
    ⟨none, [], none, .mv 4 (.s 17)⟩]) (.ret)
def c_laws_markPiled_6 : VC :=
  .seq (.r 3 [⟨none, [], none, .fadr 13 (.s 2) 5⟩,
    ⟨none, [], none, .ld 14 (.s 13) 1 false⟩,
    ⟨none, [], none, .mv 15 (.s 1)⟩,
    ⟨none, [], none, .call 16 122 [(.s 14), (.s 15)]⟩,
    ⟨none, [], none, .mv 1 (.s 16)⟩]) c_laws_markPiled_8
def c_laws_markPiled_4 : VC :=
  .seq (.r 2 [⟨none, [], none, .fadr 9 (.s 2) 4⟩,
    ⟨none, [], none, .ld 10 (.s 9) 1 false⟩,
    ⟨none, [], none, .mv 11 (.s 1)⟩,
    ⟨none, [], none, .call 12 63 [(.s 10), (.s 11)]⟩,
    ⟨none, [], none, .mv 1 (.s 12)⟩]) c_laws_markPiled_6
def c_laws_markPiled_2 : VC :=
  .seq (.r 1 [⟨none, [], none, .fadr 5 (.s 2) 3⟩,
    ⟨none, [], none, .ld 6 (.s 5) 1 false⟩,
    ⟨none, [], none, .mv 7 (.s 1)⟩,
    ⟨none, [], none, .call 8 121 [(.s 6), (.s 7)]⟩,
    ⟨none, [], none, .mv 1 (.s 8)⟩]) c_laws_markPiled_4
def c_laws_markPiled_0 : VC :=
  .seq (.r 0 [⟨none, [], none, .box 2 (.s 0)⟩,
    ⟨none, [], none, .mv 4 (.k (.int .i64 0))⟩]) c_laws_markPiled_2
def vf_laws_markPiled : VF := { pm := [.mg [.sc, .sc, .sc, .own [.sc], .own [.sc], .own [.own [.sc]]], .ro [.sc]], rm := [.v [.sc]], nslots := 18, res := [4], rc := [], code := .kp [0, 1] c_laws_markPiled_0 }
def c_laws_heldByteS_10 : VC :=
  .ite (.s 9) (.skip) (.exit 0)
def c_laws_heldByteS_18 : VC :=
  .ite (.s 18) (.seq (.r 5 [⟨none, [], none, .mv 4 (.k (.int .i64 (-1)))⟩]) (.ret)) (.skip)
def c_laws_heldByteS_23 : VC :=
  .r 6 [⟨none, [], none, .mv 19 (.s 1)⟩,
    ⟨none, [], none, .bin 20 .add (.s 19) (.k (.int .i64 1))⟩,
    ⟨none, [], none, .mv 1 (.s 20)⟩]
def c_laws_heldByteS_24 : VC :=
  .r 3 [⟨none, [], none, .mv 10 (.s 5)⟩,
    ⟨none, [], none, .bin 11 .add (.s 10) (.k (.int .i64 1))⟩,
    ⟨none, [], none, .mv 5 (.s 11)⟩]
def c_laws_heldByteS_13 : VC :=
  .seq (.blk 1 (.seq (.seq (.r 4 [⟨none, [], none, .mv 12 (.s 0)⟩,
    ⟨none, [], none, .mv 13 (.s 5)⟩,
    ⟨none, [], none, .iadr 14 (.s 12) (.s 13) 1⟩,
    ⟨none, [], none, .ld 15 (.s 14) 1 false⟩,
    ⟨none, [], none, .mv 16 (.s 1)⟩,
    ⟨none, [], none, .conv 17 .u8 (.s 16)⟩,
    ⟨none, [], none, .bin 18 .neq (.s 15) (.s 17)⟩]) c_laws_heldByteS_18) c_laws_heldByteS_23)) c_laws_heldByteS_24
def c_laws_heldByteS_7 : VC :=
  .seq (.seq (.r 2 [⟨none, [], none, .mv 6 (.s 5)⟩,
    ⟨none, [], none, .mv 7 (.s 0)⟩,
    ⟨none, [], none, .len 8 (.s 7)⟩,
    ⟨none, [], none, .bin 9 .lss (.s 6) (.s 8)⟩]) c_laws_heldByteS_10) c_laws_heldByteS_13
def c_laws_heldByteS_5 : VC :=
  .blk 0 (.loop [0, 1, 5] c_laws_heldByteS_7)
def c_laws_heldByteS_25 : VC :=
  .seq (.r 7 [⟨none, [], none, .mv 21 (.s 1)⟩,
    ⟨none, [], none, .mv 4 (.s 21)⟩]) (.ret)
def c_laws_heldByteS_2 : VC :=
  .seq (.seq (.r 1 [⟨none, [], none, .mv 5 (.k (.int .i64 0))⟩]) c_laws_heldByteS_5) (.kp [1] c_laws_heldByteS_25)
def c_laws_heldByteS_0 : VC :=
  .seq (.r 0 [⟨none, [], none, .mv 4 (.k (.int .i64 0))⟩]) c_laws_heldByteS_2
def vf_laws_heldByteS : VF := { pm := [.ro [.ro [.sc]], .ro [.sc]], rm := [.v [.sc]], nslots := 22, res := [4], rc := [], code := .kp [0, 1] c_laws_heldByteS_0 }
def c_laws_FnExactWriteParts_9 : VC :=
  .ite (.s 15) (.seq (.r 4 [⟨none, [], none, .mv 2 (.k (.bool true))⟩]) (.ret)) (.skip)
def c_laws_FnExactWriteParts_23 : VC :=
  .ite (.s 26) (.seq (.r 9 [⟨none, [], none, .mv 2 (.k (.bool false))⟩]) (.ret)) (.skip)
def c_laws_FnExactWriteParts_31 : VC :=
  .ite (.s 31) (.seq (.r 11 [⟨none, [], none, .mv 2 (.k (.bool false))⟩]) (.ret)) (.skip)
def c_laws_FnExactWriteParts_43 : VC :=
  .ite (.s 42) (.seq (.r 15 [⟨none, [], none, .mv 2 (.k (.bool false))⟩]) (.ret)) (.skip)
def c_laws_FnExactWriteParts_59 : VC :=
  .ite (.s 50) (.seq (.r 21 [⟨none, [], none, .mv 2 (.k (.bool false))⟩]) (.ret)) (.skip)
def c_laws_FnExactWriteParts_67 : VC :=
  .ite (.s 53) (.seq (.r 23 [⟨none, [], none, .mv 2 (.k (.bool false))⟩]) (.ret)) (.skip)
def c_laws_FnExactWriteParts_77 : VC :=
  .ite (.s 60) (.seq (.r 26 [⟨none, [], none, .mv 2 (.k (.bool false))⟩]) (.ret)) (.skip)
def c_laws_FnExactWriteParts_89 : VC :=
  .ite (.s 65) (.seq (.r 30 [⟨none, [], none, .mv 2 (.k (.bool false))⟩]) (.ret)) (.skip)
def c_laws_FnExactWriteParts_97 : VC :=
  .ite (.s 68) (.seq (.r 32 [⟨none, [], none, .mv 2 (.k (.bool false))⟩]) (.ret)) (.skip)
def c_laws_FnExactWriteParts_102 : VC :=
  .seq (.r 33 [⟨none, [], none, .mv 2 (.k (.bool true))⟩]) (.ret)
def c_laws_FnExactWriteParts_94 : VC :=
  .seq (.seq (.r 31 [⟨none, [], none, .mv 66 (.s 9)⟩,
    ⟨none, [], none, .mv 67 (.s 8)⟩,
    ⟨none, [], none, .bin 68 .neq (.s 66) (.s 67)⟩]) c_laws_FnExactWriteParts_97) c_laws_FnExactWriteParts_102
def c_laws_FnExactWriteParts_86 : VC :=
  .seq (.seq (.r 29 [⟨none, [], none, .mv 64 (.s 9)⟩,
    ⟨none, [], none, .bin 65 .lss (.s 64) (.k (.int .i64 0))⟩]) c_laws_FnExactWriteParts_89) c_laws_FnExactWriteParts_94
def c_laws_FnExactWriteParts_84 : VC :=
  .seq (.r 28 [⟨none, [], none, .mv 61 (.s 6)⟩,
    ⟨none, [], none, .mv 62 (.s 9)⟩,
    ⟨none, [], none, .call 63 20 [(.s 61), (.s 62)]⟩,
    ⟨none, [], none, .mv 9 (.s 63)⟩]) c_laws_FnExactWriteParts_86
def c_laws_FnExactWriteParts_82 : VC :=
  .seq (.r 27 [⟨none, [], none, .mv 9 (.k (.int .i64 1))⟩]) c_laws_FnExactWriteParts_84
def c_laws_FnExactWriteParts_74 : VC :=
  .seq (.seq (.r 25 [⟨none, [], none, .mv 57 (.s 10)⟩,
    ⟨none, [], none, .mv 58 (.s 4)⟩,
    ⟨none, [], none, .call 59 16 [(.s 57), (.s 58)]⟩,
    ⟨none, [], none, .un 60 .not (.s 59)⟩]) c_laws_FnExactWriteParts_77) c_laws_FnExactWriteParts_82
def c_laws_FnExactWriteParts_72 : VC :=
  .seq (.r 24 [⟨none, [], none, .ld 54 (.s 1) 6 true⟩,
    ⟨none, [], none, .call 55 32 [(.s 54)]⟩,
    ⟨none, [], none, .call 56 33 [(.s 55)]⟩,
    ⟨none, [], none, .mv 10 (.s 56)⟩]) c_laws_FnExactWriteParts_74
def c_laws_FnExactWriteParts_64 : VC :=
  .seq (.seq (.r 22 [⟨none, [], none, .mv 51 (.s 9)⟩,
    ⟨none, [], none, .mv 52 (.s 8)⟩,
    ⟨none, [], none, .bin 53 .neq (.s 51) (.s 52)⟩]) c_laws_FnExactWriteParts_67) c_laws_FnExactWriteParts_72
def c_laws_FnExactWriteParts_56 : VC :=
  .seq (.seq (.r 20 [⟨none, [], none, .mv 49 (.s 9)⟩,
    ⟨none, [], none, .bin 50 .lss (.s 49) (.k (.int .i64 0))⟩]) c_laws_FnExactWriteParts_59) c_laws_FnExactWriteParts_64
def c_laws_FnExactWriteParts_54 : VC :=
  .seq (.r 19 [⟨none, [], none, .mv 46 (.s 6)⟩,
    ⟨none, [], none, .mv 47 (.s 9)⟩,
    ⟨none, [], none, .call 48 20 [(.s 46), (.s 47)]⟩,
    ⟨none, [], none, .mv 9 (.s 48)⟩]) c_laws_FnExactWriteParts_56
def c_laws_FnExactWriteParts_52 : VC :=
  .seq (.r 18 [⟨none, [], none, .mv 9 (.k (.int .i64 1))⟩]) c_laws_FnExactWriteParts_54
def c_laws_FnExactWriteParts_50 : VC :=
  .seq (.r 17 [⟨none, [], none, .mv 43 (.s 6)⟩,
    ⟨none, [], none, .mv 44 (.s 8)⟩,
    ⟨none, [], none, .call 45 19 [(.s 43), (.s 44)]⟩,
    ⟨none, [], none, .mv 8 (.s 45)⟩]) c_laws_FnExactWriteParts_52
def c_laws_FnExactWriteParts_48 : VC :=
  .seq (.r 16 [⟨none, [], none, .mv 8 (.k (.int .i64 1))⟩]) c_laws_FnExactWriteParts_50
def c_laws_FnExactWriteParts_40 : VC :=
  .seq (.seq (.r 14 [⟨none, [], none, .mv 35 (.s 7)⟩,
    ⟨none, [], none, .bin 36 .lss (.s 35) (.k (.int .i64 0))⟩,
    ⟨none, [], none, .mv 37 (.s 36)⟩,
    ⟨none, [], some (37, false), .mv 38 (.s 6)⟩,
    ⟨none, [], some (37, false), .mv 39 (.s 4)⟩,
    ⟨none, [], some (37, false), .call 40 16 [(.s 38), (.s 39)]⟩,
    ⟨none, [], some (37, false), .un 41 .not (.s 40)⟩,
    ⟨none, [], none, .pick 42 (.s 37) (.k (.bool true)) (.s 41)⟩]) c_laws_FnExactWriteParts_43) c_laws_FnExactWriteParts_48
def c_laws_FnExactWriteParts_38 : VC :=
  .seq (.r 13 [⟨none, [], none, .ld 32 (.s 5) 6 true⟩,
    ⟨none, [], none, .mv 33 (.s 7)⟩,
    ⟨none, [], none, .call 34 35 [(.s 32), (.s 33)]⟩,
    ⟨none, [], none, .mv 7 (.s 34)⟩]) c_laws_FnExactWriteParts_40
def c_laws_FnExactWriteParts_36 : VC :=
  .seq (.r 12 [⟨none, [], none, .mv 7 (.k (.int .i64 1))⟩]) c_laws_FnExactWriteParts_38
def c_laws_FnExactWriteParts_28 : VC :=
  .seq (.seq (.d 10 [(0, ⟨none, [], none, .ldv 27 (.s 5) 6 true⟩),
    (1, ⟨none, [], none, .ldv 28 (.s 1) 6 true⟩),
    (2, ⟨none, [], none, .call 29 32 [(.s 28)]⟩),
    (3, ⟨none, [], none, .call 30 34 [(.s 27), (.s 29)]⟩),
    (4, ⟨none, [], none, .un 31 .not (.s 30)⟩)]) c_laws_FnExactWriteParts_31) c_laws_FnExactWriteParts_36
def c_laws_FnExactWriteParts_20 : VC :=
  .seq (.seq (.r 8 [⟨none, [], none, .mv 23 (.s 6)⟩,
    ⟨none, [], none, .mv 24 (.s 4)⟩,
    ⟨none, [], none, .call 25 16 [(.s 23), (.s 24)]⟩,
    ⟨none, [], none, .un 26 .not (.s 25)⟩]) c_laws_FnExactWriteParts_23) c_laws_FnExactWriteParts_28
def c_laws_FnExactWriteParts_18 : VC :=
  .seq (.r 7 [⟨none, [], none, .ld 21 (.s 5) 6 true⟩,
    ⟨none, [], none, .call 22 33 [(.s 21)]⟩,
    ⟨none, [], none, .mv 6 (.s 22)⟩]) c_laws_FnExactWriteParts_20
def c_laws_FnExactWriteParts_16 : VC :=
  .seq (.r 6 [⟨none, [], none, .ld 19 (.s 1) 6 true⟩,
    ⟨none, [], none, .call 20 32 [(.s 19)]⟩,
    ⟨none, [], none, .alloc 5 [.k (.int .i64 0), .k (.int .i64 0), .k (.int .i64 0), .o [.sc], .o [.sc], .o [.own [.sc]]]⟩,
    ⟨none, [], none, .st (.s 5) (.s 20) 6⟩]) c_laws_FnExactWriteParts_18
def c_laws_FnExactWriteParts_14 : VC :=
  .seq (.r 5 [⟨none, [], none, .ld 16 (.s 1) 6 true⟩,
    ⟨none, [], none, .call 17 32 [(.s 16)]⟩,
    ⟨none, [], none, .call 18 31 [(.s 17)]⟩,
    ⟨none, [], none, .mv 4 (.s 18)⟩]) c_laws_FnExactWriteParts_16
def c_laws_FnExactWriteParts_6 : VC :=
  .seq (.seq (.r 3 [⟨none, [], none, .mv 14 (.s 3)⟩,
    ⟨none, [], none, .bin 15 .lss (.s 14) (.k (.int .i64 0))⟩]) c_laws_FnExactWriteParts_9) c_laws_FnExactWriteParts_14
def c_laws_FnExactWriteParts_4 : VC :=
  .seq (.r 2 [⟨none, [], none, .ld 11 (.s 1) 6 true⟩,
    ⟨none, [], none, .mv 12 (.s 3)⟩,
    ⟨none, [], none, .call 13 30 [(.s 11), (.s 12)]⟩,
    ⟨none, [], none, .mv 3 (.s 13)⟩]) c_laws_FnExactWriteParts_6
def c_laws_FnExactWriteParts_2 : VC :=
  .seq (.r 1 [⟨none, [], none, .mv 3 (.k (.int .i64 1048576))⟩]) c_laws_FnExactWriteParts_4
def c_laws_FnExactWriteParts_0 : VC :=
  .seq (.r 0 [⟨none, [], none, .box 1 (.s 0)⟩,
    ⟨none, [], none, .mv 2 (.k (.bool false))⟩]) c_laws_FnExactWriteParts_2
def vf_laws_FnExactWriteParts : VF := { pm := [.ro [.sc, .sc, .sc, .ro [.sc], .ro [.sc], .ro [.ro [.sc]]]], rm := [.v [.sc]], nslots := 69, res := [2], rc := [], code := .kp [0] c_laws_FnExactWriteParts_0 }
def ext : FuncId → List Arg → Option FRes := fun _ _ => none
def tblL : List (FuncId × VF) := [(108, vf_laws_szBoolS), (95, vf_laws_szIntS), (173, vf_laws_szByteS), (109, vf_laws_szByteSS), (30, vf_laws_szPiled), (113, vf_laws_toBoolS), (60, vf_laws_toIntS), (22, vf_laws_toByteS), (114, vf_laws_toByteSS), (32, vf_laws_toPiled), (110, vf_spec_l14Sides), (111, vf_spec_l14Mark), (174, vf_spec_l3Four), (175, vf_spec_Crc), (112, vf_spec_l14Part), (31, vf_spec_WriteParts), (115, vf_impl_zrange), (116, vf_impl_zsides), (176, vf_impl_zput4), (177, vf_impl_Crc), (117, vf_impl_zpile), (178, vf_impl_ReadPartsC1), (89, vf_impl_zmagic), (179, vf_impl_zget4), (118, vf_impl_ReadParts), (33, vf_impl_WriteParts), (16, vf_laws_eqByteS), (119, vf_laws_eqBoolS), (62, vf_laws_eqIntS), (120, vf_laws_eqByteSS), (34, vf_laws_eqPiled), (121, vf_laws_markBoolS), (63, vf_laws_markIntS), (19, vf_laws_markByteS), (122, vf_laws_markByteSS), (35, vf_laws_markPiled), (20, vf_laws_heldByteS), (6, vf_laws_FnExactWriteParts)]
def tbl : FuncId → Option VF := fun f => tblL.lookup f
end Go.Proofs.V

/- printed by a program: the plain functions, the code and the proofs of one law -/
set_option linter.unusedVariables false
set_option maxRecDepth 100000
namespace Go.Proofs.V
open Go
theorem fi_laws_szBoolS : funcIs Go.Proofs.Try.prog tbl 108 vf_laws_szBoolS = true := by kernel_rfl
theorem fi_laws_szIntS : funcIs Go.Proofs.Try.prog tbl 95 vf_laws_szIntS = true := by kernel_rfl
theorem fi_laws_szByteS : funcIs Go.Proofs.Try.prog tbl 173 vf_laws_szByteS = true := by kernel_rfl
theorem fi_laws_szByteSS : funcIs Go.Proofs.Try.prog tbl 109 vf_laws_szByteSS = true := by kernel_rfl
theorem fi_laws_szPiled : funcIs Go.Proofs.Try.prog tbl 30 vf_laws_szPiled = true := by kernel_rfl
theorem fi_laws_toBoolS : funcIs Go.Proofs.Try.prog tbl 113 vf_laws_toBoolS = true := by kernel_rfl
theorem fi_laws_toIntS : funcIs Go.Proofs.Try.prog tbl 60 vf_laws_toIntS = true := by kernel_rfl
theorem fi_laws_toByteS : funcIs Go.Proofs.Try.prog tbl 22 vf_laws_toByteS = true := by kernel_rfl
theorem fi_laws_toByteSS : funcIs Go.Proofs.Try.prog tbl 114 vf_laws_toByteSS = true := by kernel_rfl
theorem fi_laws_toPiled : funcIs Go.Proofs.Try.prog tbl 32 vf_laws_toPiled = true := by kernel_rfl
theorem fi_spec_l14Sides : funcIs Go.Proofs.Try.prog tbl 110 vf_spec_l14Sides = true := by kernel_rfl
theorem fi_spec_l14Mark : funcIs Go.Proofs.Try.prog tbl 111 vf_spec_l14Mark = true := by kernel_rfl
theorem fi_spec_l3Four : funcIs Go.Proofs.Try.prog tbl 174 vf_spec_l3Four = true := by kernel_rfl
theorem fi_spec_Crc : funcIs Go.Proofs.Try.prog tbl 175 vf_spec_Crc = true := by kernel_rfl
theorem fi_spec_l14Part : funcIs Go.Proofs.Try.prog tbl 112 vf_spec_l14Part = true := by kernel_rfl
theorem fi_spec_WriteParts : funcIs Go.Proofs.Try.prog tbl 31 vf_spec_WriteParts = true := by kernel_rfl
theorem fi_impl_zrange : funcIs Go.Proofs.Try.prog tbl 115 vf_impl_zrange = true := by kernel_rfl
theorem fi_impl_zsides : funcIs Go.Proofs.Try.prog tbl 116 vf_impl_zsides = true := by kernel_rfl
theorem fi_impl_zput4 : funcIs Go.Proofs.Try.prog tbl 176 vf_impl_zput4 = true := by kernel_rfl
theorem fi_impl_Crc : funcIs Go.Proofs.Try.prog tbl 177 vf_impl_Crc = true := by kernel_rfl
theorem fi_impl_zpile : funcIs Go.Proofs.Try.prog tbl 117 vf_impl_zpile = true := by kernel_rfl
theorem fi_impl_ReadPartsC1 : funcIs Go.Proofs.Try.prog tbl 178 vf_impl_ReadPartsC1 = true := by kernel_rfl
theorem fi_impl_zmagic : funcIs Go.Proofs.Try.prog tbl 89 vf_impl_zmagic = true := by kernel_rfl
theorem fi_impl_zget4 : funcIs Go.Proofs.Try.prog tbl 179 vf_impl_zget4 = true := by kernel_rfl
theorem fi_impl_ReadParts : funcIs Go.Proofs.Try.prog tbl 118 vf_impl_ReadParts = true := by kernel_rfl
theorem fi_impl_WriteParts : funcIs Go.Proofs.Try.prog tbl 33 vf_impl_WriteParts = true := by kernel_rfl
theorem fi_laws_eqByteS : funcIs Go.Proofs.Try.prog tbl 16 vf_laws_eqByteS = true := by kernel_rfl
theorem fi_laws_eqBoolS : funcIs Go.Proofs.Try.prog tbl 119 vf_laws_eqBoolS = true := by kernel_rfl
theorem fi_laws_eqIntS : funcIs Go.Proofs.Try.prog tbl 62 vf_laws_eqIntS = true := by kernel_rfl
theorem fi_laws_eqByteSS : funcIs Go.Proofs.Try.prog tbl 120 vf_laws_eqByteSS = true := by kernel_rfl
theorem fi_laws_eqPiled : funcIs Go.Proofs.Try.prog tbl 34 vf_laws_eqPiled = true := by kernel_rfl
theorem fi_laws_markBoolS : funcIs Go.Proofs.Try.prog tbl 121 vf_laws_markBoolS = true := by kernel_rfl
theorem fi_laws_markIntS : funcIs Go.Proofs.Try.prog tbl 63 vf_laws_markIntS = true := by kernel_rfl
theorem fi_laws_markByteS : funcIs Go.Proofs.Try.prog tbl 19 vf_laws_markByteS = true := by kernel_rfl
theorem fi_laws_markByteSS : funcIs Go.Proofs.Try.prog tbl 122 vf_laws_markByteSS = true := by kernel_rfl
theorem fi_laws_markPiled : funcIs Go.Proofs.Try.prog tbl 35 vf_laws_markPiled = true := by kernel_rfl
theorem fi_laws_heldByteS : funcIs Go.Proofs.Try.prog tbl 20 vf_laws_heldByteS = true := by kernel_rfl
theorem fi_laws_FnExactWriteParts : funcIs Go.Proofs.Try.prog tbl 6 vf_laws_FnExactWriteParts = true := by kernel_rfl
end Go.Proofs.V
