/- The plain side of EncodeTones. -/
import Derived.Test.YtfmagdeiaanmcaaFnExactEncodeTonesV3
import Derived.KernelRfl
set_option linter.unusedSimpArgs false
set_option linter.unusedVariables false
namespace Go.Proofs.V
open Go

theorem loopM_all {τ ε : Type} {b : τ → Option (τ ⊕ ε)} (mk : Nat → τ) (n : Nat) (p : Nat → Bool) {eT eF : ε} (ht : ∀ i, i < n → p i = true → b (mk i) = some (.inl (mk (i + 1)))) (hf : ∀ i, i < n → p i = false → b (mk i) = some (.inr eF)) (hd : b (mk n) = some (.inr eT)) :
    loopM b (mk 0) = some (if (List.range n).all p then eT else eF) := by
  have key : ∀ d i, i + d = n → loopM b (mk i) = some (if (List.range' i d).all p then eT else eF) := by
    intro d
    induction d with
    | zero =>
      intro i hi
      have : i = n := by omega
      subst this
      rw [loopM_eq, hd]
      simp
    | succ d ih =>
      intro i hi
      rw [loopM_eq]
      cases hp : p i with
      | true =>
        rw [ht i (by omega) hp]
        simp only
        rw [ih (i + 1) (by omega), List.range'_succ, List.all_cons, hp, Bool.true_and]
      | false =>
        rw [hf i (by omega) hp, List.range'_succ, List.all_cons, hp, Bool.false_and]
        rfl
  have := key n 0 (by omega)
  rw [this, List.range_eq_range']

-- ---------------------------------------------------------------- right tones
def inB (lo hi : Int) (l : List Int) : Bool := l.all fun x => decide (lo ≤ x) && decide (x ≤ hi)
theorem range_all (l : List Int) (lo hi : Int) : ((List.range l.length).all fun i => decide (lo ≤ l.getD i 0) && decide (l.getD i 0 ≤ hi)) = inB lo hi l := by
  unfold inB
  rw [Bool.eq_iff_iff]
  simp only [List.all_eq_true, List.mem_range]
  constructor
  · intro h x hx
    obtain ⟨i, hi, rfl⟩ := List.getElem_of_mem hx
    have := h i hi
    simpa [List.getD_eq_getElem?_getD, hi] using this
  · intro h i hi
    have := h l[i] (by simp)
    simpa [List.getD_eq_getElem?_getD, hi] using this

theorem l11All_eq (l : List Int) (n lo hi : Int) (hl : l.length < 4611686018427387904) : m_spec_l11All l n lo hi = some (inB lo hi l && ((l.length : Int) == n)) := by
  simp only [m_spec_l11All, m_spec_l11All_0]
  have := loopM_all (b := lp_spec_l11All_7 l n lo hi) (fun i => (i : Int)) l.length (fun i => decide (lo ≤ l.getD i 0) && decide (l.getD i 0 ≤ hi)) (eT := .inr ()) (eF := .inl false) ?_ ?_ ?_
  · rw [show (((0 : Nat) : Int)) = 0 from rfl] at this
    rw [this, range_all]
    cases inB lo hi l <;> simp [m_spec_l11All_25]
  · intro i hi' hp
    simp only [Bool.and_eq_true, decide_eq_true_eq] at hp
    simp only [lp_spec_l11All_7, m_spec_l11All_7]
    rw [if_pos (by simp; omega), rd_eq hi']
    simp only [List.getD_eq_getElem?_getD, List.getElem?_eq_getElem hi', Option.getD_some] at hp
    simp only [Option.bind_some]
    rw [if_neg (by simp; omega), if_neg (by simp; omega), w64_succ (by omega)]
  · intro i hi' hp
    simp only [lp_spec_l11All_7, m_spec_l11All_7]
    rw [if_pos (by simp; omega), rd_eq hi']
    simp only [List.getD_eq_getElem?_getD, List.getElem?_eq_getElem hi', Option.getD_some, Bool.and_eq_false_iff, decide_eq_false_iff_not] at hp
    simp only [Option.bind_some]
    by_cases h : l[i] < lo
    · rw [if_pos (by simpa using h)]
    · rw [if_neg (by simpa using h), if_pos (by simp; omega)]
  · simp only [lp_spec_l11All_7, m_spec_l11All_7]
    rw [if_neg (by simp)]

theorem zrange_eq (l : List Int) (lo hi most : Int) (hl : l.length < 4611686018427387904) : m_impl_zrange l lo hi most = some (decide ((l.length : Int) ≤ most) && inB lo hi l) := by
  simp only [m_impl_zrange, m_impl_zrange_0]
  by_cases hm : (l.length : Int) ≤ most
  · rw [if_neg (by simpa using hm)]
    have := loopM_all (b := lp_impl_zrange_15 lo hi l) (fun i => (i : Int)) l.length (fun i => decide (lo ≤ l.getD i 0) && decide (l.getD i 0 ≤ hi)) (eT := .inr ()) (eF := .inl false) ?_ ?_ ?_
    · rw [show (((0 : Nat) : Int)) = 0 from rfl] at this
      rw [this, range_all]
      cases inB lo hi l <;> simp [m_impl_zrange_33, hm]
    · intro i hi' hp
      simp only [Bool.and_eq_true, decide_eq_true_eq] at hp
      simp only [lp_impl_zrange_15, m_impl_zrange_15]
      rw [if_pos (by simp; omega), rd_eq hi']
      simp only [List.getD_eq_getElem?_getD, List.getElem?_eq_getElem hi', Option.getD_some] at hp
      simp only [Option.bind_some]
      rw [if_neg (by simp; omega), if_neg (by simp; omega), w64_succ (by omega)]
    · intro i hi' hp
      simp only [lp_impl_zrange_15, m_impl_zrange_15]
      rw [if_pos (by simp; omega), rd_eq hi']
      simp only [List.getD_eq_getElem?_getD, List.getElem?_eq_getElem hi', Option.getD_some, Bool.and_eq_false_iff, decide_eq_false_iff_not] at hp
      simp only [Option.bind_some]
      by_cases h : l[i] < lo
      · rw [if_pos (by simpa using h)]
      · rw [if_neg (by simpa using h), if_pos (by simp; omega)]
    · simp only [lp_impl_zrange_15, m_impl_zrange_15]
      rw [if_neg (by simp)]
  · rw [if_pos (by simp; omega)]
    simp [hm]

def headB (t : S_Tones) : Bool := decide (1 ≤ t.rate ∧ t.rate ≤ 1000000 ∧ 0 ≤ t.quality ∧ t.quality ≤ 15 ∧ 0 ≤ t.length ∧ t.length ≤ 4000)
def slotB (t : S_Tones) (i : Nat) : Bool := inB (-1048576) 1048575 (t.slots.getD i []) && ((t.slots.getD i []).length == 16) && inB 0 12 (t.grades.getD i []) && ((t.grades.getD i []).length == 8)
def goodB (t : S_Tones) : Bool := headB t && decide ((t.slots.length : Int) = (t.length + 15) / 16 + 1) && decide (t.grades.length = t.slots.length) && (List.range t.slots.length).all (slotB t)

/-- sizes that no list exceeds -/
def Small (t : S_Tones) : Prop := t.slots.length ≤ 1048576 ∧ t.grades.length ≤ 1048576 ∧ (∀ x ∈ t.slots, x.length ≤ 1048576) ∧ (∀ x ∈ t.grades, x.length ≤ 1048576)

theorem slots_eq {n : Int} (h : 0 ≤ n) (h2 : n ≤ 4000) : w64 ((w64 (Int.tdiv (w64 (n + 15)) 16)) + 1) = (n + 15) / 16 + 1 := by
  rw [w64_id (x := n + 15) (by omega) (by omega), Int.tdiv_eq_ediv_of_nonneg (by omega), w64_id (x := (n + 15) / 16) (by omega) (by omega), w64_id (by omega) (by omega)]

theorem spec_good (t : S_Tones) (hs : Small t) : m_spec_GoodTones t = some (goodB t) := by
  obtain ⟨h1, h2, h3, h4⟩ := hs
  simp only [m_spec_GoodTones, m_spec_GoodTones_0]
  have hh : m_spec_l11Head t.rate t.quality t.length = some (headB t) := by
    simp only [m_spec_l11Head, m_spec_l11Head_0, headB, decide_eq_true_eq, ge_iff_le]
    repeat' split
    all_goals (congr 1; rw [Bool.eq_iff_iff]; simp; omega)
  rw [hh]
  simp only [Option.bind_some]
  cases hhb : headB t with
  | false => simp [goodB, hhb]
  | true =>
    simp only [if_true]
    have hb := of_decide_eq_true hhb
    simp only [m_spec_l11Slots, m_spec_l11Slots_0, Option.bind_some]
    rw [slots_eq (by omega) (by omega)]
    by_cases hsl : (t.slots.length : Int) = (t.length + 15) / 16 + 1
    · rw [if_neg (by simpa using hsl)]
      by_cases hg : t.grades.length = t.slots.length
      · rw [if_neg (by simp [hg])]
        have := loopM_all (b := lp_spec_GoodTones_15 t) (fun i => (i : Int)) t.slots.length (slotB t) (eT := .inr ()) (eF := .inl false) ?_ ?_ ?_
        · rw [show (((0 : Nat) : Int)) = 0 from rfl] at this
          rw [this]
          simp only [goodB, hhb, decide_eq_true hsl, decide_eq_true hg, Bool.true_and]
          cases (List.range t.slots.length).all (slotB t) <;> simp [m_spec_GoodTones_33]
        · intro i hi hp
          simp only [slotB, List.getD_eq_getElem?_getD, List.getElem?_eq_getElem hi, List.getElem?_eq_getElem (hg ▸ hi : i < t.grades.length), Option.getD_some, Bool.and_eq_true, beq_iff_eq] at hp
          simp only [lp_spec_GoodTones_15, m_spec_GoodTones_15]
          rw [if_pos (by simp; omega), rd_eq hi]
          simp only [Option.bind_some]
          have k1 : t.slots[i].length ≤ 1048576 := h3 _ (by simp)
          have k2 : (t.grades[i]'(by omega)).length ≤ 1048576 := h4 _ (by simp)
          rw [l11All_eq _ _ _ _ (by omega)]
          simp only [Option.bind_some]
          rw [if_pos (by simp [hp.1.1.1, hp.1.1.2]), rd_eq (by omega)]
          simp only [Option.bind_some]
          rw [l11All_eq _ _ _ _ (by omega)]
          simp only [Option.bind_some]
          rw [if_pos (by simp [hp.1.2, hp.2]), w64_succ (by omega)]
        · intro i hi hp
          simp only [slotB, List.getD_eq_getElem?_getD, List.getElem?_eq_getElem hi, List.getElem?_eq_getElem (hg ▸ hi : i < t.grades.length), Option.getD_some] at hp
          simp only [lp_spec_GoodTones_15, m_spec_GoodTones_15]
          rw [if_pos (by simp; omega), rd_eq hi]
          simp only [Option.bind_some]
          have k1 : t.slots[i].length ≤ 1048576 := h3 _ (by simp)
          have k2 : (t.grades[i]'(by omega)).length ≤ 1048576 := h4 _ (by simp)
          rw [l11All_eq _ _ _ _ (by omega)]
          simp only [Option.bind_some]
          by_cases hc : (inB (-1048576) 1048575 t.slots[i] && ((t.slots[i].length : Int) == 16)) = true
          · rw [if_pos hc, rd_eq (by omega)]
            simp only [Option.bind_some]
            rw [l11All_eq _ _ _ _ (by omega)]
            simp only [Option.bind_some]
            rw [if_neg]
            intro hc2
            simp only [Bool.and_eq_true, beq_iff_eq] at hc hc2
            have e1 : t.slots[i].length = 16 := by omega
            have e2 : (t.grades[i]'(by omega)).length = 8 := by omega
            simp [hc.1, hc2.1, e1, e2] at hp
          · rw [if_neg hc]
        · simp only [lp_spec_GoodTones_15, m_spec_GoodTones_15]
          rw [if_neg (by simp)]
      · rw [if_pos (by simp; omega)]
        simp [goodB, hg]
    · rw [if_pos (by simpa using hsl)]
      simp [goodB, hsl]

theorem impl_good (t : S_Tones) (hs : Small t) : m_impl_GoodTones t = some (goodB t) := by
  obtain ⟨h1, h2, h3, h4⟩ := hs
  simp only [m_impl_GoodTones, m_impl_GoodTones_0]
  cases hhb : headB t with
  | false =>
    have hb := of_decide_eq_false hhb
    have hf : goodB t = false := by simp [goodB, hhb]
    rw [hf]
    simp only [decide_eq_true_eq]
    by_cases c1 : t.rate < 1
    · rw [if_pos c1]
    rw [if_neg c1]
    by_cases c2 : t.rate > 1000000
    · rw [if_pos c2]
    rw [if_neg c2]
    by_cases c3 : t.quality < 0
    · rw [if_pos c3]
    rw [if_neg c3]
    by_cases c4 : t.quality > 15
    · rw [if_pos c4]
    rw [if_neg c4]
    by_cases c5 : t.length < 0
    · rw [if_pos c5]
    rw [if_neg c5]
    by_cases c6 : t.length > 4000
    · rw [if_pos c6]
    exact absurd ⟨by omega, by omega, by omega, by omega, by omega, by omega⟩ hb
  | true =>
    have hb := of_decide_eq_true hhb
    simp only [decide_eq_true_eq]
    rw [if_neg (by omega), if_neg (by omega), if_neg (by omega), if_neg (by omega), if_neg (by omega), if_neg (by omega), slots_eq (by omega) (by omega)]
    by_cases hsl : (t.slots.length : Int) = (t.length + 15) / 16 + 1
    · rw [if_neg (by simpa using hsl)]
      by_cases hg : t.grades.length = t.slots.length
      · rw [if_neg (by simp; omega)]
        have := loopM_all (b := lp_impl_GoodTones_17 t) (fun i => (i : Int)) t.slots.length (slotB t) (eT := .inr ()) (eF := .inl false) ?_ ?_ ?_
        · rw [show (((0 : Nat) : Int)) = 0 from rfl] at this
          rw [this]
          simp only [goodB, hhb, decide_eq_true hsl, decide_eq_true hg, Bool.true_and]
          cases (List.range t.slots.length).all (slotB t) <;> simp [m_impl_GoodTones_35]
        · intro i hi hp
          simp only [slotB, List.getD_eq_getElem?_getD, List.getElem?_eq_getElem hi, List.getElem?_eq_getElem (hg ▸ hi : i < t.grades.length), Option.getD_some, Bool.and_eq_true, beq_iff_eq] at hp
          simp only [lp_impl_GoodTones_17, m_impl_GoodTones_17]
          rw [if_pos (by simp; omega), rd_eq hi]
          simp only [Option.bind_some]
          rw [if_neg (by simp [hp.1.1.2]), zrange_eq _ _ _ _ (by omega)]
          simp only [Option.bind_some]
          rw [if_pos (by simp [hp.1.1.1, hp.1.1.2]), rd_eq (by omega)]
          simp only [Option.bind_some]
          rw [if_neg (by simp [hp.2]), zrange_eq _ _ _ _ (by omega)]
          simp only [Option.bind_some]
          rw [if_pos (by simp [hp.1.2, hp.2]), w64_succ (by omega)]
        · intro i hi hp
          simp only [slotB, List.getD_eq_getElem?_getD, List.getElem?_eq_getElem hi, List.getElem?_eq_getElem (hg ▸ hi : i < t.grades.length), Option.getD_some] at hp
          simp only [lp_impl_GoodTones_17, m_impl_GoodTones_17]
          rw [if_pos (by simp; omega), rd_eq hi]
          simp only [Option.bind_some]
          have k1 : t.slots[i].length ≤ 1048576 := h3 _ (by simp)
          have k2 : (t.grades[i]'(by omega)).length ≤ 1048576 := h4 _ (by simp)
          by_cases e1 : t.slots[i].length = 16
          · rw [if_neg (by simp [e1]), zrange_eq _ _ _ _ (by omega)]
            simp only [Option.bind_some]
            cases hc : inB (-1048576) 1048575 t.slots[i] with
            | false => rw [if_neg (by simp)]
            | true =>
              rw [if_pos (by simp [e1]), rd_eq (by omega)]
              simp only [Option.bind_some]
              by_cases e2 : (t.grades[i]'(by omega)).length = 8
              · rw [if_neg (by simp [e2]), zrange_eq _ _ _ _ (by omega)]
                simp only [Option.bind_some]
                rw [if_neg]
                intro hc2
                simp only [Bool.and_eq_true] at hc2
                simp [hc, hc2.2, e1, e2] at hp
              · rw [if_pos (by simp; omega)]
          · rw [if_pos (by simp; omega)]
        · simp only [lp_impl_GoodTones_17, m_impl_GoodTones_17]
          rw [if_neg (by simp)]
      · rw [if_pos (by simp; omega)]
        simp [goodB, hg]
    · rw [if_pos (by simpa using hsl)]
      simp [goodB, hsl]
end Go.Proofs.V

/- The plain side of EncodeTones: bits. -/
set_option linter.unusedSimpArgs false
set_option linter.unusedVariables false
namespace Go.Proofs.V
open Go

/-- bytes and how many bits of them are told -/
abbrev BS := List Int × Nat
def grow (s : BS) : List Int := if s.2 % 8 = 0 then s.1 ++ [0] else s.1
def bitS (v : Bool) (s : BS) : BS := (if v then (grow s).set (s.2 / 8) (orI .u8 ((grow s).getD (s.2 / 8) 0) (shlI .u8 1 ((7 - s.2 % 8 : Nat) : Int))) else grow s, s.2 + 1)
def bitAt (v : Int) (j : Nat) : Bool := andI .u64 (shrI .u64 v (j : Int)) 1 == 1
/-- so many bits of a number, the high ones first -/
def putS : Nat → Int → BS → BS
  | 0, _, s => s
  | k + 1, v, s => putS k v (bitS (bitAt v k) s)
def zerosS : Nat → BS → BS
  | 0, s => s
  | q + 1, s => zerosS q (bitS false s)

def WB (s : BS) : Prop := s.1.length = (s.2 + 7) / 8 ∧ (∀ x ∈ s.1, 0 ≤ x ∧ x ≤ 255) ∧ s.2 ≤ 35184372088832

theorem wu8_range (x : Int) : 0 ≤ wr .u8 x ∧ wr .u8 x ≤ 255 := by rw [wu8_eq]; omega
theorem orI_range (a b : Int) : 0 ≤ orI .u8 a b ∧ orI .u8 a b ≤ 255 := wu8_range _
theorem wrap_u8_id (x : Int) (h : 0 ≤ x ∧ x ≤ 255) : IntKind.u8.wrap x = x := IntWalk.u8_in x h
theorem orI_zero {a : Int} (h : 0 ≤ a ∧ a ≤ 255) : orI .u8 a 0 = a := by
  unfold orI
  have : (BitVec.ofInt IntKind.u8.bits a ||| BitVec.ofInt IntKind.u8.bits 0).toNat = a.toNat := by
    show (BitVec.ofInt 8 a ||| 0#8).toNat = a.toNat
    rw [BitVec.or_zero]
    simp [BitVec.toNat_ofInt]
    omega
  rw [this]
  rw [wrap_u8_id _ (by omega)]
  omega
theorem shl_zero (j : Int) : shlI .u8 0 j = 0 := by
  unfold shlI
  rw [Int.zero_mul]
  rfl
theorem and_one (x : Int) : andI .u64 x 1 = 0 ∨ andI .u64 x 1 = 1 := by
  unfold andI
  have h : (BitVec.ofInt IntKind.u64.bits x &&& BitVec.ofInt IntKind.u64.bits 1).toNat ≤ 1 := by
    rw [BitVec.toNat_and]
    exact Nat.le_trans Nat.and_le_right (by decide)
  generalize (BitVec.ofInt IntKind.u64.bits x &&& BitVec.ofInt IntKind.u64.bits 1).toNat = y at h
  have : y = 0 ∨ y = 1 := by omega
  rcases this with rfl | rfl
  · exact .inl rfl
  · exact .inr rfl

theorem grow_len {s : BS} (h : WB s) : (grow s).length = s.2 / 8 + 1 := by
  obtain ⟨h1, _, _⟩ := h
  unfold grow
  split
  · simp; omega
  · omega
theorem grow_range {s : BS} (h : WB s) : ∀ x ∈ grow s, 0 ≤ x ∧ x ≤ 255 := by
  intro x hx
  unfold grow at hx
  split at hx
  · simp at hx
    rcases hx with hx | rfl
    · exact h.2.1 x hx
    · omega
  · exact h.2.1 x hx
theorem bitS_wb {s : BS} (h : WB s) (v : Bool) (hn : s.2 + 1 ≤ 35184372088832) : WB (bitS v s) := by
  have hl := grow_len h
  have hr := grow_range h
  refine ⟨?_, ?_, hn⟩
  · cases v <;> simp [bitS, hl] <;> omega
  · intro x hx
    cases v with
    | false => simp [bitS] at hx; exact hr x hx
    | true =>
      simp only [bitS, if_true] at hx
      rcases List.mem_or_eq_of_mem_set hx with hx | rfl
      · exact hr x hx
      · exact orI_range _ _
theorem putS_n : ∀ (k : Nat) (v : Int) (s : BS), (putS k v s).2 = s.2 + k
  | 0, v, s => rfl
  | k + 1, v, s => by rw [putS, putS_n k]; simp [bitS]; omega
theorem putS_wb : ∀ (k : Nat) (v : Int) (s : BS), WB s → s.2 + k ≤ 35184372088832 → WB (putS k v s)
  | 0, v, s, h, _ => h
  | k + 1, v, s, h, hn => putS_wb k v _ (bitS_wb h _ (by omega)) (by simp [bitS]; omega)
theorem zerosS_n : ∀ (k : Nat) (s : BS), (zerosS k s).2 = s.2 + k
  | 0, s => rfl
  | k + 1, s => by rw [zerosS, zerosS_n k]; simp [bitS]; omega
theorem zerosS_wb : ∀ (k : Nat) (s : BS), WB s → s.2 + k ≤ 35184372088832 → WB (zerosS k s)
  | 0, s, h, _ => h
  | k + 1, s, h, hn => zerosS_wb k _ (bitS_wb h _ (by omega)) (by simp [bitS]; omega)

-- ---------------------------------------------------------------- the reference's sink
abbrev sinkOf (s : BS) : S_l1Sink := ⟨true, s.1, s.2⟩
abbrev zOf (s : BS) : S_zbits := ⟨s.1, s.2⟩

theorem div8 {n : Nat} (h : n ≤ 35184372088832) : w64 (Int.tdiv (n : Int) 8) = ((n / 8 : Nat) : Int) := by
  rw [Int.tdiv_eq_ediv_of_nonneg (by omega), w64_id (by omega) (by omega)]
  omega
theorem mod8 (n : Nat) : Int.tmod (n : Int) 8 = ((n % 8 : Nat) : Int) := by
  rw [Int.tmod_eq_emod_of_nonneg (by omega)]
  omega

theorem spec_bit (s : BS) (x : Int) (v : Bool) (hx : x = 0 ∧ v = false ∨ x = 1 ∧ v = true) (h : WB s) (hn : s.2 + 1 ≤ 35184372088832) : m_spec_l1Sink_bit (sinkOf s) x = some (sinkOf (bitS v s)) := by
  have hl := grow_len h
  have key : m_spec_l1Sink_bit_6 x (sinkOf s) (grow s) = some (sinkOf (bitS v s)) := by
    unfold m_spec_l1Sink_bit_6
    have hs2 : w64 ((sinkOf s).n + 1) = ((s.2 + 1 : Nat) : Int) := by
      simp only [sinkOf]; exact w64_succ (by omega)
    rcases hx with ⟨rfl, rfl⟩ | ⟨rfl, rfl⟩
    · rw [if_neg (by decide), hs2]
      rfl
    · rw [if_pos (by decide), if_pos (by rfl)]
      unfold m_spec_l1Sink_bit_18
      rw [hs2]
      simp only [sinkOf]
      rw [div8 (by omega), mod8, rd_eq (by omega)]
      simp only [Option.bind_some]
      have e1 : wr .u64 (7 - wr .u64 ((s.2 % 8 : Nat) : Int)) = ((7 - s.2 % 8 : Nat) : Int) := by
        rw [wu64_id (x := ((s.2 % 8 : Nat) : Int)) (by omega) (by omega), wu64_id (by omega) (by omega)]
        omega
      rw [e1, ck_eq (by omega)]
      simp only [Option.bind_some, Nat.zero_add, Int.toNat_natCast, bitS, if_true]
      rw [List.getD_eq_getElem?_getD, List.getElem?_eq_getElem (by omega), Option.getD_some]
  unfold m_spec_l1Sink_bit m_spec_l1Sink_bit_0
  simp only [sinkOf] at key ⊢
  rw [mod8]
  unfold grow at key
  split at key
  · rename_i h8
    rw [if_pos (by simp [h8]), ck_eq (by have := h.1; simp; omega)]
    exact key
  · rename_i h8
    rw [if_neg (by simp; omega)]
    exact key

theorem impl_bit (s : BS) (x : Int) (v : Bool) (hx : x = 0 ∧ v = false ∨ x = 1 ∧ v = true) (h : WB s) (hn : s.2 + 1 ≤ 35184372088832) : m_impl_zbits_bit (zOf s) x = some (zOf (bitS v s)) := by
  have hl := grow_len h
  have hr := grow_range h
  have key : m_impl_zbits_bit_6 x (zOf s) (grow s) = some (zOf (bitS v s)) := by
    unfold m_impl_zbits_bit_6
    have hs2 : w64 ((zOf s).n + 1) = ((s.2 + 1 : Nat) : Int) := by
      simp only [zOf]; exact w64_succ (by omega)
    rw [hs2]
    simp only [zOf]
    rw [div8 (by omega), mod8, rd_eq (by omega)]
    simp only [Option.bind_some]
    have e1 : w64 (7 - ((s.2 % 8 : Nat) : Int)) = ((7 - s.2 % 8 : Nat) : Int) := by
      rw [w64_id (by omega) (by omega)]
      omega
    rw [e1, ck_eq (by omega)]
    simp only [Option.bind_some, Nat.zero_add, Int.toNat_natCast]
    rcases hx with ⟨rfl, rfl⟩ | ⟨rfl, rfl⟩
    · have e2 : wr .u8 0 = 0 := rfl
      rw [e2, shl_zero, orI_zero (hr _ (by simp))]
      simp [bitS]
    · have e2 : wr .u8 1 = 1 := rfl
      rw [e2]
      simp only [bitS, if_true]
      rw [List.getD_eq_getElem?_getD, List.getElem?_eq_getElem (by omega), Option.getD_some]
  unfold m_impl_zbits_bit m_impl_zbits_bit_0
  simp only [zOf] at key ⊢
  rw [mod8]
  unfold grow at key
  split at key
  · rename_i h8
    rw [if_pos (by simp [h8]), ck_eq (by have := h.1; simp; omega)]
    exact key
  · rename_i h8
    rw [if_neg (by simp; omega)]
    exact key

theorem bitAt_cases (v : Int) (j : Nat) : andI .u64 (shrI .u64 v (j : Int)) 1 = 0 ∧ bitAt v j = false ∨ andI .u64 (shrI .u64 v (j : Int)) 1 = 1 ∧ bitAt v j = true := by
  unfold bitAt
  rcases and_one (shrI .u64 v (j : Int)) with h | h
  · left; rw [h]; exact ⟨rfl, rfl⟩
  · right; rw [h]; exact ⟨rfl, rfl⟩

theorem spec_put (k : Nat) (v : Int) (s : BS) (h : WB s) (hk : k ≤ 64) (hn : s.2 + k ≤ 35184372088832) : m_spec_l1Sink_put (sinkOf s) k v = some (sinkOf (putS k v s)) := by
  simp only [m_spec_l1Sink_put, m_spec_l1Sink_put_0]
  have key : ∀ (d i : Nat) (s : BS), i + d = k → WB s → s.2 + d ≤ 35184372088832 → loopM (lp_spec_l1Sink_put_4 k v) ((i : Int), true, (s.2 : Int), s.1) = some (sinkOf (putS d v s)) := by
    intro d
    induction d with
    | zero =>
      intro i s hi hw hb
      rw [loopM_eq]
      simp only [lp_spec_l1Sink_put_4, m_spec_l1Sink_put_4]
      rw [if_neg (by simp; omega)]
      rfl
    | succ d ih =>
      intro i s hi hw hb
      rw [loopM_eq]
      simp only [lp_spec_l1Sink_put_4, m_spec_l1Sink_put_4]
      rw [if_pos (by simp; omega)]
      simp only [if_true, m_spec_l1Sink_put_20]
      have e1 : wr .u64 (w64 (w64 ((k : Int) - 1) - (i : Int))) = (d : Int) := by
        rw [w64_id (x := (k : Int) - 1) (by omega) (by omega), w64_id (by omega) (by omega), wu64_id (by omega) (by omega)]
        omega
      rw [e1, ck_eq (by omega)]
      simp only [Option.bind_some]
      have hb1 := spec_bit s (andI .u64 (shrI .u64 v (d : Int)) 1) (bitAt v d) (bitAt_cases v d) hw (by omega)
      simp only [sinkOf] at hb1
      rw [hb1]
      simp only [Option.bind_some]
      rw [w64_succ (by omega)]
      exact ih (i + 1) (bitS (bitAt v d) s) (by omega) (bitS_wb hw _ (by omega)) (by simp [bitS]; omega)
  have := key k 0 s (by omega) h hn
  rw [show (((0 : Nat) : Int)) = 0 from rfl] at this
  simp only [sinkOf] at this ⊢
  rw [this]
  rfl

theorem impl_put (k : Nat) (v : Int) (s : BS) (h : WB s) (hk : k ≤ 64) (hn : s.2 + k ≤ 35184372088832) : m_impl_zbits_put (zOf s) k v = some (zOf (putS k v s)) := by
  simp only [m_impl_zbits_put, m_impl_zbits_put_0]
  have key : ∀ (d : Nat) (s : BS), d ≤ 64 → WB s → s.2 + d ≤ 35184372088832 → loopM (lp_impl_zbits_put_4 v) ((d : Int) - 1, (s.2 : Int), s.1) = some (zOf (putS d v s)) := by
    intro d
    induction d with
    | zero =>
      intro s hi hw hb
      rw [loopM_eq]
      simp only [lp_impl_zbits_put_4, m_impl_zbits_put_4]
      rw [if_neg (by simp)]
      rfl
    | succ d ih =>
      intro s hi hw hb
      rw [loopM_eq]
      have e0 : ((d + 1 : Nat) : Int) - 1 = (d : Int) := by omega
      simp only [lp_impl_zbits_put_4, m_impl_zbits_put_4, e0]
      rw [if_pos (by simp), ck_eq (by omega)]
      simp only [Option.bind_some]
      have e1 : w64 (andI .u64 (shrI .u64 v (d : Int)) 1) = andI .u64 (shrI .u64 v (d : Int)) 1 := by
        rcases and_one (shrI .u64 v (d : Int)) with h | h <;> rw [h] <;> rfl
      rw [e1]
      have hb1 := impl_bit s (andI .u64 (shrI .u64 v (d : Int)) 1) (bitAt v d) (bitAt_cases v d) hw (by omega)
      simp only [zOf] at hb1
      rw [hb1]
      simp only [Option.bind_some]
      rw [w64_id (by omega) (by omega)]
      exact ih (bitS (bitAt v d) s) (by omega) (bitS_wb hw _ (by omega)) (by simp [bitS]; omega)
  have := key k s hk h hn
  rw [w64_id (by omega) (by omega)]
  simp only [zOf] at this ⊢
  rw [this]
  rfl

-- ---------------------------------------------------------------- numbers by a key
def foldS (n : Int) : Int := if n < 0 then -2 * n - 1 else 2 * n
theorem foldS_range {n : Int} (h1 : -1048576 ≤ n) (h2 : n ≤ 1048575) : 0 ≤ foldS n ∧ foldS n ≤ 2097151 := by unfold foldS; split <;> omega

theorem spec_fold {n : Int} (h1 : -1048576 ≤ n) (h2 : n ≤ 1048575) : m_spec_Fold n = some (foldS n) := by
  simp only [m_spec_Fold, m_spec_Fold_0, foldS, decide_eq_true_eq]
  split
  · rw [w64_id (x := n + 1) (by omega) (by omega), w64_id (by omega) (by omega), wu64_id (x := 0 - (n + 1)) (by omega) (by omega), wu64_id (x := 2 * (0 - (n + 1))) (by omega) (by omega), wu64_id (by omega) (by omega)]
    congr 1; omega
  · rw [wu64_id (x := n) (by omega) (by omega), wu64_id (by omega) (by omega)]

theorem xor_ones (x : Nat) (h : x < 2 ^ 64) : (BitVec.ofNat 64 x ^^^ BitVec.allOnes 64).toNat = 2 ^ 64 - 1 - x := by
  rw [BitVec.xor_allOnes, BitVec.toNat_not, BitVec.toNat_ofNat, Nat.mod_eq_of_lt h]

theorem impl_fold {n : Int} (h1 : -1048576 ≤ n) (h2 : n ≤ 1048575) : m_impl_Fold n = some (foldS n) := by
  simp only [m_impl_Fold, m_impl_Fold_0]
  have e1 : shlI .u64 (wr .u64 n) 1 = wr .u64 (2 * wr .u64 n) := by
    unfold shlI
    rw [show (2 : Int) ^ min (Int.toNat 1) IntKind.u64.bits = 2 from rfl, Int.mul_comm]
    rfl
  have e2 : shrI .i64 n 63 = if n < 0 then -1 else 0 := by
    unfold shrI
    rw [show (2 : Int) ^ min (Int.toNat 63) IntKind.i64.bits = 9223372036854775808 from rfl, Int.fdiv_eq_ediv_of_nonneg _ (by omega)]
    split <;> omega
  rw [e1, e2]
  unfold foldS
  by_cases hn : n < 0
  · rw [if_pos hn, if_pos hn]
    have e3 : wr .u64 (-1) = 18446744073709551615 := rfl
    have e4 : wr .u64 (2 * wr .u64 n) = 18446744073709551616 + 2 * n := by
      rw [wu64_eq, wu64_eq]; omega
    rw [e3, e4]
    unfold xorI
    have e5 : BitVec.ofInt IntKind.u64.bits 18446744073709551615 = BitVec.allOnes 64 := rfl
    have e6 : BitVec.ofInt IntKind.u64.bits (18446744073709551616 + 2 * n) = BitVec.ofNat 64 (18446744073709551616 + 2 * n).toNat := by
      apply BitVec.eq_of_toNat_eq
      simp [IntKind.bits, BitVec.toNat_ofInt, BitVec.toNat_ofNat]
      omega
    rw [e5, e6]
    have e7 := xor_ones (18446744073709551616 + 2 * n).toNat (by omega)
    have e8 : (BitVec.ofNat 64 (18446744073709551616 + 2 * n).toNat ^^^ BitVec.allOnes 64).toNat = (-2 * n - 1).toNat := by rw [e7]; omega
    have e9 : IntKind.u64.wrap ((BitVec.ofNat 64 (18446744073709551616 + 2 * n).toNat ^^^ BitVec.allOnes 64).toNat : Int) = -2 * n - 1 := by
      rw [e8, IntWalk.u64_in _ (by omega)]
      omega
    exact congrArg some e9
  · rw [if_neg hn, if_neg hn]
    have e3 : wr .u64 0 = 0 := rfl
    have e4 : wr .u64 (2 * wr .u64 n) = 2 * n := by rw [wu64_eq, wu64_eq]; omega
    rw [e3, e4]
    unfold xorI
    show some (IntKind.u64.wrap ((BitVec.ofInt 64 (2 * n) ^^^ 0#64).toNat : Int)) = _
    rw [BitVec.xor_zero]
    have e6 : (BitVec.ofInt 64 (2 * n)).toNat = (2 * n).toNat := by
      simp [BitVec.toNat_ofInt]
      omega
    rw [e6, IntWalk.u64_in _ (by omega)]
    congr 1; omega

def quoS (n : Int) (k : Nat) : Nat := (foldS n).toNat / 2 ^ k
theorem shr_eq {f : Int} {k : Nat} (h1 : 0 ≤ f) (hk : k ≤ 64) : shrI .u64 f (k : Int) = ((f.toNat / 2 ^ k : Nat) : Int) := by
  unfold shrI
  have : min (Int.toNat (k : Int)) IntKind.u64.bits = k := by simp [IntKind.bits]; omega
  rw [this, Int.fdiv_eq_ediv_of_nonneg _ (by have : (0 : Int) < 2 ^ k := Int.pow_pos (by decide); omega)]
  obtain ⟨m, rfl⟩ := Int.eq_ofNat_of_zero_le h1
  simp

def riceS (k : Nat) (n : Int) (s : BS) : BS := putS k (foldS n) (bitS true (zerosS (quoS n k) s))
theorem quoS_le {n : Int} {k : Nat} (h1 : -1048576 ≤ n) (h2 : n ≤ 1048575) : quoS n k ≤ 2097151 := by
  have := foldS_range h1 h2
  unfold quoS
  exact Nat.le_trans (Nat.div_le_self _ _) (by omega)
theorem riceS_n (k : Nat) (n : Int) (s : BS) : (riceS k n s).2 = s.2 + quoS n k + 1 + k := by
  unfold riceS
  rw [putS_n]
  simp [bitS, zerosS_n]
theorem riceS_wb {k : Nat} {n : Int} {s : BS} (h : WB s) (hk : k ≤ 16) (h1 : -1048576 ≤ n) (h2 : n ≤ 1048575) (hn : s.2 + 2097170 ≤ 35184372088832) : WB (riceS k n s) := by
  have := quoS_le (k := k) h1 h2
  unfold riceS
  refine putS_wb _ _ _ (bitS_wb (zerosS_wb _ _ h (by omega)) _ (by rw [zerosS_n]; omega)) (by simp [bitS, zerosS_n]; omega)

theorem spec_rice {k : Nat} {n : Int} {s : BS} (h : WB s) (hk : k ≤ 16) (h1 : -1048576 ≤ n) (h2 : n ≤ 1048575) (hn : s.2 + 2097170 ≤ 35184372088832) : m_spec_l1Sink_rice (sinkOf s) k n = some (sinkOf (riceS k n s)) := by
  have hq := quoS_le (k := k) h1 h2
  have hf := foldS_range h1 h2
  simp only [m_spec_l1Sink_rice, m_spec_l1Sink_rice_0]
  rw [if_neg (by simp; omega), spec_fold h1 h2]
  simp only [Option.bind_some]
  rw [wu64_id (by omega) (by omega), ck_eq (by omega)]
  simp only [Option.bind_some]
  rw [shr_eq hf.1 (by omega)]
  have key : ∀ (q : Nat) (s : BS), q ≤ 2097151 → WB s → s.2 + q ≤ 35184372088832 → loopM (lp_spec_l1Sink_rice_15 k (foldS n)) ((q : Int), true, (s.2 : Int), s.1) = some (true, (((zerosS q s).2 : Nat) : Int), (zerosS q s).1) := by
    intro q
    induction q with
    | zero =>
      intro s _ hw hb
      rw [loopM_eq]
      simp only [lp_spec_l1Sink_rice_15, m_spec_l1Sink_rice_15]
      rw [if_neg (by simp)]
      rfl
    | succ q ih =>
      intro s hq hw hb
      rw [loopM_eq]
      simp only [lp_spec_l1Sink_rice_15, m_spec_l1Sink_rice_15]
      rw [if_pos (by simp)]
      have hb1 := spec_bit s 0 false (.inl ⟨rfl, rfl⟩) hw (by omega)
      simp only [sinkOf] at hb1
      rw [hb1]
      simp only [Option.bind_some]
      have e1 : wr .u64 (((q + 1 : Nat) : Int) - 1) = (q : Int) := by rw [wu64_id (by omega) (by omega)]; omega
      rw [e1]
      exact ih (bitS false s) (by omega) (bitS_wb hw _ (by omega)) (by simp [bitS]; omega)
  have hl := key (quoS n k) s hq h (by omega)
  simp only [sinkOf, quoS] at hl ⊢
  rw [hl]
  simp only [Option.bind_some, m_spec_l1Sink_rice_25]
  have hz : WB (zerosS (quoS n k) s) := zerosS_wb _ _ h (by omega)
  have hzn := zerosS_n (quoS n k) s
  have hb1 := spec_bit (zerosS (quoS n k) s) 1 true (.inr ⟨rfl, rfl⟩) hz (by omega)
  simp only [sinkOf, quoS] at hb1
  rw [hb1]
  simp only [Option.bind_some]
  have hp := spec_put k (foldS n) (bitS true (zerosS (quoS n k) s)) (bitS_wb hz _ (by omega)) (by omega) (by simp [bitS]; omega)
  simp only [sinkOf, quoS] at hp
  rw [hp]
  rfl

theorem impl_rice {k : Nat} {n : Int} {s : BS} (h : WB s) (hk : k ≤ 16) (h1 : -1048576 ≤ n) (h2 : n ≤ 1048575) (hn : s.2 + 2097170 ≤ 35184372088832) : m_impl_zbits_rice (zOf s) n k = some (zOf (riceS k n s)) := by
  have hq := quoS_le (k := k) h1 h2
  have hf := foldS_range h1 h2
  simp only [m_impl_zbits_rice, m_impl_zbits_rice_0]
  rw [impl_fold h1 h2]
  simp only [Option.bind_some]
  rw [ck_eq (by omega)]
  simp only [Option.bind_some]
  rw [shr_eq hf.1 (by omega)]
  have key : ∀ (d i : Nat) (s : BS), i + d = quoS n k → WB s → s.2 + d ≤ 35184372088832 → loopM (lp_impl_zbits_rice_7 k (foldS n)) (((quoS n k : Nat) : Int), (i : Int), (s.2 : Int), s.1) = some ((((zerosS d s).2 : Nat) : Int), (zerosS d s).1) := by
    intro d
    induction d with
    | zero =>
      intro i s _ hw hb
      rw [loopM_eq]
      simp only [lp_impl_zbits_rice_7, m_impl_zbits_rice_7]
      rw [if_neg (by simp; omega)]
      rfl
    | succ d ih =>
      intro i s hi hw hb
      rw [loopM_eq]
      simp only [lp_impl_zbits_rice_7, m_impl_zbits_rice_7]
      rw [if_pos (by simp; omega)]
      have hb1 := impl_bit s 0 false (.inl ⟨rfl, rfl⟩) hw (by omega)
      simp only [zOf] at hb1
      rw [hb1]
      simp only [Option.bind_some]
      have e1 : wr .u64 ((i : Int) + 1) = ((i + 1 : Nat) : Int) := by rw [wu64_id (by omega) (by omega)]; omega
      rw [e1]
      exact ih (i + 1) (bitS false s) (by omega) (bitS_wb hw _ (by omega)) (by simp [bitS]; omega)
  have hl := key (quoS n k) 0 s (by omega) h (by omega)
  rw [show (((0 : Nat) : Int)) = 0 from rfl] at hl
  simp only [zOf, quoS] at hl ⊢
  rw [hl]
  simp only [Option.bind_some, m_impl_zbits_rice_17]
  have hz : WB (zerosS (quoS n k) s) := zerosS_wb _ _ h (by omega)
  have hzn := zerosS_n (quoS n k) s
  have hb1 := impl_bit (zerosS (quoS n k) s) 1 true (.inr ⟨rfl, rfl⟩) hz (by omega)
  simp only [zOf, quoS] at hb1
  rw [hb1]
  simp only [Option.bind_some]
  have hp := impl_put k (foldS n) (bitS true (zerosS (quoS n k) s)) (bitS_wb hz _ (by omega)) (by omega) (by simp [bitS]; omega)
  simp only [zOf, quoS] at hp
  rw [hp]
  rfl
end Go.Proofs.V

/- The plain side of EncodeTones: the whole. -/
set_option linter.unusedSimpArgs false
set_option linter.unusedVariables false
set_option maxRecDepth 20000
namespace Go.Proofs.V
open Go

-- ---------------------------------------------------------------- the key
def costS (k : Nat) : List Int → Nat
  | [] => 0
  | n :: l => quoS n k + 1 + k + costS k l
theorem costS_le (k : Nat) (hk : k ≤ 16) : ∀ l : List Int, (∀ x ∈ l, -1048576 ≤ x ∧ x ≤ 1048575) → costS k l ≤ l.length * 2097168
  | [], _ => by simp [costS]
  | n :: l, h => by
    have h1 := h n (by simp)
    have h2 := quoS_le (k := k) h1.1 h1.2
    have h3 := costS_le k hk l fun x hx => h x (by simp [hx])
    simp only [costS, List.length_cons]
    omega
theorem costS_take (k : Nat) : ∀ (l : List Int) (i : Nat) (h : i < l.length), costS k (l.take (i + 1)) = costS k (l.take i) + (quoS l[i] k + 1 + k)
  | [], i, h => by simp at h
  | n :: l, 0, h => by simp [costS]
  | n :: l, i + 1, h => by
    have := costS_take k l i (by simpa using h)
    simp only [List.take_succ_cons, costS, List.getElem_cons_succ, this]
    omega
theorem costS_take_le (k : Nat) (hk : k ≤ 16) (l : List Int) (i : Nat) (h : ∀ x ∈ l, -1048576 ≤ x ∧ x ≤ 1048575) (hl : l.length = 16) : costS k (l.take i) ≤ 33554688 := by
  have := costS_le k hk (l.take i) fun x hx => h x (List.mem_of_mem_take hx)
  have h2 : (l.take i).length ≤ 16 := by simp; omega
  have h3 : (l.take i).length * 2097168 ≤ 16 * 2097168 := Nat.mul_le_mul_right _ h2
  omega

theorem spec_cost {k : Nat} {l : List Int} (hk : k ≤ 16) (h : ∀ x ∈ l, -1048576 ≤ x ∧ x ≤ 1048575) (hl : l.length = 16) : m_spec_l11KeyCost k l = some ((costS k l : Nat) : Int) := by
  simp only [m_spec_l11KeyCost, m_spec_l11KeyCost_0]
  have := loopM_fun (b := lp_spec_l11KeyCost_9 k l) (fun i (s : Int) => (s, (i : Int))) l.length (fun i => ((costS k (l.take i) : Nat) : Int)) (e := ((costS k l : Nat) : Int)) ?_ ?_
  · simp only [List.take_zero, costS] at this
    rw [show (((0 : Nat) : Int)) = 0 from rfl] at this
    rw [this]
    rfl
  · intro i hi
    have hx := h l[i] (by simp)
    have hq := quoS_le (k := k) hx.1 hx.2
    have hc := costS_take_le k hk l i h hl
    simp only [lp_spec_l11KeyCost_9, m_spec_l11KeyCost_9]
    rw [if_pos (by simp; omega), rd_eq hi]
    simp only [Option.bind_some]
    rw [spec_fold hx.1 hx.2]
    simp only [Option.bind_some]
    rw [wu64_id (by omega) (by omega), ck_eq (by omega)]
    simp only [Option.bind_some]
    rw [shr_eq (foldS_range hx.1 hx.2).1 (by omega), costS_take k l i hi]
    have e : ((foldS l[i]).toNat / 2 ^ k) = quoS l[i] k := rfl
    rw [e, w64_id (x := ((quoS l[i] k : Nat) : Int)) (by omega) (by omega), w64_id (x := ((quoS l[i] k : Nat) : Int) + 1) (by omega) (by omega), w64_id (x := ((quoS l[i] k : Nat) : Int) + 1 + (k : Int)) (by omega) (by omega), w64_id (by omega) (by omega), w64_succ (by omega)]
    simp only [Option.some.injEq, Sum.inl.injEq, Prod.mk.injEq, and_true]
    omega
  · simp only [lp_spec_l11KeyCost_9, m_spec_l11KeyCost_9]
    rw [if_neg (by simp), List.take_length]

theorem impl_cost {k : Nat} {l : List Int} (hk : k ≤ 16) (h : ∀ x ∈ l, -1048576 ≤ x ∧ x ≤ 1048575) (hl : l.length = 16) : m_impl_zkeyCost k l = some ((5 + costS k l : Nat) : Int) := by
  simp only [m_impl_zkeyCost, m_impl_zkeyCost_0]
  rw [if_neg (by simp; omega)]
  have := loopM_fun (b := lp_impl_zkeyCost_17 k l) (fun i (s : Int) => (s, (i : Int))) l.length (fun i => ((5 + costS k (l.take i) : Nat) : Int)) (e := ((5 + costS k l : Nat) : Int)) ?_ ?_
  · simp only [List.take_zero, costS] at this
    rw [show (((0 : Nat) : Int)) = 0 from rfl] at this
    rw [show (((5 + 0 : Nat) : Int)) = 5 from rfl] at this
    rw [this]
    rfl
  · intro i hi
    have hx := h l[i] (by simp)
    have hq := quoS_le (k := k) hx.1 hx.2
    have hc := costS_take_le k hk l i h hl
    simp only [lp_impl_zkeyCost_17, m_impl_zkeyCost_17]
    rw [if_pos (by simp; omega), rd_eq hi]
    simp only [Option.bind_some]
    rw [impl_fold hx.1 hx.2]
    simp only [Option.bind_some]
    rw [ck_eq (by omega)]
    simp only [Option.bind_some]
    rw [shr_eq (foldS_range hx.1 hx.2).1 (by omega), costS_take k l i hi]
    have e : ((foldS l[i]).toNat / 2 ^ k) = quoS l[i] k := rfl
    rw [e, w64_id (x := ((quoS l[i] k : Nat) : Int)) (by omega) (by omega), w64_id (x := ((quoS l[i] k : Nat) : Int) + 1) (by omega) (by omega), w64_id (x := ((quoS l[i] k : Nat) : Int) + 1 + (k : Int)) (by omega) (by omega), w64_id (by omega) (by omega), w64_succ (by omega)]
    simp only [Option.some.injEq, Sum.inl.injEq, Prod.mk.injEq, and_true]
    omega
  · simp only [lp_impl_zkeyCost_17, m_impl_zkeyCost_17]
    rw [if_neg (by simp), List.take_length]

def bestS (l : List Int) : Nat → Nat
  | 0 => 0
  | k + 1 => if costS (k + 1) l < costS (bestS l k) l then k + 1 else bestS l k
theorem bestS_le (l : List Int) : ∀ k, bestS l k ≤ k
  | 0 => Nat.le_refl _
  | k + 1 => by
    have := bestS_le l k
    simp only [bestS]
    split <;> omega

-- ---------------------------------------------------------------- all slots
def gradesS : List Int → BS → BS
  | [], s => s
  | g :: l, s => gradesS l (putS 4 (wr .u64 g) s)
def slotS (k : Nat) : List Int → BS → BS
  | [], s => s
  | n :: l, s => slotS k l (riceS k n s)
def oneS (g l : List Int) (s : BS) : BS := slotS (bestS l 16) l (putS 5 ((bestS l 16 : Nat) : Int) (gradesS g s))
def allS : List (List Int) → List (List Int) → BS → BS
  | g :: gs, l :: ls, s => allS gs ls (oneS g l s)
  | _, _, s => s

def RightS (l : List Int) : Prop := l.length = 16 ∧ ∀ x ∈ l, -1048576 ≤ x ∧ x ≤ 1048575

theorem gradesS_n : ∀ (g : List Int) (s : BS), (gradesS g s).2 = s.2 + 4 * g.length
  | [], s => rfl
  | x :: g, s => by rw [gradesS, gradesS_n g, putS_n]; simp; omega
theorem gradesS_wb : ∀ (g : List Int) (s : BS), WB s → s.2 + 4 * g.length ≤ 35184372088832 → WB (gradesS g s)
  | [], s, h, _ => h
  | x :: g, s, h, hn => by
    simp at hn
    exact gradesS_wb g _ (putS_wb _ _ _ h (by omega)) (by rw [putS_n]; omega)
theorem slotS_n (k : Nat) (hk : k ≤ 16) : ∀ (l : List Int) (s : BS), (∀ x ∈ l, -1048576 ≤ x ∧ x ≤ 1048575) → (slotS k l s).2 ≤ s.2 + l.length * 2097168
  | [], s, _ => by simp [slotS]
  | n :: l, s, h => by
    have h1 := h n (by simp)
    have h2 := quoS_le (k := k) h1.1 h1.2
    have := slotS_n k hk l (riceS k n s) fun x hx => h x (by simp [hx])
    rw [riceS_n] at this
    simp only [slotS, List.length_cons]
    omega
theorem slotS_wb (k : Nat) (hk : k ≤ 16) : ∀ (l : List Int) (s : BS), (∀ x ∈ l, -1048576 ≤ x ∧ x ≤ 1048575) → WB s → s.2 + (l.length + 1) * 2097168 + 2 ≤ 35184372088832 → WB (slotS k l s)
  | [], s, _, h, _ => h
  | n :: l, s, hx, h, hn => by
    have h1 := hx n (by simp)
    have h2 := quoS_le (k := k) h1.1 h1.2
    simp only [List.length_cons] at hn
    refine slotS_wb k hk l _ (fun x hx' => hx x (by simp [hx'])) (riceS_wb h hk h1.1 h1.2 (by omega)) ?_
    rw [riceS_n]
    omega
theorem oneS_n {g l : List Int} (s : BS) (hg : g.length = 8) (hl : RightS l) : (oneS g l s).2 ≤ s.2 + 33554800 := by
  have hb := bestS_le l 16
  have := slotS_n (bestS l 16) hb l (putS 5 ((bestS l 16 : Nat) : Int) (gradesS g s)) hl.2
  rw [putS_n, gradesS_n, hg, hl.1] at this
  unfold oneS
  omega
theorem oneS_wb {g l : List Int} {s : BS} (hg : g.length = 8) (hl : RightS l) (h : WB s) (hn : s.2 + 40000000 ≤ 35184372088832) : WB (oneS g l s) := by
  have hb := bestS_le l 16
  have hgn := gradesS_n g s
  unfold oneS
  refine slotS_wb _ hb l _ hl.2 (putS_wb _ _ _ (gradesS_wb g s h (by omega)) (by omega)) ?_
  rw [putS_n, hgn, hg, hl.1]
  omega

-- ---------------------------------------------------------------- the reference
section
variable (t : S_Tones) (i : Nat)

theorem spec_grades (g : List Int) (s : BS) (hw : WB s) (hg : g.length = 8) (hn : s.2 + 32 ≤ 35184372088832) :
    loopM (lp_spec_EncodeTones_40 (i : Int) t g) (0, true, (s.2 : Int), s.1) = some (true, (((gradesS g s).2 : Nat) : Int), (gradesS g s).1) := by
  have key : ∀ (d j : Nat) (s : BS), j + d = g.length → WB s → s.2 + 4 * d ≤ 35184372088832 → loopM (lp_spec_EncodeTones_40 (i : Int) t g) ((j : Int), true, (s.2 : Int), s.1) = some (true, (((gradesS (g.drop j) s).2 : Nat) : Int), (gradesS (g.drop j) s).1) := by
    intro d
    induction d with
    | zero =>
      intro j s hj hw hb
      have : j = g.length := by omega
      subst this
      rw [loopM_eq]
      simp only [lp_spec_EncodeTones_40, m_spec_EncodeTones_40]
      rw [if_neg (by simp), List.drop_length]
      rfl
    | succ d ih =>
      intro j s hj hw hb
      have hj' : j < g.length := by omega
      rw [loopM_eq]
      simp only [lp_spec_EncodeTones_40, m_spec_EncodeTones_40]
      rw [if_pos (by simp; omega), rd_eq hj']
      simp only [Option.bind_some]
      have hp := spec_put 4 (wr .u64 g[j]) s hw (by omega) (by omega)
      rw [show ((4 : Nat) : Int) = 4 from rfl] at hp
      rw [hp]
      simp only [Option.bind_some]
      rw [w64_succ (by omega), List.drop_eq_getElem_cons hj']
      exact ih (j + 1) (putS 4 (wr .u64 g[j]) s) (by omega) (putS_wb _ _ _ hw (by omega)) (by rw [putS_n]; omega)
  have := key g.length 0 s (by omega) hw (by omega)
  rw [show (((0 : Nat) : Int)) = 0 from rfl] at this
  simpa using this

theorem spec_best (hi : i < t.slots.length) (hl : RightS t.slots[i]) (b : Bool) (n : Int) (o : List Int) :
    loopM (lp_spec_EncodeTones_59 (i : Int) t b n o) (0, 1) = some ((bestS t.slots[i] 16 : Nat) : Int) := by
  have := loopM_fun (b := lp_spec_EncodeTones_59 (i : Int) t b n o) (fun j (s : Int) => (s, ((j + 1 : Nat) : Int))) 16 (fun j => ((bestS t.slots[i] j : Nat) : Int)) (e := ((bestS t.slots[i] 16 : Nat) : Int)) ?_ ?_
  · exact this
  · intro j hj
    have hb := bestS_le t.slots[i] j
    simp only [lp_spec_EncodeTones_59, m_spec_EncodeTones_59]
    rw [if_pos (by simp; omega), rd_eq hi]
    simp only [Option.bind_some]
    rw [spec_cost (by omega) hl.2 hl.1, spec_cost (by omega) hl.2 hl.1]
    simp only [Option.bind_some]
    rw [w64_succ (by omega)]
    simp only [bestS]
    by_cases hc : costS (j + 1) t.slots[i] < costS (bestS t.slots[i] j) t.slots[i]
    · rw [if_pos (by simp; omega), if_pos hc]
    · rw [if_neg (by simp; omega), if_neg hc]
  · simp only [lp_spec_EncodeTones_59, m_spec_EncodeTones_59]
    rw [if_neg (by simp)]

theorem spec_slot (k : Nat) (l : List Int) (s : BS) (hw : WB s) (hk : k ≤ 16) (hl : RightS l) (hn : s.2 + 36000000 ≤ 35184372088832) :
    loopM (lp_spec_EncodeTones_79 (k : Int) t (i : Int) l) (0, true, (s.2 : Int), s.1) = some (true, (((slotS k l s).2 : Nat) : Int), (slotS k l s).1) := by
  have key : ∀ (d j : Nat) (s : BS), j + d = l.length → WB s → s.2 + (d + 1) * 2097168 + 2 ≤ 35184372088832 → loopM (lp_spec_EncodeTones_79 (k : Int) t (i : Int) l) ((j : Int), true, (s.2 : Int), s.1) = some (true, (((slotS k (l.drop j) s).2 : Nat) : Int), (slotS k (l.drop j) s).1) := by
    intro d
    induction d with
    | zero =>
      intro j s hj hw hb
      have : j = l.length := by omega
      subst this
      rw [loopM_eq]
      simp only [lp_spec_EncodeTones_79, m_spec_EncodeTones_79]
      rw [if_neg (by simp), List.drop_length]
      rfl
    | succ d ih =>
      intro j s hj hw hb
      have hj' : j < l.length := by omega
      have hx := hl.2 l[j] (by simp)
      have hq := quoS_le (k := k) hx.1 hx.2
      rw [loopM_eq]
      simp only [lp_spec_EncodeTones_79, m_spec_EncodeTones_79]
      rw [if_pos (by simp; omega), rd_eq hj']
      simp only [Option.bind_some]
      rw [spec_rice hw hk hx.1 hx.2 (by omega)]
      simp only [Option.bind_some]
      have hl16 := hl.1
      rw [w64_succ (by omega), List.drop_eq_getElem_cons hj']
      exact ih (j + 1) (riceS k l[j] s) (by omega) (riceS_wb hw hk hx.1 hx.2 (by omega)) (by rw [riceS_n]; omega)
  have := key l.length 0 s (by omega) hw (by rw [hl.1]; omega)
  rw [show (((0 : Nat) : Int)) = 0 from rfl] at this
  simpa using this

theorem spec_one (s : BS) (hi : i < t.slots.length) (hgl : t.grades.length = t.slots.length) (hl : RightS t.slots[i]) (hg : (t.grades[i]'(by omega)).length = 8) (hw : WB s) (hn : s.2 + 40000000 ≤ 35184372088832) (hsl : t.slots.length ≤ 1000) :
    m_spec_EncodeTones_25 t (i : Int) true (s.2 : Int) s.1 = some (.inl (((i + 1 : Nat) : Int), true, (((oneS (t.grades[i]'(by omega)) t.slots[i] s).2 : Nat) : Int), (oneS (t.grades[i]'(by omega)) t.slots[i] s).1)) := by
  have hb := bestS_le t.slots[i] 16
  have hgw := gradesS_wb (t.grades[i]'(by omega)) s hw (by omega)
  have hgn := gradesS_n (t.grades[i]'(by omega)) s
  have hp := spec_put 5 ((bestS t.slots[i] 16 : Nat) : Int) (gradesS (t.grades[i]'(by omega)) s) hgw (by omega) (by omega)
  have hpn := putS_n 5 ((bestS t.slots[i] 16 : Nat) : Int) (gradesS (t.grades[i]'(by omega)) s)
  rw [show ((5 : Nat) : Int) = 5 from rfl] at hp
  unfold m_spec_EncodeTones_25
  rw [if_pos (by simp; omega), rd_eq (by omega)]
  simp only [Option.bind_some]
  rw [spec_grades t i _ s hw hg (by omega)]
  simp only [Option.bind_some, m_spec_EncodeTones_52]
  rw [spec_best t i hi hl]
  simp only [Option.bind_some, m_spec_EncodeTones_73]
  rw [wu64_id (x := ((bestS t.slots[i] 16 : Nat) : Int)) (by omega) (by omega)]
  rw [hp]
  simp only [Option.bind_some]
  rw [rd_eq hi]
  simp only [Option.bind_some]
  rw [spec_slot t i (bestS t.slots[i] 16) t.slots[i] _ (putS_wb _ _ _ hgw (by omega)) (by omega) hl (by omega)]
  simp only [Option.bind_some, m_spec_EncodeTones_91]
  rw [w64_succ (by omega)]
  rfl
end

def RightT (t : S_Tones) : Prop := t.slots.length ≤ 252 ∧ t.grades.length = t.slots.length ∧ (∀ l ∈ t.slots, RightS l) ∧ (∀ g ∈ t.grades, g.length = 8)

theorem spec_all (t : S_Tones) (ht : RightT t) (s : BS) (hw : WB s) (hn : s.2 ≤ 1000) :
    loopM (lp_spec_EncodeTones_25 t) (0, true, (s.2 : Int), s.1) = some (true, (((allS t.grades t.slots s).2 : Nat) : Int), (allS t.grades t.slots s).1) ∧ WB (allS t.grades t.slots s) := by
  obtain ⟨h1, h2, h3, h4⟩ := ht
  have key : ∀ (d i : Nat) (s : BS), i + d = t.slots.length → WB s → s.2 + d * 40000000 ≤ 20000000000 → loopM (lp_spec_EncodeTones_25 t) ((i : Int), true, (s.2 : Int), s.1) = some (true, (((allS (t.grades.drop i) (t.slots.drop i) s).2 : Nat) : Int), (allS (t.grades.drop i) (t.slots.drop i) s).1) ∧ WB (allS (t.grades.drop i) (t.slots.drop i) s) := by
    intro d
    induction d with
    | zero =>
      intro i s hi hw hb
      have : i = t.slots.length := by omega
      subst this
      rw [loopM_eq]
      simp only [lp_spec_EncodeTones_25, m_spec_EncodeTones_25]
      rw [if_neg (by simp), List.drop_length]
      have e : allS (List.drop t.slots.length t.grades) [] s = s := by cases List.drop t.slots.length t.grades <;> rfl
      rw [e]
      exact ⟨rfl, hw⟩
    | succ d ih =>
      intro i s hi hw hb
      have hi' : i < t.slots.length := by omega
      have hg' : i < t.grades.length := by omega
      have hl := h3 t.slots[i] (by simp)
      have hg := h4 t.grades[i] (by simp)
      have hon := oneS_n s hg hl
      rw [loopM_eq]
      simp only [lp_spec_EncodeTones_25]
      rw [spec_one t i s hi' h2 hl hg hw (by omega) (by omega)]
      rw [List.drop_eq_getElem_cons hi', List.drop_eq_getElem_cons hg']
      exact ih (i + 1) (oneS t.grades[i] t.slots[i] s) (by omega) (oneS_wb hg hl hw (by omega)) (by omega)
  have := key t.slots.length 0 s (by omega) hw (by omega)
  rw [show (((0 : Nat) : Int)) = 0 from rfl] at this
  simpa using this
end Go.Proofs.V

/- The plain side of EncodeTones: the program, and the law. -/
set_option linter.unusedSimpArgs false
set_option linter.unusedVariables false
namespace Go.Proofs.V
open Go

section
variable (t : S_Tones) (i : Nat)

theorem impl_grades (x : List Int) (g : List Int) (s : BS) (hw : WB s) (hg : g.length = 8) (hn : s.2 + 32 ≤ 35184372088832) :
    loopM (lp_impl_EncodeTones_57 x t (i : Int) g) (0, (s.2 : Int), s.1) = some ((((gradesS g s).2 : Nat) : Int), (gradesS g s).1) := by
  have key : ∀ (d j : Nat) (s : BS), j + d = g.length → WB s → s.2 + 4 * d ≤ 35184372088832 → loopM (lp_impl_EncodeTones_57 x t (i : Int) g) ((j : Int), (s.2 : Int), s.1) = some ((((gradesS (g.drop j) s).2 : Nat) : Int), (gradesS (g.drop j) s).1) := by
    intro d
    induction d with
    | zero =>
      intro j s hj hw hb
      have : j = g.length := by omega
      subst this
      rw [loopM_eq]
      simp only [lp_impl_EncodeTones_57, m_impl_EncodeTones_57]
      rw [if_neg (by simp), List.drop_length]
      rfl
    | succ d ih =>
      intro j s hj hw hb
      have hj' : j < g.length := by omega
      rw [loopM_eq]
      simp only [lp_impl_EncodeTones_57, m_impl_EncodeTones_57]
      rw [if_pos (by simp; omega), rd_eq hj']
      simp only [Option.bind_some]
      have hp := impl_put 4 (wr .u64 g[j]) s hw (by omega) (by omega)
      rw [show ((4 : Nat) : Int) = 4 from rfl] at hp
      rw [hp]
      simp only [Option.bind_some]
      rw [w64_succ (by omega), List.drop_eq_getElem_cons hj']
      exact ih (j + 1) (putS 4 (wr .u64 g[j]) s) (by omega) (putS_wb _ _ _ hw (by omega)) (by rw [putS_n]; omega)
  have := key g.length 0 s (by omega) hw (by omega)
  rw [show (((0 : Nat) : Int)) = 0 from rfl] at this
  simpa using this

def lowS (l : List Int) : Nat → Int × Int
  | 0 => (0, -1)
  | k + 1 => (((bestS l k : Nat) : Int), ((5 + costS (bestS l k) l : Nat) : Int))

theorem impl_try (l : List Int) (hl : RightS l) (n : Int) (o : List Int) (a b : Int) (k : Nat) (hk : k ≤ 16) :
    m_impl_EncodeTones_76 l t (i : Int) n o a b (k : Int) = if b < 0 ∨ ((5 + costS k l : Nat) : Int) < b then some (.inl ((k : Int), ((5 + costS k l : Nat) : Int), ((k + 1 : Nat) : Int))) else some (.inl (a, b, ((k + 1 : Nat) : Int))) := by
  unfold m_impl_EncodeTones_76
  rw [if_pos (by simp; omega), impl_cost hk hl.2 hl.1]
  simp only [Option.bind_some, m_impl_EncodeTones_88]
  rw [w64_succ (by omega)]
  by_cases h1 : b < 0
  · rw [if_pos (by simpa using h1), if_pos trivial, if_pos (Or.inl h1)]
  · rw [if_neg (by simpa using h1)]
    by_cases h2 : ((5 + costS k l : Nat) : Int) < b
    · rw [if_pos (decide_eq_true h2), if_pos (Or.inr h2)]
    · rw [if_neg (by simpa using h2), if_neg (by omega)]

theorem impl_best (l : List Int) (hl : RightS l) (n : Int) (o : List Int) :
    loopM (lp_impl_EncodeTones_76 l t (i : Int) n o) (0, -1, 0) = some ((bestS l 16 : Nat) : Int) := by
  have := loopM_fun (b := lp_impl_EncodeTones_76 l t (i : Int) n o) (fun j (s : Int × Int) => (s.1, s.2, (j : Int))) 17 (lowS l) (e := ((bestS l 16 : Nat) : Int)) ?_ ?_
  · exact this
  · intro j hj
    have hm := impl_try t i l hl n o (lowS l j).1 (lowS l j).2 j (by omega)
    refine hm.trans ?_
    cases j with
    | zero =>
      exact if_pos (Or.inl (show (lowS l 0).2 < 0 from (by decide : (-1 : Int) < 0)))
    | succ j =>
      by_cases hc : costS (j + 1) l < costS (bestS l j) l
      · refine (if_pos ?_).trans ?_
        · simp only [lowS]; omega
        · simp only [lowS, bestS]; rw [if_pos hc]
      · refine (if_neg ?_).trans ?_
        · simp only [lowS]; omega
        · simp only [lowS, bestS]; rw [if_neg hc]
  · simp only [lp_impl_EncodeTones_76, m_impl_EncodeTones_76]
    rw [if_neg (by simp)]
    rfl

theorem impl_slot (k : Nat) (l : List Int) (s : BS) (hw : WB s) (hk : k ≤ 16) (hl : RightS l) (hn : s.2 + 36000000 ≤ 35184372088832) :
    loopM (lp_impl_EncodeTones_98 (k : Int) t (i : Int) l) (0, (s.2 : Int), s.1) = some ((((slotS k l s).2 : Nat) : Int), (slotS k l s).1) := by
  have key : ∀ (d j : Nat) (s : BS), j + d = l.length → WB s → s.2 + (d + 1) * 2097168 + 2 ≤ 35184372088832 → loopM (lp_impl_EncodeTones_98 (k : Int) t (i : Int) l) ((j : Int), (s.2 : Int), s.1) = some ((((slotS k (l.drop j) s).2 : Nat) : Int), (slotS k (l.drop j) s).1) := by
    intro d
    induction d with
    | zero =>
      intro j s hj hw hb
      have : j = l.length := by omega
      subst this
      rw [loopM_eq]
      simp only [lp_impl_EncodeTones_98, m_impl_EncodeTones_98]
      rw [if_neg (by simp), List.drop_length]
      rfl
    | succ d ih =>
      intro j s hj hw hb
      have hj' : j < l.length := by omega
      have hx := hl.2 l[j] (by simp)
      have hq := quoS_le (k := k) hx.1 hx.2
      rw [loopM_eq]
      simp only [lp_impl_EncodeTones_98, m_impl_EncodeTones_98]
      rw [if_pos (by simp; omega), rd_eq hj']
      simp only [Option.bind_some]
      rw [impl_rice hw hk hx.1 hx.2 (by omega)]
      simp only [Option.bind_some]
      have hl16 := hl.1
      rw [w64_succ (by omega), List.drop_eq_getElem_cons hj']
      exact ih (j + 1) (riceS k l[j] s) (by omega) (riceS_wb hw hk hx.1 hx.2 (by omega)) (by rw [riceS_n]; omega)
  have := key l.length 0 s (by omega) hw (by rw [hl.1]; omega)
  rw [show (((0 : Nat) : Int)) = 0 from rfl] at this
  simpa using this

theorem impl_one (s : BS) (hi : i < t.slots.length) (hgl : t.grades.length = t.slots.length) (hl : RightS t.slots[i]) (hg : (t.grades[i]'(by omega)).length = 8) (hw : WB s) (hn : s.2 + 40000000 ≤ 35184372088832) (hsl : t.slots.length ≤ 1000) :
    m_impl_EncodeTones_42 t (i : Int) (s.2 : Int) s.1 = some (.inl (((i + 1 : Nat) : Int), (((oneS (t.grades[i]'(by omega)) t.slots[i] s).2 : Nat) : Int), (oneS (t.grades[i]'(by omega)) t.slots[i] s).1)) := by
  have hb := bestS_le t.slots[i] 16
  have hgw := gradesS_wb (t.grades[i]'(by omega)) s hw (by omega)
  have hgn := gradesS_n (t.grades[i]'(by omega)) s
  have hp := impl_put 5 ((bestS t.slots[i] 16 : Nat) : Int) (gradesS (t.grades[i]'(by omega)) s) hgw (by omega) (by omega)
  have hpn := putS_n 5 ((bestS t.slots[i] 16 : Nat) : Int) (gradesS (t.grades[i]'(by omega)) s)
  rw [show ((5 : Nat) : Int) = 5 from rfl] at hp
  unfold m_impl_EncodeTones_42
  rw [if_pos (by simp; omega), rd_eq (by omega)]
  simp only [Option.bind_some]
  rw [rd_eq (by omega)]
  simp only [Option.bind_some]
  rw [impl_grades t i _ _ s hw hg (by omega)]
  simp only [Option.bind_some, m_impl_EncodeTones_69]
  rw [impl_best t i _ hl]
  simp only [Option.bind_some, m_impl_EncodeTones_92]
  rw [wu64_id (x := ((bestS t.slots[i] 16 : Nat) : Int)) (by omega) (by omega)]
  rw [hp]
  simp only [Option.bind_some]
  rw [impl_slot t i (bestS t.slots[i] 16) t.slots[i] _ (putS_wb _ _ _ hgw (by omega)) (by omega) hl (by omega)]
  simp only [Option.bind_some, m_impl_EncodeTones_110]
  rw [w64_succ (by omega)]
  rfl
end

theorem impl_all (t : S_Tones) (ht : RightT t) (s : BS) (hw : WB s) (hn : s.2 ≤ 1000) :
    loopM (lp_impl_EncodeTones_42 t) (0, (s.2 : Int), s.1) = some ((((allS t.grades t.slots s).2 : Nat) : Int), (allS t.grades t.slots s).1) := by
  obtain ⟨h1, h2, h3, h4⟩ := ht
  have key : ∀ (d i : Nat) (s : BS), i + d = t.slots.length → WB s → s.2 + d * 40000000 ≤ 20000000000 → loopM (lp_impl_EncodeTones_42 t) ((i : Int), (s.2 : Int), s.1) = some ((((allS (t.grades.drop i) (t.slots.drop i) s).2 : Nat) : Int), (allS (t.grades.drop i) (t.slots.drop i) s).1) := by
    intro d
    induction d with
    | zero =>
      intro i s hi hw hb
      have : i = t.slots.length := by omega
      subst this
      rw [loopM_eq]
      simp only [lp_impl_EncodeTones_42, m_impl_EncodeTones_42]
      rw [if_neg (by simp), List.drop_length]
      have e : allS (List.drop t.slots.length t.grades) [] s = s := by cases List.drop t.slots.length t.grades <;> rfl
      rw [e]
    | succ d ih =>
      intro i s hi hw hb
      have hi' : i < t.slots.length := by omega
      have hg' : i < t.grades.length := by omega
      have hl := h3 t.slots[i] (by simp)
      have hg := h4 t.grades[i] (by simp)
      have hon := oneS_n s hg hl
      rw [loopM_eq]
      simp only [lp_impl_EncodeTones_42]
      rw [impl_one t i s hi' h2 hl hg hw (by omega) (by omega)]
      rw [List.drop_eq_getElem_cons hi', List.drop_eq_getElem_cons hg']
      exact ih (i + 1) (oneS t.grades[i] t.slots[i] s) (by omega) (oneS_wb hg hl hw (by omega)) (by omega)
  have := key t.slots.length 0 s (by omega) hw (by omega)
  rw [show (((0 : Nat) : Int)) = 0 from rfl] at this
  simpa using this

-- ---------------------------------------------------------------- behind four bytes
def hd4 : List Int := [84, 79, 78, 49]
def sh (s : BS) : BS := (hd4 ++ s.1, s.2 + 32)
theorem sh_grow (s : BS) : grow (sh s) = hd4 ++ grow s := by
  unfold grow sh
  simp only
  by_cases h : s.2 % 8 = 0
  · rw [if_pos (by omega), if_pos h, List.append_assoc]
  · rw [if_neg (by omega), if_neg h]
theorem sh_bit (v : Bool) (s : BS) : bitS v (sh s) = sh (bitS v s) := by
  have h1 : (sh s).2 / 8 = s.2 / 8 + 4 := by simp only [sh]; omega
  have h2 : (sh s).2 % 8 = s.2 % 8 := by simp only [sh]; omega
  unfold bitS
  rw [sh_grow, h1, h2]
  cases v with
  | false => simp [sh]
  | true =>
    have e1 : (hd4 ++ grow s).getD (s.2 / 8 + 4) 0 = (grow s).getD (s.2 / 8) 0 := by
      simp [List.getD_eq_getElem?_getD, List.getElem?_append, hd4]
    have e2 : ∀ x, (hd4 ++ grow s).set (s.2 / 8 + 4) x = hd4 ++ (grow s).set (s.2 / 8) x := fun x => by simp [hd4]
    simp only [if_true, e1, e2, sh]
theorem sh_put : ∀ (k : Nat) (v : Int) (s : BS), putS k v (sh s) = sh (putS k v s)
  | 0, v, s => rfl
  | k + 1, v, s => by simp only [putS, sh_bit, sh_put k]
theorem sh_zeros : ∀ (k : Nat) (s : BS), zerosS k (sh s) = sh (zerosS k s)
  | 0, s => rfl
  | k + 1, s => by simp only [zerosS, sh_bit, sh_zeros k]
theorem sh_rice (k : Nat) (n : Int) (s : BS) : riceS k n (sh s) = sh (riceS k n s) := by simp only [riceS, sh_zeros, sh_bit, sh_put]
theorem sh_grades : ∀ (g : List Int) (s : BS), gradesS g (sh s) = sh (gradesS g s)
  | [], s => rfl
  | x :: g, s => by simp only [gradesS, sh_put, sh_grades g]
theorem sh_slot (k : Nat) : ∀ (g : List Int) (s : BS), slotS k g (sh s) = sh (slotS k g s)
  | [], s => rfl
  | x :: g, s => by simp only [slotS, sh_rice, sh_slot k g]
theorem sh_one (g l : List Int) (s : BS) : oneS g l (sh s) = sh (oneS g l s) := by simp only [oneS, sh_grades, sh_put, sh_slot]
theorem sh_all : ∀ (g l : List (List Int)) (s : BS), allS g l (sh s) = sh (allS g l s)
  | [], l, s => by simp [allS]
  | x :: g, [], s => by simp [allS]
  | x :: g, y :: l, s => by simp only [allS, sh_one, sh_all g l]

-- ---------------------------------------------------------------- the whole
def headS (t : S_Tones) (s : BS) : BS := putS 4 0 (putS 12 (wr .u64 t.length) (putS 4 (wr .u64 t.quality) (putS 20 (wr .u64 t.rate) s)))
def encS (t : S_Tones) : List Int :=
  if goodB t then (if ((hd4 ++ (allS t.grades t.slots (headS t ([], 0))).1).length : Int) > 60000 then [] else hd4 ++ (allS t.grades t.slots (headS t ([], 0))).1) else []

theorem good_right {t : S_Tones} (hg : goodB t = true) : RightT t := by
  simp only [goodB, Bool.and_eq_true, decide_eq_true_eq, headB, List.all_eq_true, List.mem_range] at hg
  obtain ⟨⟨⟨h1, h2⟩, h3⟩, h4⟩ := hg
  refine ⟨by omega, h3, fun l hl => ?_, fun g hgm => ?_⟩
  · obtain ⟨i, hi, rfl⟩ := List.getElem_of_mem hl
    have := h4 i hi
    simp only [slotB, List.getD_eq_getElem?_getD, List.getElem?_eq_getElem hi, Option.getD_some, Bool.and_eq_true, beq_iff_eq] at this
    refine ⟨this.1.1.2, fun x hx => ?_⟩
    have h5 := this.1.1.1
    simp only [inB, List.all_eq_true, Bool.and_eq_true, decide_eq_true_eq] at h5
    exact h5 x hx
  · obtain ⟨i, hi, rfl⟩ := List.getElem_of_mem hgm
    have := h4 i (by omega)
    simp only [slotB, List.getD_eq_getElem?_getD, List.getElem?_eq_getElem hi, Option.getD_some, Bool.and_eq_true, beq_iff_eq] at this
    exact this.2

theorem wb0 : WB ([], 0) := ⟨rfl, by simp, by simp⟩
theorem head_wb (t : S_Tones) {s : BS} (h : WB s) (hn : s.2 ≤ 100) : WB (headS t s) ∧ (headS t s).2 = s.2 + 40 := by
  have e1 := putS_n 20 (wr .u64 t.rate) s
  have e2 := putS_n 4 (wr .u64 t.quality) (putS 20 (wr .u64 t.rate) s)
  have e3 := putS_n 12 (wr .u64 t.length) (putS 4 (wr .u64 t.quality) (putS 20 (wr .u64 t.rate) s))
  have e4 := putS_n 4 0 (putS 12 (wr .u64 t.length) (putS 4 (wr .u64 t.quality) (putS 20 (wr .u64 t.rate) s)))
  unfold headS
  exact ⟨putS_wb _ _ _ (putS_wb _ _ _ (putS_wb _ _ _ (putS_wb _ _ _ h (by omega)) (by omega)) (by omega)) (by omega), by omega⟩

theorem spec_enc (t : S_Tones) (hs : Small t) : m_spec_EncodeTones t = some (encS t) := by
  simp only [m_spec_EncodeTones, m_spec_EncodeTones_0]
  rw [spec_good t hs]
  simp only [Option.bind_some]
  unfold encS
  cases hg : goodB t with
  | false => rfl
  | true =>
    have hr := good_right hg
    have hw0 := wb0
    simp only [if_true]
    have w1 := putS_wb 20 (wr .u64 t.rate) ([], 0) hw0 (by simp)
    have n1 := putS_n 20 (wr .u64 t.rate) ([], 0)
    have w2 := putS_wb 4 (wr .u64 t.quality) _ w1 (by omega)
    have n2 := putS_n 4 (wr .u64 t.quality) (putS 20 (wr .u64 t.rate) ([], 0))
    have w3 := putS_wb 12 (wr .u64 t.length) _ w2 (by omega)
    have n3 := putS_n 12 (wr .u64 t.length) (putS 4 (wr .u64 t.quality) (putS 20 (wr .u64 t.rate) ([], 0)))
    have w4 := putS_wb 4 0 _ w3 (by omega)
    have n4 := putS_n 4 0 (putS 12 (wr .u64 t.length) (putS 4 (wr .u64 t.quality) (putS 20 (wr .u64 t.rate) ([], 0))))
    simp only at n1
    have p1 : m_spec_l1Sink_put (S_l1Sink.mk true [] 0) 20 (wr .u64 t.rate) = some (sinkOf (putS 20 (wr .u64 t.rate) ([], 0))) := spec_put 20 (wr .u64 t.rate) ([], 0) hw0 (by omega) (by simp)
    have p2 : m_spec_l1Sink_put (sinkOf (putS 20 (wr .u64 t.rate) ([], 0))) 4 (wr .u64 t.quality) = _ := spec_put 4 (wr .u64 t.quality) _ w1 (by omega) (by omega)
    have p3 : m_spec_l1Sink_put (sinkOf (putS 4 (wr .u64 t.quality) (putS 20 (wr .u64 t.rate) ([], 0)))) 12 (wr .u64 t.length) = _ := spec_put 12 (wr .u64 t.length) _ w2 (by omega) (by omega)
    have p4 : m_spec_l1Sink_put (sinkOf (putS 12 (wr .u64 t.length) (putS 4 (wr .u64 t.quality) (putS 20 (wr .u64 t.rate) ([], 0))))) 4 0 = _ := spec_put 4 0 _ w3 (by omega) (by omega)
    rw [p1]
    simp only [Option.bind_some]
    rw [p2]
    simp only [Option.bind_some]
    rw [p3]
    simp only [Option.bind_some]
    rw [p4]
    simp only [Option.bind_some]
    obtain ⟨ha, hwa⟩ := spec_all t hr _ w4 (by omega)
    rw [ha]
    simp only [Option.bind_some, m_spec_EncodeTones_92]
    have hlen := hwa.1
    have hnn := hwa.2.2
    rw [ck_eq (by simp only [List.length_cons, List.length_nil]; omega)]
    simp only [Option.bind_some, headS, hd4, decide_eq_true_eq]
    split
    · rename_i h; exact congrArg some (if_pos h).symm
    · rename_i h; exact congrArg some (if_neg h).symm

theorem impl_enc (t : S_Tones) (hs : Small t) : m_impl_EncodeTones t = some (encS t) := by
  simp only [m_impl_EncodeTones, m_impl_EncodeTones_0]
  rw [impl_good t hs]
  simp only [Option.bind_some]
  unfold encS
  cases hg : goodB t with
  | false => rfl
  | true =>
    have hr := good_right hg
    simp only [if_true]
    -- the four bytes
    have b0 : WB (([] : List Int), 0) := wb0
    have e1 : putS 8 (wr .u64 84) ([], 0) = ([84], 8) := by kernel_rfl
    have e2 : putS 8 (wr .u64 79) ([84], 8) = ([84, 79], 16) := by kernel_rfl
    have e3 : putS 8 (wr .u64 78) ([84, 79], 16) = ([84, 79, 78], 24) := by kernel_rfl
    have e4 : putS 8 (wr .u64 49) ([84, 79, 78], 24) = ([84, 79, 78, 49], 32) := by kernel_rfl
    have w1 : WB (([84] : List Int), 8) := by rw [← e1]; exact putS_wb _ _ _ b0 (by simp)
    have w2 : WB (([84, 79] : List Int), 16) := by rw [← e2]; exact putS_wb _ _ _ w1 (by simp)
    have w3 : WB (([84, 79, 78] : List Int), 24) := by rw [← e3]; exact putS_wb _ _ _ w2 (by simp)
    have w4 : WB (([84, 79, 78, 49] : List Int), 32) := by rw [← e4]; exact putS_wb _ _ _ w3 (by simp)
    have p1 : m_impl_zbits_put (S_zbits.mk [] 0) 8 (wr .u64 84) = some (S_zbits.mk [84] 8) := by
      have := impl_put 8 (wr .u64 84) ([], 0) b0 (by omega) (by simp)
      rw [e1] at this
      exact this
    have p2 : m_impl_zbits_put (S_zbits.mk [84] 8) 8 (wr .u64 79) = some (S_zbits.mk [84, 79] 16) := by
      have := impl_put 8 (wr .u64 79) ([84], 8) w1 (by omega) (by simp)
      rw [e2] at this
      exact this
    have p3 : m_impl_zbits_put (S_zbits.mk [84, 79] 16) 8 (wr .u64 78) = some (S_zbits.mk [84, 79, 78] 24) := by
      have := impl_put 8 (wr .u64 78) ([84, 79], 16) w2 (by omega) (by simp)
      rw [e3] at this
      exact this
    have p4 : m_impl_zbits_put (S_zbits.mk [84, 79, 78] 24) 8 (wr .u64 49) = some (S_zbits.mk [84, 79, 78, 49] 32) := by
      have := impl_put 8 (wr .u64 49) ([84, 79, 78], 24) w3 (by omega) (by simp)
      rw [e4] at this
      exact this
    have q : loopM (lp_impl_EncodeTones_17 t) (0, 0, [84, 79, 78, 49], []) = some (32, [84, 79, 78, 49]) := by
      have s0 : lp_impl_EncodeTones_17 t (0, 0, [84, 79, 78, 49], []) = some (.inl (1, 8, [84, 79, 78, 49], [84])) := by
        simp only [lp_impl_EncodeTones_17, m_impl_EncodeTones_17]
        rw [if_pos (by decide), show rd ([84, 79, 78, 49] : List Int) 0 = some 84 from rfl]
        simp only [Option.bind_some]
        rw [p1]
        rfl
      have s1 : lp_impl_EncodeTones_17 t (1, 8, [84, 79, 78, 49], [84]) = some (.inl (2, 16, [84, 79, 78, 49], [84, 79])) := by
        simp only [lp_impl_EncodeTones_17, m_impl_EncodeTones_17]
        rw [if_pos (by decide), show rd ([84, 79, 78, 49] : List Int) 1 = some 79 from rfl]
        simp only [Option.bind_some]
        rw [p2]
        rfl
      have s2 : lp_impl_EncodeTones_17 t (2, 16, [84, 79, 78, 49], [84, 79]) = some (.inl (3, 24, [84, 79, 78, 49], [84, 79, 78])) := by
        simp only [lp_impl_EncodeTones_17, m_impl_EncodeTones_17]
        rw [if_pos (by decide), show rd ([84, 79, 78, 49] : List Int) 2 = some 78 from rfl]
        simp only [Option.bind_some]
        rw [p3]
        rfl
      have s3 : lp_impl_EncodeTones_17 t (3, 24, [84, 79, 78, 49], [84, 79, 78]) = some (.inl (4, 32, [84, 79, 78, 49], [84, 79, 78, 49])) := by
        simp only [lp_impl_EncodeTones_17, m_impl_EncodeTones_17]
        rw [if_pos (by decide), show rd ([84, 79, 78, 49] : List Int) 3 = some 49 from rfl]
        simp only [Option.bind_some]
        rw [p4]
        rfl
      have s4 : lp_impl_EncodeTones_17 t (4, 32, [84, 79, 78, 49], [84, 79, 78, 49]) = some (.inr (32, [84, 79, 78, 49])) := by
        simp only [lp_impl_EncodeTones_17, m_impl_EncodeTones_17]
        rw [if_neg (by decide)]
      rw [loopM_eq, s0]
      simp only
      rw [loopM_eq, s1]
      simp only
      rw [loopM_eq, s2]
      simp only
      rw [loopM_eq, s3]
      simp only
      rw [loopM_eq, s4]
    rw [q]
    simp only [Option.bind_some, m_impl_EncodeTones_29]
    have v1 := putS_wb 20 (wr .u64 t.rate) _ w4 (by simp)
    have n1 := putS_n 20 (wr .u64 t.rate) (([84, 79, 78, 49] : List Int), 32)
    simp only at n1
    have v2 := putS_wb 4 (wr .u64 t.quality) _ v1 (by omega)
    have n2 := putS_n 4 (wr .u64 t.quality) (putS 20 (wr .u64 t.rate) (([84, 79, 78, 49] : List Int), 32))
    have v3 := putS_wb 12 (wr .u64 t.length) _ v2 (by omega)
    have n3 := putS_n 12 (wr .u64 t.length) (putS 4 (wr .u64 t.quality) (putS 20 (wr .u64 t.rate) (([84, 79, 78, 49] : List Int), 32)))
    have v4 := putS_wb 4 0 _ v3 (by omega)
    have n4 := putS_n 4 0 (putS 12 (wr .u64 t.length) (putS 4 (wr .u64 t.quality) (putS 20 (wr .u64 t.rate) (([84, 79, 78, 49] : List Int), 32))))
    have r1 : m_impl_zbits_put (S_zbits.mk [84, 79, 78, 49] 32) 20 (wr .u64 t.rate) = _ := impl_put 20 (wr .u64 t.rate) (([84, 79, 78, 49] : List Int), 32) w4 (by omega) (by simp)
    have r2 : m_impl_zbits_put (zOf (putS 20 (wr .u64 t.rate) (([84, 79, 78, 49] : List Int), 32))) 4 (wr .u64 t.quality) = _ := impl_put 4 (wr .u64 t.quality) _ v1 (by omega) (by omega)
    have r3 : m_impl_zbits_put (zOf (putS 4 (wr .u64 t.quality) (putS 20 (wr .u64 t.rate) (([84, 79, 78, 49] : List Int), 32)))) 12 (wr .u64 t.length) = _ := impl_put 12 (wr .u64 t.length) _ v2 (by omega) (by omega)
    have r4 : m_impl_zbits_put (zOf (putS 12 (wr .u64 t.length) (putS 4 (wr .u64 t.quality) (putS 20 (wr .u64 t.rate) (([84, 79, 78, 49] : List Int), 32))))) 4 0 = _ := impl_put 4 0 _ v3 (by omega) (by omega)
    rw [r1]
    simp only [Option.bind_some]
    rw [r2]
    simp only [Option.bind_some]
    rw [r3]
    simp only [Option.bind_some]
    rw [r4]
    simp only [Option.bind_some]
    rw [impl_all t hr _ v4 (by omega)]
    simp only [Option.bind_some, m_impl_EncodeTones_111]
    have hsh : (([84, 79, 78, 49] : List Int), 32) = sh ([], 0) := rfl
    have hX : allS t.grades t.slots (putS 4 0 (putS 12 (wr .u64 t.length) (putS 4 (wr .u64 t.quality) (putS 20 (wr .u64 t.rate) (([84, 79, 78, 49] : List Int), 32))))) = sh (allS t.grades t.slots (headS t ([], 0))) := by
      rw [hsh]
      simp only [sh_put, sh_all, headS]
    rw [hX]
    by_cases h : (((sh (allS t.grades t.slots (headS t ([], 0)))).1.length : Int) > 60000)
    · exact (if_pos (decide_eq_true h)).trans (congrArg some (if_pos h).symm)
    · exact (if_neg (by simpa using h)).trans (congrArg some (if_neg h).symm)
end Go.Proofs.V

/- The plain law of EncodeTones. -/
set_option linter.unusedSimpArgs false
set_option linter.unusedVariables false
namespace Go.Proofs.V
open Go

theorem enc_len (t : S_Tones) : (encS t).length ≤ 60000 := by
  unfold encS
  split
  · split
    · simp
    · rename_i h; omega
  · simp

theorem szTones_some (t : S_Tones) (h1 : t.slots.length ≤ 9223372036854775807) (h2 : ∀ x ∈ t.slots, x.length ≤ 9223372036854775807) (h3 : t.grades.length ≤ 9223372036854775807) (h4 : ∀ x ∈ t.grades, x.length ≤ 9223372036854775807) :
    ∃ v, m_laws_szTones t 1048576 = some v ∧ (v < 0 ∨ 0 ≤ v ∧ Small t) := by
  simp only [m_laws_szTones, m_laws_szTones_0]
  obtain ⟨v, hv, hc⟩ := szIntSS_some t.slots 1048576 (by omega) (by omega) h1 h2
  rw [hv]
  simp only [Option.bind_some]
  rcases hc with hc | ⟨c1, c2, c3, c4⟩
  · exact ⟨-1, by rw [if_pos (by simpa using hc)], .inl (by omega)⟩
  · rw [if_neg (by simp; omega)]
    obtain ⟨v', hv', hc'⟩ := szIntSS_some t.grades v c1 c2 h3 h4
    rw [hv']
    simp only [Option.bind_some]
    rcases hc' with hc' | ⟨d1, d2, d3, d4⟩
    · exact ⟨-1, by rw [if_pos (by simpa using hc')], .inl (by omega)⟩
    · exact ⟨v', by rw [if_neg (by simp; omega)], .inr ⟨d1, c3, d3, c4, d4⟩⟩

theorem toTones_eq (t : S_Tones) (hs : Small t) : m_laws_toTones t = some t := by
  obtain ⟨h1, h2, h3, h4⟩ := hs
  simp only [m_laws_toTones, m_laws_toTones_0]
  rw [toIntSS_eq _ h1 h3]
  simp only [Option.bind_some]
  rw [toIntSS_eq _ h2 h4]
  rfl

theorem eqTones_self (t : S_Tones) (hs : Small t) : m_laws_eqTones t t = some true := by
  obtain ⟨h1, h2, h3, h4⟩ := hs
  simp only [m_laws_eqTones, m_laws_eqTones_0]
  rw [if_neg (by simp), if_neg (by simp), if_neg (by simp), eqIntSS_self _ (by omega) fun x hx => by have := h3 x hx; omega]
  simp only [Option.bind_some, if_true]
  rw [eqIntSS_self _ (by omega) fun x hx => by have := h4 x hx; omega]
  rfl

theorem markTones_some (t : S_Tones) (hs : Small t) : ∃ k : Nat, m_laws_markTones t 1 = some (k : Int) := by
  obtain ⟨h1, h2, h3, h4⟩ := hs
  simp only [m_laws_markTones, m_laws_markTones_0]
  have b1 : t.slots.length * 1048576 ≤ 1048576 * 1048576 := Nat.mul_le_mul_right _ h1
  have b2 : t.grades.length * 1048576 ≤ 1048576 * 1048576 := Nat.mul_le_mul_right _ h2
  obtain ⟨k1, l1, e1, e2, e3⟩ := markIntSS_some t.slots 1 1048576 h3 (by omega) (by omega)
  rw [show ((1 : Nat) : Int) = 1 from rfl] at e1
  rw [e1]
  simp only [Option.bind_some]
  rw [ck_eq e3]
  simp only [Option.bind_some]
  obtain ⟨k2, l2, f1, f2, f3⟩ := markIntSS_some t.grades k1 1048576 h4 (by omega) (by omega)
  rw [f1]
  simp only [Option.bind_some]
  rw [ck_eq f3]
  exact ⟨k2, rfl⟩

/-- the law, of any tones whose lists are no longer than lists can be -/
theorem plain_EncodeTones (t : S_Tones) (h1 : t.slots.length ≤ 9223372036854775807) (h2 : ∀ x ∈ t.slots, x.length ≤ 9223372036854775807) (h3 : t.grades.length ≤ 9223372036854775807) (h4 : ∀ x ∈ t.grades, x.length ≤ 9223372036854775807) :
    m_laws_FnExactEncodeTones t = some true := by
  simp only [m_laws_FnExactEncodeTones, m_laws_FnExactEncodeTones_0]
  obtain ⟨v, hv, hc⟩ := szTones_some t h1 h2 h3 h4
  rw [hv]
  simp only [Option.bind_some]
  rcases hc with hc | ⟨hc, hs⟩
  · rw [if_pos (by simpa using hc)]
  · rw [if_neg (by simp; omega), toTones_eq t hs]
    simp only [Option.bind_some]
    rw [spec_enc t hs]
    simp only [Option.bind_some]
    rw [impl_enc t hs]
    simp only [Option.bind_some]
    have hl := enc_len t
    rw [eqByteS_self _ (by omega)]
    simp only [Option.bind_some, if_true]
    rw [eqTones_self t hs]
    simp only [Option.bind_some, if_true]
    obtain ⟨k, hk⟩ := markTones_some t hs
    rw [hk]
    simp only [Option.bind_some]
    rw [if_neg (by simp)]
    have hm := markByteS_eq (encS t) 1 (by omega)
    rw [show ((1 : Nat) : Int) = 1 from rfl] at hm
    rw [hm]
    simp only [Option.bind_some]
    rw [ck_eq (by simp [bmarks])]
    simp only [Option.bind_some]
    have hh := heldByteS_eq (encS t).length 1 (by omega)
    rw [show ((1 : Nat) : Int) = 1 from rfl] at hh
    rw [hh]
    simp only [Option.bind_some]
    rw [if_neg (by simp; omega), if_neg (by simp)]
end Go.Proofs.V

set_option linter.unusedVariables false
set_option maxRecDepth 100000
namespace Go.Proofs.V
open Go
def rS_Tones (x : S_Tones) : List T := [.lit (.int .i64 x.rate), .lit (.int .i64 x.quality), .lit (.int .i64 x.length), .sl (x.slots.map (rL (rI .i64))), .sl (x.grades.map (rL (rI .i64)))]
def wfS_Tones (x : S_Tones) : Prop := inK .i64 x.rate ∧ inK .i64 x.quality ∧ inK .i64 x.length ∧ (x.slots.length ≤ maxLen ∧ ∀ y0 ∈ x.slots, (y0.length ≤ maxLen ∧ ∀ y1 ∈ y0, inK .i64 y1)) ∧ (x.grades.length ≤ maxLen ∧ ∀ y0 ∈ x.grades, (y0.length ≤ maxLen ∧ ∀ y1 ∈ y0, inK .i64 y1)) ∧ True
theorem dec_S_Tones : Dec [.int .i64, .int .i64, .int .i64, .sl [.sl [.int .i64]], .sl [.sl [.int .i64]]] rS_Tones wfS_Tones := by
  intro ts h
  obtain ⟨⟨a0, a1, a2, a3, a4, _⟩, rfl, w0, w1, w2, w3, w4, _⟩ := (dec_app (dec_int .i64) (dec_app (dec_int .i64) (dec_app (dec_int .i64) (dec_app (dec_sl (dec_sl (dec_int .i64))) (dec_app (dec_sl (dec_sl (dec_int .i64))) dec_nil))))) ts h
  exact ⟨⟨a0, a1, a2, a3, a4⟩, rfl, w0, w1, w2, w3, w4, trivial⟩
theorem all_fi : ∀ x ∈ tblL, funcIs Go.Proofs.Try.prog tbl x.1 x.2 = true := by
  simp only [tblL, List.forall_mem_cons]
  exact ⟨fi_laws_szIntS, fi_laws_szIntSS, fi_laws_szTones, fi_laws_toIntS, fi_laws_toIntSS, fi_laws_toTones, fi_spec_l11Head, fi_spec_l11Slots, fi_spec_l11All, fi_spec_GoodTones, fi_spec_l1Sink_bit, fi_spec_l1Sink_put, fi_spec_Fold, fi_spec_l11KeyCost, fi_spec_l1Sink_rice, fi_spec_EncodeTones, fi_impl_zrange, fi_impl_GoodTones, fi_impl_zbits_bit, fi_impl_zbits_put, fi_impl_Fold, fi_impl_zkeyCost, fi_impl_zbits_rice, fi_impl_EncodeTones, fi_laws_eqByteS, fi_laws_eqIntS, fi_laws_eqIntSS, fi_laws_eqTones, fi_laws_markIntS, fi_laws_markIntSS, fi_laws_markTones, fi_laws_markByteS, fi_laws_heldByteS, fi_laws_FnExactEncodeTones, fun _ h => by cases h⟩
theorem all_given : ∀ x ∈ tblL, x.2.given = false := by
  simp only [tblL, List.forall_mem_cons]
  exact ⟨rfl, rfl, rfl, rfl, rfl, rfl, rfl, rfl, rfl, rfl, rfl, rfl, rfl, rfl, rfl, rfl, rfl, rfl, rfl, rfl, rfl, rfl, rfl, rfl, rfl, rfl, rfl, rfl, rfl, rfl, rfl, rfl, rfl, rfl, fun _ h => by cases h⟩
theorem sound : ∀ n, FSound Go.Proofs.Try.prog tbl (vrun ext tbl n) := table_sound (fun _ => rfl) all_given all_fi ext
def lawPs : List (Bool × List Ty) := [(true, [.int .i64, .int .i64, .int .i64, .sl [.sl [.int .i64]], .sl [.sl [.int .i64]]])]
theorem pure_law : LawPure ext tbl 3 lawPs := by
  intro tss hl hw
  match tss, hl with
  | [t0], _ =>
    obtain ⟨x0, rfl, w0⟩ := dec_S_Tones t0 (hw 0 _ t0 rfl rfl)
    exact ok_laws_FnExactEncodeTones x0 true (plain_EncodeTones x0 w0.2.2.2.1.1 (fun x hx => (w0.2.2.2.1.2 x hx).1) w0.2.2.2.2.1.1 (fun x hx => (w0.2.2.2.2.1.2 x hx).1))
end Go.Proofs.V
