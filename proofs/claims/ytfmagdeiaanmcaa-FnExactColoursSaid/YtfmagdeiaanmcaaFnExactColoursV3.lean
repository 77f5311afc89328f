import Derived.Test.YtfmagdeiaanmcaaFnExactColoursV2
import Derived.Lib.IndexMore
import Derived.Lib.IndexLaws
import Derived.Test.YtfmagdeiaanmcaaProg
import Derived.KernelRfl
import Derived.Shelf.Small.Strs
import Derived.Shelf.LaysM
set_option linter.unusedSimpArgs false
set_option linter.unusedVariables false
set_option maxRecDepth 100000
namespace Go.Proofs.V
open Go
def inRg (hi x : Int) : Bool := decide (0 ≤ x ∧ x ≤ hi)
theorem rng_loop (l : List Int) (hl : l.length ≤ 1048576) (hi : Int) (b : Int → Option (Int ⊕ (Bool ⊕ Unit)))
    (hb : ∀ i, b i = if (decide (i < (l.length : Int))) then (rd l i).bind fun x => if (decide (x < 0)) then some (.inr (.inl false)) else if (decide (x > hi)) then some (.inr (.inl false)) else some (.inl (w64 (i + 1))) else some (.inr (.inr ()))) :
    loopM b 0 = some (bif l.all (inRg hi) then .inr () else .inl false) := by
  refine all_list (l := l) (q := inRg hi) (by omega) (fun i h => ?_) ?_
  · rw [hb, if_pos (by simp; omega), rd_eq h]
    simp only [Option.bind_some]
    generalize l[i] = x
    rw [w64_succ (by omega)]
    by_cases h1 : x < 0
    · have hk : inRg hi x = false := decide_eq_false (by omega)
      rw [hk, if_pos (by simpa using h1)]
      rfl
    · rw [if_neg (by simpa using h1)]
      by_cases h2 : x > hi
      · have hk : inRg hi x = false := decide_eq_false (by omega)
        rw [hk, if_pos (by simpa using h2)]
        rfl
      · have hk : inRg hi x = true := decide_eq_true (by omega)
        rw [hk, if_neg (by simpa using h2)]
        rfl
  · rw [hb, if_neg (by simp)]
theorem z_inR (l : List Int) (hl : l.length ≤ 1048576) (hi : Int) : m_impl_inRange l hi = some (l.all (inRg hi)) := by
  simp only [m_impl_inRange, m_impl_inRange_0]
  rw [rng_loop l hl hi (lp_impl_inRange_7 hi l) (fun i => rfl)]
  cases l.all (inRg hi) <;> rfl
theorem s_colours (l : List Int) (hl : l.length ≤ 1048576) : m_spec_l5Colours l = some (l.all (inRg 16777215) && decide (l.length ≤ 256)) := by
  simp only [m_spec_l5Colours, m_spec_l5Colours_0]
  rw [rng_loop l hl 16777215 (lp_spec_l5Colours_7 l) (fun i => rfl)]
  cases l.all (inRg 16777215) with
  | false => rfl
  | true =>
    simp only [cond_true, Option.bind_some, m_spec_l5Colours_25, Bool.true_and]
    congr 1
    rw [decide_eq_decide]
    omega
def okDepth (d : Int) : Prop := d = 1 ∨ d = 2 ∨ d = 4 ∨ d = 8 ∨ d = 16
instance (d : Int) : Decidable (okDepth d) := by unfold okDepth; infer_instance
theorem s_depth (d : Int) : m_spec_l4Depth d = some (decide (okDepth d)) := by
  simp only [m_spec_l4Depth, m_spec_l4Depth_0]
  by_cases h1 : d = 1
  · subst h1; rfl
  by_cases h2 : d = 2
  · subst h2; rfl
  by_cases h3 : d = 4
  · subst h3; rfl
  by_cases h4 : d = 8
  · subst h4; rfl
  by_cases h5 : d = 16
  · subst h5; rfl
  rw [if_neg (by simpa using h1), if_neg (by simpa using h2), if_neg (by simpa using h3), if_neg (by simpa using h4)]
  congr 1
  rw [decide_eq_false (by unfold okDepth; omega)]
  simpa using h5
theorem z_depth (d : Int) : m_impl_goodDepth d = some (decide (okDepth d)) := s_depth d
theorem shl_depth {d : Int} (h : okDepth d) : 0 ≤ d ∧ wr .u64 d = d ∧ 2 ≤ shlI .i64 1 d ∧ shlI .i64 1 d ≤ 65536 := by
  rcases h with rfl | rfl | rfl | rfl | rfl <;> decide +kernel
def shape (im : S_Image) : Prop := 1 ≤ im.width ∧ im.width ≤ 512 ∧ 1 ≤ im.height ∧ im.height ≤ 512 ∧ im.width * im.height ≤ 4096 ∧ 1 ≤ im.planes ∧ im.planes ≤ 4 ∧ okDepth im.depth ∧ (im.planes = 1 ∨ 8 ≤ im.depth) ∧ (im.samples.length : Int) = im.width * im.height * im.planes
instance (im : S_Image) : Decidable (shape im) := by unfold shape; infer_instance
def goodI (im : S_Image) : Bool := decide (shape im) && im.samples.all (inRg (shlI .i64 1 im.depth - 1))
theorem no_good {im : S_Image} (h : ¬ shape im) : goodI im = false := by
  unfold goodI
  rw [decide_eq_false h]
  rfl
theorem wh_b {w h : Int} (h1 : 1 ≤ w) (h2 : w ≤ 512) (h3 : 1 ≤ h) (h4 : h ≤ 512) : 0 ≤ w * h ∧ w * h ≤ 262144 :=
  ⟨Int.mul_nonneg (by omega) (by omega), Int.le_trans (Int.mul_le_mul h2 h4 (by omega) (by omega)) (by omega)⟩
theorem whp_b {a p : Int} (h1 : 0 ≤ a) (h2 : a ≤ 262144) (h3 : 1 ≤ p) (h4 : p ≤ 4) : 0 ≤ a * p ∧ a * p ≤ 1048576 :=
  ⟨Int.mul_nonneg (by omega) (by omega), Int.le_trans (Int.mul_le_mul h2 h4 (by omega) (by omega)) (by omega)⟩
theorem s_sides (w h : Int) : m_spec_l4Sides w h = some (decide (1 ≤ w ∧ w ≤ 512 ∧ 1 ≤ h ∧ h ≤ 512)) := by
  simp only [m_spec_l4Sides, m_spec_l4Sides_0]
  split
  · rename_i h1
    simp at h1
    split
    · rename_i h2
      simp at h2
      split
      · rename_i h3
        simp at h3
        congr 1
        rw [decide_eq_decide]; omega
      · rename_i h3
        simp at h3
        congr 1; symm; rw [decide_eq_false_iff_not]; omega
    · rename_i h2
      simp at h2
      congr 1; symm; rw [decide_eq_false_iff_not]; omega
  · rename_i h1
    simp at h1
    congr 1; symm; rw [decide_eq_false_iff_not]; omega
theorem z_side (w : Int) : m_impl_goodSide w = some (decide (1 ≤ w ∧ w ≤ 512)) := by
  simp only [m_impl_goodSide, m_impl_goodSide_0]
  split
  · rename_i h1
    simp at h1
    congr 1
    rw [decide_eq_decide]; omega
  · rename_i h1
    simp at h1
    congr 1; symm; rw [decide_eq_false_iff_not]; omega
theorem s_image (im : S_Image) (hl : im.samples.length ≤ 1048576) : m_spec_GoodImage im = some (goodI im) := by
  simp only [m_spec_GoodImage, m_spec_GoodImage_0, s_sides, s_depth, Option.bind_some]
  by_cases h1 : 1 ≤ im.width ∧ im.width ≤ 512 ∧ 1 ≤ im.height ∧ im.height ≤ 512
  · obtain ⟨b1, b2⟩ := wh_b h1.1 h1.2.1 h1.2.2.1 h1.2.2.2
    rw [if_pos (by simpa using h1), w64_id (by omega) (by omega)]
    by_cases h2 : im.width * im.height ≤ 4096
    · rw [if_neg (by simpa using h2)]
      by_cases h3 : 1 ≤ im.planes ∧ im.planes ≤ 4
      · obtain ⟨b3, b4⟩ := whp_b b1 b2 h3.1 h3.2
        rw [if_neg (by simp; omega), if_neg (by simp; omega)]
        by_cases h4 : okDepth im.depth
        · rw [if_pos (by simpa using h4)]
          obtain ⟨d1, d2, d3, d4⟩ := shl_depth h4
          have hrest : m_spec_GoodImage_18 im = some (im.samples.all (inRg (shlI .i64 1 im.depth - 1))) := by
            simp only [m_spec_GoodImage_18]
            rw [rng_loop im.samples hl (shlI .i64 1 im.depth - 1) (lp_spec_GoodImage_23 im) (fun i => ?_)]
            · cases im.samples.all (inRg (shlI .i64 1 im.depth - 1)) <;> rfl
            · simp only [lp_spec_GoodImage_23, m_spec_GoodImage_23, d2]
              rw [ck_eq d1]
              have he : ∀ x : Int, decide (x ≥ shlI .i64 1 im.depth) = decide (x > shlI .i64 1 im.depth - 1) := by
                intro x; rw [decide_eq_decide]; omega
              simp only [Option.bind_some, he]
          have htail : (if ((im.samples.length : Int) != (w64 (im.width * im.height * im.planes))) then some false else m_spec_GoodImage_18 im) = some (decide ((im.samples.length : Int) = im.width * im.height * im.planes) && im.samples.all (inRg (shlI .i64 1 im.depth - 1))) := by
            rw [w64_id (x := im.width * im.height * im.planes) (by omega) (by omega), hrest]
            by_cases h6 : (im.samples.length : Int) = im.width * im.height * im.planes
            · rw [if_neg (by simpa using h6), decide_eq_true h6]
              rfl
            · rw [if_pos (by simpa using h6), decide_eq_false h6]
              rfl
          have hg : (im.planes = 1 ∨ 8 ≤ im.depth) → goodI im = (decide ((im.samples.length : Int) = im.width * im.height * im.planes) && im.samples.all (inRg (shlI .i64 1 im.depth - 1))) := by
            intro h8
            by_cases h6 : (im.samples.length : Int) = im.width * im.height * im.planes
            · unfold goodI
              rw [decide_eq_true h6, decide_eq_true (by unfold shape; exact ⟨by omega, by omega, by omega, by omega, h2, by omega, by omega, h4, h8, h6⟩)]
            · rw [no_good (by unfold shape; omega), decide_eq_false h6]
              rfl
          by_cases h5 : im.planes > 1
          · rw [if_pos (by simpa using h5)]
            by_cases h7 : im.depth < 8
            · rw [if_pos (by simpa using h7), no_good (by unfold shape; omega)]
            · rw [if_neg (by simpa using h7), htail, hg (by omega)]
          · rw [if_neg (by simpa using h5), htail, hg (by omega)]
        · rw [if_neg (by simpa using h4), no_good (by unfold shape; intro h; exact h4 h.2.2.2.2.2.2.2.1)]
      · rw [no_good (by unfold shape; omega)]
        by_cases h5 : im.planes < 1
        · rw [if_pos (by simpa using h5)]
        · rw [if_neg (by simpa using h5), if_pos (by simp; omega)]
    · rw [if_pos (by simp; omega), no_good (by unfold shape; omega)]
  · rw [if_neg (by simpa using h1), no_good (by unfold shape; omega)]
theorem z_image (im : S_Image) (hl : im.samples.length ≤ 1048576) : m_impl_GoodImage im = some (goodI im) := by
  simp only [m_impl_GoodImage, m_impl_GoodImage_0, m_impl_goodShape, m_impl_goodShape_0, m_impl_goodSides, m_impl_goodSides_0, z_side, z_depth, Option.bind_some]
  by_cases h1 : 1 ≤ im.width ∧ im.width ≤ 512
  · rw [if_pos (by simpa using h1)]
    by_cases h1' : 1 ≤ im.height ∧ im.height ≤ 512
    · obtain ⟨b1, b2⟩ := wh_b h1.1 h1.2 h1'.1 h1'.2
      rw [if_pos (by simpa using h1'), w64_id (x := im.width * im.height) (by omega) (by omega)]
      simp only [Option.bind_some]
      by_cases h2 : im.width * im.height ≤ 4096
      · rw [if_pos (by simpa using h2)]
        by_cases h3 : 1 ≤ im.planes
        · rw [if_pos (by simpa using h3)]
          by_cases h3' : im.planes ≤ 4
          · rw [if_pos (by simpa using h3')]
            by_cases h4 : okDepth im.depth
            · rw [if_pos (by simpa using h4)]
              obtain ⟨b3, b4⟩ := whp_b b1 b2 h3 h3'
              obtain ⟨d1, d2, d3, d4⟩ := shl_depth h4
              have hrest : (if ((im.samples.length : Int) == (w64 (im.width * im.height * im.planes))) then (ck (decide ((0 : Int) ≤ im.depth))).bind fun _ => (m_impl_inRange im.samples (w64 ((shlI .i64 1 im.depth) - 1))).bind fun x0_4 => some x0_4 else some false) = some (decide ((im.samples.length : Int) = im.width * im.height * im.planes) && im.samples.all (inRg (shlI .i64 1 im.depth - 1))) := by
                rw [w64_id (x := im.width * im.height * im.planes) (by omega) (by omega), ck_eq d1, w64_id (by omega) (by omega), z_inR _ hl]
                by_cases h6 : (im.samples.length : Int) = im.width * im.height * im.planes
                · rw [if_pos (by simpa using h6), decide_eq_true h6]
                  rfl
                · rw [if_neg (by simpa using h6), decide_eq_false h6]
                  rfl
              have hg : (im.planes = 1 ∨ 8 ≤ im.depth) → goodI im = (decide ((im.samples.length : Int) = im.width * im.height * im.planes) && im.samples.all (inRg (shlI .i64 1 im.depth - 1))) := by
                intro h8
                by_cases h6 : (im.samples.length : Int) = im.width * im.height * im.planes
                · unfold goodI
                  rw [decide_eq_true h6, decide_eq_true (by unfold shape; exact ⟨by omega, by omega, by omega, by omega, h2, by omega, by omega, h4, h8, h6⟩)]
                · rw [no_good (by unfold shape; omega), decide_eq_false h6]
                  rfl
              by_cases h7 : im.planes = 1
              · rw [if_pos (by simpa using h7), hg (.inl h7)]
                simp only [Option.bind_some, if_true]
                exact hrest
              · rw [if_neg (by simpa using h7)]
                by_cases h8 : 8 ≤ im.depth
                · simp only [Option.bind_some]
                  rw [if_pos (by simpa using h8), hg (.inr h8)]
                  exact hrest
                · simp only [Option.bind_some]
                  rw [if_neg (by simpa using h8), no_good (by unfold shape; omega)]
            · rw [if_neg (by simpa using h4), no_good (by unfold shape; intro h; exact h4 h.2.2.2.2.2.2.2.1)]
              rfl
          · rw [if_neg (by simpa using h3'), no_good (by unfold shape; omega)]
            rfl
        · rw [if_neg (by simpa using h3), no_good (by unfold shape; omega)]
          rfl
      · rw [if_neg (by simpa using h2), no_good (by unfold shape; omega)]
        rfl
    · rw [if_neg (by simpa using h1'), no_good (by unfold shape; omega)]
      rfl
  · rw [if_neg (by simpa using h1), no_good (by unfold shape; omega)]
    rfl
end Go.Proofs.V

set_option linter.unusedSimpArgs false
set_option linter.unusedVariables false
set_option maxRecDepth 100000
namespace Go.Proofs.V
open Go
def okByte (b : UInt8) : Bool := decide (32 ≤ b.toNat ∧ b.toNat ≤ 126)
theorem sat_list {s : ByteArray} {i : Nat} (h : i < s.data.toList.length) : sat s (i : Int) = some ((s.data.toList[i].toNat : Nat) : Int) := by
  unfold sat
  rw [if_pos (by omega)]
  have h2 : i < s.size := h
  simp only [Int.toNat_natCast]
  show ((s.data[i]?).map fun c : UInt8 => (c.toNat : Int)) = _
  have h3 : i < s.data.size := h
  rw [Array.getElem?_eq_getElem h3]
  rfl
theorem bytes_loop {ε : Type} (s : ByteArray) (hs : s.size ≤ 1048576) (e0 : ε) (b : Int → Option (Int ⊕ (ε ⊕ Unit)))
    (hb : ∀ i, b i = if (decide (i < (s.size : Int))) then (sat s i).bind fun x => if (decide (x < 32)) then some (.inr (.inl e0)) else if (decide (x > 126)) then some (.inr (.inl e0)) else some (.inl (w64 (i + 1))) else some (.inr (.inr ()))) :
    loopM b 0 = some (bif s.data.toList.all okByte then .inr () else .inl e0) := by
  have hl : s.data.toList.length = s.size := rfl
  have := all_fold (l := s.data.toList) (σ := Unit) (fun _ i => (i : Int)) (q := okByte) (g := fun _ _ => ()) (I := fun _ _ => True) (b := b) (e0 := .inl e0) (e1 := fun _ => .inr ())
    (fun i s' h _ => ?_) (fun _ _ => ?_) () trivial
  · exact this
  · have hx := sat_list h
    rw [hb, if_pos (by simp; omega), hx]
    simp only [Option.bind_some, okByte]
    generalize s.data.toList[i] = u
    refine ⟨fun hq => ⟨?_, trivial⟩, fun hq => ?_⟩
    · have hq' := of_decide_eq_true hq
      rw [if_neg (by simp; omega), if_neg (by simp; omega), w64_succ (by omega)]
    · have hq' := of_decide_eq_false hq
      by_cases h1 : ((u.toNat : Nat) : Int) < 32
      · rw [if_pos (by simpa using h1)]
      · rw [if_neg (by simpa using h1), if_pos (by simp; omega)]
  · rw [hb, if_neg (by simp)]
theorem idx_byte (l : List UInt8) (c : UInt8) : decide (Lib.indexByte l c ≥ 0) = l.contains c := by
  rw [Bool.eq_iff_iff, decide_eq_true_eq, List.contains_iff_mem]
  have h0 := Lib.indexByte_ge l c
  constructor
  · intro h
    obtain ⟨o, ho⟩ : ∃ o : Nat, Lib.indexByte l c = o := ⟨(Lib.indexByte l c).toNat, by omega⟩
    exact List.mem_of_getElem? (Lib.indexByte_some ho).1
  · intro h
    by_cases h1 : Lib.indexByte l c ≥ 0
    · exact h1
    · obtain ⟨k, hk, e⟩ := List.getElem_of_mem h
      exact absurd (by rw [List.getElem?_eq_getElem hk, e]) (Lib.indexByte_none (l := l) (c := c) (by omega) k)
def nz (b : UInt8) : Bool := b != 0
theorem all_nz (l : List UInt8) : l.all nz = !l.contains 0 := by
  induction l with
  | nil => rfl
  | cons a l ih =>
    rw [List.all_cons, List.contains_cons, ih, nz, bne]
    cases h : (a == 0) with
    | true => have : ((0 : UInt8) == a) = true := by simp at h ⊢; exact h.symm
              rw [this]; simp
    | false => have : ((0 : UInt8) == a) = false := by simp at h ⊢; exact fun e => h e.symm
               rw [this]; simp
def noteOk (n : S_Note) : Bool := decide (1 ≤ n.key.size ∧ n.key.size ≤ 40 ∧ n.value.size ≤ 1000) && (n.key.data.toList.all okByte && n.value.data.toList.all nz)
theorem no_note {n : S_Note} (h : ¬ (1 ≤ n.key.size ∧ n.key.size ≤ 40 ∧ n.value.size ≤ 1000)) : noteOk n = false := by
  unfold noteOk
  rw [decide_eq_false h]
  rfl
theorem s_note (n : S_Note) : m_spec_l5Note n = some (noteOk n) := by
  simp only [m_spec_l5Note, m_spec_l5Note_0]
  by_cases h1 : n.key.size < 1
  · rw [if_pos (by simp; omega), no_note (by omega)]
  rw [if_neg (by simp; omega)]
  by_cases h2 : n.key.size > 40
  · rw [if_pos (by simp; omega), no_note (by omega)]
  rw [if_neg (by simp; omega)]
  by_cases h3 : n.value.size > 1000
  · rw [if_pos (by simp; omega), no_note (by omega)]
  rw [if_neg (by simp; omega), bytes_loop n.key (by omega) false (lp_spec_l5Note_15 n) (fun i => rfl)]
  have hk : noteOk n = (n.key.data.toList.all okByte && n.value.data.toList.all nz) := by
    unfold noteOk
    rw [decide_eq_true (by omega)]
    rfl
  rw [hk]
  cases n.key.data.toList.all okByte with
  | false => rfl
  | true =>
    simp only [cond_true, Option.bind_some, m_spec_l5Note_31, Bool.true_and]
    have hl : n.value.data.toList.length = n.value.size := rfl
    rw [all_list (l := n.value.data.toList) (q := nz) (by omega) (fun i h => ?_) ?_]
    · cases n.value.data.toList.all nz <;> rfl
    · simp only [lp_spec_l5Note_36, m_spec_l5Note_36]
      rw [if_neg (by simp)]
    · simp only [lp_spec_l5Note_36, m_spec_l5Note_36]
      rw [if_pos (by simp; omega), sat_list h]
      simp only [Option.bind_some]
      generalize n.value.data.toList[i] = u
      rw [w64_succ (by omega)]
      have : (((u.toNat : Nat) : Int) == 0) = !nz u := by
        unfold nz
        rw [bne, Bool.not_not, Bool.eq_iff_iff, beq_iff_eq, beq_iff_eq]
        constructor
        · intro h; apply UInt8.toNat_inj.1; show u.toNat = 0; omega
        · rintro rfl; rfl
      rw [this]
      cases nz u <;> rfl
theorem z_note (n : S_Note) : m_impl_goodNote n = some (noteOk n) := by
  simp only [m_impl_goodNote, m_impl_goodNote_0]
  by_cases h1 : n.key.size < 1
  · rw [if_pos (by simp; omega), no_note (by omega)]
  rw [if_neg (by simp; omega)]
  by_cases h2 : n.key.size > 40
  · rw [if_pos (by simp; omega), no_note (by omega)]
  rw [if_neg (by simp; omega)]
  by_cases h3 : n.value.size > 1000
  · rw [if_pos (by simp; omega), no_note (by omega)]
  rw [if_neg (by simp; omega)]
  have hk : noteOk n = (n.key.data.toList.all okByte && n.value.data.toList.all nz) := by
    unfold noteOk
    rw [decide_eq_true (by omega)]
    rfl
  have hi : m_strings_IndexByte n.value 0 = some (Lib.indexByte n.value.data.toList 0) := rfl
  rw [hk, hi, all_nz]
  simp only [Option.bind_some, idx_byte]
  rw [bytes_loop n.key (by omega) false (lp_impl_goodNote_15 n) (fun i => rfl)]
  cases n.value.data.toList.contains 0 with
  | true => simp
  | false => cases n.key.data.toList.all okByte <;> rfl
/-! the passes -/
def cnt (w x s : Int) : Int := (w - x + s - 1) / s
def addP (w h : Int) (l : List S_Pass) (x y sx sy : Int) : List S_Pass := if 0 < cnt w x sx ∧ 0 < cnt h y sy then l ++ [⟨x, y, sx, sy, cnt w x sx, cnt h y sy⟩] else l
theorem addP_len (w h : Int) (l : List S_Pass) (x y sx sy : Int) : (addP w h l x y sx sy).length ≤ l.length + 1 := by
  unfold addP
  split <;> simp
theorem s_cnt {w x s : Int} (h1 : 1 ≤ w) (h2 : w ≤ 512) (h3 : 0 ≤ x) (h4 : x ≤ s) (h5 : 1 ≤ s) (h6 : s ≤ 8) : m_spec_l4Count w x s = some (cnt w x s) := by
  simp only [m_spec_l4Count, m_spec_l4Count_0]
  have e0 : 0 ≤ w - x + s - 1 := by omega
  have e1 : 0 ≤ (w - x + s - 1) / s := Int.ediv_nonneg e0 (by omega)
  have e2 : (w - x + s - 1) / s ≤ w - x + s - 1 := Int.ediv_le_self _ e0
  by_cases h7 : w ≤ x
  · rw [if_pos (by simpa using h7)]
    unfold cnt
    rw [Int.ediv_eq_zero_of_lt e0 (by omega)]
  · rw [if_neg (by simpa using h7), ck_eq (by omega)]
    rw [w64_id (x := w - x) (by omega) (by omega), w64_id (x := w - x + s) (by omega) (by omega), w64_id (x := w - x + s - 1) (by omega) (by omega), Int.tdiv_eq_ediv_of_nonneg e0]
    simp only [Option.bind_some]
    rw [w64_id (by omega) (by omega)]
    rfl
theorem cnt_b {w x s : Int} (h1 : 1 ≤ w) (h2 : w ≤ 512) (h3 : 0 ≤ x) (h4 : x ≤ s) (h5 : 1 ≤ s) (h6 : s ≤ 8) : w64 (Int.tdiv (w64 ((w64 ((w64 (w - x)) + s)) - 1)) s) = cnt w x s := by
  have e0 : 0 ≤ w - x + s - 1 := by omega
  have e1 : 0 ≤ (w - x + s - 1) / s := Int.ediv_nonneg e0 (by omega)
  have e2 : (w - x + s - 1) / s ≤ w - x + s - 1 := Int.ediv_le_self _ e0
  rw [w64_id (x := w - x) (by omega) (by omega), w64_id (x := w - x + s) (by omega) (by omega), w64_id (x := w - x + s - 1) (by omega) (by omega), Int.tdiv_eq_ediv_of_nonneg e0, w64_id (by omega) (by omega)]
  rfl
theorem s_pass {w h : Int} (w1 : 1 ≤ w) (w2 : w ≤ 512) (h1 : 1 ≤ h) (h2 : h ≤ 512) (i : Nat) (tab : List Int) (l : List S_Pass) (x y sx sy : Int) (ht : tab.length = 28) (hi : i + 4 ≤ 28) (hl : l.length ≤ 7)
    (r0 : tab[i]? = some x) (r1 : tab[i + 1]? = some y) (r2 : tab[i + 2]? = some sx) (r3 : tab[i + 3]? = some sy) (x0 : 0 ≤ x ∧ x ≤ sx ∧ 1 ≤ sx ∧ sx ≤ 8) (y0 : 0 ≤ y ∧ y ≤ sy ∧ 1 ≤ sy ∧ sy ≤ 8) :
    lp_spec_l4Passes_11 w h ((i : Int), tab, l) = some (.inl (((i + 4 : Nat) : Int), tab, addP w h l x y sx sy)) := by
  have q : ∀ (k : Nat) (v : Int), tab[k]? = some v → rd tab (k : Int) = some v := by
    intro k v hk
    unfold rd
    rw [if_pos (by omega), Int.toNat_natCast, hk]
  simp only [lp_spec_l4Passes_11, m_spec_l4Passes_11]
  rw [if_pos (by simp; omega), q i x r0, w64_id (x := (i : Int) + 1) (by omega) (by omega), w64_id (x := (i : Int) + 2) (by omega) (by omega), w64_id (x := (i : Int) + 3) (by omega) (by omega)]
  rw [show (i : Int) + 1 = ((i + 1 : Nat) : Int) by omega, show (i : Int) + 2 = ((i + 2 : Nat) : Int) by omega, show (i : Int) + 3 = ((i + 3 : Nat) : Int) by omega, q _ _ r1, q _ _ r2, q _ _ r3]
  simp only [Option.bind_some]
  rw [s_cnt w1 w2 x0.1 x0.2.1 x0.2.2.1 x0.2.2.2, s_cnt h1 h2 y0.1 y0.2.1 y0.2.2.1 y0.2.2.2]
  simp only [Option.bind_some, m_spec_l4Passes_27]
  rw [w64_id (x := (i : Int) + 4) (by omega) (by omega), show (i : Int) + 4 = ((i + 4 : Nat) : Int) by omega, ck_eq (by simp; omega)]
  unfold addP
  by_cases c1 : 0 < cnt w x sx
  · rw [if_pos (by simpa using c1)]
    by_cases c2 : 0 < cnt h y sy
    · rw [if_pos (by simpa using c2), if_pos ⟨c1, c2⟩]; rfl
    · rw [if_neg (by simpa using c2), if_neg (fun hh => c2 hh.2)]
  · rw [if_neg (by simpa using c1), if_neg (by simp), if_neg (fun hh => c1 hh.1)]
theorem z_pass {w h : Int} (w1 : 1 ≤ w) (w2 : w ≤ 512) (h1 : 1 ≤ h) (h2 : h ≤ 512) (i : Nat) (tab : List S_Pass) (l : List S_Pass) (x y sx sy a b : Int) (hi : i < 7) (hl : l.length ≤ 7)
    (r0 : tab[i]? = some ⟨x, y, sx, sy, a, b⟩) (x0 : 0 ≤ x ∧ x ≤ sx ∧ 1 ≤ sx ∧ sx ≤ 8) (y0 : 0 ≤ y ∧ y ≤ sy ∧ 1 ≤ sy ∧ sy ≤ 8) :
    lp_impl_Passes_17 w h ((i : Int), l, tab) = some (.inl (((i + 1 : Nat) : Int), addP w h l x y sx sy, tab)) := by
  have q : rd tab (i : Int) = some ⟨x, y, sx, sy, a, b⟩ := by
    unfold rd
    rw [if_pos (by omega), Int.toNat_natCast, r0]
  simp only [lp_impl_Passes_17, m_impl_Passes_17]
  rw [if_pos (by simp; omega), q]
  simp only [Option.bind_some]
  rw [ck_eq (by omega), ck_eq (by omega)]
  simp only [Option.bind_some, m_impl_Passes_33]
  rw [cnt_b w1 w2 x0.1 x0.2.1 x0.2.2.1 x0.2.2.2, cnt_b h1 h2 y0.1 y0.2.1 y0.2.2.1 y0.2.2.2]
  rw [w64_succ (by omega), ck_eq (by simp; omega)]
  unfold addP
  by_cases c1 : 0 < cnt w x sx
  · rw [if_pos (by simpa using c1)]
    by_cases c2 : 0 < cnt h y sy
    · rw [if_pos (by simpa using c2), if_pos ⟨c1, c2⟩]; rfl
    · rw [if_neg (by simpa using c2), if_neg (fun hh => c2 hh.2)]
  · rw [if_neg (by simpa using c1), if_neg (by simp), if_neg (fun hh => c1 hh.1)]
def p1 (w h : Int) := addP w h [] 0 0 8 8
def p2 (w h : Int) := addP w h (p1 w h) 4 0 8 8
def p3 (w h : Int) := addP w h (p2 w h) 0 4 4 8
def p4 (w h : Int) := addP w h (p3 w h) 2 0 4 4
def p5 (w h : Int) := addP w h (p4 w h) 0 2 2 4
def p6 (w h : Int) := addP w h (p5 w h) 1 0 2 2
def passes (w h : Int) := addP w h (p6 w h) 0 1 1 2
theorem p_len (w h : Int) : (p1 w h).length ≤ 1 ∧ (p2 w h).length ≤ 2 ∧ (p3 w h).length ≤ 3 ∧ (p4 w h).length ≤ 4 ∧ (p5 w h).length ≤ 5 ∧ (p6 w h).length ≤ 6 ∧ (passes w h).length ≤ 7 := by
  have a1 : (p1 w h).length ≤ 0 + 1 := addP_len w h [] 0 0 8 8
  have a2 : (p2 w h).length ≤ (p1 w h).length + 1 := addP_len w h (p1 w h) 4 0 8 8
  have a3 : (p3 w h).length ≤ (p2 w h).length + 1 := addP_len w h (p2 w h) 0 4 4 8
  have a4 : (p4 w h).length ≤ (p3 w h).length + 1 := addP_len w h (p3 w h) 2 0 4 4
  have a5 : (p5 w h).length ≤ (p4 w h).length + 1 := addP_len w h (p4 w h) 0 2 2 4
  have a6 : (p6 w h).length ≤ (p5 w h).length + 1 := addP_len w h (p5 w h) 1 0 2 2
  have a7 : (passes w h).length ≤ (p6 w h).length + 1 := addP_len w h (p6 w h) 0 1 1 2
  omega
theorem go1 {τ ε : Type} {b : τ → Option (τ ⊕ ε)} {s s' : τ} {r : Option ε} (h : b s = some (.inl s')) (h2 : loopM b s' = r) : loopM b s = r := by rw [loopM_eq, h]; exact h2
theorem go0 {τ ε : Type} {b : τ → Option (τ ⊕ ε)} {s : τ} {e : ε} (h : b s = some (.inr e)) : loopM b s = some e := by rw [loopM_eq, h]
theorem s_passes {w h : Int} (w1 : 1 ≤ w) (w2 : w ≤ 512) (h1 : 1 ≤ h) (h2 : h ≤ 512) : m_spec_l4Passes w h = some (passes w h) := by
  obtain ⟨a1, a2, a3, a4, a5, a6, a7⟩ := p_len w h
  simp only [m_spec_l4Passes, m_spec_l4Passes_0]
  have key : loopM (lp_spec_l4Passes_11 w h) (((0 : Nat) : Int), ([0, 0, 8, 8, 4, 0, 8, 8, 0, 4, 4, 8, 2, 0, 4, 4, 0, 2, 2, 4, 1, 0, 2, 2, 0, 1, 1, 2] : List Int), ([] : List S_Pass)) = some (passes w h) := by
    refine go1 (s_pass w1 w2 h1 h2 0 _ [] 0 0 8 8 rfl (by omega) (by simp) rfl rfl rfl rfl (by omega) (by omega)) ?_
    refine go1 (s_pass w1 w2 h1 h2 4 _ (p1 w h) 4 0 8 8 rfl (by omega) (by omega) rfl rfl rfl rfl (by omega) (by omega)) ?_
    refine go1 (s_pass w1 w2 h1 h2 8 _ (p2 w h) 0 4 4 8 rfl (by omega) (by omega) rfl rfl rfl rfl (by omega) (by omega)) ?_
    refine go1 (s_pass w1 w2 h1 h2 12 _ (p3 w h) 2 0 4 4 rfl (by omega) (by omega) rfl rfl rfl rfl (by omega) (by omega)) ?_
    refine go1 (s_pass w1 w2 h1 h2 16 _ (p4 w h) 0 2 2 4 rfl (by omega) (by omega) rfl rfl rfl rfl (by omega) (by omega)) ?_
    refine go1 (s_pass w1 w2 h1 h2 20 _ (p5 w h) 1 0 2 2 rfl (by omega) (by omega) rfl rfl rfl rfl (by omega) (by omega)) ?_
    refine go1 (s_pass w1 w2 h1 h2 24 _ (p6 w h) 0 1 1 2 rfl (by omega) (by omega) rfl rfl rfl rfl (by omega) (by omega)) ?_
    exact go0 rfl
  have key' : loopM (lp_spec_l4Passes_11 w h) (0, ([0, 0, 8, 8, 4, 0, 8, 8, 0, 4, 4, 8, 2, 0, 4, 4, 0, 2, 2, 4, 1, 0, 2, 2, 0, 1, 1, 2] : List Int), ([] : List S_Pass)) = some (passes w h) := key
  rw [key']
  rfl
theorem z_passes {w h : Int} (w1 : 1 ≤ w) (w2 : w ≤ 512) (h1 : 1 ≤ h) (h2 : h ≤ 512) : m_impl_Passes w h = some (passes w h) := by
  obtain ⟨a1, a2, a3, a4, a5, a6, a7⟩ := p_len w h
  simp only [m_impl_Passes, m_impl_Passes_0, z_side, Option.bind_some]
  rw [if_pos (by simp; omega), if_pos (by simp; omega)]
  have key : loopM (lp_impl_Passes_17 w h) (((0 : Nat) : Int), ([] : List S_Pass), ([(S_Pass.mk 0 0 8 8 0 0), (S_Pass.mk 4 0 8 8 0 0), (S_Pass.mk 0 4 4 8 0 0), (S_Pass.mk 2 0 4 4 0 0), (S_Pass.mk 0 2 2 4 0 0), (S_Pass.mk 1 0 2 2 0 0), (S_Pass.mk 0 1 1 2 0 0)] : List S_Pass)) = some (passes w h) := by
    refine go1 (z_pass w1 w2 h1 h2 0 _ [] 0 0 8 8 0 0 (by omega) (by simp) rfl (by omega) (by omega)) ?_
    refine go1 (z_pass w1 w2 h1 h2 1 _ (p1 w h) 4 0 8 8 0 0 (by omega) (by omega) rfl (by omega) (by omega)) ?_
    refine go1 (z_pass w1 w2 h1 h2 2 _ (p2 w h) 0 4 4 8 0 0 (by omega) (by omega) rfl (by omega) (by omega)) ?_
    refine go1 (z_pass w1 w2 h1 h2 3 _ (p3 w h) 2 0 4 4 0 0 (by omega) (by omega) rfl (by omega) (by omega)) ?_
    refine go1 (z_pass w1 w2 h1 h2 4 _ (p4 w h) 0 2 2 4 0 0 (by omega) (by omega) rfl (by omega) (by omega)) ?_
    refine go1 (z_pass w1 w2 h1 h2 5 _ (p5 w h) 1 0 2 2 0 0 (by omega) (by omega) rfl (by omega) (by omega)) ?_
    refine go1 (z_pass w1 w2 h1 h2 6 _ (p6 w h) 0 1 1 2 0 0 (by omega) (by omega) rfl (by omega) (by omega)) ?_
    exact go0 rfl
  have key' : loopM (lp_impl_Passes_17 w h) (0, ([] : List S_Pass), ([(S_Pass.mk 0 0 8 8 0 0), (S_Pass.mk 4 0 8 8 0 0), (S_Pass.mk 0 4 4 8 0 0), (S_Pass.mk 2 0 4 4 0 0), (S_Pass.mk 0 2 2 4 0 0), (S_Pass.mk 1 0 2 2 0 0), (S_Pass.mk 0 1 1 2 0 0)] : List S_Pass)) = some (passes w h) := key
  rw [key']
  rfl
end Go.Proofs.V

set_option linter.unusedSimpArgs false
set_option linter.unusedVariables false
set_option maxRecDepth 100000
namespace Go.Proofs.V
open Go
theorem foldl_app_map {α β : Type} (f : α → β) : ∀ (l : List α) (s : List β), l.foldl (fun s a => s ++ [f a]) s = s ++ l.map f
  | [], s => by simp
  | a :: l, s => by rw [List.foldl_cons, foldl_app_map f l, List.map_cons, List.append_assoc]; rfl
theorem map_loop {α β : Type} (l : List α) (f : α → β) (b : Int × List β → Option ((Int × List β) ⊕ List β)) (step : ∀ (i : Nat) (s : List β) (h : i < l.length), s.length = i → b ((i : Int), s) = some (.inl (((i + 1 : Nat) : Int), s ++ [f l[i]]))) (done : ∀ s, b ((l.length : Int), s) = some (.inr s)) : loopM b (0, []) = some (l.map f) := by
  have h := fold_list (l := l) (fun (s : List β) i => ((i : Int), s)) (g := fun s a => s ++ [f a]) (I := fun i s => s.length = i) (b := b) (e1 := fun s => s) (fun i s h hI => ⟨step i s h hI, by simp [hI]⟩) (fun s _ => done s) [] rfl
  have h1 := h.1
  rw [foldl_app_map, List.nil_append] at h1
  exact h1
def sizesS (im : S_Image) (woven : Bool) : List S_Image := if woven then (passes im.width im.height).map fun p => ⟨p.width, p.height, im.planes, im.depth, []⟩ else [⟨im.width, im.height, im.planes, im.depth, []⟩]
def sizesI (w h : Int) (woven : Bool) : List S__2_int := if woven then (passes w h).map fun p => ⟨p.width, p.height⟩ else [⟨w, h⟩]
theorem s_sizes (im : S_Image) (b : Bool) (h : shape im) : m_spec_l5Sizes im b = some (sizesS im b) := by
  simp only [m_spec_l5Sizes, m_spec_l5Sizes_0]
  cases b with
  | false => rfl
  | true =>
    have hl := (p_len im.width im.height).2.2.2.2.2.2
    rw [if_pos rfl, s_passes h.1 h.2.1 h.2.2.1 h.2.2.2.1]
    simp only [Option.bind_some]
    rw [map_loop (passes im.width im.height) (fun p => (⟨p.width, p.height, im.planes, im.depth, []⟩ : S_Image)) (lp_spec_l5Sizes_17 (passes im.width im.height) im) (fun i s hi hs => ?_) (fun s => ?_)]
    · rfl
    · simp only [lp_spec_l5Sizes_17, m_spec_l5Sizes_17]
      rw [if_pos (by simp; omega), rd_eq hi]
      simp only [Option.bind_some]
      rw [ck_eq (by simp; omega), w64_succ (by omega)]
      rfl
    · simp only [lp_spec_l5Sizes_17, m_spec_l5Sizes_17]
      rw [if_neg (by simp)]
theorem z_shapes (w h : Int) (b : Bool) (w1 : 1 ≤ w) (w2 : w ≤ 512) (h1 : 1 ≤ h) (h2 : h ≤ 512) : m_impl_shapes w h b = some (sizesI w h b) := by
  simp only [m_impl_shapes, m_impl_shapes_0]
  cases b with
  | false => rfl
  | true =>
    have hl := (p_len w h).2.2.2.2.2.2
    rw [if_pos rfl, z_passes w1 w2 h1 h2]
    simp only [Option.bind_some]
    rw [map_loop (passes w h) (fun p => (⟨p.width, p.height⟩ : S__2_int)) (lp_impl_shapes_17 (passes w h)) (fun i s hi hs => ?_) (fun s => ?_)]
    · rfl
    · simp only [lp_impl_shapes_17, m_impl_shapes_17]
      rw [if_pos (by simp; omega), rd_eq hi]
      simp only [Option.bind_some]
      rw [ck_eq (by simp; omega), w64_succ (by omega)]
      rfl
    · simp only [lp_impl_shapes_17, m_impl_shapes_17]
      rw [if_neg (by simp)]
/-- the bytes of the rows of a picture, added -/
def addRow (planes depth : Int) (n : Int) (w h : Int) : Int := w64 (n + w64 (h * w64 (1 + w64 (Int.tdiv (w64 (w64 (w64 (w * planes) * depth) + 7)) 8))))
def totalI (w h planes depth : Int) (b : Bool) : Int := (sizesI w h b).foldl (fun n x => addRow planes depth n x.e0 x.e1) 0
theorem s_total (im : S_Image) (b : Bool) (h : shape im) : m_spec_l5Total im b = some (totalI im.width im.height im.planes im.depth b) := by
  simp only [m_spec_l5Total, m_spec_l5Total_0]
  rw [s_sizes im b h]
  simp only [Option.bind_some]
  have hlen : (sizesS im b).length ≤ 7 := by
    have hl := (p_len im.width im.height).2.2.2.2.2.2
    unfold sizesS
    cases b <;> simp [hl]
  have key := fold_list (l := sizesS im b) (fun (s : Int) i => (s, (i : Int))) (g := fun n x => addRow x.planes x.depth n x.width x.height) (I := fun _ _ => True) (b := lp_spec_l5Total_9 (sizesS im b)) (e1 := fun s => s) (fun i s hi _ => ⟨?_, trivial⟩) (fun s _ => ?_) 0 trivial
  · have k1 := key.1
    have k2 : loopM (lp_spec_l5Total_9 (sizesS im b)) ((0 : Int), (0 : Int)) = _ := k1
    rw [k2]
    simp only [Option.bind_some, m_spec_l5Total_21, totalI]
    congr 1
    unfold sizesS sizesI
    cases b with
    | false => rfl
    | true => simp only [if_true, List.foldl_map]
  · simp only [lp_spec_l5Total_9, m_spec_l5Total_9]
    rw [if_pos (by simp; omega), rd_eq hi]
    simp only [Option.bind_some, m_spec_l5RowBytes, m_spec_l5RowBytes_0]
    rw [w64_succ (by omega)]
    rfl
  · simp only [lp_spec_l5Total_9, m_spec_l5Total_9]
    rw [if_neg (by simp)]
theorem z_total (w h p d : Int) (b : Bool) (w1 : 1 ≤ w) (w2 : w ≤ 512) (h1 : 1 ≤ h) (h2 : h ≤ 512) : m_impl_rowsSize w h p d b = some (totalI w h p d b) := by
  simp only [m_impl_rowsSize, m_impl_rowsSize_0]
  rw [z_shapes w h b w1 w2 h1 h2]
  simp only [Option.bind_some]
  have hlen : (sizesI w h b).length ≤ 7 := by
    have hl := (p_len w h).2.2.2.2.2.2
    unfold sizesI
    cases b <;> simp [hl]
  have key := fold_list (l := sizesI w h b) (fun (s : Int) i => (s, (i : Int))) (g := fun n x => addRow p d n x.e0 x.e1) (I := fun _ _ => True) (b := lp_impl_rowsSize_9 p d (sizesI w h b)) (e1 := fun s => s) (fun i s hi _ => ⟨?_, trivial⟩) (fun s _ => ?_) 0 trivial
  · have k1 := key.1
    have k2 : loopM (lp_impl_rowsSize_9 p d (sizesI w h b)) ((0 : Int), (0 : Int)) = _ := k1
    rw [k2]
    rfl
  · simp only [lp_impl_rowsSize_9, m_impl_rowsSize_9]
    rw [if_pos (by simp; omega), rd_eq hi]
    simp only [Option.bind_some, m_impl_rowBytes, m_impl_rowBytes_0]
    rw [w64_succ (by omega)]
    rfl
  · simp only [lp_impl_rowsSize_9, m_impl_rowsSize_9]
    rw [if_neg (by simp)]
def restG (s : S_Still) : Bool := s.notes.all noteOk && decide (totalI s.image.width s.image.height s.image.planes s.image.depth s.woven ≤ 6000)
theorem s_rest (s : S_Still) (h : shape s.image) (hl : s.notes.length ≤ 1048576) : m_spec_GoodStill_45 s = some (restG s) := by
  simp only [m_spec_GoodStill_45]
  rw [all_list (l := s.notes) (q := noteOk) (by omega) (fun i hi => ?_) ?_]
  · unfold restG
    cases s.notes.all noteOk with
    | false => rfl
    | true =>
      simp only [cond_true, Option.bind_some, m_spec_GoodStill_68, Bool.true_and]
      rw [s_total _ _ h]
      rfl
  · simp only [lp_spec_GoodStill_50, m_spec_GoodStill_50]
    rw [if_neg (by simp)]
  · simp only [lp_spec_GoodStill_50, m_spec_GoodStill_50]
    rw [if_pos (by simp; omega), rd_eq hi]
    simp only [Option.bind_some]
    rw [s_note, w64_succ (by omega)]
    simp only [Option.bind_some]
theorem z_rest (s : S_Still) (h : shape s.image) (hl : s.notes.length ≤ 1048576) : m_impl_GoodStill_20 s = some (restG s) := by
  simp only [m_impl_GoodStill_20]
  rw [all_list (l := s.notes) (q := noteOk) (by omega) (fun i hi => ?_) ?_]
  · unfold restG
    cases s.notes.all noteOk with
    | false => rfl
    | true =>
      simp only [cond_true, Option.bind_some, m_impl_GoodStill_43, Bool.true_and]
      rw [z_total _ _ _ _ _ h.1 h.2.1 h.2.2.1 h.2.2.2.1]
      rfl
  · simp only [lp_impl_GoodStill_25, m_impl_GoodStill_25]
    rw [if_neg (by simp)]
  · simp only [lp_impl_GoodStill_25, m_impl_GoodStill_25]
    rw [if_pos (by simp; omega), rd_eq hi]
    simp only [Option.bind_some]
    rw [z_note, w64_succ (by omega)]
    simp only [Option.bind_some]
/-- what a good still is -/
def goodS (s : S_Still) : Bool := goodI s.image && ((s.palette.all (inRg 16777215) && decide (s.palette.length ≤ 256)) && (decide (s.notes.length ≤ 20) && ((decide (s.palette.length = 0) || (decide (s.image.planes = 1 ∧ s.image.depth ≤ 8) && s.image.samples.all (inRg ((s.palette.length : Int) - 1)))) && restG s)))
theorem good_pos {im : S_Image} (h : goodI im = true) : shape im ∧ ∀ x ∈ im.samples, 0 ≤ x := by
  unfold goodI at h
  rw [Bool.and_eq_true, decide_eq_true_eq, List.all_eq_true] at h
  exact ⟨h.1, fun x hx => by have := h.2 x hx; unfold inRg at this; rw [decide_eq_true_eq] at this; exact this.1⟩
theorem s_still (s : S_Still) (hs : Sm_S_Still s) : m_spec_GoodStill s = some (goodS s) := by
  obtain ⟨m1, m2, m3, m4⟩ := hs
  simp only [m_spec_GoodStill, m_spec_GoodStill_0]
  rw [s_image _ m1, s_colours _ m2]
  simp only [Option.bind_some]
  unfold goodS
  cases hg : goodI s.image with
  | false => rfl
  | true =>
    obtain ⟨hsh, hpos⟩ := good_pos hg
    rw [if_pos rfl, Bool.true_and]
    cases (s.palette.all (inRg 16777215) && decide (s.palette.length ≤ 256)) with
    | false => rfl
    | true =>
      rw [if_pos rfl, Bool.true_and]
      by_cases h1 : s.notes.length ≤ 20
      · rw [if_neg (by simp; omega), decide_eq_true h1, Bool.true_and, s_rest s hsh m3]
        by_cases h2 : s.palette.length = 0
        · rw [if_neg (by simp only [decide_eq_true_eq]; omega), decide_eq_true h2]
          rfl
        · rw [if_pos (decide_eq_true (by omega)), decide_eq_false h2, Bool.false_or]
          by_cases h3 : s.image.planes = 1
          · rw [if_neg (by simpa using h3)]
            by_cases h4 : s.image.depth ≤ 8
            · rw [if_neg (by simpa using h4), decide_eq_true ⟨h3, h4⟩, Bool.true_and]
              have hl : s.image.samples.length ≤ 1048576 := m1
              rw [all_list (l := s.image.samples) (q := inRg ((s.palette.length : Int) - 1)) (by omega) (fun i hi => ?_) ?_]
              · cases s.image.samples.all (inRg ((s.palette.length : Int) - 1)) <;> rfl
              · simp only [lp_spec_GoodStill_26, m_spec_GoodStill_26]
                rw [if_neg (by simp)]
              · simp only [lp_spec_GoodStill_26, m_spec_GoodStill_26]
                rw [if_pos (by simp; omega), rd_eq hi]
                simp only [Option.bind_some]
                have hp := hpos _ (List.getElem_mem hi)
                generalize s.image.samples[i] = x at hp
                rw [w64_succ (by omega)]
                by_cases h5 : x ≥ (s.palette.length : Int)
                · have hk : inRg ((s.palette.length : Int) - 1) x = false := decide_eq_false (by omega)
                  rw [hk, if_pos (by simpa using h5)]
                  rfl
                · have hk : inRg ((s.palette.length : Int) - 1) x = true := decide_eq_true (by omega)
                  rw [hk, if_neg (by simpa using h5)]
                  rfl
            · rw [if_pos (by simpa using h4), decide_eq_false (fun h => h4 h.2)]
              rfl
          · rw [if_pos (by simpa using h3), decide_eq_false (fun h => h3 h.1)]
            rfl
      · rw [if_pos (by simp; omega), decide_eq_false h1]
        rfl
theorem z_still (s : S_Still) (hs : Sm_S_Still s) : m_impl_GoodStill s = some (goodS s) := by
  obtain ⟨m1, m2, m3, m4⟩ := hs
  simp only [m_impl_GoodStill, m_impl_GoodStill_0]
  rw [z_image _ m1, z_inR _ m2]
  simp only [Option.bind_some]
  unfold goodS
  cases hg : goodI s.image with
  | false => rfl
  | true =>
    obtain ⟨hsh, hpos⟩ := good_pos hg
    rw [if_pos rfl, Bool.true_and]
    by_cases h0 : s.palette.length ≤ 256
    · rw [if_neg (by simp; omega), decide_eq_true h0, Bool.and_true]
      cases s.palette.all (inRg 16777215) with
      | false => rfl
      | true =>
        rw [if_pos rfl, Bool.true_and]
        by_cases h1 : s.notes.length ≤ 20
        · rw [if_neg (by simp; omega), decide_eq_true h1, Bool.true_and, z_rest s hsh m3]
          by_cases h2 : s.palette.length = 0
          · rw [if_neg (by simp only [decide_eq_true_eq]; omega), decide_eq_true h2]
            rfl
          · rw [if_pos (decide_eq_true (by omega)), decide_eq_false h2, Bool.false_or]
            by_cases h3 : s.image.planes = 1
            · rw [if_neg (by simpa using h3)]
              by_cases h4 : s.image.depth ≤ 8
              · rw [if_neg (by simpa using h4), decide_eq_true ⟨h3, h4⟩, Bool.true_and, z_inR _ m1, w64_id (by omega) (by omega)]
                cases s.image.samples.all (inRg ((s.palette.length : Int) - 1)) <;> rfl
              · rw [if_pos (by simpa using h4), decide_eq_false (fun h => h4 h.2)]
                rfl
            · rw [if_pos (by simpa using h3), decide_eq_false (fun h => h3 h.1)]
              rfl
        · rw [if_pos (by simp; omega), decide_eq_false h1]
          rfl
    · rw [if_pos (by simp; omega), decide_eq_false h0, Bool.and_false]
      rfl
theorem col_loops (s : S_Still) : lp_spec_Colours_33 s = lp_impl_Colours_29 s := rfl
theorem colours_core (s : S_Still) (hs : Sm_S_Still s) : ∃ w : S_Image, m_spec_Colours s = some w ∧ m_impl_Colours s = some w ∧ Sm_S_Image w := by
  simp only [m_spec_Colours, m_spec_Colours_0, m_impl_Colours, m_impl_Colours_0]
  rw [s_still s hs, z_still s hs]
  simp only [Option.bind_some]
  cases hg : goodS s with
  | false => exact ⟨_, rfl, rfl, by simp [Sm_S_Image]⟩
  | true =>
    have hm1 : s.image.samples.length ≤ 1048576 := hs.1
    simp only [if_true]
    by_cases h0 : s.palette.length = 0
    · have hb : ((s.palette.length : Int) == 0) = true := by simp; exact List.eq_nil_of_length_eq_zero h0
      rw [hb]
      simp only [if_true]
      rw [ck_eq (by simp; omega), ck_eq (by omega)]
      exact ⟨s.image, rfl, rfl, hs.1⟩
    · have hb : ((s.palette.length : Int) == 0) = false := by rw [beq_eq_false_iff_ne]; omega
      rw [hb]
      simp only [Bool.false_eq_true, if_false]
      unfold goodS at hg
      simp only [Bool.and_eq_true, Bool.or_eq_true, decide_eq_true_eq] at hg
      obtain ⟨hi, _, _, h2 | h2, _⟩ := hg
      · exact absurd h2 h0
      · have hsh := (good_pos hi).1
        have hall := List.all_eq_true.1 h2.2
        have hlen : s.image.samples.length ≤ 4096 := by
          have h3 := hsh.2.2.2.2.2.2.2.2.2
          rw [h2.1.1] at h3
          have h4 := hsh.2.2.2.2.1
          omega
        have key := loopM_inv (b := lp_impl_Colours_29 s) (fun i (l : List Int) => ((i : Int), l)) s.image.samples.length (fun i l => l.length = 3 * i) (fun e => e.length ≤ 1048576) ?_ ?_ (s := []) rfl
        · obtain ⟨e, he, hl⟩ := key
          have he' : loopM (lp_impl_Colours_29 s) ((0 : Int), ([] : List Int)) = some e := he
          have he2 : loopM (lp_spec_Colours_33 s) ((0 : Int), ([] : List Int)) = some e := he
          rw [he', he2]
          exact ⟨_, rfl, rfl, hl⟩
        · intro i l hi hl
          left
          have hx := hall _ (List.getElem_mem hi)
          unfold inRg at hx
          rw [decide_eq_true_eq] at hx
          simp only [lp_impl_Colours_29, m_impl_Colours_29]
          rw [if_pos (by simp; omega), rd_eq hi]
          simp only [Option.bind_some]
          generalize s.image.samples[i] = x at hx
          rw [rd_eq' (i := x.toNat) (by omega) (by omega)]
          simp only [Option.bind_some]
          rw [ck_eq (by simp; omega), w64_succ (by omega)]
          exact ⟨_, rfl, by simp; omega⟩
        · intro l hl
          refine ⟨l, ?_, by omega⟩
          simp only [lp_impl_Colours_29, m_impl_Colours_29]
          rw [if_neg (by simp)]
theorem final_FnExactColours (x0 : S_Still) (w0 : wfS_Still x0) : m_laws_FnExactColours x0 = some true :=
  plain_FnExactColours x0 w0 (colours_core x0)
end Go.Proofs.V

/- printed by a program: the plain functions, the code and the proofs of one law -/
set_option linter.unusedVariables false
set_option maxRecDepth 100000
namespace Go.Proofs.V
open Go
def c_laws_szIntS_7 : VC :=
  .ite (.s 10) (.seq (.r 3 [⟨none, [], none, .mv 4 (.k (.int .i64 (-1)))⟩]) (.ret)) (.skip)
def c_laws_szIntS_12 : VC :=
  .seq (.r 4 [⟨none, [], none, .mv 11 (.s 1)⟩,
    ⟨none, [], none, .mv 4 (.s 11)⟩]) (.ret)
def c_laws_szIntS_4 : VC :=
  .seq (.seq (.r 2 [⟨none, [], none, .mv 9 (.s 1)⟩,
    ⟨none, [], none, .bin 10 .lss (.s 9) (.k (.int .i64 0))⟩]) c_laws_szIntS_7) c_laws_szIntS_12
def c_laws_szIntS_2 : VC :=
  .seq (.r 1 [⟨none, [], none, .mv 5 (.s 1)⟩,
    ⟨none, [], none, .mv 6 (.s 0)⟩,
    ⟨none, [], none, .len 7 (.s 6)⟩,
    ⟨none, [], none, .bin 8 .sub (.s 5) (.s 7)⟩,
    ⟨none, [], none, .mv 1 (.s 8)⟩]) c_laws_szIntS_4
def c_laws_szIntS_0 : VC :=
  .seq (.r 0 [⟨none, [], none, .mv 4 (.k (.int .i64 0))⟩]) c_laws_szIntS_2
def vf_laws_szIntS : VF := { pm := [.ro [.ro [.sc]], .ro [.sc]], rm := [.v [.sc]], nslots := 12, res := [4], rc := [], code := .kp [0, 1] c_laws_szIntS_0 }
def c_laws_szImage_7 : VC :=
  .ite (.s 10) (.seq (.r 3 [⟨none, [], none, .mv 4 (.k (.int .i64 (-1)))⟩]) (.ret)) (.skip)
def c_laws_szImage_12 : VC :=
  .seq (.r 4 [⟨none, [], none, .mv 11 (.s 1)⟩,
    ⟨none, [], none, .mv 4 (.s 11)⟩]) (.ret)
def c_laws_szImage_4 : VC :=
  .seq (.seq (.r 2 [⟨none, [], none, .mv 9 (.s 1)⟩,
    ⟨none, [], none, .bin 10 .lss (.s 9) (.k (.int .i64 0))⟩]) c_laws_szImage_7) c_laws_szImage_12
def c_laws_szImage_2 : VC :=
  .seq (.r 1 [⟨none, [], none, .fadr 5 (.s 2) 4⟩,
    ⟨none, [], none, .ld 6 (.s 5) 1 false⟩,
    ⟨none, [], none, .mv 7 (.s 1)⟩,
    ⟨none, [], none, .call 8 95 [(.s 6), (.s 7)]⟩,
    ⟨none, [], none, .mv 1 (.s 8)⟩]) c_laws_szImage_4
def c_laws_szImage_0 : VC :=
  .seq (.r 0 [⟨none, [], none, .box 2 (.s 0)⟩,
    ⟨none, [], none, .mv 4 (.k (.int .i64 0))⟩]) c_laws_szImage_2
def vf_laws_szImage : VF := { pm := [.ro [.sc, .sc, .sc, .sc, .ro [.sc]], .ro [.sc]], rm := [.v [.sc]], nslots := 12, res := [4], rc := [], code := .kp [0, 1] c_laws_szImage_0 }
def c_laws_szNote_7 : VC :=
  .ite (.s 11) (.seq (.r 3 [⟨none, [], none, .mv 4 (.k (.int .i64 (-1)))⟩]) (.ret)) (.skip)
def c_laws_szNote_17 : VC :=
  .ite (.s 18) (.seq (.r 6 [⟨none, [], none, .mv 4 (.k (.int .i64 (-1)))⟩]) (.ret)) (.skip)
def c_laws_szNote_22 : VC :=
  .seq (.r 7 [⟨none, [], none, .mv 19 (.s 1)⟩,
    ⟨none, [], none, .mv 4 (.s 19)⟩]) (.ret)
def c_laws_szNote_14 : VC :=
  .seq (.seq (.r 5 [⟨none, [], none, .mv 17 (.s 1)⟩,
    ⟨none, [], none, .bin 18 .lss (.s 17) (.k (.int .i64 0))⟩]) c_laws_szNote_17) c_laws_szNote_22
def c_laws_szNote_12 : VC :=
  .seq (.r 4 [⟨none, [], none, .mv 12 (.s 1)⟩,
    ⟨none, [], none, .fadr 13 (.s 2) 1⟩,
    ⟨none, [], none, .ld 14 (.s 13) 1 false⟩,
    ⟨none, [], none, .slen 15 (.s 14)⟩,
    ⟨none, [], none, .bin 16 .sub (.s 12) (.s 15)⟩,
    ⟨none, [], none, .mv 1 (.s 16)⟩]) c_laws_szNote_14
def c_laws_szNote_4 : VC :=
  .seq (.seq (.r 2 [⟨none, [], none, .mv 10 (.s 1)⟩,
    ⟨none, [], none, .bin 11 .lss (.s 10) (.k (.int .i64 0))⟩]) c_laws_szNote_7) c_laws_szNote_12
def c_laws_szNote_2 : VC :=
  .seq (.r 1 [⟨none, [], none, .mv 5 (.s 1)⟩,
    ⟨none, [], none, .fadr 6 (.s 2) 0⟩,
    ⟨none, [], none, .ld 7 (.s 6) 1 false⟩,
    ⟨none, [], none, .slen 8 (.s 7)⟩,
    ⟨none, [], none, .bin 9 .sub (.s 5) (.s 8)⟩,
    ⟨none, [], none, .mv 1 (.s 9)⟩]) c_laws_szNote_4
def c_laws_szNote_0 : VC :=
  .seq (.r 0 [⟨none, [], none, .box 2 (.s 0)⟩,
    ⟨none, [], none, .mv 4 (.k (.int .i64 0))⟩]) c_laws_szNote_2
def vf_laws_szNote : VF := { pm := [.ro [.sc, .sc], .ro [.sc]], rm := [.v [.sc]], nslots := 20, res := [4], rc := [], code := .kp [0, 1] c_laws_szNote_0 }
def c_laws_szNoteS_7 : VC :=
  .ite (.s 11) (.seq (.r 3 [⟨none, [], none, .mv 4 (.k (.int .i64 (-1)))⟩]) (.ret)) (.skip)
def c_laws_szNoteS_20 : VC :=
  .ite (.s 15) (.skip) (.exit 0)
def c_laws_szNoteS_29 : VC :=
  .ite (.s 25) (.seq (.r 9 [⟨none, [], none, .mv 4 (.k (.int .i64 (-1)))⟩]) (.ret)) (.skip)
def c_laws_szNoteS_27 : VC :=
  .seq (.r 8 [⟨none, [], none, .mv 24 (.s 1)⟩,
    ⟨none, [], none, .bin 25 .lss (.s 24) (.k (.int .i64 0))⟩]) c_laws_szNoteS_29
def c_laws_szNoteS_34 : VC :=
  .r 6 [⟨none, [], none, .mv 16 (.s 5)⟩,
    ⟨none, [], none, .bin 17 .add (.s 16) (.k (.int .i64 1))⟩,
    ⟨none, [], none, .mv 5 (.s 17)⟩]
def c_laws_szNoteS_23 : VC :=
  .seq (.blk 1 (.seq (.r 7 [⟨none, [], none, .mv 18 (.s 0)⟩,
    ⟨none, [], none, .mv 19 (.s 5)⟩,
    ⟨none, [], none, .iadr 20 (.s 18) (.s 19) 2⟩,
    ⟨none, [], none, .ld 21 (.s 20) 2 true⟩,
    ⟨none, [], none, .mv 22 (.s 1)⟩,
    ⟨none, [], none, .call 23 162 [(.s 21), (.s 22)]⟩,
    ⟨none, [], none, .mv 1 (.s 23)⟩]) c_laws_szNoteS_27)) c_laws_szNoteS_34
def c_laws_szNoteS_17 : VC :=
  .seq (.seq (.r 5 [⟨none, [], none, .mv 12 (.s 5)⟩,
    ⟨none, [], none, .mv 13 (.s 0)⟩,
    ⟨none, [], none, .len 14 (.s 13)⟩,
    ⟨none, [], none, .bin 15 .lss (.s 12) (.s 14)⟩]) c_laws_szNoteS_20) c_laws_szNoteS_23
def c_laws_szNoteS_15 : VC :=
  .blk 0 (.loop [0, 1, 5] c_laws_szNoteS_17)
def c_laws_szNoteS_35 : VC :=
  .seq (.r 10 [⟨none, [], none, .mv 26 (.s 1)⟩,
    ⟨none, [], none, .mv 4 (.s 26)⟩]) (.ret)
def c_laws_szNoteS_12 : VC :=
  .seq (.seq (.r 4 [⟨none, [], none, .mv 5 (.k (.int .i64 0))⟩]) c_laws_szNoteS_15) (.kp [1] c_laws_szNoteS_35)
def c_laws_szNoteS_4 : VC :=
  .seq (.seq (.r 2 [⟨none, [], none, .mv 10 (.s 1)⟩,
    ⟨none, [], none, .bin 11 .lss (.s 10) (.k (.int .i64 0))⟩]) c_laws_szNoteS_7) c_laws_szNoteS_12
def c_laws_szNoteS_2 : VC :=
  .seq (.r 1 [⟨none, [], none, .mv 6 (.s 1)⟩,
    ⟨none, [], none, .mv 7 (.s 0)⟩,
    ⟨none, [], none, .len 8 (.s 7)⟩,
    ⟨none, [], none, .bin 9 .sub (.s 6) (.s 8)⟩,
    ⟨none, [], none, .mv 1 (.s 9)⟩]) c_laws_szNoteS_4
def c_laws_szNoteS_0 : VC :=
  .seq (.r 0 [⟨none, [], none, .mv 4 (.k (.int .i64 0))⟩]) c_laws_szNoteS_2
def vf_laws_szNoteS : VF := { pm := [.ro [.ro [.sc, .sc]], .ro [.sc]], rm := [.v [.sc]], nslots := 27, res := [4], rc := [], code := .kp [0, 1] c_laws_szNoteS_0 }
def c_laws_szStill_7 : VC :=
  .ite (.s 10) (.seq (.r 3 [⟨none, [], none, .mv 4 (.k (.int .i64 (-1)))⟩]) (.ret)) (.skip)
def c_laws_szStill_17 : VC :=
  .ite (.s 16) (.seq (.r 6 [⟨none, [], none, .mv 4 (.k (.int .i64 (-1)))⟩]) (.ret)) (.skip)
def c_laws_szStill_27 : VC :=
  .ite (.s 22) (.seq (.r 9 [⟨none, [], none, .mv 4 (.k (.int .i64 (-1)))⟩]) (.ret)) (.skip)
def c_laws_szStill_32 : VC :=
  .seq (.r 10 [⟨none, [], none, .mv 23 (.s 1)⟩,
    ⟨none, [], none, .mv 4 (.s 23)⟩]) (.ret)
def c_laws_szStill_24 : VC :=
  .seq (.seq (.r 8 [⟨none, [], none, .mv 21 (.s 1)⟩,
    ⟨none, [], none, .bin 22 .lss (.s 21) (.k (.int .i64 0))⟩]) c_laws_szStill_27) c_laws_szStill_32
def c_laws_szStill_22 : VC :=
  .seq (.r 7 [⟨none, [], none, .fadr 17 (.s 2) 6⟩,
    ⟨none, [], none, .ld 18 (.s 17) 1 false⟩,
    ⟨none, [], none, .mv 19 (.s 1)⟩,
    ⟨none, [], none, .call 20 96 [(.s 18), (.s 19)]⟩,
    ⟨none, [], none, .mv 1 (.s 20)⟩]) c_laws_szStill_24
def c_laws_szStill_14 : VC :=
  .seq (.seq (.r 5 [⟨none, [], none, .mv 15 (.s 1)⟩,
    ⟨none, [], none, .bin 16 .lss (.s 15) (.k (.int .i64 0))⟩]) c_laws_szStill_17) c_laws_szStill_22
def c_laws_szStill_12 : VC :=
  .seq (.r 4 [⟨none, [], none, .fadr 11 (.s 2) 5⟩,
    ⟨none, [], none, .ld 12 (.s 11) 1 false⟩,
    ⟨none, [], none, .mv 13 (.s 1)⟩,
    ⟨none, [], none, .call 14 95 [(.s 12), (.s 13)]⟩,
    ⟨none, [], none, .mv 1 (.s 14)⟩]) c_laws_szStill_14
def c_laws_szStill_4 : VC :=
  .seq (.seq (.r 2 [⟨none, [], none, .mv 9 (.s 1)⟩,
    ⟨none, [], none, .bin 10 .lss (.s 9) (.k (.int .i64 0))⟩]) c_laws_szStill_7) c_laws_szStill_12
def c_laws_szStill_2 : VC :=
  .seq (.r 1 [⟨none, [], none, .fadr 5 (.s 2) 0⟩,
    ⟨none, [], none, .ld 6 (.s 5) 5 true⟩,
    ⟨none, [], none, .mv 7 (.s 1)⟩,
    ⟨none, [], none, .call 8 94 [(.s 6), (.s 7)]⟩,
    ⟨none, [], none, .mv 1 (.s 8)⟩]) c_laws_szStill_4
def c_laws_szStill_0 : VC :=
  .seq (.r 0 [⟨none, [], none, .box 2 (.s 0)⟩,
    ⟨none, [], none, .mv 4 (.k (.int .i64 0))⟩]) c_laws_szStill_2
def vf_laws_szStill : VF := { pm := [.ro [.sc, .sc, .sc, .sc, .ro [.sc], .ro [.sc], .ro [.sc, .sc], .sc], .ro [.sc]], rm := [.v [.sc]], nslots := 24, res := [4], rc := [], code := .kp [0, 1] c_laws_szStill_0 }
def c_laws_toIntS_12 : VC :=
  .ite (.s 11) (.skip) (.exit 0)
def c_laws_toIntS_18 : VC :=
  .r 4 [⟨none, [], none, .mv 12 (.s 4)⟩,
    ⟨none, [], none, .bin 13 .add (.s 12) (.k (.int .i64 1))⟩,
    ⟨none, [], none, .mv 4 (.s 13)⟩]
def c_laws_toIntS_15 : VC :=
  .seq (.blk 1 (.r 5 [⟨none, [], none, .mv 14 (.s 3)⟩,
    ⟨none, [], none, .mv 15 (.s 4)⟩,
    ⟨none, [], none, .mv 16 (.s 0)⟩,
    ⟨none, [], none, .mv 17 (.s 4)⟩,
    ⟨none, [], none, .iadr 18 (.s 16) (.s 17) 1⟩,
    ⟨none, [], none, .ld 19 (.s 18) 1 false⟩,
    ⟨none, [], none, .iadr 20 (.s 14) (.s 15) 1⟩,
    ⟨none, [], none, .st (.s 20) (.s 19) 1⟩])) c_laws_toIntS_18
def c_laws_toIntS_9 : VC :=
  .seq (.seq (.r 3 [⟨none, [], none, .mv 8 (.s 4)⟩,
    ⟨none, [], none, .mv 9 (.s 0)⟩,
    ⟨none, [], none, .len 10 (.s 9)⟩,
    ⟨none, [], none, .bin 11 .lss (.s 8) (.s 10)⟩]) c_laws_toIntS_12) c_laws_toIntS_15
def c_laws_toIntS_7 : VC :=
  .blk 0 (.loop [0, 3, 4] c_laws_toIntS_9)
def c_laws_toIntS_19 : VC :=
  .seq (.r 6 [⟨none, [], none, .mv 21 (.s 3)⟩,
    ⟨none, [], none, .mv 2 (.s 21)⟩]) (.ret)
def c_laws_toIntS_4 : VC :=
  .seq (.seq (.r 2 [⟨none, [], none, .mv 4 (.k (.int .i64 0))⟩]) c_laws_toIntS_7) (.kp [3] c_laws_toIntS_19)
def c_laws_toIntS_2 : VC :=
  .seq (.r 1 [⟨none, [], none, .mv 5 (.s 0)⟩,
    ⟨none, [], none, .len 6 (.s 5)⟩,
    ⟨none, [], none, .mk 7 (.s 6) [.sc] [(.int .i64 0)] 17592186044416⟩,
    ⟨none, [], none, .mv 3 (.s 7)⟩]) c_laws_toIntS_4
def c_laws_toIntS_0 : VC :=
  .seq (.r 0 [⟨none, [], none, .nil 2 [.sc]⟩]) c_laws_toIntS_2
def vf_laws_toIntS : VF := { pm := [.ro [.ro [.sc]]], rm := [.v [.own [.sc]]], nslots := 22, res := [2], rc := [], code := .kp [0] c_laws_toIntS_0 }
def c_laws_toImage_14 : VC :=
  .seq (.r 7 [⟨none, [], none, .ld 20 (.s 3) 5 true⟩,
    ⟨none, [], none, .st (.s 2) (.s 20) 5⟩]) (.ret)
def c_laws_toImage_12 : VC :=
  .seq (.r 6 [⟨none, [], none, .fadr 16 (.s 1) 4⟩,
    ⟨none, [], none, .ld 17 (.s 16) 1 false⟩,
    ⟨none, [], none, .call 18 60 [(.s 17)]⟩,
    ⟨none, [], none, .fadr 19 (.s 3) 4⟩,
    ⟨none, [], none, .st (.s 19) (.s 18) 1⟩]) c_laws_toImage_14
def c_laws_toImage_10 : VC :=
  .seq (.r 5 [⟨none, [], none, .fadr 13 (.s 1) 3⟩,
    ⟨none, [], none, .ld 14 (.s 13) 1 false⟩,
    ⟨none, [], none, .fadr 15 (.s 3) 3⟩,
    ⟨none, [], none, .st (.s 15) (.s 14) 1⟩]) c_laws_toImage_12
def c_laws_toImage_8 : VC :=
  .seq (.r 4 [⟨none, [], none, .fadr 10 (.s 1) 2⟩,
    ⟨none, [], none, .ld 11 (.s 10) 1 false⟩,
    ⟨none, [], none, .fadr 12 (.s 3) 2⟩,
    ⟨none, [], none, .st (.s 12) (.s 11) 1⟩]) c_laws_toImage_10
def c_laws_toImage_6 : VC :=
  .seq (.r 3 [⟨none, [], none, .fadr 7 (.s 1) 1⟩,
    ⟨none, [], none, .ld 8 (.s 7) 1 false⟩,
    ⟨none, [], none, .fadr 9 (.s 3) 1⟩,
    ⟨none, [], none, .st (.s 9) (.s 8) 1⟩]) c_laws_toImage_8
def c_laws_toImage_4 : VC :=
  .seq (.r 2 [⟨none, [], none, .fadr 4 (.s 1) 0⟩,
    ⟨none, [], none, .ld 5 (.s 4) 1 false⟩,
    ⟨none, [], none, .fadr 6 (.s 3) 0⟩,
    ⟨none, [], none, .st (.s 6) (.s 5) 1⟩]) c_laws_toImage_6
def c_laws_toImage_2 : VC :=
  .seq (.r 1 [⟨none, [], none, .alloc 3 [.k (.int .i64 0), .k (.int .i64 0), .k (.int .i64 0), .k (.int .i64 0), .o [.sc]]⟩]) c_laws_toImage_4
def c_laws_toImage_0 : VC :=
  .seq (.r 0 [⟨none, [], none, .box 1 (.s 0)⟩,
    ⟨none, [], none, .alloc 2 [.k (.int .i64 0), .k (.int .i64 0), .k (.int .i64 0), .k (.int .i64 0), .o [.sc]]⟩]) c_laws_toImage_2
def vf_laws_toImage : VF := { pm := [.ro [.sc, .sc, .sc, .sc, .ro [.sc]]], rm := [.v [.sc, .sc, .sc, .sc, .own [.sc]]], nslots := 21, res := [2], rc := [some (5, true)], code := .kp [0] c_laws_toImage_0 }
def c_laws_toNote_8 : VC :=
  .seq (.r 4 [⟨none, [], none, .ld 10 (.s 3) 2 true⟩,
    ⟨none, [], none, .st (.s 2) (.s 10) 2⟩]) (.ret)
def c_laws_toNote_6 : VC :=
  .seq (.r 3 [⟨none, [], none, .fadr 7 (.s 1) 1⟩,
    ⟨none, [], none, .ld 8 (.s 7) 1 false⟩,
    ⟨none, [], none, .fadr 9 (.s 3) 1⟩,
    ⟨none, [], none, .st (.s 9) (.s 8) 1⟩]) c_laws_toNote_8
def c_laws_toNote_4 : VC :=
  .seq (.r 2 [⟨none, [], none, .fadr 4 (.s 1) 0⟩,
    ⟨none, [], none, .ld 5 (.s 4) 1 false⟩,
    ⟨none, [], none, .fadr 6 (.s 3) 0⟩,
    ⟨none, [], none, .st (.s 6) (.s 5) 1⟩]) c_laws_toNote_6
def c_laws_toNote_2 : VC :=
  .seq (.r 1 [⟨none, [], none, .alloc 3 [.k (.string (ByteArray.mk #[])), .k (.string (ByteArray.mk #[]))]⟩]) c_laws_toNote_4
def c_laws_toNote_0 : VC :=
  .seq (.r 0 [⟨none, [], none, .box 1 (.s 0)⟩,
    ⟨none, [], none, .alloc 2 [.k (.string (ByteArray.mk #[])), .k (.string (ByteArray.mk #[]))]⟩]) c_laws_toNote_2
def vf_laws_toNote : VF := { pm := [.ro [.sc, .sc]], rm := [.v [.sc, .sc]], nslots := 11, res := [2], rc := [some (2, true)], code := .kp [0] c_laws_toNote_0 }
def c_laws_toNoteS_12 : VC :=
  .ite (.s 11) (.skip) (.exit 0)
def c_laws_toNoteS_18 : VC :=
  .r 4 [⟨none, [], none, .mv 12 (.s 4)⟩,
    ⟨none, [], none, .bin 13 .add (.s 12) (.k (.int .i64 1))⟩,
    ⟨none, [], none, .mv 4 (.s 13)⟩]
def c_laws_toNoteS_15 : VC :=
  .seq (.blk 1 (.r 5 [⟨none, [], none, .mv 14 (.s 3)⟩,
    ⟨none, [], none, .mv 15 (.s 4)⟩,
    ⟨none, [], none, .mv 16 (.s 0)⟩,
    ⟨none, [], none, .mv 17 (.s 4)⟩,
    ⟨none, [], none, .iadr 18 (.s 16) (.s 17) 2⟩,
    ⟨none, [], none, .ld 19 (.s 18) 2 true⟩,
    ⟨none, [], none, .call 20 167 [(.s 19)]⟩,
    ⟨none, [], none, .iadr 21 (.s 14) (.s 15) 2⟩,
    ⟨none, [], none, .st (.s 21) (.s 20) 2⟩])) c_laws_toNoteS_18
def c_laws_toNoteS_9 : VC :=
  .seq (.seq (.r 3 [⟨none, [], none, .mv 8 (.s 4)⟩,
    ⟨none, [], none, .mv 9 (.s 0)⟩,
    ⟨none, [], none, .len 10 (.s 9)⟩,
    ⟨none, [], none, .bin 11 .lss (.s 8) (.s 10)⟩]) c_laws_toNoteS_12) c_laws_toNoteS_15
def c_laws_toNoteS_7 : VC :=
  .blk 0 (.loop [0, 3, 4] c_laws_toNoteS_9)
def c_laws_toNoteS_19 : VC :=
  .seq (.r 6 [⟨none, [], none, .mv 22 (.s 3)⟩,
    ⟨none, [], none, .mv 2 (.s 22)⟩]) (.ret)
def c_laws_toNoteS_4 : VC :=
  .seq (.seq (.r 2 [⟨none, [], none, .mv 4 (.k (.int .i64 0))⟩]) c_laws_toNoteS_7) (.kp [3] c_laws_toNoteS_19)
def c_laws_toNoteS_2 : VC :=
  .seq (.r 1 [⟨none, [], none, .mv 5 (.s 0)⟩,
    ⟨none, [], none, .len 6 (.s 5)⟩,
    ⟨none, [], none, .mk 7 (.s 6) [.sc, .sc] [(.string (ByteArray.mk #[])), (.string (ByteArray.mk #[]))] 4398046511104⟩,
    ⟨none, [], none, .mv 3 (.s 7)⟩]) c_laws_toNoteS_4
def c_laws_toNoteS_0 : VC :=
  .seq (.r 0 [⟨none, [], none, .nil 2 [.sc, .sc]⟩]) c_laws_toNoteS_2
def vf_laws_toNoteS : VF := { pm := [.ro [.ro [.sc, .sc]]], rm := [.v [.own [.sc, .sc]]], nslots := 23, res := [2], rc := [], code := .kp [0] c_laws_toNoteS_0 }
def c_laws_toStill_12 : VC :=
  .seq (.r 6 [⟨none, [], none, .ld 19 (.s 3) 8 true⟩,
    ⟨none, [], none, .st (.s 2) (.s 19) 8⟩]) (.ret)
def c_laws_toStill_10 : VC :=
  .seq (.r 5 [⟨none, [], none, .fadr 16 (.s 1) 7⟩,
    ⟨none, [], none, .ld 17 (.s 16) 1 false⟩,
    ⟨none, [], none, .fadr 18 (.s 3) 7⟩,
    ⟨none, [], none, .st (.s 18) (.s 17) 1⟩]) c_laws_toStill_12
def c_laws_toStill_8 : VC :=
  .seq (.r 4 [⟨none, [], none, .fadr 12 (.s 1) 6⟩,
    ⟨none, [], none, .ld 13 (.s 12) 1 false⟩,
    ⟨none, [], none, .call 14 102 [(.s 13)]⟩,
    ⟨none, [], none, .fadr 15 (.s 3) 6⟩,
    ⟨none, [], none, .st (.s 15) (.s 14) 1⟩]) c_laws_toStill_10
def c_laws_toStill_6 : VC :=
  .seq (.r 3 [⟨none, [], none, .fadr 8 (.s 1) 5⟩,
    ⟨none, [], none, .ld 9 (.s 8) 1 false⟩,
    ⟨none, [], none, .call 10 60 [(.s 9)]⟩,
    ⟨none, [], none, .fadr 11 (.s 3) 5⟩,
    ⟨none, [], none, .st (.s 11) (.s 10) 1⟩]) c_laws_toStill_8
def c_laws_toStill_4 : VC :=
  .seq (.r 2 [⟨none, [], none, .fadr 4 (.s 1) 0⟩,
    ⟨none, [], none, .ld 5 (.s 4) 5 true⟩,
    ⟨none, [], none, .call 6 101 [(.s 5)]⟩,
    ⟨none, [], none, .fadr 7 (.s 3) 0⟩,
    ⟨none, [], none, .st (.s 7) (.s 6) 5⟩]) c_laws_toStill_6
def c_laws_toStill_2 : VC :=
  .seq (.r 1 [⟨none, [], none, .alloc 3 [.k (.int .i64 0), .k (.int .i64 0), .k (.int .i64 0), .k (.int .i64 0), .o [.sc], .o [.sc], .o [.sc, .sc], .k (.bool false)]⟩]) c_laws_toStill_4
def c_laws_toStill_0 : VC :=
  .seq (.r 0 [⟨none, [], none, .box 1 (.s 0)⟩,
    ⟨none, [], none, .alloc 2 [.k (.int .i64 0), .k (.int .i64 0), .k (.int .i64 0), .k (.int .i64 0), .o [.sc], .o [.sc], .o [.sc, .sc], .k (.bool false)]⟩]) c_laws_toStill_2
def vf_laws_toStill : VF := { pm := [.ro [.sc, .sc, .sc, .sc, .ro [.sc], .ro [.sc], .ro [.sc, .sc], .sc]], rm := [.v [.sc, .sc, .sc, .sc, .own [.sc], .own [.sc], .own [.sc, .sc], .sc]], nslots := 20, res := [2], rc := [some (8, true)], code := .kp [0] c_laws_toStill_0 }
def c_spec_l4Sides_2 : VC :=
  .seq (.r 1 [⟨none, [], none, .mv 5 (.s 0)⟩,
    ⟨none, [], none, .bin 6 .geq (.s 5) (.k (.int .i64 1))⟩,
    ⟨none, [], none, .mv 7 (.s 6)⟩,
    ⟨none, [], some (7, true), .mv 8 (.s 0)⟩,
    ⟨none, [], some (7, true), .bin 9 .leq (.s 8) (.k (.int .i64 512))⟩,
    ⟨none, [], none, .pick 10 (.s 7) (.s 9) (.k (.bool false))⟩,
    ⟨none, [], none, .mv 11 (.s 10)⟩,
    ⟨none, [], some (11, true), .mv 12 (.s 1)⟩,
    ⟨none, [], some (11, true), .bin 13 .geq (.s 12) (.k (.int .i64 1))⟩,
    ⟨none, [], none, .pick 14 (.s 11) (.s 13) (.k (.bool false))⟩,
    ⟨none, [], none, .mv 15 (.s 14)⟩,
    ⟨none, [], some (15, true), .mv 16 (.s 1)⟩,
    ⟨none, [], some (15, true), .bin 17 .leq (.s 16) (.k (.int .i64 512))⟩,
    ⟨none, [], none, .pick 18 (.s 15) (.s 17) (.k (.bool false))⟩,
    ⟨none, [], none, .mv 4 (.s 18)⟩]) (.ret)
def c_spec_l4Sides_0 : VC :=
  .seq (.r 0 [⟨none, [], none, .mv 4 (.k (.bool false))⟩]) c_spec_l4Sides_2
def vf_spec_l4Sides : VF := { pm := [.ro [.sc], .ro [.sc]], rm := [.v [.sc]], nslots := 19, res := [4], rc := [], code := .kp [0, 1] c_spec_l4Sides_0 }
def c_spec_l4Depth_2 : VC :=
  .seq (.r 1 [⟨none, [], none, .mv 3 (.s 0)⟩,
    ⟨none, [], none, .bin 4 .eql (.s 3) (.k (.int .i64 1))⟩,
    ⟨none, [], none, .mv 5 (.s 4)⟩,
    ⟨none, [], some (5, false), .mv 6 (.s 0)⟩,
    ⟨none, [], some (5, false), .bin 7 .eql (.s 6) (.k (.int .i64 2))⟩,
    ⟨none, [], none, .pick 8 (.s 5) (.k (.bool true)) (.s 7)⟩,
    ⟨none, [], none, .mv 9 (.s 8)⟩,
    ⟨none, [], some (9, false), .mv 10 (.s 0)⟩,
    ⟨none, [], some (9, false), .bin 11 .eql (.s 10) (.k (.int .i64 4))⟩,
    ⟨none, [], none, .pick 12 (.s 9) (.k (.bool true)) (.s 11)⟩,
    ⟨none, [], none, .mv 13 (.s 12)⟩,
    ⟨none, [], some (13, false), .mv 14 (.s 0)⟩,
    ⟨none, [], some (13, false), .bin 15 .eql (.s 14) (.k (.int .i64 8))⟩,
    ⟨none, [], none, .pick 16 (.s 13) (.k (.bool true)) (.s 15)⟩,
    ⟨none, [], none, .mv 17 (.s 16)⟩,
    ⟨none, [], some (17, false), .mv 18 (.s 0)⟩,
    ⟨none, [], some (17, false), .bin 19 .eql (.s 18) (.k (.int .i64 16))⟩,
    ⟨none, [], none, .pick 20 (.s 17) (.k (.bool true)) (.s 19)⟩,
    ⟨none, [], none, .mv 2 (.s 20)⟩]) (.ret)
def c_spec_l4Depth_0 : VC :=
  .seq (.r 0 [⟨none, [], none, .mv 2 (.k (.bool false))⟩]) c_spec_l4Depth_2
def vf_spec_l4Depth : VF := { pm := [.ro [.sc]], rm := [.v [.sc]], nslots := 21, res := [2], rc := [], code := .kp [0] c_spec_l4Depth_0 }
def c_spec_GoodImage_5 : VC :=
  .ite (.s 34) (.seq (.r 2 [⟨none, [], none, .mv 2 (.k (.bool false))⟩]) (.ret)) (.skip)
def c_spec_GoodImage_13 : VC :=
  .ite (.s 56) (.seq (.r 4 [⟨none, [], none, .mv 2 (.k (.bool false))⟩]) (.ret)) (.skip)
def c_spec_GoodImage_35 : VC :=
  .ite (.s 73) (.seq (.r 9 [⟨none, [], none, .mv 2 (.k (.bool false))⟩]) (.ret)) (.skip)
def c_spec_GoodImage_33 : VC :=
  .seq (.r 8 [⟨none, [], none, .mv 64 (.s 4)⟩,
    ⟨none, [], none, .bin 65 .lss (.s 64) (.k (.int .i64 0))⟩,
    ⟨none, [], none, .mv 66 (.s 65)⟩,
    ⟨none, [], some (66, false), .mv 67 (.s 4)⟩,
    ⟨none, [], some (66, false), .fadr 68 (.s 1) 3⟩,
    ⟨none, [], some (66, false), .ld 69 (.s 68) 1 false⟩,
    ⟨none, [], some (66, false), .conv 70 .u64 (.s 69)⟩,
    ⟨none, [], some (66, false), .bin 71 .shl (.k (.int .i64 1)) (.s 70)⟩,
    ⟨none, [], some (66, false), .bin 72 .geq (.s 67) (.s 71)⟩,
    ⟨none, [], none, .pick 73 (.s 66) (.k (.bool true)) (.s 72)⟩]) c_spec_GoodImage_35
def c_spec_GoodImage_40 : VC :=
  .r 10 [⟨none, [], none, .bin 74 .add (.s 60) (.k (.int .i64 1))⟩,
    ⟨none, [], none, .mv 60 (.s 74)⟩]
def c_spec_GoodImage_29 : VC :=
  .seq (.blk 1 (.seq (.r 7 [⟨none, [], none, .iadr 62 (.s 58) (.s 60) 1⟩,
    ⟨none, [], none, .ld 63 (.s 62) 1 false⟩,
    ⟨none, [], none, .mv 4 (.s 63)⟩]) c_spec_GoodImage_33)) c_spec_GoodImage_40
def c_spec_GoodImage_25 : VC :=
  .seq (.ite (.s 61) (.skip) (.exit 0)) c_spec_GoodImage_29
def c_spec_GoodImage_23 : VC :=
  .seq (.r 6 [⟨none, [], none, .bin 61 .lss (.s 60) (.s 59)⟩]) c_spec_GoodImage_25
def c_spec_GoodImage_21 : VC :=
  .blk 0 (.loop [1, 58, 59, 60] c_spec_GoodImage_23)
def c_spec_GoodImage_41 : VC :=
  .seq (.r 11 [⟨none, [], none, .mv 2 (.k (.bool true))⟩]) (.ret)
def c_spec_GoodImage_18 : VC :=
  .seq (.seq (.r 5 [⟨none, [], none, .fadr 57 (.s 1) 4⟩,
    ⟨none, [], none, .ld 58 (.s 57) 1 false⟩,
    ⟨none, [], none, .len 59 (.s 58)⟩,
    ⟨none, [], none, .mv 60 (.k (.int .i64 0))⟩]) c_spec_GoodImage_21) (.kp [] c_spec_GoodImage_41)
def c_spec_GoodImage_10 : VC :=
  .seq (.seq (.r 3 [⟨none, [], none, .fadr 35 (.s 1) 2⟩,
    ⟨none, [], none, .ld 36 (.s 35) 1 false⟩,
    ⟨none, [], none, .bin 37 .gtr (.s 36) (.k (.int .i64 1))⟩,
    ⟨none, [], none, .mv 38 (.s 37)⟩,
    ⟨none, [], some (38, true), .fadr 39 (.s 1) 3⟩,
    ⟨none, [], some (38, true), .ld 40 (.s 39) 1 false⟩,
    ⟨none, [], some (38, true), .bin 41 .lss (.s 40) (.k (.int .i64 8))⟩,
    ⟨none, [], none, .pick 42 (.s 38) (.s 41) (.k (.bool false))⟩,
    ⟨none, [], none, .mv 43 (.s 42)⟩,
    ⟨none, [], some (43, false), .fadr 44 (.s 1) 4⟩,
    ⟨none, [], some (43, false), .ld 45 (.s 44) 1 false⟩,
    ⟨none, [], some (43, false), .len 46 (.s 45)⟩,
    ⟨none, [], some (43, false), .fadr 47 (.s 1) 0⟩,
    ⟨none, [], some (43, false), .ld 48 (.s 47) 1 false⟩,
    ⟨none, [], some (43, false), .fadr 49 (.s 1) 1⟩,
    ⟨none, [], some (43, false), .ld 50 (.s 49) 1 false⟩,
    ⟨none, [], some (43, false), .bin 51 .mul (.s 48) (.s 50)⟩,
    ⟨none, [], some (43, false), .fadr 52 (.s 1) 2⟩,
    ⟨none, [], some (43, false), .ld 53 (.s 52) 1 false⟩,
    ⟨none, [], some (43, false), .bin 54 .mul (.s 51) (.s 53)⟩,
    ⟨none, [], some (43, false), .bin 55 .neq (.s 46) (.s 54)⟩,
    ⟨none, [], none, .pick 56 (.s 43) (.k (.bool true)) (.s 55)⟩]) c_spec_GoodImage_13) (.kp [1] c_spec_GoodImage_18)
def c_spec_GoodImage_2 : VC :=
  .seq (.seq (.r 1 [⟨none, [], none, .fadr 5 (.s 1) 0⟩,
    ⟨none, [], none, .ld 6 (.s 5) 1 false⟩,
    ⟨none, [], none, .fadr 7 (.s 1) 1⟩,
    ⟨none, [], none, .ld 8 (.s 7) 1 false⟩,
    ⟨none, [], none, .call 9 163 [(.s 6), (.s 8)]⟩,
    ⟨none, [], none, .un 10 .not (.s 9)⟩,
    ⟨none, [], none, .mv 11 (.s 10)⟩,
    ⟨none, [], some (11, false), .fadr 12 (.s 1) 0⟩,
    ⟨none, [], some (11, false), .ld 13 (.s 12) 1 false⟩,
    ⟨none, [], some (11, false), .fadr 14 (.s 1) 1⟩,
    ⟨none, [], some (11, false), .ld 15 (.s 14) 1 false⟩,
    ⟨none, [], some (11, false), .bin 16 .mul (.s 13) (.s 15)⟩,
    ⟨none, [], some (11, false), .bin 17 .gtr (.s 16) (.k (.int .i64 4096))⟩,
    ⟨none, [], none, .pick 18 (.s 11) (.k (.bool true)) (.s 17)⟩,
    ⟨none, [], none, .mv 19 (.s 18)⟩,
    ⟨none, [], some (19, false), .fadr 20 (.s 1) 2⟩,
    ⟨none, [], some (19, false), .ld 21 (.s 20) 1 false⟩,
    ⟨none, [], some (19, false), .bin 22 .lss (.s 21) (.k (.int .i64 1))⟩,
    ⟨none, [], none, .pick 23 (.s 19) (.k (.bool true)) (.s 22)⟩,
    ⟨none, [], none, .mv 24 (.s 23)⟩,
    ⟨none, [], some (24, false), .fadr 25 (.s 1) 2⟩,
    ⟨none, [], some (24, false), .ld 26 (.s 25) 1 false⟩,
    ⟨none, [], some (24, false), .bin 27 .gtr (.s 26) (.k (.int .i64 4))⟩,
    ⟨none, [], none, .pick 28 (.s 24) (.k (.bool true)) (.s 27)⟩,
    ⟨none, [], none, .mv 29 (.s 28)⟩,
    ⟨none, [], some (29, false), .fadr 30 (.s 1) 3⟩,
    ⟨none, [], some (29, false), .ld 31 (.s 30) 1 false⟩,
    ⟨none, [], some (29, false), .call 32 164 [(.s 31)]⟩,
    ⟨none, [], some (29, false), .un 33 .not (.s 32)⟩,
    ⟨none, [], none, .pick 34 (.s 29) (.k (.bool true)) (.s 33)⟩]) c_spec_GoodImage_5) c_spec_GoodImage_10
def c_spec_GoodImage_0 : VC :=
  .seq (.r 0 [⟨none, [], none, .box 1 (.s 0)⟩,
    ⟨none, [], none, .mv 2 (.k (.bool false))⟩]) c_spec_GoodImage_2
def vf_spec_GoodImage : VF := { pm := [.ro [.sc, .sc, .sc, .sc, .ro [.sc]]], rm := [.v [.sc]], nslots := 75, res := [2], rc := [], code := .kp [0] c_spec_GoodImage_0 }
def c_spec_l5Colours_19 : VC :=
  .ite (.s 16) (.seq (.r 5 [⟨none, [], none, .mv 2 (.k (.bool false))⟩]) (.ret)) (.skip)
def c_spec_l5Colours_17 : VC :=
  .seq (.r 4 [⟨none, [], none, .mv 11 (.s 4)⟩,
    ⟨none, [], none, .bin 12 .lss (.s 11) (.k (.int .i64 0))⟩,
    ⟨none, [], none, .mv 13 (.s 12)⟩,
    ⟨none, [], some (13, false), .mv 14 (.s 4)⟩,
    ⟨none, [], some (13, false), .bin 15 .gtr (.s 14) (.k (.int .i64 16777215))⟩,
    ⟨none, [], none, .pick 16 (.s 13) (.k (.bool true)) (.s 15)⟩]) c_spec_l5Colours_19
def c_spec_l5Colours_24 : VC :=
  .r 6 [⟨none, [], none, .bin 17 .add (.s 7) (.k (.int .i64 1))⟩,
    ⟨none, [], none, .mv 7 (.s 17)⟩]
def c_spec_l5Colours_13 : VC :=
  .seq (.blk 1 (.seq (.r 3 [⟨none, [], none, .iadr 9 (.s 5) (.s 7) 1⟩,
    ⟨none, [], none, .ld 10 (.s 9) 1 false⟩,
    ⟨none, [], none, .mv 4 (.s 10)⟩]) c_spec_l5Colours_17)) c_spec_l5Colours_24
def c_spec_l5Colours_9 : VC :=
  .seq (.ite (.s 8) (.skip) (.exit 0)) c_spec_l5Colours_13
def c_spec_l5Colours_7 : VC :=
  .seq (.r 2 [⟨none, [], none, .bin 8 .lss (.s 7) (.s 6)⟩]) c_spec_l5Colours_9
def c_spec_l5Colours_5 : VC :=
  .blk 0 (.loop [0, 5, 6, 7] c_spec_l5Colours_7)
def c_spec_l5Colours_25 : VC :=
  .seq (.r 7 [⟨none, [], none, .mv 18 (.s 0)⟩,
    ⟨none, [], none, .len 19 (.s 18)⟩,
    ⟨none, [], none, .bin 20 .leq (.s 19) (.k (.int .i64 256))⟩,
    ⟨none, [], none, .mv 2 (.s 20)⟩]) (.ret)
def c_spec_l5Colours_2 : VC :=
  .seq (.seq (.r 1 [⟨none, [], none, .mv 5 (.s 0)⟩,
    ⟨none, [], none, .len 6 (.s 5)⟩,
    ⟨none, [], none, .mv 7 (.k (.int .i64 0))⟩]) c_spec_l5Colours_5) (.kp [0] c_spec_l5Colours_25)
def c_spec_l5Colours_0 : VC :=
  .seq (.r 0 [⟨none, [], none, .mv 2 (.k (.bool false))⟩]) c_spec_l5Colours_2
def vf_spec_l5Colours : VF := { pm := [.ro [.ro [.sc]]], rm := [.v [.sc]], nslots := 21, res := [2], rc := [], code := .kp [0] c_spec_l5Colours_0 }
def c_spec_l5Note_5 : VC :=
  .ite (.s 20) (.seq (.r 2 [⟨none, [], none, .mv 2 (.k (.bool false))⟩]) (.ret)) (.skip)
def c_spec_l5Note_18 : VC :=
  .ite (.s 25) (.skip) (.exit 0)
def c_spec_l5Note_25 : VC :=
  .ite (.s 39) (.seq (.r 7 [⟨none, [], none, .mv 2 (.k (.bool false))⟩]) (.ret)) (.skip)
def c_spec_l5Note_30 : VC :=
  .r 5 [⟨none, [], none, .mv 26 (.s 3)⟩,
    ⟨none, [], none, .bin 27 .add (.s 26) (.k (.int .i64 1))⟩,
    ⟨none, [], none, .mv 3 (.s 27)⟩]
def c_spec_l5Note_21 : VC :=
  .seq (.blk 1 (.seq (.r 6 [⟨none, [], none, .fadr 28 (.s 1) 0⟩,
    ⟨none, [], none, .ld 29 (.s 28) 1 false⟩,
    ⟨none, [], none, .mv 30 (.s 3)⟩,
    ⟨none, [], none, .idx 31 (.s 29) (.s 30)⟩,
    ⟨none, [], none, .bin 32 .lss (.s 31) (.k (.int .u8 32))⟩,
    ⟨none, [], none, .mv 33 (.s 32)⟩,
    ⟨none, [], some (33, false), .fadr 34 (.s 1) 0⟩,
    ⟨none, [], some (33, false), .ld 35 (.s 34) 1 false⟩,
    ⟨none, [], some (33, false), .mv 36 (.s 3)⟩,
    ⟨none, [], some (33, false), .idx 37 (.s 35) (.s 36)⟩,
    ⟨none, [], some (33, false), .bin 38 .gtr (.s 37) (.k (.int .u8 126))⟩,
    ⟨none, [], none, .pick 39 (.s 33) (.k (.bool true)) (.s 38)⟩]) c_spec_l5Note_25)) c_spec_l5Note_30
def c_spec_l5Note_15 : VC :=
  .seq (.seq (.r 4 [⟨none, [], none, .mv 21 (.s 3)⟩,
    ⟨none, [], none, .fadr 22 (.s 1) 0⟩,
    ⟨none, [], none, .ld 23 (.s 22) 1 false⟩,
    ⟨none, [], none, .slen 24 (.s 23)⟩,
    ⟨none, [], none, .bin 25 .lss (.s 21) (.s 24)⟩]) c_spec_l5Note_18) c_spec_l5Note_21
def c_spec_l5Note_13 : VC :=
  .blk 0 (.loop [1, 3] c_spec_l5Note_15)
def c_spec_l5Note_39 : VC :=
  .ite (.s 44) (.skip) (.exit 2)
def c_spec_l5Note_46 : VC :=
  .ite (.s 51) (.seq (.r 12 [⟨none, [], none, .mv 2 (.k (.bool false))⟩]) (.ret)) (.skip)
def c_spec_l5Note_51 : VC :=
  .r 10 [⟨none, [], none, .mv 45 (.s 4)⟩,
    ⟨none, [], none, .bin 46 .add (.s 45) (.k (.int .i64 1))⟩,
    ⟨none, [], none, .mv 4 (.s 46)⟩]
def c_spec_l5Note_42 : VC :=
  .seq (.blk 3 (.seq (.r 11 [⟨none, [], none, .fadr 47 (.s 1) 1⟩,
    ⟨none, [], none, .ld 48 (.s 47) 1 false⟩,
    ⟨none, [], none, .mv 49 (.s 4)⟩,
    ⟨none, [], none, .idx 50 (.s 48) (.s 49)⟩,
    ⟨none, [], none, .bin 51 .eql (.s 50) (.k (.int .u8 0))⟩]) c_spec_l5Note_46)) c_spec_l5Note_51
def c_spec_l5Note_36 : VC :=
  .seq (.seq (.r 9 [⟨none, [], none, .mv 40 (.s 4)⟩,
    ⟨none, [], none, .fadr 41 (.s 1) 1⟩,
    ⟨none, [], none, .ld 42 (.s 41) 1 false⟩,
    ⟨none, [], none, .slen 43 (.s 42)⟩,
    ⟨none, [], none, .bin 44 .lss (.s 40) (.s 43)⟩]) c_spec_l5Note_39) c_spec_l5Note_42
def c_spec_l5Note_34 : VC :=
  .blk 2 (.loop [1, 4] c_spec_l5Note_36)
def c_spec_l5Note_52 : VC :=
  .seq (.r 13 [⟨none, [], none, .mv 2 (.k (.bool true))⟩]) (.ret)
def c_spec_l5Note_31 : VC :=
  .seq (.seq (.r 8 [⟨none, [], none, .mv 4 (.k (.int .i64 0))⟩]) c_spec_l5Note_34) (.kp [] c_spec_l5Note_52)
def c_spec_l5Note_10 : VC :=
  .seq (.seq (.r 3 [⟨none, [], none, .mv 3 (.k (.int .i64 0))⟩]) c_spec_l5Note_13) (.kp [1] c_spec_l5Note_31)
def c_spec_l5Note_2 : VC :=
  .seq (.seq (.r 1 [⟨none, [], none, .fadr 5 (.s 1) 0⟩,
    ⟨none, [], none, .ld 6 (.s 5) 1 false⟩,
    ⟨none, [], none, .slen 7 (.s 6)⟩,
    ⟨none, [], none, .bin 8 .lss (.s 7) (.k (.int .i64 1))⟩,
    ⟨none, [], none, .mv 9 (.s 8)⟩,
    ⟨none, [], some (9, false), .fadr 10 (.s 1) 0⟩,
    ⟨none, [], some (9, false), .ld 11 (.s 10) 1 false⟩,
    ⟨none, [], some (9, false), .slen 12 (.s 11)⟩,
    ⟨none, [], some (9, false), .bin 13 .gtr (.s 12) (.k (.int .i64 40))⟩,
    ⟨none, [], none, .pick 14 (.s 9) (.k (.bool true)) (.s 13)⟩,
    ⟨none, [], none, .mv 15 (.s 14)⟩,
    ⟨none, [], some (15, false), .fadr 16 (.s 1) 1⟩,
    ⟨none, [], some (15, false), .ld 17 (.s 16) 1 false⟩,
    ⟨none, [], some (15, false), .slen 18 (.s 17)⟩,
    ⟨none, [], some (15, false), .bin 19 .gtr (.s 18) (.k (.int .i64 1000))⟩,
    ⟨none, [], none, .pick 20 (.s 15) (.k (.bool true)) (.s 19)⟩]) c_spec_l5Note_5) c_spec_l5Note_10
def c_spec_l5Note_0 : VC :=
  .seq (.r 0 [⟨none, [], none, .box 1 (.s 0)⟩,
    ⟨none, [], none, .mv 2 (.k (.bool false))⟩]) c_spec_l5Note_2
def vf_spec_l5Note : VF := { pm := [.ro [.sc, .sc]], rm := [.v [.sc]], nslots := 52, res := [2], rc := [], code := .kp [0] c_spec_l5Note_0 }
def c_spec_l4Count_5 : VC :=
  .ite (.s 9) (.seq (.r 2 [⟨none, [], none, .mv 6 (.k (.int .i64 0))⟩]) (.ret)) (.skip)
def c_spec_l4Count_10 : VC :=
  .seq (.r 3 [⟨none, [], none, .mv 10 (.s 0)⟩,
    ⟨none, [], none, .mv 11 (.s 1)⟩,
    ⟨none, [], none, .bin 12 .sub (.s 10) (.s 11)⟩,
    ⟨none, [], none, .mv 13 (.s 2)⟩,
    ⟨none, [], none, .bin 14 .add (.s 12) (.s 13)⟩,
    ⟨none, [], none, .bin 15 .sub (.s 14) (.k (.int .i64 1))⟩,
    ⟨none, [], none, .mv 16 (.s 2)⟩,
    ⟨none, [], none, .bin 17 .quo (.s 15) (.s 16)⟩,
    ⟨none, [], none, .mv 6 (.s 17)⟩]) (.ret)
def c_spec_l4Count_2 : VC :=
  .seq (.seq (.r 1 [⟨none, [], none, .mv 7 (.s 0)⟩,
    ⟨none, [], none, .mv 8 (.s 1)⟩,
    ⟨none, [], none, .bin 9 .leq (.s 7) (.s 8)⟩]) c_spec_l4Count_5) c_spec_l4Count_10
def c_spec_l4Count_0 : VC :=
  .seq (.r 0 [⟨none, [], none, .mv 6 (.k (.int .i64 0))⟩]) c_spec_l4Count_2
def vf_spec_l4Count : VF := { pm := [.ro [.sc], .ro [.sc], .ro [.sc]], rm := [.v [.sc]], nslots := 18, res := [6], rc := [], code := .kp [0, 1, 2] c_spec_l4Count_0 }
def c_spec_l4Passes_14 : VC :=
  .ite (.s 13) (.skip) (.exit 0)
def c_spec_l4Passes_27 : VC :=
  .ite (.s 57) (.r 10 [⟨none, [], none, .mv 58 (.s 6)⟩,
    ⟨none, [], none, .ld 59 (.s 8) 6 true⟩,
    ⟨none, [], none, .lits 60 [.sc, .sc, .sc, .sc, .sc, .sc] [(.s 59)]⟩,
    ⟨none, [], none, .app 61 (.s 58) (.s 60) [.sc, .sc, .sc, .sc, .sc, .sc] 2932031007402⟩,
    ⟨none, [], none, .mv 6 (.s 61)⟩]) (.skip)
def c_spec_l4Passes_25 : VC :=
  .seq (.r 9 [⟨none, [], none, .fadr 50 (.s 8) 4⟩,
    ⟨none, [], none, .ld 51 (.s 50) 1 false⟩,
    ⟨none, [], none, .bin 52 .gtr (.s 51) (.k (.int .i64 0))⟩,
    ⟨none, [], none, .mv 53 (.s 52)⟩,
    ⟨none, [], some (53, true), .fadr 54 (.s 8) 5⟩,
    ⟨none, [], some (53, true), .ld 55 (.s 54) 1 false⟩,
    ⟨none, [], some (53, true), .bin 56 .gtr (.s 55) (.k (.int .i64 0))⟩,
    ⟨none, [], none, .pick 57 (.s 53) (.s 56) (.k (.bool false))⟩]) (.kp [0, 1, 5, 6, 7, 8, 57] c_spec_l4Passes_27)
def c_spec_l4Passes_23 : VC :=
  .seq (.r 8 [⟨none, [], none, .mv 43 (.s 1)⟩,
    ⟨none, [], none, .fadr 44 (.s 8) 1⟩,
    ⟨none, [], none, .ld 45 (.s 44) 1 false⟩,
    ⟨none, [], none, .fadr 46 (.s 8) 3⟩,
    ⟨none, [], none, .ld 47 (.s 46) 1 false⟩,
    ⟨none, [], none, .call 48 236 [(.s 43), (.s 45), (.s 47)]⟩,
    ⟨none, [], none, .fadr 49 (.s 8) 5⟩,
    ⟨none, [], none, .st (.s 49) (.s 48) 1⟩]) c_spec_l4Passes_25
def c_spec_l4Passes_21 : VC :=
  .seq (.r 7 [⟨none, [], none, .mv 36 (.s 0)⟩,
    ⟨none, [], none, .fadr 37 (.s 8) 0⟩,
    ⟨none, [], none, .ld 38 (.s 37) 1 false⟩,
    ⟨none, [], none, .fadr 39 (.s 8) 2⟩,
    ⟨none, [], none, .ld 40 (.s 39) 1 false⟩,
    ⟨none, [], none, .call 41 236 [(.s 36), (.s 38), (.s 40)]⟩,
    ⟨none, [], none, .fadr 42 (.s 8) 4⟩,
    ⟨none, [], none, .st (.s 42) (.s 41) 1⟩]) c_spec_l4Passes_23
def c_spec_l4Passes_30 : VC :=
  .r 5 [⟨none, [], none, .mv 14 (.s 7)⟩,
    ⟨none, [], none, .bin 15 .add (.s 14) (.k (.int .i64 4))⟩,
    ⟨none, [], none, .mv 7 (.s 15)⟩]
def c_spec_l4Passes_17 : VC :=
  .seq (.blk 1 (.seq (.d 6 [(0, ⟨none, [], none, .mv 16 (.s 5)⟩),
    (1, ⟨none, [], none, .mv 17 (.s 7)⟩),
    (2, ⟨none, [], none, .iadr 18 (.s 16) (.s 17) 1⟩),
    (3, ⟨none, [], none, .ld 19 (.s 18) 1 false⟩),
    (4, ⟨none, [], none, .mv 20 (.s 5)⟩),
    (5, ⟨none, [], none, .mv 21 (.s 7)⟩),
    (6, ⟨none, [], none, .bin 22 .add (.s 21) (.k (.int .i64 1))⟩),
    (7, ⟨none, [], none, .iadr 23 (.s 20) (.s 22) 1⟩),
    (8, ⟨none, [], none, .ld 24 (.s 23) 1 false⟩),
    (9, ⟨none, [], none, .mv 25 (.s 5)⟩),
    (10, ⟨none, [], none, .mv 26 (.s 7)⟩),
    (11, ⟨none, [], none, .bin 27 .add (.s 26) (.k (.int .i64 2))⟩),
    (12, ⟨none, [], none, .iadr 28 (.s 25) (.s 27) 1⟩),
    (13, ⟨none, [], none, .ld 29 (.s 28) 1 false⟩),
    (14, ⟨none, [], none, .mv 30 (.s 5)⟩),
    (15, ⟨none, [], none, .mv 31 (.s 7)⟩),
    (16, ⟨none, [], none, .bin 32 .add (.s 31) (.k (.int .i64 3))⟩),
    (17, ⟨none, [], none, .iadr 33 (.s 30) (.s 32) 1⟩),
    (18, ⟨none, [], none, .ld 34 (.s 33) 1 false⟩),
    (19, ⟨none, [], none, .bld 35 [.k (.int .i64 0), .k (.int .i64 0), .k (.int .i64 0), .k (.int .i64 0), .k (.int .i64 0), .k (.int .i64 0)] [(0, 1, (.s 19)), (1, 1, (.s 24)), (2, 1, (.s 29)), (3, 1, (.s 34))]⟩),
    (20, ⟨none, [], none, .alloc 8 [.k (.int .i64 0), .k (.int .i64 0), .k (.int .i64 0), .k (.int .i64 0), .k (.int .i64 0), .k (.int .i64 0)]⟩),
    (21, ⟨none, [], none, .st (.s 8) (.s 35) 6⟩)]) c_spec_l4Passes_21)) c_spec_l4Passes_30
def c_spec_l4Passes_11 : VC :=
  .seq (.seq (.r 4 [⟨none, [], none, .mv 10 (.s 7)⟩,
    ⟨none, [], none, .mv 11 (.s 5)⟩,
    ⟨none, [], none, .len 12 (.s 11)⟩,
    ⟨none, [], none, .bin 13 .lss (.s 10) (.s 12)⟩]) c_spec_l4Passes_14) c_spec_l4Passes_17
def c_spec_l4Passes_9 : VC :=
  .blk 0 (.loop [0, 1, 5, 6, 7] c_spec_l4Passes_11)
def c_spec_l4Passes_31 : VC :=
  .seq (.r 11 [⟨none, [], none, .mv 62 (.s 6)⟩,
    ⟨none, [], none, .mv 4 (.s 62)⟩]) (.ret)
def c_spec_l4Passes_6 : VC :=
  .seq (.seq (.r 3 [⟨none, [], none, .mv 7 (.k (.int .i64 0))⟩]) c_spec_l4Passes_9) (.kp [6] c_spec_l4Passes_31)
def c_spec_l4Passes_4 : VC :=
  .seq (.r 2 [⟨none, [], none, .nil 6 [.sc, .sc, .sc, .sc, .sc, .sc]⟩]) c_spec_l4Passes_6
def c_spec_l4Passes_2 : VC :=
  .seq (.r 1 [⟨none, [], none, .lits 9 [.sc] [(.k (.int .i64 0)), (.k (.int .i64 0)), (.k (.int .i64 8)), (.k (.int .i64 8)), (.k (.int .i64 4)), (.k (.int .i64 0)), (.k (.int .i64 8)), (.k (.int .i64 8)), (.k (.int .i64 0)), (.k (.int .i64 4)), (.k (.int .i64 4)), (.k (.int .i64 8)), (.k (.int .i64 2)), (.k (.int .i64 0)), (.k (.int .i64 4)), (.k (.int .i64 4)), (.k (.int .i64 0)), (.k (.int .i64 2)), (.k (.int .i64 2)), (.k (.int .i64 4)), (.k (.int .i64 1)), (.k (.int .i64 0)), (.k (.int .i64 2)), (.k (.int .i64 2)), (.k (.int .i64 0)), (.k (.int .i64 1)), (.k (.int .i64 1)), (.k (.int .i64 2))]⟩,
    ⟨none, [], none, .mv 5 (.s 9)⟩]) c_spec_l4Passes_4
def c_spec_l4Passes_0 : VC :=
  .seq (.r 0 [⟨none, [], none, .nil 4 [.sc, .sc, .sc, .sc, .sc, .sc]⟩]) c_spec_l4Passes_2
def vf_spec_l4Passes : VF := { pm := [.ro [.sc], .ro [.sc]], rm := [.v [.own [.sc, .sc, .sc, .sc, .sc, .sc]]], nslots := 63, res := [4], rc := [], code := .kp [0, 1] c_spec_l4Passes_0 }
def c_spec_l5Sizes_5 : VC :=
  .ite (.s 9) (.seq (.r 2 [⟨none, [], none, .fadr 10 (.s 2) 0⟩,
    ⟨none, [], none, .ld 11 (.s 10) 1 false⟩,
    ⟨none, [], none, .fadr 12 (.s 2) 1⟩,
    ⟨none, [], none, .ld 13 (.s 12) 1 false⟩,
    ⟨none, [], none, .fadr 14 (.s 2) 2⟩,
    ⟨none, [], none, .ld 15 (.s 14) 1 false⟩,
    ⟨none, [], none, .fadr 16 (.s 2) 3⟩,
    ⟨none, [], none, .ld 17 (.s 16) 1 false⟩,
    ⟨none, [], none, .bld 18 [.k (.int .i64 0), .k (.int .i64 0), .k (.int .i64 0), .k (.int .i64 0), .o [.sc]] [(0, 1, (.s 11)), (1, 1, (.s 13)), (2, 1, (.s 15)), (3, 1, (.s 17))]⟩,
    ⟨none, [], none, .lits 19 [.sc, .sc, .sc, .sc, .own [.sc]] [(.s 18)]⟩,
    ⟨none, [], none, .mv 4 (.s 19)⟩]) (.ret)) (.skip)
def c_spec_l5Sizes_27 : VC :=
  .r 7 [⟨none, [], none, .mv 30 (.s 5)⟩,
    ⟨none, [], none, .fadr 31 (.s 7) 4⟩,
    ⟨none, [], none, .ld 32 (.s 31) 1 false⟩,
    ⟨none, [], none, .fadr 33 (.s 7) 5⟩,
    ⟨none, [], none, .ld 34 (.s 33) 1 false⟩,
    ⟨none, [], none, .fadr 35 (.s 2) 2⟩,
    ⟨none, [], none, .ld 36 (.s 35) 1 false⟩,
    ⟨none, [], none, .fadr 37 (.s 2) 3⟩,
    ⟨none, [], none, .ld 38 (.s 37) 1 false⟩,
    ⟨none, [], none, .bld 39 [.k (.int .i64 0), .k (.int .i64 0), .k (.int .i64 0), .k (.int .i64 0), .o [.sc]] [(0, 1, (.s 32)), (1, 1, (.s 34)), (2, 1, (.s 36)), (3, 1, (.s 38))]⟩,
    ⟨none, [], none, .lits 40 [.sc, .sc, .sc, .sc, .own [.sc]] [(.s 39)]⟩,
    ⟨none, [], none, .app 41 (.s 30) (.s 40) [.sc, .sc, .sc, .sc, .own [.sc]] 2513169434916⟩,
    ⟨none, [], none, .mv 5 (.s 41)⟩]
def c_spec_l5Sizes_28 : VC :=
  .r 8 [⟨none, [], none, .bin 42 .add (.s 26) (.k (.int .i64 1))⟩,
    ⟨none, [], none, .mv 26 (.s 42)⟩]
def c_spec_l5Sizes_23 : VC :=
  .seq (.blk 1 (.seq (.r 6 [⟨none, [], none, .iadr 28 (.s 24) (.s 26) 6⟩,
    ⟨none, [], none, .ld 29 (.s 28) 6 true⟩,
    ⟨none, [], none, .alloc 7 [.k (.int .i64 0), .k (.int .i64 0), .k (.int .i64 0), .k (.int .i64 0), .k (.int .i64 0), .k (.int .i64 0)]⟩,
    ⟨none, [], none, .st (.s 7) (.s 29) 6⟩]) c_spec_l5Sizes_27)) c_spec_l5Sizes_28
def c_spec_l5Sizes_19 : VC :=
  .seq (.ite (.s 27) (.skip) (.exit 0)) c_spec_l5Sizes_23
def c_spec_l5Sizes_17 : VC :=
  .seq (.r 5 [⟨none, [], none, .bin 27 .lss (.s 26) (.s 25)⟩]) c_spec_l5Sizes_19
def c_spec_l5Sizes_15 : VC :=
  .blk 0 (.loop [2, 5, 24, 25, 26] c_spec_l5Sizes_17)
def c_spec_l5Sizes_29 : VC :=
  .seq (.r 9 [⟨none, [], none, .mv 43 (.s 5)⟩,
    ⟨none, [], none, .mv 4 (.s 43)⟩]) (.ret)
def c_spec_l5Sizes_12 : VC :=
  .seq (.seq (.r 4 [⟨none, [], none, .fadr 20 (.s 2) 0⟩,
    ⟨none, [], none, .ld 21 (.s 20) 1 false⟩,
    ⟨none, [], none, .fadr 22 (.s 2) 1⟩,
    ⟨none, [], none, .ld 23 (.s 22) 1 false⟩,
    ⟨none, [], none, .call 24 213 [(.s 21), (.s 23)]⟩,
    ⟨none, [], none, .len 25 (.s 24)⟩,
    ⟨none, [], none, .mv 26 (.k (.int .i64 0))⟩]) c_spec_l5Sizes_15) (.kp [5] c_spec_l5Sizes_29)
def c_spec_l5Sizes_10 : VC :=
  .seq (.r 3 [⟨none, [], none, .nil 5 [.sc, .sc, .sc, .sc, .own [.sc]]⟩]) c_spec_l5Sizes_12
def c_spec_l5Sizes_2 : VC :=
  .seq (.seq (.r 1 [⟨none, [], none, .mv 8 (.s 1)⟩,
    ⟨none, [], none, .un 9 .not (.s 8)⟩]) c_spec_l5Sizes_5) c_spec_l5Sizes_10
def c_spec_l5Sizes_0 : VC :=
  .seq (.r 0 [⟨none, [], none, .box 2 (.s 0)⟩,
    ⟨none, [], none, .nil 4 [.sc, .sc, .sc, .sc, .own [.sc]]⟩]) c_spec_l5Sizes_2
def vf_spec_l5Sizes : VF := { pm := [.ro [.sc, .sc, .sc, .sc, .ro [.sc]], .ro [.sc]], rm := [.v [.own [.sc, .sc, .sc, .sc, .own [.sc]]]], nslots := 44, res := [4], rc := [], code := .kp [0, 1] c_spec_l5Sizes_0 }
def c_spec_l5RowBytes_2 : VC :=
  .seq (.r 1 [⟨none, [], none, .fadr 3 (.s 1) 0⟩,
    ⟨none, [], none, .ld 4 (.s 3) 1 false⟩,
    ⟨none, [], none, .fadr 5 (.s 1) 2⟩,
    ⟨none, [], none, .ld 6 (.s 5) 1 false⟩,
    ⟨none, [], none, .bin 7 .mul (.s 4) (.s 6)⟩,
    ⟨none, [], none, .fadr 8 (.s 1) 3⟩,
    ⟨none, [], none, .ld 9 (.s 8) 1 false⟩,
    ⟨none, [], none, .bin 10 .mul (.s 7) (.s 9)⟩,
    ⟨none, [], none, .bin 11 .add (.s 10) (.k (.int .i64 7))⟩,
    ⟨none, [], none, .bin 12 .quo (.s 11) (.k (.int .i64 8))⟩,
    ⟨none, [], none, .mv 2 (.s 12)⟩]) (.ret)
def c_spec_l5RowBytes_0 : VC :=
  .seq (.r 0 [⟨none, [], none, .box 1 (.s 0)⟩,
    ⟨none, [], none, .mv 2 (.k (.int .i64 0))⟩]) c_spec_l5RowBytes_2
def vf_spec_l5RowBytes : VF := { pm := [.ro [.sc, .sc, .sc, .sc, .ro [.sc]]], rm := [.v [.sc]], nslots := 13, res := [2], rc := [], code := .kp [0] c_spec_l5RowBytes_0 }
def c_spec_l5Total_19 : VC :=
  .d 5 [(0, ⟨none, [], none, .mv 16 (.s 5)⟩),
    (1, ⟨none, [], none, .fadv 17 (.s 7) 1⟩),
    (2, ⟨none, [], none, .ldv 18 (.s 17) 1 false⟩),
    (3, ⟨none, [], none, .ldv 19 (.s 7) 5 true⟩),
    (4, ⟨none, [], none, .call 20 166 [(.s 19)]⟩),
    (5, ⟨none, [], none, .bin 21 .add (.k (.int .i64 1)) (.s 20)⟩),
    (6, ⟨none, [], none, .bin 22 .mul (.s 18) (.s 21)⟩),
    (7, ⟨none, [], none, .bin 23 .add (.s 16) (.s 22)⟩),
    (8, ⟨none, [], none, .mv 5 (.s 23)⟩)]
def c_spec_l5Total_20 : VC :=
  .r 6 [⟨none, [], none, .bin 24 .add (.s 12) (.k (.int .i64 1))⟩,
    ⟨none, [], none, .mv 12 (.s 24)⟩]
def c_spec_l5Total_15 : VC :=
  .seq (.blk 1 (.seq (.r 4 [⟨none, [], none, .iadr 14 (.s 10) (.s 12) 5⟩,
    ⟨none, [], none, .ld 15 (.s 14) 5 true⟩,
    ⟨none, [], none, .alloc 7 [.k (.int .i64 0), .k (.int .i64 0), .k (.int .i64 0), .k (.int .i64 0), .o [.sc]]⟩,
    ⟨none, [], none, .st (.s 7) (.s 15) 5⟩]) c_spec_l5Total_19)) c_spec_l5Total_20
def c_spec_l5Total_11 : VC :=
  .seq (.ite (.s 13) (.skip) (.exit 0)) c_spec_l5Total_15
def c_spec_l5Total_9 : VC :=
  .seq (.r 3 [⟨none, [], none, .bin 13 .lss (.s 12) (.s 11)⟩]) c_spec_l5Total_11
def c_spec_l5Total_7 : VC :=
  .blk 0 (.loop [5, 10, 11, 12] c_spec_l5Total_9)
def c_spec_l5Total_21 : VC :=
  .seq (.r 7 [⟨none, [], none, .mv 25 (.s 5)⟩,
    ⟨none, [], none, .mv 4 (.s 25)⟩]) (.ret)
def c_spec_l5Total_4 : VC :=
  .seq (.seq (.r 2 [⟨none, [], none, .ld 8 (.s 2) 5 true⟩,
    ⟨none, [], none, .mv 9 (.s 1)⟩,
    ⟨none, [], none, .call 10 165 [(.s 8), (.s 9)]⟩,
    ⟨none, [], none, .len 11 (.s 10)⟩,
    ⟨none, [], none, .mv 12 (.k (.int .i64 0))⟩]) c_spec_l5Total_7) (.kp [5] c_spec_l5Total_21)
def c_spec_l5Total_2 : VC :=
  .seq (.r 1 [⟨none, [], none, .mv 5 (.k (.int .i64 0))⟩]) c_spec_l5Total_4
def c_spec_l5Total_0 : VC :=
  .seq (.r 0 [⟨none, [], none, .box 2 (.s 0)⟩,
    ⟨none, [], none, .mv 4 (.k (.int .i64 0))⟩]) c_spec_l5Total_2
def vf_spec_l5Total : VF := { pm := [.ro [.sc, .sc, .sc, .sc, .ro [.sc]], .ro [.sc]], rm := [.v [.sc]], nslots := 26, res := [4], rc := [], code := .kp [0, 1] c_spec_l5Total_0 }
def c_spec_GoodStill_5 : VC :=
  .ite (.s 22) (.seq (.r 2 [⟨none, [], none, .mv 2 (.k (.bool false))⟩]) (.ret)) (.skip)
def c_spec_GoodStill_17 : VC :=
  .ite (.s 36) (.seq (.r 5 [⟨none, [], none, .mv 2 (.k (.bool false))⟩]) (.ret)) (.skip)
def c_spec_GoodStill_38 : VC :=
  .ite (.s 49) (.seq (.r 10 [⟨none, [], none, .mv 2 (.k (.bool false))⟩]) (.ret)) (.skip)
def c_spec_GoodStill_36 : VC :=
  .seq (.r 9 [⟨none, [], none, .mv 45 (.s 4)⟩,
    ⟨none, [], none, .fadr 46 (.s 1) 5⟩,
    ⟨none, [], none, .ld 47 (.s 46) 1 false⟩,
    ⟨none, [], none, .len 48 (.s 47)⟩,
    ⟨none, [], none, .bin 49 .geq (.s 45) (.s 48)⟩]) c_spec_GoodStill_38
def c_spec_GoodStill_43 : VC :=
  .r 11 [⟨none, [], none, .bin 50 .add (.s 41) (.k (.int .i64 1))⟩,
    ⟨none, [], none, .mv 41 (.s 50)⟩]
def c_spec_GoodStill_32 : VC :=
  .seq (.blk 1 (.seq (.r 8 [⟨none, [], none, .iadr 43 (.s 39) (.s 41) 1⟩,
    ⟨none, [], none, .ld 44 (.s 43) 1 false⟩,
    ⟨none, [], none, .mv 4 (.s 44)⟩]) c_spec_GoodStill_36)) c_spec_GoodStill_43
def c_spec_GoodStill_28 : VC :=
  .seq (.ite (.s 42) (.skip) (.exit 0)) c_spec_GoodStill_32
def c_spec_GoodStill_26 : VC :=
  .seq (.r 7 [⟨none, [], none, .bin 42 .lss (.s 41) (.s 40)⟩]) c_spec_GoodStill_28
def c_spec_GoodStill_24 : VC :=
  .blk 0 (.loop [1, 39, 40, 41] c_spec_GoodStill_26)
def c_spec_GoodStill_22 : VC :=
  .seq (.r 6 [⟨none, [], none, .fadr 37 (.s 1) 0⟩,
    ⟨none, [], none, .fadr 38 (.s 37) 4⟩,
    ⟨none, [], none, .ld 39 (.s 38) 1 false⟩,
    ⟨none, [], none, .len 40 (.s 39)⟩,
    ⟨none, [], none, .mv 41 (.k (.int .i64 0))⟩]) c_spec_GoodStill_24
def c_spec_GoodStill_13 : VC :=
  .ite (.s 26) (.seq (.seq (.r 4 [⟨none, [], none, .fadr 27 (.s 1) 0⟩,
    ⟨none, [], none, .fadr 28 (.s 27) 2⟩,
    ⟨none, [], none, .ld 29 (.s 28) 1 false⟩,
    ⟨none, [], none, .bin 30 .neq (.s 29) (.k (.int .i64 1))⟩,
    ⟨none, [], none, .mv 31 (.s 30)⟩,
    ⟨none, [], some (31, false), .fadr 32 (.s 1) 0⟩,
    ⟨none, [], some (31, false), .fadr 33 (.s 32) 3⟩,
    ⟨none, [], some (31, false), .ld 34 (.s 33) 1 false⟩,
    ⟨none, [], some (31, false), .bin 35 .gtr (.s 34) (.k (.int .i64 8))⟩,
    ⟨none, [], none, .pick 36 (.s 31) (.k (.bool true)) (.s 35)⟩]) c_spec_GoodStill_17) c_spec_GoodStill_22) (.skip)
def c_spec_GoodStill_62 : VC :=
  .ite (.s 60) (.seq (.r 16 [⟨none, [], none, .mv 2 (.k (.bool false))⟩]) (.ret)) (.skip)
def c_spec_GoodStill_60 : VC :=
  .seq (.r 15 [⟨none, [], none, .ld 58 (.s 6) 2 true⟩,
    ⟨none, [], none, .call 59 99 [(.s 58)]⟩,
    ⟨none, [], none, .un 60 .not (.s 59)⟩]) c_spec_GoodStill_62
def c_spec_GoodStill_67 : VC :=
  .r 17 [⟨none, [], none, .bin 61 .add (.s 54) (.k (.int .i64 1))⟩,
    ⟨none, [], none, .mv 54 (.s 61)⟩]
def c_spec_GoodStill_56 : VC :=
  .seq (.blk 3 (.seq (.r 14 [⟨none, [], none, .iadr 56 (.s 52) (.s 54) 2⟩,
    ⟨none, [], none, .ld 57 (.s 56) 2 true⟩,
    ⟨none, [], none, .alloc 6 [.k (.string (ByteArray.mk #[])), .k (.string (ByteArray.mk #[]))]⟩,
    ⟨none, [], none, .st (.s 6) (.s 57) 2⟩]) c_spec_GoodStill_60)) c_spec_GoodStill_67
def c_spec_GoodStill_52 : VC :=
  .seq (.ite (.s 55) (.skip) (.exit 2)) c_spec_GoodStill_56
def c_spec_GoodStill_50 : VC :=
  .seq (.r 13 [⟨none, [], none, .bin 55 .lss (.s 54) (.s 53)⟩]) c_spec_GoodStill_52
def c_spec_GoodStill_48 : VC :=
  .blk 2 (.loop [1, 52, 53, 54] c_spec_GoodStill_50)
def c_spec_GoodStill_68 : VC :=
  .seq (.r 18 [⟨none, [], none, .fadr 62 (.s 1) 0⟩,
    ⟨none, [], none, .ld 63 (.s 62) 5 true⟩,
    ⟨none, [], none, .fadr 64 (.s 1) 7⟩,
    ⟨none, [], none, .ld 65 (.s 64) 1 false⟩,
    ⟨none, [], none, .call 66 100 [(.s 63), (.s 65)]⟩,
    ⟨none, [], none, .bin 67 .leq (.s 66) (.k (.int .i64 6000))⟩,
    ⟨none, [], none, .mv 2 (.s 67)⟩]) (.ret)
def c_spec_GoodStill_45 : VC :=
  .seq (.seq (.r 12 [⟨none, [], none, .fadr 51 (.s 1) 6⟩,
    ⟨none, [], none, .ld 52 (.s 51) 1 false⟩,
    ⟨none, [], none, .len 53 (.s 52)⟩,
    ⟨none, [], none, .mv 54 (.k (.int .i64 0))⟩]) c_spec_GoodStill_48) (.kp [1] c_spec_GoodStill_68)
def c_spec_GoodStill_10 : VC :=
  .seq (.seq (.r 3 [⟨none, [], none, .fadr 23 (.s 1) 5⟩,
    ⟨none, [], none, .ld 24 (.s 23) 1 false⟩,
    ⟨none, [], none, .len 25 (.s 24)⟩,
    ⟨none, [], none, .bin 26 .gtr (.s 25) (.k (.int .i64 0))⟩]) c_spec_GoodStill_13) (.kp [1] c_spec_GoodStill_45)
def c_spec_GoodStill_2 : VC :=
  .seq (.seq (.r 1 [⟨none, [], none, .fadr 7 (.s 1) 0⟩,
    ⟨none, [], none, .ld 8 (.s 7) 5 true⟩,
    ⟨none, [], none, .call 9 97 [(.s 8)]⟩,
    ⟨none, [], none, .un 10 .not (.s 9)⟩,
    ⟨none, [], none, .mv 11 (.s 10)⟩,
    ⟨none, [], some (11, false), .fadr 12 (.s 1) 5⟩,
    ⟨none, [], some (11, false), .ld 13 (.s 12) 1 false⟩,
    ⟨none, [], some (11, false), .call 14 98 [(.s 13)]⟩,
    ⟨none, [], some (11, false), .un 15 .not (.s 14)⟩,
    ⟨none, [], none, .pick 16 (.s 11) (.k (.bool true)) (.s 15)⟩,
    ⟨none, [], none, .mv 17 (.s 16)⟩,
    ⟨none, [], some (17, false), .fadr 18 (.s 1) 6⟩,
    ⟨none, [], some (17, false), .ld 19 (.s 18) 1 false⟩,
    ⟨none, [], some (17, false), .len 20 (.s 19)⟩,
    ⟨none, [], some (17, false), .bin 21 .gtr (.s 20) (.k (.int .i64 20))⟩,
    ⟨none, [], none, .pick 22 (.s 17) (.k (.bool true)) (.s 21)⟩]) c_spec_GoodStill_5) c_spec_GoodStill_10
def c_spec_GoodStill_0 : VC :=
  .seq (.r 0 [⟨none, [], none, .box 1 (.s 0)⟩,
    ⟨none, [], none, .mv 2 (.k (.bool false))⟩]) c_spec_GoodStill_2
def vf_spec_GoodStill : VF := { pm := [.ro [.sc, .sc, .sc, .sc, .ro [.sc], .ro [.sc], .ro [.sc, .sc], .sc]], rm := [.v [.sc]], nslots := 68, res := [2], rc := [], code := .kp [0] c_spec_GoodStill_0 }
def c_spec_Colours_5 : VC :=
  .ite (.s 11) (.seq (.r 2 [⟨none, [], none, .bld 12 [.k (.int .i64 0), .k (.int .i64 0), .k (.int .i64 0), .k (.int .i64 0), .o [.sc]] []⟩,
    ⟨none, [], none, .st (.s 2) (.s 12) 5⟩]) (.ret)) (.skip)
def c_spec_Colours_22 : VC :=
  .seq (.r 8 [⟨none, [], none, .ld 25 (.s 3) 5 true⟩,
    ⟨none, [], none, .st (.s 2) (.s 25) 5⟩]) (.ret)
def c_spec_Colours_20 : VC :=
  .seq (.r 7 [⟨none, [], none, .mv 23 (.s 4)⟩,
    ⟨none, [], none, .fadr 24 (.s 3) 4⟩,
    ⟨none, [], none, .st (.s 24) (.s 23) 1⟩]) c_spec_Colours_22
def c_spec_Colours_18 : VC :=
  .seq (.r 6 [⟨none, [], none, .mv 19 (.s 4)⟩,
    ⟨none, [], none, .fadr 20 (.s 3) 4⟩,
    ⟨none, [], none, .ld 21 (.s 20) 1 false⟩,
    ⟨none, [], none, .app 22 (.s 19) (.s 21) [.sc] 17592186044416⟩,
    ⟨none, [], none, .mv 4 (.s 22)⟩]) c_spec_Colours_20
def c_spec_Colours_15 : VC :=
  .ite (.s 18) (.seq (.r 5 [⟨none, [], none, .nil 4 [.sc]⟩]) c_spec_Colours_18) (.skip)
def c_spec_Colours_45 : VC :=
  .r 14 [⟨none, [], none, .fadr 43 (.s 5) 4⟩,
    ⟨none, [], none, .ld 44 (.s 43) 1 false⟩,
    ⟨none, [], none, .mv 45 (.s 8)⟩,
    ⟨none, [], none, .bin 46 .shr (.s 45) (.k (.int .u64 16))⟩,
    ⟨none, [], none, .mv 47 (.s 8)⟩,
    ⟨none, [], none, .bin 48 .shr (.s 47) (.k (.int .u64 8))⟩,
    ⟨none, [], none, .bin 49 .and (.s 48) (.k (.int .i64 255))⟩,
    ⟨none, [], none, .mv 50 (.s 8)⟩,
    ⟨none, [], none, .bin 51 .and (.s 50) (.k (.int .i64 255))⟩,
    ⟨none, [], none, .lits 52 [.sc] [(.s 46), (.s 49), (.s 51)]⟩,
    ⟨none, [], none, .app 53 (.s 44) (.s 52) [.sc] 17592186044416⟩,
    ⟨none, [], none, .fadr 54 (.s 5) 4⟩,
    ⟨none, [], none, .st (.s 54) (.s 53) 1⟩]
def c_spec_Colours_43 : VC :=
  .seq (.r 13 [⟨none, [], none, .fadr 38 (.s 1) 5⟩,
    ⟨none, [], none, .ld 39 (.s 38) 1 false⟩,
    ⟨none, [], none, .mv 40 (.s 7)⟩,
    ⟨none, [], none, .iadr 41 (.s 39) (.s 40) 1⟩,
    ⟨none, [], none, .ld 42 (.s 41) 1 false⟩,
    ⟨none, [], none, .mv 8 (.s 42)⟩]) c_spec_Colours_45
def c_spec_Colours_46 : VC :=
  .r 15 [⟨none, [], none, .bin 55 .add (.s 34) (.k (.int .i64 1))⟩,
    ⟨none, [], none, .mv 34 (.s 55)⟩]
def c_spec_Colours_39 : VC :=
  .seq (.blk 1 (.seq (.r 12 [⟨none, [], none, .iadr 36 (.s 32) (.s 34) 1⟩,
    ⟨none, [], none, .ld 37 (.s 36) 1 false⟩,
    ⟨none, [], none, .mv 7 (.s 37)⟩]) c_spec_Colours_43)) c_spec_Colours_46
def c_spec_Colours_35 : VC :=
  .seq (.ite (.s 35) (.skip) (.exit 0)) c_spec_Colours_39
def c_spec_Colours_33 : VC :=
  .seq (.r 11 [⟨none, [], none, .bin 35 .lss (.s 34) (.s 33)⟩]) c_spec_Colours_35
def c_spec_Colours_31 : VC :=
  .blk 0 (.loop [1, 2, 5, 32, 33, 34] c_spec_Colours_33)
def c_spec_Colours_47 : VC :=
  .seq (.r 16 [⟨none, [], none, .ld 56 (.s 5) 5 true⟩,
    ⟨none, [], none, .st (.s 2) (.s 56) 5⟩]) (.ret)
def c_spec_Colours_28 : VC :=
  .seq (.seq (.r 10 [⟨none, [], none, .fadr 31 (.s 3) 4⟩,
    ⟨none, [], none, .ld 32 (.s 31) 1 false⟩,
    ⟨none, [], none, .len 33 (.s 32)⟩,
    ⟨none, [], none, .mv 34 (.k (.int .i64 0))⟩]) c_spec_Colours_31) (.kp [2, 5] c_spec_Colours_47)
def c_spec_Colours_26 : VC :=
  .seq (.r 9 [⟨none, [], none, .fadr 26 (.s 3) 0⟩,
    ⟨none, [], none, .ld 27 (.s 26) 1 false⟩,
    ⟨none, [], none, .fadr 28 (.s 3) 1⟩,
    ⟨none, [], none, .ld 29 (.s 28) 1 false⟩,
    ⟨none, [], none, .bld 30 [.k (.int .i64 0), .k (.int .i64 0), .k (.int .i64 0), .k (.int .i64 0), .o [.sc]] [(0, 1, (.s 27)), (1, 1, (.s 29)), (2, 1, (.k (.int .i64 3))), (3, 1, (.k (.int .i64 8)))]⟩,
    ⟨none, [], none, .alloc 5 [.k (.int .i64 0), .k (.int .i64 0), .k (.int .i64 0), .k (.int .i64 0), .o [.sc]]⟩,
    ⟨none, [], none, .st (.s 5) (.s 30) 5⟩]) c_spec_Colours_28
def c_spec_Colours_12 : VC :=
  .seq (.seq (.r 4 [⟨none, [], none, .fadr 15 (.s 1) 5⟩,
    ⟨none, [], none, .ld 16 (.s 15) 1 false⟩,
    ⟨none, [], none, .len 17 (.s 16)⟩,
    ⟨none, [], none, .bin 18 .eql (.s 17) (.k (.int .i64 0))⟩]) c_spec_Colours_15) c_spec_Colours_26
def c_spec_Colours_10 : VC :=
  .seq (.r 3 [⟨none, [], none, .fadr 13 (.s 1) 0⟩,
    ⟨none, [], none, .ld 14 (.s 13) 5 true⟩,
    ⟨none, [], none, .alloc 3 [.k (.int .i64 0), .k (.int .i64 0), .k (.int .i64 0), .k (.int .i64 0), .o [.sc]]⟩,
    ⟨none, [], none, .st (.s 3) (.s 14) 5⟩]) c_spec_Colours_12
def c_spec_Colours_2 : VC :=
  .seq (.seq (.r 1 [⟨none, [], none, .ld 9 (.s 1) 8 true⟩,
    ⟨none, [], none, .call 10 26 [(.s 9)]⟩,
    ⟨none, [], none, .un 11 .not (.s 10)⟩]) c_spec_Colours_5) c_spec_Colours_10
def c_spec_Colours_0 : VC :=
  .seq (.r 0 [⟨none, [], none, .box 1 (.s 0)⟩,
    ⟨none, [], none, .alloc 2 [.k (.int .i64 0), .k (.int .i64 0), .k (.int .i64 0), .k (.int .i64 0), .o [.sc]]⟩]) c_spec_Colours_2
def vf_spec_Colours : VF := { pm := [.ro [.sc, .sc, .sc, .sc, .ro [.sc], .ro [.sc], .ro [.sc, .sc], .sc]], rm := [.v [.sc, .sc, .sc, .sc, .own [.sc]]], nslots := 57, res := [2], rc := [some (5, true)], code := .kp [0] c_spec_Colours_0 }
def c_impl_goodSide_2 : VC :=
  .seq (.r 1 [⟨none, [], none, .mv 3 (.s 0)⟩,
    ⟨none, [], none, .bin 4 .geq (.s 3) (.k (.int .i64 1))⟩,
    ⟨none, [], none, .mv 5 (.s 4)⟩,
    ⟨none, [], some (5, true), .mv 6 (.s 0)⟩,
    ⟨none, [], some (5, true), .bin 7 .leq (.s 6) (.k (.int .i64 512))⟩,
    ⟨none, [], none, .pick 8 (.s 5) (.s 7) (.k (.bool false))⟩,
    ⟨none, [], none, .mv 2 (.s 8)⟩]) (.ret)
def c_impl_goodSide_0 : VC :=
  .seq (.r 0 [⟨none, [], none, .mv 2 (.k (.bool false))⟩]) c_impl_goodSide_2
def vf_impl_goodSide : VF := { pm := [.ro [.sc]], rm := [.v [.sc]], nslots := 9, res := [2], rc := [], code := .kp [0] c_impl_goodSide_0 }
def c_impl_goodSides_2 : VC :=
  .seq (.r 1 [⟨none, [], none, .mv 5 (.s 0)⟩,
    ⟨none, [], none, .call 6 218 [(.s 5)]⟩,
    ⟨none, [], none, .mv 7 (.s 6)⟩,
    ⟨none, [], some (7, true), .mv 8 (.s 1)⟩,
    ⟨none, [], some (7, true), .call 9 218 [(.s 8)]⟩,
    ⟨none, [], none, .pick 10 (.s 7) (.s 9) (.k (.bool false))⟩,
    ⟨none, [], none, .mv 11 (.s 10)⟩,
    ⟨none, [], some (11, true), .mv 12 (.s 0)⟩,
    ⟨none, [], some (11, true), .mv 13 (.s 1)⟩,
    ⟨none, [], some (11, true), .bin 14 .mul (.s 12) (.s 13)⟩,
    ⟨none, [], some (11, true), .bin 15 .leq (.s 14) (.k (.int .i64 4096))⟩,
    ⟨none, [], none, .pick 16 (.s 11) (.s 15) (.k (.bool false))⟩,
    ⟨none, [], none, .mv 4 (.s 16)⟩]) (.ret)
def c_impl_goodSides_0 : VC :=
  .seq (.r 0 [⟨none, [], none, .mv 4 (.k (.bool false))⟩]) c_impl_goodSides_2
def vf_impl_goodSides : VF := { pm := [.ro [.sc], .ro [.sc]], rm := [.v [.sc]], nslots := 17, res := [4], rc := [], code := .kp [0, 1] c_impl_goodSides_0 }
def c_impl_goodDepth_2 : VC :=
  .seq (.r 1 [⟨none, [], none, .mv 3 (.s 0)⟩,
    ⟨none, [], none, .bin 4 .eql (.s 3) (.k (.int .i64 1))⟩,
    ⟨none, [], none, .mv 5 (.s 4)⟩,
    ⟨none, [], some (5, false), .mv 6 (.s 0)⟩,
    ⟨none, [], some (5, false), .bin 7 .eql (.s 6) (.k (.int .i64 2))⟩,
    ⟨none, [], none, .pick 8 (.s 5) (.k (.bool true)) (.s 7)⟩,
    ⟨none, [], none, .mv 9 (.s 8)⟩,
    ⟨none, [], some (9, false), .mv 10 (.s 0)⟩,
    ⟨none, [], some (9, false), .bin 11 .eql (.s 10) (.k (.int .i64 4))⟩,
    ⟨none, [], none, .pick 12 (.s 9) (.k (.bool true)) (.s 11)⟩,
    ⟨none, [], none, .mv 13 (.s 12)⟩,
    ⟨none, [], some (13, false), .mv 14 (.s 0)⟩,
    ⟨none, [], some (13, false), .bin 15 .eql (.s 14) (.k (.int .i64 8))⟩,
    ⟨none, [], none, .pick 16 (.s 13) (.k (.bool true)) (.s 15)⟩,
    ⟨none, [], none, .mv 17 (.s 16)⟩,
    ⟨none, [], some (17, false), .mv 18 (.s 0)⟩,
    ⟨none, [], some (17, false), .bin 19 .eql (.s 18) (.k (.int .i64 16))⟩,
    ⟨none, [], none, .pick 20 (.s 17) (.k (.bool true)) (.s 19)⟩,
    ⟨none, [], none, .mv 2 (.s 20)⟩]) (.ret)
def c_impl_goodDepth_0 : VC :=
  .seq (.r 0 [⟨none, [], none, .mv 2 (.k (.bool false))⟩]) c_impl_goodDepth_2
def vf_impl_goodDepth : VF := { pm := [.ro [.sc]], rm := [.v [.sc]], nslots := 21, res := [2], rc := [], code := .kp [0] c_impl_goodDepth_0 }
def c_impl_goodShape_2 : VC :=
  .seq (.r 1 [⟨none, [], none, .mv 9 (.s 0)⟩,
    ⟨none, [], none, .mv 10 (.s 1)⟩,
    ⟨none, [], none, .call 11 185 [(.s 9), (.s 10)]⟩,
    ⟨none, [], none, .mv 12 (.s 11)⟩,
    ⟨none, [], some (12, true), .mv 13 (.s 2)⟩,
    ⟨none, [], some (12, true), .bin 14 .geq (.s 13) (.k (.int .i64 1))⟩,
    ⟨none, [], none, .pick 15 (.s 12) (.s 14) (.k (.bool false))⟩,
    ⟨none, [], none, .mv 16 (.s 15)⟩,
    ⟨none, [], some (16, true), .mv 17 (.s 2)⟩,
    ⟨none, [], some (16, true), .bin 18 .leq (.s 17) (.k (.int .i64 4))⟩,
    ⟨none, [], none, .pick 19 (.s 16) (.s 18) (.k (.bool false))⟩,
    ⟨none, [], none, .mv 20 (.s 19)⟩,
    ⟨none, [], some (20, true), .mv 21 (.s 3)⟩,
    ⟨none, [], some (20, true), .call 22 214 [(.s 21)]⟩,
    ⟨none, [], none, .pick 23 (.s 20) (.s 22) (.k (.bool false))⟩,
    ⟨none, [], none, .mv 24 (.s 23)⟩,
    ⟨none, [], some (24, true), .mv 25 (.s 2)⟩,
    ⟨none, [], some (24, true), .bin 26 .eql (.s 25) (.k (.int .i64 1))⟩,
    ⟨none, [], some (24, true), .mv 27 (.s 26)⟩,
    ⟨none, [], some (27, false), .mv 28 (.s 3)⟩,
    ⟨none, [], some (27, false), .bin 29 .geq (.s 28) (.k (.int .i64 8))⟩,
    ⟨none, [], some (24, true), .pick 30 (.s 27) (.k (.bool true)) (.s 29)⟩,
    ⟨none, [], none, .pick 31 (.s 24) (.s 30) (.k (.bool false))⟩,
    ⟨none, [], none, .mv 8 (.s 31)⟩]) (.ret)
def c_impl_goodShape_0 : VC :=
  .seq (.r 0 [⟨none, [], none, .mv 8 (.k (.bool false))⟩]) c_impl_goodShape_2
def vf_impl_goodShape : VF := { pm := [.ro [.sc], .ro [.sc], .ro [.sc], .ro [.sc]], rm := [.v [.sc]], nslots := 32, res := [8], rc := [], code := .kp [0, 1, 2, 3] c_impl_goodShape_0 }
def c_impl_inRange_19 : VC :=
  .ite (.s 19) (.seq (.r 5 [⟨none, [], none, .mv 4 (.k (.bool false))⟩]) (.ret)) (.skip)
def c_impl_inRange_17 : VC :=
  .seq (.r 4 [⟨none, [], none, .mv 13 (.s 6)⟩,
    ⟨none, [], none, .bin 14 .lss (.s 13) (.k (.int .i64 0))⟩,
    ⟨none, [], none, .mv 15 (.s 14)⟩,
    ⟨none, [], some (15, false), .mv 16 (.s 6)⟩,
    ⟨none, [], some (15, false), .mv 17 (.s 1)⟩,
    ⟨none, [], some (15, false), .bin 18 .gtr (.s 16) (.s 17)⟩,
    ⟨none, [], none, .pick 19 (.s 15) (.k (.bool true)) (.s 18)⟩]) c_impl_inRange_19
def c_impl_inRange_24 : VC :=
  .r 6 [⟨none, [], none, .bin 20 .add (.s 9) (.k (.int .i64 1))⟩,
    ⟨none, [], none, .mv 9 (.s 20)⟩]
def c_impl_inRange_13 : VC :=
  .seq (.blk 1 (.seq (.r 3 [⟨none, [], none, .iadr 11 (.s 7) (.s 9) 1⟩,
    ⟨none, [], none, .ld 12 (.s 11) 1 false⟩,
    ⟨none, [], none, .mv 6 (.s 12)⟩]) c_impl_inRange_17)) c_impl_inRange_24
def c_impl_inRange_9 : VC :=
  .seq (.ite (.s 10) (.skip) (.exit 0)) c_impl_inRange_13
def c_impl_inRange_7 : VC :=
  .seq (.r 2 [⟨none, [], none, .bin 10 .lss (.s 9) (.s 8)⟩]) c_impl_inRange_9
def c_impl_inRange_5 : VC :=
  .blk 0 (.loop [1, 7, 8, 9] c_impl_inRange_7)
def c_impl_inRange_25 : VC :=
  .seq (.r 7 [⟨none, [], none, .mv 4 (.k (.bool true))⟩]) (.ret)
def c_impl_inRange_2 : VC :=
  .seq (.seq (.r 1 [⟨none, [], none, .mv 7 (.s 0)⟩,
    ⟨none, [], none, .len 8 (.s 7)⟩,
    ⟨none, [], none, .mv 9 (.k (.int .i64 0))⟩]) c_impl_inRange_5) (.kp [] c_impl_inRange_25)
def c_impl_inRange_0 : VC :=
  .seq (.r 0 [⟨none, [], none, .mv 4 (.k (.bool false))⟩]) c_impl_inRange_2
def vf_impl_inRange : VF := { pm := [.ro [.ro [.sc]], .ro [.sc]], rm := [.v [.sc]], nslots := 21, res := [4], rc := [], code := .kp [0, 1] c_impl_inRange_0 }
def c_impl_GoodImage_2 : VC :=
  .seq (.d 1 [(0, ⟨none, [], none, .fadv 3 (.s 1) 0⟩),
    (1, ⟨none, [], none, .ldv 4 (.s 3) 1 false⟩),
    (2, ⟨none, [], none, .fadv 5 (.s 1) 1⟩),
    (3, ⟨none, [], none, .ldv 6 (.s 5) 1 false⟩),
    (4, ⟨none, [], none, .fadv 7 (.s 1) 2⟩),
    (5, ⟨none, [], none, .ldv 8 (.s 7) 1 false⟩),
    (6, ⟨none, [], none, .fadv 9 (.s 1) 3⟩),
    (7, ⟨none, [], none, .ldv 10 (.s 9) 1 false⟩),
    (8, ⟨none, [], none, .call 11 168 [(.s 4), (.s 6), (.s 8), (.s 10)]⟩),
    (9, ⟨none, [], none, .mv 12 (.s 11)⟩),
    (10, ⟨none, [], some (12, true), .fadv 13 (.s 1) 4⟩),
    (11, ⟨none, [], some (12, true), .ldv 14 (.s 13) 1 false⟩),
    (12, ⟨none, [], some (12, true), .len 15 (.s 14)⟩),
    (13, ⟨none, [], some (12, true), .fadv 16 (.s 1) 0⟩),
    (14, ⟨none, [], some (12, true), .ldv 17 (.s 16) 1 false⟩),
    (15, ⟨none, [], some (12, true), .fadv 18 (.s 1) 1⟩),
    (16, ⟨none, [], some (12, true), .ldv 19 (.s 18) 1 false⟩),
    (17, ⟨none, [], some (12, true), .bin 20 .mul (.s 17) (.s 19)⟩),
    (18, ⟨none, [], some (12, true), .fadv 21 (.s 1) 2⟩),
    (19, ⟨none, [], some (12, true), .ldv 22 (.s 21) 1 false⟩),
    (20, ⟨none, [], some (12, true), .bin 23 .mul (.s 20) (.s 22)⟩),
    (21, ⟨none, [], some (12, true), .bin 24 .eql (.s 15) (.s 23)⟩),
    (22, ⟨none, [], none, .pick 25 (.s 12) (.s 24) (.k (.bool false))⟩),
    (23, ⟨none, [], none, .mv 26 (.s 25)⟩),
    (24, ⟨none, [], some (26, true), .fadv 27 (.s 1) 4⟩),
    (25, ⟨none, [], some (26, true), .ldv 28 (.s 27) 1 false⟩),
    (26, ⟨none, [], some (26, true), .fadv 29 (.s 1) 3⟩),
    (27, ⟨none, [], some (26, true), .ldv 30 (.s 29) 1 false⟩),
    (28, ⟨none, [], some (26, true), .bin 31 .shl (.k (.int .i64 1)) (.s 30)⟩),
    (29, ⟨none, [], some (26, true), .bin 32 .sub (.s 31) (.k (.int .i64 1))⟩),
    (30, ⟨none, [], some (26, true), .call 33 104 [(.s 28), (.s 32)]⟩),
    (31, ⟨none, [], none, .pick 34 (.s 26) (.s 33) (.k (.bool false))⟩),
    (32, ⟨none, [], none, .mv 2 (.s 34)⟩)]) (.ret)
def c_impl_GoodImage_0 : VC :=
  .seq (.r 0 [⟨none, [], none, .box 1 (.s 0)⟩,
    ⟨none, [], none, .mv 2 (.k (.bool false))⟩]) c_impl_GoodImage_2
def vf_impl_GoodImage : VF := { pm := [.ro [.sc, .sc, .sc, .sc, .ro [.sc]]], rm := [.v [.sc]], nslots := 35, res := [2], rc := [], code := .kp [0] c_impl_GoodImage_0 }
def ex_strings_IndexByte (ars : List Arg) : Option FRes := match ars with | [.v false [.lit (.string p0)], .v false [.lit (.int .u8 p1)]] => (gIndexByte p0 p1).map fun r => ⟨[.v false [.lit (.int .i64 r)]], []⟩ | _ => none
def vf_strings_IndexByte : VF := { given := true, pm := [.ro [.sc], .ro [.sc]], rm := [.v [.sc]], nslots := 3, res := [2], rc := [], code := .skip }
def c_impl_goodNote_5 : VC :=
  .ite (.s 25) (.seq (.r 2 [⟨none, [], none, .mv 2 (.k (.bool false))⟩]) (.ret)) (.skip)
def c_impl_goodNote_27 : VC :=
  .ite (.s 43) (.seq (.r 7 [⟨none, [], none, .mv 2 (.k (.bool false))⟩]) (.ret)) (.skip)
def c_impl_goodNote_25 : VC :=
  .seq (.r 6 [⟨none, [], none, .fadr 32 (.s 1) 0⟩,
    ⟨none, [], none, .ld 33 (.s 32) 1 false⟩,
    ⟨none, [], none, .mv 34 (.s 3)⟩,
    ⟨none, [], none, .idx 35 (.s 33) (.s 34)⟩,
    ⟨none, [], none, .bin 36 .lss (.s 35) (.k (.int .u8 32))⟩,
    ⟨none, [], none, .mv 37 (.s 36)⟩,
    ⟨none, [], some (37, false), .fadr 38 (.s 1) 0⟩,
    ⟨none, [], some (37, false), .ld 39 (.s 38) 1 false⟩,
    ⟨none, [], some (37, false), .mv 40 (.s 3)⟩,
    ⟨none, [], some (37, false), .idx 41 (.s 39) (.s 40)⟩,
    ⟨none, [], some (37, false), .bin 42 .gtr (.s 41) (.k (.int .u8 126))⟩,
    ⟨none, [], none, .pick 43 (.s 37) (.k (.bool true)) (.s 42)⟩]) c_impl_goodNote_27
def c_impl_goodNote_32 : VC :=
  .r 8 [⟨none, [], none, .bin 44 .add (.s 29) (.k (.int .i64 1))⟩,
    ⟨none, [], none, .mv 29 (.s 44)⟩]
def c_impl_goodNote_21 : VC :=
  .seq (.blk 1 (.seq (.r 5 [⟨none, [], none, .mv 31 (.s 29)⟩,
    ⟨none, [], none, .mv 3 (.s 31)⟩]) c_impl_goodNote_25)) c_impl_goodNote_32
def c_impl_goodNote_17 : VC :=
  .seq (.ite (.s 30) (.skip) (.exit 0)) c_impl_goodNote_21
def c_impl_goodNote_15 : VC :=
  .seq (.r 4 [⟨none, [], none, .bin 30 .lss (.s 29) (.s 28)⟩]) c_impl_goodNote_17
def c_impl_goodNote_13 : VC :=
  .blk 0 (.loop [1, 28, 29] c_impl_goodNote_15)
def c_impl_goodNote_33 : VC :=
  .seq (.r 9 [⟨none, [], none, .mv 2 (.k (.bool true))⟩]) (.ret)
def c_impl_goodNote_10 : VC :=
  .seq (.seq (.r 3 [⟨none, [], none, .fadr 26 (.s 1) 0⟩,
    ⟨none, [], none, .ld 27 (.s 26) 1 false⟩,
    ⟨none, [], none, .slen 28 (.s 27)⟩,
    ⟨none, [], none, .mv 29 (.k (.int .i64 0))⟩]) c_impl_goodNote_13) (.kp [] c_impl_goodNote_33)
def c_impl_goodNote_2 : VC :=
  .seq (.seq (.r 1 [⟨none, [], none, .fadr 4 (.s 1) 0⟩,
    ⟨none, [], none, .ld 5 (.s 4) 1 false⟩,
    ⟨none, [], none, .slen 6 (.s 5)⟩,
    ⟨none, [], none, .bin 7 .lss (.s 6) (.k (.int .i64 1))⟩,
    ⟨none, [], none, .mv 8 (.s 7)⟩,
    ⟨none, [], some (8, false), .fadr 9 (.s 1) 0⟩,
    ⟨none, [], some (8, false), .ld 10 (.s 9) 1 false⟩,
    ⟨none, [], some (8, false), .slen 11 (.s 10)⟩,
    ⟨none, [], some (8, false), .bin 12 .gtr (.s 11) (.k (.int .i64 40))⟩,
    ⟨none, [], none, .pick 13 (.s 8) (.k (.bool true)) (.s 12)⟩,
    ⟨none, [], none, .mv 14 (.s 13)⟩,
    ⟨none, [], some (14, false), .fadr 15 (.s 1) 1⟩,
    ⟨none, [], some (14, false), .ld 16 (.s 15) 1 false⟩,
    ⟨none, [], some (14, false), .slen 17 (.s 16)⟩,
    ⟨none, [], some (14, false), .bin 18 .gtr (.s 17) (.k (.int .i64 1000))⟩,
    ⟨none, [], none, .pick 19 (.s 14) (.k (.bool true)) (.s 18)⟩,
    ⟨none, [], none, .mv 20 (.s 19)⟩,
    ⟨none, [], some (20, false), .fadr 21 (.s 1) 1⟩,
    ⟨none, [], some (20, false), .ld 22 (.s 21) 1 false⟩,
    ⟨none, [], some (20, false), .call 23 169 [(.s 22), (.k (.int .u8 0))]⟩,
    ⟨none, [], some (20, false), .bin 24 .geq (.s 23) (.k (.int .i64 0))⟩,
    ⟨none, [], none, .pick 25 (.s 20) (.k (.bool true)) (.s 24)⟩]) c_impl_goodNote_5) c_impl_goodNote_10
def c_impl_goodNote_0 : VC :=
  .seq (.r 0 [⟨none, [], none, .box 1 (.s 0)⟩,
    ⟨none, [], none, .mv 2 (.k (.bool false))⟩]) c_impl_goodNote_2
def vf_impl_goodNote : VF := { pm := [.ro [.sc, .sc]], rm := [.v [.sc]], nslots := 45, res := [2], rc := [], code := .kp [0] c_impl_goodNote_0 }
def c_impl_Passes_5 : VC :=
  .ite (.s 15) (.seq (.r 2 [⟨none, [], none, .nil 4 [.sc, .sc, .sc, .sc, .sc, .sc]⟩]) (.ret)) (.skip)
def c_impl_Passes_33 : VC :=
  .ite (.s 60) (.r 10 [⟨none, [], none, .mv 61 (.s 5)⟩,
    ⟨none, [], none, .ld 62 (.s 7) 6 true⟩,
    ⟨none, [], none, .lits 63 [.sc, .sc, .sc, .sc, .sc, .sc] [(.s 62)]⟩,
    ⟨none, [], none, .app 64 (.s 61) (.s 63) [.sc, .sc, .sc, .sc, .sc, .sc] 2932031007402⟩,
    ⟨none, [], none, .mv 5 (.s 64)⟩]) (.skip)
def c_impl_Passes_31 : VC :=
  .seq (.r 9 [⟨none, [], none, .fadr 53 (.s 7) 4⟩,
    ⟨none, [], none, .ld 54 (.s 53) 1 false⟩,
    ⟨none, [], none, .bin 55 .gtr (.s 54) (.k (.int .i64 0))⟩,
    ⟨none, [], none, .mv 56 (.s 55)⟩,
    ⟨none, [], some (56, true), .fadr 57 (.s 7) 5⟩,
    ⟨none, [], some (56, true), .ld 58 (.s 57) 1 false⟩,
    ⟨none, [], some (56, true), .bin 59 .gtr (.s 58) (.k (.int .i64 0))⟩,
    ⟨none, [], none, .pick 60 (.s 56) (.s 59) (.k (.bool false))⟩]) (.kp [0, 1, 5, 7, 23, 24, 25, 60] c_impl_Passes_33)
def c_impl_Passes_29 : VC :=
  .seq (.r 8 [⟨none, [], none, .mv 41 (.s 1)⟩,
    ⟨none, [], none, .fadr 42 (.s 7) 1⟩,
    ⟨none, [], none, .ld 43 (.s 42) 1 false⟩,
    ⟨none, [], none, .bin 44 .sub (.s 41) (.s 43)⟩,
    ⟨none, [], none, .fadr 45 (.s 7) 3⟩,
    ⟨none, [], none, .ld 46 (.s 45) 1 false⟩,
    ⟨none, [], none, .bin 47 .add (.s 44) (.s 46)⟩,
    ⟨none, [], none, .bin 48 .sub (.s 47) (.k (.int .i64 1))⟩,
    ⟨none, [], none, .fadr 49 (.s 7) 3⟩,
    ⟨none, [], none, .ld 50 (.s 49) 1 false⟩,
    ⟨none, [], none, .bin 51 .quo (.s 48) (.s 50)⟩,
    ⟨none, [], none, .fadr 52 (.s 7) 5⟩,
    ⟨none, [], none, .st (.s 52) (.s 51) 1⟩]) c_impl_Passes_31
def c_impl_Passes_27 : VC :=
  .seq (.r 7 [⟨none, [], none, .mv 29 (.s 0)⟩,
    ⟨none, [], none, .fadr 30 (.s 7) 0⟩,
    ⟨none, [], none, .ld 31 (.s 30) 1 false⟩,
    ⟨none, [], none, .bin 32 .sub (.s 29) (.s 31)⟩,
    ⟨none, [], none, .fadr 33 (.s 7) 2⟩,
    ⟨none, [], none, .ld 34 (.s 33) 1 false⟩,
    ⟨none, [], none, .bin 35 .add (.s 32) (.s 34)⟩,
    ⟨none, [], none, .bin 36 .sub (.s 35) (.k (.int .i64 1))⟩,
    ⟨none, [], none, .fadr 37 (.s 7) 2⟩,
    ⟨none, [], none, .ld 38 (.s 37) 1 false⟩,
    ⟨none, [], none, .bin 39 .quo (.s 36) (.s 38)⟩,
    ⟨none, [], none, .fadr 40 (.s 7) 4⟩,
    ⟨none, [], none, .st (.s 40) (.s 39) 1⟩]) c_impl_Passes_29
def c_impl_Passes_36 : VC :=
  .r 11 [⟨none, [], none, .bin 65 .add (.s 25) (.k (.int .i64 1))⟩,
    ⟨none, [], none, .mv 25 (.s 65)⟩]
def c_impl_Passes_23 : VC :=
  .seq (.blk 1 (.seq (.r 6 [⟨none, [], none, .iadr 27 (.s 23) (.s 25) 6⟩,
    ⟨none, [], none, .ld 28 (.s 27) 6 true⟩,
    ⟨none, [], none, .alloc 7 [.k (.int .i64 0), .k (.int .i64 0), .k (.int .i64 0), .k (.int .i64 0), .k (.int .i64 0), .k (.int .i64 0)]⟩,
    ⟨none, [], none, .st (.s 7) (.s 28) 6⟩]) c_impl_Passes_27)) c_impl_Passes_36
def c_impl_Passes_19 : VC :=
  .seq (.ite (.s 26) (.skip) (.exit 0)) c_impl_Passes_23
def c_impl_Passes_17 : VC :=
  .seq (.r 5 [⟨none, [], none, .bin 26 .lss (.s 25) (.s 24)⟩]) c_impl_Passes_19
def c_impl_Passes_15 : VC :=
  .blk 0 (.loop [0, 1, 5, 23, 24, 25] c_impl_Passes_17)
def c_impl_Passes_37 : VC :=
  .seq (.r 12 [⟨none, [], none, .mv 66 (.s 5)⟩,
    ⟨none, [], none, .mv 4 (.s 66)⟩]) (.ret)
def c_impl_Passes_12 : VC :=
  .seq (.seq (.r 4 [⟨none, [], none, .bld 16 [.k (.int .i64 0), .k (.int .i64 0), .k (.int .i64 0), .k (.int .i64 0), .k (.int .i64 0), .k (.int .i64 0)] [(0, 1, (.k (.int .i64 0))), (1, 1, (.k (.int .i64 0))), (2, 1, (.k (.int .i64 8))), (3, 1, (.k (.int .i64 8)))]⟩,
    ⟨none, [], none, .bld 17 [.k (.int .i64 0), .k (.int .i64 0), .k (.int .i64 0), .k (.int .i64 0), .k (.int .i64 0), .k (.int .i64 0)] [(0, 1, (.k (.int .i64 4))), (1, 1, (.k (.int .i64 0))), (2, 1, (.k (.int .i64 8))), (3, 1, (.k (.int .i64 8)))]⟩,
    ⟨none, [], none, .bld 18 [.k (.int .i64 0), .k (.int .i64 0), .k (.int .i64 0), .k (.int .i64 0), .k (.int .i64 0), .k (.int .i64 0)] [(0, 1, (.k (.int .i64 0))), (1, 1, (.k (.int .i64 4))), (2, 1, (.k (.int .i64 4))), (3, 1, (.k (.int .i64 8)))]⟩,
    ⟨none, [], none, .bld 19 [.k (.int .i64 0), .k (.int .i64 0), .k (.int .i64 0), .k (.int .i64 0), .k (.int .i64 0), .k (.int .i64 0)] [(0, 1, (.k (.int .i64 2))), (1, 1, (.k (.int .i64 0))), (2, 1, (.k (.int .i64 4))), (3, 1, (.k (.int .i64 4)))]⟩,
    ⟨none, [], none, .bld 20 [.k (.int .i64 0), .k (.int .i64 0), .k (.int .i64 0), .k (.int .i64 0), .k (.int .i64 0), .k (.int .i64 0)] [(0, 1, (.k (.int .i64 0))), (1, 1, (.k (.int .i64 2))), (2, 1, (.k (.int .i64 2))), (3, 1, (.k (.int .i64 4)))]⟩,
    ⟨none, [], none, .bld 21 [.k (.int .i64 0), .k (.int .i64 0), .k (.int .i64 0), .k (.int .i64 0), .k (.int .i64 0), .k (.int .i64 0)] [(0, 1, (.k (.int .i64 1))), (1, 1, (.k (.int .i64 0))), (2, 1, (.k (.int .i64 2))), (3, 1, (.k (.int .i64 2)))]⟩,
    ⟨none, [], none, .bld 22 [.k (.int .i64 0), .k (.int .i64 0), .k (.int .i64 0), .k (.int .i64 0), .k (.int .i64 0), .k (.int .i64 0)] [(0, 1, (.k (.int .i64 0))), (1, 1, (.k (.int .i64 1))), (2, 1, (.k (.int .i64 1))), (3, 1, (.k (.int .i64 2)))]⟩,
    ⟨none, [], none, .lits 23 [.sc, .sc, .sc, .sc, .sc, .sc] [(.s 16), (.s 17), (.s 18), (.s 19), (.s 20), (.s 21), (.s 22)]⟩,
    ⟨none, [], none, .len 24 (.s 23)⟩,
    ⟨none, [], none, .mv 25 (.k (.int .i64 0))⟩]) c_impl_Passes_15) (.kp [5] c_impl_Passes_37)
def c_impl_Passes_10 : VC :=
  .seq (.r 3 [⟨none, [], none, .nil 5 [.sc, .sc, .sc, .sc, .sc, .sc]⟩]) c_impl_Passes_12
def c_impl_Passes_2 : VC :=
  .seq (.seq (.r 1 [⟨none, [], none, .mv 8 (.s 0)⟩,
    ⟨none, [], none, .call 9 218 [(.s 8)]⟩,
    ⟨none, [], none, .un 10 .not (.s 9)⟩,
    ⟨none, [], none, .mv 11 (.s 10)⟩,
    ⟨none, [], some (11, false), .mv 12 (.s 1)⟩,
    ⟨none, [], some (11, false), .call 13 218 [(.s 12)]⟩,
    ⟨none, [], some (11, false), .un 14 .not (.s 13)⟩,
    ⟨none, [], none, .pick 15 (.s 11) (.k (.bool true)) (.s 14)⟩]) c_impl_Passes_5) c_impl_Passes_10
def c_impl_Passes_0 : VC :=
  .seq (.r 0 [⟨none, [], none, .nil 4 [.sc, .sc, .sc, .sc, .sc, .sc]⟩]) c_impl_Passes_2
def vf_impl_Passes : VF := { pm := [.ro [.sc], .ro [.sc]], rm := [.v [.own [.sc, .sc, .sc, .sc, .sc, .sc]]], nslots := 67, res := [4], rc := [], code := .kp [0, 1] c_impl_Passes_0 }
def c_impl_shapes_5 : VC :=
  .ite (.s 11) (.seq (.r 2 [⟨none, [], none, .mv 12 (.s 0)⟩,
    ⟨none, [], none, .mv 13 (.s 1)⟩,
    ⟨none, [], none, .bld 14 [.k (.int .i64 0), .k (.int .i64 0)] [(0, 1, (.s 12)), (1, 1, (.s 13))]⟩,
    ⟨none, [], none, .lits 15 [.sc, .sc] [(.s 14)]⟩,
    ⟨none, [], none, .mv 6 (.s 15)⟩]) (.ret)) (.skip)
def c_impl_shapes_27 : VC :=
  .r 7 [⟨none, [], none, .mv 24 (.s 7)⟩,
    ⟨none, [], none, .fadr 25 (.s 9) 4⟩,
    ⟨none, [], none, .ld 26 (.s 25) 1 false⟩,
    ⟨none, [], none, .fadr 27 (.s 9) 5⟩,
    ⟨none, [], none, .ld 28 (.s 27) 1 false⟩,
    ⟨none, [], none, .bld 29 [.k (.int .i64 0), .k (.int .i64 0)] [(0, 1, (.s 26)), (1, 1, (.s 28))]⟩,
    ⟨none, [], none, .lits 30 [.sc, .sc] [(.s 29)]⟩,
    ⟨none, [], none, .app 31 (.s 24) (.s 30) [.sc, .sc] 8796093022208⟩,
    ⟨none, [], none, .mv 7 (.s 31)⟩]
def c_impl_shapes_28 : VC :=
  .r 8 [⟨none, [], none, .bin 32 .add (.s 20) (.k (.int .i64 1))⟩,
    ⟨none, [], none, .mv 20 (.s 32)⟩]
def c_impl_shapes_23 : VC :=
  .seq (.blk 1 (.seq (.r 6 [⟨none, [], none, .iadr 22 (.s 18) (.s 20) 6⟩,
    ⟨none, [], none, .ld 23 (.s 22) 6 true⟩,
    ⟨none, [], none, .alloc 9 [.k (.int .i64 0), .k (.int .i64 0), .k (.int .i64 0), .k (.int .i64 0), .k (.int .i64 0), .k (.int .i64 0)]⟩,
    ⟨none, [], none, .st (.s 9) (.s 23) 6⟩]) c_impl_shapes_27)) c_impl_shapes_28
def c_impl_shapes_19 : VC :=
  .seq (.ite (.s 21) (.skip) (.exit 0)) c_impl_shapes_23
def c_impl_shapes_17 : VC :=
  .seq (.r 5 [⟨none, [], none, .bin 21 .lss (.s 20) (.s 19)⟩]) c_impl_shapes_19
def c_impl_shapes_15 : VC :=
  .blk 0 (.loop [7, 18, 19, 20] c_impl_shapes_17)
def c_impl_shapes_29 : VC :=
  .seq (.r 9 [⟨none, [], none, .mv 33 (.s 7)⟩,
    ⟨none, [], none, .mv 6 (.s 33)⟩]) (.ret)
def c_impl_shapes_12 : VC :=
  .seq (.seq (.r 4 [⟨none, [], none, .mv 16 (.s 0)⟩,
    ⟨none, [], none, .mv 17 (.s 1)⟩,
    ⟨none, [], none, .call 18 216 [(.s 16), (.s 17)]⟩,
    ⟨none, [], none, .len 19 (.s 18)⟩,
    ⟨none, [], none, .mv 20 (.k (.int .i64 0))⟩]) c_impl_shapes_15) (.kp [7] c_impl_shapes_29)
def c_impl_shapes_10 : VC :=
  .seq (.r 3 [⟨none, [], none, .nil 7 [.sc, .sc]⟩]) c_impl_shapes_12
def c_impl_shapes_2 : VC :=
  .seq (.seq (.r 1 [⟨none, [], none, .mv 10 (.s 2)⟩,
    ⟨none, [], none, .un 11 .not (.s 10)⟩]) c_impl_shapes_5) c_impl_shapes_10
def c_impl_shapes_0 : VC :=
  .seq (.r 0 [⟨none, [], none, .nil 6 [.sc, .sc]⟩]) c_impl_shapes_2
def vf_impl_shapes : VF := { pm := [.ro [.sc], .ro [.sc], .ro [.sc]], rm := [.v [.own [.sc, .sc]]], nslots := 34, res := [6], rc := [], code := .kp [0, 1, 2] c_impl_shapes_0 }
def c_impl_rowBytes_2 : VC :=
  .seq (.r 1 [⟨none, [], none, .mv 7 (.s 0)⟩,
    ⟨none, [], none, .mv 8 (.s 1)⟩,
    ⟨none, [], none, .bin 9 .mul (.s 7) (.s 8)⟩,
    ⟨none, [], none, .mv 10 (.s 2)⟩,
    ⟨none, [], none, .bin 11 .mul (.s 9) (.s 10)⟩,
    ⟨none, [], none, .bin 12 .add (.s 11) (.k (.int .i64 7))⟩,
    ⟨none, [], none, .bin 13 .quo (.s 12) (.k (.int .i64 8))⟩,
    ⟨none, [], none, .mv 6 (.s 13)⟩]) (.ret)
def c_impl_rowBytes_0 : VC :=
  .seq (.r 0 [⟨none, [], none, .mv 6 (.k (.int .i64 0))⟩]) c_impl_rowBytes_2
def vf_impl_rowBytes : VF := { pm := [.ro [.sc], .ro [.sc], .ro [.sc]], rm := [.v [.sc]], nslots := 14, res := [6], rc := [], code := .kp [0, 1, 2] c_impl_rowBytes_0 }
def c_impl_rowsSize_19 : VC :=
  .d 5 [(0, ⟨none, [], none, .mv 23 (.s 11)⟩),
    (1, ⟨none, [], none, .fadv 24 (.s 13) 1⟩),
    (2, ⟨none, [], none, .ldv 25 (.s 24) 1 false⟩),
    (3, ⟨none, [], none, .fadv 26 (.s 13) 0⟩),
    (4, ⟨none, [], none, .ldv 27 (.s 26) 1 false⟩),
    (5, ⟨none, [], none, .mv 28 (.s 2)⟩),
    (6, ⟨none, [], none, .mv 29 (.s 3)⟩),
    (7, ⟨none, [], none, .call 30 171 [(.s 27), (.s 28), (.s 29)]⟩),
    (8, ⟨none, [], none, .bin 31 .add (.k (.int .i64 1)) (.s 30)⟩),
    (9, ⟨none, [], none, .bin 32 .mul (.s 25) (.s 31)⟩),
    (10, ⟨none, [], none, .bin 33 .add (.s 23) (.s 32)⟩),
    (11, ⟨none, [], none, .mv 11 (.s 33)⟩)]
def c_impl_rowsSize_20 : VC :=
  .r 6 [⟨none, [], none, .bin 34 .add (.s 19) (.k (.int .i64 1))⟩,
    ⟨none, [], none, .mv 19 (.s 34)⟩]
def c_impl_rowsSize_15 : VC :=
  .seq (.blk 1 (.seq (.r 4 [⟨none, [], none, .iadr 21 (.s 17) (.s 19) 2⟩,
    ⟨none, [], none, .ld 22 (.s 21) 2 true⟩,
    ⟨none, [], none, .alloc 13 [.k (.int .i64 0), .k (.int .i64 0)]⟩,
    ⟨none, [], none, .st (.s 13) (.s 22) 2⟩]) c_impl_rowsSize_19)) c_impl_rowsSize_20
def c_impl_rowsSize_11 : VC :=
  .seq (.ite (.s 20) (.skip) (.exit 0)) c_impl_rowsSize_15
def c_impl_rowsSize_9 : VC :=
  .seq (.r 3 [⟨none, [], none, .bin 20 .lss (.s 19) (.s 18)⟩]) c_impl_rowsSize_11
def c_impl_rowsSize_7 : VC :=
  .blk 0 (.loop [2, 3, 11, 17, 18, 19] c_impl_rowsSize_9)
def c_impl_rowsSize_21 : VC :=
  .seq (.r 7 [⟨none, [], none, .mv 35 (.s 11)⟩,
    ⟨none, [], none, .mv 10 (.s 35)⟩]) (.ret)
def c_impl_rowsSize_4 : VC :=
  .seq (.seq (.r 2 [⟨none, [], none, .mv 14 (.s 0)⟩,
    ⟨none, [], none, .mv 15 (.s 1)⟩,
    ⟨none, [], none, .mv 16 (.s 4)⟩,
    ⟨none, [], none, .call 17 170 [(.s 14), (.s 15), (.s 16)]⟩,
    ⟨none, [], none, .len 18 (.s 17)⟩,
    ⟨none, [], none, .mv 19 (.k (.int .i64 0))⟩]) c_impl_rowsSize_7) (.kp [11] c_impl_rowsSize_21)
def c_impl_rowsSize_2 : VC :=
  .seq (.r 1 [⟨none, [], none, .mv 11 (.k (.int .i64 0))⟩]) c_impl_rowsSize_4
def c_impl_rowsSize_0 : VC :=
  .seq (.r 0 [⟨none, [], none, .mv 10 (.k (.int .i64 0))⟩]) c_impl_rowsSize_2
def vf_impl_rowsSize : VF := { pm := [.ro [.sc], .ro [.sc], .ro [.sc], .ro [.sc], .ro [.sc]], rm := [.v [.sc]], nslots := 36, res := [10], rc := [], code := .kp [0, 1, 2, 3, 4] c_impl_rowsSize_0 }
def c_impl_GoodStill_7 : VC :=
  .ite (.s 28) (.seq (.r 3 [⟨none, [], none, .mv 2 (.k (.bool false))⟩]) (.ret)) (.skip)
def c_impl_GoodStill_15 : VC :=
  .ite (.s 52) (.seq (.r 5 [⟨none, [], none, .mv 2 (.k (.bool false))⟩]) (.ret)) (.skip)
def c_impl_GoodStill_37 : VC :=
  .ite (.s 62) (.seq (.r 10 [⟨none, [], none, .mv 2 (.k (.bool false))⟩]) (.ret)) (.skip)
def c_impl_GoodStill_35 : VC :=
  .seq (.r 9 [⟨none, [], none, .ld 60 (.s 5) 2 true⟩,
    ⟨none, [], none, .call 61 105 [(.s 60)]⟩,
    ⟨none, [], none, .un 62 .not (.s 61)⟩]) c_impl_GoodStill_37
def c_impl_GoodStill_42 : VC :=
  .r 11 [⟨none, [], none, .bin 63 .add (.s 56) (.k (.int .i64 1))⟩,
    ⟨none, [], none, .mv 56 (.s 63)⟩]
def c_impl_GoodStill_31 : VC :=
  .seq (.blk 1 (.seq (.r 8 [⟨none, [], none, .iadr 58 (.s 54) (.s 56) 2⟩,
    ⟨none, [], none, .ld 59 (.s 58) 2 true⟩,
    ⟨none, [], none, .alloc 5 [.k (.string (ByteArray.mk #[])), .k (.string (ByteArray.mk #[]))]⟩,
    ⟨none, [], none, .st (.s 5) (.s 59) 2⟩]) c_impl_GoodStill_35)) c_impl_GoodStill_42
def c_impl_GoodStill_27 : VC :=
  .seq (.ite (.s 57) (.skip) (.exit 0)) c_impl_GoodStill_31
def c_impl_GoodStill_25 : VC :=
  .seq (.r 7 [⟨none, [], none, .bin 57 .lss (.s 56) (.s 55)⟩]) c_impl_GoodStill_27
def c_impl_GoodStill_23 : VC :=
  .blk 0 (.loop [1, 3, 54, 55, 56] c_impl_GoodStill_25)
def c_impl_GoodStill_43 : VC :=
  .seq (.r 12 [⟨none, [], none, .fadr 64 (.s 3) 0⟩,
    ⟨none, [], none, .ld 65 (.s 64) 1 false⟩,
    ⟨none, [], none, .fadr 66 (.s 3) 1⟩,
    ⟨none, [], none, .ld 67 (.s 66) 1 false⟩,
    ⟨none, [], none, .fadr 68 (.s 3) 2⟩,
    ⟨none, [], none, .ld 69 (.s 68) 1 false⟩,
    ⟨none, [], none, .fadr 70 (.s 3) 3⟩,
    ⟨none, [], none, .ld 71 (.s 70) 1 false⟩,
    ⟨none, [], none, .fadr 72 (.s 1) 7⟩,
    ⟨none, [], none, .ld 73 (.s 72) 1 false⟩,
    ⟨none, [], none, .call 74 106 [(.s 65), (.s 67), (.s 69), (.s 71), (.s 73)]⟩,
    ⟨none, [], none, .bin 75 .leq (.s 74) (.k (.int .i64 6000))⟩,
    ⟨none, [], none, .mv 2 (.s 75)⟩]) (.ret)
def c_impl_GoodStill_20 : VC :=
  .seq (.seq (.r 6 [⟨none, [], none, .fadr 53 (.s 1) 6⟩,
    ⟨none, [], none, .ld 54 (.s 53) 1 false⟩,
    ⟨none, [], none, .len 55 (.s 54)⟩,
    ⟨none, [], none, .mv 56 (.k (.int .i64 0))⟩]) c_impl_GoodStill_23) (.kp [1, 3] c_impl_GoodStill_43)
def c_impl_GoodStill_12 : VC :=
  .seq (.seq (.r 4 [⟨none, [], none, .fadr 29 (.s 1) 5⟩,
    ⟨none, [], none, .ld 30 (.s 29) 1 false⟩,
    ⟨none, [], none, .len 31 (.s 30)⟩,
    ⟨none, [], none, .bin 32 .gtr (.s 31) (.k (.int .i64 0))⟩,
    ⟨none, [], none, .mv 33 (.s 32)⟩,
    ⟨none, [], some (33, true), .fadr 34 (.s 3) 2⟩,
    ⟨none, [], some (33, true), .ld 35 (.s 34) 1 false⟩,
    ⟨none, [], some (33, true), .bin 36 .neq (.s 35) (.k (.int .i64 1))⟩,
    ⟨none, [], some (33, true), .mv 37 (.s 36)⟩,
    ⟨none, [], some (37, false), .fadr 38 (.s 3) 3⟩,
    ⟨none, [], some (37, false), .ld 39 (.s 38) 1 false⟩,
    ⟨none, [], some (37, false), .bin 40 .gtr (.s 39) (.k (.int .i64 8))⟩,
    ⟨none, [], some (33, true), .pick 41 (.s 37) (.k (.bool true)) (.s 40)⟩,
    ⟨none, [], some (33, true), .mv 42 (.s 41)⟩,
    ⟨none, [], some (42, false), .fadr 43 (.s 3) 4⟩,
    ⟨none, [], some (42, false), .ld 44 (.s 43) 1 false⟩,
    ⟨none, [], some (42, false), .fadr 45 (.s 1) 5⟩,
    ⟨none, [], some (42, false), .ld 46 (.s 45) 1 false⟩,
    ⟨none, [], some (42, false), .len 47 (.s 46)⟩,
    ⟨none, [], some (42, false), .bin 48 .sub (.s 47) (.k (.int .i64 1))⟩,
    ⟨none, [], some (42, false), .call 49 104 [(.s 44), (.s 48)]⟩,
    ⟨none, [], some (42, false), .un 50 .not (.s 49)⟩,
    ⟨none, [], some (33, true), .pick 51 (.s 42) (.k (.bool true)) (.s 50)⟩,
    ⟨none, [], none, .pick 52 (.s 33) (.s 51) (.k (.bool false))⟩]) c_impl_GoodStill_15) (.kp [1, 3] c_impl_GoodStill_20)
def c_impl_GoodStill_4 : VC :=
  .seq (.seq (.r 2 [⟨none, [], none, .ld 8 (.s 3) 5 true⟩,
    ⟨none, [], none, .call 9 103 [(.s 8)]⟩,
    ⟨none, [], none, .un 10 .not (.s 9)⟩,
    ⟨none, [], none, .mv 11 (.s 10)⟩,
    ⟨none, [], some (11, false), .fadr 12 (.s 1) 5⟩,
    ⟨none, [], some (11, false), .ld 13 (.s 12) 1 false⟩,
    ⟨none, [], some (11, false), .len 14 (.s 13)⟩,
    ⟨none, [], some (11, false), .bin 15 .gtr (.s 14) (.k (.int .i64 256))⟩,
    ⟨none, [], none, .pick 16 (.s 11) (.k (.bool true)) (.s 15)⟩,
    ⟨none, [], none, .mv 17 (.s 16)⟩,
    ⟨none, [], some (17, false), .fadr 18 (.s 1) 5⟩,
    ⟨none, [], some (17, false), .ld 19 (.s 18) 1 false⟩,
    ⟨none, [], some (17, false), .call 20 104 [(.s 19), (.k (.int .i64 16777215))]⟩,
    ⟨none, [], some (17, false), .un 21 .not (.s 20)⟩,
    ⟨none, [], none, .pick 22 (.s 17) (.k (.bool true)) (.s 21)⟩,
    ⟨none, [], none, .mv 23 (.s 22)⟩,
    ⟨none, [], some (23, false), .fadr 24 (.s 1) 6⟩,
    ⟨none, [], some (23, false), .ld 25 (.s 24) 1 false⟩,
    ⟨none, [], some (23, false), .len 26 (.s 25)⟩,
    ⟨none, [], some (23, false), .bin 27 .gtr (.s 26) (.k (.int .i64 20))⟩,
    ⟨none, [], none, .pick 28 (.s 23) (.k (.bool true)) (.s 27)⟩]) c_impl_GoodStill_7) c_impl_GoodStill_12
def c_impl_GoodStill_2 : VC :=
  .seq (.r 1 [⟨none, [], none, .fadr 6 (.s 1) 0⟩,
    ⟨none, [], none, .ld 7 (.s 6) 5 true⟩,
    ⟨none, [], none, .alloc 3 [.k (.int .i64 0), .k (.int .i64 0), .k (.int .i64 0), .k (.int .i64 0), .o [.sc]]⟩,
    ⟨none, [], none, .st (.s 3) (.s 7) 5⟩]) c_impl_GoodStill_4
def c_impl_GoodStill_0 : VC :=
  .seq (.r 0 [⟨none, [], none, .box 1 (.s 0)⟩,
    ⟨none, [], none, .mv 2 (.k (.bool false))⟩]) c_impl_GoodStill_2
def vf_impl_GoodStill : VF := { pm := [.ro [.sc, .sc, .sc, .sc, .ro [.sc], .ro [.sc], .ro [.sc, .sc], .sc]], rm := [.v [.sc]], nslots := 76, res := [2], rc := [], code := .kp [0] c_impl_GoodStill_0 }
def c_impl_Colours_5 : VC :=
  .ite (.s 10) (.seq (.r 2 [⟨none, [], none, .bld 11 [.k (.int .i64 0), .k (.int .i64 0), .k (.int .i64 0), .k (.int .i64 0), .o [.sc]] []⟩,
    ⟨none, [], none, .st (.s 2) (.s 11) 5⟩]) (.ret)) (.skip)
def c_impl_Colours_18 : VC :=
  .seq (.r 6 [⟨none, [], none, .ld 22 (.s 3) 5 true⟩,
    ⟨none, [], none, .st (.s 2) (.s 22) 5⟩]) (.ret)
def c_impl_Colours_15 : VC :=
  .ite (.s 17) (.seq (.r 5 [⟨none, [], none, .fadr 18 (.s 3) 4⟩,
    ⟨none, [], none, .ld 19 (.s 18) 1 false⟩,
    ⟨none, [], none, .app 20 (.k (.slice none 0 0)) (.s 19) [.sc] 17592186044416⟩,
    ⟨none, [], none, .fadr 21 (.s 3) 4⟩,
    ⟨none, [], none, .st (.s 21) (.s 20) 1⟩]) c_impl_Colours_18) (.skip)
def c_impl_Colours_41 : VC :=
  .r 12 [⟨none, [], none, .fadr 40 (.s 4) 4⟩,
    ⟨none, [], none, .ld 41 (.s 40) 1 false⟩,
    ⟨none, [], none, .mv 42 (.s 7)⟩,
    ⟨none, [], none, .bin 43 .shr (.s 42) (.k (.int .u64 16))⟩,
    ⟨none, [], none, .mv 44 (.s 7)⟩,
    ⟨none, [], none, .bin 45 .shr (.s 44) (.k (.int .u64 8))⟩,
    ⟨none, [], none, .bin 46 .and (.s 45) (.k (.int .i64 255))⟩,
    ⟨none, [], none, .mv 47 (.s 7)⟩,
    ⟨none, [], none, .bin 48 .and (.s 47) (.k (.int .i64 255))⟩,
    ⟨none, [], none, .lits 49 [.sc] [(.s 43), (.s 46), (.s 48)]⟩,
    ⟨none, [], none, .app 50 (.s 41) (.s 49) [.sc] 17592186044416⟩,
    ⟨none, [], none, .fadr 51 (.s 4) 4⟩,
    ⟨none, [], none, .st (.s 51) (.s 50) 1⟩]
def c_impl_Colours_39 : VC :=
  .seq (.r 11 [⟨none, [], none, .fadr 35 (.s 1) 5⟩,
    ⟨none, [], none, .ld 36 (.s 35) 1 false⟩,
    ⟨none, [], none, .mv 37 (.s 6)⟩,
    ⟨none, [], none, .iadr 38 (.s 36) (.s 37) 1⟩,
    ⟨none, [], none, .ld 39 (.s 38) 1 false⟩,
    ⟨none, [], none, .mv 7 (.s 39)⟩]) c_impl_Colours_41
def c_impl_Colours_42 : VC :=
  .r 13 [⟨none, [], none, .bin 52 .add (.s 31) (.k (.int .i64 1))⟩,
    ⟨none, [], none, .mv 31 (.s 52)⟩]
def c_impl_Colours_35 : VC :=
  .seq (.blk 1 (.seq (.r 10 [⟨none, [], none, .iadr 33 (.s 29) (.s 31) 1⟩,
    ⟨none, [], none, .ld 34 (.s 33) 1 false⟩,
    ⟨none, [], none, .mv 6 (.s 34)⟩]) c_impl_Colours_39)) c_impl_Colours_42
def c_impl_Colours_31 : VC :=
  .seq (.ite (.s 32) (.skip) (.exit 0)) c_impl_Colours_35
def c_impl_Colours_29 : VC :=
  .seq (.r 9 [⟨none, [], none, .bin 32 .lss (.s 31) (.s 30)⟩]) c_impl_Colours_31
def c_impl_Colours_27 : VC :=
  .blk 0 (.loop [1, 2, 4, 29, 30, 31] c_impl_Colours_29)
def c_impl_Colours_43 : VC :=
  .seq (.r 14 [⟨none, [], none, .ld 53 (.s 4) 5 true⟩,
    ⟨none, [], none, .st (.s 2) (.s 53) 5⟩]) (.ret)
def c_impl_Colours_24 : VC :=
  .seq (.seq (.r 8 [⟨none, [], none, .fadr 28 (.s 3) 4⟩,
    ⟨none, [], none, .ld 29 (.s 28) 1 false⟩,
    ⟨none, [], none, .len 30 (.s 29)⟩,
    ⟨none, [], none, .mv 31 (.k (.int .i64 0))⟩]) c_impl_Colours_27) (.kp [2, 4] c_impl_Colours_43)
def c_impl_Colours_22 : VC :=
  .seq (.r 7 [⟨none, [], none, .fadr 23 (.s 3) 0⟩,
    ⟨none, [], none, .ld 24 (.s 23) 1 false⟩,
    ⟨none, [], none, .fadr 25 (.s 3) 1⟩,
    ⟨none, [], none, .ld 26 (.s 25) 1 false⟩,
    ⟨none, [], none, .bld 27 [.k (.int .i64 0), .k (.int .i64 0), .k (.int .i64 0), .k (.int .i64 0), .o [.sc]] [(0, 1, (.s 24)), (1, 1, (.s 26)), (2, 1, (.k (.int .i64 3))), (3, 1, (.k (.int .i64 8)))]⟩,
    ⟨none, [], none, .alloc 4 [.k (.int .i64 0), .k (.int .i64 0), .k (.int .i64 0), .k (.int .i64 0), .o [.sc]]⟩,
    ⟨none, [], none, .st (.s 4) (.s 27) 5⟩]) c_impl_Colours_24
def c_impl_Colours_12 : VC :=
  .seq (.seq (.r 4 [⟨none, [], none, .fadr 14 (.s 1) 5⟩,
    ⟨none, [], none, .ld 15 (.s 14) 1 false⟩,
    ⟨none, [], none, .len 16 (.s 15)⟩,
    ⟨none, [], none, .bin 17 .eql (.s 16) (.k (.int .i64 0))⟩]) c_impl_Colours_15) c_impl_Colours_22
def c_impl_Colours_10 : VC :=
  .seq (.r 3 [⟨none, [], none, .fadr 12 (.s 1) 0⟩,
    ⟨none, [], none, .ld 13 (.s 12) 5 true⟩,
    ⟨none, [], none, .alloc 3 [.k (.int .i64 0), .k (.int .i64 0), .k (.int .i64 0), .k (.int .i64 0), .o [.sc]]⟩,
    ⟨none, [], none, .st (.s 3) (.s 13) 5⟩]) c_impl_Colours_12
def c_impl_Colours_2 : VC :=
  .seq (.seq (.r 1 [⟨none, [], none, .ld 8 (.s 1) 8 true⟩,
    ⟨none, [], none, .call 9 28 [(.s 8)]⟩,
    ⟨none, [], none, .un 10 .not (.s 9)⟩]) c_impl_Colours_5) c_impl_Colours_10
def c_impl_Colours_0 : VC :=
  .seq (.r 0 [⟨none, [], none, .box 1 (.s 0)⟩,
    ⟨none, [], none, .alloc 2 [.k (.int .i64 0), .k (.int .i64 0), .k (.int .i64 0), .k (.int .i64 0), .o [.sc]]⟩]) c_impl_Colours_2
def vf_impl_Colours : VF := { pm := [.ro [.sc, .sc, .sc, .sc, .ro [.sc], .ro [.sc], .ro [.sc, .sc], .sc]], rm := [.v [.sc, .sc, .sc, .sc, .own [.sc]]], nslots := 54, res := [2], rc := [some (5, true)], code := .kp [0] c_impl_Colours_0 }
def c_laws_eqIntS_5 : VC :=
  .ite (.s 10) (.seq (.r 2 [⟨none, [], none, .mv 4 (.k (.bool false))⟩]) (.ret)) (.skip)
def c_laws_eqIntS_18 : VC :=
  .ite (.s 14) (.skip) (.exit 0)
def c_laws_eqIntS_25 : VC :=
  .ite (.s 25) (.seq (.r 7 [⟨none, [], none, .mv 4 (.k (.bool false))⟩]) (.ret)) (.skip)
def c_laws_eqIntS_30 : VC :=
  .r 5 [⟨none, [], none, .mv 15 (.s 5)⟩,
    ⟨none, [], none, .bin 16 .add (.s 15) (.k (.int .i64 1))⟩,
    ⟨none, [], none, .mv 5 (.s 16)⟩]
def c_laws_eqIntS_21 : VC :=
  .seq (.blk 1 (.seq (.d 6 [(0, ⟨none, [], none, .mv 17 (.s 0)⟩),
    (1, ⟨none, [], none, .mv 18 (.s 5)⟩),
    (2, ⟨none, [], none, .iadr 19 (.s 17) (.s 18) 1⟩),
    (3, ⟨none, [], none, .ldv 20 (.s 19) 1 false⟩),
    (4, ⟨none, [], none, .mv 21 (.s 1)⟩),
    (5, ⟨none, [], none, .mv 22 (.s 5)⟩),
    (6, ⟨none, [], none, .iadr 23 (.s 21) (.s 22) 1⟩),
    (7, ⟨none, [], none, .ldv 24 (.s 23) 1 false⟩),
    (8, ⟨none, [], none, .bin 25 .neq (.s 20) (.s 24)⟩)]) c_laws_eqIntS_25)) c_laws_eqIntS_30
def c_laws_eqIntS_15 : VC :=
  .seq (.seq (.r 4 [⟨none, [], none, .mv 11 (.s 5)⟩,
    ⟨none, [], none, .mv 12 (.s 0)⟩,
    ⟨none, [], none, .len 13 (.s 12)⟩,
    ⟨none, [], none, .bin 14 .lss (.s 11) (.s 13)⟩]) c_laws_eqIntS_18) c_laws_eqIntS_21
def c_laws_eqIntS_13 : VC :=
  .blk 0 (.loop [0, 1, 5] c_laws_eqIntS_15)
def c_laws_eqIntS_31 : VC :=
  .seq (.r 8 [⟨none, [], none, .mv 4 (.k (.bool true))⟩]) (.ret)
def c_laws_eqIntS_10 : VC :=
  .seq (.seq (.r 3 [⟨none, [], none, .mv 5 (.k (.int .i64 0))⟩]) c_laws_eqIntS_13) (.kp [] c_laws_eqIntS_31)
def c_laws_eqIntS_2 : VC :=
  .seq (.seq (.r 1 [⟨none, [], none, .mv 6 (.s 0)⟩,
    ⟨none, [], none, .len 7 (.s 6)⟩,
    ⟨none, [], none, .mv 8 (.s 1)⟩,
    ⟨none, [], none, .len 9 (.s 8)⟩,
    ⟨none, [], none, .bin 10 .neq (.s 7) (.s 9)⟩]) c_laws_eqIntS_5) c_laws_eqIntS_10
def c_laws_eqIntS_0 : VC :=
  .seq (.r 0 [⟨none, [], none, .mv 4 (.k (.bool false))⟩]) c_laws_eqIntS_2
def vf_laws_eqIntS : VF := { pm := [.ro [.ro [.sc]], .ro [.ro [.sc]]], rm := [.v [.sc]], nslots := 26, res := [4], rc := [], code := .kp [0, 1] c_laws_eqIntS_0 }
def c_laws_eqImage_5 : VC :=
  .ite (.s 9) (.seq (.r 2 [⟨none, [], none, .mv 4 (.k (.bool false))⟩]) (.ret)) (.skip)
def c_laws_eqImage_13 : VC :=
  .ite (.s 14) (.seq (.r 4 [⟨none, [], none, .mv 4 (.k (.bool false))⟩]) (.ret)) (.skip)
def c_laws_eqImage_21 : VC :=
  .ite (.s 19) (.seq (.r 6 [⟨none, [], none, .mv 4 (.k (.bool false))⟩]) (.ret)) (.skip)
def c_laws_eqImage_29 : VC :=
  .ite (.s 24) (.seq (.r 8 [⟨none, [], none, .mv 4 (.k (.bool false))⟩]) (.ret)) (.skip)
def c_laws_eqImage_37 : VC :=
  .ite (.s 30) (.seq (.r 10 [⟨none, [], none, .mv 4 (.k (.bool false))⟩]) (.ret)) (.skip)
def c_laws_eqImage_42 : VC :=
  .seq (.r 11 [⟨none, [], none, .mv 4 (.k (.bool true))⟩]) (.ret)
def c_laws_eqImage_34 : VC :=
  .seq (.seq (.r 9 [⟨none, [], none, .fadr 25 (.s 2) 4⟩,
    ⟨none, [], none, .ld 26 (.s 25) 1 false⟩,
    ⟨none, [], none, .fadr 27 (.s 3) 4⟩,
    ⟨none, [], none, .ld 28 (.s 27) 1 false⟩,
    ⟨none, [], none, .call 29 62 [(.s 26), (.s 28)]⟩,
    ⟨none, [], none, .un 30 .not (.s 29)⟩]) c_laws_eqImage_37) c_laws_eqImage_42
def c_laws_eqImage_26 : VC :=
  .seq (.seq (.r 7 [⟨none, [], none, .fadr 20 (.s 2) 3⟩,
    ⟨none, [], none, .ld 21 (.s 20) 1 false⟩,
    ⟨none, [], none, .fadr 22 (.s 3) 3⟩,
    ⟨none, [], none, .ld 23 (.s 22) 1 false⟩,
    ⟨none, [], none, .bin 24 .neq (.s 21) (.s 23)⟩]) c_laws_eqImage_29) c_laws_eqImage_34
def c_laws_eqImage_18 : VC :=
  .seq (.seq (.r 5 [⟨none, [], none, .fadr 15 (.s 2) 2⟩,
    ⟨none, [], none, .ld 16 (.s 15) 1 false⟩,
    ⟨none, [], none, .fadr 17 (.s 3) 2⟩,
    ⟨none, [], none, .ld 18 (.s 17) 1 false⟩,
    ⟨none, [], none, .bin 19 .neq (.s 16) (.s 18)⟩]) c_laws_eqImage_21) c_laws_eqImage_26
def c_laws_eqImage_10 : VC :=
  .seq (.seq (.r 3 [⟨none, [], none, .fadr 10 (.s 2) 1⟩,
    ⟨none, [], none, .ld 11 (.s 10) 1 false⟩,
    ⟨none, [], none, .fadr 12 (.s 3) 1⟩,
    ⟨none, [], none, .ld 13 (.s 12) 1 false⟩,
    ⟨none, [], none, .bin 14 .neq (.s 11) (.s 13)⟩]) c_laws_eqImage_13) c_laws_eqImage_18
def c_laws_eqImage_2 : VC :=
  .seq (.seq (.r 1 [⟨none, [], none, .fadr 5 (.s 2) 0⟩,
    ⟨none, [], none, .ld 6 (.s 5) 1 false⟩,
    ⟨none, [], none, .fadr 7 (.s 3) 0⟩,
    ⟨none, [], none, .ld 8 (.s 7) 1 false⟩,
    ⟨none, [], none, .bin 9 .neq (.s 6) (.s 8)⟩]) c_laws_eqImage_5) c_laws_eqImage_10
def c_laws_eqImage_0 : VC :=
  .seq (.r 0 [⟨none, [], none, .box 2 (.s 0)⟩,
    ⟨none, [], none, .box 3 (.s 1)⟩,
    ⟨none, [], none, .mv 4 (.k (.bool false))⟩]) c_laws_eqImage_2
def vf_laws_eqImage : VF := { pm := [.ro [.sc, .sc, .sc, .sc, .ro [.sc]], .ro [.sc, .sc, .sc, .sc, .ro [.sc]]], rm := [.v [.sc]], nslots := 31, res := [4], rc := [], code := .kp [0, 1] c_laws_eqImage_0 }
def c_laws_eqNote_5 : VC :=
  .ite (.s 9) (.seq (.r 2 [⟨none, [], none, .mv 4 (.k (.bool false))⟩]) (.ret)) (.skip)
def c_laws_eqNote_13 : VC :=
  .ite (.s 14) (.seq (.r 4 [⟨none, [], none, .mv 4 (.k (.bool false))⟩]) (.ret)) (.skip)
def c_laws_eqNote_18 : VC :=
  .seq (.r 5 [⟨none, [], none, .mv 4 (.k (.bool true))⟩]) (.ret)
def c_laws_eqNote_10 : VC :=
  .seq (.seq (.r 3 [⟨none, [], none, .fadr 10 (.s 2) 1⟩,
    ⟨none, [], none, .ld 11 (.s 10) 1 false⟩,
    ⟨none, [], none, .fadr 12 (.s 3) 1⟩,
    ⟨none, [], none, .ld 13 (.s 12) 1 false⟩,
    ⟨none, [], none, .bin 14 .neq (.s 11) (.s 13)⟩]) c_laws_eqNote_13) c_laws_eqNote_18
def c_laws_eqNote_2 : VC :=
  .seq (.seq (.r 1 [⟨none, [], none, .fadr 5 (.s 2) 0⟩,
    ⟨none, [], none, .ld 6 (.s 5) 1 false⟩,
    ⟨none, [], none, .fadr 7 (.s 3) 0⟩,
    ⟨none, [], none, .ld 8 (.s 7) 1 false⟩,
    ⟨none, [], none, .bin 9 .neq (.s 6) (.s 8)⟩]) c_laws_eqNote_5) c_laws_eqNote_10
def c_laws_eqNote_0 : VC :=
  .seq (.r 0 [⟨none, [], none, .box 2 (.s 0)⟩,
    ⟨none, [], none, .box 3 (.s 1)⟩,
    ⟨none, [], none, .mv 4 (.k (.bool false))⟩]) c_laws_eqNote_2
def vf_laws_eqNote : VF := { pm := [.ro [.sc, .sc], .ro [.sc, .sc]], rm := [.v [.sc]], nslots := 15, res := [4], rc := [], code := .kp [0, 1] c_laws_eqNote_0 }
def c_laws_eqNoteS_5 : VC :=
  .ite (.s 10) (.seq (.r 2 [⟨none, [], none, .mv 4 (.k (.bool false))⟩]) (.ret)) (.skip)
def c_laws_eqNoteS_18 : VC :=
  .ite (.s 14) (.skip) (.exit 0)
def c_laws_eqNoteS_25 : VC :=
  .ite (.s 26) (.seq (.r 7 [⟨none, [], none, .mv 4 (.k (.bool false))⟩]) (.ret)) (.skip)
def c_laws_eqNoteS_30 : VC :=
  .r 5 [⟨none, [], none, .mv 15 (.s 5)⟩,
    ⟨none, [], none, .bin 16 .add (.s 15) (.k (.int .i64 1))⟩,
    ⟨none, [], none, .mv 5 (.s 16)⟩]
def c_laws_eqNoteS_21 : VC :=
  .seq (.blk 1 (.seq (.d 6 [(0, ⟨none, [], none, .mv 17 (.s 0)⟩),
    (1, ⟨none, [], none, .mv 18 (.s 5)⟩),
    (2, ⟨none, [], none, .iadr 19 (.s 17) (.s 18) 2⟩),
    (3, ⟨none, [], none, .ldv 20 (.s 19) 2 true⟩),
    (4, ⟨none, [], none, .mv 21 (.s 1)⟩),
    (5, ⟨none, [], none, .mv 22 (.s 5)⟩),
    (6, ⟨none, [], none, .iadr 23 (.s 21) (.s 22) 2⟩),
    (7, ⟨none, [], none, .ldv 24 (.s 23) 2 true⟩),
    (8, ⟨none, [], none, .call 25 172 [(.s 20), (.s 24)]⟩),
    (9, ⟨none, [], none, .un 26 .not (.s 25)⟩)]) c_laws_eqNoteS_25)) c_laws_eqNoteS_30
def c_laws_eqNoteS_15 : VC :=
  .seq (.seq (.r 4 [⟨none, [], none, .mv 11 (.s 5)⟩,
    ⟨none, [], none, .mv 12 (.s 0)⟩,
    ⟨none, [], none, .len 13 (.s 12)⟩,
    ⟨none, [], none, .bin 14 .lss (.s 11) (.s 13)⟩]) c_laws_eqNoteS_18) c_laws_eqNoteS_21
def c_laws_eqNoteS_13 : VC :=
  .blk 0 (.loop [0, 1, 5] c_laws_eqNoteS_15)
def c_laws_eqNoteS_31 : VC :=
  .seq (.r 8 [⟨none, [], none, .mv 4 (.k (.bool true))⟩]) (.ret)
def c_laws_eqNoteS_10 : VC :=
  .seq (.seq (.r 3 [⟨none, [], none, .mv 5 (.k (.int .i64 0))⟩]) c_laws_eqNoteS_13) (.kp [] c_laws_eqNoteS_31)
def c_laws_eqNoteS_2 : VC :=
  .seq (.seq (.r 1 [⟨none, [], none, .mv 6 (.s 0)⟩,
    ⟨none, [], none, .len 7 (.s 6)⟩,
    ⟨none, [], none, .mv 8 (.s 1)⟩,
    ⟨none, [], none, .len 9 (.s 8)⟩,
    ⟨none, [], none, .bin 10 .neq (.s 7) (.s 9)⟩]) c_laws_eqNoteS_5) c_laws_eqNoteS_10
def c_laws_eqNoteS_0 : VC :=
  .seq (.r 0 [⟨none, [], none, .mv 4 (.k (.bool false))⟩]) c_laws_eqNoteS_2
def vf_laws_eqNoteS : VF := { pm := [.ro [.ro [.sc, .sc]], .ro [.ro [.sc, .sc]]], rm := [.v [.sc]], nslots := 27, res := [4], rc := [], code := .kp [0, 1] c_laws_eqNoteS_0 }
def c_laws_eqStill_5 : VC :=
  .ite (.s 10) (.seq (.r 2 [⟨none, [], none, .mv 4 (.k (.bool false))⟩]) (.ret)) (.skip)
def c_laws_eqStill_13 : VC :=
  .ite (.s 16) (.seq (.r 4 [⟨none, [], none, .mv 4 (.k (.bool false))⟩]) (.ret)) (.skip)
def c_laws_eqStill_21 : VC :=
  .ite (.s 22) (.seq (.r 6 [⟨none, [], none, .mv 4 (.k (.bool false))⟩]) (.ret)) (.skip)
def c_laws_eqStill_29 : VC :=
  .ite (.s 27) (.seq (.r 8 [⟨none, [], none, .mv 4 (.k (.bool false))⟩]) (.ret)) (.skip)
def c_laws_eqStill_34 : VC :=
  .seq (.r 9 [⟨none, [], none, .mv 4 (.k (.bool true))⟩]) (.ret)
def c_laws_eqStill_26 : VC :=
  .seq (.seq (.r 7 [⟨none, [], none, .fadr 23 (.s 2) 7⟩,
    ⟨none, [], none, .ld 24 (.s 23) 1 false⟩,
    ⟨none, [], none, .fadr 25 (.s 3) 7⟩,
    ⟨none, [], none, .ld 26 (.s 25) 1 false⟩,
    ⟨none, [], none, .beq 27 true (.s 24) (.s 26)⟩]) c_laws_eqStill_29) c_laws_eqStill_34
def c_laws_eqStill_18 : VC :=
  .seq (.seq (.r 5 [⟨none, [], none, .fadr 17 (.s 2) 6⟩,
    ⟨none, [], none, .ld 18 (.s 17) 1 false⟩,
    ⟨none, [], none, .fadr 19 (.s 3) 6⟩,
    ⟨none, [], none, .ld 20 (.s 19) 1 false⟩,
    ⟨none, [], none, .call 21 107 [(.s 18), (.s 20)]⟩,
    ⟨none, [], none, .un 22 .not (.s 21)⟩]) c_laws_eqStill_21) c_laws_eqStill_26
def c_laws_eqStill_10 : VC :=
  .seq (.seq (.r 3 [⟨none, [], none, .fadr 11 (.s 2) 5⟩,
    ⟨none, [], none, .ld 12 (.s 11) 1 false⟩,
    ⟨none, [], none, .fadr 13 (.s 3) 5⟩,
    ⟨none, [], none, .ld 14 (.s 13) 1 false⟩,
    ⟨none, [], none, .call 15 62 [(.s 12), (.s 14)]⟩,
    ⟨none, [], none, .un 16 .not (.s 15)⟩]) c_laws_eqStill_13) c_laws_eqStill_18
def c_laws_eqStill_2 : VC :=
  .seq (.seq (.r 1 [⟨none, [], none, .fadr 5 (.s 2) 0⟩,
    ⟨none, [], none, .ld 6 (.s 5) 5 true⟩,
    ⟨none, [], none, .fadr 7 (.s 3) 0⟩,
    ⟨none, [], none, .ld 8 (.s 7) 5 true⟩,
    ⟨none, [], none, .call 9 67 [(.s 6), (.s 8)]⟩,
    ⟨none, [], none, .un 10 .not (.s 9)⟩]) c_laws_eqStill_5) c_laws_eqStill_10
def c_laws_eqStill_0 : VC :=
  .seq (.r 0 [⟨none, [], none, .box 2 (.s 0)⟩,
    ⟨none, [], none, .box 3 (.s 1)⟩,
    ⟨none, [], none, .mv 4 (.k (.bool false))⟩]) c_laws_eqStill_2
def vf_laws_eqStill : VF := { pm := [.ro [.sc, .sc, .sc, .sc, .ro [.sc], .ro [.sc], .ro [.sc, .sc], .sc], .ro [.sc, .sc, .sc, .sc, .ro [.sc], .ro [.sc], .ro [.sc, .sc], .sc]], rm := [.v [.sc]], nslots := 28, res := [4], rc := [], code := .kp [0, 1] c_laws_eqStill_0 }
def c_laws_markIntS_10 : VC :=
  .ite (.s 9) (.skip) (.exit 0)
def c_laws_markIntS_17 : VC :=
  .r 5 [⟨none, [], none, .mv 16 (.s 1)⟩,
    ⟨none, [], none, .bin 17 .add (.s 16) (.k (.int .i64 1))⟩,
    ⟨none, [], none, .mv 1 (.s 17)⟩]
def c_laws_markIntS_18 : VC :=
  .r 3 [⟨none, [], none, .mv 10 (.s 5)⟩,
    ⟨none, [], none, .bin 11 .add (.s 10) (.k (.int .i64 1))⟩,
    ⟨none, [], none, .mv 5 (.s 11)⟩]
def c_laws_markIntS_13 : VC :=
  .seq (.blk 1 (.seq (.r 4 [⟨none, [], none, .mv 12 (.s 0)⟩,
    ⟨none, [], none, .mv 13 (.s 5)⟩,
    ⟨none, [], none, .mv 14 (.s 1)⟩,
    ⟨none, [], none, .iadr 15 (.s 12) (.s 13) 1⟩,
    ⟨none, [], none, .st (.s 15) (.s 14) 1⟩]) c_laws_markIntS_17)) c_laws_markIntS_18
def c_laws_markIntS_7 : VC :=
  .seq (.seq (.r 2 [⟨none, [], none, .mv 6 (.s 5)⟩,
    ⟨none, [], none, .mv 7 (.s 0)⟩,
    ⟨none, [], none, .len 8 (.s 7)⟩,
    ⟨none, [], none, .bin 9 .lss (.s 6) (.s 8)⟩]) c_laws_markIntS_10) c_laws_markIntS_13
def c_laws_markIntS_5 : VC :=
  .blk 0 (.loop [0, 1, 5] c_laws_markIntS_7)
def c_laws_markIntS_19 : VC :=
  .seq (.r 6 [⟨none, [], none, .mv 18 (.s 1)⟩,
    ⟨none, [], none, .mv 4 (.s 18)⟩]) (.ret)
def c_laws_markIntS_2 : VC :=
  .seq (.seq (.r 1 [⟨none, [], none, .mv 5 (.k (.int .i64 0))⟩]) c_laws_markIntS_5) (.kp [0, 1] c_laws_markIntS_19)
def c_laws_markIntS_0 : VC :=
  .seq (.r 0 [⟨none, [], none, .mv 4 (.k (.int .i64 0))⟩]) c_laws_markIntS_2
def vf_laws_markIntS : VF := { pm := [.ms [.sc], .ro [.sc]], rm := [.v [.sc]], nslots := 19, res := [4], rc := [], code := .kp [0, 1] c_laws_markIntS_0 }
def c_laws_markImage_4 : VC :=
  .seq (.r 2 [⟨none, [], none, .mv 9 (.s 1)⟩,
    ⟨none, [], none, .mv 4 (.s 9)⟩]) (.ret)
def c_laws_markImage_2 : VC :=
  .seq (.r 1 [⟨none, [], none, .fadr 5 (.s 2) 4⟩,
    ⟨none, [], none, .ld 6 (.s 5) 1 false⟩,
    ⟨none, [], none, .mv 7 (.s 1)⟩,
    ⟨none, [], none, .call 8 63 [(.s 6), (.s 7)]⟩,
    ⟨none, [], none, .mv 1 (.s 8)⟩]) c_laws_markImage_4
def c_laws_markImage_0 : VC :=
  .seq (.r 0 [⟨none, [], none, .box 2 (.s 0)⟩,
    ⟨none, [], none, .mv 4 (.k (.int .i64 0))⟩]) c_laws_markImage_2
def vf_laws_markImage : VF := { pm := [.mg [.sc, .sc, .sc, .sc, .own [.sc]], .ro [.sc]], rm := [.v [.sc]], nslots := 10, res := [4], rc := [], code := .kp [0, 1] c_laws_markImage_0 }
def c_laws_markText_5 : VC :=
  .ite (.s 5) (.seq (.r 2 [⟨none, [], none, .mv 2 (.k (.string (ByteArray.mk #[109, 48])))⟩]) (.ret)) (.skip)
def c_laws_markText_18 : VC :=
  .ite (.s 7) (.skip) (.exit 0)
def c_laws_markText_24 : VC :=
  .r 6 [⟨none, [], none, .mv 16 (.s 0)⟩,
    ⟨none, [], none, .bin 17 .quo (.s 16) (.k (.int .i64 10))⟩,
    ⟨none, [], none, .mv 0 (.s 17)⟩]
def c_laws_markText_21 : VC :=
  .blk 1 (.seq (.r 5 [⟨none, [], none, .mv 8 (.s 0)⟩,
    ⟨none, [], none, .bin 9 .rem (.s 8) (.k (.int .i64 10))⟩,
    ⟨none, [], none, .bin 10 .add (.k (.int .i64 48)) (.s 9)⟩,
    ⟨none, [], none, .conv 11 .u8 (.s 10)⟩,
    ⟨none, [], none, .lits 12 [.sc] [(.s 11)]⟩,
    ⟨none, [], none, .b2s 13 (.s 12)⟩,
    ⟨none, [], none, .mv 14 (.s 3)⟩,
    ⟨none, [], none, .bin 15 .add (.s 13) (.s 14)⟩,
    ⟨none, [], none, .mv 3 (.s 15)⟩]) c_laws_markText_24)
def c_laws_markText_15 : VC :=
  .seq (.seq (.r 4 [⟨none, [], none, .mv 6 (.s 0)⟩,
    ⟨none, [], none, .bin 7 .gtr (.s 6) (.k (.int .i64 0))⟩]) c_laws_markText_18) c_laws_markText_21
def c_laws_markText_25 : VC :=
  .seq (.r 7 [⟨none, [], none, .mv 18 (.s 3)⟩,
    ⟨none, [], none, .bin 19 .add (.k (.string (ByteArray.mk #[109]))) (.s 18)⟩,
    ⟨none, [], none, .mv 2 (.s 19)⟩]) (.ret)
def c_laws_markText_12 : VC :=
  .seq (.blk 0 (.loop [0, 3] c_laws_markText_15)) (.kp [3] c_laws_markText_25)
def c_laws_markText_10 : VC :=
  .seq (.r 3 [⟨none, [], none, .mv 3 (.k (.string (ByteArray.mk #[])))⟩]) c_laws_markText_12
def c_laws_markText_2 : VC :=
  .seq (.seq (.r 1 [⟨none, [], none, .mv 4 (.s 0)⟩,
    ⟨none, [], none, .bin 5 .leq (.s 4) (.k (.int .i64 0))⟩]) c_laws_markText_5) c_laws_markText_10
def c_laws_markText_0 : VC :=
  .seq (.r 0 [⟨none, [], none, .mv 2 (.k (.string (ByteArray.mk #[])))⟩]) c_laws_markText_2
def vf_laws_markText : VF := { pm := [.ro [.sc]], rm := [.v [.sc]], nslots := 20, res := [2], rc := [], code := .kp [0] c_laws_markText_0 }
def c_laws_markNoteS_10 : VC :=
  .ite (.s 9) (.skip) (.exit 0)
def c_laws_markNoteS_21 : VC :=
  .r 7 [⟨none, [], none, .mv 26 (.s 1)⟩,
    ⟨none, [], none, .bin 27 .add (.s 26) (.k (.int .i64 1))⟩,
    ⟨none, [], none, .mv 1 (.s 27)⟩]
def c_laws_markNoteS_19 : VC :=
  .seq (.r 6 [⟨none, [], none, .mv 20 (.s 0)⟩,
    ⟨none, [], none, .mv 21 (.s 5)⟩,
    ⟨none, [], none, .mv 22 (.s 1)⟩,
    ⟨none, [], none, .call 23 211 [(.s 22)]⟩,
    ⟨none, [], none, .iadr 24 (.s 20) (.s 21) 2⟩,
    ⟨none, [], none, .fadr 25 (.s 24) 1⟩,
    ⟨none, [], none, .st (.s 25) (.s 23) 1⟩]) c_laws_markNoteS_21
def c_laws_markNoteS_17 : VC :=
  .seq (.r 5 [⟨none, [], none, .mv 18 (.s 1)⟩,
    ⟨none, [], none, .bin 19 .add (.s 18) (.k (.int .i64 1))⟩,
    ⟨none, [], none, .mv 1 (.s 19)⟩]) c_laws_markNoteS_19
def c_laws_markNoteS_22 : VC :=
  .r 3 [⟨none, [], none, .mv 10 (.s 5)⟩,
    ⟨none, [], none, .bin 11 .add (.s 10) (.k (.int .i64 1))⟩,
    ⟨none, [], none, .mv 5 (.s 11)⟩]
def c_laws_markNoteS_13 : VC :=
  .seq (.blk 1 (.seq (.r 4 [⟨none, [], none, .mv 12 (.s 0)⟩,
    ⟨none, [], none, .mv 13 (.s 5)⟩,
    ⟨none, [], none, .mv 14 (.s 1)⟩,
    ⟨none, [], none, .call 15 211 [(.s 14)]⟩,
    ⟨none, [], none, .iadr 16 (.s 12) (.s 13) 2⟩,
    ⟨none, [], none, .fadr 17 (.s 16) 0⟩,
    ⟨none, [], none, .st (.s 17) (.s 15) 1⟩]) c_laws_markNoteS_17)) c_laws_markNoteS_22
def c_laws_markNoteS_7 : VC :=
  .seq (.seq (.r 2 [⟨none, [], none, .mv 6 (.s 5)⟩,
    ⟨none, [], none, .mv 7 (.s 0)⟩,
    ⟨none, [], none, .len 8 (.s 7)⟩,
    ⟨none, [], none, .bin 9 .lss (.s 6) (.s 8)⟩]) c_laws_markNoteS_10) c_laws_markNoteS_13
def c_laws_markNoteS_5 : VC :=
  .blk 0 (.loop [0, 1, 5] c_laws_markNoteS_7)
def c_laws_markNoteS_23 : VC :=
  .seq (.r 8 [⟨none, [], none, .mv 28 (.s 1)⟩,
    ⟨none, [], none, .mv 4 (.s 28)⟩]) (.ret)
def c_laws_markNoteS_2 : VC :=
  .seq (.seq (.r 1 [⟨none, [], none, .mv 5 (.k (.int .i64 0))⟩]) c_laws_markNoteS_5) (.kp [0, 1] c_laws_markNoteS_23)
def c_laws_markNoteS_0 : VC :=
  .seq (.r 0 [⟨none, [], none, .mv 4 (.k (.int .i64 0))⟩]) c_laws_markNoteS_2
def vf_laws_markNoteS : VF := { pm := [.ms [.sc, .sc], .ro [.sc]], rm := [.v [.sc]], nslots := 29, res := [4], rc := [], code := .kp [0, 1] c_laws_markNoteS_0 }
def c_laws_markStill_8 : VC :=
  .seq (.r 4 [⟨none, [], none, .mv 17 (.s 1)⟩,
    ⟨none, [], none, .mv 4 (.s 17)⟩]) (.ret)
def c_laws_markStill_6 : VC :=
  .seq (.r 3 [⟨none, [], none, .fadr 13 (.s 2) 6⟩,
    ⟨none, [], none, .ld 14 (.s 13) 1 false⟩,
    ⟨none, [], none, .mv 15 (.s 1)⟩,
    ⟨none, [], none, .call 16 155 [(.s 14), (.s 15)]⟩,
    ⟨none, [], none, .mv 1 (.s 16)⟩]) c_laws_markStill_8
def c_laws_markStill_4 : VC :=
  .seq (.r 2 [⟨none, [], none, .fadr 9 (.s 2) 5⟩,
    ⟨none, [], none, .ld 10 (.s 9) 1 false⟩,
    ⟨none, [], none, .mv 11 (.s 1)⟩,
    ⟨none, [], none, .call 12 63 [(.s 10), (.s 11)]⟩,
    ⟨none, [], none, .mv 1 (.s 12)⟩]) c_laws_markStill_6
def c_laws_markStill_2 : VC :=
  .seq (.r 1 [⟨none, [], none, .fadr 5 (.s 2) 0⟩,
    ⟨none, [], none, .ld 6 (.s 5) 5 true⟩,
    ⟨none, [], none, .mv 7 (.s 1)⟩,
    ⟨none, [], none, .call 8 69 [(.s 6), (.s 7)]⟩,
    ⟨none, [], none, .mv 1 (.s 8)⟩]) c_laws_markStill_4
def c_laws_markStill_0 : VC :=
  .seq (.r 0 [⟨none, [], none, .box 2 (.s 0)⟩,
    ⟨none, [], none, .mv 4 (.k (.int .i64 0))⟩]) c_laws_markStill_2
def vf_laws_markStill : VF := { pm := [.mg [.sc, .sc, .sc, .sc, .own [.sc], .own [.sc], .own [.sc, .sc], .sc], .ro [.sc]], rm := [.v [.sc]], nslots := 18, res := [4], rc := [], code := .kp [0, 1] c_laws_markStill_0 }
def c_laws_heldIntS_10 : VC :=
  .ite (.s 9) (.skip) (.exit 0)
def c_laws_heldIntS_18 : VC :=
  .ite (.s 17) (.seq (.r 5 [⟨none, [], none, .mv 4 (.k (.int .i64 (-1)))⟩]) (.ret)) (.skip)
def c_laws_heldIntS_23 : VC :=
  .r 6 [⟨none, [], none, .mv 18 (.s 1)⟩,
    ⟨none, [], none, .bin 19 .add (.s 18) (.k (.int .i64 1))⟩,
    ⟨none, [], none, .mv 1 (.s 19)⟩]
def c_laws_heldIntS_24 : VC :=
  .r 3 [⟨none, [], none, .mv 10 (.s 5)⟩,
    ⟨none, [], none, .bin 11 .add (.s 10) (.k (.int .i64 1))⟩,
    ⟨none, [], none, .mv 5 (.s 11)⟩]
def c_laws_heldIntS_13 : VC :=
  .seq (.blk 1 (.seq (.seq (.r 4 [⟨none, [], none, .mv 12 (.s 0)⟩,
    ⟨none, [], none, .mv 13 (.s 5)⟩,
    ⟨none, [], none, .iadr 14 (.s 12) (.s 13) 1⟩,
    ⟨none, [], none, .ld 15 (.s 14) 1 false⟩,
    ⟨none, [], none, .mv 16 (.s 1)⟩,
    ⟨none, [], none, .bin 17 .neq (.s 15) (.s 16)⟩]) c_laws_heldIntS_18) c_laws_heldIntS_23)) c_laws_heldIntS_24
def c_laws_heldIntS_7 : VC :=
  .seq (.seq (.r 2 [⟨none, [], none, .mv 6 (.s 5)⟩,
    ⟨none, [], none, .mv 7 (.s 0)⟩,
    ⟨none, [], none, .len 8 (.s 7)⟩,
    ⟨none, [], none, .bin 9 .lss (.s 6) (.s 8)⟩]) c_laws_heldIntS_10) c_laws_heldIntS_13
def c_laws_heldIntS_5 : VC :=
  .blk 0 (.loop [0, 1, 5] c_laws_heldIntS_7)
def c_laws_heldIntS_25 : VC :=
  .seq (.r 7 [⟨none, [], none, .mv 20 (.s 1)⟩,
    ⟨none, [], none, .mv 4 (.s 20)⟩]) (.ret)
def c_laws_heldIntS_2 : VC :=
  .seq (.seq (.r 1 [⟨none, [], none, .mv 5 (.k (.int .i64 0))⟩]) c_laws_heldIntS_5) (.kp [1] c_laws_heldIntS_25)
def c_laws_heldIntS_0 : VC :=
  .seq (.r 0 [⟨none, [], none, .mv 4 (.k (.int .i64 0))⟩]) c_laws_heldIntS_2
def vf_laws_heldIntS : VF := { pm := [.ro [.ro [.sc]], .ro [.sc]], rm := [.v [.sc]], nslots := 21, res := [4], rc := [], code := .kp [0, 1] c_laws_heldIntS_0 }
def c_laws_heldImage_7 : VC :=
  .ite (.s 10) (.seq (.r 3 [⟨none, [], none, .mv 4 (.k (.int .i64 (-1)))⟩]) (.ret)) (.skip)
def c_laws_heldImage_12 : VC :=
  .seq (.r 4 [⟨none, [], none, .mv 11 (.s 1)⟩,
    ⟨none, [], none, .mv 4 (.s 11)⟩]) (.ret)
def c_laws_heldImage_4 : VC :=
  .seq (.seq (.r 2 [⟨none, [], none, .mv 9 (.s 1)⟩,
    ⟨none, [], none, .bin 10 .lss (.s 9) (.k (.int .i64 0))⟩]) c_laws_heldImage_7) c_laws_heldImage_12
def c_laws_heldImage_2 : VC :=
  .seq (.r 1 [⟨none, [], none, .fadr 5 (.s 2) 4⟩,
    ⟨none, [], none, .ld 6 (.s 5) 1 false⟩,
    ⟨none, [], none, .mv 7 (.s 1)⟩,
    ⟨none, [], none, .call 8 64 [(.s 6), (.s 7)]⟩,
    ⟨none, [], none, .mv 1 (.s 8)⟩]) c_laws_heldImage_4
def c_laws_heldImage_0 : VC :=
  .seq (.r 0 [⟨none, [], none, .box 2 (.s 0)⟩,
    ⟨none, [], none, .mv 4 (.k (.int .i64 0))⟩]) c_laws_heldImage_2
def vf_laws_heldImage : VF := { pm := [.ro [.sc, .sc, .sc, .sc, .ro [.sc]], .ro [.sc]], rm := [.v [.sc]], nslots := 12, res := [4], rc := [], code := .kp [0, 1] c_laws_heldImage_0 }
def c_laws_FnExactColours_9 : VC :=
  .ite (.s 15) (.seq (.r 4 [⟨none, [], none, .mv 2 (.k (.bool true))⟩]) (.ret)) (.skip)
def c_laws_FnExactColours_23 : VC :=
  .ite (.s 26) (.seq (.r 9 [⟨none, [], none, .mv 2 (.k (.bool false))⟩]) (.ret)) (.skip)
def c_laws_FnExactColours_31 : VC :=
  .ite (.s 31) (.seq (.r 11 [⟨none, [], none, .mv 2 (.k (.bool false))⟩]) (.ret)) (.skip)
def c_laws_FnExactColours_43 : VC :=
  .ite (.s 42) (.seq (.r 15 [⟨none, [], none, .mv 2 (.k (.bool false))⟩]) (.ret)) (.skip)
def c_laws_FnExactColours_59 : VC :=
  .ite (.s 50) (.seq (.r 21 [⟨none, [], none, .mv 2 (.k (.bool false))⟩]) (.ret)) (.skip)
def c_laws_FnExactColours_67 : VC :=
  .ite (.s 53) (.seq (.r 23 [⟨none, [], none, .mv 2 (.k (.bool false))⟩]) (.ret)) (.skip)
def c_laws_FnExactColours_77 : VC :=
  .ite (.s 60) (.seq (.r 26 [⟨none, [], none, .mv 2 (.k (.bool false))⟩]) (.ret)) (.skip)
def c_laws_FnExactColours_89 : VC :=
  .ite (.s 65) (.seq (.r 30 [⟨none, [], none, .mv 2 (.k (.bool false))⟩]) (.ret)) (.skip)
def c_laws_FnExactColours_97 : VC :=
  .ite (.s 68) (.seq (.r 32 [⟨none, [], none, .mv 2 (.k (.bool false))⟩]) (.ret)) (.skip)
def c_laws_FnExactColours_102 : VC :=
  .seq (.r 33 [⟨none, [], none, .mv 2 (.k (.bool true))⟩]) (.ret)
def c_laws_FnExactColours_94 : VC :=
  .seq (.seq (.r 31 [⟨none, [], none, .mv 66 (.s 9)⟩,
    ⟨none, [], none, .mv 67 (.s 8)⟩,
    ⟨none, [], none, .bin 68 .neq (.s 66) (.s 67)⟩]) c_laws_FnExactColours_97) c_laws_FnExactColours_102
def c_laws_FnExactColours_86 : VC :=
  .seq (.seq (.r 29 [⟨none, [], none, .mv 64 (.s 9)⟩,
    ⟨none, [], none, .bin 65 .lss (.s 64) (.k (.int .i64 0))⟩]) c_laws_FnExactColours_89) c_laws_FnExactColours_94
def c_laws_FnExactColours_84 : VC :=
  .seq (.r 28 [⟨none, [], none, .ld 61 (.s 6) 5 true⟩,
    ⟨none, [], none, .mv 62 (.s 9)⟩,
    ⟨none, [], none, .call 63 70 [(.s 61), (.s 62)]⟩,
    ⟨none, [], none, .mv 9 (.s 63)⟩]) c_laws_FnExactColours_86
def c_laws_FnExactColours_82 : VC :=
  .seq (.r 27 [⟨none, [], none, .mv 9 (.k (.int .i64 1))⟩]) c_laws_FnExactColours_84
def c_laws_FnExactColours_74 : VC :=
  .seq (.seq (.r 25 [⟨none, [], none, .ld 57 (.s 10) 5 true⟩,
    ⟨none, [], none, .ld 58 (.s 4) 5 true⟩,
    ⟨none, [], none, .call 59 67 [(.s 57), (.s 58)]⟩,
    ⟨none, [], none, .un 60 .not (.s 59)⟩]) c_laws_FnExactColours_77) c_laws_FnExactColours_82
def c_laws_FnExactColours_72 : VC :=
  .seq (.r 24 [⟨none, [], none, .ld 54 (.s 1) 8 true⟩,
    ⟨none, [], none, .call 55 27 [(.s 54)]⟩,
    ⟨none, [], none, .call 56 66 [(.s 55)]⟩,
    ⟨none, [], none, .alloc 10 [.k (.int .i64 0), .k (.int .i64 0), .k (.int .i64 0), .k (.int .i64 0), .o [.sc]]⟩,
    ⟨none, [], none, .st (.s 10) (.s 56) 5⟩]) c_laws_FnExactColours_74
def c_laws_FnExactColours_64 : VC :=
  .seq (.seq (.r 22 [⟨none, [], none, .mv 51 (.s 9)⟩,
    ⟨none, [], none, .mv 52 (.s 8)⟩,
    ⟨none, [], none, .bin 53 .neq (.s 51) (.s 52)⟩]) c_laws_FnExactColours_67) c_laws_FnExactColours_72
def c_laws_FnExactColours_56 : VC :=
  .seq (.seq (.r 20 [⟨none, [], none, .mv 49 (.s 9)⟩,
    ⟨none, [], none, .bin 50 .lss (.s 49) (.k (.int .i64 0))⟩]) c_laws_FnExactColours_59) c_laws_FnExactColours_64
def c_laws_FnExactColours_54 : VC :=
  .seq (.r 19 [⟨none, [], none, .ld 46 (.s 6) 5 true⟩,
    ⟨none, [], none, .mv 47 (.s 9)⟩,
    ⟨none, [], none, .call 48 70 [(.s 46), (.s 47)]⟩,
    ⟨none, [], none, .mv 9 (.s 48)⟩]) c_laws_FnExactColours_56
def c_laws_FnExactColours_52 : VC :=
  .seq (.r 18 [⟨none, [], none, .mv 9 (.k (.int .i64 1))⟩]) c_laws_FnExactColours_54
def c_laws_FnExactColours_50 : VC :=
  .seq (.r 17 [⟨none, [], none, .ld 43 (.s 6) 5 true⟩,
    ⟨none, [], none, .mv 44 (.s 8)⟩,
    ⟨none, [], none, .call 45 69 [(.s 43), (.s 44)]⟩,
    ⟨none, [], none, .mv 8 (.s 45)⟩]) c_laws_FnExactColours_52
def c_laws_FnExactColours_48 : VC :=
  .seq (.r 16 [⟨none, [], none, .mv 8 (.k (.int .i64 1))⟩]) c_laws_FnExactColours_50
def c_laws_FnExactColours_40 : VC :=
  .seq (.seq (.r 14 [⟨none, [], none, .mv 35 (.s 7)⟩,
    ⟨none, [], none, .bin 36 .lss (.s 35) (.k (.int .i64 0))⟩,
    ⟨none, [], none, .mv 37 (.s 36)⟩,
    ⟨none, [], some (37, false), .ld 38 (.s 6) 5 true⟩,
    ⟨none, [], some (37, false), .ld 39 (.s 4) 5 true⟩,
    ⟨none, [], some (37, false), .call 40 67 [(.s 38), (.s 39)]⟩,
    ⟨none, [], some (37, false), .un 41 .not (.s 40)⟩,
    ⟨none, [], none, .pick 42 (.s 37) (.k (.bool true)) (.s 41)⟩]) c_laws_FnExactColours_43) c_laws_FnExactColours_48
def c_laws_FnExactColours_38 : VC :=
  .seq (.r 13 [⟨none, [], none, .ld 32 (.s 5) 8 true⟩,
    ⟨none, [], none, .mv 33 (.s 7)⟩,
    ⟨none, [], none, .call 34 68 [(.s 32), (.s 33)]⟩,
    ⟨none, [], none, .mv 7 (.s 34)⟩]) c_laws_FnExactColours_40
def c_laws_FnExactColours_36 : VC :=
  .seq (.r 12 [⟨none, [], none, .mv 7 (.k (.int .i64 1))⟩]) c_laws_FnExactColours_38
def c_laws_FnExactColours_28 : VC :=
  .seq (.seq (.d 10 [(0, ⟨none, [], none, .ldv 27 (.s 5) 8 true⟩),
    (1, ⟨none, [], none, .ldv 28 (.s 1) 8 true⟩),
    (2, ⟨none, [], none, .call 29 27 [(.s 28)]⟩),
    (3, ⟨none, [], none, .call 30 29 [(.s 27), (.s 29)]⟩),
    (4, ⟨none, [], none, .un 31 .not (.s 30)⟩)]) c_laws_FnExactColours_31) c_laws_FnExactColours_36
def c_laws_FnExactColours_20 : VC :=
  .seq (.seq (.r 8 [⟨none, [], none, .ld 23 (.s 6) 5 true⟩,
    ⟨none, [], none, .ld 24 (.s 4) 5 true⟩,
    ⟨none, [], none, .call 25 67 [(.s 23), (.s 24)]⟩,
    ⟨none, [], none, .un 26 .not (.s 25)⟩]) c_laws_FnExactColours_23) c_laws_FnExactColours_28
def c_laws_FnExactColours_18 : VC :=
  .seq (.r 7 [⟨none, [], none, .ld 21 (.s 5) 8 true⟩,
    ⟨none, [], none, .call 22 66 [(.s 21)]⟩,
    ⟨none, [], none, .alloc 6 [.k (.int .i64 0), .k (.int .i64 0), .k (.int .i64 0), .k (.int .i64 0), .o [.sc]]⟩,
    ⟨none, [], none, .st (.s 6) (.s 22) 5⟩]) c_laws_FnExactColours_20
def c_laws_FnExactColours_16 : VC :=
  .seq (.r 6 [⟨none, [], none, .ld 19 (.s 1) 8 true⟩,
    ⟨none, [], none, .call 20 27 [(.s 19)]⟩,
    ⟨none, [], none, .alloc 5 [.k (.int .i64 0), .k (.int .i64 0), .k (.int .i64 0), .k (.int .i64 0), .o [.sc], .o [.sc], .o [.sc, .sc], .k (.bool false)]⟩,
    ⟨none, [], none, .st (.s 5) (.s 20) 8⟩]) c_laws_FnExactColours_18
def c_laws_FnExactColours_14 : VC :=
  .seq (.r 5 [⟨none, [], none, .ld 16 (.s 1) 8 true⟩,
    ⟨none, [], none, .call 17 27 [(.s 16)]⟩,
    ⟨none, [], none, .call 18 65 [(.s 17)]⟩,
    ⟨none, [], none, .alloc 4 [.k (.int .i64 0), .k (.int .i64 0), .k (.int .i64 0), .k (.int .i64 0), .o [.sc]]⟩,
    ⟨none, [], none, .st (.s 4) (.s 18) 5⟩]) c_laws_FnExactColours_16
def c_laws_FnExactColours_6 : VC :=
  .seq (.seq (.r 3 [⟨none, [], none, .mv 14 (.s 3)⟩,
    ⟨none, [], none, .bin 15 .lss (.s 14) (.k (.int .i64 0))⟩]) c_laws_FnExactColours_9) c_laws_FnExactColours_14
def c_laws_FnExactColours_4 : VC :=
  .seq (.r 2 [⟨none, [], none, .ld 11 (.s 1) 8 true⟩,
    ⟨none, [], none, .mv 12 (.s 3)⟩,
    ⟨none, [], none, .call 13 25 [(.s 11), (.s 12)]⟩,
    ⟨none, [], none, .mv 3 (.s 13)⟩]) c_laws_FnExactColours_6
def c_laws_FnExactColours_2 : VC :=
  .seq (.r 1 [⟨none, [], none, .mv 3 (.k (.int .i64 1048576))⟩]) c_laws_FnExactColours_4
def c_laws_FnExactColours_0 : VC :=
  .seq (.r 0 [⟨none, [], none, .box 1 (.s 0)⟩,
    ⟨none, [], none, .mv 2 (.k (.bool false))⟩]) c_laws_FnExactColours_2
def vf_laws_FnExactColours : VF := { pm := [.ro [.sc, .sc, .sc, .sc, .ro [.sc], .ro [.sc], .ro [.sc, .sc], .sc]], rm := [.v [.sc]], nslots := 69, res := [2], rc := [], code := .kp [0] c_laws_FnExactColours_0 }
def ext : FuncId → List Arg → Option FRes := fun f ars => if f = 169 then ex_strings_IndexByte ars else none
def tblL : List (FuncId × VF) := [(95, vf_laws_szIntS), (94, vf_laws_szImage), (162, vf_laws_szNote), (96, vf_laws_szNoteS), (25, vf_laws_szStill), (60, vf_laws_toIntS), (101, vf_laws_toImage), (167, vf_laws_toNote), (102, vf_laws_toNoteS), (27, vf_laws_toStill), (163, vf_spec_l4Sides), (164, vf_spec_l4Depth), (97, vf_spec_GoodImage), (98, vf_spec_l5Colours), (99, vf_spec_l5Note), (236, vf_spec_l4Count), (213, vf_spec_l4Passes), (165, vf_spec_l5Sizes), (166, vf_spec_l5RowBytes), (100, vf_spec_l5Total), (26, vf_spec_GoodStill), (65, vf_spec_Colours), (218, vf_impl_goodSide), (185, vf_impl_goodSides), (214, vf_impl_goodDepth), (168, vf_impl_goodShape), (104, vf_impl_inRange), (103, vf_impl_GoodImage), (169, vf_strings_IndexByte), (105, vf_impl_goodNote), (216, vf_impl_Passes), (170, vf_impl_shapes), (171, vf_impl_rowBytes), (106, vf_impl_rowsSize), (28, vf_impl_GoodStill), (66, vf_impl_Colours), (62, vf_laws_eqIntS), (67, vf_laws_eqImage), (172, vf_laws_eqNote), (107, vf_laws_eqNoteS), (29, vf_laws_eqStill), (63, vf_laws_markIntS), (69, vf_laws_markImage), (211, vf_laws_markText), (155, vf_laws_markNoteS), (68, vf_laws_markStill), (64, vf_laws_heldIntS), (70, vf_laws_heldImage), (11, vf_laws_FnExactColours)]
def tbl : FuncId → Option VF := fun f => tblL.lookup f
end Go.Proofs.V

/- printed by a program: the plain functions, the code and the proofs of one law -/
set_option linter.unusedVariables false
set_option maxRecDepth 100000
namespace Go.Proofs.V
open Go
theorem fi_laws_szIntS : funcIs Go.Proofs.Try.prog tbl 95 vf_laws_szIntS = true := by kernel_rfl
theorem fi_laws_szImage : funcIs Go.Proofs.Try.prog tbl 94 vf_laws_szImage = true := by kernel_rfl
theorem fi_laws_szNote : funcIs Go.Proofs.Try.prog tbl 162 vf_laws_szNote = true := by kernel_rfl
theorem fi_laws_szNoteS : funcIs Go.Proofs.Try.prog tbl 96 vf_laws_szNoteS = true := by kernel_rfl
theorem fi_laws_szStill : funcIs Go.Proofs.Try.prog tbl 25 vf_laws_szStill = true := by kernel_rfl
theorem fi_laws_toIntS : funcIs Go.Proofs.Try.prog tbl 60 vf_laws_toIntS = true := by kernel_rfl
theorem fi_laws_toImage : funcIs Go.Proofs.Try.prog tbl 101 vf_laws_toImage = true := by kernel_rfl
theorem fi_laws_toNote : funcIs Go.Proofs.Try.prog tbl 167 vf_laws_toNote = true := by kernel_rfl
theorem fi_laws_toNoteS : funcIs Go.Proofs.Try.prog tbl 102 vf_laws_toNoteS = true := by kernel_rfl
theorem fi_laws_toStill : funcIs Go.Proofs.Try.prog tbl 27 vf_laws_toStill = true := by kernel_rfl
theorem fi_spec_l4Sides : funcIs Go.Proofs.Try.prog tbl 163 vf_spec_l4Sides = true := by kernel_rfl
theorem fi_spec_l4Depth : funcIs Go.Proofs.Try.prog tbl 164 vf_spec_l4Depth = true := by kernel_rfl
theorem fi_spec_GoodImage : funcIs Go.Proofs.Try.prog tbl 97 vf_spec_GoodImage = true := by kernel_rfl
theorem fi_spec_l5Colours : funcIs Go.Proofs.Try.prog tbl 98 vf_spec_l5Colours = true := by kernel_rfl
theorem fi_spec_l5Note : funcIs Go.Proofs.Try.prog tbl 99 vf_spec_l5Note = true := by kernel_rfl
theorem fi_spec_l4Count : funcIs Go.Proofs.Try.prog tbl 236 vf_spec_l4Count = true := by kernel_rfl
theorem fi_spec_l4Passes : funcIs Go.Proofs.Try.prog tbl 213 vf_spec_l4Passes = true := by kernel_rfl
theorem fi_spec_l5Sizes : funcIs Go.Proofs.Try.prog tbl 165 vf_spec_l5Sizes = true := by kernel_rfl
theorem fi_spec_l5RowBytes : funcIs Go.Proofs.Try.prog tbl 166 vf_spec_l5RowBytes = true := by kernel_rfl
theorem fi_spec_l5Total : funcIs Go.Proofs.Try.prog tbl 100 vf_spec_l5Total = true := by kernel_rfl
theorem fi_spec_GoodStill : funcIs Go.Proofs.Try.prog tbl 26 vf_spec_GoodStill = true := by kernel_rfl
theorem fi_spec_Colours : funcIs Go.Proofs.Try.prog tbl 65 vf_spec_Colours = true := by kernel_rfl
theorem fi_impl_goodSide : funcIs Go.Proofs.Try.prog tbl 218 vf_impl_goodSide = true := by kernel_rfl
theorem fi_impl_goodSides : funcIs Go.Proofs.Try.prog tbl 185 vf_impl_goodSides = true := by kernel_rfl
theorem fi_impl_goodDepth : funcIs Go.Proofs.Try.prog tbl 214 vf_impl_goodDepth = true := by kernel_rfl
theorem fi_impl_goodShape : funcIs Go.Proofs.Try.prog tbl 168 vf_impl_goodShape = true := by kernel_rfl
theorem fi_impl_inRange : funcIs Go.Proofs.Try.prog tbl 104 vf_impl_inRange = true := by kernel_rfl
theorem fi_impl_GoodImage : funcIs Go.Proofs.Try.prog tbl 103 vf_impl_GoodImage = true := by kernel_rfl
theorem fi_impl_goodNote : funcIs Go.Proofs.Try.prog tbl 105 vf_impl_goodNote = true := by kernel_rfl
theorem fi_impl_Passes : funcIs Go.Proofs.Try.prog tbl 216 vf_impl_Passes = true := by kernel_rfl
theorem fi_impl_shapes : funcIs Go.Proofs.Try.prog tbl 170 vf_impl_shapes = true := by kernel_rfl
theorem fi_impl_rowBytes : funcIs Go.Proofs.Try.prog tbl 171 vf_impl_rowBytes = true := by kernel_rfl
theorem fi_impl_rowsSize : funcIs Go.Proofs.Try.prog tbl 106 vf_impl_rowsSize = true := by kernel_rfl
theorem fi_impl_GoodStill : funcIs Go.Proofs.Try.prog tbl 28 vf_impl_GoodStill = true := by kernel_rfl
theorem fi_impl_Colours : funcIs Go.Proofs.Try.prog tbl 66 vf_impl_Colours = true := by kernel_rfl
theorem fi_laws_eqIntS : funcIs Go.Proofs.Try.prog tbl 62 vf_laws_eqIntS = true := by kernel_rfl
theorem fi_laws_eqImage : funcIs Go.Proofs.Try.prog tbl 67 vf_laws_eqImage = true := by kernel_rfl
theorem fi_laws_eqNote : funcIs Go.Proofs.Try.prog tbl 172 vf_laws_eqNote = true := by kernel_rfl
theorem fi_laws_eqNoteS : funcIs Go.Proofs.Try.prog tbl 107 vf_laws_eqNoteS = true := by kernel_rfl
theorem fi_laws_eqStill : funcIs Go.Proofs.Try.prog tbl 29 vf_laws_eqStill = true := by kernel_rfl
theorem fi_laws_markIntS : funcIs Go.Proofs.Try.prog tbl 63 vf_laws_markIntS = true := by kernel_rfl
theorem fi_laws_markImage : funcIs Go.Proofs.Try.prog tbl 69 vf_laws_markImage = true := by kernel_rfl
theorem fi_laws_markText : funcIs Go.Proofs.Try.prog tbl 211 vf_laws_markText = true := by kernel_rfl
theorem fi_laws_markNoteS : funcIs Go.Proofs.Try.prog tbl 155 vf_laws_markNoteS = true := by kernel_rfl
theorem fi_laws_markStill : funcIs Go.Proofs.Try.prog tbl 68 vf_laws_markStill = true := by kernel_rfl
theorem fi_laws_heldIntS : funcIs Go.Proofs.Try.prog tbl 64 vf_laws_heldIntS = true := by kernel_rfl
theorem fi_laws_heldImage : funcIs Go.Proofs.Try.prog tbl 70 vf_laws_heldImage = true := by kernel_rfl
theorem fi_laws_FnExactColours : funcIs Go.Proofs.Try.prog tbl 11 vf_laws_FnExactColours = true := by kernel_rfl
def gI : GInv := gNone
def ren_strings_IndexByte : Go.Shelf.Ren := ⟨fun n => match n with | 137 => 169 | 217 => 215 | 266 => 237 | n => n, fun n => match n with | 9 => 9 | 5 => 5 | 3 => 3 | n => n, fun n => n⟩
theorem lays_strings_IndexByte : Go.Proofs.Lays.n137 Go.Proofs.Try.prog ren_strings_IndexByte where
  mixed := by kernel_rfl
  f137 := Go.Proofs.Try.func169.trans (congrArg some (by kernel_rfl))
  f217 := Go.Proofs.Try.func215.trans (congrArg some (by kernel_rfl))
  f266 := Go.Proofs.Try.func237.trans (congrArg some (by kernel_rfl))
  t3 := Go.Proofs.Try.underlying3
  a3 := Go.Proofs.Try.isAgg3
  z3 := Go.Proofs.Try.sizeOf3
  v3 := Go.Proofs.Try.zeroValue3
  t5 := Go.Proofs.Try.underlying5
  a5 := Go.Proofs.Try.isAgg5
  z5 := Go.Proofs.Try.sizeOf5
  v5 := Go.Proofs.Try.zeroValue5
  t9 := Go.Proofs.Try.underlying9
  a9 := Go.Proofs.Try.isAgg9
  z9 := Go.Proofs.Try.sizeOf9
  v9 := Go.Proofs.Try.zeroValue9
theorem giv_strings_IndexByte (p0 : ByteArray) (p1 : Int) (r : Int) (h : gIndexByte p0 p1 = some r) (w : World) (hw : gI.I w) : Calls Go.Proofs.Try.prog 169 [(.string p0 : Value), (.int .u8 p1 : Value)].toArray w fun e w' => e = .returned (.int .i64 r) ∧ w' = w := by
  simp only [gIndexByte, Option.some.injEq] at h
  subst h
  exact Go.Proofs.Any.strings_IndexByte lays_strings_IndexByte p0 p1 w
theorem gv_strings_IndexByte : ∀ ars res st0, enter vf_strings_IndexByte ars = some st0 → ext 169 ars = some res → callable Go.Proofs.Try.prog 169 = true ∧ Does gI Go.Proofs.Try.prog 169 vf_strings_IndexByte st0 res := by
  intro ars res st0 he hx
  refine ⟨by kernel_rfl, ?_⟩
  have key : ∃ p0 p1, ars = [.v false [.lit (.string p0)], .v false [.lit (.int .u8 p1)]] ∧ (gIndexByte p0 p1).map (fun r => (⟨[.v false [.lit (.int .i64 r)]], []⟩ : FRes)) = some res := by
    have hx' : ex_strings_IndexByte ars = some res := hx
    unfold ex_strings_IndexByte at hx'
    split at hx'
    · exact ⟨_, _, rfl, hx'⟩
    · simp at hx'
  obtain ⟨p0, p1, rfl, h2⟩ := key
  obtain ⟨r, h3, rfl⟩ := Option.map_eq_some_iff.1 h2
  refine given_does (vals := [(.string p0 : Value), (.int .u8 p1 : Value)]) (v := .int .i64 r) (m := 2) rfl rfl rfl rfl rfl rfl he ?_ ?_
  · have h4 : enter vf_strings_IndexByte ([.v false [.lit (.string p0)], .v false [.lit (.int .u8 p1)]]) = some ⟨[SV.v false [.lit (.string p0)], SV.v false [.lit (.int .u8 p1)]] ++ [undefS], [], []⟩ := by kernel_rfl
    exact Option.some.inj (he.symm.trans h4)
  · intro w hw
    exact giv_strings_IndexByte p0 p1 r h3 w hw
end Go.Proofs.V
