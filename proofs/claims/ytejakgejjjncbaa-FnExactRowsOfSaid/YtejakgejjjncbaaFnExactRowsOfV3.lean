import Derived.Test.YtejakgejjjncbaaFnExactRowsOfV2
import Derived.Test.YtejakgejjjncbaaProg
import Derived.KernelRfl
import Derived.Shelf.LaysM
import Derived.Shelf.Strings.Search3
import Derived.Shelf.Vars
set_option linter.unusedSimpArgs false
set_option linter.unusedVariables false
set_option maxRecDepth 100000
namespace Go.Proofs.V
open Go
def firstF (f : Nat → Bool) : Nat → Int
  | 0 => -1
  | m + 1 => if 0 ≤ firstF f m then firstF f m else if f m then (m : Int) else -1
def downF (f : Nat → Bool) : Nat → Int → Int
  | 0, cur => cur
  | m + 1, cur => downF f m (if f m then (m : Int) else cur)
theorem downF_eq (f : Nat → Bool) : ∀ (m : Nat) (cur : Int), downF f m cur = if 0 ≤ firstF f m then firstF f m else cur := by
  intro m
  induction m with
  | zero => intro cur; simp [downF, firstF]
  | succ m ih =>
    intro cur
    rw [downF, ih, firstF]
    by_cases h : 0 ≤ firstF f m
    · simp [h]
    · simp only [h, if_false]
      cases f m with
      | true => simp
      | false => simp
theorem firstF_rng (f : Nat → Bool) : ∀ m : Nat, firstF f m = -1 ∨ 0 ≤ firstF f m ∧ firstF f m < m := by
  intro m
  induction m with
  | zero => left; rfl
  | succ m ih =>
    rw [firstF]
    split
    · right; omega
    · split
      · right; omega
      · left; rfl
theorem firstF_mono (f : Nat → Bool) (r : Nat) (h : 0 ≤ firstF f r) : ∀ d : Nat, firstF f (r + d) = firstF f r := by
  intro d
  induction d with
  | zero => rfl
  | succ d ih =>
    rw [← Nat.add_assoc, firstF, ih, if_pos h]
/-- may a cue of n lines stand from row r on? -/
def freeB (taken : List Bool) (n : Nat) (r : Nat) : Bool := (List.range n).foldl (fun b k => b && !(taken.getD (r + k) false)) true
theorem free_loop (p : List S_Cue) (rows a i : Int) (x : S_Cue) (out : List Int) (taken : List Bool) (n r : Nat) (hn : x.lines.length = n) (hn4 : n ≤ 4) (hr : r + n ≤ taken.length) (ht : taken.length ≤ 100) :
    loopM (lp_impl_RowsOf_87 p rows a r i x out taken) (true, 0) = some (freeB taken n r) := by
  have key := fold_range (n := n) (σ := Bool) (fun s k => (s, (k : Int))) (g := fun b k => b && !(taken.getD (r + k) false)) (I := fun _ _ => True) (b := lp_impl_RowsOf_87 p rows a r i x out taken) (e1 := fun b => b)
    (fun k s hk _ => ⟨?_, trivial⟩) (fun s _ => ?_) true trivial
  · exact key.1
  · simp only [lp_impl_RowsOf_87, m_impl_RowsOf_87]
    rw [if_pos (by simp; omega), w64_succ (by omega)]
    cases s with
    | true =>
      rw [if_pos rfl, w64_id (by omega) (by omega), show (r : Int) + (k : Int) = ((r + k : Nat) : Int) by omega, rd_d false (by omega)]
      simp only [Option.bind_some, Bool.true_and]
    | false => rw [if_neg (by simp)]; simp
  · simp only [lp_impl_RowsOf_87, m_impl_RowsOf_87]
    rw [if_neg (by simp; omega)]
theorem up_loop (p : List S_Cue) (rows : Nat) (i : Int) (x : S_Cue) (out : List Int) (taken : List Bool) (n M : Nat) (hn : x.lines.length = n) (hn4 : n ≤ 4) (hM : ∀ r : Nat, r + n ≤ rows ↔ r < M) (hM2 : M ≤ 101) (ht : taken.length = rows) (hrows : rows ≤ 100) :
    ∀ (d r : Nat), r + d = M → firstF (freeB taken n) r = -1 → loopM (lp_impl_RowsOf_72 p rows i x out taken) (-1, (r : Int)) = some (firstF (freeB taken n) M) := by
  intro d
  induction d with
  | zero =>
    intro r hr hf
    obtain rfl : r = M := by omega
    have := hM r
    rw [loopM_eq]
    simp only [lp_impl_RowsOf_72, m_impl_RowsOf_72]
    rw [w64_id (by omega) (by omega), if_neg (by simp; omega), hf]
  | succ d ih =>
    intro r hr hf
    have h1 := (hM r).2 (by omega)
    rw [loopM_eq]
    simp only [lp_impl_RowsOf_72, m_impl_RowsOf_72]
    rw [w64_id (by omega) (by omega), if_pos (by simp; omega), if_pos (by rfl), free_loop p rows (-1) i x out taken n r hn hn4 (by omega) (by omega)]
    simp only [Option.bind_some, m_impl_RowsOf_99]
    rw [w64_succ (by omega)]
    cases hfr : freeB taken n r with
    | true =>
      have h2 : firstF (freeB taken n) (r + 1) = r := by rw [firstF, hf, if_neg (by decide), hfr, if_pos rfl]
      have h3 : firstF (freeB taken n) M = r := by
        rw [show M = (r + 1) + d by omega, firstF_mono _ _ (by omega), h2]
      rw [if_pos rfl, h3]
      show loopM _ _ = _
      rw [loopM_eq]
      simp only [lp_impl_RowsOf_72, m_impl_RowsOf_72]
      have h4 : decide ((r : Int) < 0) = false := by simp
      rw [h4]
      simp
    | false =>
      have h2 : firstF (freeB taken n) (r + 1) = -1 := by rw [firstF, hf, if_neg (by decide), hfr]; rfl
      rw [if_neg (by simp)]
      exact ih (r + 1) (by omega) h2
theorem down_loop (p : List S_Cue) (rows : Nat) (i : Int) (x : S_Cue) (out : List Int) (taken : List Bool) (n M : Nat) (hn : x.lines.length = n) (hn4 : n ≤ 4) (hM : ∀ r : Nat, r + n ≤ rows ↔ r < M) (hM2 : M ≤ 101) (ht : taken.length = rows) (hrows : rows ≤ 100) :
    ∀ (m : Nat) (cur : Int), m ≤ M → loopM (lp_spec_RowsOf_70 p rows i x out taken) (cur, (m : Int) - 1) = some (downF (freeB taken n) m cur) := by
  intro m
  induction m with
  | zero =>
    intro cur _
    rw [loopM_eq]
    simp only [lp_spec_RowsOf_70, m_spec_RowsOf_70]
    rw [if_neg (by simp)]
    rfl
  | succ m ih =>
    intro cur hm
    have h1 := (hM m).2 (by omega)
    have e1 : ((m + 1 : Nat) : Int) - 1 = (m : Int) := by omega
    have e2 : loopM (lp_spec_RowsOf_85 p rows cur m i x out taken) (true, 0) = some (freeB taken n m) := free_loop p rows cur i x out taken n m hn hn4 (by omega) (by omega)
    rw [e1, loopM_eq]
    simp only [lp_spec_RowsOf_70, m_spec_RowsOf_70]
    rw [if_pos (by simp), e2]
    simp only [Option.bind_some, m_spec_RowsOf_97]
    rw [w64_id (by omega) (by omega), downF]
    cases freeB taken n m with
    | true => exact ih _ (by omega)
    | false => exact ih _ (by omega)
/-- the rows told so far -/
def RInv (p : List S_Cue) (rows i : Nat) (out : List Int) : Prop := out.length = i ∧ ∀ (j : Nat) (x : S_Cue) (v : Int), p[j]? = some x → out[j]? = some v → v = -1 ∨ 0 ≤ v ∧ v + x.lines.length ≤ rows
theorem taken_loop (p : List S_Cue) (rows i : Nat) (x : S_Cue) (out : List Int) (hc : ∀ c ∈ p, gCue c) (hi : i ≤ p.length) (hp : p.length ≤ 200) (hI : RInv p rows i out) (hrows : rows ≤ 100) :
    ∃ taken, loopM (lp_impl_RowsOf_34 p rows i x out) (0, List.replicate rows false) = some taken ∧ taken.length = rows := by
  have key := loopM_inv (b := lp_impl_RowsOf_34 p rows i x out) (fun j (s : List Bool) => ((j : Int), s)) i (fun j s => s.length = rows) (fun e => e.length = rows) ?_ ?_ (s := List.replicate rows false) (by simp)
  · exact key
  · intro j s hj hs
    obtain ⟨h1, h2⟩ := hI
    have hjo : j < out.length := by omega
    have hjp : j < p.length := by omega
    have h64 : ∀ l : List Bool, l.length = rows → (∃ s', m_impl_RowsOf_64 p rows i j x out l = some (.inl (((j + 1 : Nat) : Int), s')) ∧ s'.length = rows) := by
      intro l hl
      unfold m_impl_RowsOf_64
      rw [w64_succ (by omega)]
      exact ⟨l, rfl, hl⟩
    simp only [lp_impl_RowsOf_34, m_impl_RowsOf_34]
    rw [if_pos (by simp; omega), rd_eq hjo, rd_eq hjp]
    simp only [Option.bind_some]
    have hv := h2 j p[j] out[j] (by simp [hjp]) (by simp [hjo])
    have hx := hc _ (List.getElem_mem hjp)
    have h46f : ∃ s', m_impl_RowsOf_46 p rows j i x out s false = some (.inl (((j + 1 : Nat) : Int), s')) ∧ s'.length = rows := by
      unfold m_impl_RowsOf_46
      rw [if_neg (by simp)]
      exact h64 s hs
    by_cases h3 : out[j] ≥ 0
    · rw [if_pos (by simpa using h3)]
      have h46 : ∀ b, ∃ s', m_impl_RowsOf_46 p rows j i x out s b = some (.inl (((j + 1 : Nat) : Int), s')) ∧ s'.length = rows := by
        intro b
        cases b with
        | false => exact h46f
        | true =>
          unfold m_impl_RowsOf_46
          rw [if_pos rfl, rd_eq hjp]
          simp only [Option.bind_some]
          have hro : rd out (j : Int) = some out[j] := rd_eq hjo
          generalize p[j] = y at hv hx ⊢
          generalize out[j] = v at hv h3 hro ⊢
          have key2 := loopM_inv (b := lp_impl_RowsOf_51 p rows j i y x out) (fun k (s : List Bool) => ((k : Int), s)) y.lines.length (fun k s => s.length = rows) (fun e => e.length = rows) ?_ ?_ (s := s) hs
          · obtain ⟨e, he, hl⟩ := key2
            have he' : loopM (lp_impl_RowsOf_51 p rows j i y x out) ((0 : Int), s) = some e := he
            rw [he']
            exact h64 e hl
          · intro k s hk hs
            left
            have hk4 := hx.2.2.2.2
            simp only [lp_impl_RowsOf_51, m_impl_RowsOf_51]
            rw [if_pos (by simp; omega), hro]
            simp only [Option.bind_some]
            rw [w64_id (by omega) (by omega), rd_eq' (i := v.toNat + k) (by omega) (by omega), w64_succ (by omega)]
            exact ⟨_, rfl, by simpa using hs⟩
          · intro s hs
            refine ⟨s, ?_, hs⟩
            simp only [lp_impl_RowsOf_51, m_impl_RowsOf_51]
            rw [if_neg (by simp)]
      left
      split
      · exact h46 _
      · exact h46 _
    · rw [if_neg (by simpa using h3)]
      exact .inl h46f
  · intro s hs
    refine ⟨s, ?_, hs⟩
    simp only [lp_impl_RowsOf_34, m_impl_RowsOf_34]
    rw [if_neg (by simp)]
theorem row_step (p : List S_Cue) (rows i : Nat) (out : List Int) (hc : ∀ c ∈ p, gCue c) (hi : i < p.length) (hp : p.length ≤ 200) (hI : RInv p rows i out) (hrows : rows ≤ 100) :
    ∃ out', lp_spec_RowsOf_17 p rows ((i : Int), out) = some (.inl (((i + 1 : Nat) : Int), out')) ∧ lp_impl_RowsOf_17 p rows ((i : Int), out) = some (.inl (((i + 1 : Nat) : Int), out')) ∧ RInv p rows (i + 1) out' := by
  have hx := hc _ (List.getElem_mem hi)
  have hpx : p[i]? = some p[i] := by simp [hi]
  simp only [lp_spec_RowsOf_17, m_spec_RowsOf_17, lp_impl_RowsOf_17, m_impl_RowsOf_17]
  rw [if_pos (by simp; omega), if_pos (by simp; omega), rd_eq hi]
  simp only [Option.bind_some]
  generalize p[i] = x at hx hpx ⊢
  rw [ck_eq (by omega)]
  simp only [Option.bind_some, Int.toNat_natCast]
  obtain ⟨taken, ht, hl⟩ := taken_loop p rows i x out hc (by omega) hp hI hrows
  have ht' : loopM (lp_spec_RowsOf_34 p rows i x out) (0, List.replicate rows false) = some taken := ht
  rw [ht, ht']
  simp only [Option.bind_some, m_spec_RowsOf_63, m_impl_RowsOf_65]
  have hn4 := hx.2.2.2.2
  obtain ⟨M, hM, hM2⟩ : ∃ M : Nat, (∀ r : Nat, r + x.lines.length ≤ rows ↔ r < M) ∧ M ≤ 101 := ⟨rows + 1 - x.lines.length, fun r => by omega, by omega⟩
  have hup := up_loop p rows i x out taken x.lines.length M rfl hn4 hM hM2 hl hrows M 0 (by omega) rfl
  have hup' : loopM (lp_impl_RowsOf_72 p rows i x out taken) (-1, 0) = some (firstF (freeB taken x.lines.length) M) := hup
  have hdn : loopM (lp_spec_RowsOf_70 p rows i x out taken) (-1, w64 ((rows : Int) - (x.lines.length : Int))) = some (firstF (freeB taken x.lines.length) M) := by
    rw [w64_id (by omega) (by omega)]
    by_cases h : x.lines.length ≤ rows
    · have h2 : (rows : Int) - (x.lines.length : Int) = (M : Int) - 1 := by
        have h3 := hM (rows - x.lines.length)
        have h4 := hM (rows - x.lines.length + 1)
        omega
      rw [h2, down_loop p rows i x out taken x.lines.length M rfl hn4 hM hM2 hl hrows M (-1) (Nat.le_refl _), downF_eq]
      rcases firstF_rng (freeB taken x.lines.length) M with h5 | h5
      · rw [h5]; rfl
      · rw [if_pos h5.1]
    · have h3 : M = 0 := by have := hM 0; omega
      subst h3
      rw [loopM_eq]
      simp only [lp_spec_RowsOf_70, m_spec_RowsOf_70]
      rw [if_neg (by simp; omega)]
      rfl
  have hrng := firstF_rng (freeB taken x.lines.length) M
  rw [hup', hdn]
  simp only [Option.bind_some, m_spec_RowsOf_103, m_impl_RowsOf_105]
  generalize firstF (freeB taken x.lines.length) M = v at hrng
  obtain ⟨h1, h2⟩ := hI
  rw [ck_eq (by simp; omega), w64_succ (by omega)]
  refine ⟨_, rfl, rfl, by simp; omega, ?_⟩
  intro j y u hy hu
  by_cases hj : j = i
  · subst hj
    rw [List.getElem?_append_right (by omega), h1, Nat.sub_self] at hu
    obtain rfl : v = u := by simpa using hu
    obtain rfl : x = y := by simpa using hpx.symm.trans hy
    rcases hrng with h | ⟨h3, h4⟩
    · exact .inl h
    · right
      have := (hM v.toNat).2 (by omega)
      omega
  · have hj2 : j < out.length := by
      have := (List.getElem?_eq_some_iff.1 hu).1
      simp at this
      omega
    rw [List.getElem?_append_left hj2] at hu
    exact h2 j y u hy hu
theorem rows_core (p : List S_Cue) (r : Int) (hs : ∀ c ∈ p, Sm_S_Cue c) : ∃ w, m_spec_RowsOf p r = some w ∧ m_impl_RowsOf p r = some w ∧ w.length ≤ 1048576 := by
  simp only [m_spec_RowsOf, m_spec_RowsOf_0, m_impl_RowsOf, m_impl_RowsOf_0, good_eq p hs]
  obtain ⟨b, hb, hg⟩ := good_some p hs
  rw [hb]
  simp only [Option.bind_some]
  cases b with
  | false => exact ⟨[], rfl, rfl, by simp⟩
  | true =>
    obtain ⟨hl, hc⟩ := hg rfl
    simp only [if_true]
    by_cases h1 : r < 1
    · simp only [h1, decide_true, if_true]; exact ⟨[], rfl, rfl, by simp⟩
    by_cases h2 : r > 100
    · simp only [h1, h2, decide_true, decide_false, Bool.false_eq_true, if_false, if_true]; exact ⟨[], rfl, rfl, by simp⟩
    simp only [h1, h2, decide_true, decide_false, Bool.false_eq_true, if_false, if_true]
    obtain ⟨rows, rfl⟩ : ∃ rows : Nat, r = rows := ⟨r.toNat, by omega⟩
    have key : ∀ (d i : Nat) (out : List Int), i + d = p.length → RInv p rows i out → ∃ w, loopM (lp_spec_RowsOf_17 p rows) ((i : Int), out) = some w ∧ loopM (lp_impl_RowsOf_17 p rows) ((i : Int), out) = some w ∧ w.length = p.length := by
      intro d
      induction d with
      | zero =>
        intro i out hi hI
        obtain rfl : i = p.length := by omega
        refine ⟨out, ?_, ?_, hI.1⟩
        · rw [loopM_eq]
          simp only [lp_spec_RowsOf_17, m_spec_RowsOf_17]
          rw [if_neg (by simp)]
        · rw [loopM_eq]
          simp only [lp_impl_RowsOf_17, m_impl_RowsOf_17]
          rw [if_neg (by simp)]
      | succ d ih =>
        intro i out hi hI
        obtain ⟨out', e1, e2, e3⟩ := row_step p rows i out hc (by omega) hl hI (by omega)
        obtain ⟨w, g1, g2, g3⟩ := ih (i + 1) out' (by omega) e3
        exact ⟨w, by rw [loopM_eq, e1]; exact g1, by rw [loopM_eq, e2]; exact g2, g3⟩
    obtain ⟨w, g1, g2, g3⟩ := key p.length 0 [] (by omega) ⟨rfl, by intro j x v hx hv; simp at hv⟩
    have g1' : loopM (lp_spec_RowsOf_17 p rows) ((0 : Int), ([] : List Int)) = some w := g1
    have g2' : loopM (lp_impl_RowsOf_17 p rows) ((0 : Int), ([] : List Int)) = some w := g2
    rw [g1', g2']
    exact ⟨w, rfl, rfl, by omega⟩
theorem final_FnExactRowsOf (x0 : List S_Cue) (w0 : (x0.length ≤ maxLen ∧ ∀ y0 ∈ x0, wfS_Cue y0)) (x1 : Int) (w1 : inK .i64 x1) : m_laws_FnExactRowsOf x0 x1 = some true :=
  plain_FnExactRowsOf x0 w0 x1 w1 fun h => rows_core x0 x1 h.2
end Go.Proofs.V

/- printed by a program: the plain functions, the code and the proofs of one law -/
set_option linter.unusedVariables false
set_option maxRecDepth 100000
namespace Go.Proofs.V
open Go
def c_laws_szStringS_7 : VC :=
  .ite (.s 11) (.seq (.r 3 [⟨none, [], none, .mv 4 (.k (.int .i64 (-1)))⟩]) (.ret)) (.skip)
def c_laws_szStringS_20 : VC :=
  .ite (.s 15) (.skip) (.exit 0)
def c_laws_szStringS_29 : VC :=
  .ite (.s 26) (.seq (.r 9 [⟨none, [], none, .mv 4 (.k (.int .i64 (-1)))⟩]) (.ret)) (.skip)
def c_laws_szStringS_27 : VC :=
  .seq (.r 8 [⟨none, [], none, .mv 25 (.s 1)⟩,
    ⟨none, [], none, .bin 26 .lss (.s 25) (.k (.int .i64 0))⟩]) c_laws_szStringS_29
def c_laws_szStringS_34 : VC :=
  .r 6 [⟨none, [], none, .mv 16 (.s 5)⟩,
    ⟨none, [], none, .bin 17 .add (.s 16) (.k (.int .i64 1))⟩,
    ⟨none, [], none, .mv 5 (.s 17)⟩]
def c_laws_szStringS_23 : VC :=
  .seq (.blk 1 (.seq (.r 7 [⟨none, [], none, .mv 18 (.s 1)⟩,
    ⟨none, [], none, .mv 19 (.s 0)⟩,
    ⟨none, [], none, .mv 20 (.s 5)⟩,
    ⟨none, [], none, .iadr 21 (.s 19) (.s 20) 1⟩,
    ⟨none, [], none, .ld 22 (.s 21) 1 false⟩,
    ⟨none, [], none, .slen 23 (.s 22)⟩,
    ⟨none, [], none, .bin 24 .sub (.s 18) (.s 23)⟩,
    ⟨none, [], none, .mv 1 (.s 24)⟩]) c_laws_szStringS_27)) c_laws_szStringS_34
def c_laws_szStringS_17 : VC :=
  .seq (.seq (.r 5 [⟨none, [], none, .mv 12 (.s 5)⟩,
    ⟨none, [], none, .mv 13 (.s 0)⟩,
    ⟨none, [], none, .len 14 (.s 13)⟩,
    ⟨none, [], none, .bin 15 .lss (.s 12) (.s 14)⟩]) c_laws_szStringS_20) c_laws_szStringS_23
def c_laws_szStringS_15 : VC :=
  .blk 0 (.loop [0, 1, 5] c_laws_szStringS_17)
def c_laws_szStringS_35 : VC :=
  .seq (.r 10 [⟨none, [], none, .mv 27 (.s 1)⟩,
    ⟨none, [], none, .mv 4 (.s 27)⟩]) (.ret)
def c_laws_szStringS_12 : VC :=
  .seq (.seq (.r 4 [⟨none, [], none, .mv 5 (.k (.int .i64 0))⟩]) c_laws_szStringS_15) (.kp [1] c_laws_szStringS_35)
def c_laws_szStringS_4 : VC :=
  .seq (.seq (.r 2 [⟨none, [], none, .mv 10 (.s 1)⟩,
    ⟨none, [], none, .bin 11 .lss (.s 10) (.k (.int .i64 0))⟩]) c_laws_szStringS_7) c_laws_szStringS_12
def c_laws_szStringS_2 : VC :=
  .seq (.r 1 [⟨none, [], none, .mv 6 (.s 1)⟩,
    ⟨none, [], none, .mv 7 (.s 0)⟩,
    ⟨none, [], none, .len 8 (.s 7)⟩,
    ⟨none, [], none, .bin 9 .sub (.s 6) (.s 8)⟩,
    ⟨none, [], none, .mv 1 (.s 9)⟩]) c_laws_szStringS_4
def c_laws_szStringS_0 : VC :=
  .seq (.r 0 [⟨none, [], none, .mv 4 (.k (.int .i64 0))⟩]) c_laws_szStringS_2
def vf_laws_szStringS : VF := { pm := [.ro [.ro [.sc]], .ro [.sc]], rm := [.v [.sc]], nslots := 28, res := [4], rc := [], code := .kp [0, 1] c_laws_szStringS_0 }
def c_laws_szCue_7 : VC :=
  .ite (.s 10) (.seq (.r 3 [⟨none, [], none, .mv 4 (.k (.int .i64 (-1)))⟩]) (.ret)) (.skip)
def c_laws_szCue_12 : VC :=
  .seq (.r 4 [⟨none, [], none, .mv 11 (.s 1)⟩,
    ⟨none, [], none, .mv 4 (.s 11)⟩]) (.ret)
def c_laws_szCue_4 : VC :=
  .seq (.seq (.r 2 [⟨none, [], none, .mv 9 (.s 1)⟩,
    ⟨none, [], none, .bin 10 .lss (.s 9) (.k (.int .i64 0))⟩]) c_laws_szCue_7) c_laws_szCue_12
def c_laws_szCue_2 : VC :=
  .seq (.r 1 [⟨none, [], none, .fadr 5 (.s 2) 2⟩,
    ⟨none, [], none, .ld 6 (.s 5) 1 false⟩,
    ⟨none, [], none, .mv 7 (.s 1)⟩,
    ⟨none, [], none, .call 8 45 [(.s 6), (.s 7)]⟩,
    ⟨none, [], none, .mv 1 (.s 8)⟩]) c_laws_szCue_4
def c_laws_szCue_0 : VC :=
  .seq (.r 0 [⟨none, [], none, .box 2 (.s 0)⟩,
    ⟨none, [], none, .mv 4 (.k (.int .i64 0))⟩]) c_laws_szCue_2
def vf_laws_szCue : VF := { pm := [.ro [.sc, .sc, .ro [.sc]], .ro [.sc]], rm := [.v [.sc]], nslots := 12, res := [4], rc := [], code := .kp [0, 1] c_laws_szCue_0 }
def c_laws_szCueS_7 : VC :=
  .ite (.s 11) (.seq (.r 3 [⟨none, [], none, .mv 4 (.k (.int .i64 (-1)))⟩]) (.ret)) (.skip)
def c_laws_szCueS_20 : VC :=
  .ite (.s 15) (.skip) (.exit 0)
def c_laws_szCueS_29 : VC :=
  .ite (.s 25) (.seq (.r 9 [⟨none, [], none, .mv 4 (.k (.int .i64 (-1)))⟩]) (.ret)) (.skip)
def c_laws_szCueS_27 : VC :=
  .seq (.r 8 [⟨none, [], none, .mv 24 (.s 1)⟩,
    ⟨none, [], none, .bin 25 .lss (.s 24) (.k (.int .i64 0))⟩]) c_laws_szCueS_29
def c_laws_szCueS_34 : VC :=
  .r 6 [⟨none, [], none, .mv 16 (.s 5)⟩,
    ⟨none, [], none, .bin 17 .add (.s 16) (.k (.int .i64 1))⟩,
    ⟨none, [], none, .mv 5 (.s 17)⟩]
def c_laws_szCueS_23 : VC :=
  .seq (.blk 1 (.seq (.r 7 [⟨none, [], none, .mv 18 (.s 0)⟩,
    ⟨none, [], none, .mv 19 (.s 5)⟩,
    ⟨none, [], none, .iadr 20 (.s 18) (.s 19) 3⟩,
    ⟨none, [], none, .ld 21 (.s 20) 3 true⟩,
    ⟨none, [], none, .mv 22 (.s 1)⟩,
    ⟨none, [], none, .call 23 32 [(.s 21), (.s 22)]⟩,
    ⟨none, [], none, .mv 1 (.s 23)⟩]) c_laws_szCueS_27)) c_laws_szCueS_34
def c_laws_szCueS_17 : VC :=
  .seq (.seq (.r 5 [⟨none, [], none, .mv 12 (.s 5)⟩,
    ⟨none, [], none, .mv 13 (.s 0)⟩,
    ⟨none, [], none, .len 14 (.s 13)⟩,
    ⟨none, [], none, .bin 15 .lss (.s 12) (.s 14)⟩]) c_laws_szCueS_20) c_laws_szCueS_23
def c_laws_szCueS_15 : VC :=
  .blk 0 (.loop [0, 1, 5] c_laws_szCueS_17)
def c_laws_szCueS_35 : VC :=
  .seq (.r 10 [⟨none, [], none, .mv 26 (.s 1)⟩,
    ⟨none, [], none, .mv 4 (.s 26)⟩]) (.ret)
def c_laws_szCueS_12 : VC :=
  .seq (.seq (.r 4 [⟨none, [], none, .mv 5 (.k (.int .i64 0))⟩]) c_laws_szCueS_15) (.kp [1] c_laws_szCueS_35)
def c_laws_szCueS_4 : VC :=
  .seq (.seq (.r 2 [⟨none, [], none, .mv 10 (.s 1)⟩,
    ⟨none, [], none, .bin 11 .lss (.s 10) (.k (.int .i64 0))⟩]) c_laws_szCueS_7) c_laws_szCueS_12
def c_laws_szCueS_2 : VC :=
  .seq (.r 1 [⟨none, [], none, .mv 6 (.s 1)⟩,
    ⟨none, [], none, .mv 7 (.s 0)⟩,
    ⟨none, [], none, .len 8 (.s 7)⟩,
    ⟨none, [], none, .bin 9 .sub (.s 6) (.s 8)⟩,
    ⟨none, [], none, .mv 1 (.s 9)⟩]) c_laws_szCueS_4
def c_laws_szCueS_0 : VC :=
  .seq (.r 0 [⟨none, [], none, .mv 4 (.k (.int .i64 0))⟩]) c_laws_szCueS_2
def vf_laws_szCueS : VF := { pm := [.ro [.ro [.sc, .sc, .ro [.sc]]], .ro [.sc]], rm := [.v [.sc]], nslots := 27, res := [4], rc := [], code := .kp [0, 1] c_laws_szCueS_0 }
def c_laws_toStringS_12 : VC :=
  .ite (.s 11) (.skip) (.exit 0)
def c_laws_toStringS_18 : VC :=
  .r 4 [⟨none, [], none, .mv 12 (.s 4)⟩,
    ⟨none, [], none, .bin 13 .add (.s 12) (.k (.int .i64 1))⟩,
    ⟨none, [], none, .mv 4 (.s 13)⟩]
def c_laws_toStringS_15 : VC :=
  .seq (.blk 1 (.r 5 [⟨none, [], none, .mv 14 (.s 3)⟩,
    ⟨none, [], none, .mv 15 (.s 4)⟩,
    ⟨none, [], none, .mv 16 (.s 0)⟩,
    ⟨none, [], none, .mv 17 (.s 4)⟩,
    ⟨none, [], none, .iadr 18 (.s 16) (.s 17) 1⟩,
    ⟨none, [], none, .ld 19 (.s 18) 1 false⟩,
    ⟨none, [], none, .iadr 20 (.s 14) (.s 15) 1⟩,
    ⟨none, [], none, .st (.s 20) (.s 19) 1⟩])) c_laws_toStringS_18
def c_laws_toStringS_9 : VC :=
  .seq (.seq (.r 3 [⟨none, [], none, .mv 8 (.s 4)⟩,
    ⟨none, [], none, .mv 9 (.s 0)⟩,
    ⟨none, [], none, .len 10 (.s 9)⟩,
    ⟨none, [], none, .bin 11 .lss (.s 8) (.s 10)⟩]) c_laws_toStringS_12) c_laws_toStringS_15
def c_laws_toStringS_7 : VC :=
  .blk 0 (.loop [0, 3, 4] c_laws_toStringS_9)
def c_laws_toStringS_19 : VC :=
  .seq (.r 6 [⟨none, [], none, .mv 21 (.s 3)⟩,
    ⟨none, [], none, .mv 2 (.s 21)⟩]) (.ret)
def c_laws_toStringS_4 : VC :=
  .seq (.seq (.r 2 [⟨none, [], none, .mv 4 (.k (.int .i64 0))⟩]) c_laws_toStringS_7) (.kp [3] c_laws_toStringS_19)
def c_laws_toStringS_2 : VC :=
  .seq (.r 1 [⟨none, [], none, .mv 5 (.s 0)⟩,
    ⟨none, [], none, .len 6 (.s 5)⟩,
    ⟨none, [], none, .mk 7 (.s 6) [.sc] [(.string (ByteArray.mk #[]))] 8796093022208⟩,
    ⟨none, [], none, .mv 3 (.s 7)⟩]) c_laws_toStringS_4
def c_laws_toStringS_0 : VC :=
  .seq (.r 0 [⟨none, [], none, .nil 2 [.sc]⟩]) c_laws_toStringS_2
def vf_laws_toStringS : VF := { pm := [.ro [.ro [.sc]]], rm := [.v [.own [.sc]]], nslots := 22, res := [2], rc := [], code := .kp [0] c_laws_toStringS_0 }
def c_laws_toCue_10 : VC :=
  .seq (.r 5 [⟨none, [], none, .ld 14 (.s 3) 3 true⟩,
    ⟨none, [], none, .st (.s 2) (.s 14) 3⟩]) (.ret)
def c_laws_toCue_8 : VC :=
  .seq (.r 4 [⟨none, [], none, .fadr 10 (.s 1) 2⟩,
    ⟨none, [], none, .ld 11 (.s 10) 1 false⟩,
    ⟨none, [], none, .call 12 46 [(.s 11)]⟩,
    ⟨none, [], none, .fadr 13 (.s 3) 2⟩,
    ⟨none, [], none, .st (.s 13) (.s 12) 1⟩]) c_laws_toCue_10
def c_laws_toCue_6 : VC :=
  .seq (.r 3 [⟨none, [], none, .fadr 7 (.s 1) 1⟩,
    ⟨none, [], none, .ld 8 (.s 7) 1 false⟩,
    ⟨none, [], none, .fadr 9 (.s 3) 1⟩,
    ⟨none, [], none, .st (.s 9) (.s 8) 1⟩]) c_laws_toCue_8
def c_laws_toCue_4 : VC :=
  .seq (.r 2 [⟨none, [], none, .fadr 4 (.s 1) 0⟩,
    ⟨none, [], none, .ld 5 (.s 4) 1 false⟩,
    ⟨none, [], none, .fadr 6 (.s 3) 0⟩,
    ⟨none, [], none, .st (.s 6) (.s 5) 1⟩]) c_laws_toCue_6
def c_laws_toCue_2 : VC :=
  .seq (.r 1 [⟨none, [], none, .alloc 3 [.k (.int .i64 0), .k (.int .i64 0), .o [.sc]]⟩]) c_laws_toCue_4
def c_laws_toCue_0 : VC :=
  .seq (.r 0 [⟨none, [], none, .box 1 (.s 0)⟩,
    ⟨none, [], none, .alloc 2 [.k (.int .i64 0), .k (.int .i64 0), .o [.sc]]⟩]) c_laws_toCue_2
def vf_laws_toCue : VF := { pm := [.ro [.sc, .sc, .ro [.sc]]], rm := [.v [.sc, .sc, .own [.sc]]], nslots := 15, res := [2], rc := [some (3, true)], code := .kp [0] c_laws_toCue_0 }
def c_laws_toCueS_12 : VC :=
  .ite (.s 11) (.skip) (.exit 0)
def c_laws_toCueS_18 : VC :=
  .r 4 [⟨none, [], none, .mv 12 (.s 4)⟩,
    ⟨none, [], none, .bin 13 .add (.s 12) (.k (.int .i64 1))⟩,
    ⟨none, [], none, .mv 4 (.s 13)⟩]
def c_laws_toCueS_15 : VC :=
  .seq (.blk 1 (.r 5 [⟨none, [], none, .mv 14 (.s 3)⟩,
    ⟨none, [], none, .mv 15 (.s 4)⟩,
    ⟨none, [], none, .mv 16 (.s 0)⟩,
    ⟨none, [], none, .mv 17 (.s 4)⟩,
    ⟨none, [], none, .iadr 18 (.s 16) (.s 17) 3⟩,
    ⟨none, [], none, .ld 19 (.s 18) 3 true⟩,
    ⟨none, [], none, .call 20 34 [(.s 19)]⟩,
    ⟨none, [], none, .iadr 21 (.s 14) (.s 15) 3⟩,
    ⟨none, [], none, .st (.s 21) (.s 20) 3⟩])) c_laws_toCueS_18
def c_laws_toCueS_9 : VC :=
  .seq (.seq (.r 3 [⟨none, [], none, .mv 8 (.s 4)⟩,
    ⟨none, [], none, .mv 9 (.s 0)⟩,
    ⟨none, [], none, .len 10 (.s 9)⟩,
    ⟨none, [], none, .bin 11 .lss (.s 8) (.s 10)⟩]) c_laws_toCueS_12) c_laws_toCueS_15
def c_laws_toCueS_7 : VC :=
  .blk 0 (.loop [0, 3, 4] c_laws_toCueS_9)
def c_laws_toCueS_19 : VC :=
  .seq (.r 6 [⟨none, [], none, .mv 22 (.s 3)⟩,
    ⟨none, [], none, .mv 2 (.s 22)⟩]) (.ret)
def c_laws_toCueS_4 : VC :=
  .seq (.seq (.r 2 [⟨none, [], none, .mv 4 (.k (.int .i64 0))⟩]) c_laws_toCueS_7) (.kp [3] c_laws_toCueS_19)
def c_laws_toCueS_2 : VC :=
  .seq (.r 1 [⟨none, [], none, .mv 5 (.s 0)⟩,
    ⟨none, [], none, .len 6 (.s 5)⟩,
    ⟨none, [], none, .mk 7 (.s 6) [.sc, .sc, .own [.sc]] [(.int .i64 0), (.int .i64 0), (.slice none 0 0)] 3518437208883⟩,
    ⟨none, [], none, .mv 3 (.s 7)⟩]) c_laws_toCueS_4
def c_laws_toCueS_0 : VC :=
  .seq (.r 0 [⟨none, [], none, .nil 2 [.sc, .sc, .own [.sc]]⟩]) c_laws_toCueS_2
def vf_laws_toCueS : VF := { pm := [.ro [.ro [.sc, .sc, .ro [.sc]]]], rm := [.v [.own [.sc, .sc, .own [.sc]]]], nslots := 23, res := [2], rc := [], code := .kp [0] c_laws_toCueS_0 }
def c_spec_l15Time_2 : VC :=
  .seq (.r 1 [⟨none, [], none, .mv 3 (.s 0)⟩,
    ⟨none, [], none, .bin 4 .geq (.s 3) (.k (.int .i64 0))⟩,
    ⟨none, [], none, .mv 5 (.s 4)⟩,
    ⟨none, [], some (5, true), .mv 6 (.s 0)⟩,
    ⟨none, [], some (5, true), .bin 7 .leq (.s 6) (.k (.int .i64 359999999))⟩,
    ⟨none, [], none, .pick 8 (.s 5) (.s 7) (.k (.bool false))⟩,
    ⟨none, [], none, .mv 2 (.s 8)⟩]) (.ret)
def c_spec_l15Time_0 : VC :=
  .seq (.r 0 [⟨none, [], none, .mv 2 (.k (.bool false))⟩]) c_spec_l15Time_2
def vf_spec_l15Time : VF := { pm := [.ro [.sc]], rm := [.v [.sc]], nslots := 9, res := [2], rc := [], code := .kp [0] c_spec_l15Time_0 }
def c_spec_l15Bytes_10 : VC :=
  .ite (.s 7) (.skip) (.exit 0)
def c_spec_l15Bytes_17 : VC :=
  .ite (.s 19) (.seq (.r 5 [⟨none, [], none, .mv 2 (.k (.bool false))⟩]) (.ret)) (.skip)
def c_spec_l15Bytes_22 : VC :=
  .r 3 [⟨none, [], none, .mv 8 (.s 3)⟩,
    ⟨none, [], none, .bin 9 .add (.s 8) (.k (.int .i64 1))⟩,
    ⟨none, [], none, .mv 3 (.s 9)⟩]
def c_spec_l15Bytes_13 : VC :=
  .seq (.blk 1 (.seq (.r 4 [⟨none, [], none, .mv 10 (.s 0)⟩,
    ⟨none, [], none, .mv 11 (.s 3)⟩,
    ⟨none, [], none, .idx 12 (.s 10) (.s 11)⟩,
    ⟨none, [], none, .bin 13 .lss (.s 12) (.k (.int .u8 32))⟩,
    ⟨none, [], none, .mv 14 (.s 13)⟩,
    ⟨none, [], some (14, false), .mv 15 (.s 0)⟩,
    ⟨none, [], some (14, false), .mv 16 (.s 3)⟩,
    ⟨none, [], some (14, false), .idx 17 (.s 15) (.s 16)⟩,
    ⟨none, [], some (14, false), .bin 18 .gtr (.s 17) (.k (.int .u8 126))⟩,
    ⟨none, [], none, .pick 19 (.s 14) (.k (.bool true)) (.s 18)⟩]) c_spec_l15Bytes_17)) c_spec_l15Bytes_22
def c_spec_l15Bytes_7 : VC :=
  .seq (.seq (.r 2 [⟨none, [], none, .mv 4 (.s 3)⟩,
    ⟨none, [], none, .mv 5 (.s 0)⟩,
    ⟨none, [], none, .slen 6 (.s 5)⟩,
    ⟨none, [], none, .bin 7 .lss (.s 4) (.s 6)⟩]) c_spec_l15Bytes_10) c_spec_l15Bytes_13
def c_spec_l15Bytes_5 : VC :=
  .blk 0 (.loop [0, 3] c_spec_l15Bytes_7)
def c_spec_l15Bytes_23 : VC :=
  .seq (.r 6 [⟨none, [], none, .mv 2 (.k (.bool true))⟩]) (.ret)
def c_spec_l15Bytes_2 : VC :=
  .seq (.seq (.r 1 [⟨none, [], none, .mv 3 (.k (.int .i64 0))⟩]) c_spec_l15Bytes_5) (.kp [] c_spec_l15Bytes_23)
def c_spec_l15Bytes_0 : VC :=
  .seq (.r 0 [⟨none, [], none, .mv 2 (.k (.bool false))⟩]) c_spec_l15Bytes_2
def vf_spec_l15Bytes : VF := { pm := [.ro [.sc]], rm := [.v [.sc]], nslots := 20, res := [2], rc := [], code := .kp [0] c_spec_l15Bytes_0 }
def c_spec_l15Has_10 : VC :=
  .ite (.s 8) (.skip) (.exit 0)
def c_spec_l15Has_17 : VC :=
  .ite (.s 16) (.seq (.r 5 [⟨none, [], none, .mv 2 (.k (.bool true))⟩]) (.ret)) (.skip)
def c_spec_l15Has_22 : VC :=
  .r 3 [⟨none, [], none, .mv 9 (.s 3)⟩,
    ⟨none, [], none, .bin 10 .add (.s 9) (.k (.int .i64 1))⟩,
    ⟨none, [], none, .mv 3 (.s 10)⟩]
def c_spec_l15Has_13 : VC :=
  .seq (.blk 1 (.seq (.r 4 [⟨none, [], none, .mv 11 (.s 0)⟩,
    ⟨none, [], none, .mv 12 (.s 3)⟩,
    ⟨none, [], none, .mv 13 (.s 3)⟩,
    ⟨none, [], none, .bin 14 .add (.s 13) (.k (.int .i64 3))⟩,
    ⟨none, [], none, .sstr 15 (.s 11) (some (.s 12)) (some (.s 14))⟩,
    ⟨none, [], none, .bin 16 .eql (.s 15) (.k (.string (ByteArray.mk #[45, 45, 62])))⟩]) c_spec_l15Has_17)) c_spec_l15Has_22
def c_spec_l15Has_7 : VC :=
  .seq (.seq (.r 2 [⟨none, [], none, .mv 4 (.s 3)⟩,
    ⟨none, [], none, .bin 5 .add (.s 4) (.k (.int .i64 2))⟩,
    ⟨none, [], none, .mv 6 (.s 0)⟩,
    ⟨none, [], none, .slen 7 (.s 6)⟩,
    ⟨none, [], none, .bin 8 .lss (.s 5) (.s 7)⟩]) c_spec_l15Has_10) c_spec_l15Has_13
def c_spec_l15Has_5 : VC :=
  .blk 0 (.loop [0, 3] c_spec_l15Has_7)
def c_spec_l15Has_23 : VC :=
  .seq (.r 6 [⟨none, [], none, .mv 2 (.k (.bool false))⟩]) (.ret)
def c_spec_l15Has_2 : VC :=
  .seq (.seq (.r 1 [⟨none, [], none, .mv 3 (.k (.int .i64 0))⟩]) c_spec_l15Has_5) (.kp [] c_spec_l15Has_23)
def c_spec_l15Has_0 : VC :=
  .seq (.r 0 [⟨none, [], none, .mv 2 (.k (.bool false))⟩]) c_spec_l15Has_2
def vf_spec_l15Has : VF := { pm := [.ro [.sc]], rm := [.v [.sc]], nslots := 17, res := [2], rc := [], code := .kp [0] c_spec_l15Has_0 }
def c_spec_l15Lines_19 : VC :=
  .ite (.s 35) (.seq (.r 5 [⟨none, [], none, .mv 2 (.k (.bool false))⟩]) (.ret)) (.skip)
def c_spec_l15Lines_17 : VC :=
  .seq (.r 4 [⟨none, [], none, .mv 11 (.s 4)⟩,
    ⟨none, [], none, .slen 12 (.s 11)⟩,
    ⟨none, [], none, .bin 13 .lss (.s 12) (.k (.int .i64 1))⟩,
    ⟨none, [], none, .mv 14 (.s 13)⟩,
    ⟨none, [], some (14, false), .mv 15 (.s 4)⟩,
    ⟨none, [], some (14, false), .slen 16 (.s 15)⟩,
    ⟨none, [], some (14, false), .bin 17 .gtr (.s 16) (.k (.int .i64 80))⟩,
    ⟨none, [], none, .pick 18 (.s 14) (.k (.bool true)) (.s 17)⟩,
    ⟨none, [], none, .mv 19 (.s 18)⟩,
    ⟨none, [], some (19, false), .mv 20 (.s 4)⟩,
    ⟨none, [], some (19, false), .call 21 50 [(.s 20)]⟩,
    ⟨none, [], some (19, false), .un 22 .not (.s 21)⟩,
    ⟨none, [], none, .pick 23 (.s 19) (.k (.bool true)) (.s 22)⟩,
    ⟨none, [], none, .mv 24 (.s 23)⟩,
    ⟨none, [], some (24, false), .mv 25 (.s 4)⟩,
    ⟨none, [], some (24, false), .mv 26 (.s 4)⟩,
    ⟨none, [], some (24, false), .slen 27 (.s 26)⟩,
    ⟨none, [], some (24, false), .bin 28 .sub (.s 27) (.k (.int .i64 1))⟩,
    ⟨none, [], some (24, false), .idx 29 (.s 25) (.s 28)⟩,
    ⟨none, [], some (24, false), .bin 30 .eql (.s 29) (.k (.int .u8 32))⟩,
    ⟨none, [], none, .pick 31 (.s 24) (.k (.bool true)) (.s 30)⟩,
    ⟨none, [], none, .mv 32 (.s 31)⟩,
    ⟨none, [], some (32, false), .mv 33 (.s 4)⟩,
    ⟨none, [], some (32, false), .call 34 51 [(.s 33)]⟩,
    ⟨none, [], none, .pick 35 (.s 32) (.k (.bool true)) (.s 34)⟩]) c_spec_l15Lines_19
def c_spec_l15Lines_24 : VC :=
  .r 6 [⟨none, [], none, .bin 36 .add (.s 7) (.k (.int .i64 1))⟩,
    ⟨none, [], none, .mv 7 (.s 36)⟩]
def c_spec_l15Lines_13 : VC :=
  .seq (.blk 1 (.seq (.r 3 [⟨none, [], none, .iadr 9 (.s 5) (.s 7) 1⟩,
    ⟨none, [], none, .ld 10 (.s 9) 1 false⟩,
    ⟨none, [], none, .mv 4 (.s 10)⟩]) c_spec_l15Lines_17)) c_spec_l15Lines_24
def c_spec_l15Lines_9 : VC :=
  .seq (.ite (.s 8) (.skip) (.exit 0)) c_spec_l15Lines_13
def c_spec_l15Lines_7 : VC :=
  .seq (.r 2 [⟨none, [], none, .bin 8 .lss (.s 7) (.s 6)⟩]) c_spec_l15Lines_9
def c_spec_l15Lines_5 : VC :=
  .blk 0 (.loop [0, 5, 6, 7] c_spec_l15Lines_7)
def c_spec_l15Lines_25 : VC :=
  .seq (.r 7 [⟨none, [], none, .mv 37 (.s 0)⟩,
    ⟨none, [], none, .len 38 (.s 37)⟩,
    ⟨none, [], none, .bin 39 .geq (.s 38) (.k (.int .i64 1))⟩,
    ⟨none, [], none, .mv 40 (.s 39)⟩,
    ⟨none, [], some (40, true), .mv 41 (.s 0)⟩,
    ⟨none, [], some (40, true), .len 42 (.s 41)⟩,
    ⟨none, [], some (40, true), .bin 43 .leq (.s 42) (.k (.int .i64 4))⟩,
    ⟨none, [], none, .pick 44 (.s 40) (.s 43) (.k (.bool false))⟩,
    ⟨none, [], none, .mv 2 (.s 44)⟩]) (.ret)
def c_spec_l15Lines_2 : VC :=
  .seq (.seq (.r 1 [⟨none, [], none, .mv 5 (.s 0)⟩,
    ⟨none, [], none, .len 6 (.s 5)⟩,
    ⟨none, [], none, .mv 7 (.k (.int .i64 0))⟩]) c_spec_l15Lines_5) (.kp [0] c_spec_l15Lines_25)
def c_spec_l15Lines_0 : VC :=
  .seq (.r 0 [⟨none, [], none, .mv 2 (.k (.bool false))⟩]) c_spec_l15Lines_2
def vf_spec_l15Lines : VF := { pm := [.ro [.ro [.sc]]], rm := [.v [.sc]], nslots := 45, res := [2], rc := [], code := .kp [0] c_spec_l15Lines_0 }
def c_spec_GoodCues_5 : VC :=
  .ite (.s 7) (.seq (.r 2 [⟨none, [], none, .mv 2 (.k (.bool false))⟩]) (.ret)) (.skip)
def c_spec_GoodCues_27 : VC :=
  .ite (.s 52) (.seq (.r 7 [⟨none, [], none, .mv 2 (.k (.bool false))⟩]) (.ret)) (.skip)
def c_spec_GoodCues_25 : VC :=
  .seq (.d 6 [(0, ⟨none, [], none, .fadv 15 (.s 4) 0⟩),
    (1, ⟨none, [], none, .ldv 16 (.s 15) 1 false⟩),
    (2, ⟨none, [], none, .call 17 33 [(.s 16)]⟩),
    (3, ⟨none, [], none, .un 18 .not (.s 17)⟩),
    (4, ⟨none, [], none, .mv 19 (.s 18)⟩),
    (5, ⟨none, [], some (19, false), .fadv 20 (.s 4) 1⟩),
    (6, ⟨none, [], some (19, false), .ldv 21 (.s 20) 1 false⟩),
    (7, ⟨none, [], some (19, false), .call 22 33 [(.s 21)]⟩),
    (8, ⟨none, [], some (19, false), .un 23 .not (.s 22)⟩),
    (9, ⟨none, [], none, .pick 24 (.s 19) (.k (.bool true)) (.s 23)⟩),
    (10, ⟨none, [], none, .mv 25 (.s 24)⟩),
    (11, ⟨none, [], some (25, false), .fadv 26 (.s 4) 0⟩),
    (12, ⟨none, [], some (25, false), .ldv 27 (.s 26) 1 false⟩),
    (13, ⟨none, [], some (25, false), .fadv 28 (.s 4) 1⟩),
    (14, ⟨none, [], some (25, false), .ldv 29 (.s 28) 1 false⟩),
    (15, ⟨none, [], some (25, false), .bin 30 .geq (.s 27) (.s 29)⟩),
    (16, ⟨none, [], none, .pick 31 (.s 25) (.k (.bool true)) (.s 30)⟩),
    (17, ⟨none, [], none, .mv 32 (.s 31)⟩),
    (18, ⟨none, [], some (32, false), .fadv 33 (.s 4) 2⟩),
    (19, ⟨none, [], some (32, false), .ldv 34 (.s 33) 1 false⟩),
    (20, ⟨none, [], some (32, false), .call 35 42 [(.s 34)]⟩),
    (21, ⟨none, [], some (32, false), .un 36 .not (.s 35)⟩),
    (22, ⟨none, [], none, .pick 37 (.s 32) (.k (.bool true)) (.s 36)⟩),
    (23, ⟨none, [], none, .mv 38 (.s 37)⟩),
    (24, ⟨none, [], some (38, false), .mv 39 (.s 3)⟩),
    (25, ⟨none, [], some (38, false), .bin 40 .gtr (.s 39) (.k (.int .i64 0))⟩),
    (26, ⟨none, [], some (38, false), .mv 41 (.s 40)⟩),
    (27, ⟨none, [], some (41, true), .fadv 42 (.s 4) 0⟩),
    (28, ⟨none, [], some (41, true), .ldv 43 (.s 42) 1 false⟩),
    (29, ⟨none, [], some (41, true), .mv 44 (.s 0)⟩),
    (30, ⟨none, [], some (41, true), .mv 45 (.s 3)⟩),
    (31, ⟨none, [], some (41, true), .bin 46 .sub (.s 45) (.k (.int .i64 1))⟩),
    (32, ⟨none, [], some (41, true), .iadr 47 (.s 44) (.s 46) 3⟩),
    (33, ⟨none, [], some (41, true), .fadv 48 (.s 47) 0⟩),
    (34, ⟨none, [], some (41, true), .ldv 49 (.s 48) 1 false⟩),
    (35, ⟨none, [], some (41, true), .bin 50 .lss (.s 43) (.s 49)⟩),
    (36, ⟨none, [], some (38, false), .pick 51 (.s 41) (.s 50) (.k (.bool false))⟩),
    (37, ⟨none, [], none, .pick 52 (.s 38) (.k (.bool true)) (.s 51)⟩)]) c_spec_GoodCues_27
def c_spec_GoodCues_32 : VC :=
  .r 8 [⟨none, [], none, .bin 53 .add (.s 10) (.k (.int .i64 1))⟩,
    ⟨none, [], none, .mv 10 (.s 53)⟩]
def c_spec_GoodCues_21 : VC :=
  .seq (.blk 1 (.seq (.r 5 [⟨none, [], none, .mv 12 (.s 10)⟩,
    ⟨none, [], none, .iadr 13 (.s 8) (.s 10) 3⟩,
    ⟨none, [], none, .ld 14 (.s 13) 3 true⟩,
    ⟨none, [], none, .alloc 4 [.k (.int .i64 0), .k (.int .i64 0), .o [.sc]]⟩,
    ⟨none, [], none, .mv 3 (.s 12)⟩,
    ⟨none, [], none, .st (.s 4) (.s 14) 3⟩]) c_spec_GoodCues_25)) c_spec_GoodCues_32
def c_spec_GoodCues_17 : VC :=
  .seq (.ite (.s 11) (.skip) (.exit 0)) c_spec_GoodCues_21
def c_spec_GoodCues_15 : VC :=
  .seq (.r 4 [⟨none, [], none, .bin 11 .lss (.s 10) (.s 9)⟩]) c_spec_GoodCues_17
def c_spec_GoodCues_13 : VC :=
  .blk 0 (.loop [0, 8, 9, 10] c_spec_GoodCues_15)
def c_spec_GoodCues_33 : VC :=
  .seq (.r 9 [⟨none, [], none, .mv 2 (.k (.bool true))⟩]) (.ret)
def c_spec_GoodCues_10 : VC :=
  .seq (.seq (.r 3 [⟨none, [], none, .mv 8 (.s 0)⟩,
    ⟨none, [], none, .len 9 (.s 8)⟩,
    ⟨none, [], none, .mv 10 (.k (.int .i64 0))⟩]) c_spec_GoodCues_13) (.kp [] c_spec_GoodCues_33)
def c_spec_GoodCues_2 : VC :=
  .seq (.seq (.r 1 [⟨none, [], none, .mv 5 (.s 0)⟩,
    ⟨none, [], none, .len 6 (.s 5)⟩,
    ⟨none, [], none, .bin 7 .gtr (.s 6) (.k (.int .i64 200))⟩]) c_spec_GoodCues_5) c_spec_GoodCues_10
def c_spec_GoodCues_0 : VC :=
  .seq (.r 0 [⟨none, [], none, .mv 2 (.k (.bool false))⟩]) c_spec_GoodCues_2
def vf_spec_GoodCues : VF := { pm := [.ro [.ro [.sc, .sc, .ro [.sc]]]], rm := [.v [.sc]], nslots := 54, res := [2], rc := [], code := .kp [0] c_spec_GoodCues_0 }
def c_spec_RowsOf_5 : VC :=
  .ite (.s 25) (.seq (.r 2 [⟨none, [], none, .nil 4 [.sc]⟩]) (.ret)) (.skip)
def c_spec_RowsOf_37 : VC :=
  .ite (.s 37) (.skip) (.exit 2)
def c_spec_RowsOf_59 : VC :=
  .r 15 [⟨none, [], none, .mv 74 (.s 8)⟩,
    ⟨none, [], none, .mv 75 (.s 5)⟩,
    ⟨none, [], none, .mv 76 (.s 9)⟩,
    ⟨none, [], none, .iadr 77 (.s 75) (.s 76) 1⟩,
    ⟨none, [], none, .ld 78 (.s 77) 1 false⟩,
    ⟨none, [], none, .mv 79 (.s 10)⟩,
    ⟨none, [], none, .bin 80 .add (.s 78) (.s 79)⟩,
    ⟨none, [], none, .iadr 81 (.s 74) (.s 80) 1⟩,
    ⟨none, [], none, .st (.s 81) (.k (.bool true)) 1⟩]
def c_spec_RowsOf_60 : VC :=
  .r 16 [⟨none, [], none, .bin 82 .add (.s 71) (.k (.int .i64 1))⟩,
    ⟨none, [], none, .mv 71 (.s 82)⟩]
def c_spec_RowsOf_55 : VC :=
  .seq (.blk 5 (.seq (.r 14 [⟨none, [], none, .mv 73 (.s 71)⟩,
    ⟨none, [], none, .mv 10 (.s 73)⟩]) c_spec_RowsOf_59)) c_spec_RowsOf_60
def c_spec_RowsOf_51 : VC :=
  .seq (.ite (.s 72) (.skip) (.exit 4)) c_spec_RowsOf_55
def c_spec_RowsOf_49 : VC :=
  .seq (.r 13 [⟨none, [], none, .bin 72 .lss (.s 71) (.s 70)⟩]) c_spec_RowsOf_51
def c_spec_RowsOf_47 : VC :=
  .blk 4 (.loop [0, 1, 5, 6, 7, 8, 9, 26, 27, 28, 70, 71] c_spec_RowsOf_49)
def c_spec_RowsOf_44 : VC :=
  .ite (.s 64) (.seq (.r 12 [⟨none, [], none, .mv 65 (.s 0)⟩,
    ⟨none, [], none, .mv 66 (.s 9)⟩,
    ⟨none, [], none, .iadr 67 (.s 65) (.s 66) 3⟩,
    ⟨none, [], none, .fadr 68 (.s 67) 2⟩,
    ⟨none, [], none, .ld 69 (.s 68) 1 false⟩,
    ⟨none, [], none, .len 70 (.s 69)⟩,
    ⟨none, [], none, .mv 71 (.k (.int .i64 0))⟩]) c_spec_RowsOf_47) (.skip)
def c_spec_RowsOf_62 : VC :=
  .r 10 [⟨none, [], none, .mv 38 (.s 9)⟩,
    ⟨none, [], none, .bin 39 .add (.s 38) (.k (.int .i64 1))⟩,
    ⟨none, [], none, .mv 9 (.s 39)⟩]
def c_spec_RowsOf_40 : VC :=
  .seq (.blk 3 (.seq (.d 11 [(0, ⟨none, [], none, .mv 40 (.s 5)⟩),
    (1, ⟨none, [], none, .mv 41 (.s 9)⟩),
    (2, ⟨none, [], none, .iadr 42 (.s 40) (.s 41) 1⟩),
    (3, ⟨none, [], none, .ld 43 (.s 42) 1 false⟩),
    (4, ⟨none, [], none, .bin 44 .geq (.s 43) (.k (.int .i64 0))⟩),
    (5, ⟨none, [], none, .mv 45 (.s 44)⟩),
    (6, ⟨none, [], some (45, true), .mv 46 (.s 0)⟩),
    (7, ⟨none, [], some (45, true), .mv 47 (.s 9)⟩),
    (8, ⟨none, [], some (45, true), .iadr 48 (.s 46) (.s 47) 3⟩),
    (9, ⟨none, [], some (45, true), .fadv 49 (.s 48) 0⟩),
    (10, ⟨none, [], some (45, true), .ldv 50 (.s 49) 1 false⟩),
    (11, ⟨none, [], some (45, true), .fadv 51 (.s 7) 0⟩),
    (12, ⟨none, [], some (45, true), .ldv 52 (.s 51) 1 false⟩),
    (13, ⟨none, [], some (45, true), .bin 53 .leq (.s 50) (.s 52)⟩),
    (14, ⟨none, [], none, .pick 54 (.s 45) (.s 53) (.k (.bool false))⟩),
    (15, ⟨none, [], none, .mv 55 (.s 54)⟩),
    (16, ⟨none, [], some (55, true), .fadv 56 (.s 7) 0⟩),
    (17, ⟨none, [], some (55, true), .ldv 57 (.s 56) 1 false⟩),
    (18, ⟨none, [], some (55, true), .mv 58 (.s 0)⟩),
    (19, ⟨none, [], some (55, true), .mv 59 (.s 9)⟩),
    (20, ⟨none, [], some (55, true), .iadr 60 (.s 58) (.s 59) 3⟩),
    (21, ⟨none, [], some (55, true), .fadv 61 (.s 60) 1⟩),
    (22, ⟨none, [], some (55, true), .ldv 62 (.s 61) 1 false⟩),
    (23, ⟨none, [], some (55, true), .bin 63 .lss (.s 57) (.s 62)⟩),
    (24, ⟨none, [], none, .pick 64 (.s 55) (.s 63) (.k (.bool false))⟩)]) (.kp [0, 1, 5, 6, 7, 8, 9, 26, 27, 28, 64] c_spec_RowsOf_44))) (.kp [0, 1, 5, 6, 7, 8, 9, 26, 27, 28] c_spec_RowsOf_62)
def c_spec_RowsOf_34 : VC :=
  .seq (.seq (.r 9 [⟨none, [], none, .mv 35 (.s 9)⟩,
    ⟨none, [], none, .mv 36 (.s 6)⟩,
    ⟨none, [], none, .bin 37 .lss (.s 35) (.s 36)⟩]) c_spec_RowsOf_37) c_spec_RowsOf_40
def c_spec_RowsOf_32 : VC :=
  .blk 2 (.loop [0, 1, 5, 6, 7, 8, 9, 26, 27, 28] c_spec_RowsOf_34)
def c_spec_RowsOf_73 : VC :=
  .ite (.s 89) (.skip) (.exit 6)
def c_spec_RowsOf_95 : VC :=
  .r 25 [⟨none, [], none, .mv 98 (.s 13)⟩,
    ⟨none, [], none, .mv 99 (.s 98)⟩,
    ⟨none, [], some (99, true), .mv 100 (.s 8)⟩,
    ⟨none, [], some (99, true), .mv 101 (.s 12)⟩,
    ⟨none, [], some (99, true), .mv 102 (.s 14)⟩,
    ⟨none, [], some (99, true), .bin 103 .add (.s 101) (.s 102)⟩,
    ⟨none, [], some (99, true), .iadr 104 (.s 100) (.s 103) 1⟩,
    ⟨none, [], some (99, true), .ld 105 (.s 104) 1 false⟩,
    ⟨none, [], some (99, true), .un 106 .not (.s 105)⟩,
    ⟨none, [], none, .pick 107 (.s 99) (.s 106) (.k (.bool false))⟩,
    ⟨none, [], none, .mv 13 (.s 107)⟩]
def c_spec_RowsOf_96 : VC :=
  .r 26 [⟨none, [], none, .bin 108 .add (.s 95) (.k (.int .i64 1))⟩,
    ⟨none, [], none, .mv 95 (.s 108)⟩]
def c_spec_RowsOf_91 : VC :=
  .seq (.blk 9 (.seq (.r 24 [⟨none, [], none, .mv 97 (.s 95)⟩,
    ⟨none, [], none, .mv 14 (.s 97)⟩]) c_spec_RowsOf_95)) c_spec_RowsOf_96
def c_spec_RowsOf_87 : VC :=
  .seq (.ite (.s 96) (.skip) (.exit 8)) c_spec_RowsOf_91
def c_spec_RowsOf_85 : VC :=
  .seq (.r 23 [⟨none, [], none, .bin 96 .lss (.s 95) (.s 94)⟩]) c_spec_RowsOf_87
def c_spec_RowsOf_83 : VC :=
  .blk 8 (.loop [0, 1, 5, 7, 8, 11, 12, 13, 26, 27, 28, 94, 95] c_spec_RowsOf_85)
def c_spec_RowsOf_99 : VC :=
  .ite (.s 109) (.r 28 [⟨none, [], none, .mv 110 (.s 12)⟩,
    ⟨none, [], none, .mv 11 (.s 110)⟩]) (.skip)
def c_spec_RowsOf_97 : VC :=
  .seq (.r 27 [⟨none, [], none, .mv 109 (.s 13)⟩]) c_spec_RowsOf_99
def c_spec_RowsOf_80 : VC :=
  .seq (.seq (.r 22 [⟨none, [], none, .fadr 92 (.s 7) 2⟩,
    ⟨none, [], none, .ld 93 (.s 92) 1 false⟩,
    ⟨none, [], none, .len 94 (.s 93)⟩,
    ⟨none, [], none, .mv 95 (.k (.int .i64 0))⟩]) c_spec_RowsOf_83) (.kp [0, 1, 5, 7, 8, 11, 12, 13, 26, 27, 28] c_spec_RowsOf_97)
def c_spec_RowsOf_102 : VC :=
  .r 20 [⟨none, [], none, .mv 90 (.s 12)⟩,
    ⟨none, [], none, .bin 91 .sub (.s 90) (.k (.int .i64 1))⟩,
    ⟨none, [], none, .mv 12 (.s 91)⟩]
def c_spec_RowsOf_76 : VC :=
  .seq (.blk 7 (.seq (.r 21 [⟨none, [], none, .mv 13 (.k (.bool true))⟩]) c_spec_RowsOf_80)) c_spec_RowsOf_102
def c_spec_RowsOf_70 : VC :=
  .seq (.seq (.r 19 [⟨none, [], none, .mv 88 (.s 12)⟩,
    ⟨none, [], none, .bin 89 .geq (.s 88) (.k (.int .i64 0))⟩]) c_spec_RowsOf_73) c_spec_RowsOf_76
def c_spec_RowsOf_68 : VC :=
  .blk 6 (.loop [0, 1, 5, 7, 8, 11, 12, 26, 27, 28] c_spec_RowsOf_70)
def c_spec_RowsOf_103 : VC :=
  .r 29 [⟨none, [], none, .mv 111 (.s 5)⟩,
    ⟨none, [], none, .mv 112 (.s 11)⟩,
    ⟨none, [], none, .lits 113 [.sc] [(.s 112)]⟩,
    ⟨none, [], none, .app 114 (.s 111) (.s 113) [.sc] 17592186044416⟩,
    ⟨none, [], none, .mv 5 (.s 114)⟩]
def c_spec_RowsOf_65 : VC :=
  .seq (.seq (.r 18 [⟨none, [], none, .mv 83 (.s 1)⟩,
    ⟨none, [], none, .fadr 84 (.s 7) 2⟩,
    ⟨none, [], none, .ld 85 (.s 84) 1 false⟩,
    ⟨none, [], none, .len 86 (.s 85)⟩,
    ⟨none, [], none, .bin 87 .sub (.s 83) (.s 86)⟩,
    ⟨none, [], none, .mv 12 (.s 87)⟩]) c_spec_RowsOf_68) (.kp [0, 1, 5, 11, 26, 27, 28] c_spec_RowsOf_103)
def c_spec_RowsOf_63 : VC :=
  .seq (.r 17 [⟨none, [], none, .mv 11 (.k (.int .i64 (-1)))⟩]) c_spec_RowsOf_65
def c_spec_RowsOf_29 : VC :=
  .seq (.seq (.r 8 [⟨none, [], none, .mv 9 (.k (.int .i64 0))⟩]) c_spec_RowsOf_32) (.kp [0, 1, 5, 7, 8, 26, 27, 28] c_spec_RowsOf_63)
def c_spec_RowsOf_27 : VC :=
  .seq (.r 7 [⟨none, [], none, .mv 33 (.s 1)⟩,
    ⟨none, [], none, .mk 34 (.s 33) [.sc] [(.bool false)] 140737488355328⟩,
    ⟨none, [], none, .mv 8 (.s 34)⟩]) c_spec_RowsOf_29
def c_spec_RowsOf_104 : VC :=
  .r 30 [⟨none, [], none, .bin 115 .add (.s 28) (.k (.int .i64 1))⟩,
    ⟨none, [], none, .mv 28 (.s 115)⟩]
def c_spec_RowsOf_23 : VC :=
  .seq (.blk 1 (.seq (.r 6 [⟨none, [], none, .mv 30 (.s 28)⟩,
    ⟨none, [], none, .iadr 31 (.s 26) (.s 28) 3⟩,
    ⟨none, [], none, .ld 32 (.s 31) 3 true⟩,
    ⟨none, [], none, .alloc 7 [.k (.int .i64 0), .k (.int .i64 0), .o [.sc]]⟩,
    ⟨none, [], none, .mv 6 (.s 30)⟩,
    ⟨none, [], none, .st (.s 7) (.s 32) 3⟩]) c_spec_RowsOf_27)) c_spec_RowsOf_104
def c_spec_RowsOf_19 : VC :=
  .seq (.ite (.s 29) (.skip) (.exit 0)) c_spec_RowsOf_23
def c_spec_RowsOf_17 : VC :=
  .seq (.r 5 [⟨none, [], none, .bin 29 .lss (.s 28) (.s 27)⟩]) c_spec_RowsOf_19
def c_spec_RowsOf_15 : VC :=
  .blk 0 (.loop [0, 1, 5, 26, 27, 28] c_spec_RowsOf_17)
def c_spec_RowsOf_105 : VC :=
  .seq (.r 31 [⟨none, [], none, .mv 116 (.s 5)⟩,
    ⟨none, [], none, .mv 4 (.s 116)⟩]) (.ret)
def c_spec_RowsOf_12 : VC :=
  .seq (.seq (.r 4 [⟨none, [], none, .mv 26 (.s 0)⟩,
    ⟨none, [], none, .len 27 (.s 26)⟩,
    ⟨none, [], none, .mv 28 (.k (.int .i64 0))⟩]) c_spec_RowsOf_15) (.kp [5] c_spec_RowsOf_105)
def c_spec_RowsOf_10 : VC :=
  .seq (.r 3 [⟨none, [], none, .nil 5 [.sc]⟩]) c_spec_RowsOf_12
def c_spec_RowsOf_2 : VC :=
  .seq (.seq (.r 1 [⟨none, [], none, .mv 15 (.s 0)⟩,
    ⟨none, [], none, .call 16 27 [(.s 15)]⟩,
    ⟨none, [], none, .un 17 .not (.s 16)⟩,
    ⟨none, [], none, .mv 18 (.s 17)⟩,
    ⟨none, [], some (18, false), .mv 19 (.s 1)⟩,
    ⟨none, [], some (18, false), .bin 20 .lss (.s 19) (.k (.int .i64 1))⟩,
    ⟨none, [], none, .pick 21 (.s 18) (.k (.bool true)) (.s 20)⟩,
    ⟨none, [], none, .mv 22 (.s 21)⟩,
    ⟨none, [], some (22, false), .mv 23 (.s 1)⟩,
    ⟨none, [], some (22, false), .bin 24 .gtr (.s 23) (.k (.int .i64 100))⟩,
    ⟨none, [], none, .pick 25 (.s 22) (.k (.bool true)) (.s 24)⟩]) c_spec_RowsOf_5) c_spec_RowsOf_10
def c_spec_RowsOf_0 : VC :=
  .seq (.r 0 [⟨none, [], none, .nil 4 [.sc]⟩]) c_spec_RowsOf_2
def vf_spec_RowsOf : VF := { pm := [.ro [.ro [.sc, .sc, .ro [.sc]]], .ro [.sc]], rm := [.v [.own [.sc]]], nslots := 117, res := [4], rc := [], code := .kp [0, 1] c_spec_RowsOf_0 }
def c_impl_ztime_2 : VC :=
  .seq (.r 1 [⟨none, [], none, .mv 3 (.s 0)⟩,
    ⟨none, [], none, .bin 4 .geq (.s 3) (.k (.int .i64 0))⟩,
    ⟨none, [], none, .mv 5 (.s 4)⟩,
    ⟨none, [], some (5, true), .mv 6 (.s 0)⟩,
    ⟨none, [], some (5, true), .bin 7 .leq (.s 6) (.k (.int .i64 359999999))⟩,
    ⟨none, [], none, .pick 8 (.s 5) (.s 7) (.k (.bool false))⟩,
    ⟨none, [], none, .mv 2 (.s 8)⟩]) (.ret)
def c_impl_ztime_0 : VC :=
  .seq (.r 0 [⟨none, [], none, .mv 2 (.k (.bool false))⟩]) c_impl_ztime_2
def vf_impl_ztime : VF := { pm := [.ro [.sc]], rm := [.v [.sc]], nslots := 9, res := [2], rc := [], code := .kp [0] c_impl_ztime_0 }
def ex_strings_Contains (ars : List Arg) : Option FRes := match ars with | [.v false [.lit (.string p0)], .v false [.lit (.string p1)]] => (gContains p0 p1).map fun r => ⟨[.v false [.lit (.bool r)]], []⟩ | _ => none
def vf_strings_Contains : VF := { given := true, pm := [.ro [.sc], .ro [.sc]], rm := [.v [.sc]], nslots := 3, res := [2], rc := [], code := .skip }
def c_impl_zcueLine_19 : VC :=
  .ite (.s 18) (.seq (.r 5 [⟨none, [], none, .mv 2 (.k (.int .i64 4))⟩]) (.ret)) (.skip)
def c_impl_zcueLine_17 : VC :=
  .seq (.r 4 [⟨none, [], none, .mv 9 (.s 0)⟩,
    ⟨none, [], none, .mv 10 (.s 3)⟩,
    ⟨none, [], none, .idx 11 (.s 9) (.s 10)⟩,
    ⟨none, [], none, .bin 12 .lss (.s 11) (.k (.int .u8 32))⟩,
    ⟨none, [], none, .mv 13 (.s 12)⟩,
    ⟨none, [], some (13, false), .mv 14 (.s 0)⟩,
    ⟨none, [], some (13, false), .mv 15 (.s 3)⟩,
    ⟨none, [], some (13, false), .idx 16 (.s 14) (.s 15)⟩,
    ⟨none, [], some (13, false), .bin 17 .gtr (.s 16) (.k (.int .u8 126))⟩,
    ⟨none, [], none, .pick 18 (.s 13) (.k (.bool true)) (.s 17)⟩]) c_impl_zcueLine_19
def c_impl_zcueLine_24 : VC :=
  .r 6 [⟨none, [], none, .bin 19 .add (.s 6) (.k (.int .i64 1))⟩,
    ⟨none, [], none, .mv 6 (.s 19)⟩]
def c_impl_zcueLine_13 : VC :=
  .seq (.blk 1 (.seq (.r 3 [⟨none, [], none, .mv 8 (.s 6)⟩,
    ⟨none, [], none, .mv 3 (.s 8)⟩]) c_impl_zcueLine_17)) c_impl_zcueLine_24
def c_impl_zcueLine_9 : VC :=
  .seq (.ite (.s 7) (.skip) (.exit 0)) c_impl_zcueLine_13
def c_impl_zcueLine_7 : VC :=
  .seq (.r 2 [⟨none, [], none, .bin 7 .lss (.s 6) (.s 5)⟩]) c_impl_zcueLine_9
def c_impl_zcueLine_5 : VC :=
  .blk 0 (.loop [0, 5, 6] c_impl_zcueLine_7)
def c_impl_zcueLine_28 : VC :=
  .ite (.s 21) (.seq (.r 8 [⟨none, [], none, .mv 2 (.k (.int .i64 4))⟩]) (.ret)) (.skip)
def c_impl_zcueLine_36 : VC :=
  .ite (.s 24) (.seq (.r 10 [⟨none, [], none, .mv 2 (.k (.int .i64 7))⟩]) (.ret)) (.skip)
def c_impl_zcueLine_41 : VC :=
  .seq (.r 11 [⟨none, [], none, .mv 2 (.k (.int .i64 0))⟩]) (.ret)
def c_impl_zcueLine_33 : VC :=
  .seq (.seq (.r 9 [⟨none, [], none, .mv 22 (.s 0)⟩,
    ⟨none, [], none, .slen 23 (.s 22)⟩,
    ⟨none, [], none, .bin 24 .gtr (.s 23) (.k (.int .i64 80))⟩]) c_impl_zcueLine_36) c_impl_zcueLine_41
def c_impl_zcueLine_25 : VC :=
  .seq (.seq (.r 7 [⟨none, [], none, .mv 20 (.s 0)⟩,
    ⟨none, [], none, .call 21 53 [(.s 20), (.k (.string (ByteArray.mk #[45, 45, 62])))]⟩]) c_impl_zcueLine_28) c_impl_zcueLine_33
def c_impl_zcueLine_2 : VC :=
  .seq (.seq (.r 1 [⟨none, [], none, .mv 4 (.s 0)⟩,
    ⟨none, [], none, .slen 5 (.s 4)⟩,
    ⟨none, [], none, .mv 6 (.k (.int .i64 0))⟩]) c_impl_zcueLine_5) (.kp [0] c_impl_zcueLine_25)
def c_impl_zcueLine_0 : VC :=
  .seq (.r 0 [⟨none, [], none, .mv 2 (.k (.int .i64 0))⟩]) c_impl_zcueLine_2
def vf_impl_zcueLine : VF := { pm := [.ro [.sc]], rm := [.v [.sc]], nslots := 25, res := [2], rc := [], code := .kp [0] c_impl_zcueLine_0 }
def c_impl_zcue_5 : VC :=
  .ite (.s 14) (.seq (.r 2 [⟨none, [], none, .mv 2 (.k (.bool false))⟩]) (.ret)) (.skip)
def c_impl_zcue_27 : VC :=
  .ite (.s 36) (.seq (.r 7 [⟨none, [], none, .mv 2 (.k (.bool false))⟩]) (.ret)) (.skip)
def c_impl_zcue_25 : VC :=
  .seq (.r 6 [⟨none, [], none, .mv 22 (.s 4)⟩,
    ⟨none, [], none, .bin 23 .eql (.s 22) (.k (.string (ByteArray.mk #[])))⟩,
    ⟨none, [], none, .mv 24 (.s 23)⟩,
    ⟨none, [], some (24, false), .mv 25 (.s 4)⟩,
    ⟨none, [], some (24, false), .mv 26 (.s 4)⟩,
    ⟨none, [], some (24, false), .slen 27 (.s 26)⟩,
    ⟨none, [], some (24, false), .bin 28 .sub (.s 27) (.k (.int .i64 1))⟩,
    ⟨none, [], some (24, false), .idx 29 (.s 25) (.s 28)⟩,
    ⟨none, [], some (24, false), .bin 30 .eql (.s 29) (.k (.int .u8 32))⟩,
    ⟨none, [], none, .pick 31 (.s 24) (.k (.bool true)) (.s 30)⟩,
    ⟨none, [], none, .mv 32 (.s 31)⟩,
    ⟨none, [], some (32, false), .mv 33 (.s 4)⟩,
    ⟨none, [], some (32, false), .call 34 49 [(.s 33)]⟩,
    ⟨none, [], some (32, false), .bin 35 .neq (.s 34) (.k (.int .i64 0))⟩,
    ⟨none, [], none, .pick 36 (.s 32) (.k (.bool true)) (.s 35)⟩]) c_impl_zcue_27
def c_impl_zcue_32 : VC :=
  .r 8 [⟨none, [], none, .bin 37 .add (.s 18) (.k (.int .i64 1))⟩,
    ⟨none, [], none, .mv 18 (.s 37)⟩]
def c_impl_zcue_21 : VC :=
  .seq (.blk 1 (.seq (.r 5 [⟨none, [], none, .iadr 20 (.s 16) (.s 18) 1⟩,
    ⟨none, [], none, .ld 21 (.s 20) 1 false⟩,
    ⟨none, [], none, .mv 4 (.s 21)⟩]) c_impl_zcue_25)) c_impl_zcue_32
def c_impl_zcue_17 : VC :=
  .seq (.ite (.s 19) (.skip) (.exit 0)) c_impl_zcue_21
def c_impl_zcue_15 : VC :=
  .seq (.r 4 [⟨none, [], none, .bin 19 .lss (.s 18) (.s 17)⟩]) c_impl_zcue_17
def c_impl_zcue_13 : VC :=
  .blk 0 (.loop [16, 17, 18] c_impl_zcue_15)
def c_impl_zcue_33 : VC :=
  .seq (.r 9 [⟨none, [], none, .mv 2 (.k (.bool true))⟩]) (.ret)
def c_impl_zcue_10 : VC :=
  .seq (.seq (.r 3 [⟨none, [], none, .fadr 15 (.s 1) 2⟩,
    ⟨none, [], none, .ld 16 (.s 15) 1 false⟩,
    ⟨none, [], none, .len 17 (.s 16)⟩,
    ⟨none, [], none, .mv 18 (.k (.int .i64 0))⟩]) c_impl_zcue_13) (.kp [] c_impl_zcue_33)
def c_impl_zcue_2 : VC :=
  .seq (.seq (.r 1 [⟨none, [], none, .fadr 5 (.s 1) 2⟩,
    ⟨none, [], none, .ld 6 (.s 5) 1 false⟩,
    ⟨none, [], none, .len 7 (.s 6)⟩,
    ⟨none, [], none, .bin 8 .lss (.s 7) (.k (.int .i64 1))⟩,
    ⟨none, [], none, .mv 9 (.s 8)⟩,
    ⟨none, [], some (9, false), .fadr 10 (.s 1) 2⟩,
    ⟨none, [], some (9, false), .ld 11 (.s 10) 1 false⟩,
    ⟨none, [], some (9, false), .len 12 (.s 11)⟩,
    ⟨none, [], some (9, false), .bin 13 .gtr (.s 12) (.k (.int .i64 4))⟩,
    ⟨none, [], none, .pick 14 (.s 9) (.k (.bool true)) (.s 13)⟩]) c_impl_zcue_5) c_impl_zcue_10
def c_impl_zcue_0 : VC :=
  .seq (.r 0 [⟨none, [], none, .box 1 (.s 0)⟩,
    ⟨none, [], none, .mv 2 (.k (.bool false))⟩]) c_impl_zcue_2
def vf_impl_zcue : VF := { pm := [.ro [.sc, .sc, .ro [.sc]]], rm := [.v [.sc]], nslots := 38, res := [2], rc := [], code := .kp [0] c_impl_zcue_0 }
def c_impl_GoodCues_5 : VC :=
  .ite (.s 7) (.seq (.r 2 [⟨none, [], none, .mv 2 (.k (.bool false))⟩]) (.ret)) (.skip)
def c_impl_GoodCues_27 : VC :=
  .ite (.s 51) (.seq (.r 7 [⟨none, [], none, .mv 2 (.k (.bool false))⟩]) (.ret)) (.skip)
def c_impl_GoodCues_25 : VC :=
  .seq (.d 6 [(0, ⟨none, [], none, .fadv 15 (.s 4) 0⟩),
    (1, ⟨none, [], none, .ldv 16 (.s 15) 1 false⟩),
    (2, ⟨none, [], none, .call 17 35 [(.s 16)]⟩),
    (3, ⟨none, [], none, .un 18 .not (.s 17)⟩),
    (4, ⟨none, [], none, .mv 19 (.s 18)⟩),
    (5, ⟨none, [], some (19, false), .fadv 20 (.s 4) 1⟩),
    (6, ⟨none, [], some (19, false), .ldv 21 (.s 20) 1 false⟩),
    (7, ⟨none, [], some (19, false), .call 22 35 [(.s 21)]⟩),
    (8, ⟨none, [], some (19, false), .un 23 .not (.s 22)⟩),
    (9, ⟨none, [], none, .pick 24 (.s 19) (.k (.bool true)) (.s 23)⟩),
    (10, ⟨none, [], none, .mv 25 (.s 24)⟩),
    (11, ⟨none, [], some (25, false), .fadv 26 (.s 4) 0⟩),
    (12, ⟨none, [], some (25, false), .ldv 27 (.s 26) 1 false⟩),
    (13, ⟨none, [], some (25, false), .fadv 28 (.s 4) 1⟩),
    (14, ⟨none, [], some (25, false), .ldv 29 (.s 28) 1 false⟩),
    (15, ⟨none, [], some (25, false), .bin 30 .geq (.s 27) (.s 29)⟩),
    (16, ⟨none, [], none, .pick 31 (.s 25) (.k (.bool true)) (.s 30)⟩),
    (17, ⟨none, [], none, .mv 32 (.s 31)⟩),
    (18, ⟨none, [], some (32, false), .ldv 33 (.s 4) 3 true⟩),
    (19, ⟨none, [], some (32, false), .call 34 41 [(.s 33)]⟩),
    (20, ⟨none, [], some (32, false), .un 35 .not (.s 34)⟩),
    (21, ⟨none, [], none, .pick 36 (.s 32) (.k (.bool true)) (.s 35)⟩),
    (22, ⟨none, [], none, .mv 37 (.s 36)⟩),
    (23, ⟨none, [], some (37, false), .mv 38 (.s 3)⟩),
    (24, ⟨none, [], some (37, false), .bin 39 .gtr (.s 38) (.k (.int .i64 0))⟩),
    (25, ⟨none, [], some (37, false), .mv 40 (.s 39)⟩),
    (26, ⟨none, [], some (40, true), .fadv 41 (.s 4) 0⟩),
    (27, ⟨none, [], some (40, true), .ldv 42 (.s 41) 1 false⟩),
    (28, ⟨none, [], some (40, true), .mv 43 (.s 0)⟩),
    (29, ⟨none, [], some (40, true), .mv 44 (.s 3)⟩),
    (30, ⟨none, [], some (40, true), .bin 45 .sub (.s 44) (.k (.int .i64 1))⟩),
    (31, ⟨none, [], some (40, true), .iadr 46 (.s 43) (.s 45) 3⟩),
    (32, ⟨none, [], some (40, true), .fadv 47 (.s 46) 0⟩),
    (33, ⟨none, [], some (40, true), .ldv 48 (.s 47) 1 false⟩),
    (34, ⟨none, [], some (40, true), .bin 49 .lss (.s 42) (.s 48)⟩),
    (35, ⟨none, [], some (37, false), .pick 50 (.s 40) (.s 49) (.k (.bool false))⟩),
    (36, ⟨none, [], none, .pick 51 (.s 37) (.k (.bool true)) (.s 50)⟩)]) c_impl_GoodCues_27
def c_impl_GoodCues_32 : VC :=
  .r 8 [⟨none, [], none, .bin 52 .add (.s 10) (.k (.int .i64 1))⟩,
    ⟨none, [], none, .mv 10 (.s 52)⟩]
def c_impl_GoodCues_21 : VC :=
  .seq (.blk 1 (.seq (.r 5 [⟨none, [], none, .mv 12 (.s 10)⟩,
    ⟨none, [], none, .iadr 13 (.s 8) (.s 10) 3⟩,
    ⟨none, [], none, .ld 14 (.s 13) 3 true⟩,
    ⟨none, [], none, .alloc 4 [.k (.int .i64 0), .k (.int .i64 0), .o [.sc]]⟩,
    ⟨none, [], none, .mv 3 (.s 12)⟩,
    ⟨none, [], none, .st (.s 4) (.s 14) 3⟩]) c_impl_GoodCues_25)) c_impl_GoodCues_32
def c_impl_GoodCues_17 : VC :=
  .seq (.ite (.s 11) (.skip) (.exit 0)) c_impl_GoodCues_21
def c_impl_GoodCues_15 : VC :=
  .seq (.r 4 [⟨none, [], none, .bin 11 .lss (.s 10) (.s 9)⟩]) c_impl_GoodCues_17
def c_impl_GoodCues_13 : VC :=
  .blk 0 (.loop [0, 8, 9, 10] c_impl_GoodCues_15)
def c_impl_GoodCues_33 : VC :=
  .seq (.r 9 [⟨none, [], none, .mv 2 (.k (.bool true))⟩]) (.ret)
def c_impl_GoodCues_10 : VC :=
  .seq (.seq (.r 3 [⟨none, [], none, .mv 8 (.s 0)⟩,
    ⟨none, [], none, .len 9 (.s 8)⟩,
    ⟨none, [], none, .mv 10 (.k (.int .i64 0))⟩]) c_impl_GoodCues_13) (.kp [] c_impl_GoodCues_33)
def c_impl_GoodCues_2 : VC :=
  .seq (.seq (.r 1 [⟨none, [], none, .mv 5 (.s 0)⟩,
    ⟨none, [], none, .len 6 (.s 5)⟩,
    ⟨none, [], none, .bin 7 .gtr (.s 6) (.k (.int .i64 200))⟩]) c_impl_GoodCues_5) c_impl_GoodCues_10
def c_impl_GoodCues_0 : VC :=
  .seq (.r 0 [⟨none, [], none, .mv 2 (.k (.bool false))⟩]) c_impl_GoodCues_2
def vf_impl_GoodCues : VF := { pm := [.ro [.ro [.sc, .sc, .ro [.sc]]]], rm := [.v [.sc]], nslots := 53, res := [2], rc := [], code := .kp [0] c_impl_GoodCues_0 }
def c_impl_RowsOf_5 : VC :=
  .ite (.s 25) (.seq (.r 2 [⟨none, [], none, .nil 4 [.sc]⟩]) (.ret)) (.skip)
def c_impl_RowsOf_61 : VC :=
  .r 15 [⟨none, [], none, .mv 73 (.s 8)⟩,
    ⟨none, [], none, .mv 74 (.s 5)⟩,
    ⟨none, [], none, .mv 75 (.s 9)⟩,
    ⟨none, [], none, .iadr 76 (.s 74) (.s 75) 1⟩,
    ⟨none, [], none, .ld 77 (.s 76) 1 false⟩,
    ⟨none, [], none, .mv 78 (.s 10)⟩,
    ⟨none, [], none, .bin 79 .add (.s 77) (.s 78)⟩,
    ⟨none, [], none, .iadr 80 (.s 73) (.s 79) 1⟩,
    ⟨none, [], none, .st (.s 80) (.k (.bool true)) 1⟩]
def c_impl_RowsOf_62 : VC :=
  .r 16 [⟨none, [], none, .bin 81 .add (.s 70) (.k (.int .i64 1))⟩,
    ⟨none, [], none, .mv 70 (.s 81)⟩]
def c_impl_RowsOf_57 : VC :=
  .seq (.blk 5 (.seq (.r 14 [⟨none, [], none, .mv 72 (.s 70)⟩,
    ⟨none, [], none, .mv 10 (.s 72)⟩]) c_impl_RowsOf_61)) c_impl_RowsOf_62
def c_impl_RowsOf_53 : VC :=
  .seq (.ite (.s 71) (.skip) (.exit 4)) c_impl_RowsOf_57
def c_impl_RowsOf_51 : VC :=
  .seq (.r 13 [⟨none, [], none, .bin 71 .lss (.s 70) (.s 69)⟩]) c_impl_RowsOf_53
def c_impl_RowsOf_49 : VC :=
  .blk 4 (.loop [0, 1, 5, 7, 8, 9, 26, 27, 28, 35, 36, 69, 70] c_impl_RowsOf_51)
def c_impl_RowsOf_46 : VC :=
  .ite (.s 63) (.seq (.r 12 [⟨none, [], none, .mv 64 (.s 0)⟩,
    ⟨none, [], none, .mv 65 (.s 9)⟩,
    ⟨none, [], none, .iadr 66 (.s 64) (.s 65) 3⟩,
    ⟨none, [], none, .fadr 67 (.s 66) 2⟩,
    ⟨none, [], none, .ld 68 (.s 67) 1 false⟩,
    ⟨none, [], none, .len 69 (.s 68)⟩,
    ⟨none, [], none, .mv 70 (.k (.int .i64 0))⟩]) c_impl_RowsOf_49) (.skip)
def c_impl_RowsOf_44 : VC :=
  .seq (.d 11 [(0, ⟨none, [], none, .mv 39 (.s 5)⟩),
    (1, ⟨none, [], none, .mv 40 (.s 9)⟩),
    (2, ⟨none, [], none, .iadr 41 (.s 39) (.s 40) 1⟩),
    (3, ⟨none, [], none, .ld 42 (.s 41) 1 false⟩),
    (4, ⟨none, [], none, .bin 43 .geq (.s 42) (.k (.int .i64 0))⟩),
    (5, ⟨none, [], none, .mv 44 (.s 43)⟩),
    (6, ⟨none, [], some (44, true), .mv 45 (.s 0)⟩),
    (7, ⟨none, [], some (44, true), .mv 46 (.s 9)⟩),
    (8, ⟨none, [], some (44, true), .iadr 47 (.s 45) (.s 46) 3⟩),
    (9, ⟨none, [], some (44, true), .fadv 48 (.s 47) 0⟩),
    (10, ⟨none, [], some (44, true), .ldv 49 (.s 48) 1 false⟩),
    (11, ⟨none, [], some (44, true), .fadv 50 (.s 7) 0⟩),
    (12, ⟨none, [], some (44, true), .ldv 51 (.s 50) 1 false⟩),
    (13, ⟨none, [], some (44, true), .bin 52 .leq (.s 49) (.s 51)⟩),
    (14, ⟨none, [], none, .pick 53 (.s 44) (.s 52) (.k (.bool false))⟩),
    (15, ⟨none, [], none, .mv 54 (.s 53)⟩),
    (16, ⟨none, [], some (54, true), .fadv 55 (.s 7) 0⟩),
    (17, ⟨none, [], some (54, true), .ldv 56 (.s 55) 1 false⟩),
    (18, ⟨none, [], some (54, true), .mv 57 (.s 0)⟩),
    (19, ⟨none, [], some (54, true), .mv 58 (.s 9)⟩),
    (20, ⟨none, [], some (54, true), .iadr 59 (.s 57) (.s 58) 3⟩),
    (21, ⟨none, [], some (54, true), .fadv 60 (.s 59) 1⟩),
    (22, ⟨none, [], some (54, true), .ldv 61 (.s 60) 1 false⟩),
    (23, ⟨none, [], some (54, true), .bin 62 .lss (.s 56) (.s 61)⟩),
    (24, ⟨none, [], none, .pick 63 (.s 54) (.s 62) (.k (.bool false))⟩)]) (.kp [0, 1, 5, 7, 8, 9, 26, 27, 28, 35, 36, 63] c_impl_RowsOf_46)
def c_impl_RowsOf_64 : VC :=
  .r 17 [⟨none, [], none, .bin 82 .add (.s 36) (.k (.int .i64 1))⟩,
    ⟨none, [], none, .mv 36 (.s 82)⟩]
def c_impl_RowsOf_40 : VC :=
  .seq (.blk 3 (.seq (.r 10 [⟨none, [], none, .mv 38 (.s 36)⟩,
    ⟨none, [], none, .mv 9 (.s 38)⟩]) c_impl_RowsOf_44)) (.kp [0, 1, 5, 7, 8, 26, 27, 28, 35, 36] c_impl_RowsOf_64)
def c_impl_RowsOf_36 : VC :=
  .seq (.ite (.s 37) (.skip) (.exit 2)) c_impl_RowsOf_40
def c_impl_RowsOf_34 : VC :=
  .seq (.r 9 [⟨none, [], none, .bin 37 .lss (.s 36) (.s 35)⟩]) c_impl_RowsOf_36
def c_impl_RowsOf_32 : VC :=
  .blk 2 (.loop [0, 1, 5, 7, 8, 26, 27, 28, 35, 36] c_impl_RowsOf_34)
def c_impl_RowsOf_75 : VC :=
  .ite (.s 93) (.skip) (.exit 6)
def c_impl_RowsOf_97 : VC :=
  .r 26 [⟨none, [], none, .mv 102 (.s 13)⟩,
    ⟨none, [], none, .mv 103 (.s 102)⟩,
    ⟨none, [], some (103, true), .mv 104 (.s 8)⟩,
    ⟨none, [], some (103, true), .mv 105 (.s 12)⟩,
    ⟨none, [], some (103, true), .mv 106 (.s 14)⟩,
    ⟨none, [], some (103, true), .bin 107 .add (.s 105) (.s 106)⟩,
    ⟨none, [], some (103, true), .iadr 108 (.s 104) (.s 107) 1⟩,
    ⟨none, [], some (103, true), .ld 109 (.s 108) 1 false⟩,
    ⟨none, [], some (103, true), .un 110 .not (.s 109)⟩,
    ⟨none, [], none, .pick 111 (.s 103) (.s 110) (.k (.bool false))⟩,
    ⟨none, [], none, .mv 13 (.s 111)⟩]
def c_impl_RowsOf_98 : VC :=
  .r 27 [⟨none, [], none, .bin 112 .add (.s 99) (.k (.int .i64 1))⟩,
    ⟨none, [], none, .mv 99 (.s 112)⟩]
def c_impl_RowsOf_93 : VC :=
  .seq (.blk 9 (.seq (.r 25 [⟨none, [], none, .mv 101 (.s 99)⟩,
    ⟨none, [], none, .mv 14 (.s 101)⟩]) c_impl_RowsOf_97)) c_impl_RowsOf_98
def c_impl_RowsOf_89 : VC :=
  .seq (.ite (.s 100) (.skip) (.exit 8)) c_impl_RowsOf_93
def c_impl_RowsOf_87 : VC :=
  .seq (.r 24 [⟨none, [], none, .bin 100 .lss (.s 99) (.s 98)⟩]) c_impl_RowsOf_89
def c_impl_RowsOf_85 : VC :=
  .blk 8 (.loop [0, 1, 5, 7, 8, 11, 12, 13, 26, 27, 28, 98, 99] c_impl_RowsOf_87)
def c_impl_RowsOf_101 : VC :=
  .ite (.s 113) (.r 29 [⟨none, [], none, .mv 114 (.s 12)⟩,
    ⟨none, [], none, .mv 11 (.s 114)⟩]) (.skip)
def c_impl_RowsOf_99 : VC :=
  .seq (.r 28 [⟨none, [], none, .mv 113 (.s 13)⟩]) c_impl_RowsOf_101
def c_impl_RowsOf_82 : VC :=
  .seq (.seq (.r 23 [⟨none, [], none, .fadr 96 (.s 7) 2⟩,
    ⟨none, [], none, .ld 97 (.s 96) 1 false⟩,
    ⟨none, [], none, .len 98 (.s 97)⟩,
    ⟨none, [], none, .mv 99 (.k (.int .i64 0))⟩]) c_impl_RowsOf_85) (.kp [0, 1, 5, 7, 8, 11, 12, 13, 26, 27, 28] c_impl_RowsOf_99)
def c_impl_RowsOf_104 : VC :=
  .r 21 [⟨none, [], none, .mv 94 (.s 12)⟩,
    ⟨none, [], none, .bin 95 .add (.s 94) (.k (.int .i64 1))⟩,
    ⟨none, [], none, .mv 12 (.s 95)⟩]
def c_impl_RowsOf_78 : VC :=
  .seq (.blk 7 (.seq (.r 22 [⟨none, [], none, .mv 13 (.k (.bool true))⟩]) c_impl_RowsOf_82)) c_impl_RowsOf_104
def c_impl_RowsOf_72 : VC :=
  .seq (.seq (.r 20 [⟨none, [], none, .mv 83 (.s 12)⟩,
    ⟨none, [], none, .fadr 84 (.s 7) 2⟩,
    ⟨none, [], none, .ld 85 (.s 84) 1 false⟩,
    ⟨none, [], none, .len 86 (.s 85)⟩,
    ⟨none, [], none, .bin 87 .add (.s 83) (.s 86)⟩,
    ⟨none, [], none, .mv 88 (.s 1)⟩,
    ⟨none, [], none, .bin 89 .leq (.s 87) (.s 88)⟩,
    ⟨none, [], none, .mv 90 (.s 89)⟩,
    ⟨none, [], some (90, true), .mv 91 (.s 11)⟩,
    ⟨none, [], some (90, true), .bin 92 .lss (.s 91) (.k (.int .i64 0))⟩,
    ⟨none, [], none, .pick 93 (.s 90) (.s 92) (.k (.bool false))⟩]) c_impl_RowsOf_75) c_impl_RowsOf_78
def c_impl_RowsOf_70 : VC :=
  .blk 6 (.loop [0, 1, 5, 7, 8, 11, 12, 26, 27, 28] c_impl_RowsOf_72)
def c_impl_RowsOf_105 : VC :=
  .r 30 [⟨none, [], none, .mv 115 (.s 5)⟩,
    ⟨none, [], none, .mv 116 (.s 11)⟩,
    ⟨none, [], none, .lits 117 [.sc] [(.s 116)]⟩,
    ⟨none, [], none, .app 118 (.s 115) (.s 117) [.sc] 17592186044416⟩,
    ⟨none, [], none, .mv 5 (.s 118)⟩]
def c_impl_RowsOf_67 : VC :=
  .seq (.seq (.r 19 [⟨none, [], none, .mv 12 (.k (.int .i64 0))⟩]) c_impl_RowsOf_70) (.kp [0, 1, 5, 11, 26, 27, 28] c_impl_RowsOf_105)
def c_impl_RowsOf_65 : VC :=
  .seq (.r 18 [⟨none, [], none, .mv 11 (.k (.int .i64 (-1)))⟩]) c_impl_RowsOf_67
def c_impl_RowsOf_29 : VC :=
  .seq (.seq (.r 8 [⟨none, [], none, .mv 35 (.s 6)⟩,
    ⟨none, [], none, .mv 36 (.k (.int .i64 0))⟩]) c_impl_RowsOf_32) (.kp [0, 1, 5, 7, 8, 26, 27, 28] c_impl_RowsOf_65)
def c_impl_RowsOf_27 : VC :=
  .seq (.r 7 [⟨none, [], none, .mv 33 (.s 1)⟩,
    ⟨none, [], none, .mk 34 (.s 33) [.sc] [(.bool false)] 140737488355328⟩,
    ⟨none, [], none, .mv 8 (.s 34)⟩]) c_impl_RowsOf_29
def c_impl_RowsOf_106 : VC :=
  .r 31 [⟨none, [], none, .bin 119 .add (.s 28) (.k (.int .i64 1))⟩,
    ⟨none, [], none, .mv 28 (.s 119)⟩]
def c_impl_RowsOf_23 : VC :=
  .seq (.blk 1 (.seq (.r 6 [⟨none, [], none, .mv 30 (.s 28)⟩,
    ⟨none, [], none, .iadr 31 (.s 26) (.s 28) 3⟩,
    ⟨none, [], none, .ld 32 (.s 31) 3 true⟩,
    ⟨none, [], none, .alloc 7 [.k (.int .i64 0), .k (.int .i64 0), .o [.sc]]⟩,
    ⟨none, [], none, .mv 6 (.s 30)⟩,
    ⟨none, [], none, .st (.s 7) (.s 32) 3⟩]) c_impl_RowsOf_27)) c_impl_RowsOf_106
def c_impl_RowsOf_19 : VC :=
  .seq (.ite (.s 29) (.skip) (.exit 0)) c_impl_RowsOf_23
def c_impl_RowsOf_17 : VC :=
  .seq (.r 5 [⟨none, [], none, .bin 29 .lss (.s 28) (.s 27)⟩]) c_impl_RowsOf_19
def c_impl_RowsOf_15 : VC :=
  .blk 0 (.loop [0, 1, 5, 26, 27, 28] c_impl_RowsOf_17)
def c_impl_RowsOf_107 : VC :=
  .seq (.r 32 [⟨none, [], none, .mv 120 (.s 5)⟩,
    ⟨none, [], none, .mv 4 (.s 120)⟩]) (.ret)
def c_impl_RowsOf_12 : VC :=
  .seq (.seq (.r 4 [⟨none, [], none, .mv 26 (.s 0)⟩,
    ⟨none, [], none, .len 27 (.s 26)⟩,
    ⟨none, [], none, .mv 28 (.k (.int .i64 0))⟩]) c_impl_RowsOf_15) (.kp [5] c_impl_RowsOf_107)
def c_impl_RowsOf_10 : VC :=
  .seq (.r 3 [⟨none, [], none, .nil 5 [.sc]⟩]) c_impl_RowsOf_12
def c_impl_RowsOf_2 : VC :=
  .seq (.seq (.r 1 [⟨none, [], none, .mv 15 (.s 0)⟩,
    ⟨none, [], none, .call 16 26 [(.s 15)]⟩,
    ⟨none, [], none, .un 17 .not (.s 16)⟩,
    ⟨none, [], none, .mv 18 (.s 17)⟩,
    ⟨none, [], some (18, false), .mv 19 (.s 1)⟩,
    ⟨none, [], some (18, false), .bin 20 .lss (.s 19) (.k (.int .i64 1))⟩,
    ⟨none, [], none, .pick 21 (.s 18) (.k (.bool true)) (.s 20)⟩,
    ⟨none, [], none, .mv 22 (.s 21)⟩,
    ⟨none, [], some (22, false), .mv 23 (.s 1)⟩,
    ⟨none, [], some (22, false), .bin 24 .gtr (.s 23) (.k (.int .i64 100))⟩,
    ⟨none, [], none, .pick 25 (.s 22) (.k (.bool true)) (.s 24)⟩]) c_impl_RowsOf_5) c_impl_RowsOf_10
def c_impl_RowsOf_0 : VC :=
  .seq (.r 0 [⟨none, [], none, .nil 4 [.sc]⟩]) c_impl_RowsOf_2
def vf_impl_RowsOf : VF := { pm := [.ro [.ro [.sc, .sc, .ro [.sc]]], .ro [.sc]], rm := [.v [.own [.sc]]], nslots := 121, res := [4], rc := [], code := .kp [0, 1] c_impl_RowsOf_0 }
def c_laws_eqIntS_5 : VC :=
  .ite (.s 10) (.seq (.r 2 [⟨none, [], none, .mv 4 (.k (.bool false))⟩]) (.ret)) (.skip)
def c_laws_eqIntS_18 : VC :=
  .ite (.s 14) (.skip) (.exit 0)
def c_laws_eqIntS_25 : VC :=
  .ite (.s 25) (.seq (.r 7 [⟨none, [], none, .mv 4 (.k (.bool false))⟩]) (.ret)) (.skip)
def c_laws_eqIntS_30 : VC :=
  .r 5 [⟨none, [], none, .mv 15 (.s 5)⟩,
    ⟨none, [], none, .bin 16 .add (.s 15) (.k (.int .i64 1))⟩,
    ⟨none, [], none, .mv 5 (.s 16)⟩]
def c_laws_eqIntS_21 : VC :=
  .seq (.blk 1 (.seq (.d 6 [(0, ⟨none, [], none, .mv 17 (.s 0)⟩),
    (1, ⟨none, [], none, .mv 18 (.s 5)⟩),
    (2, ⟨none, [], none, .iadr 19 (.s 17) (.s 18) 1⟩),
    (3, ⟨none, [], none, .ldv 20 (.s 19) 1 false⟩),
    (4, ⟨none, [], none, .mv 21 (.s 1)⟩),
    (5, ⟨none, [], none, .mv 22 (.s 5)⟩),
    (6, ⟨none, [], none, .iadr 23 (.s 21) (.s 22) 1⟩),
    (7, ⟨none, [], none, .ldv 24 (.s 23) 1 false⟩),
    (8, ⟨none, [], none, .bin 25 .neq (.s 20) (.s 24)⟩)]) c_laws_eqIntS_25)) c_laws_eqIntS_30
def c_laws_eqIntS_15 : VC :=
  .seq (.seq (.r 4 [⟨none, [], none, .mv 11 (.s 5)⟩,
    ⟨none, [], none, .mv 12 (.s 0)⟩,
    ⟨none, [], none, .len 13 (.s 12)⟩,
    ⟨none, [], none, .bin 14 .lss (.s 11) (.s 13)⟩]) c_laws_eqIntS_18) c_laws_eqIntS_21
def c_laws_eqIntS_13 : VC :=
  .blk 0 (.loop [0, 1, 5] c_laws_eqIntS_15)
def c_laws_eqIntS_31 : VC :=
  .seq (.r 8 [⟨none, [], none, .mv 4 (.k (.bool true))⟩]) (.ret)
def c_laws_eqIntS_10 : VC :=
  .seq (.seq (.r 3 [⟨none, [], none, .mv 5 (.k (.int .i64 0))⟩]) c_laws_eqIntS_13) (.kp [] c_laws_eqIntS_31)
def c_laws_eqIntS_2 : VC :=
  .seq (.seq (.r 1 [⟨none, [], none, .mv 6 (.s 0)⟩,
    ⟨none, [], none, .len 7 (.s 6)⟩,
    ⟨none, [], none, .mv 8 (.s 1)⟩,
    ⟨none, [], none, .len 9 (.s 8)⟩,
    ⟨none, [], none, .bin 10 .neq (.s 7) (.s 9)⟩]) c_laws_eqIntS_5) c_laws_eqIntS_10
def c_laws_eqIntS_0 : VC :=
  .seq (.r 0 [⟨none, [], none, .mv 4 (.k (.bool false))⟩]) c_laws_eqIntS_2
def vf_laws_eqIntS : VF := { pm := [.ro [.ro [.sc]], .ro [.ro [.sc]]], rm := [.v [.sc]], nslots := 26, res := [4], rc := [], code := .kp [0, 1] c_laws_eqIntS_0 }
def c_laws_eqStringS_5 : VC :=
  .ite (.s 10) (.seq (.r 2 [⟨none, [], none, .mv 4 (.k (.bool false))⟩]) (.ret)) (.skip)
def c_laws_eqStringS_18 : VC :=
  .ite (.s 14) (.skip) (.exit 0)
def c_laws_eqStringS_25 : VC :=
  .ite (.s 25) (.seq (.r 7 [⟨none, [], none, .mv 4 (.k (.bool false))⟩]) (.ret)) (.skip)
def c_laws_eqStringS_30 : VC :=
  .r 5 [⟨none, [], none, .mv 15 (.s 5)⟩,
    ⟨none, [], none, .bin 16 .add (.s 15) (.k (.int .i64 1))⟩,
    ⟨none, [], none, .mv 5 (.s 16)⟩]
def c_laws_eqStringS_21 : VC :=
  .seq (.blk 1 (.seq (.d 6 [(0, ⟨none, [], none, .mv 17 (.s 0)⟩),
    (1, ⟨none, [], none, .mv 18 (.s 5)⟩),
    (2, ⟨none, [], none, .iadr 19 (.s 17) (.s 18) 1⟩),
    (3, ⟨none, [], none, .ldv 20 (.s 19) 1 false⟩),
    (4, ⟨none, [], none, .mv 21 (.s 1)⟩),
    (5, ⟨none, [], none, .mv 22 (.s 5)⟩),
    (6, ⟨none, [], none, .iadr 23 (.s 21) (.s 22) 1⟩),
    (7, ⟨none, [], none, .ldv 24 (.s 23) 1 false⟩),
    (8, ⟨none, [], none, .bin 25 .neq (.s 20) (.s 24)⟩)]) c_laws_eqStringS_25)) c_laws_eqStringS_30
def c_laws_eqStringS_15 : VC :=
  .seq (.seq (.r 4 [⟨none, [], none, .mv 11 (.s 5)⟩,
    ⟨none, [], none, .mv 12 (.s 0)⟩,
    ⟨none, [], none, .len 13 (.s 12)⟩,
    ⟨none, [], none, .bin 14 .lss (.s 11) (.s 13)⟩]) c_laws_eqStringS_18) c_laws_eqStringS_21
def c_laws_eqStringS_13 : VC :=
  .blk 0 (.loop [0, 1, 5] c_laws_eqStringS_15)
def c_laws_eqStringS_31 : VC :=
  .seq (.r 8 [⟨none, [], none, .mv 4 (.k (.bool true))⟩]) (.ret)
def c_laws_eqStringS_10 : VC :=
  .seq (.seq (.r 3 [⟨none, [], none, .mv 5 (.k (.int .i64 0))⟩]) c_laws_eqStringS_13) (.kp [] c_laws_eqStringS_31)
def c_laws_eqStringS_2 : VC :=
  .seq (.seq (.r 1 [⟨none, [], none, .mv 6 (.s 0)⟩,
    ⟨none, [], none, .len 7 (.s 6)⟩,
    ⟨none, [], none, .mv 8 (.s 1)⟩,
    ⟨none, [], none, .len 9 (.s 8)⟩,
    ⟨none, [], none, .bin 10 .neq (.s 7) (.s 9)⟩]) c_laws_eqStringS_5) c_laws_eqStringS_10
def c_laws_eqStringS_0 : VC :=
  .seq (.r 0 [⟨none, [], none, .mv 4 (.k (.bool false))⟩]) c_laws_eqStringS_2
def vf_laws_eqStringS : VF := { pm := [.ro [.ro [.sc]], .ro [.ro [.sc]]], rm := [.v [.sc]], nslots := 26, res := [4], rc := [], code := .kp [0, 1] c_laws_eqStringS_0 }
def c_laws_eqCue_5 : VC :=
  .ite (.s 9) (.seq (.r 2 [⟨none, [], none, .mv 4 (.k (.bool false))⟩]) (.ret)) (.skip)
def c_laws_eqCue_13 : VC :=
  .ite (.s 14) (.seq (.r 4 [⟨none, [], none, .mv 4 (.k (.bool false))⟩]) (.ret)) (.skip)
def c_laws_eqCue_21 : VC :=
  .ite (.s 20) (.seq (.r 6 [⟨none, [], none, .mv 4 (.k (.bool false))⟩]) (.ret)) (.skip)
def c_laws_eqCue_26 : VC :=
  .seq (.r 7 [⟨none, [], none, .mv 4 (.k (.bool true))⟩]) (.ret)
def c_laws_eqCue_18 : VC :=
  .seq (.seq (.r 5 [⟨none, [], none, .fadr 15 (.s 2) 2⟩,
    ⟨none, [], none, .ld 16 (.s 15) 1 false⟩,
    ⟨none, [], none, .fadr 17 (.s 3) 2⟩,
    ⟨none, [], none, .ld 18 (.s 17) 1 false⟩,
    ⟨none, [], none, .call 19 47 [(.s 16), (.s 18)]⟩,
    ⟨none, [], none, .un 20 .not (.s 19)⟩]) c_laws_eqCue_21) c_laws_eqCue_26
def c_laws_eqCue_10 : VC :=
  .seq (.seq (.r 3 [⟨none, [], none, .fadr 10 (.s 2) 1⟩,
    ⟨none, [], none, .ld 11 (.s 10) 1 false⟩,
    ⟨none, [], none, .fadr 12 (.s 3) 1⟩,
    ⟨none, [], none, .ld 13 (.s 12) 1 false⟩,
    ⟨none, [], none, .bin 14 .neq (.s 11) (.s 13)⟩]) c_laws_eqCue_13) c_laws_eqCue_18
def c_laws_eqCue_2 : VC :=
  .seq (.seq (.r 1 [⟨none, [], none, .fadr 5 (.s 2) 0⟩,
    ⟨none, [], none, .ld 6 (.s 5) 1 false⟩,
    ⟨none, [], none, .fadr 7 (.s 3) 0⟩,
    ⟨none, [], none, .ld 8 (.s 7) 1 false⟩,
    ⟨none, [], none, .bin 9 .neq (.s 6) (.s 8)⟩]) c_laws_eqCue_5) c_laws_eqCue_10
def c_laws_eqCue_0 : VC :=
  .seq (.r 0 [⟨none, [], none, .box 2 (.s 0)⟩,
    ⟨none, [], none, .box 3 (.s 1)⟩,
    ⟨none, [], none, .mv 4 (.k (.bool false))⟩]) c_laws_eqCue_2
def vf_laws_eqCue : VF := { pm := [.ro [.sc, .sc, .ro [.sc]], .ro [.sc, .sc, .ro [.sc]]], rm := [.v [.sc]], nslots := 21, res := [4], rc := [], code := .kp [0, 1] c_laws_eqCue_0 }
def c_laws_eqCueS_5 : VC :=
  .ite (.s 10) (.seq (.r 2 [⟨none, [], none, .mv 4 (.k (.bool false))⟩]) (.ret)) (.skip)
def c_laws_eqCueS_18 : VC :=
  .ite (.s 14) (.skip) (.exit 0)
def c_laws_eqCueS_25 : VC :=
  .ite (.s 26) (.seq (.r 7 [⟨none, [], none, .mv 4 (.k (.bool false))⟩]) (.ret)) (.skip)
def c_laws_eqCueS_30 : VC :=
  .r 5 [⟨none, [], none, .mv 15 (.s 5)⟩,
    ⟨none, [], none, .bin 16 .add (.s 15) (.k (.int .i64 1))⟩,
    ⟨none, [], none, .mv 5 (.s 16)⟩]
def c_laws_eqCueS_21 : VC :=
  .seq (.blk 1 (.seq (.d 6 [(0, ⟨none, [], none, .mv 17 (.s 0)⟩),
    (1, ⟨none, [], none, .mv 18 (.s 5)⟩),
    (2, ⟨none, [], none, .iadr 19 (.s 17) (.s 18) 3⟩),
    (3, ⟨none, [], none, .ldv 20 (.s 19) 3 true⟩),
    (4, ⟨none, [], none, .mv 21 (.s 1)⟩),
    (5, ⟨none, [], none, .mv 22 (.s 5)⟩),
    (6, ⟨none, [], none, .iadr 23 (.s 21) (.s 22) 3⟩),
    (7, ⟨none, [], none, .ldv 24 (.s 23) 3 true⟩),
    (8, ⟨none, [], none, .call 25 36 [(.s 20), (.s 24)]⟩),
    (9, ⟨none, [], none, .un 26 .not (.s 25)⟩)]) c_laws_eqCueS_25)) c_laws_eqCueS_30
def c_laws_eqCueS_15 : VC :=
  .seq (.seq (.r 4 [⟨none, [], none, .mv 11 (.s 5)⟩,
    ⟨none, [], none, .mv 12 (.s 0)⟩,
    ⟨none, [], none, .len 13 (.s 12)⟩,
    ⟨none, [], none, .bin 14 .lss (.s 11) (.s 13)⟩]) c_laws_eqCueS_18) c_laws_eqCueS_21
def c_laws_eqCueS_13 : VC :=
  .blk 0 (.loop [0, 1, 5] c_laws_eqCueS_15)
def c_laws_eqCueS_31 : VC :=
  .seq (.r 8 [⟨none, [], none, .mv 4 (.k (.bool true))⟩]) (.ret)
def c_laws_eqCueS_10 : VC :=
  .seq (.seq (.r 3 [⟨none, [], none, .mv 5 (.k (.int .i64 0))⟩]) c_laws_eqCueS_13) (.kp [] c_laws_eqCueS_31)
def c_laws_eqCueS_2 : VC :=
  .seq (.seq (.r 1 [⟨none, [], none, .mv 6 (.s 0)⟩,
    ⟨none, [], none, .len 7 (.s 6)⟩,
    ⟨none, [], none, .mv 8 (.s 1)⟩,
    ⟨none, [], none, .len 9 (.s 8)⟩,
    ⟨none, [], none, .bin 10 .neq (.s 7) (.s 9)⟩]) c_laws_eqCueS_5) c_laws_eqCueS_10
def c_laws_eqCueS_0 : VC :=
  .seq (.r 0 [⟨none, [], none, .mv 4 (.k (.bool false))⟩]) c_laws_eqCueS_2
def vf_laws_eqCueS : VF := { pm := [.ro [.ro [.sc, .sc, .ro [.sc]]], .ro [.ro [.sc, .sc, .ro [.sc]]]], rm := [.v [.sc]], nslots := 27, res := [4], rc := [], code := .kp [0, 1] c_laws_eqCueS_0 }
def c_laws_markText_5 : VC :=
  .ite (.s 5) (.seq (.r 2 [⟨none, [], none, .mv 2 (.k (.string (ByteArray.mk #[109, 48])))⟩]) (.ret)) (.skip)
def c_laws_markText_18 : VC :=
  .ite (.s 7) (.skip) (.exit 0)
def c_laws_markText_24 : VC :=
  .r 6 [⟨none, [], none, .mv 16 (.s 0)⟩,
    ⟨none, [], none, .bin 17 .quo (.s 16) (.k (.int .i64 10))⟩,
    ⟨none, [], none, .mv 0 (.s 17)⟩]
def c_laws_markText_21 : VC :=
  .blk 1 (.seq (.r 5 [⟨none, [], none, .mv 8 (.s 0)⟩,
    ⟨none, [], none, .bin 9 .rem (.s 8) (.k (.int .i64 10))⟩,
    ⟨none, [], none, .bin 10 .add (.k (.int .i64 48)) (.s 9)⟩,
    ⟨none, [], none, .conv 11 .u8 (.s 10)⟩,
    ⟨none, [], none, .lits 12 [.sc] [(.s 11)]⟩,
    ⟨none, [], none, .b2s 13 (.s 12)⟩,
    ⟨none, [], none, .mv 14 (.s 3)⟩,
    ⟨none, [], none, .bin 15 .add (.s 13) (.s 14)⟩,
    ⟨none, [], none, .mv 3 (.s 15)⟩]) c_laws_markText_24)
def c_laws_markText_15 : VC :=
  .seq (.seq (.r 4 [⟨none, [], none, .mv 6 (.s 0)⟩,
    ⟨none, [], none, .bin 7 .gtr (.s 6) (.k (.int .i64 0))⟩]) c_laws_markText_18) c_laws_markText_21
def c_laws_markText_25 : VC :=
  .seq (.r 7 [⟨none, [], none, .mv 18 (.s 3)⟩,
    ⟨none, [], none, .bin 19 .add (.k (.string (ByteArray.mk #[109]))) (.s 18)⟩,
    ⟨none, [], none, .mv 2 (.s 19)⟩]) (.ret)
def c_laws_markText_12 : VC :=
  .seq (.blk 0 (.loop [0, 3] c_laws_markText_15)) (.kp [3] c_laws_markText_25)
def c_laws_markText_10 : VC :=
  .seq (.r 3 [⟨none, [], none, .mv 3 (.k (.string (ByteArray.mk #[])))⟩]) c_laws_markText_12
def c_laws_markText_2 : VC :=
  .seq (.seq (.r 1 [⟨none, [], none, .mv 4 (.s 0)⟩,
    ⟨none, [], none, .bin 5 .leq (.s 4) (.k (.int .i64 0))⟩]) c_laws_markText_5) c_laws_markText_10
def c_laws_markText_0 : VC :=
  .seq (.r 0 [⟨none, [], none, .mv 2 (.k (.string (ByteArray.mk #[])))⟩]) c_laws_markText_2
def vf_laws_markText : VF := { pm := [.ro [.sc]], rm := [.v [.sc]], nslots := 20, res := [2], rc := [], code := .kp [0] c_laws_markText_0 }
def c_laws_markStringS_10 : VC :=
  .ite (.s 9) (.skip) (.exit 0)
def c_laws_markStringS_17 : VC :=
  .r 5 [⟨none, [], none, .mv 17 (.s 1)⟩,
    ⟨none, [], none, .bin 18 .add (.s 17) (.k (.int .i64 1))⟩,
    ⟨none, [], none, .mv 1 (.s 18)⟩]
def c_laws_markStringS_18 : VC :=
  .r 3 [⟨none, [], none, .mv 10 (.s 5)⟩,
    ⟨none, [], none, .bin 11 .add (.s 10) (.k (.int .i64 1))⟩,
    ⟨none, [], none, .mv 5 (.s 11)⟩]
def c_laws_markStringS_13 : VC :=
  .seq (.blk 1 (.seq (.r 4 [⟨none, [], none, .mv 12 (.s 0)⟩,
    ⟨none, [], none, .mv 13 (.s 5)⟩,
    ⟨none, [], none, .mv 14 (.s 1)⟩,
    ⟨none, [], none, .call 15 48 [(.s 14)]⟩,
    ⟨none, [], none, .iadr 16 (.s 12) (.s 13) 1⟩,
    ⟨none, [], none, .st (.s 16) (.s 15) 1⟩]) c_laws_markStringS_17)) c_laws_markStringS_18
def c_laws_markStringS_7 : VC :=
  .seq (.seq (.r 2 [⟨none, [], none, .mv 6 (.s 5)⟩,
    ⟨none, [], none, .mv 7 (.s 0)⟩,
    ⟨none, [], none, .len 8 (.s 7)⟩,
    ⟨none, [], none, .bin 9 .lss (.s 6) (.s 8)⟩]) c_laws_markStringS_10) c_laws_markStringS_13
def c_laws_markStringS_5 : VC :=
  .blk 0 (.loop [0, 1, 5] c_laws_markStringS_7)
def c_laws_markStringS_19 : VC :=
  .seq (.r 6 [⟨none, [], none, .mv 19 (.s 1)⟩,
    ⟨none, [], none, .mv 4 (.s 19)⟩]) (.ret)
def c_laws_markStringS_2 : VC :=
  .seq (.seq (.r 1 [⟨none, [], none, .mv 5 (.k (.int .i64 0))⟩]) c_laws_markStringS_5) (.kp [0, 1] c_laws_markStringS_19)
def c_laws_markStringS_0 : VC :=
  .seq (.r 0 [⟨none, [], none, .mv 4 (.k (.int .i64 0))⟩]) c_laws_markStringS_2
def vf_laws_markStringS : VF := { pm := [.ms [.sc], .ro [.sc]], rm := [.v [.sc]], nslots := 20, res := [4], rc := [], code := .kp [0, 1] c_laws_markStringS_0 }
def c_laws_markCueS_10 : VC :=
  .ite (.s 9) (.skip) (.exit 0)
def c_laws_markCueS_23 : VC :=
  .r 8 [⟨none, [], none, .mv 26 (.s 0)⟩,
    ⟨none, [], none, .mv 27 (.s 5)⟩,
    ⟨none, [], none, .iadr 28 (.s 26) (.s 27) 3⟩,
    ⟨none, [], none, .fadr 29 (.s 28) 2⟩,
    ⟨none, [], none, .ld 30 (.s 29) 1 false⟩,
    ⟨none, [], none, .mv 31 (.s 1)⟩,
    ⟨none, [], none, .call 32 37 [(.s 30), (.s 31)]⟩,
    ⟨none, [], none, .mv 1 (.s 32)⟩]
def c_laws_markCueS_21 : VC :=
  .seq (.r 7 [⟨none, [], none, .mv 24 (.s 1)⟩,
    ⟨none, [], none, .bin 25 .add (.s 24) (.k (.int .i64 1))⟩,
    ⟨none, [], none, .mv 1 (.s 25)⟩]) c_laws_markCueS_23
def c_laws_markCueS_19 : VC :=
  .seq (.r 6 [⟨none, [], none, .mv 19 (.s 0)⟩,
    ⟨none, [], none, .mv 20 (.s 5)⟩,
    ⟨none, [], none, .mv 21 (.s 1)⟩,
    ⟨none, [], none, .iadr 22 (.s 19) (.s 20) 3⟩,
    ⟨none, [], none, .fadr 23 (.s 22) 1⟩,
    ⟨none, [], none, .st (.s 23) (.s 21) 1⟩]) c_laws_markCueS_21
def c_laws_markCueS_17 : VC :=
  .seq (.r 5 [⟨none, [], none, .mv 17 (.s 1)⟩,
    ⟨none, [], none, .bin 18 .add (.s 17) (.k (.int .i64 1))⟩,
    ⟨none, [], none, .mv 1 (.s 18)⟩]) c_laws_markCueS_19
def c_laws_markCueS_24 : VC :=
  .r 3 [⟨none, [], none, .mv 10 (.s 5)⟩,
    ⟨none, [], none, .bin 11 .add (.s 10) (.k (.int .i64 1))⟩,
    ⟨none, [], none, .mv 5 (.s 11)⟩]
def c_laws_markCueS_13 : VC :=
  .seq (.blk 1 (.seq (.r 4 [⟨none, [], none, .mv 12 (.s 0)⟩,
    ⟨none, [], none, .mv 13 (.s 5)⟩,
    ⟨none, [], none, .mv 14 (.s 1)⟩,
    ⟨none, [], none, .iadr 15 (.s 12) (.s 13) 3⟩,
    ⟨none, [], none, .fadr 16 (.s 15) 0⟩,
    ⟨none, [], none, .st (.s 16) (.s 14) 1⟩]) c_laws_markCueS_17)) c_laws_markCueS_24
def c_laws_markCueS_7 : VC :=
  .seq (.seq (.r 2 [⟨none, [], none, .mv 6 (.s 5)⟩,
    ⟨none, [], none, .mv 7 (.s 0)⟩,
    ⟨none, [], none, .len 8 (.s 7)⟩,
    ⟨none, [], none, .bin 9 .lss (.s 6) (.s 8)⟩]) c_laws_markCueS_10) c_laws_markCueS_13
def c_laws_markCueS_5 : VC :=
  .blk 0 (.loop [0, 1, 5] c_laws_markCueS_7)
def c_laws_markCueS_25 : VC :=
  .seq (.r 9 [⟨none, [], none, .mv 33 (.s 1)⟩,
    ⟨none, [], none, .mv 4 (.s 33)⟩]) (.ret)
def c_laws_markCueS_2 : VC :=
  .seq (.seq (.r 1 [⟨none, [], none, .mv 5 (.k (.int .i64 0))⟩]) c_laws_markCueS_5) (.kp [0, 1] c_laws_markCueS_25)
def c_laws_markCueS_0 : VC :=
  .seq (.r 0 [⟨none, [], none, .mv 4 (.k (.int .i64 0))⟩]) c_laws_markCueS_2
def vf_laws_markCueS : VF := { pm := [.ms [.sc, .sc, .own [.sc]], .ro [.sc]], rm := [.v [.sc]], nslots := 34, res := [4], rc := [], code := .kp [0, 1] c_laws_markCueS_0 }
def c_laws_markIntS_10 : VC :=
  .ite (.s 9) (.skip) (.exit 0)
def c_laws_markIntS_17 : VC :=
  .r 5 [⟨none, [], none, .mv 16 (.s 1)⟩,
    ⟨none, [], none, .bin 17 .add (.s 16) (.k (.int .i64 1))⟩,
    ⟨none, [], none, .mv 1 (.s 17)⟩]
def c_laws_markIntS_18 : VC :=
  .r 3 [⟨none, [], none, .mv 10 (.s 5)⟩,
    ⟨none, [], none, .bin 11 .add (.s 10) (.k (.int .i64 1))⟩,
    ⟨none, [], none, .mv 5 (.s 11)⟩]
def c_laws_markIntS_13 : VC :=
  .seq (.blk 1 (.seq (.r 4 [⟨none, [], none, .mv 12 (.s 0)⟩,
    ⟨none, [], none, .mv 13 (.s 5)⟩,
    ⟨none, [], none, .mv 14 (.s 1)⟩,
    ⟨none, [], none, .iadr 15 (.s 12) (.s 13) 1⟩,
    ⟨none, [], none, .st (.s 15) (.s 14) 1⟩]) c_laws_markIntS_17)) c_laws_markIntS_18
def c_laws_markIntS_7 : VC :=
  .seq (.seq (.r 2 [⟨none, [], none, .mv 6 (.s 5)⟩,
    ⟨none, [], none, .mv 7 (.s 0)⟩,
    ⟨none, [], none, .len 8 (.s 7)⟩,
    ⟨none, [], none, .bin 9 .lss (.s 6) (.s 8)⟩]) c_laws_markIntS_10) c_laws_markIntS_13
def c_laws_markIntS_5 : VC :=
  .blk 0 (.loop [0, 1, 5] c_laws_markIntS_7)
def c_laws_markIntS_19 : VC :=
  .seq (.r 6 [⟨none, [], none, .mv 18 (.s 1)⟩,
    ⟨none, [], none, .mv 4 (.s 18)⟩]) (.ret)
def c_laws_markIntS_2 : VC :=
  .seq (.seq (.r 1 [⟨none, [], none, .mv 5 (.k (.int .i64 0))⟩]) c_laws_markIntS_5) (.kp [0, 1] c_laws_markIntS_19)
def c_laws_markIntS_0 : VC :=
  .seq (.r 0 [⟨none, [], none, .mv 4 (.k (.int .i64 0))⟩]) c_laws_markIntS_2
def vf_laws_markIntS : VF := { pm := [.ms [.sc], .ro [.sc]], rm := [.v [.sc]], nslots := 19, res := [4], rc := [], code := .kp [0, 1] c_laws_markIntS_0 }
def c_laws_heldIntS_10 : VC :=
  .ite (.s 9) (.skip) (.exit 0)
def c_laws_heldIntS_18 : VC :=
  .ite (.s 17) (.seq (.r 5 [⟨none, [], none, .mv 4 (.k (.int .i64 (-1)))⟩]) (.ret)) (.skip)
def c_laws_heldIntS_23 : VC :=
  .r 6 [⟨none, [], none, .mv 18 (.s 1)⟩,
    ⟨none, [], none, .bin 19 .add (.s 18) (.k (.int .i64 1))⟩,
    ⟨none, [], none, .mv 1 (.s 19)⟩]
def c_laws_heldIntS_24 : VC :=
  .r 3 [⟨none, [], none, .mv 10 (.s 5)⟩,
    ⟨none, [], none, .bin 11 .add (.s 10) (.k (.int .i64 1))⟩,
    ⟨none, [], none, .mv 5 (.s 11)⟩]
def c_laws_heldIntS_13 : VC :=
  .seq (.blk 1 (.seq (.seq (.r 4 [⟨none, [], none, .mv 12 (.s 0)⟩,
    ⟨none, [], none, .mv 13 (.s 5)⟩,
    ⟨none, [], none, .iadr 14 (.s 12) (.s 13) 1⟩,
    ⟨none, [], none, .ld 15 (.s 14) 1 false⟩,
    ⟨none, [], none, .mv 16 (.s 1)⟩,
    ⟨none, [], none, .bin 17 .neq (.s 15) (.s 16)⟩]) c_laws_heldIntS_18) c_laws_heldIntS_23)) c_laws_heldIntS_24
def c_laws_heldIntS_7 : VC :=
  .seq (.seq (.r 2 [⟨none, [], none, .mv 6 (.s 5)⟩,
    ⟨none, [], none, .mv 7 (.s 0)⟩,
    ⟨none, [], none, .len 8 (.s 7)⟩,
    ⟨none, [], none, .bin 9 .lss (.s 6) (.s 8)⟩]) c_laws_heldIntS_10) c_laws_heldIntS_13
def c_laws_heldIntS_5 : VC :=
  .blk 0 (.loop [0, 1, 5] c_laws_heldIntS_7)
def c_laws_heldIntS_25 : VC :=
  .seq (.r 7 [⟨none, [], none, .mv 20 (.s 1)⟩,
    ⟨none, [], none, .mv 4 (.s 20)⟩]) (.ret)
def c_laws_heldIntS_2 : VC :=
  .seq (.seq (.r 1 [⟨none, [], none, .mv 5 (.k (.int .i64 0))⟩]) c_laws_heldIntS_5) (.kp [1] c_laws_heldIntS_25)
def c_laws_heldIntS_0 : VC :=
  .seq (.r 0 [⟨none, [], none, .mv 4 (.k (.int .i64 0))⟩]) c_laws_heldIntS_2
def vf_laws_heldIntS : VF := { pm := [.ro [.ro [.sc]], .ro [.sc]], rm := [.v [.sc]], nslots := 21, res := [4], rc := [], code := .kp [0, 1] c_laws_heldIntS_0 }
def c_laws_FnExactRowsOf_9 : VC :=
  .ite (.s 17) (.seq (.r 4 [⟨none, [], none, .mv 4 (.k (.bool true))⟩]) (.ret)) (.skip)
def c_laws_FnExactRowsOf_23 : VC :=
  .ite (.s 30) (.seq (.r 9 [⟨none, [], none, .mv 4 (.k (.bool false))⟩]) (.ret)) (.skip)
def c_laws_FnExactRowsOf_31 : VC :=
  .ite (.s 35) (.seq (.r 11 [⟨none, [], none, .mv 4 (.k (.bool false))⟩]) (.ret)) (.skip)
def c_laws_FnExactRowsOf_43 : VC :=
  .ite (.s 46) (.seq (.r 15 [⟨none, [], none, .mv 4 (.k (.bool false))⟩]) (.ret)) (.skip)
def c_laws_FnExactRowsOf_59 : VC :=
  .ite (.s 54) (.seq (.r 21 [⟨none, [], none, .mv 4 (.k (.bool false))⟩]) (.ret)) (.skip)
def c_laws_FnExactRowsOf_67 : VC :=
  .ite (.s 57) (.seq (.r 23 [⟨none, [], none, .mv 4 (.k (.bool false))⟩]) (.ret)) (.skip)
def c_laws_FnExactRowsOf_77 : VC :=
  .ite (.s 65) (.seq (.r 26 [⟨none, [], none, .mv 4 (.k (.bool false))⟩]) (.ret)) (.skip)
def c_laws_FnExactRowsOf_89 : VC :=
  .ite (.s 70) (.seq (.r 30 [⟨none, [], none, .mv 4 (.k (.bool false))⟩]) (.ret)) (.skip)
def c_laws_FnExactRowsOf_97 : VC :=
  .ite (.s 73) (.seq (.r 32 [⟨none, [], none, .mv 4 (.k (.bool false))⟩]) (.ret)) (.skip)
def c_laws_FnExactRowsOf_102 : VC :=
  .seq (.r 33 [⟨none, [], none, .mv 4 (.k (.bool true))⟩]) (.ret)
def c_laws_FnExactRowsOf_94 : VC :=
  .seq (.seq (.r 31 [⟨none, [], none, .mv 71 (.s 11)⟩,
    ⟨none, [], none, .mv 72 (.s 10)⟩,
    ⟨none, [], none, .bin 73 .neq (.s 71) (.s 72)⟩]) c_laws_FnExactRowsOf_97) c_laws_FnExactRowsOf_102
def c_laws_FnExactRowsOf_86 : VC :=
  .seq (.seq (.r 29 [⟨none, [], none, .mv 69 (.s 11)⟩,
    ⟨none, [], none, .bin 70 .lss (.s 69) (.k (.int .i64 0))⟩]) c_laws_FnExactRowsOf_89) c_laws_FnExactRowsOf_94
def c_laws_FnExactRowsOf_84 : VC :=
  .seq (.r 28 [⟨none, [], none, .mv 66 (.s 8)⟩,
    ⟨none, [], none, .mv 67 (.s 11)⟩,
    ⟨none, [], none, .call 68 20 [(.s 66), (.s 67)]⟩,
    ⟨none, [], none, .mv 11 (.s 68)⟩]) c_laws_FnExactRowsOf_86
def c_laws_FnExactRowsOf_82 : VC :=
  .seq (.r 27 [⟨none, [], none, .mv 11 (.k (.int .i64 1))⟩]) c_laws_FnExactRowsOf_84
def c_laws_FnExactRowsOf_74 : VC :=
  .seq (.seq (.r 25 [⟨none, [], none, .mv 62 (.s 12)⟩,
    ⟨none, [], none, .mv 63 (.s 6)⟩,
    ⟨none, [], none, .call 64 16 [(.s 62), (.s 63)]⟩,
    ⟨none, [], none, .un 65 .not (.s 64)⟩]) c_laws_FnExactRowsOf_77) c_laws_FnExactRowsOf_82
def c_laws_FnExactRowsOf_72 : VC :=
  .seq (.r 24 [⟨none, [], none, .mv 58 (.s 0)⟩,
    ⟨none, [], none, .call 59 14 [(.s 58)]⟩,
    ⟨none, [], none, .mv 60 (.s 1)⟩,
    ⟨none, [], none, .call 61 9 [(.s 59), (.s 60)]⟩,
    ⟨none, [], none, .mv 12 (.s 61)⟩]) c_laws_FnExactRowsOf_74
def c_laws_FnExactRowsOf_64 : VC :=
  .seq (.seq (.r 22 [⟨none, [], none, .mv 55 (.s 11)⟩,
    ⟨none, [], none, .mv 56 (.s 10)⟩,
    ⟨none, [], none, .bin 57 .neq (.s 55) (.s 56)⟩]) c_laws_FnExactRowsOf_67) c_laws_FnExactRowsOf_72
def c_laws_FnExactRowsOf_56 : VC :=
  .seq (.seq (.r 20 [⟨none, [], none, .mv 53 (.s 11)⟩,
    ⟨none, [], none, .bin 54 .lss (.s 53) (.k (.int .i64 0))⟩]) c_laws_FnExactRowsOf_59) c_laws_FnExactRowsOf_64
def c_laws_FnExactRowsOf_54 : VC :=
  .seq (.r 19 [⟨none, [], none, .mv 50 (.s 8)⟩,
    ⟨none, [], none, .mv 51 (.s 11)⟩,
    ⟨none, [], none, .call 52 20 [(.s 50), (.s 51)]⟩,
    ⟨none, [], none, .mv 11 (.s 52)⟩]) c_laws_FnExactRowsOf_56
def c_laws_FnExactRowsOf_52 : VC :=
  .seq (.r 18 [⟨none, [], none, .mv 11 (.k (.int .i64 1))⟩]) c_laws_FnExactRowsOf_54
def c_laws_FnExactRowsOf_50 : VC :=
  .seq (.r 17 [⟨none, [], none, .mv 47 (.s 8)⟩,
    ⟨none, [], none, .mv 48 (.s 10)⟩,
    ⟨none, [], none, .call 49 19 [(.s 47), (.s 48)]⟩,
    ⟨none, [], none, .mv 10 (.s 49)⟩]) c_laws_FnExactRowsOf_52
def c_laws_FnExactRowsOf_48 : VC :=
  .seq (.r 16 [⟨none, [], none, .mv 10 (.k (.int .i64 1))⟩]) c_laws_FnExactRowsOf_50
def c_laws_FnExactRowsOf_40 : VC :=
  .seq (.seq (.r 14 [⟨none, [], none, .mv 39 (.s 9)⟩,
    ⟨none, [], none, .bin 40 .lss (.s 39) (.k (.int .i64 0))⟩,
    ⟨none, [], none, .mv 41 (.s 40)⟩,
    ⟨none, [], some (41, false), .mv 42 (.s 8)⟩,
    ⟨none, [], some (41, false), .mv 43 (.s 6)⟩,
    ⟨none, [], some (41, false), .call 44 16 [(.s 42), (.s 43)]⟩,
    ⟨none, [], some (41, false), .un 45 .not (.s 44)⟩,
    ⟨none, [], none, .pick 46 (.s 41) (.k (.bool true)) (.s 45)⟩]) c_laws_FnExactRowsOf_43) c_laws_FnExactRowsOf_48
def c_laws_FnExactRowsOf_38 : VC :=
  .seq (.r 13 [⟨none, [], none, .mv 36 (.s 7)⟩,
    ⟨none, [], none, .mv 37 (.s 9)⟩,
    ⟨none, [], none, .call 38 18 [(.s 36), (.s 37)]⟩,
    ⟨none, [], none, .mv 9 (.s 38)⟩]) c_laws_FnExactRowsOf_40
def c_laws_FnExactRowsOf_36 : VC :=
  .seq (.r 12 [⟨none, [], none, .mv 9 (.k (.int .i64 1))⟩]) c_laws_FnExactRowsOf_38
def c_laws_FnExactRowsOf_28 : VC :=
  .seq (.seq (.r 10 [⟨none, [], none, .mv 31 (.s 7)⟩,
    ⟨none, [], none, .mv 32 (.s 0)⟩,
    ⟨none, [], none, .call 33 14 [(.s 32)]⟩,
    ⟨none, [], none, .call 34 17 [(.s 31), (.s 33)]⟩,
    ⟨none, [], none, .un 35 .not (.s 34)⟩]) c_laws_FnExactRowsOf_31) c_laws_FnExactRowsOf_36
def c_laws_FnExactRowsOf_20 : VC :=
  .seq (.seq (.r 8 [⟨none, [], none, .mv 27 (.s 8)⟩,
    ⟨none, [], none, .mv 28 (.s 6)⟩,
    ⟨none, [], none, .call 29 16 [(.s 27), (.s 28)]⟩,
    ⟨none, [], none, .un 30 .not (.s 29)⟩]) c_laws_FnExactRowsOf_23) c_laws_FnExactRowsOf_28
def c_laws_FnExactRowsOf_18 : VC :=
  .seq (.r 7 [⟨none, [], none, .mv 24 (.s 7)⟩,
    ⟨none, [], none, .mv 25 (.s 1)⟩,
    ⟨none, [], none, .call 26 9 [(.s 24), (.s 25)]⟩,
    ⟨none, [], none, .mv 8 (.s 26)⟩]) c_laws_FnExactRowsOf_20
def c_laws_FnExactRowsOf_16 : VC :=
  .seq (.r 6 [⟨none, [], none, .mv 22 (.s 0)⟩,
    ⟨none, [], none, .call 23 14 [(.s 22)]⟩,
    ⟨none, [], none, .mv 7 (.s 23)⟩]) c_laws_FnExactRowsOf_18
def c_laws_FnExactRowsOf_14 : VC :=
  .seq (.r 5 [⟨none, [], none, .mv 18 (.s 0)⟩,
    ⟨none, [], none, .call 19 14 [(.s 18)]⟩,
    ⟨none, [], none, .mv 20 (.s 1)⟩,
    ⟨none, [], none, .call 21 11 [(.s 19), (.s 20)]⟩,
    ⟨none, [], none, .mv 6 (.s 21)⟩]) c_laws_FnExactRowsOf_16
def c_laws_FnExactRowsOf_6 : VC :=
  .seq (.seq (.r 3 [⟨none, [], none, .mv 16 (.s 5)⟩,
    ⟨none, [], none, .bin 17 .lss (.s 16) (.k (.int .i64 0))⟩]) c_laws_FnExactRowsOf_9) c_laws_FnExactRowsOf_14
def c_laws_FnExactRowsOf_4 : VC :=
  .seq (.r 2 [⟨none, [], none, .mv 13 (.s 0)⟩,
    ⟨none, [], none, .mv 14 (.s 5)⟩,
    ⟨none, [], none, .call 15 12 [(.s 13), (.s 14)]⟩,
    ⟨none, [], none, .mv 5 (.s 15)⟩]) c_laws_FnExactRowsOf_6
def c_laws_FnExactRowsOf_2 : VC :=
  .seq (.r 1 [⟨none, [], none, .mv 5 (.k (.int .i64 1048576))⟩]) c_laws_FnExactRowsOf_4
def c_laws_FnExactRowsOf_0 : VC :=
  .seq (.r 0 [⟨none, [], none, .mv 4 (.k (.bool false))⟩]) c_laws_FnExactRowsOf_2
def vf_laws_FnExactRowsOf : VF := { pm := [.ro [.ro [.sc, .sc, .ro [.sc]]], .ro [.sc]], rm := [.v [.sc]], nslots := 74, res := [4], rc := [], code := .kp [0, 1] c_laws_FnExactRowsOf_0 }
def ext : FuncId → List Arg → Option FRes := fun f ars => if f = 53 then ex_strings_Contains ars else none
def tblL : List (FuncId × VF) := [(45, vf_laws_szStringS), (32, vf_laws_szCue), (12, vf_laws_szCueS), (46, vf_laws_toStringS), (34, vf_laws_toCue), (14, vf_laws_toCueS), (33, vf_spec_l15Time), (50, vf_spec_l15Bytes), (51, vf_spec_l15Has), (42, vf_spec_l15Lines), (27, vf_spec_GoodCues), (11, vf_spec_RowsOf), (35, vf_impl_ztime), (53, vf_strings_Contains), (49, vf_impl_zcueLine), (41, vf_impl_zcue), (26, vf_impl_GoodCues), (9, vf_impl_RowsOf), (16, vf_laws_eqIntS), (47, vf_laws_eqStringS), (36, vf_laws_eqCue), (17, vf_laws_eqCueS), (48, vf_laws_markText), (37, vf_laws_markStringS), (18, vf_laws_markCueS), (19, vf_laws_markIntS), (20, vf_laws_heldIntS), (7, vf_laws_FnExactRowsOf)]
def tbl : FuncId → Option VF := fun f => tblL.lookup f
end Go.Proofs.V

/- printed by a program: the plain functions, the code and the proofs of one law -/
set_option linter.unusedVariables false
set_option maxRecDepth 100000
namespace Go.Proofs.V
open Go
theorem fi_laws_szStringS : funcIs Go.Proofs.Try.prog tbl 45 vf_laws_szStringS = true := by kernel_rfl
theorem fi_laws_szCue : funcIs Go.Proofs.Try.prog tbl 32 vf_laws_szCue = true := by kernel_rfl
theorem fi_laws_szCueS : funcIs Go.Proofs.Try.prog tbl 12 vf_laws_szCueS = true := by kernel_rfl
theorem fi_laws_toStringS : funcIs Go.Proofs.Try.prog tbl 46 vf_laws_toStringS = true := by kernel_rfl
theorem fi_laws_toCue : funcIs Go.Proofs.Try.prog tbl 34 vf_laws_toCue = true := by kernel_rfl
theorem fi_laws_toCueS : funcIs Go.Proofs.Try.prog tbl 14 vf_laws_toCueS = true := by kernel_rfl
theorem fi_spec_l15Time : funcIs Go.Proofs.Try.prog tbl 33 vf_spec_l15Time = true := by kernel_rfl
theorem fi_spec_l15Bytes : funcIs Go.Proofs.Try.prog tbl 50 vf_spec_l15Bytes = true := by kernel_rfl
theorem fi_spec_l15Has : funcIs Go.Proofs.Try.prog tbl 51 vf_spec_l15Has = true := by kernel_rfl
theorem fi_spec_l15Lines : funcIs Go.Proofs.Try.prog tbl 42 vf_spec_l15Lines = true := by kernel_rfl
theorem fi_spec_GoodCues : funcIs Go.Proofs.Try.prog tbl 27 vf_spec_GoodCues = true := by kernel_rfl
theorem fi_spec_RowsOf : funcIs Go.Proofs.Try.prog tbl 11 vf_spec_RowsOf = true := by kernel_rfl
theorem fi_impl_ztime : funcIs Go.Proofs.Try.prog tbl 35 vf_impl_ztime = true := by kernel_rfl
theorem fi_impl_zcueLine : funcIs Go.Proofs.Try.prog tbl 49 vf_impl_zcueLine = true := by kernel_rfl
theorem fi_impl_zcue : funcIs Go.Proofs.Try.prog tbl 41 vf_impl_zcue = true := by kernel_rfl
theorem fi_impl_GoodCues : funcIs Go.Proofs.Try.prog tbl 26 vf_impl_GoodCues = true := by kernel_rfl
theorem fi_impl_RowsOf : funcIs Go.Proofs.Try.prog tbl 9 vf_impl_RowsOf = true := by kernel_rfl
theorem fi_laws_eqIntS : funcIs Go.Proofs.Try.prog tbl 16 vf_laws_eqIntS = true := by kernel_rfl
theorem fi_laws_eqStringS : funcIs Go.Proofs.Try.prog tbl 47 vf_laws_eqStringS = true := by kernel_rfl
theorem fi_laws_eqCue : funcIs Go.Proofs.Try.prog tbl 36 vf_laws_eqCue = true := by kernel_rfl
theorem fi_laws_eqCueS : funcIs Go.Proofs.Try.prog tbl 17 vf_laws_eqCueS = true := by kernel_rfl
theorem fi_laws_markText : funcIs Go.Proofs.Try.prog tbl 48 vf_laws_markText = true := by kernel_rfl
theorem fi_laws_markStringS : funcIs Go.Proofs.Try.prog tbl 37 vf_laws_markStringS = true := by kernel_rfl
theorem fi_laws_markCueS : funcIs Go.Proofs.Try.prog tbl 18 vf_laws_markCueS = true := by kernel_rfl
theorem fi_laws_markIntS : funcIs Go.Proofs.Try.prog tbl 19 vf_laws_markIntS = true := by kernel_rfl
theorem fi_laws_heldIntS : funcIs Go.Proofs.Try.prog tbl 20 vf_laws_heldIntS = true := by kernel_rfl
theorem fi_laws_FnExactRowsOf : funcIs Go.Proofs.Try.prog tbl 7 vf_laws_FnExactRowsOf = true := by kernel_rfl
def gI : GInv := gCell 0
def ren_strings_Contains : Go.Shelf.Ren := ⟨fun n => match n with | 144 => 53 | 143 => 54 | 219 => 55 | 217 => 56 | 225 => 57 | 224 => 58 | 267 => 59 | 266 => 60 | 314 => 61 | n => n, fun n => match n with | 9 => 9 | 4 => 4 | 3 => 3 | 5 => 5 | 46 => 70 | 146 => 75 | 51 => 74 | n => n, fun n => match n with | 1 => 0 | n => n⟩
theorem lays_strings_Contains : Go.Proofs.LaysM.n144 Go.Proofs.Try.prog ren_strings_Contains where
  mixed := by kernel_rfl
  f143 := Go.Proofs.Try.func54.trans (congrArg some (by kernel_rfl))
  f144 := Go.Proofs.Try.func53.trans (congrArg some (by kernel_rfl))
  f217 := Go.Proofs.Try.func56.trans (congrArg some (by kernel_rfl))
  f219 := Go.Proofs.Try.func55.trans (congrArg some (by kernel_rfl))
  f224 := Go.Proofs.Try.func58.trans (congrArg some (by kernel_rfl))
  f225 := Go.Proofs.Try.func57.trans (congrArg some (by kernel_rfl))
  f266 := Go.Proofs.Try.func60.trans (congrArg some (by kernel_rfl))
  f267 := Go.Proofs.Try.func59.trans (congrArg some (by kernel_rfl))
  f314 := Go.Proofs.Try.func61.trans (congrArg some (by kernel_rfl))
  t3 := Go.Proofs.Try.underlying3
  a3 := Go.Proofs.Try.isAgg3
  z3 := Go.Proofs.Try.sizeOf3
  v3 := Go.Proofs.Try.zeroValue3
  t4 := Go.Proofs.Try.underlying4
  a4 := Go.Proofs.Try.isAgg4
  z4 := Go.Proofs.Try.sizeOf4
  v4 := Go.Proofs.Try.zeroValue4
  t5 := Go.Proofs.Try.underlying5
  a5 := Go.Proofs.Try.isAgg5
  z5 := Go.Proofs.Try.sizeOf5
  v5 := Go.Proofs.Try.zeroValue5
  t9 := Go.Proofs.Try.underlying9
  a9 := Go.Proofs.Try.isAgg9
  z9 := Go.Proofs.Try.sizeOf9
  v9 := Go.Proofs.Try.zeroValue9
  t46 := Go.Proofs.Try.underlying70
  a46 := Go.Proofs.Try.isAgg70
  z46 := Go.Proofs.Try.sizeOf70
  v46 := Go.Proofs.Try.zeroValue70
  t51 := Go.Proofs.Try.underlying74
  a51 := Go.Proofs.Try.isAgg74
  z51 := Go.Proofs.Try.sizeOf74
  v51 := Go.Proofs.Try.zeroValue74
  t146 := Go.Proofs.Try.underlying75
  a146 := Go.Proofs.Try.isAgg75
  z146 := Go.Proofs.Try.sizeOf75
  v146 := Go.Proofs.Try.zeroValue75
  g1 := by kernel_rfl
  i3 := by kernel_rfl
  i4 := by kernel_rfl
  i5 := by kernel_rfl
  i9 := by kernel_rfl
  i46 := by kernel_rfl
  i51 := by kernel_rfl
  i146 := by kernel_rfl
  m1 := by kernel_rfl
  s1_3 := fun w h => Go.Proofs.cell_of_shapedOpen_int (zero := #[.int .i64 0]) (t := 3) h (of_decide_eq_true (by kernel_rfl)) (by kernel_rfl) rfl (by kernel_rfl) (by kernel_rfl) Go.Proofs.Try.underlying3
theorem giv_strings_Contains (p0 : ByteArray) (p1 : ByteArray) (r : Bool) (h : gContains p0 p1 = some r) (w : World) (hw : gI.I w) : Calls Go.Proofs.Try.prog 53 [(.string p0 : Value), (.string p1 : Value)].toArray w fun e w' => e = .returned (.bool r) ∧ w' = w := by
  unfold gContains at h
  split at h
  · rename_i hs
    obtain rfl := Option.some.inj h
    obtain ⟨m, hm⟩ := hw
    exact Go.Proofs.Any.strings_Contains { lays_strings_Contains with } p0 p1 m w hs hm
  · simp at h
theorem gv_strings_Contains : ∀ ars res st0, enter vf_strings_Contains ars = some st0 → ext 53 ars = some res → callable Go.Proofs.Try.prog 53 = true ∧ Does gI Go.Proofs.Try.prog 53 vf_strings_Contains st0 res := by
  intro ars res st0 he hx
  refine ⟨by kernel_rfl, ?_⟩
  have key : ∃ p0 p1, ars = [.v false [.lit (.string p0)], .v false [.lit (.string p1)]] ∧ (gContains p0 p1).map (fun r => (⟨[.v false [.lit (.bool r)]], []⟩ : FRes)) = some res := by
    have hx' : ex_strings_Contains ars = some res := hx
    unfold ex_strings_Contains at hx'
    split at hx'
    · exact ⟨_, _, rfl, hx'⟩
    · simp at hx'
  obtain ⟨p0, p1, rfl, h2⟩ := key
  obtain ⟨r, h3, rfl⟩ := Option.map_eq_some_iff.1 h2
  refine given_does (vals := [(.string p0 : Value), (.string p1 : Value)]) (v := .bool r) (m := 2) rfl rfl rfl rfl rfl rfl he ?_ ?_
  · have h4 : enter vf_strings_Contains ([.v false [.lit (.string p0)], .v false [.lit (.string p1)]]) = some ⟨[SV.v false [.lit (.string p0)], SV.v false [.lit (.string p1)]] ++ [undefS], [], []⟩ := by kernel_rfl
    exact Option.some.inj (he.symm.trans h4)
  · intro w hw
    exact giv_strings_Contains p0 p1 r h3 w hw
end Go.Proofs.V
