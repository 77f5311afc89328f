/- The law of Screens: the screens, both ways. -/
import Derived.Test.YtfmagdeiaanmcaaFnExactScreensV2
import Derived.Test.YtfmagdeiaanmcaaProg
import Derived.KernelRfl
set_option linter.unusedVariables false
set_option linter.unusedSimpArgs false
namespace Go.Proofs.V
open Go
/-- where pixel i of a frame lies -/
def pixAt (W : Nat) (f : S_Frame) (i : Nat) : Nat := (f.y.toNat + i / f.width.toNat) * W + f.x.toNat + i % f.width.toNat
def paint1 (W : Nat) (f : S_Frame) (l : List Int) (i : Nat) : List Int := if f.pixels.getD i 0 != f.hollow then l.set (pixAt W f i) (f.pixels.getD i 0) else l
def clear1 (W : Nat) (f : S_Frame) (l : List Int) (i : Nat) : List Int := l.set (pixAt W f i) (-1)
def paintF (W : Nat) (f : S_Frame) (l : List Int) : List Int := (List.range f.pixels.length).foldl (paint1 W f) l
def clearF (W : Nat) (f : S_Frame) (l : List Int) : List Int := (List.range f.pixels.length).foldl (clear1 W f) l
def stepF (W : Nat) (s : List Int × List (List Int)) (f : S_Frame) : List Int × List (List Int) :=
  (if f.dispose = 2 then s.1 else if f.dispose = 1 then clearF W f (paintF W f s.1) else paintF W f s.1, s.2 ++ [paintF W f s.1])

theorem pix_lt {W H x y w h i : Nat} (hw : 1 ≤ w) (hx : x + w ≤ W) (hy : y + h ≤ H) (hi : i < w * h) : (y + i / w) * W + x + i % w < W * H := by
  have h1 : i / w < h := Nat.div_lt_of_lt_mul hi
  have h2 : i % w < w := Nat.mod_lt _ (by omega)
  have h3 : (y + i / w + 1) * W ≤ H * W := Nat.mul_le_mul_right _ (by omega)
  rw [Nat.succ_mul] at h3
  rw [Nat.mul_comm W H]
  omega

/-- a good frame's numbers -/
structure FrN (m : S_Moving) (f : S_Frame) (W H : Nat) : Prop where
  hw : 1 ≤ f.width.toNat
  ex : f.x = (f.x.toNat : Int)
  ey : f.y = (f.y.toNat : Int)
  ew : f.width = (f.width.toNat : Int)
  eW : m.width = (W : Int)
  fx : f.x.toNat + f.width.toNat ≤ W
  fy : f.y.toNat + f.height.toNat ≤ H
  len : f.pixels.length = f.width.toNat * f.height.toNat
  hW : W ≤ 512
  hH : H ≤ 512

theorem frN {m : S_Moving} {f : S_Frame} (hm : headOk m = true) (hf : fOk m f = true) : FrN m f m.width.toNat m.height.toNat := by
  simp only [headOk, fOk, frOk, Bool.and_eq_true, decide_eq_true_eq] at hm hf
  have h0 := hm.1.1.1
  obtain ⟨⟨h1, h2⟩, h3⟩ := hf
  refine ⟨by omega, by omega, by omega, by omega, by omega, by omega, by omega, ?_, by omega, by omega⟩
  have e1 : f.width = (f.width.toNat : Int) := by omega
  have e2 : f.height = (f.height.toNat : Int) := by omega
  rw [e1, e2] at h2
  exact_mod_cast h2

theorem idx_eq {m : S_Moving} {f : S_Frame} {W H : Nat} (h : FrN m f W H) (i : Nat) (hi : i < f.pixels.length) :
    w64 ((w64 ((w64 ((w64 (f.y + (w64 (Int.tdiv (i : Int) f.width)))) * m.width)) + f.x)) + (Int.tmod (i : Int) f.width)) = ((pixAt W f i : Nat) : Int) := by
  have hl := h.len
  have hlt := pix_lt h.hw h.fx h.fy (by rw [← hl]; exact hi)
  have hWH : W * H ≤ 512 * 512 := Nat.mul_le_mul h.hW h.hH
  have hq : i / f.width.toNat < f.height.toNat := Nat.div_lt_of_lt_mul (by rw [← hl]; exact hi)
  have hr : i % f.width.toNat < f.width.toNat := Nat.mod_lt _ h.hw
  have hy := h.fy
  have hx := h.fx
  have hH := h.hH
  have hW := h.hW
  have e1 : Int.tdiv (i : Int) f.width = ((i / f.width.toNat : Nat) : Int) := (congrArg (Int.tdiv (i : Int)) h.ew).trans (by rw [Int.tdiv_eq_ediv_of_nonneg (by omega)]; rfl)
  have e2 : Int.tmod (i : Int) f.width = ((i % f.width.toNat : Nat) : Int) := (congrArg (Int.tmod (i : Int)) h.ew).trans (by rw [Int.tmod_eq_emod_of_nonneg (by omega)]; rfl)
  unfold pixAt
  rw [e1, e2]
  clear e1 e2
  generalize i / f.width.toNat = q at *
  generalize i % f.width.toNat = r at *
  have e4 : (f.y.toNat + q) * W ≤ 512 * 512 := Nat.mul_le_mul (by omega) hW
  have ey := h.ey
  have ex := h.ex
  have eW := h.eW
  have e3 : (f.y + (q : Int)) * m.width = (((f.y.toNat + q) * W : Nat) : Int) := by rw [eW, Int.natCast_mul]; congr 1; omega
  generalize (f.y.toNat + q) * W = k at *
  rw [w64_id (x := (q : Int)) (by omega) (by omega), w64_id (x := f.y + (q : Int)) (by omega) (by omega), e3, w64_id (x := (k : Int)) (by omega) (by omega), w64_id (x := (k : Int) + f.x) (by omega) (by omega), w64_id (by omega) (by omega)]
  omega
theorem pix_in {m : S_Moving} {f : S_Frame} {W H : Nat} (h : FrN m f W H) (i : Nat) (hi : i < f.pixels.length) : pixAt W f i < W * H := pix_lt h.hw h.fx h.fy (by rw [← h.len]; exact hi)
theorem paint1_len (W : Nat) (f : S_Frame) (l : List Int) (i : Nat) : (paint1 W f l i).length = l.length := by unfold paint1; split <;> simp
theorem paint_len (W : Nat) (f : S_Frame) : ∀ (k : List Nat) (l : List Int), (k.foldl (paint1 W f) l).length = l.length
  | [], l => rfl
  | i :: k, l => by rw [List.foldl_cons, paint_len W f k, paint1_len]
theorem clear_len (W : Nat) (f : S_Frame) : ∀ (k : List Nat) (l : List Int), (k.foldl (clear1 W f) l).length = l.length
  | [], l => rfl
  | i :: k, l => by rw [List.foldl_cons, clear_len W f k]; simp [clear1]

section
variable {m : S_Moving} {f : S_Frame} {W H : Nat}
theorem getD_at (l : List Int) (i : Nat) (h : i < l.length) : l.getD i 0 = l[i] := by rw [List.getD_eq_getElem?_getD, List.getElem?_eq_getElem h]; rfl
theorem s_paint (h : FrN m f W H) (i0 : Int) (l1 : List Int) (l2 : List (List Int)) (now : List Int) (hn : now.length = W * H) : loopM (lp_spec_Screens_55 m i0 f l1 l2) (0, now) = some (paintF W f now) := by
  have hb : f.pixels.length ≤ 262144 := by rw [h.len]; exact Nat.mul_le_mul (show f.width.toNat ≤ 512 by have := h.fx; have := h.hW; omega) (show f.height.toNat ≤ 512 by have := h.fy; have := h.hH; omega)
  refine (fold_range (n := f.pixels.length) (fun (s : List Int) i => ((i : Int), s)) (g := paint1 W f) (I := fun _ s => s.length = W * H) (e1 := fun s => s) (fun i s hi hI => ?_) (fun s hI => ?_) now hn).1
  · simp only [lp_spec_Screens_55, m_spec_Screens_55, decide_eq_true_eq]
    rw [if_pos (by omega), rd_eq hi]
    simp only [Option.bind_some]
    unfold paint1
    rw [getD_at _ _ hi, w64_succ (by omega)]
    by_cases hx : (f.pixels[i] != f.hollow) = true
    · rw [if_pos hx, if_pos hx, ck_eq (by have := h.ew; have := h.hw; omega), idx_eq h i hi]
      simp only [Option.bind_some]
      rw [rd_eq (by rw [hI]; exact pix_in h i hi)]
      simp only [Option.bind_some, Nat.zero_add, Int.toNat_natCast]
      exact ⟨by first | rfl | trivial, by simpa using hI⟩
    · rw [if_neg hx, if_neg hx]
      exact ⟨rfl, hI⟩
  · simp only [lp_spec_Screens_55, m_spec_Screens_55]
    rw [if_neg (by simp)]
theorem i_paint (h : FrN m f W H) (i0 : Int) (l1 : List Int) (l2 : List (List Int)) (now : List Int) (hn : now.length = W * H) : loopM (lp_impl_Screens_53 m i0 f l2 l1) (0, now) = some (paintF W f now) := by
  have hb : f.pixels.length ≤ 262144 := by rw [h.len]; exact Nat.mul_le_mul (show f.width.toNat ≤ 512 by have := h.fx; have := h.hW; omega) (show f.height.toNat ≤ 512 by have := h.fy; have := h.hH; omega)
  refine (fold_range (n := f.pixels.length) (fun (s : List Int) i => ((i : Int), s)) (g := paint1 W f) (I := fun _ s => s.length = W * H) (e1 := fun s => s) (fun i s hi hI => ?_) (fun s hI => ?_) now hn).1
  · simp only [lp_impl_Screens_53, m_impl_Screens_53, decide_eq_true_eq]
    rw [if_pos (by omega), rd_eq hi]
    simp only [Option.bind_some]
    unfold paint1
    rw [getD_at _ _ hi, w64_succ (by omega)]
    by_cases hx : (f.pixels[i] != f.hollow) = true
    · rw [if_pos hx, if_pos hx, ck_eq (by have := h.ew; have := h.hw; omega), idx_eq h i hi]
      simp only [Option.bind_some]
      rw [rd_eq (by rw [hI]; exact pix_in h i hi)]
      simp only [Option.bind_some, Nat.zero_add, Int.toNat_natCast]
      exact ⟨by first | rfl | trivial, by simpa using hI⟩
    · rw [if_neg hx, if_neg hx]
      exact ⟨rfl, hI⟩
  · simp only [lp_impl_Screens_53, m_impl_Screens_53]
    rw [if_neg (by simp)]
theorem s_clear (h : FrN m f W H) (i0 : Int) (out : List (List Int)) (now : List Int) (hn : now.length = W * H) : loopM (lp_spec_Screens_91 m i0 f) (0, out, now) = some (out, clearF W f now) := by
  have hb : f.pixels.length ≤ 262144 := by rw [h.len]; exact Nat.mul_le_mul (show f.width.toNat ≤ 512 by have := h.fx; have := h.hW; omega) (show f.height.toNat ≤ 512 by have := h.fy; have := h.hH; omega)
  refine (fold_range (n := f.pixels.length) (fun (s : List Int) i => ((i : Int), out, s)) (g := clear1 W f) (I := fun _ s => s.length = W * H) (e1 := fun s => (out, s)) (fun i s hi hI => ?_) (fun s hI => ?_) now hn).1
  · simp only [lp_spec_Screens_91, m_spec_Screens_91, decide_eq_true_eq]
    rw [if_pos (by omega), ck_eq (by have := h.ew; have := h.hw; omega), idx_eq h i hi, w64_succ (by omega)]
    simp only [Option.bind_some]
    rw [rd_eq (by rw [hI]; exact pix_in h i hi)]
    simp only [Option.bind_some, Nat.zero_add, Int.toNat_natCast]
    exact ⟨by first | rfl | trivial, by simpa [clear1] using hI⟩
  · simp only [lp_spec_Screens_91, m_spec_Screens_91]
    rw [if_neg (by simp)]
theorem i_clear (h : FrN m f W H) (i0 : Int) (out : List (List Int)) (now : List Int) (hn : now.length = W * H) : loopM (lp_impl_Screens_81 m i0 f) (0, now, out) = some (clearF W f now, out) := by
  have hb : f.pixels.length ≤ 262144 := by rw [h.len]; exact Nat.mul_le_mul (show f.width.toNat ≤ 512 by have := h.fx; have := h.hW; omega) (show f.height.toNat ≤ 512 by have := h.fy; have := h.hH; omega)
  refine (fold_range (n := f.pixels.length) (fun (s : List Int) i => ((i : Int), s, out)) (g := clear1 W f) (I := fun _ s => s.length = W * H) (e1 := fun s => (s, out)) (fun i s hi hI => ?_) (fun s hI => ?_) now hn).1
  · simp only [lp_impl_Screens_81, m_impl_Screens_81, decide_eq_true_eq]
    rw [if_pos (by omega), ck_eq (by have := h.ew; have := h.hw; omega), idx_eq h i hi, w64_succ (by omega)]
    simp only [Option.bind_some]
    rw [rd_eq (by rw [hI]; exact pix_in h i hi)]
    simp only [Option.bind_some, Nat.zero_add, Int.toNat_natCast]
    exact ⟨by first | rfl | trivial, by simpa [clear1] using hI⟩
  · simp only [lp_impl_Screens_81, m_impl_Screens_81]
    rw [if_neg (by simp)]
end
/-- the screens -/
def scr (m : S_Moving) : List (List Int) :=
  if mvOk m = true then (m.frames.foldl (stepF m.width.toNat) (List.replicate (m.width.toNat * m.height.toNat) (-1), [])).2 else []
def ScI (n : Nat) (i : Nat) (s : List Int × List (List Int)) : Prop := s.1.length = n ∧ s.2.length = i ∧ ∀ x ∈ s.2, x.length = n
theorem ScI.step {n i W : Nat} {s : List Int × List (List Int)} (h : ScI n i s) (f : S_Frame) : ScI n (i + 1) (stepF W s f) := by
  obtain ⟨h1, h2, h3⟩ := h
  have hp : (paintF W f s.1).length = n := by rw [paintF, paint_len, h1]
  refine ⟨?_, by simp [stepF, h2], ?_⟩
  · unfold stepF
    simp only
    split
    · exact h1
    · split
      · rw [clearF, clear_len, hp]
      · exact hp
  · intro x hx
    simp only [stepF, List.mem_append, List.mem_singleton] at hx
    rcases hx with hx | rfl
    · exact h3 x hx
    · exact hp
theorem mv_parts {m : S_Moving} (h : mvOk m = true) : headOk m = true ∧ 1 ≤ m.frames.length ∧ m.frames.length ≤ 40 ∧ ∀ f ∈ m.frames, fOk m f = true := by
  unfold mvOk at h
  simp only [Bool.and_eq_true, decide_eq_true_eq] at h
  refine ⟨h.1.1, h.1.2.1, h.1.2.2, fun f hf => ?_⟩
  have h2 := h.2
  cases hq : m.frames.all (fOk m) with
  | false => rw [hq] at h2; simp at h2
  | true => rw [List.all_eq_true] at hq; exact hq f hf
theorem wh_eq {m : S_Moving} (h : headOk m = true) : w64 (m.width * m.height) = ((m.width.toNat * m.height.toNat : Nat) : Int) ∧ m.width.toNat * m.height.toNat ≤ 4096 := by
  simp only [headOk, Bool.and_eq_true, decide_eq_true_eq] at h
  have h0 := h.1.1.1
  have e1 : m.width = (m.width.toNat : Int) := by omega
  have e2 : m.height = (m.height.toNat : Int) := by omega
  have e3 : m.width * m.height = ((m.width.toNat * m.height.toNat : Nat) : Int) := by
    rw [e1, e2]; push_cast; simp
  rw [e3] at h0 ⊢
  exact ⟨w64_id (by omega) (by omega), by omega⟩
theorem spec_scr (m : S_Moving) (hr : Rng m) : m_spec_Screens m = some (scr m) := by
  unfold m_spec_Screens m_spec_Screens_0 scr
  rw [s_good m hr]
  simp only [Option.bind_some]
  by_cases hg : mvOk m = true
  · obtain ⟨hh, h1, h2, hf⟩ := mv_parts hg
    obtain ⟨e1, e2⟩ := wh_eq hh
    rw [if_pos hg, if_pos hg, e1, ck_eq (by omega)]
    simp only [Option.bind_some, Int.toNat_natCast]
    have hfill : loopM (lp_spec_Screens_17 m) (((m.width.toNat * m.height.toNat : Nat) : Int), 0, List.replicate (m.width.toNat * m.height.toNat) 0) = some (List.replicate (m.width.toNat * m.height.toNat) (-1)) := by
      refine replicate_filled _ (by omega) (fun i l hi hl => ?_) (fun l => ?_)
      · simp only [lp_spec_Screens_17, m_spec_Screens_17, decide_eq_true_eq]
        rw [if_pos (by omega), rd_eq (by rw [hl]; exact hi), w64_succ (by omega)]
        rfl
      · simp only [lp_spec_Screens_17, m_spec_Screens_17]
        rw [if_neg (by simp)]
    rw [hfill]
    simp only [Option.bind_some, m_spec_Screens_29]
    have key := fold_list (l := m.frames) (fun (s : List Int × List (List Int)) i => ((i : Int), s.1, s.2)) (g := stepF m.width.toNat) (I := ScI (m.width.toNat * m.height.toNat)) (b := lp_spec_Screens_36 m) (e1 := fun s => s.2)
      (fun i s hi hI => by
        have hfr := frN hh (hf m.frames[i] (List.getElem_mem hi))
        refine ⟨?_, hI.step _⟩
        obtain ⟨s1, s2⟩ := s
        obtain ⟨i1, i2, i3⟩ := hI
        simp only at i1 i2 i3
        have hp : (paintF m.width.toNat m.frames[i] s1).length = m.width.toNat * m.height.toNat := by rw [paintF, paint_len, i1]
        simp only [lp_spec_Screens_36, m_spec_Screens_36, decide_eq_true_eq]
        rw [if_pos (by omega), rd_eq hi]
        simp only [Option.bind_some, List.nil_append]
        rw [ck_eq (by simp; omega)]
        simp only [Option.bind_some]
        rw [s_paint hfr _ _ _ _ i1]
        simp only [Option.bind_some, m_spec_Screens_71]
        rw [ck_eq (by simp; omega)]
        simp only [Option.bind_some, beq_iff_eq, List.nil_append]
        unfold stepF
        simp only
        by_cases c2 : m.frames[i].dispose = 2
        · rw [if_pos c2, if_pos c2, w64_succ (by omega)]
        · rw [if_neg c2, if_neg c2, ck_eq (by simp; omega)]
          simp only [Option.bind_some]
          by_cases c1 : m.frames[i].dispose = 1
          · rw [if_pos c1, if_pos c1, s_clear hfr _ _ _ hp]
            simp only [Option.bind_some, m_spec_Screens_104]
            rw [w64_succ (by omega)]
          · rw [if_neg c1, if_neg c1]
            simp only [m_spec_Screens_104]
            rw [w64_succ (by omega)])
      (fun s hI => by
        simp only [lp_spec_Screens_36, m_spec_Screens_36]
        rw [if_neg (by simp)]) (List.replicate (m.width.toNat * m.height.toNat) (-1), []) ⟨by simp, rfl, by simp⟩
    have k1 := key.1
    simp only [show ((0 : Nat) : Int) = 0 from rfl] at k1
    rw [k1]
    rfl
  · rw [if_neg hg, if_neg hg]
theorem impl_scr (m : S_Moving) (hr : Rng m) : m_impl_Screens m = some (scr m) := by
  unfold m_impl_Screens m_impl_Screens_0 scr
  rw [i_good m hr]
  simp only [Option.bind_some]
  by_cases hg : mvOk m = true
  · obtain ⟨hh, h1, h2, hf⟩ := mv_parts hg
    obtain ⟨e1, e2⟩ := wh_eq hh
    rw [if_pos hg, if_pos hg, e1, ck_eq (by omega)]
    simp only [Option.bind_some, Int.toNat_natCast]
    have hfill : loopM (lp_impl_Screens_17 m) (((m.width.toNat * m.height.toNat : Nat) : Int), 0, List.replicate (m.width.toNat * m.height.toNat) 0) = some (List.replicate (m.width.toNat * m.height.toNat) (-1)) := by
      refine replicate_filled _ (by omega) (fun i l hi hl => ?_) (fun l => ?_)
      · simp only [lp_impl_Screens_17, m_impl_Screens_17, decide_eq_true_eq]
        rw [if_pos (by omega), rd_eq (by rw [hl]; exact hi), w64_succ (by omega)]
        rfl
      · simp only [lp_impl_Screens_17, m_impl_Screens_17]
        rw [if_neg (by simp)]
    rw [hfill]
    simp only [Option.bind_some, m_impl_Screens_29]
    have key := fold_list (l := m.frames) (fun (s : List Int × List (List Int)) i => ((i : Int), s.1, s.2)) (g := stepF m.width.toNat) (I := ScI (m.width.toNat * m.height.toNat)) (b := lp_impl_Screens_36 m) (e1 := fun s => s.2)
      (fun i s hi hI => by
        have hfr := frN hh (hf m.frames[i] (List.getElem_mem hi))
        refine ⟨?_, hI.step _⟩
        obtain ⟨s1, s2⟩ := s
        obtain ⟨i1, i2, i3⟩ := hI
        simp only at i1 i2 i3
        have hp : (paintF m.width.toNat m.frames[i] s1).length = m.width.toNat * m.height.toNat := by rw [paintF, paint_len, i1]
        simp only [lp_impl_Screens_36, m_impl_Screens_36, decide_eq_true_eq]
        rw [if_pos (by omega), rd_eq hi]
        simp only [Option.bind_some]
        rw [ck_eq (by omega)]
        simp only [Option.bind_some]
        rw [i_paint hfr _ _ _ _ i1]
        simp only [Option.bind_some, m_impl_Screens_69]
        rw [ck_eq (by omega)]
        simp only [Option.bind_some]
        rw [ck_eq (by simp; omega)]
        simp only [Option.bind_some, beq_iff_eq]
        unfold stepF
        simp only
        by_cases c1 : m.frames[i].dispose = 1
        · rw [if_pos c1, if_neg (show ¬ m.frames[i].dispose = 2 by omega), if_pos c1, i_clear hfr _ _ _ hp]
          simp only [Option.bind_some, m_impl_Screens_98]
          rw [w64_succ (by omega)]
        · rw [if_neg c1]
          by_cases c2 : m.frames[i].dispose = 2
          · rw [if_pos c2, if_pos c2]
            simp only [m_impl_Screens_98]
            rw [w64_succ (by omega)]
          · rw [if_neg c2, if_neg c2, if_neg c1]
            simp only [m_impl_Screens_98]
            rw [w64_succ (by omega)])
      (fun s hI => by
        simp only [lp_impl_Screens_36, m_impl_Screens_36]
        rw [if_neg (by simp)]) (List.replicate (m.width.toNat * m.height.toNat) (-1), []) ⟨by simp, rfl, by simp⟩
    have k1 := key.1
    simp only [show ((0 : Nat) : Int) = 0 from rfl] at k1
    rw [k1]
    rfl
  · rw [if_neg hg, if_neg hg]
theorem scr_small (m : S_Moving) : (scr m).length ≤ 1048576 ∧ ∀ y ∈ scr m, y.length ≤ 1048576 := by
  unfold scr
  split
  · rename_i hg
    obtain ⟨hh, h1, h2, hf⟩ := mv_parts hg
    obtain ⟨e1, e2⟩ := wh_eq hh
    have key : ∀ (k : List S_Frame) (i : Nat) (s : List Int × List (List Int)), ScI (m.width.toNat * m.height.toNat) i s → ScI (m.width.toNat * m.height.toNat) (i + k.length) (k.foldl (stepF m.width.toNat) s) := by
      intro k
      induction k with
      | nil => intro i s h; exact h
      | cons f k ih => intro i s h; have := ih (i + 1) _ (h.step (W := m.width.toNat) f); rw [List.foldl_cons, List.length_cons, show i + (k.length + 1) = i + 1 + k.length by omega]; exact this
    obtain ⟨k1, k2, k3⟩ := key m.frames 0 (List.replicate (m.width.toNat * m.height.toNat) (-1), []) ⟨by simp, rfl, by simp⟩
    exact ⟨by omega, fun y hy => by rw [k3 y hy]; omega⟩
  · simp
end Go.Proofs.V

/- printed by a program: what the helpers of a law answer -/
set_option linter.unusedSimpArgs false
set_option linter.unusedVariables false
set_option maxRecDepth 100000
namespace Go.Proofs.V
open Go
def wfS_Frame (x : S_Frame) : Prop := inK .i64 x.x ∧ inK .i64 x.y ∧ inK .i64 x.width ∧ inK .i64 x.height ∧ inK .i64 x.delay ∧ inK .i64 x.dispose ∧ inK .i64 x.hollow ∧ (x.pixels.length ≤ maxLen ∧ ∀ y0 ∈ x.pixels, inK .i64 y0) ∧ True
def wfS_Moving (x : S_Moving) : Prop := inK .i64 x.width ∧ inK .i64 x.height ∧ (x.palette.length ≤ maxLen ∧ ∀ y0 ∈ x.palette, inK .i64 y0) ∧ inK .i64 x.loops ∧ (x.frames.length ≤ maxLen ∧ ∀ y0 ∈ x.frames, wfS_Frame y0) ∧ True
theorem sz_IntS (x : (List Int)) (hx : (x.length ≤ maxLen ∧ ∀ y0 ∈ x, inK .i64 y0)) (left : Int) (h0 : 0 ≤ left) (h1 : left ≤ 1048576) : ∃ v, m_laws_szIntS x left = some v ∧ (v < 0 ∨ 0 ≤ v ∧ v ≤ left ∧ x.length ≤ 1048576) := by
  have hm : x.length ≤ 9223372036854775807 := hx.1
  simp only [m_laws_szIntS, m_laws_szIntS_0]
  rw [w64_id (by omega) (by omega)]
  simp only [decide_eq_true_eq]
  by_cases h : left - (x.length : Int) < 0
  · exact ⟨-1, if_pos h, .inl (by omega)⟩
  · exact ⟨_, if_neg h, .inr ⟨by omega, by omega, by omega⟩⟩

def Sm_S_Frame (x : S_Frame) : Prop := x.pixels.length ≤ 1048576
theorem sz_Frame (x : S_Frame) (hx : wfS_Frame x) (left : Int) (h0 : 0 ≤ left) (h1 : left ≤ 1048576) : ∃ v, m_laws_szFrame x left = some v ∧ (v < 0 ∨ 0 ≤ v ∧ v ≤ left ∧ Sm_S_Frame x) := by
  simp only [m_laws_szFrame, m_laws_szFrame_0]
  obtain ⟨v1, e1, c1⟩ := sz_IntS x.pixels (hx.2.2.2.2.2.2.2.1) left (by omega) (by omega)
  rw [e1]
  simp only [Option.bind_some, decide_eq_true_eq]
  rcases c1 with c1 | ⟨d1, f1, g1⟩
  · exact ⟨-1, by rw [if_pos c1], .inl (by omega)⟩
  rw [if_neg (by omega)]
  exact ⟨_, rfl, .inr ⟨by omega, by omega, g1⟩⟩

theorem sz_FrameS (x : (List S_Frame)) (hx : (x.length ≤ maxLen ∧ ∀ y0 ∈ x, wfS_Frame y0)) (left : Int) (h0 : 0 ≤ left) (h1 : left ≤ 1048576) : ∃ v, m_laws_szFrameS x left = some v ∧ (v < 0 ∨ 0 ≤ v ∧ v ≤ left ∧ (x.length ≤ 1048576 ∧ ∀ y0 ∈ x, Sm_S_Frame y0)) := by
  have hm : x.length ≤ 9223372036854775807 := hx.1
  simp only [m_laws_szFrameS, m_laws_szFrameS_0, m_laws_szFrameS_35]
  rw [w64_id (by omega) (by omega)]
  simp only [decide_eq_true_eq]
  by_cases h : left - (x.length : Int) < 0
  · exact ⟨-1, if_pos h, .inl (by omega)⟩
  rw [if_neg h]
  have key := sz_list (l := x) (b := lp_laws_szFrameS_17 x) (Sm := fun y => Sm_S_Frame y) (fun left i hi h0 h1 => ?_) (fun left => ?_) (left - x.length) (by omega) (by omega)
  · obtain ⟨e, he, hr⟩ := key
    rw [he]
    rcases hr with rfl | ⟨s, rfl, h3, h4, h5⟩
    · exact ⟨-1, rfl, .inl (by omega)⟩
    · exact ⟨s, rfl, .inr ⟨h3, by omega, by omega, h5⟩⟩
  · simp only [lp_laws_szFrameS_17, m_laws_szFrameS_17]
    rw [if_pos (by simp <;> omega), rd_eq hi]
    simp only [Option.bind_some]
    obtain ⟨v, hv, hc⟩ := sz_Frame x[i] (hx.2 _ (List.getElem_mem hi)) left h0 h1
    rw [hv]
    simp only [Option.bind_some]
    rcases hc with hc | hc
    · left; rw [if_pos (by simpa using hc)]
    · right; rw [if_neg (by simp <;> omega), w64_succ (by omega)]
      exact ⟨_, rfl, hc.1, hc.2.1, hc.2.2⟩
  · simp only [lp_laws_szFrameS_17, m_laws_szFrameS_17]
    rw [if_neg (by simp)]

def Sm_S_Moving (x : S_Moving) : Prop := x.palette.length ≤ 1048576 ∧ (x.frames.length ≤ 1048576 ∧ ∀ y0 ∈ x.frames, Sm_S_Frame y0)
theorem sz_Moving (x : S_Moving) (hx : wfS_Moving x) (left : Int) (h0 : 0 ≤ left) (h1 : left ≤ 1048576) : ∃ v, m_laws_szMoving x left = some v ∧ (v < 0 ∨ 0 ≤ v ∧ v ≤ left ∧ Sm_S_Moving x) := by
  simp only [m_laws_szMoving, m_laws_szMoving_0]
  obtain ⟨v1, e1, c1⟩ := sz_IntS x.palette (hx.2.2.1) left (by omega) (by omega)
  rw [e1]
  simp only [Option.bind_some, decide_eq_true_eq]
  rcases c1 with c1 | ⟨d1, f1, g1⟩
  · exact ⟨-1, by rw [if_pos c1], .inl (by omega)⟩
  rw [if_neg (by omega)]
  obtain ⟨v2, e2, c2⟩ := sz_FrameS x.frames (hx.2.2.2.2.1) v1 (by omega) (by omega)
  rw [e2]
  simp only [Option.bind_some, decide_eq_true_eq]
  rcases c2 with c2 | ⟨d2, f2, g2⟩
  · exact ⟨-1, by rw [if_pos c2], .inl (by omega)⟩
  rw [if_neg (by omega)]
  exact ⟨_, rfl, .inr ⟨by omega, by omega, g1, g2⟩⟩

theorem to_IntS (x : (List Int)) (hx : x.length ≤ 1048576) : m_laws_toIntS x = some x := by
  have hl : x.length ≤ 1048576 := hx
  simp only [m_laws_toIntS, m_laws_toIntS_0, m_laws_toIntS_19]
  rw [ck_eq (by omega)]
  simp only [Option.bind_some]
  suffices key : ∀ z, loopM (lp_laws_toIntS_9 x) (0, List.replicate (Int.toNat (x.length : Int)) z) = some x by
    rw [key]
    rfl
  intro z
  refine to_list (l := x) (fun i out hi ho => ?_) (fun out => ?_) z
  · simp only [lp_laws_toIntS_9, m_laws_toIntS_9]
    rw [if_pos (by simp <;> omega), rd_eq hi]
    simp only [Option.bind_some]
    rw [rd_eq (by omega)]
    simp only [Option.bind_some]
    rw [w64_succ (by omega)]
  · simp only [lp_laws_toIntS_9, m_laws_toIntS_9]
    rw [if_neg (by simp)]

theorem to_Frame (x : S_Frame) (hx : Sm_S_Frame x) : m_laws_toFrame x = some x := by
  simp only [m_laws_toFrame, m_laws_toFrame_0]
  rw [to_IntS x.pixels hx]
  simp only [Option.bind_some]

theorem to_FrameS (x : (List S_Frame)) (hx : (x.length ≤ 1048576 ∧ ∀ y0 ∈ x, Sm_S_Frame y0)) : m_laws_toFrameS x = some x := by
  have hl : x.length ≤ 1048576 := hx.1
  simp only [m_laws_toFrameS, m_laws_toFrameS_0, m_laws_toFrameS_19]
  rw [ck_eq (by omega)]
  simp only [Option.bind_some]
  suffices key : ∀ z, loopM (lp_laws_toFrameS_9 x) (0, List.replicate (Int.toNat (x.length : Int)) z) = some x by
    rw [key]
    rfl
  intro z
  refine to_list (l := x) (fun i out hi ho => ?_) (fun out => ?_) z
  · simp only [lp_laws_toFrameS_9, m_laws_toFrameS_9]
    rw [if_pos (by simp <;> omega), rd_eq hi]
    simp only [Option.bind_some]
    rw [to_Frame x[i] (hx.2 _ (List.getElem_mem hi))]
    simp only [Option.bind_some]
    rw [rd_eq (by omega)]
    simp only [Option.bind_some]
    rw [w64_succ (by omega)]
  · simp only [lp_laws_toFrameS_9, m_laws_toFrameS_9]
    rw [if_neg (by simp)]

theorem to_Moving (x : S_Moving) (hx : Sm_S_Moving x) : m_laws_toMoving x = some x := by
  simp only [m_laws_toMoving, m_laws_toMoving_0]
  rw [to_IntS x.palette hx.1]
  simp only [Option.bind_some]
  rw [to_FrameS x.frames hx.2]
  simp only [Option.bind_some]

theorem eq_IntS (x : (List Int)) (hx : x.length ≤ 1048576) : m_laws_eqIntS x x = some true := by
  have hl : x.length ≤ 1048576 := hx
  simp only [m_laws_eqIntS, m_laws_eqIntS_0, m_laws_eqIntS_31]
  rw [if_neg (by simp)]
  suffices key : loopM (lp_laws_eqIntS_15 x x) 0 = some (.inr ()) by
    rw [key]
    rfl
  refine eq_list (n := x.length) (fun i hi => ?_) ?_
  · simp only [lp_laws_eqIntS_15, m_laws_eqIntS_15]
    rw [if_pos (by simp <;> omega), rd_eq hi]
    simp only [Option.bind_some]
    rw [if_neg (by simp), w64_succ (by omega)]
  · simp only [lp_laws_eqIntS_15, m_laws_eqIntS_15]
    rw [if_neg (by simp)]

theorem eq_IntSS (x : (List (List Int))) (hx : (x.length ≤ 1048576 ∧ ∀ y0 ∈ x, y0.length ≤ 1048576)) : m_laws_eqIntSS x x = some true := by
  have hl : x.length ≤ 1048576 := hx.1
  simp only [m_laws_eqIntSS, m_laws_eqIntSS_0, m_laws_eqIntSS_31]
  rw [if_neg (by simp)]
  suffices key : loopM (lp_laws_eqIntSS_15 x x) 0 = some (.inr ()) by
    rw [key]
    rfl
  refine eq_list (n := x.length) (fun i hi => ?_) ?_
  · simp only [lp_laws_eqIntSS_15, m_laws_eqIntSS_15]
    rw [if_pos (by simp <;> omega), rd_eq hi]
    simp only [Option.bind_some]
    rw [eq_IntS x[i] (hx.2 _ (List.getElem_mem hi))]
    simp only [Option.bind_some, if_true]
    rw [w64_succ (by omega)]
  · simp only [lp_laws_eqIntSS_15, m_laws_eqIntSS_15]
    rw [if_neg (by simp)]

theorem eq_Frame (x : S_Frame) (hx : Sm_S_Frame x) : m_laws_eqFrame x x = some true := by
  simp only [m_laws_eqFrame, m_laws_eqFrame_0]
  rw [if_neg (by simp)]
  rw [if_neg (by simp)]
  rw [if_neg (by simp)]
  rw [if_neg (by simp)]
  rw [if_neg (by simp)]
  rw [if_neg (by simp)]
  rw [if_neg (by simp)]
  rw [eq_IntS x.pixels hx]
  simp only [Option.bind_some, if_true]

theorem eq_FrameS (x : (List S_Frame)) (hx : (x.length ≤ 1048576 ∧ ∀ y0 ∈ x, Sm_S_Frame y0)) : m_laws_eqFrameS x x = some true := by
  have hl : x.length ≤ 1048576 := hx.1
  simp only [m_laws_eqFrameS, m_laws_eqFrameS_0, m_laws_eqFrameS_31]
  rw [if_neg (by simp)]
  suffices key : loopM (lp_laws_eqFrameS_15 x x) 0 = some (.inr ()) by
    rw [key]
    rfl
  refine eq_list (n := x.length) (fun i hi => ?_) ?_
  · simp only [lp_laws_eqFrameS_15, m_laws_eqFrameS_15]
    rw [if_pos (by simp <;> omega), rd_eq hi]
    simp only [Option.bind_some]
    rw [eq_Frame x[i] (hx.2 _ (List.getElem_mem hi))]
    simp only [Option.bind_some, if_true]
    rw [w64_succ (by omega)]
  · simp only [lp_laws_eqFrameS_15, m_laws_eqFrameS_15]
    rw [if_neg (by simp)]

theorem eq_Moving (x : S_Moving) (hx : Sm_S_Moving x) : m_laws_eqMoving x x = some true := by
  simp only [m_laws_eqMoving, m_laws_eqMoving_0]
  rw [if_neg (by simp)]
  rw [if_neg (by simp)]
  rw [eq_IntS x.palette hx.1]
  simp only [Option.bind_some, if_true]
  rw [if_neg (by simp)]
  rw [eq_FrameS x.frames hx.2]
  simp only [Option.bind_some, if_true]

theorem mark_IntS (x : (List Int)) (k : Nat) (hx : x.length ≤ 1048576) (hk : k + 1048576 ≤ 4611686018427387904) : ∃ (x' : (List Int)) (k' : Nat), m_laws_markIntS x k = some ((k' : Int), x') ∧ x'.length = x.length ∧ k ≤ k' ∧ k' ≤ k + 1048576 ∧ m_laws_heldIntS x' k = some (k' : Int) := by
  have hl : x.length ≤ 1048576 := hx
  have hlc : x.length * 1 ≤ 1048576 := by omega
  have key := mark_list (Sm := fun y => True) 1 (b := lp_laws_markIntS_7) (bh := lp_laws_heldIntS_7) (fun l i k hi hl hk hs => ?_) (fun l k => ?_) (fun l k => ?_) x k hl (by omega) (fun _ _ => trivial)
  · obtain ⟨l1, k1, e1, e2, e3, e4, e5⟩ := key
    refine ⟨l1, k1, ?_, e2, e3, by omega, ?_⟩
    · simp only [m_laws_markIntS, m_laws_markIntS_0]
      rw [e1]
      rfl
    · simp only [m_laws_heldIntS, m_laws_heldIntS_0]
      rw [e5]
      rfl
  · refine ⟨(k : Int), k + 1, ?_, by omega, by omega, fun l' h' hl' hx' => ?_⟩
    · simp only [lp_laws_markIntS_7, m_laws_markIntS_7]
      rw [if_pos (by simp <;> omega), rd_eq hi]
      simp only [Option.bind_some]
      rw [w64_succ (by omega), w64_succ (by omega)]
      simp
    · simp only [lp_laws_heldIntS_7, m_laws_heldIntS_7]
      rw [if_pos (by simp <;> omega), rd_eq h', hx']
      simp only [Option.bind_some]
      rw [if_neg (by simp), w64_succ (by omega), w64_succ (by omega)]
  · simp only [lp_laws_markIntS_7, m_laws_markIntS_7]
    rw [if_neg (by simp)]
  · simp only [lp_laws_heldIntS_7, m_laws_heldIntS_7]
    rw [if_neg (by simp)]

theorem mark_FrameS (x : (List S_Frame)) (k : Nat) (hx : (x.length ≤ 1048576 ∧ ∀ y0 ∈ x, Sm_S_Frame y0)) (hk : k + 1099518967808 ≤ 4611686018427387904) : ∃ (x' : (List S_Frame)) (k' : Nat), m_laws_markFrameS x k = some ((k' : Int), x') ∧ x'.length = x.length ∧ k ≤ k' ∧ k' ≤ k + 1099518967808 := by
  have hl : x.length ≤ 1048576 := hx.1
  have hlc : x.length * 1048583 ≤ 1099518967808 := by omega
  have key := mark_list0 (Sm := fun y => Sm_S_Frame y) 1048583 (b := lp_laws_markFrameS_7) (fun l i k hi hl hk hs => ?_) (fun l k => ?_) x k hl (by omega) hx.2
  · obtain ⟨l1, k1, e1, e2, e3, e4⟩ := key
    refine ⟨l1, k1, ?_, e2, e3, by omega⟩
    · simp only [m_laws_markFrameS, m_laws_markFrameS_0]
      rw [e1]
      rfl
  · skip
    obtain ⟨y0, k0, a0, b0, c0, d0, e0⟩ := mark_IntS l[i].pixels (k + 1 + 1 + 1 + 1 + 1 + 1 + 1) hs (by omega)
    refine ⟨⟨(k : Int), ((k + 1 : Nat) : Int), ((k + 1 + 1 : Nat) : Int), ((k + 1 + 1 + 1 : Nat) : Int), ((k + 1 + 1 + 1 + 1 : Nat) : Int), ((k + 1 + 1 + 1 + 1 + 1 : Nat) : Int), ((k + 1 + 1 + 1 + 1 + 1 + 1 : Nat) : Int), y0⟩, k0, ?_, by omega, by omega⟩
    · simp only [lp_laws_markFrameS_7, m_laws_markFrameS_7]
      rw [if_pos (by simp <;> omega), rd_eq hi]
      simp only [Option.bind_some]
      simp (disch := omega) only [w64_succ]
      rw [a0]
      simp only [Option.bind_some]
      rw [ck_eq b0]
      simp only [Option.bind_some]
      try simp (disch := omega) only [w64_succ]
      simp
  · simp only [lp_laws_markFrameS_7, m_laws_markFrameS_7]
    rw [if_neg (by simp)]

theorem mark_Moving (x : S_Moving) (k : Nat) (hx : Sm_S_Moving x) (hk : k + 1099520016384 ≤ 4611686018427387904) : ∃ (l_palette : (List Int)) (l_frames : (List S_Frame)) (k' : Nat), m_laws_markMoving x k = some ((k' : Int), (⟨x.width, x.height, l_palette, x.loops, l_frames⟩ : S_Moving)) ∧ l_palette.length = x.palette.length ∧ l_frames.length = x.frames.length ∧ k ≤ k' ∧ k' ≤ k + 1099520016384 := by
  obtain ⟨y0, k0, a0, b0, c0, d0, e0⟩ := mark_IntS x.palette k hx.1 (by omega)
  obtain ⟨y1, k1, a1, b1, c1, d1⟩ := mark_FrameS x.frames k0 hx.2 (by omega)
  refine ⟨y0, y1, k1, ?_, b0, b1, by omega, by omega⟩
  · simp only [m_laws_markMoving, m_laws_markMoving_0]
    rw [a0]
    simp only [Option.bind_some]
    rw [ck_eq b0]
    simp only [Option.bind_some]
    rw [a1]
    simp only [Option.bind_some]
    rw [ck_eq b1]
    simp only [Option.bind_some]
    try rfl

theorem mark_IntSS (x : (List (List Int))) (k : Nat) (hx : (x.length ≤ 1048576 ∧ ∀ y0 ∈ x, y0.length ≤ 1048576)) (hk : k + 1099511627776 ≤ 4611686018427387904) : ∃ (x' : (List (List Int))) (k' : Nat), m_laws_markIntSS x k = some ((k' : Int), x') ∧ x'.length = x.length ∧ k ≤ k' ∧ k' ≤ k + 1099511627776 ∧ m_laws_heldIntSS x' k = some (k' : Int) := by
  have hl : x.length ≤ 1048576 := hx.1
  have hlc : x.length * 1048576 ≤ 1099511627776 := by omega
  have key := mark_list (Sm := fun y => y.length ≤ 1048576) 1048576 (b := lp_laws_markIntSS_7) (bh := lp_laws_heldIntSS_7) (fun l i k hi hl hk hs => ?_) (fun l k => ?_) (fun l k => ?_) x k hl (by omega) hx.2
  · obtain ⟨l1, k1, e1, e2, e3, e4, e5⟩ := key
    refine ⟨l1, k1, ?_, e2, e3, by omega, ?_⟩
    · simp only [m_laws_markIntSS, m_laws_markIntSS_0]
      rw [e1]
      rfl
    · simp only [m_laws_heldIntSS, m_laws_heldIntSS_0]
      rw [e5]
      rfl
  · obtain ⟨y, k2, f1, f2, f3, f4, f5⟩ := mark_IntS l[i] k hs (by omega)
    refine ⟨y, k2, ?_, f3, f4, fun l' h' hl' hx' => ?_⟩
    · simp only [lp_laws_markIntSS_7, m_laws_markIntSS_7]
      rw [if_pos (by simp <;> omega), rd_eq hi]
      simp only [Option.bind_some]
      rw [f1]
      simp only [Option.bind_some]
      rw [ck_eq f2]
      simp only [Option.bind_some]
      rw [w64_succ (by omega)]
      simp
    · simp only [lp_laws_heldIntSS_7, m_laws_heldIntSS_7]
      rw [if_pos (by simp <;> omega), rd_eq h', hx']
      simp only [Option.bind_some]
      rw [f5]
      simp only [Option.bind_some]
      rw [if_neg (by simp <;> omega), w64_succ (by omega)]
  · simp only [lp_laws_markIntSS_7, m_laws_markIntSS_7]
    rw [if_neg (by simp)]
  · simp only [lp_laws_heldIntSS_7, m_laws_heldIntSS_7]
    rw [if_neg (by simp)]

theorem plain_FnExactScreens (p0 : S_Moving) (hp0 : wfS_Moving p0) (core : (Sm_S_Moving p0) → ∃ w : (List (List Int)), m_spec_Screens p0 = some w ∧ m_impl_Screens p0 = some w ∧ (w.length ≤ 1048576 ∧ ∀ y0 ∈ w, y0.length ≤ 1048576)) : m_laws_FnExactScreens p0 = some true := by
  simp only [m_laws_FnExactScreens, m_laws_FnExactScreens_0, decide_eq_true_eq]
  obtain ⟨v1, e1, c1⟩ := sz_Moving p0 hp0 1048576 (by omega) (by omega)
  rw [e1]
  simp only [Option.bind_some, decide_eq_true_eq]
  rcases c1 with c1 | c1
  · rw [if_pos (by simpa using c1)]
  rw [if_neg (by simp <;> omega)]
  have sm_p0 : Sm_S_Moving p0 := c1.2.2
  rw [to_Moving p0 sm_p0]
  simp only [Option.bind_some]
  obtain ⟨w, hsp, him, sm0⟩ := core sm_p0
  rw [hsp]
  simp only [Option.bind_some]
  rw [him]
  simp only [Option.bind_some]
  rw [eq_IntSS w sm0]
  simp only [Option.bind_some, if_true]
  rw [eq_Moving p0 sm_p0]
  simp only [Option.bind_some, if_true]
  obtain ⟨y1_0, y1_1, k1, a1, b1_0, b1_1, c1x, d1⟩ := mark_Moving p0 1 sm_p0 (by omega)
  replace a1 : m_laws_markMoving p0 1 = _ := a1
  rw [a1]
  simp only [Option.bind_some]
  rw [ck_eq (by first | assumption | rfl)]
  simp only [Option.bind_some]
  rw [ck_eq (by first | assumption | rfl)]
  simp only [Option.bind_some]
  rw [if_neg (by simp <;> omega)]
  obtain ⟨y2, k2, a2, b2, c2x, d2, f2⟩ := mark_IntSS w 1 sm0 (by omega)
  replace a2 : m_laws_markIntSS w 1 = _ := a2
  rw [a2]
  simp only [Option.bind_some]
  replace f2 : m_laws_heldIntSS _ 1 = _ := f2
  rw [ck_eq (by first | assumption | rfl)]
  simp only [Option.bind_some]
  rw [f2]
  simp only [Option.bind_some]
  rw [if_neg (by simp <;> omega)]
  rw [if_neg (by simp)]

end Go.Proofs.V

/- The law of Screens, plain. -/
set_option linter.unusedVariables false
namespace Go.Proofs.V
open Go
theorem final_FnExactScreens (x : S_Moving) (w : wfS_Moving x) : m_laws_FnExactScreens x = some true := by
  refine plain_FnExactScreens x w fun hs => ?_
  obtain ⟨⟨a1, a2⟩, ⟨b1, b2⟩, c, d, e, _⟩ := w
  obtain ⟨s1, s2, s3⟩ := hs
  have hr : Rng x := by
    refine ⟨⟨a1, a2⟩, ⟨b1, b2⟩, s1, s2, fun f hf => ?_⟩
    obtain ⟨⟨g1, g2⟩, ⟨h1, h2⟩, ⟨i1, i2⟩, ⟨j1, j2⟩, _⟩ := e.2 f hf
    have := s3 f hf
    exact ⟨this, ⟨i1, i2⟩, ⟨j1, j2⟩, ⟨g1, g2⟩, ⟨h1, h2⟩⟩
  exact ⟨scr x, spec_scr x hr, impl_scr x hr, scr_small x⟩
end Go.Proofs.V

/- printed by a program: the plain functions, the code and the proofs of one law -/
set_option linter.unusedVariables false
set_option maxRecDepth 100000
namespace Go.Proofs.V
open Go
def c_laws_szIntS_7 : VC :=
  .ite (.s 10) (.seq (.r 3 [⟨none, [], none, .mv 4 (.k (.int .i64 (-1)))⟩]) (.ret)) (.skip)
def c_laws_szIntS_12 : VC :=
  .seq (.r 4 [⟨none, [], none, .mv 11 (.s 1)⟩,
    ⟨none, [], none, .mv 4 (.s 11)⟩]) (.ret)
def c_laws_szIntS_4 : VC :=
  .seq (.seq (.r 2 [⟨none, [], none, .mv 9 (.s 1)⟩,
    ⟨none, [], none, .bin 10 .lss (.s 9) (.k (.int .i64 0))⟩]) c_laws_szIntS_7) c_laws_szIntS_12
def c_laws_szIntS_2 : VC :=
  .seq (.r 1 [⟨none, [], none, .mv 5 (.s 1)⟩,
    ⟨none, [], none, .mv 6 (.s 0)⟩,
    ⟨none, [], none, .len 7 (.s 6)⟩,
    ⟨none, [], none, .bin 8 .sub (.s 5) (.s 7)⟩,
    ⟨none, [], none, .mv 1 (.s 8)⟩]) c_laws_szIntS_4
def c_laws_szIntS_0 : VC :=
  .seq (.r 0 [⟨none, [], none, .mv 4 (.k (.int .i64 0))⟩]) c_laws_szIntS_2
def vf_laws_szIntS : VF := { pm := [.ro [.ro [.sc]], .ro [.sc]], rm := [.v [.sc]], nslots := 12, res := [4], rc := [], code := .kp [0, 1] c_laws_szIntS_0 }
def c_laws_szFrame_7 : VC :=
  .ite (.s 10) (.seq (.r 3 [⟨none, [], none, .mv 4 (.k (.int .i64 (-1)))⟩]) (.ret)) (.skip)
def c_laws_szFrame_12 : VC :=
  .seq (.r 4 [⟨none, [], none, .mv 11 (.s 1)⟩,
    ⟨none, [], none, .mv 4 (.s 11)⟩]) (.ret)
def c_laws_szFrame_4 : VC :=
  .seq (.seq (.r 2 [⟨none, [], none, .mv 9 (.s 1)⟩,
    ⟨none, [], none, .bin 10 .lss (.s 9) (.k (.int .i64 0))⟩]) c_laws_szFrame_7) c_laws_szFrame_12
def c_laws_szFrame_2 : VC :=
  .seq (.r 1 [⟨none, [], none, .fadr 5 (.s 2) 7⟩,
    ⟨none, [], none, .ld 6 (.s 5) 1 false⟩,
    ⟨none, [], none, .mv 7 (.s 1)⟩,
    ⟨none, [], none, .call 8 95 [(.s 6), (.s 7)]⟩,
    ⟨none, [], none, .mv 1 (.s 8)⟩]) c_laws_szFrame_4
def c_laws_szFrame_0 : VC :=
  .seq (.r 0 [⟨none, [], none, .box 2 (.s 0)⟩,
    ⟨none, [], none, .mv 4 (.k (.int .i64 0))⟩]) c_laws_szFrame_2
def vf_laws_szFrame : VF := { pm := [.ro [.sc, .sc, .sc, .sc, .sc, .sc, .sc, .ro [.sc]], .ro [.sc]], rm := [.v [.sc]], nslots := 12, res := [4], rc := [], code := .kp [0, 1] c_laws_szFrame_0 }
def c_laws_szFrameS_7 : VC :=
  .ite (.s 11) (.seq (.r 3 [⟨none, [], none, .mv 4 (.k (.int .i64 (-1)))⟩]) (.ret)) (.skip)
def c_laws_szFrameS_20 : VC :=
  .ite (.s 15) (.skip) (.exit 0)
def c_laws_szFrameS_29 : VC :=
  .ite (.s 25) (.seq (.r 9 [⟨none, [], none, .mv 4 (.k (.int .i64 (-1)))⟩]) (.ret)) (.skip)
def c_laws_szFrameS_27 : VC :=
  .seq (.r 8 [⟨none, [], none, .mv 24 (.s 1)⟩,
    ⟨none, [], none, .bin 25 .lss (.s 24) (.k (.int .i64 0))⟩]) c_laws_szFrameS_29
def c_laws_szFrameS_34 : VC :=
  .r 6 [⟨none, [], none, .mv 16 (.s 5)⟩,
    ⟨none, [], none, .bin 17 .add (.s 16) (.k (.int .i64 1))⟩,
    ⟨none, [], none, .mv 5 (.s 17)⟩]
def c_laws_szFrameS_23 : VC :=
  .seq (.blk 1 (.seq (.r 7 [⟨none, [], none, .mv 18 (.s 0)⟩,
    ⟨none, [], none, .mv 19 (.s 5)⟩,
    ⟨none, [], none, .iadr 20 (.s 18) (.s 19) 8⟩,
    ⟨none, [], none, .ld 21 (.s 20) 8 true⟩,
    ⟨none, [], none, .mv 22 (.s 1)⟩,
    ⟨none, [], none, .call 23 180 [(.s 21), (.s 22)]⟩,
    ⟨none, [], none, .mv 1 (.s 23)⟩]) c_laws_szFrameS_27)) c_laws_szFrameS_34
def c_laws_szFrameS_17 : VC :=
  .seq (.seq (.r 5 [⟨none, [], none, .mv 12 (.s 5)⟩,
    ⟨none, [], none, .mv 13 (.s 0)⟩,
    ⟨none, [], none, .len 14 (.s 13)⟩,
    ⟨none, [], none, .bin 15 .lss (.s 12) (.s 14)⟩]) c_laws_szFrameS_20) c_laws_szFrameS_23
def c_laws_szFrameS_15 : VC :=
  .blk 0 (.loop [0, 1, 5] c_laws_szFrameS_17)
def c_laws_szFrameS_35 : VC :=
  .seq (.r 10 [⟨none, [], none, .mv 26 (.s 1)⟩,
    ⟨none, [], none, .mv 4 (.s 26)⟩]) (.ret)
def c_laws_szFrameS_12 : VC :=
  .seq (.seq (.r 4 [⟨none, [], none, .mv 5 (.k (.int .i64 0))⟩]) c_laws_szFrameS_15) (.kp [1] c_laws_szFrameS_35)
def c_laws_szFrameS_4 : VC :=
  .seq (.seq (.r 2 [⟨none, [], none, .mv 10 (.s 1)⟩,
    ⟨none, [], none, .bin 11 .lss (.s 10) (.k (.int .i64 0))⟩]) c_laws_szFrameS_7) c_laws_szFrameS_12
def c_laws_szFrameS_2 : VC :=
  .seq (.r 1 [⟨none, [], none, .mv 6 (.s 1)⟩,
    ⟨none, [], none, .mv 7 (.s 0)⟩,
    ⟨none, [], none, .len 8 (.s 7)⟩,
    ⟨none, [], none, .bin 9 .sub (.s 6) (.s 8)⟩,
    ⟨none, [], none, .mv 1 (.s 9)⟩]) c_laws_szFrameS_4
def c_laws_szFrameS_0 : VC :=
  .seq (.r 0 [⟨none, [], none, .mv 4 (.k (.int .i64 0))⟩]) c_laws_szFrameS_2
def vf_laws_szFrameS : VF := { pm := [.ro [.ro [.sc, .sc, .sc, .sc, .sc, .sc, .sc, .ro [.sc]]], .ro [.sc]], rm := [.v [.sc]], nslots := 27, res := [4], rc := [], code := .kp [0, 1] c_laws_szFrameS_0 }
def c_laws_szMoving_7 : VC :=
  .ite (.s 10) (.seq (.r 3 [⟨none, [], none, .mv 4 (.k (.int .i64 (-1)))⟩]) (.ret)) (.skip)
def c_laws_szMoving_17 : VC :=
  .ite (.s 16) (.seq (.r 6 [⟨none, [], none, .mv 4 (.k (.int .i64 (-1)))⟩]) (.ret)) (.skip)
def c_laws_szMoving_22 : VC :=
  .seq (.r 7 [⟨none, [], none, .mv 17 (.s 1)⟩,
    ⟨none, [], none, .mv 4 (.s 17)⟩]) (.ret)
def c_laws_szMoving_14 : VC :=
  .seq (.seq (.r 5 [⟨none, [], none, .mv 15 (.s 1)⟩,
    ⟨none, [], none, .bin 16 .lss (.s 15) (.k (.int .i64 0))⟩]) c_laws_szMoving_17) c_laws_szMoving_22
def c_laws_szMoving_12 : VC :=
  .seq (.r 4 [⟨none, [], none, .fadr 11 (.s 2) 4⟩,
    ⟨none, [], none, .ld 12 (.s 11) 1 false⟩,
    ⟨none, [], none, .mv 13 (.s 1)⟩,
    ⟨none, [], none, .call 14 123 [(.s 12), (.s 13)]⟩,
    ⟨none, [], none, .mv 1 (.s 14)⟩]) c_laws_szMoving_14
def c_laws_szMoving_4 : VC :=
  .seq (.seq (.r 2 [⟨none, [], none, .mv 9 (.s 1)⟩,
    ⟨none, [], none, .bin 10 .lss (.s 9) (.k (.int .i64 0))⟩]) c_laws_szMoving_7) c_laws_szMoving_12
def c_laws_szMoving_2 : VC :=
  .seq (.r 1 [⟨none, [], none, .fadr 5 (.s 2) 2⟩,
    ⟨none, [], none, .ld 6 (.s 5) 1 false⟩,
    ⟨none, [], none, .mv 7 (.s 1)⟩,
    ⟨none, [], none, .call 8 95 [(.s 6), (.s 7)]⟩,
    ⟨none, [], none, .mv 1 (.s 8)⟩]) c_laws_szMoving_4
def c_laws_szMoving_0 : VC :=
  .seq (.r 0 [⟨none, [], none, .box 2 (.s 0)⟩,
    ⟨none, [], none, .mv 4 (.k (.int .i64 0))⟩]) c_laws_szMoving_2
def vf_laws_szMoving : VF := { pm := [.ro [.sc, .sc, .ro [.sc], .sc, .ro [.sc, .sc, .sc, .sc, .sc, .sc, .sc, .ro [.sc]]], .ro [.sc]], rm := [.v [.sc]], nslots := 18, res := [4], rc := [], code := .kp [0, 1] c_laws_szMoving_0 }
def c_laws_toIntS_12 : VC :=
  .ite (.s 11) (.skip) (.exit 0)
def c_laws_toIntS_18 : VC :=
  .r 4 [⟨none, [], none, .mv 12 (.s 4)⟩,
    ⟨none, [], none, .bin 13 .add (.s 12) (.k (.int .i64 1))⟩,
    ⟨none, [], none, .mv 4 (.s 13)⟩]
def c_laws_toIntS_15 : VC :=
  .seq (.blk 1 (.r 5 [⟨none, [], none, .mv 14 (.s 3)⟩,
    ⟨none, [], none, .mv 15 (.s 4)⟩,
    ⟨none, [], none, .mv 16 (.s 0)⟩,
    ⟨none, [], none, .mv 17 (.s 4)⟩,
    ⟨none, [], none, .iadr 18 (.s 16) (.s 17) 1⟩,
    ⟨none, [], none, .ld 19 (.s 18) 1 false⟩,
    ⟨none, [], none, .iadr 20 (.s 14) (.s 15) 1⟩,
    ⟨none, [], none, .st (.s 20) (.s 19) 1⟩])) c_laws_toIntS_18
def c_laws_toIntS_9 : VC :=
  .seq (.seq (.r 3 [⟨none, [], none, .mv 8 (.s 4)⟩,
    ⟨none, [], none, .mv 9 (.s 0)⟩,
    ⟨none, [], none, .len 10 (.s 9)⟩,
    ⟨none, [], none, .bin 11 .lss (.s 8) (.s 10)⟩]) c_laws_toIntS_12) c_laws_toIntS_15
def c_laws_toIntS_7 : VC :=
  .blk 0 (.loop [0, 3, 4] c_laws_toIntS_9)
def c_laws_toIntS_19 : VC :=
  .seq (.r 6 [⟨none, [], none, .mv 21 (.s 3)⟩,
    ⟨none, [], none, .mv 2 (.s 21)⟩]) (.ret)
def c_laws_toIntS_4 : VC :=
  .seq (.seq (.r 2 [⟨none, [], none, .mv 4 (.k (.int .i64 0))⟩]) c_laws_toIntS_7) (.kp [3] c_laws_toIntS_19)
def c_laws_toIntS_2 : VC :=
  .seq (.r 1 [⟨none, [], none, .mv 5 (.s 0)⟩,
    ⟨none, [], none, .len 6 (.s 5)⟩,
    ⟨none, [], none, .mk 7 (.s 6) [.sc] [(.int .i64 0)] 17592186044416⟩,
    ⟨none, [], none, .mv 3 (.s 7)⟩]) c_laws_toIntS_4
def c_laws_toIntS_0 : VC :=
  .seq (.r 0 [⟨none, [], none, .nil 2 [.sc]⟩]) c_laws_toIntS_2
def vf_laws_toIntS : VF := { pm := [.ro [.ro [.sc]]], rm := [.v [.own [.sc]]], nslots := 22, res := [2], rc := [], code := .kp [0] c_laws_toIntS_0 }
def c_laws_toFrame_20 : VC :=
  .seq (.r 10 [⟨none, [], none, .ld 29 (.s 3) 8 true⟩,
    ⟨none, [], none, .st (.s 2) (.s 29) 8⟩]) (.ret)
def c_laws_toFrame_18 : VC :=
  .seq (.r 9 [⟨none, [], none, .fadr 25 (.s 1) 7⟩,
    ⟨none, [], none, .ld 26 (.s 25) 1 false⟩,
    ⟨none, [], none, .call 27 60 [(.s 26)]⟩,
    ⟨none, [], none, .fadr 28 (.s 3) 7⟩,
    ⟨none, [], none, .st (.s 28) (.s 27) 1⟩]) c_laws_toFrame_20
def c_laws_toFrame_16 : VC :=
  .seq (.r 8 [⟨none, [], none, .fadr 22 (.s 1) 6⟩,
    ⟨none, [], none, .ld 23 (.s 22) 1 false⟩,
    ⟨none, [], none, .fadr 24 (.s 3) 6⟩,
    ⟨none, [], none, .st (.s 24) (.s 23) 1⟩]) c_laws_toFrame_18
def c_laws_toFrame_14 : VC :=
  .seq (.r 7 [⟨none, [], none, .fadr 19 (.s 1) 5⟩,
    ⟨none, [], none, .ld 20 (.s 19) 1 false⟩,
    ⟨none, [], none, .fadr 21 (.s 3) 5⟩,
    ⟨none, [], none, .st (.s 21) (.s 20) 1⟩]) c_laws_toFrame_16
def c_laws_toFrame_12 : VC :=
  .seq (.r 6 [⟨none, [], none, .fadr 16 (.s 1) 4⟩,
    ⟨none, [], none, .ld 17 (.s 16) 1 false⟩,
    ⟨none, [], none, .fadr 18 (.s 3) 4⟩,
    ⟨none, [], none, .st (.s 18) (.s 17) 1⟩]) c_laws_toFrame_14
def c_laws_toFrame_10 : VC :=
  .seq (.r 5 [⟨none, [], none, .fadr 13 (.s 1) 3⟩,
    ⟨none, [], none, .ld 14 (.s 13) 1 false⟩,
    ⟨none, [], none, .fadr 15 (.s 3) 3⟩,
    ⟨none, [], none, .st (.s 15) (.s 14) 1⟩]) c_laws_toFrame_12
def c_laws_toFrame_8 : VC :=
  .seq (.r 4 [⟨none, [], none, .fadr 10 (.s 1) 2⟩,
    ⟨none, [], none, .ld 11 (.s 10) 1 false⟩,
    ⟨none, [], none, .fadr 12 (.s 3) 2⟩,
    ⟨none, [], none, .st (.s 12) (.s 11) 1⟩]) c_laws_toFrame_10
def c_laws_toFrame_6 : VC :=
  .seq (.r 3 [⟨none, [], none, .fadr 7 (.s 1) 1⟩,
    ⟨none, [], none, .ld 8 (.s 7) 1 false⟩,
    ⟨none, [], none, .fadr 9 (.s 3) 1⟩,
    ⟨none, [], none, .st (.s 9) (.s 8) 1⟩]) c_laws_toFrame_8
def c_laws_toFrame_4 : VC :=
  .seq (.r 2 [⟨none, [], none, .fadr 4 (.s 1) 0⟩,
    ⟨none, [], none, .ld 5 (.s 4) 1 false⟩,
    ⟨none, [], none, .fadr 6 (.s 3) 0⟩,
    ⟨none, [], none, .st (.s 6) (.s 5) 1⟩]) c_laws_toFrame_6
def c_laws_toFrame_2 : VC :=
  .seq (.r 1 [⟨none, [], none, .alloc 3 [.k (.int .i64 0), .k (.int .i64 0), .k (.int .i64 0), .k (.int .i64 0), .k (.int .i64 0), .k (.int .i64 0), .k (.int .i64 0), .o [.sc]]⟩]) c_laws_toFrame_4
def c_laws_toFrame_0 : VC :=
  .seq (.r 0 [⟨none, [], none, .box 1 (.s 0)⟩,
    ⟨none, [], none, .alloc 2 [.k (.int .i64 0), .k (.int .i64 0), .k (.int .i64 0), .k (.int .i64 0), .k (.int .i64 0), .k (.int .i64 0), .k (.int .i64 0), .o [.sc]]⟩]) c_laws_toFrame_2
def vf_laws_toFrame : VF := { pm := [.ro [.sc, .sc, .sc, .sc, .sc, .sc, .sc, .ro [.sc]]], rm := [.v [.sc, .sc, .sc, .sc, .sc, .sc, .sc, .own [.sc]]], nslots := 30, res := [2], rc := [some (8, true)], code := .kp [0] c_laws_toFrame_0 }
def c_laws_toFrameS_12 : VC :=
  .ite (.s 11) (.skip) (.exit 0)
def c_laws_toFrameS_18 : VC :=
  .r 4 [⟨none, [], none, .mv 12 (.s 4)⟩,
    ⟨none, [], none, .bin 13 .add (.s 12) (.k (.int .i64 1))⟩,
    ⟨none, [], none, .mv 4 (.s 13)⟩]
def c_laws_toFrameS_15 : VC :=
  .seq (.blk 1 (.r 5 [⟨none, [], none, .mv 14 (.s 3)⟩,
    ⟨none, [], none, .mv 15 (.s 4)⟩,
    ⟨none, [], none, .mv 16 (.s 0)⟩,
    ⟨none, [], none, .mv 17 (.s 4)⟩,
    ⟨none, [], none, .iadr 18 (.s 16) (.s 17) 8⟩,
    ⟨none, [], none, .ld 19 (.s 18) 8 true⟩,
    ⟨none, [], none, .call 20 184 [(.s 19)]⟩,
    ⟨none, [], none, .iadr 21 (.s 14) (.s 15) 8⟩,
    ⟨none, [], none, .st (.s 21) (.s 20) 8⟩])) c_laws_toFrameS_18
def c_laws_toFrameS_9 : VC :=
  .seq (.seq (.r 3 [⟨none, [], none, .mv 8 (.s 4)⟩,
    ⟨none, [], none, .mv 9 (.s 0)⟩,
    ⟨none, [], none, .len 10 (.s 9)⟩,
    ⟨none, [], none, .bin 11 .lss (.s 8) (.s 10)⟩]) c_laws_toFrameS_12) c_laws_toFrameS_15
def c_laws_toFrameS_7 : VC :=
  .blk 0 (.loop [0, 3, 4] c_laws_toFrameS_9)
def c_laws_toFrameS_19 : VC :=
  .seq (.r 6 [⟨none, [], none, .mv 22 (.s 3)⟩,
    ⟨none, [], none, .mv 2 (.s 22)⟩]) (.ret)
def c_laws_toFrameS_4 : VC :=
  .seq (.seq (.r 2 [⟨none, [], none, .mv 4 (.k (.int .i64 0))⟩]) c_laws_toFrameS_7) (.kp [3] c_laws_toFrameS_19)
def c_laws_toFrameS_2 : VC :=
  .seq (.r 1 [⟨none, [], none, .mv 5 (.s 0)⟩,
    ⟨none, [], none, .len 6 (.s 5)⟩,
    ⟨none, [], none, .mk 7 (.s 6) [.sc, .sc, .sc, .sc, .sc, .sc, .sc, .own [.sc]] [(.int .i64 0), (.int .i64 0), (.int .i64 0), (.int .i64 0), (.int .i64 0), (.int .i64 0), (.int .i64 0), (.slice none 0 0)] 1759218604441⟩,
    ⟨none, [], none, .mv 3 (.s 7)⟩]) c_laws_toFrameS_4
def c_laws_toFrameS_0 : VC :=
  .seq (.r 0 [⟨none, [], none, .nil 2 [.sc, .sc, .sc, .sc, .sc, .sc, .sc, .own [.sc]]⟩]) c_laws_toFrameS_2
def vf_laws_toFrameS : VF := { pm := [.ro [.ro [.sc, .sc, .sc, .sc, .sc, .sc, .sc, .ro [.sc]]]], rm := [.v [.own [.sc, .sc, .sc, .sc, .sc, .sc, .sc, .own [.sc]]]], nslots := 23, res := [2], rc := [], code := .kp [0] c_laws_toFrameS_0 }
def c_laws_toMoving_14 : VC :=
  .seq (.r 7 [⟨none, [], none, .ld 21 (.s 3) 5 true⟩,
    ⟨none, [], none, .st (.s 2) (.s 21) 5⟩]) (.ret)
def c_laws_toMoving_12 : VC :=
  .seq (.r 6 [⟨none, [], none, .fadr 17 (.s 1) 4⟩,
    ⟨none, [], none, .ld 18 (.s 17) 1 false⟩,
    ⟨none, [], none, .call 19 125 [(.s 18)]⟩,
    ⟨none, [], none, .fadr 20 (.s 3) 4⟩,
    ⟨none, [], none, .st (.s 20) (.s 19) 1⟩]) c_laws_toMoving_14
def c_laws_toMoving_10 : VC :=
  .seq (.r 5 [⟨none, [], none, .fadr 14 (.s 1) 3⟩,
    ⟨none, [], none, .ld 15 (.s 14) 1 false⟩,
    ⟨none, [], none, .fadr 16 (.s 3) 3⟩,
    ⟨none, [], none, .st (.s 16) (.s 15) 1⟩]) c_laws_toMoving_12
def c_laws_toMoving_8 : VC :=
  .seq (.r 4 [⟨none, [], none, .fadr 10 (.s 1) 2⟩,
    ⟨none, [], none, .ld 11 (.s 10) 1 false⟩,
    ⟨none, [], none, .call 12 60 [(.s 11)]⟩,
    ⟨none, [], none, .fadr 13 (.s 3) 2⟩,
    ⟨none, [], none, .st (.s 13) (.s 12) 1⟩]) c_laws_toMoving_10
def c_laws_toMoving_6 : VC :=
  .seq (.r 3 [⟨none, [], none, .fadr 7 (.s 1) 1⟩,
    ⟨none, [], none, .ld 8 (.s 7) 1 false⟩,
    ⟨none, [], none, .fadr 9 (.s 3) 1⟩,
    ⟨none, [], none, .st (.s 9) (.s 8) 1⟩]) c_laws_toMoving_8
def c_laws_toMoving_4 : VC :=
  .seq (.r 2 [⟨none, [], none, .fadr 4 (.s 1) 0⟩,
    ⟨none, [], none, .ld 5 (.s 4) 1 false⟩,
    ⟨none, [], none, .fadr 6 (.s 3) 0⟩,
    ⟨none, [], none, .st (.s 6) (.s 5) 1⟩]) c_laws_toMoving_6
def c_laws_toMoving_2 : VC :=
  .seq (.r 1 [⟨none, [], none, .alloc 3 [.k (.int .i64 0), .k (.int .i64 0), .o [.sc], .k (.int .i64 0), .o [.sc, .sc, .sc, .sc, .sc, .sc, .sc, .own [.sc]]]⟩]) c_laws_toMoving_4
def c_laws_toMoving_0 : VC :=
  .seq (.r 0 [⟨none, [], none, .box 1 (.s 0)⟩,
    ⟨none, [], none, .alloc 2 [.k (.int .i64 0), .k (.int .i64 0), .o [.sc], .k (.int .i64 0), .o [.sc, .sc, .sc, .sc, .sc, .sc, .sc, .own [.sc]]]⟩]) c_laws_toMoving_2
def vf_laws_toMoving : VF := { pm := [.ro [.sc, .sc, .ro [.sc], .sc, .ro [.sc, .sc, .sc, .sc, .sc, .sc, .sc, .ro [.sc]]]], rm := [.v [.sc, .sc, .own [.sc], .sc, .own [.sc, .sc, .sc, .sc, .sc, .sc, .sc, .own [.sc]]]], nslots := 22, res := [2], rc := [some (5, true)], code := .kp [0] c_laws_toMoving_0 }
def c_spec_l4Sides_2 : VC :=
  .seq (.r 1 [⟨none, [], none, .mv 5 (.s 0)⟩,
    ⟨none, [], none, .bin 6 .geq (.s 5) (.k (.int .i64 1))⟩,
    ⟨none, [], none, .mv 7 (.s 6)⟩,
    ⟨none, [], some (7, true), .mv 8 (.s 0)⟩,
    ⟨none, [], some (7, true), .bin 9 .leq (.s 8) (.k (.int .i64 512))⟩,
    ⟨none, [], none, .pick 10 (.s 7) (.s 9) (.k (.bool false))⟩,
    ⟨none, [], none, .mv 11 (.s 10)⟩,
    ⟨none, [], some (11, true), .mv 12 (.s 1)⟩,
    ⟨none, [], some (11, true), .bin 13 .geq (.s 12) (.k (.int .i64 1))⟩,
    ⟨none, [], none, .pick 14 (.s 11) (.s 13) (.k (.bool false))⟩,
    ⟨none, [], none, .mv 15 (.s 14)⟩,
    ⟨none, [], some (15, true), .mv 16 (.s 1)⟩,
    ⟨none, [], some (15, true), .bin 17 .leq (.s 16) (.k (.int .i64 512))⟩,
    ⟨none, [], none, .pick 18 (.s 15) (.s 17) (.k (.bool false))⟩,
    ⟨none, [], none, .mv 4 (.s 18)⟩]) (.ret)
def c_spec_l4Sides_0 : VC :=
  .seq (.r 0 [⟨none, [], none, .mv 4 (.k (.bool false))⟩]) c_spec_l4Sides_2
def vf_spec_l4Sides : VF := { pm := [.ro [.sc], .ro [.sc]], rm := [.v [.sc]], nslots := 19, res := [4], rc := [], code := .kp [0, 1] c_spec_l4Sides_0 }
def c_spec_l6Log_10 : VC :=
  .ite (.s 5) (.skip) (.exit 0)
def c_spec_l6Log_17 : VC :=
  .ite (.s 12) (.seq (.r 5 [⟨none, [], none, .mv 13 (.s 3)⟩,
    ⟨none, [], none, .mv 2 (.s 13)⟩]) (.ret)) (.skip)
def c_spec_l6Log_22 : VC :=
  .r 3 [⟨none, [], none, .mv 6 (.s 3)⟩,
    ⟨none, [], none, .bin 7 .add (.s 6) (.k (.int .i64 1))⟩,
    ⟨none, [], none, .mv 3 (.s 7)⟩]
def c_spec_l6Log_13 : VC :=
  .seq (.blk 1 (.seq (.r 4 [⟨none, [], none, .mv 8 (.s 0)⟩,
    ⟨none, [], none, .mv 9 (.s 3)⟩,
    ⟨none, [], none, .conv 10 .u64 (.s 9)⟩,
    ⟨none, [], none, .bin 11 .shl (.k (.int .i64 1)) (.s 10)⟩,
    ⟨none, [], none, .bin 12 .eql (.s 8) (.s 11)⟩]) c_spec_l6Log_17)) c_spec_l6Log_22
def c_spec_l6Log_7 : VC :=
  .seq (.seq (.r 2 [⟨none, [], none, .mv 4 (.s 3)⟩,
    ⟨none, [], none, .bin 5 .leq (.s 4) (.k (.int .i64 8))⟩]) c_spec_l6Log_10) c_spec_l6Log_13
def c_spec_l6Log_5 : VC :=
  .blk 0 (.loop [0, 3] c_spec_l6Log_7)
def c_spec_l6Log_23 : VC :=
  .seq (.r 6 [⟨none, [], none, .mv 2 (.k (.int .i64 0))⟩]) (.ret)
def c_spec_l6Log_2 : VC :=
  .seq (.seq (.r 1 [⟨none, [], none, .mv 3 (.k (.int .i64 1))⟩]) c_spec_l6Log_5) (.kp [] c_spec_l6Log_23)
def c_spec_l6Log_0 : VC :=
  .seq (.r 0 [⟨none, [], none, .mv 2 (.k (.int .i64 0))⟩]) c_spec_l6Log_2
def vf_spec_l6Log : VF := { pm := [.ro [.sc]], rm := [.v [.sc]], nslots := 14, res := [2], rc := [], code := .kp [0] c_spec_l6Log_0 }
def c_spec_l5Colours_19 : VC :=
  .ite (.s 16) (.seq (.r 5 [⟨none, [], none, .mv 2 (.k (.bool false))⟩]) (.ret)) (.skip)
def c_spec_l5Colours_17 : VC :=
  .seq (.r 4 [⟨none, [], none, .mv 11 (.s 4)⟩,
    ⟨none, [], none, .bin 12 .lss (.s 11) (.k (.int .i64 0))⟩,
    ⟨none, [], none, .mv 13 (.s 12)⟩,
    ⟨none, [], some (13, false), .mv 14 (.s 4)⟩,
    ⟨none, [], some (13, false), .bin 15 .gtr (.s 14) (.k (.int .i64 16777215))⟩,
    ⟨none, [], none, .pick 16 (.s 13) (.k (.bool true)) (.s 15)⟩]) c_spec_l5Colours_19
def c_spec_l5Colours_24 : VC :=
  .r 6 [⟨none, [], none, .bin 17 .add (.s 7) (.k (.int .i64 1))⟩,
    ⟨none, [], none, .mv 7 (.s 17)⟩]
def c_spec_l5Colours_13 : VC :=
  .seq (.blk 1 (.seq (.r 3 [⟨none, [], none, .iadr 9 (.s 5) (.s 7) 1⟩,
    ⟨none, [], none, .ld 10 (.s 9) 1 false⟩,
    ⟨none, [], none, .mv 4 (.s 10)⟩]) c_spec_l5Colours_17)) c_spec_l5Colours_24
def c_spec_l5Colours_9 : VC :=
  .seq (.ite (.s 8) (.skip) (.exit 0)) c_spec_l5Colours_13
def c_spec_l5Colours_7 : VC :=
  .seq (.r 2 [⟨none, [], none, .bin 8 .lss (.s 7) (.s 6)⟩]) c_spec_l5Colours_9
def c_spec_l5Colours_5 : VC :=
  .blk 0 (.loop [0, 5, 6, 7] c_spec_l5Colours_7)
def c_spec_l5Colours_25 : VC :=
  .seq (.r 7 [⟨none, [], none, .mv 18 (.s 0)⟩,
    ⟨none, [], none, .len 19 (.s 18)⟩,
    ⟨none, [], none, .bin 20 .leq (.s 19) (.k (.int .i64 256))⟩,
    ⟨none, [], none, .mv 2 (.s 20)⟩]) (.ret)
def c_spec_l5Colours_2 : VC :=
  .seq (.seq (.r 1 [⟨none, [], none, .mv 5 (.s 0)⟩,
    ⟨none, [], none, .len 6 (.s 5)⟩,
    ⟨none, [], none, .mv 7 (.k (.int .i64 0))⟩]) c_spec_l5Colours_5) (.kp [0] c_spec_l5Colours_25)
def c_spec_l5Colours_0 : VC :=
  .seq (.r 0 [⟨none, [], none, .mv 2 (.k (.bool false))⟩]) c_spec_l5Colours_2
def vf_spec_l5Colours : VF := { pm := [.ro [.ro [.sc]]], rm := [.v [.sc]], nslots := 21, res := [2], rc := [], code := .kp [0] c_spec_l5Colours_0 }
def c_spec_l6Head_2 : VC :=
  .seq (.r 1 [⟨none, [], none, .fadr 3 (.s 1) 0⟩,
    ⟨none, [], none, .ld 4 (.s 3) 1 false⟩,
    ⟨none, [], none, .fadr 5 (.s 1) 1⟩,
    ⟨none, [], none, .ld 6 (.s 5) 1 false⟩,
    ⟨none, [], none, .call 7 163 [(.s 4), (.s 6)]⟩,
    ⟨none, [], none, .mv 8 (.s 7)⟩,
    ⟨none, [], some (8, true), .fadr 9 (.s 1) 0⟩,
    ⟨none, [], some (8, true), .ld 10 (.s 9) 1 false⟩,
    ⟨none, [], some (8, true), .fadr 11 (.s 1) 1⟩,
    ⟨none, [], some (8, true), .ld 12 (.s 11) 1 false⟩,
    ⟨none, [], some (8, true), .bin 13 .mul (.s 10) (.s 12)⟩,
    ⟨none, [], some (8, true), .bin 14 .leq (.s 13) (.k (.int .i64 4096))⟩,
    ⟨none, [], none, .pick 15 (.s 8) (.s 14) (.k (.bool false))⟩,
    ⟨none, [], none, .mv 16 (.s 15)⟩,
    ⟨none, [], some (16, true), .fadr 17 (.s 1) 2⟩,
    ⟨none, [], some (16, true), .ld 18 (.s 17) 1 false⟩,
    ⟨none, [], some (16, true), .len 19 (.s 18)⟩,
    ⟨none, [], some (16, true), .call 20 217 [(.s 19)]⟩,
    ⟨none, [], some (16, true), .bin 21 .gtr (.s 20) (.k (.int .i64 0))⟩,
    ⟨none, [], none, .pick 22 (.s 16) (.s 21) (.k (.bool false))⟩,
    ⟨none, [], none, .mv 23 (.s 22)⟩,
    ⟨none, [], some (23, true), .fadr 24 (.s 1) 2⟩,
    ⟨none, [], some (23, true), .ld 25 (.s 24) 1 false⟩,
    ⟨none, [], some (23, true), .call 26 98 [(.s 25)]⟩,
    ⟨none, [], none, .pick 27 (.s 23) (.s 26) (.k (.bool false))⟩,
    ⟨none, [], none, .mv 28 (.s 27)⟩,
    ⟨none, [], some (28, true), .fadr 29 (.s 1) 3⟩,
    ⟨none, [], some (28, true), .ld 30 (.s 29) 1 false⟩,
    ⟨none, [], some (28, true), .bin 31 .geq (.s 30) (.k (.int .i64 0))⟩,
    ⟨none, [], none, .pick 32 (.s 28) (.s 31) (.k (.bool false))⟩,
    ⟨none, [], none, .mv 33 (.s 32)⟩,
    ⟨none, [], some (33, true), .fadr 34 (.s 1) 3⟩,
    ⟨none, [], some (33, true), .ld 35 (.s 34) 1 false⟩,
    ⟨none, [], some (33, true), .bin 36 .leq (.s 35) (.k (.int .i64 65535))⟩,
    ⟨none, [], none, .pick 37 (.s 33) (.s 36) (.k (.bool false))⟩,
    ⟨none, [], none, .mv 2 (.s 37)⟩]) (.ret)
def c_spec_l6Head_0 : VC :=
  .seq (.r 0 [⟨none, [], none, .box 1 (.s 0)⟩,
    ⟨none, [], none, .mv 2 (.k (.bool false))⟩]) c_spec_l6Head_2
def vf_spec_l6Head : VF := { pm := [.ro [.sc, .sc, .ro [.sc], .sc, .ro [.sc, .sc, .sc, .sc, .sc, .sc, .sc, .ro [.sc]]]], rm := [.v [.sc]], nslots := 38, res := [2], rc := [], code := .kp [0] c_spec_l6Head_0 }
def c_spec_l6Frame_5 : VC :=
  .ite (.s 56) (.seq (.r 2 [⟨none, [], none, .mv 4 (.k (.bool false))⟩]) (.ret)) (.skip)
def c_spec_l6Frame_10 : VC :=
  .seq (.r 3 [⟨none, [], none, .fadr 57 (.s 3) 4⟩,
    ⟨none, [], none, .ld 58 (.s 57) 1 false⟩,
    ⟨none, [], none, .bin 59 .geq (.s 58) (.k (.int .i64 0))⟩,
    ⟨none, [], none, .mv 60 (.s 59)⟩,
    ⟨none, [], some (60, true), .fadr 61 (.s 3) 4⟩,
    ⟨none, [], some (60, true), .ld 62 (.s 61) 1 false⟩,
    ⟨none, [], some (60, true), .bin 63 .leq (.s 62) (.k (.int .i64 65535))⟩,
    ⟨none, [], none, .pick 64 (.s 60) (.s 63) (.k (.bool false))⟩,
    ⟨none, [], none, .mv 65 (.s 64)⟩,
    ⟨none, [], some (65, true), .fadr 66 (.s 3) 5⟩,
    ⟨none, [], some (65, true), .ld 67 (.s 66) 1 false⟩,
    ⟨none, [], some (65, true), .bin 68 .geq (.s 67) (.k (.int .i64 0))⟩,
    ⟨none, [], none, .pick 69 (.s 65) (.s 68) (.k (.bool false))⟩,
    ⟨none, [], none, .mv 70 (.s 69)⟩,
    ⟨none, [], some (70, true), .fadr 71 (.s 3) 5⟩,
    ⟨none, [], some (70, true), .ld 72 (.s 71) 1 false⟩,
    ⟨none, [], some (70, true), .bin 73 .leq (.s 72) (.k (.int .i64 2))⟩,
    ⟨none, [], none, .pick 74 (.s 70) (.s 73) (.k (.bool false))⟩,
    ⟨none, [], none, .mv 75 (.s 74)⟩,
    ⟨none, [], some (75, true), .fadr 76 (.s 3) 6⟩,
    ⟨none, [], some (75, true), .ld 77 (.s 76) 1 false⟩,
    ⟨none, [], some (75, true), .bin 78 .geq (.s 77) (.k (.int .i64 (-1)))⟩,
    ⟨none, [], none, .pick 79 (.s 75) (.s 78) (.k (.bool false))⟩,
    ⟨none, [], none, .mv 80 (.s 79)⟩,
    ⟨none, [], some (80, true), .fadr 81 (.s 3) 6⟩,
    ⟨none, [], some (80, true), .ld 82 (.s 81) 1 false⟩,
    ⟨none, [], some (80, true), .fadr 83 (.s 2) 2⟩,
    ⟨none, [], some (80, true), .ld 84 (.s 83) 1 false⟩,
    ⟨none, [], some (80, true), .len 85 (.s 84)⟩,
    ⟨none, [], some (80, true), .bin 86 .lss (.s 82) (.s 85)⟩,
    ⟨none, [], none, .pick 87 (.s 80) (.s 86) (.k (.bool false))⟩,
    ⟨none, [], none, .mv 4 (.s 87)⟩]) (.ret)
def c_spec_l6Frame_2 : VC :=
  .seq (.seq (.r 1 [⟨none, [], none, .fadr 5 (.s 3) 0⟩,
    ⟨none, [], none, .ld 6 (.s 5) 1 false⟩,
    ⟨none, [], none, .bin 7 .lss (.s 6) (.k (.int .i64 0))⟩,
    ⟨none, [], none, .mv 8 (.s 7)⟩,
    ⟨none, [], some (8, false), .fadr 9 (.s 3) 1⟩,
    ⟨none, [], some (8, false), .ld 10 (.s 9) 1 false⟩,
    ⟨none, [], some (8, false), .bin 11 .lss (.s 10) (.k (.int .i64 0))⟩,
    ⟨none, [], none, .pick 12 (.s 8) (.k (.bool true)) (.s 11)⟩,
    ⟨none, [], none, .mv 13 (.s 12)⟩,
    ⟨none, [], some (13, false), .fadr 14 (.s 3) 2⟩,
    ⟨none, [], some (13, false), .ld 15 (.s 14) 1 false⟩,
    ⟨none, [], some (13, false), .bin 16 .lss (.s 15) (.k (.int .i64 1))⟩,
    ⟨none, [], none, .pick 17 (.s 13) (.k (.bool true)) (.s 16)⟩,
    ⟨none, [], none, .mv 18 (.s 17)⟩,
    ⟨none, [], some (18, false), .fadr 19 (.s 3) 3⟩,
    ⟨none, [], some (18, false), .ld 20 (.s 19) 1 false⟩,
    ⟨none, [], some (18, false), .bin 21 .lss (.s 20) (.k (.int .i64 1))⟩,
    ⟨none, [], none, .pick 22 (.s 18) (.k (.bool true)) (.s 21)⟩,
    ⟨none, [], none, .mv 23 (.s 22)⟩,
    ⟨none, [], some (23, false), .fadr 24 (.s 3) 0⟩,
    ⟨none, [], some (23, false), .ld 25 (.s 24) 1 false⟩,
    ⟨none, [], some (23, false), .fadr 26 (.s 2) 0⟩,
    ⟨none, [], some (23, false), .ld 27 (.s 26) 1 false⟩,
    ⟨none, [], some (23, false), .bin 28 .gtr (.s 25) (.s 27)⟩,
    ⟨none, [], none, .pick 29 (.s 23) (.k (.bool true)) (.s 28)⟩,
    ⟨none, [], none, .mv 30 (.s 29)⟩,
    ⟨none, [], some (30, false), .fadr 31 (.s 3) 1⟩,
    ⟨none, [], some (30, false), .ld 32 (.s 31) 1 false⟩,
    ⟨none, [], some (30, false), .fadr 33 (.s 2) 1⟩,
    ⟨none, [], some (30, false), .ld 34 (.s 33) 1 false⟩,
    ⟨none, [], some (30, false), .bin 35 .gtr (.s 32) (.s 34)⟩,
    ⟨none, [], none, .pick 36 (.s 30) (.k (.bool true)) (.s 35)⟩,
    ⟨none, [], none, .mv 37 (.s 36)⟩,
    ⟨none, [], some (37, false), .fadr 38 (.s 3) 2⟩,
    ⟨none, [], some (37, false), .ld 39 (.s 38) 1 false⟩,
    ⟨none, [], some (37, false), .fadr 40 (.s 2) 0⟩,
    ⟨none, [], some (37, false), .ld 41 (.s 40) 1 false⟩,
    ⟨none, [], some (37, false), .fadr 42 (.s 3) 0⟩,
    ⟨none, [], some (37, false), .ld 43 (.s 42) 1 false⟩,
    ⟨none, [], some (37, false), .bin 44 .sub (.s 41) (.s 43)⟩,
    ⟨none, [], some (37, false), .bin 45 .gtr (.s 39) (.s 44)⟩,
    ⟨none, [], none, .pick 46 (.s 37) (.k (.bool true)) (.s 45)⟩,
    ⟨none, [], none, .mv 47 (.s 46)⟩,
    ⟨none, [], some (47, false), .fadr 48 (.s 3) 3⟩,
    ⟨none, [], some (47, false), .ld 49 (.s 48) 1 false⟩,
    ⟨none, [], some (47, false), .fadr 50 (.s 2) 1⟩,
    ⟨none, [], some (47, false), .ld 51 (.s 50) 1 false⟩,
    ⟨none, [], some (47, false), .fadr 52 (.s 3) 1⟩,
    ⟨none, [], some (47, false), .ld 53 (.s 52) 1 false⟩,
    ⟨none, [], some (47, false), .bin 54 .sub (.s 51) (.s 53)⟩,
    ⟨none, [], some (47, false), .bin 55 .gtr (.s 49) (.s 54)⟩,
    ⟨none, [], none, .pick 56 (.s 47) (.k (.bool true)) (.s 55)⟩]) c_spec_l6Frame_5) c_spec_l6Frame_10
def c_spec_l6Frame_0 : VC :=
  .seq (.r 0 [⟨none, [], none, .box 2 (.s 0)⟩,
    ⟨none, [], none, .box 3 (.s 1)⟩,
    ⟨none, [], none, .mv 4 (.k (.bool false))⟩]) c_spec_l6Frame_2
def vf_spec_l6Frame : VF := { pm := [.ro [.sc, .sc, .ro [.sc], .sc, .ro [.sc, .sc, .sc, .sc, .sc, .sc, .sc, .ro [.sc]]], .ro [.sc, .sc, .sc, .sc, .sc, .sc, .sc, .ro [.sc]]], rm := [.v [.sc]], nslots := 88, res := [4], rc := [], code := .kp [0, 1] c_spec_l6Frame_0 }
def c_spec_l6Pixels_19 : VC :=
  .ite (.s 21) (.seq (.r 5 [⟨none, [], none, .mv 4 (.k (.bool false))⟩]) (.ret)) (.skip)
def c_spec_l6Pixels_17 : VC :=
  .seq (.r 4 [⟨none, [], none, .mv 13 (.s 6)⟩,
    ⟨none, [], none, .bin 14 .lss (.s 13) (.k (.int .i64 0))⟩,
    ⟨none, [], none, .mv 15 (.s 14)⟩,
    ⟨none, [], some (15, false), .mv 16 (.s 6)⟩,
    ⟨none, [], some (15, false), .fadr 17 (.s 2) 2⟩,
    ⟨none, [], some (15, false), .ld 18 (.s 17) 1 false⟩,
    ⟨none, [], some (15, false), .len 19 (.s 18)⟩,
    ⟨none, [], some (15, false), .bin 20 .geq (.s 16) (.s 19)⟩,
    ⟨none, [], none, .pick 21 (.s 15) (.k (.bool true)) (.s 20)⟩]) c_spec_l6Pixels_19
def c_spec_l6Pixels_24 : VC :=
  .r 6 [⟨none, [], none, .bin 22 .add (.s 9) (.k (.int .i64 1))⟩,
    ⟨none, [], none, .mv 9 (.s 22)⟩]
def c_spec_l6Pixels_13 : VC :=
  .seq (.blk 1 (.seq (.r 3 [⟨none, [], none, .iadr 11 (.s 7) (.s 9) 1⟩,
    ⟨none, [], none, .ld 12 (.s 11) 1 false⟩,
    ⟨none, [], none, .mv 6 (.s 12)⟩]) c_spec_l6Pixels_17)) c_spec_l6Pixels_24
def c_spec_l6Pixels_9 : VC :=
  .seq (.ite (.s 10) (.skip) (.exit 0)) c_spec_l6Pixels_13
def c_spec_l6Pixels_7 : VC :=
  .seq (.r 2 [⟨none, [], none, .bin 10 .lss (.s 9) (.s 8)⟩]) c_spec_l6Pixels_9
def c_spec_l6Pixels_5 : VC :=
  .blk 0 (.loop [2, 7, 8, 9] c_spec_l6Pixels_7)
def c_spec_l6Pixels_25 : VC :=
  .seq (.r 7 [⟨none, [], none, .mv 4 (.k (.bool true))⟩]) (.ret)
def c_spec_l6Pixels_2 : VC :=
  .seq (.seq (.r 1 [⟨none, [], none, .mv 7 (.s 1)⟩,
    ⟨none, [], none, .len 8 (.s 7)⟩,
    ⟨none, [], none, .mv 9 (.k (.int .i64 0))⟩]) c_spec_l6Pixels_5) (.kp [] c_spec_l6Pixels_25)
def c_spec_l6Pixels_0 : VC :=
  .seq (.r 0 [⟨none, [], none, .box 2 (.s 0)⟩,
    ⟨none, [], none, .mv 4 (.k (.bool false))⟩]) c_spec_l6Pixels_2
def vf_spec_l6Pixels : VF := { pm := [.ro [.sc, .sc, .ro [.sc], .sc, .ro [.sc, .sc, .sc, .sc, .sc, .sc, .sc, .ro [.sc]]], .ro [.ro [.sc]]], rm := [.v [.sc]], nslots := 23, res := [4], rc := [], code := .kp [0, 1] c_spec_l6Pixels_0 }
def c_spec_GoodMoving_5 : VC :=
  .ite (.s 20) (.seq (.r 2 [⟨none, [], none, .mv 2 (.k (.bool false))⟩]) (.ret)) (.skip)
def c_spec_GoodMoving_30 : VC :=
  .ite (.s 49) (.seq (.r 8 [⟨none, [], none, .mv 2 (.k (.bool false))⟩]) (.ret)) (.skip)
def c_spec_GoodMoving_35 : VC :=
  .r 9 [⟨none, [], none, .mv 50 (.s 3)⟩,
    ⟨none, [], none, .fadr 51 (.s 5) 7⟩,
    ⟨none, [], none, .ld 52 (.s 51) 1 false⟩,
    ⟨none, [], none, .len 53 (.s 52)⟩,
    ⟨none, [], none, .bin 54 .add (.s 50) (.s 53)⟩,
    ⟨none, [], none, .mv 3 (.s 54)⟩]
def c_spec_GoodMoving_27 : VC :=
  .seq (.seq (.r 7 [⟨none, [], none, .ld 28 (.s 1) 5 true⟩,
    ⟨none, [], none, .ld 29 (.s 5) 8 true⟩,
    ⟨none, [], none, .call 30 182 [(.s 28), (.s 29)]⟩,
    ⟨none, [], none, .un 31 .not (.s 30)⟩,
    ⟨none, [], none, .mv 32 (.s 31)⟩,
    ⟨none, [], some (32, false), .fadr 33 (.s 5) 7⟩,
    ⟨none, [], some (32, false), .ld 34 (.s 33) 1 false⟩,
    ⟨none, [], some (32, false), .len 35 (.s 34)⟩,
    ⟨none, [], some (32, false), .fadr 36 (.s 5) 2⟩,
    ⟨none, [], some (32, false), .ld 37 (.s 36) 1 false⟩,
    ⟨none, [], some (32, false), .fadr 38 (.s 5) 3⟩,
    ⟨none, [], some (32, false), .ld 39 (.s 38) 1 false⟩,
    ⟨none, [], some (32, false), .bin 40 .mul (.s 37) (.s 39)⟩,
    ⟨none, [], some (32, false), .bin 41 .neq (.s 35) (.s 40)⟩,
    ⟨none, [], none, .pick 42 (.s 32) (.k (.bool true)) (.s 41)⟩,
    ⟨none, [], none, .mv 43 (.s 42)⟩,
    ⟨none, [], some (43, false), .ld 44 (.s 1) 5 true⟩,
    ⟨none, [], some (43, false), .fadr 45 (.s 5) 7⟩,
    ⟨none, [], some (43, false), .ld 46 (.s 45) 1 false⟩,
    ⟨none, [], some (43, false), .call 47 183 [(.s 44), (.s 46)]⟩,
    ⟨none, [], some (43, false), .un 48 .not (.s 47)⟩,
    ⟨none, [], none, .pick 49 (.s 43) (.k (.bool true)) (.s 48)⟩]) c_spec_GoodMoving_30) c_spec_GoodMoving_35
def c_spec_GoodMoving_36 : VC :=
  .r 10 [⟨none, [], none, .bin 55 .add (.s 24) (.k (.int .i64 1))⟩,
    ⟨none, [], none, .mv 24 (.s 55)⟩]
def c_spec_GoodMoving_23 : VC :=
  .seq (.blk 1 (.seq (.r 6 [⟨none, [], none, .iadr 26 (.s 22) (.s 24) 8⟩,
    ⟨none, [], none, .ld 27 (.s 26) 8 true⟩,
    ⟨none, [], none, .alloc 5 [.k (.int .i64 0), .k (.int .i64 0), .k (.int .i64 0), .k (.int .i64 0), .k (.int .i64 0), .k (.int .i64 0), .k (.int .i64 0), .o [.sc]]⟩,
    ⟨none, [], none, .st (.s 5) (.s 27) 8⟩]) c_spec_GoodMoving_27)) c_spec_GoodMoving_36
def c_spec_GoodMoving_19 : VC :=
  .seq (.ite (.s 25) (.skip) (.exit 0)) c_spec_GoodMoving_23
def c_spec_GoodMoving_17 : VC :=
  .seq (.r 5 [⟨none, [], none, .bin 25 .lss (.s 24) (.s 23)⟩]) c_spec_GoodMoving_19
def c_spec_GoodMoving_15 : VC :=
  .blk 0 (.loop [1, 3, 22, 23, 24] c_spec_GoodMoving_17)
def c_spec_GoodMoving_37 : VC :=
  .seq (.r 11 [⟨none, [], none, .mv 56 (.s 3)⟩,
    ⟨none, [], none, .bin 57 .leq (.s 56) (.k (.int .i64 16384))⟩,
    ⟨none, [], none, .mv 2 (.s 57)⟩]) (.ret)
def c_spec_GoodMoving_12 : VC :=
  .seq (.seq (.r 4 [⟨none, [], none, .fadr 21 (.s 1) 4⟩,
    ⟨none, [], none, .ld 22 (.s 21) 1 false⟩,
    ⟨none, [], none, .len 23 (.s 22)⟩,
    ⟨none, [], none, .mv 24 (.k (.int .i64 0))⟩]) c_spec_GoodMoving_15) (.kp [3] c_spec_GoodMoving_37)
def c_spec_GoodMoving_10 : VC :=
  .seq (.r 3 [⟨none, [], none, .mv 3 (.k (.int .i64 0))⟩]) c_spec_GoodMoving_12
def c_spec_GoodMoving_2 : VC :=
  .seq (.seq (.r 1 [⟨none, [], none, .ld 6 (.s 1) 5 true⟩,
    ⟨none, [], none, .call 7 181 [(.s 6)]⟩,
    ⟨none, [], none, .un 8 .not (.s 7)⟩,
    ⟨none, [], none, .mv 9 (.s 8)⟩,
    ⟨none, [], some (9, false), .fadr 10 (.s 1) 4⟩,
    ⟨none, [], some (9, false), .ld 11 (.s 10) 1 false⟩,
    ⟨none, [], some (9, false), .len 12 (.s 11)⟩,
    ⟨none, [], some (9, false), .bin 13 .lss (.s 12) (.k (.int .i64 1))⟩,
    ⟨none, [], none, .pick 14 (.s 9) (.k (.bool true)) (.s 13)⟩,
    ⟨none, [], none, .mv 15 (.s 14)⟩,
    ⟨none, [], some (15, false), .fadr 16 (.s 1) 4⟩,
    ⟨none, [], some (15, false), .ld 17 (.s 16) 1 false⟩,
    ⟨none, [], some (15, false), .len 18 (.s 17)⟩,
    ⟨none, [], some (15, false), .bin 19 .gtr (.s 18) (.k (.int .i64 40))⟩,
    ⟨none, [], none, .pick 20 (.s 15) (.k (.bool true)) (.s 19)⟩]) c_spec_GoodMoving_5) c_spec_GoodMoving_10
def c_spec_GoodMoving_0 : VC :=
  .seq (.r 0 [⟨none, [], none, .box 1 (.s 0)⟩,
    ⟨none, [], none, .mv 2 (.k (.bool false))⟩]) c_spec_GoodMoving_2
def vf_spec_GoodMoving : VF := { pm := [.ro [.sc, .sc, .ro [.sc], .sc, .ro [.sc, .sc, .sc, .sc, .sc, .sc, .sc, .ro [.sc]]]], rm := [.v [.sc]], nslots := 58, res := [2], rc := [], code := .kp [0] c_spec_GoodMoving_0 }
def c_spec_Screens_5 : VC :=
  .ite (.s 15) (.seq (.r 2 [⟨none, [], none, .nil 2 [.ro [.sc]]⟩]) (.ret)) (.skip)
def c_spec_Screens_27 : VC :=
  .r 7 [⟨none, [], none, .mv 27 (.s 3)⟩,
    ⟨none, [], none, .mv 28 (.s 4)⟩,
    ⟨none, [], none, .iadr 29 (.s 27) (.s 28) 1⟩,
    ⟨none, [], none, .st (.s 29) (.k (.int .i64 (-1))) 1⟩]
def c_spec_Screens_28 : VC :=
  .r 8 [⟨none, [], none, .bin 30 .add (.s 24) (.k (.int .i64 1))⟩,
    ⟨none, [], none, .mv 24 (.s 30)⟩]
def c_spec_Screens_23 : VC :=
  .seq (.blk 1 (.seq (.r 6 [⟨none, [], none, .mv 26 (.s 24)⟩,
    ⟨none, [], none, .mv 4 (.s 26)⟩]) c_spec_Screens_27)) c_spec_Screens_28
def c_spec_Screens_19 : VC :=
  .seq (.ite (.s 25) (.skip) (.exit 0)) c_spec_Screens_23
def c_spec_Screens_17 : VC :=
  .seq (.r 5 [⟨none, [], none, .bin 25 .lss (.s 24) (.s 23)⟩]) c_spec_Screens_19
def c_spec_Screens_15 : VC :=
  .blk 0 (.loop [1, 3, 23, 24] c_spec_Screens_17)
def c_spec_Screens_67 : VC :=
  .ite (.s 52) (.d 19 [(0, ⟨none, [], none, .mv 53 (.s 8)⟩),
    (1, ⟨none, [], none, .fadv 54 (.s 7) 1⟩),
    (2, ⟨none, [], none, .ldv 55 (.s 54) 1 false⟩),
    (3, ⟨none, [], none, .mv 56 (.s 9)⟩),
    (4, ⟨none, [], none, .fadv 57 (.s 7) 2⟩),
    (5, ⟨none, [], none, .ldv 58 (.s 57) 1 false⟩),
    (6, ⟨none, [], none, .bin 59 .quo (.s 56) (.s 58)⟩),
    (7, ⟨none, [], none, .bin 60 .add (.s 55) (.s 59)⟩),
    (8, ⟨none, [], none, .fadv 61 (.s 1) 0⟩),
    (9, ⟨none, [], none, .ldv 62 (.s 61) 1 false⟩),
    (10, ⟨none, [], none, .bin 63 .mul (.s 60) (.s 62)⟩),
    (11, ⟨none, [], none, .fadv 64 (.s 7) 0⟩),
    (12, ⟨none, [], none, .ldv 65 (.s 64) 1 false⟩),
    (13, ⟨none, [], none, .bin 66 .add (.s 63) (.s 65)⟩),
    (14, ⟨none, [], none, .mv 67 (.s 9)⟩),
    (15, ⟨none, [], none, .fadv 68 (.s 7) 2⟩),
    (16, ⟨none, [], none, .ldv 69 (.s 68) 1 false⟩),
    (17, ⟨none, [], none, .bin 70 .rem (.s 67) (.s 69)⟩),
    (18, ⟨none, [], none, .bin 71 .add (.s 66) (.s 70)⟩),
    (19, ⟨none, [], none, .mv 72 (.s 10)⟩),
    (20, ⟨none, [], none, .iadr 73 (.s 53) (.s 71) 1⟩),
    (21, ⟨none, [], none, .st (.s 73) (.s 72) 1⟩)]) (.skip)
def c_spec_Screens_65 : VC :=
  .seq (.r 18 [⟨none, [], none, .mv 49 (.s 10)⟩,
    ⟨none, [], none, .fadr 50 (.s 7) 6⟩,
    ⟨none, [], none, .ld 51 (.s 50) 1 false⟩,
    ⟨none, [], none, .bin 52 .neq (.s 49) (.s 51)⟩]) c_spec_Screens_67
def c_spec_Screens_70 : VC :=
  .r 20 [⟨none, [], none, .bin 74 .add (.s 44) (.k (.int .i64 1))⟩,
    ⟨none, [], none, .mv 44 (.s 74)⟩]
def c_spec_Screens_61 : VC :=
  .seq (.blk 5 (.seq (.r 17 [⟨none, [], none, .mv 46 (.s 44)⟩,
    ⟨none, [], none, .iadr 47 (.s 42) (.s 44) 1⟩,
    ⟨none, [], none, .ld 48 (.s 47) 1 false⟩,
    ⟨none, [], none, .mv 9 (.s 46)⟩,
    ⟨none, [], none, .mv 10 (.s 48)⟩]) c_spec_Screens_65)) c_spec_Screens_70
def c_spec_Screens_57 : VC :=
  .seq (.ite (.s 45) (.skip) (.exit 4)) c_spec_Screens_61
def c_spec_Screens_55 : VC :=
  .seq (.r 16 [⟨none, [], none, .bin 45 .lss (.s 44) (.s 43)⟩]) c_spec_Screens_57
def c_spec_Screens_53 : VC :=
  .blk 4 (.loop [1, 3, 5, 7, 8, 32, 33, 34, 42, 43, 44] c_spec_Screens_55)
def c_spec_Screens_76 : VC :=
  .ite (.s 81) (.exit 3) (.skip)
def c_spec_Screens_101 : VC :=
  .d 29 [(0, ⟨none, [], none, .mv 94 (.s 11)⟩),
    (1, ⟨none, [], none, .fadv 95 (.s 7) 1⟩),
    (2, ⟨none, [], none, .ldv 96 (.s 95) 1 false⟩),
    (3, ⟨none, [], none, .mv 97 (.s 12)⟩),
    (4, ⟨none, [], none, .fadv 98 (.s 7) 2⟩),
    (5, ⟨none, [], none, .ldv 99 (.s 98) 1 false⟩),
    (6, ⟨none, [], none, .bin 100 .quo (.s 97) (.s 99)⟩),
    (7, ⟨none, [], none, .bin 101 .add (.s 96) (.s 100)⟩),
    (8, ⟨none, [], none, .fadv 102 (.s 1) 0⟩),
    (9, ⟨none, [], none, .ldv 103 (.s 102) 1 false⟩),
    (10, ⟨none, [], none, .bin 104 .mul (.s 101) (.s 103)⟩),
    (11, ⟨none, [], none, .fadv 105 (.s 7) 0⟩),
    (12, ⟨none, [], none, .ldv 106 (.s 105) 1 false⟩),
    (13, ⟨none, [], none, .bin 107 .add (.s 104) (.s 106)⟩),
    (14, ⟨none, [], none, .mv 108 (.s 12)⟩),
    (15, ⟨none, [], none, .fadv 109 (.s 7) 2⟩),
    (16, ⟨none, [], none, .ldv 110 (.s 109) 1 false⟩),
    (17, ⟨none, [], none, .bin 111 .rem (.s 108) (.s 110)⟩),
    (18, ⟨none, [], none, .bin 112 .add (.s 107) (.s 111)⟩),
    (19, ⟨none, [], none, .iadr 113 (.s 94) (.s 112) 1⟩),
    (20, ⟨none, [], none, .st (.s 113) (.k (.int .i64 (-1))) 1⟩)]
def c_spec_Screens_102 : VC :=
  .r 30 [⟨none, [], none, .bin 114 .add (.s 91) (.k (.int .i64 1))⟩,
    ⟨none, [], none, .mv 91 (.s 114)⟩]
def c_spec_Screens_97 : VC :=
  .seq (.blk 7 (.seq (.r 28 [⟨none, [], none, .mv 93 (.s 91)⟩,
    ⟨none, [], none, .mv 12 (.s 93)⟩]) c_spec_Screens_101)) c_spec_Screens_102
def c_spec_Screens_93 : VC :=
  .seq (.ite (.s 92) (.skip) (.exit 6)) c_spec_Screens_97
def c_spec_Screens_91 : VC :=
  .seq (.r 27 [⟨none, [], none, .bin 92 .lss (.s 91) (.s 90)⟩]) c_spec_Screens_93
def c_spec_Screens_89 : VC :=
  .blk 6 (.loop [1, 5, 7, 11, 32, 33, 34, 90, 91] c_spec_Screens_91)
def c_spec_Screens_86 : VC :=
  .ite (.s 87) (.seq (.r 26 [⟨none, [], none, .fadr 88 (.s 7) 7⟩,
    ⟨none, [], none, .ld 89 (.s 88) 1 false⟩,
    ⟨none, [], none, .len 90 (.s 89)⟩,
    ⟨none, [], none, .mv 91 (.k (.int .i64 0))⟩]) c_spec_Screens_89) (.skip)
def c_spec_Screens_104 : VC :=
  .r 31 [⟨none, [], none, .mv 115 (.s 11)⟩,
    ⟨none, [], none, .mv 3 (.s 115)⟩]
def c_spec_Screens_83 : VC :=
  .seq (.seq (.r 25 [⟨none, [], none, .fadr 85 (.s 7) 5⟩,
    ⟨none, [], none, .ld 86 (.s 85) 1 false⟩,
    ⟨none, [], none, .bin 87 .eql (.s 86) (.k (.int .i64 1))⟩]) c_spec_Screens_86) (.kp [1, 5, 11, 32, 33, 34] c_spec_Screens_104)
def c_spec_Screens_81 : VC :=
  .seq (.r 24 [⟨none, [], none, .mv 82 (.s 11)⟩,
    ⟨none, [], none, .mv 83 (.s 8)⟩,
    ⟨none, [], none, .app 84 (.s 82) (.s 83) [.sc] 17592186044416⟩,
    ⟨none, [], none, .mv 11 (.s 84)⟩]) c_spec_Screens_83
def c_spec_Screens_79 : VC :=
  .seq (.r 23 [⟨none, [], none, .nil 11 [.sc]⟩]) c_spec_Screens_81
def c_spec_Screens_73 : VC :=
  .seq (.seq (.r 22 [⟨none, [], none, .fadr 79 (.s 7) 5⟩,
    ⟨none, [], none, .ld 80 (.s 79) 1 false⟩,
    ⟨none, [], none, .bin 81 .eql (.s 80) (.k (.int .i64 2))⟩]) c_spec_Screens_76) c_spec_Screens_79
def c_spec_Screens_71 : VC :=
  .seq (.r 21 [⟨none, [], none, .mv 75 (.s 5)⟩,
    ⟨none, [], none, .mv 76 (.s 8)⟩,
    ⟨none, [.fz 8 0], none, .lits 77 [.ro [.sc]] [(.s 76)]⟩,
    ⟨none, [], none, .app 78 (.s 75) (.s 77) [.ro [.sc]] 5864062014805⟩,
    ⟨none, [], none, .mv 5 (.s 78)⟩]) c_spec_Screens_73
def c_spec_Screens_50 : VC :=
  .seq (.seq (.r 15 [⟨none, [], none, .fadr 41 (.s 7) 7⟩,
    ⟨none, [], none, .ld 42 (.s 41) 1 false⟩,
    ⟨none, [], none, .len 43 (.s 42)⟩,
    ⟨none, [], none, .mv 44 (.k (.int .i64 0))⟩]) c_spec_Screens_53) (.kp [1, 3, 5, 7, 8, 32, 33, 34] c_spec_Screens_71)
def c_spec_Screens_48 : VC :=
  .seq (.r 14 [⟨none, [], none, .mv 38 (.s 8)⟩,
    ⟨none, [], none, .mv 39 (.s 3)⟩,
    ⟨none, [], none, .app 40 (.s 38) (.s 39) [.sc] 17592186044416⟩,
    ⟨none, [], none, .mv 8 (.s 40)⟩]) c_spec_Screens_50
def c_spec_Screens_46 : VC :=
  .seq (.r 13 [⟨none, [], none, .nil 8 [.sc]⟩]) c_spec_Screens_48
def c_spec_Screens_105 : VC :=
  .r 32 [⟨none, [], none, .bin 116 .add (.s 34) (.k (.int .i64 1))⟩,
    ⟨none, [], none, .mv 34 (.s 116)⟩]
def c_spec_Screens_42 : VC :=
  .seq (.blk 3 (.seq (.r 12 [⟨none, [], none, .iadr 36 (.s 32) (.s 34) 8⟩,
    ⟨none, [], none, .ld 37 (.s 36) 8 true⟩,
    ⟨none, [], none, .alloc 7 [.k (.int .i64 0), .k (.int .i64 0), .k (.int .i64 0), .k (.int .i64 0), .k (.int .i64 0), .k (.int .i64 0), .k (.int .i64 0), .o [.sc]]⟩,
    ⟨none, [], none, .st (.s 7) (.s 37) 8⟩]) c_spec_Screens_46)) c_spec_Screens_105
def c_spec_Screens_38 : VC :=
  .seq (.ite (.s 35) (.skip) (.exit 2)) c_spec_Screens_42
def c_spec_Screens_36 : VC :=
  .seq (.r 11 [⟨none, [], none, .bin 35 .lss (.s 34) (.s 33)⟩]) c_spec_Screens_38
def c_spec_Screens_34 : VC :=
  .blk 2 (.loop [1, 3, 5, 32, 33, 34] c_spec_Screens_36)
def c_spec_Screens_106 : VC :=
  .seq (.r 33 [⟨none, [], none, .mv 117 (.s 5)⟩,
    ⟨none, [], none, .mv 2 (.s 117)⟩]) (.ret)
def c_spec_Screens_31 : VC :=
  .seq (.seq (.r 10 [⟨none, [], none, .fadr 31 (.s 1) 4⟩,
    ⟨none, [], none, .ld 32 (.s 31) 1 false⟩,
    ⟨none, [], none, .len 33 (.s 32)⟩,
    ⟨none, [], none, .mv 34 (.k (.int .i64 0))⟩]) c_spec_Screens_34) (.kp [5] c_spec_Screens_106)
def c_spec_Screens_29 : VC :=
  .seq (.r 9 [⟨none, [], none, .nil 5 [.ro [.sc]]⟩]) c_spec_Screens_31
def c_spec_Screens_12 : VC :=
  .seq (.seq (.r 4 [⟨none, [], none, .mv 22 (.s 3)⟩,
    ⟨none, [], none, .len 23 (.s 22)⟩,
    ⟨none, [], none, .mv 24 (.k (.int .i64 0))⟩]) c_spec_Screens_15) (.kp [1, 3] c_spec_Screens_29)
def c_spec_Screens_10 : VC :=
  .seq (.r 3 [⟨none, [], none, .fadr 16 (.s 1) 0⟩,
    ⟨none, [], none, .ld 17 (.s 16) 1 false⟩,
    ⟨none, [], none, .fadr 18 (.s 1) 1⟩,
    ⟨none, [], none, .ld 19 (.s 18) 1 false⟩,
    ⟨none, [], none, .bin 20 .mul (.s 17) (.s 19)⟩,
    ⟨none, [], none, .mk 21 (.s 20) [.sc] [(.int .i64 0)] 17592186044416⟩,
    ⟨none, [], none, .mv 3 (.s 21)⟩]) c_spec_Screens_12
def c_spec_Screens_2 : VC :=
  .seq (.seq (.r 1 [⟨none, [], none, .ld 13 (.s 1) 5 true⟩,
    ⟨none, [], none, .call 14 124 [(.s 13)]⟩,
    ⟨none, [], none, .un 15 .not (.s 14)⟩]) c_spec_Screens_5) c_spec_Screens_10
def c_spec_Screens_0 : VC :=
  .seq (.r 0 [⟨none, [], none, .box 1 (.s 0)⟩,
    ⟨none, [], none, .nil 2 [.ro [.sc]]⟩]) c_spec_Screens_2
def vf_spec_Screens : VF := { pm := [.ro [.sc, .sc, .ro [.sc], .sc, .ro [.sc, .sc, .sc, .sc, .sc, .sc, .sc, .ro [.sc]]]], rm := [.v [.own [.ro [.sc]]]], nslots := 118, res := [2], rc := [], code := .kp [0] c_spec_Screens_0 }
def c_impl_goodSide_2 : VC :=
  .seq (.r 1 [⟨none, [], none, .mv 3 (.s 0)⟩,
    ⟨none, [], none, .bin 4 .geq (.s 3) (.k (.int .i64 1))⟩,
    ⟨none, [], none, .mv 5 (.s 4)⟩,
    ⟨none, [], some (5, true), .mv 6 (.s 0)⟩,
    ⟨none, [], some (5, true), .bin 7 .leq (.s 6) (.k (.int .i64 512))⟩,
    ⟨none, [], none, .pick 8 (.s 5) (.s 7) (.k (.bool false))⟩,
    ⟨none, [], none, .mv 2 (.s 8)⟩]) (.ret)
def c_impl_goodSide_0 : VC :=
  .seq (.r 0 [⟨none, [], none, .mv 2 (.k (.bool false))⟩]) c_impl_goodSide_2
def vf_impl_goodSide : VF := { pm := [.ro [.sc]], rm := [.v [.sc]], nslots := 9, res := [2], rc := [], code := .kp [0] c_impl_goodSide_0 }
def c_impl_goodSides_2 : VC :=
  .seq (.r 1 [⟨none, [], none, .mv 5 (.s 0)⟩,
    ⟨none, [], none, .call 6 218 [(.s 5)]⟩,
    ⟨none, [], none, .mv 7 (.s 6)⟩,
    ⟨none, [], some (7, true), .mv 8 (.s 1)⟩,
    ⟨none, [], some (7, true), .call 9 218 [(.s 8)]⟩,
    ⟨none, [], none, .pick 10 (.s 7) (.s 9) (.k (.bool false))⟩,
    ⟨none, [], none, .mv 11 (.s 10)⟩,
    ⟨none, [], some (11, true), .mv 12 (.s 0)⟩,
    ⟨none, [], some (11, true), .mv 13 (.s 1)⟩,
    ⟨none, [], some (11, true), .bin 14 .mul (.s 12) (.s 13)⟩,
    ⟨none, [], some (11, true), .bin 15 .leq (.s 14) (.k (.int .i64 4096))⟩,
    ⟨none, [], none, .pick 16 (.s 11) (.s 15) (.k (.bool false))⟩,
    ⟨none, [], none, .mv 4 (.s 16)⟩]) (.ret)
def c_impl_goodSides_0 : VC :=
  .seq (.r 0 [⟨none, [], none, .mv 4 (.k (.bool false))⟩]) c_impl_goodSides_2
def vf_impl_goodSides : VF := { pm := [.ro [.sc], .ro [.sc]], rm := [.v [.sc]], nslots := 17, res := [4], rc := [], code := .kp [0, 1] c_impl_goodSides_0 }
def c_impl_inRange_19 : VC :=
  .ite (.s 19) (.seq (.r 5 [⟨none, [], none, .mv 4 (.k (.bool false))⟩]) (.ret)) (.skip)
def c_impl_inRange_17 : VC :=
  .seq (.r 4 [⟨none, [], none, .mv 13 (.s 6)⟩,
    ⟨none, [], none, .bin 14 .lss (.s 13) (.k (.int .i64 0))⟩,
    ⟨none, [], none, .mv 15 (.s 14)⟩,
    ⟨none, [], some (15, false), .mv 16 (.s 6)⟩,
    ⟨none, [], some (15, false), .mv 17 (.s 1)⟩,
    ⟨none, [], some (15, false), .bin 18 .gtr (.s 16) (.s 17)⟩,
    ⟨none, [], none, .pick 19 (.s 15) (.k (.bool true)) (.s 18)⟩]) c_impl_inRange_19
def c_impl_inRange_24 : VC :=
  .r 6 [⟨none, [], none, .bin 20 .add (.s 9) (.k (.int .i64 1))⟩,
    ⟨none, [], none, .mv 9 (.s 20)⟩]
def c_impl_inRange_13 : VC :=
  .seq (.blk 1 (.seq (.r 3 [⟨none, [], none, .iadr 11 (.s 7) (.s 9) 1⟩,
    ⟨none, [], none, .ld 12 (.s 11) 1 false⟩,
    ⟨none, [], none, .mv 6 (.s 12)⟩]) c_impl_inRange_17)) c_impl_inRange_24
def c_impl_inRange_9 : VC :=
  .seq (.ite (.s 10) (.skip) (.exit 0)) c_impl_inRange_13
def c_impl_inRange_7 : VC :=
  .seq (.r 2 [⟨none, [], none, .bin 10 .lss (.s 9) (.s 8)⟩]) c_impl_inRange_9
def c_impl_inRange_5 : VC :=
  .blk 0 (.loop [1, 7, 8, 9] c_impl_inRange_7)
def c_impl_inRange_25 : VC :=
  .seq (.r 7 [⟨none, [], none, .mv 4 (.k (.bool true))⟩]) (.ret)
def c_impl_inRange_2 : VC :=
  .seq (.seq (.r 1 [⟨none, [], none, .mv 7 (.s 0)⟩,
    ⟨none, [], none, .len 8 (.s 7)⟩,
    ⟨none, [], none, .mv 9 (.k (.int .i64 0))⟩]) c_impl_inRange_5) (.kp [] c_impl_inRange_25)
def c_impl_inRange_0 : VC :=
  .seq (.r 0 [⟨none, [], none, .mv 4 (.k (.bool false))⟩]) c_impl_inRange_2
def vf_impl_inRange : VF := { pm := [.ro [.ro [.sc]], .ro [.sc]], rm := [.v [.sc]], nslots := 21, res := [4], rc := [], code := .kp [0, 1] c_impl_inRange_0 }
def c_impl_goodFrame_2 : VC :=
  .seq (.r 1 [⟨none, [], none, .fadr 5 (.s 3) 0⟩,
    ⟨none, [], none, .ld 6 (.s 5) 1 false⟩,
    ⟨none, [], none, .bin 7 .geq (.s 6) (.k (.int .i64 0))⟩,
    ⟨none, [], none, .mv 8 (.s 7)⟩,
    ⟨none, [], some (8, true), .fadr 9 (.s 3) 1⟩,
    ⟨none, [], some (8, true), .ld 10 (.s 9) 1 false⟩,
    ⟨none, [], some (8, true), .bin 11 .geq (.s 10) (.k (.int .i64 0))⟩,
    ⟨none, [], none, .pick 12 (.s 8) (.s 11) (.k (.bool false))⟩,
    ⟨none, [], none, .mv 13 (.s 12)⟩,
    ⟨none, [], some (13, true), .fadr 14 (.s 3) 2⟩,
    ⟨none, [], some (13, true), .ld 15 (.s 14) 1 false⟩,
    ⟨none, [], some (13, true), .bin 16 .geq (.s 15) (.k (.int .i64 1))⟩,
    ⟨none, [], none, .pick 17 (.s 13) (.s 16) (.k (.bool false))⟩,
    ⟨none, [], none, .mv 18 (.s 17)⟩,
    ⟨none, [], some (18, true), .fadr 19 (.s 3) 3⟩,
    ⟨none, [], some (18, true), .ld 20 (.s 19) 1 false⟩,
    ⟨none, [], some (18, true), .bin 21 .geq (.s 20) (.k (.int .i64 1))⟩,
    ⟨none, [], none, .pick 22 (.s 18) (.s 21) (.k (.bool false))⟩,
    ⟨none, [], none, .mv 23 (.s 22)⟩,
    ⟨none, [], some (23, true), .fadr 24 (.s 3) 0⟩,
    ⟨none, [], some (23, true), .ld 25 (.s 24) 1 false⟩,
    ⟨none, [], some (23, true), .fadr 26 (.s 2) 0⟩,
    ⟨none, [], some (23, true), .ld 27 (.s 26) 1 false⟩,
    ⟨none, [], some (23, true), .fadr 28 (.s 3) 2⟩,
    ⟨none, [], some (23, true), .ld 29 (.s 28) 1 false⟩,
    ⟨none, [], some (23, true), .bin 30 .sub (.s 27) (.s 29)⟩,
    ⟨none, [], some (23, true), .bin 31 .leq (.s 25) (.s 30)⟩,
    ⟨none, [], none, .pick 32 (.s 23) (.s 31) (.k (.bool false))⟩,
    ⟨none, [], none, .mv 33 (.s 32)⟩,
    ⟨none, [], some (33, true), .fadr 34 (.s 3) 1⟩,
    ⟨none, [], some (33, true), .ld 35 (.s 34) 1 false⟩,
    ⟨none, [], some (33, true), .fadr 36 (.s 2) 1⟩,
    ⟨none, [], some (33, true), .ld 37 (.s 36) 1 false⟩,
    ⟨none, [], some (33, true), .fadr 38 (.s 3) 3⟩,
    ⟨none, [], some (33, true), .ld 39 (.s 38) 1 false⟩,
    ⟨none, [], some (33, true), .bin 40 .sub (.s 37) (.s 39)⟩,
    ⟨none, [], some (33, true), .bin 41 .leq (.s 35) (.s 40)⟩,
    ⟨none, [], none, .pick 42 (.s 33) (.s 41) (.k (.bool false))⟩,
    ⟨none, [], none, .mv 43 (.s 42)⟩,
    ⟨none, [], some (43, true), .fadr 44 (.s 3) 4⟩,
    ⟨none, [], some (43, true), .ld 45 (.s 44) 1 false⟩,
    ⟨none, [], some (43, true), .bin 46 .geq (.s 45) (.k (.int .i64 0))⟩,
    ⟨none, [], none, .pick 47 (.s 43) (.s 46) (.k (.bool false))⟩,
    ⟨none, [], none, .mv 48 (.s 47)⟩,
    ⟨none, [], some (48, true), .fadr 49 (.s 3) 4⟩,
    ⟨none, [], some (48, true), .ld 50 (.s 49) 1 false⟩,
    ⟨none, [], some (48, true), .bin 51 .leq (.s 50) (.k (.int .i64 65535))⟩,
    ⟨none, [], none, .pick 52 (.s 48) (.s 51) (.k (.bool false))⟩,
    ⟨none, [], none, .mv 53 (.s 52)⟩,
    ⟨none, [], some (53, true), .fadr 54 (.s 3) 5⟩,
    ⟨none, [], some (53, true), .ld 55 (.s 54) 1 false⟩,
    ⟨none, [], some (53, true), .bin 56 .geq (.s 55) (.k (.int .i64 0))⟩,
    ⟨none, [], none, .pick 57 (.s 53) (.s 56) (.k (.bool false))⟩,
    ⟨none, [], none, .mv 58 (.s 57)⟩,
    ⟨none, [], some (58, true), .fadr 59 (.s 3) 5⟩,
    ⟨none, [], some (58, true), .ld 60 (.s 59) 1 false⟩,
    ⟨none, [], some (58, true), .bin 61 .leq (.s 60) (.k (.int .i64 2))⟩,
    ⟨none, [], none, .pick 62 (.s 58) (.s 61) (.k (.bool false))⟩,
    ⟨none, [], none, .mv 63 (.s 62)⟩,
    ⟨none, [], some (63, true), .fadr 64 (.s 3) 6⟩,
    ⟨none, [], some (63, true), .ld 65 (.s 64) 1 false⟩,
    ⟨none, [], some (63, true), .bin 66 .geq (.s 65) (.k (.int .i64 (-1)))⟩,
    ⟨none, [], none, .pick 67 (.s 63) (.s 66) (.k (.bool false))⟩,
    ⟨none, [], none, .mv 68 (.s 67)⟩,
    ⟨none, [], some (68, true), .fadr 69 (.s 3) 6⟩,
    ⟨none, [], some (68, true), .ld 70 (.s 69) 1 false⟩,
    ⟨none, [], some (68, true), .fadr 71 (.s 2) 2⟩,
    ⟨none, [], some (68, true), .ld 72 (.s 71) 1 false⟩,
    ⟨none, [], some (68, true), .len 73 (.s 72)⟩,
    ⟨none, [], some (68, true), .bin 74 .lss (.s 70) (.s 73)⟩,
    ⟨none, [], none, .pick 75 (.s 68) (.s 74) (.k (.bool false))⟩,
    ⟨none, [], none, .mv 4 (.s 75)⟩]) (.ret)
def c_impl_goodFrame_0 : VC :=
  .seq (.r 0 [⟨none, [], none, .box 2 (.s 0)⟩,
    ⟨none, [], none, .box 3 (.s 1)⟩,
    ⟨none, [], none, .mv 4 (.k (.bool false))⟩]) c_impl_goodFrame_2
def vf_impl_goodFrame : VF := { pm := [.ro [.sc, .sc, .ro [.sc], .sc, .ro [.sc, .sc, .sc, .sc, .sc, .sc, .sc, .ro [.sc]]], .ro [.sc, .sc, .sc, .sc, .sc, .sc, .sc, .ro [.sc]]], rm := [.v [.sc]], nslots := 76, res := [4], rc := [], code := .kp [0, 1] c_impl_goodFrame_0 }
def c_impl_GoodMoving_7 : VC :=
  .ite (.s 58) (.seq (.r 3 [⟨none, [], none, .mv 2 (.k (.bool false))⟩]) (.ret)) (.skip)
def c_impl_GoodMoving_32 : VC :=
  .ite (.s 88) (.seq (.r 9 [⟨none, [], none, .mv 2 (.k (.bool false))⟩]) (.ret)) (.skip)
def c_impl_GoodMoving_37 : VC :=
  .r 10 [⟨none, [], none, .mv 89 (.s 4)⟩,
    ⟨none, [], none, .fadr 90 (.s 6) 7⟩,
    ⟨none, [], none, .ld 91 (.s 90) 1 false⟩,
    ⟨none, [], none, .len 92 (.s 91)⟩,
    ⟨none, [], none, .bin 93 .add (.s 89) (.s 92)⟩,
    ⟨none, [], none, .mv 4 (.s 93)⟩]
def c_impl_GoodMoving_29 : VC :=
  .seq (.seq (.r 8 [⟨none, [], none, .ld 66 (.s 1) 5 true⟩,
    ⟨none, [], none, .ld 67 (.s 6) 8 true⟩,
    ⟨none, [], none, .call 68 186 [(.s 66), (.s 67)]⟩,
    ⟨none, [], none, .un 69 .not (.s 68)⟩,
    ⟨none, [], none, .mv 70 (.s 69)⟩,
    ⟨none, [], some (70, false), .fadr 71 (.s 6) 7⟩,
    ⟨none, [], some (70, false), .ld 72 (.s 71) 1 false⟩,
    ⟨none, [], some (70, false), .len 73 (.s 72)⟩,
    ⟨none, [], some (70, false), .fadr 74 (.s 6) 2⟩,
    ⟨none, [], some (70, false), .ld 75 (.s 74) 1 false⟩,
    ⟨none, [], some (70, false), .fadr 76 (.s 6) 3⟩,
    ⟨none, [], some (70, false), .ld 77 (.s 76) 1 false⟩,
    ⟨none, [], some (70, false), .bin 78 .mul (.s 75) (.s 77)⟩,
    ⟨none, [], some (70, false), .bin 79 .neq (.s 73) (.s 78)⟩,
    ⟨none, [], none, .pick 80 (.s 70) (.k (.bool true)) (.s 79)⟩,
    ⟨none, [], none, .mv 81 (.s 80)⟩,
    ⟨none, [], some (81, false), .fadr 82 (.s 6) 7⟩,
    ⟨none, [], some (81, false), .ld 83 (.s 82) 1 false⟩,
    ⟨none, [], some (81, false), .mv 84 (.s 3)⟩,
    ⟨none, [], some (81, false), .bin 85 .sub (.s 84) (.k (.int .i64 1))⟩,
    ⟨none, [], some (81, false), .call 86 104 [(.s 83), (.s 85)]⟩,
    ⟨none, [], some (81, false), .un 87 .not (.s 86)⟩,
    ⟨none, [], none, .pick 88 (.s 81) (.k (.bool true)) (.s 87)⟩]) c_impl_GoodMoving_32) c_impl_GoodMoving_37
def c_impl_GoodMoving_38 : VC :=
  .r 11 [⟨none, [], none, .bin 94 .add (.s 62) (.k (.int .i64 1))⟩,
    ⟨none, [], none, .mv 62 (.s 94)⟩]
def c_impl_GoodMoving_25 : VC :=
  .seq (.blk 1 (.seq (.r 7 [⟨none, [], none, .iadr 64 (.s 60) (.s 62) 8⟩,
    ⟨none, [], none, .ld 65 (.s 64) 8 true⟩,
    ⟨none, [], none, .alloc 6 [.k (.int .i64 0), .k (.int .i64 0), .k (.int .i64 0), .k (.int .i64 0), .k (.int .i64 0), .k (.int .i64 0), .k (.int .i64 0), .o [.sc]]⟩,
    ⟨none, [], none, .st (.s 6) (.s 65) 8⟩]) c_impl_GoodMoving_29)) c_impl_GoodMoving_38
def c_impl_GoodMoving_21 : VC :=
  .seq (.ite (.s 63) (.skip) (.exit 0)) c_impl_GoodMoving_25
def c_impl_GoodMoving_19 : VC :=
  .seq (.r 6 [⟨none, [], none, .bin 63 .lss (.s 62) (.s 61)⟩]) c_impl_GoodMoving_21
def c_impl_GoodMoving_17 : VC :=
  .blk 0 (.loop [1, 3, 4, 60, 61, 62] c_impl_GoodMoving_19)
def c_impl_GoodMoving_39 : VC :=
  .seq (.r 12 [⟨none, [], none, .mv 95 (.s 4)⟩,
    ⟨none, [], none, .bin 96 .leq (.s 95) (.k (.int .i64 16384))⟩,
    ⟨none, [], none, .mv 2 (.s 96)⟩]) (.ret)
def c_impl_GoodMoving_14 : VC :=
  .seq (.seq (.r 5 [⟨none, [], none, .fadr 59 (.s 1) 4⟩,
    ⟨none, [], none, .ld 60 (.s 59) 1 false⟩,
    ⟨none, [], none, .len 61 (.s 60)⟩,
    ⟨none, [], none, .mv 62 (.k (.int .i64 0))⟩]) c_impl_GoodMoving_17) (.kp [4] c_impl_GoodMoving_39)
def c_impl_GoodMoving_12 : VC :=
  .seq (.r 4 [⟨none, [], none, .mv 4 (.k (.int .i64 0))⟩]) c_impl_GoodMoving_14
def c_impl_GoodMoving_4 : VC :=
  .seq (.seq (.r 2 [⟨none, [], none, .fadr 10 (.s 1) 0⟩,
    ⟨none, [], none, .ld 11 (.s 10) 1 false⟩,
    ⟨none, [], none, .fadr 12 (.s 1) 1⟩,
    ⟨none, [], none, .ld 13 (.s 12) 1 false⟩,
    ⟨none, [], none, .call 14 185 [(.s 11), (.s 13)]⟩,
    ⟨none, [], none, .un 15 .not (.s 14)⟩,
    ⟨none, [], none, .mv 16 (.s 15)⟩,
    ⟨none, [], some (16, false), .mv 17 (.s 3)⟩,
    ⟨none, [], some (16, false), .bin 18 .lss (.s 17) (.k (.int .i64 2))⟩,
    ⟨none, [], none, .pick 19 (.s 16) (.k (.bool true)) (.s 18)⟩,
    ⟨none, [], none, .mv 20 (.s 19)⟩,
    ⟨none, [], some (20, false), .mv 21 (.s 3)⟩,
    ⟨none, [], some (20, false), .bin 22 .gtr (.s 21) (.k (.int .i64 256))⟩,
    ⟨none, [], none, .pick 23 (.s 20) (.k (.bool true)) (.s 22)⟩,
    ⟨none, [], none, .mv 24 (.s 23)⟩,
    ⟨none, [], some (24, false), .mv 25 (.s 3)⟩,
    ⟨none, [], some (24, false), .mv 26 (.s 3)⟩,
    ⟨none, [], some (24, false), .bin 27 .sub (.s 26) (.k (.int .i64 1))⟩,
    ⟨none, [], some (24, false), .bin 28 .and (.s 25) (.s 27)⟩,
    ⟨none, [], some (24, false), .bin 29 .neq (.s 28) (.k (.int .i64 0))⟩,
    ⟨none, [], none, .pick 30 (.s 24) (.k (.bool true)) (.s 29)⟩,
    ⟨none, [], none, .mv 31 (.s 30)⟩,
    ⟨none, [], some (31, false), .fadr 32 (.s 1) 2⟩,
    ⟨none, [], some (31, false), .ld 33 (.s 32) 1 false⟩,
    ⟨none, [], some (31, false), .call 34 104 [(.s 33), (.k (.int .i64 16777215))]⟩,
    ⟨none, [], some (31, false), .un 35 .not (.s 34)⟩,
    ⟨none, [], none, .pick 36 (.s 31) (.k (.bool true)) (.s 35)⟩,
    ⟨none, [], none, .mv 37 (.s 36)⟩,
    ⟨none, [], some (37, false), .fadr 38 (.s 1) 3⟩,
    ⟨none, [], some (37, false), .ld 39 (.s 38) 1 false⟩,
    ⟨none, [], some (37, false), .bin 40 .lss (.s 39) (.k (.int .i64 0))⟩,
    ⟨none, [], none, .pick 41 (.s 37) (.k (.bool true)) (.s 40)⟩,
    ⟨none, [], none, .mv 42 (.s 41)⟩,
    ⟨none, [], some (42, false), .fadr 43 (.s 1) 3⟩,
    ⟨none, [], some (42, false), .ld 44 (.s 43) 1 false⟩,
    ⟨none, [], some (42, false), .bin 45 .gtr (.s 44) (.k (.int .i64 65535))⟩,
    ⟨none, [], none, .pick 46 (.s 42) (.k (.bool true)) (.s 45)⟩,
    ⟨none, [], none, .mv 47 (.s 46)⟩,
    ⟨none, [], some (47, false), .fadr 48 (.s 1) 4⟩,
    ⟨none, [], some (47, false), .ld 49 (.s 48) 1 false⟩,
    ⟨none, [], some (47, false), .len 50 (.s 49)⟩,
    ⟨none, [], some (47, false), .bin 51 .lss (.s 50) (.k (.int .i64 1))⟩,
    ⟨none, [], none, .pick 52 (.s 47) (.k (.bool true)) (.s 51)⟩,
    ⟨none, [], none, .mv 53 (.s 52)⟩,
    ⟨none, [], some (53, false), .fadr 54 (.s 1) 4⟩,
    ⟨none, [], some (53, false), .ld 55 (.s 54) 1 false⟩,
    ⟨none, [], some (53, false), .len 56 (.s 55)⟩,
    ⟨none, [], some (53, false), .bin 57 .gtr (.s 56) (.k (.int .i64 40))⟩,
    ⟨none, [], none, .pick 58 (.s 53) (.k (.bool true)) (.s 57)⟩]) c_impl_GoodMoving_7) c_impl_GoodMoving_12
def c_impl_GoodMoving_2 : VC :=
  .seq (.r 1 [⟨none, [], none, .fadr 7 (.s 1) 2⟩,
    ⟨none, [], none, .ld 8 (.s 7) 1 false⟩,
    ⟨none, [], none, .len 9 (.s 8)⟩,
    ⟨none, [], none, .mv 3 (.s 9)⟩]) c_impl_GoodMoving_4
def c_impl_GoodMoving_0 : VC :=
  .seq (.r 0 [⟨none, [], none, .box 1 (.s 0)⟩,
    ⟨none, [], none, .mv 2 (.k (.bool false))⟩]) c_impl_GoodMoving_2
def vf_impl_GoodMoving : VF := { pm := [.ro [.sc, .sc, .ro [.sc], .sc, .ro [.sc, .sc, .sc, .sc, .sc, .sc, .sc, .ro [.sc]]]], rm := [.v [.sc]], nslots := 97, res := [2], rc := [], code := .kp [0] c_impl_GoodMoving_0 }
def c_impl_Screens_5 : VC :=
  .ite (.s 14) (.seq (.r 2 [⟨none, [], none, .nil 2 [.own [.sc]]⟩]) (.ret)) (.skip)
def c_impl_Screens_27 : VC :=
  .r 7 [⟨none, [], none, .mv 26 (.s 3)⟩,
    ⟨none, [], none, .mv 27 (.s 4)⟩,
    ⟨none, [], none, .iadr 28 (.s 26) (.s 27) 1⟩,
    ⟨none, [], none, .st (.s 28) (.k (.int .i64 (-1))) 1⟩]
def c_impl_Screens_28 : VC :=
  .r 8 [⟨none, [], none, .bin 29 .add (.s 23) (.k (.int .i64 1))⟩,
    ⟨none, [], none, .mv 23 (.s 29)⟩]
def c_impl_Screens_23 : VC :=
  .seq (.blk 1 (.seq (.r 6 [⟨none, [], none, .mv 25 (.s 23)⟩,
    ⟨none, [], none, .mv 4 (.s 25)⟩]) c_impl_Screens_27)) c_impl_Screens_28
def c_impl_Screens_19 : VC :=
  .seq (.ite (.s 24) (.skip) (.exit 0)) c_impl_Screens_23
def c_impl_Screens_17 : VC :=
  .seq (.r 5 [⟨none, [], none, .bin 24 .lss (.s 23) (.s 22)⟩]) c_impl_Screens_19
def c_impl_Screens_15 : VC :=
  .blk 0 (.loop [1, 3, 22, 23] c_impl_Screens_17)
def c_impl_Screens_65 : VC :=
  .ite (.s 50) (.d 18 [(0, ⟨none, [], none, .mv 51 (.s 3)⟩),
    (1, ⟨none, [], none, .fadv 52 (.s 7) 1⟩),
    (2, ⟨none, [], none, .ldv 53 (.s 52) 1 false⟩),
    (3, ⟨none, [], none, .mv 54 (.s 9)⟩),
    (4, ⟨none, [], none, .fadv 55 (.s 7) 2⟩),
    (5, ⟨none, [], none, .ldv 56 (.s 55) 1 false⟩),
    (6, ⟨none, [], none, .bin 57 .quo (.s 54) (.s 56)⟩),
    (7, ⟨none, [], none, .bin 58 .add (.s 53) (.s 57)⟩),
    (8, ⟨none, [], none, .fadv 59 (.s 1) 0⟩),
    (9, ⟨none, [], none, .ldv 60 (.s 59) 1 false⟩),
    (10, ⟨none, [], none, .bin 61 .mul (.s 58) (.s 60)⟩),
    (11, ⟨none, [], none, .fadv 62 (.s 7) 0⟩),
    (12, ⟨none, [], none, .ldv 63 (.s 62) 1 false⟩),
    (13, ⟨none, [], none, .bin 64 .add (.s 61) (.s 63)⟩),
    (14, ⟨none, [], none, .mv 65 (.s 9)⟩),
    (15, ⟨none, [], none, .fadv 66 (.s 7) 2⟩),
    (16, ⟨none, [], none, .ldv 67 (.s 66) 1 false⟩),
    (17, ⟨none, [], none, .bin 68 .rem (.s 65) (.s 67)⟩),
    (18, ⟨none, [], none, .bin 69 .add (.s 64) (.s 68)⟩),
    (19, ⟨none, [], none, .mv 70 (.s 10)⟩),
    (20, ⟨none, [], none, .iadr 71 (.s 51) (.s 69) 1⟩),
    (21, ⟨none, [], none, .st (.s 71) (.s 70) 1⟩)]) (.skip)
def c_impl_Screens_63 : VC :=
  .seq (.r 17 [⟨none, [], none, .mv 47 (.s 10)⟩,
    ⟨none, [], none, .fadr 48 (.s 7) 6⟩,
    ⟨none, [], none, .ld 49 (.s 48) 1 false⟩,
    ⟨none, [], none, .bin 50 .neq (.s 47) (.s 49)⟩]) c_impl_Screens_65
def c_impl_Screens_68 : VC :=
  .r 19 [⟨none, [], none, .bin 72 .add (.s 42) (.k (.int .i64 1))⟩,
    ⟨none, [], none, .mv 42 (.s 72)⟩]
def c_impl_Screens_59 : VC :=
  .seq (.blk 5 (.seq (.r 16 [⟨none, [], none, .mv 44 (.s 42)⟩,
    ⟨none, [], none, .iadr 45 (.s 40) (.s 42) 1⟩,
    ⟨none, [], none, .ld 46 (.s 45) 1 false⟩,
    ⟨none, [], none, .mv 9 (.s 44)⟩,
    ⟨none, [], none, .mv 10 (.s 46)⟩]) c_impl_Screens_63)) c_impl_Screens_68
def c_impl_Screens_55 : VC :=
  .seq (.ite (.s 43) (.skip) (.exit 4)) c_impl_Screens_59
def c_impl_Screens_53 : VC :=
  .seq (.r 15 [⟨none, [], none, .bin 43 .lss (.s 42) (.s 41)⟩]) c_impl_Screens_55
def c_impl_Screens_51 : VC :=
  .blk 4 (.loop [1, 3, 5, 7, 8, 31, 32, 33, 40, 41, 42] c_impl_Screens_53)
def c_impl_Screens_91 : VC :=
  .d 26 [(0, ⟨none, [], none, .mv 88 (.s 3)⟩),
    (1, ⟨none, [], none, .fadv 89 (.s 7) 1⟩),
    (2, ⟨none, [], none, .ldv 90 (.s 89) 1 false⟩),
    (3, ⟨none, [], none, .mv 91 (.s 11)⟩),
    (4, ⟨none, [], none, .fadv 92 (.s 7) 2⟩),
    (5, ⟨none, [], none, .ldv 93 (.s 92) 1 false⟩),
    (6, ⟨none, [], none, .bin 94 .quo (.s 91) (.s 93)⟩),
    (7, ⟨none, [], none, .bin 95 .add (.s 90) (.s 94)⟩),
    (8, ⟨none, [], none, .fadv 96 (.s 1) 0⟩),
    (9, ⟨none, [], none, .ldv 97 (.s 96) 1 false⟩),
    (10, ⟨none, [], none, .bin 98 .mul (.s 95) (.s 97)⟩),
    (11, ⟨none, [], none, .fadv 99 (.s 7) 0⟩),
    (12, ⟨none, [], none, .ldv 100 (.s 99) 1 false⟩),
    (13, ⟨none, [], none, .bin 101 .add (.s 98) (.s 100)⟩),
    (14, ⟨none, [], none, .mv 102 (.s 11)⟩),
    (15, ⟨none, [], none, .fadv 103 (.s 7) 2⟩),
    (16, ⟨none, [], none, .ldv 104 (.s 103) 1 false⟩),
    (17, ⟨none, [], none, .bin 105 .rem (.s 102) (.s 104)⟩),
    (18, ⟨none, [], none, .bin 106 .add (.s 101) (.s 105)⟩),
    (19, ⟨none, [], none, .iadr 107 (.s 88) (.s 106) 1⟩),
    (20, ⟨none, [], none, .st (.s 107) (.k (.int .i64 (-1))) 1⟩)]
def c_impl_Screens_92 : VC :=
  .r 27 [⟨none, [], none, .bin 108 .add (.s 85) (.k (.int .i64 1))⟩,
    ⟨none, [], none, .mv 85 (.s 108)⟩]
def c_impl_Screens_87 : VC :=
  .seq (.blk 8 (.seq (.r 25 [⟨none, [], none, .mv 87 (.s 85)⟩,
    ⟨none, [], none, .mv 11 (.s 87)⟩]) c_impl_Screens_91)) c_impl_Screens_92
def c_impl_Screens_83 : VC :=
  .seq (.ite (.s 86) (.skip) (.exit 7)) c_impl_Screens_87
def c_impl_Screens_81 : VC :=
  .seq (.r 24 [⟨none, [], none, .bin 86 .lss (.s 85) (.s 84)⟩]) c_impl_Screens_83
def c_impl_Screens_79 : VC :=
  .blk 7 (.loop [1, 3, 5, 7, 31, 32, 33, 84, 85] c_impl_Screens_81)
def c_impl_Screens_95 : VC :=
  .ite (.s 109) (.r 29 [⟨none, [], none, .mv 111 (.s 8)⟩,
    ⟨none, [], none, .mv 3 (.s 111)⟩]) (.skip)
def c_impl_Screens_76 : VC :=
  .ite (.s 80) (.seq (.r 23 [⟨none, [], none, .fadr 82 (.s 7) 7⟩,
    ⟨none, [], none, .ld 83 (.s 82) 1 false⟩,
    ⟨none, [], none, .len 84 (.s 83)⟩,
    ⟨none, [], none, .mv 85 (.k (.int .i64 0))⟩]) c_impl_Screens_79) (.seq (.r 28 [⟨none, [], none, .bin 110 .eql (.s 79) (.k (.int .i64 2))⟩,
    ⟨none, [], none, .mv 109 (.s 110)⟩]) c_impl_Screens_95)
def c_impl_Screens_73 : VC :=
  .blk 6 (.seq (.r 22 [⟨none, [], none, .bin 81 .eql (.s 79) (.k (.int .i64 1))⟩,
    ⟨none, [], none, .mv 80 (.s 81)⟩]) c_impl_Screens_76)
def c_impl_Screens_71 : VC :=
  .seq (.r 21 [⟨none, [], none, .fadr 78 (.s 7) 5⟩,
    ⟨none, [], none, .ld 79 (.s 78) 1 false⟩]) c_impl_Screens_73
def c_impl_Screens_69 : VC :=
  .seq (.r 20 [⟨none, [], none, .mv 73 (.s 5)⟩,
    ⟨none, [], none, .mv 74 (.s 3)⟩,
    ⟨none, [], none, .app 75 (.k (.slice none 0 0)) (.s 74) [.sc] 17592186044416⟩,
    ⟨none, [], none, .lits 76 [.own [.sc]] [(.s 75)]⟩,
    ⟨none, [], none, .app 77 (.s 73) (.s 76) [.own [.sc]] 5864062014805⟩,
    ⟨none, [], none, .mv 5 (.s 77)⟩]) c_impl_Screens_71
def c_impl_Screens_48 : VC :=
  .seq (.seq (.r 14 [⟨none, [], none, .fadr 39 (.s 7) 7⟩,
    ⟨none, [], none, .ld 40 (.s 39) 1 false⟩,
    ⟨none, [], none, .len 41 (.s 40)⟩,
    ⟨none, [], none, .mv 42 (.k (.int .i64 0))⟩]) c_impl_Screens_51) (.kp [1, 3, 5, 7, 8, 31, 32, 33] c_impl_Screens_69)
def c_impl_Screens_46 : VC :=
  .seq (.r 13 [⟨none, [], none, .mv 37 (.s 3)⟩,
    ⟨none, [], none, .app 38 (.k (.slice none 0 0)) (.s 37) [.sc] 17592186044416⟩,
    ⟨none, [], none, .mv 8 (.s 38)⟩]) c_impl_Screens_48
def c_impl_Screens_98 : VC :=
  .r 30 [⟨none, [], none, .bin 112 .add (.s 33) (.k (.int .i64 1))⟩,
    ⟨none, [], none, .mv 33 (.s 112)⟩]
def c_impl_Screens_42 : VC :=
  .seq (.blk 3 (.seq (.r 12 [⟨none, [], none, .iadr 35 (.s 31) (.s 33) 8⟩,
    ⟨none, [], none, .ld 36 (.s 35) 8 true⟩,
    ⟨none, [], none, .alloc 7 [.k (.int .i64 0), .k (.int .i64 0), .k (.int .i64 0), .k (.int .i64 0), .k (.int .i64 0), .k (.int .i64 0), .k (.int .i64 0), .o [.sc]]⟩,
    ⟨none, [], none, .st (.s 7) (.s 36) 8⟩]) c_impl_Screens_46)) (.kp [1, 3, 5, 31, 32, 33] c_impl_Screens_98)
def c_impl_Screens_38 : VC :=
  .seq (.ite (.s 34) (.skip) (.exit 2)) c_impl_Screens_42
def c_impl_Screens_36 : VC :=
  .seq (.r 11 [⟨none, [], none, .bin 34 .lss (.s 33) (.s 32)⟩]) c_impl_Screens_38
def c_impl_Screens_34 : VC :=
  .blk 2 (.loop [1, 3, 5, 31, 32, 33] c_impl_Screens_36)
def c_impl_Screens_99 : VC :=
  .seq (.r 31 [⟨none, [], none, .mv 113 (.s 5)⟩,
    ⟨none, [], none, .mv 2 (.s 113)⟩]) (.ret)
def c_impl_Screens_31 : VC :=
  .seq (.seq (.r 10 [⟨none, [], none, .fadr 30 (.s 1) 4⟩,
    ⟨none, [], none, .ld 31 (.s 30) 1 false⟩,
    ⟨none, [], none, .len 32 (.s 31)⟩,
    ⟨none, [], none, .mv 33 (.k (.int .i64 0))⟩]) c_impl_Screens_34) (.kp [5] c_impl_Screens_99)
def c_impl_Screens_29 : VC :=
  .seq (.r 9 [⟨none, [], none, .nil 5 [.own [.sc]]⟩]) c_impl_Screens_31
def c_impl_Screens_12 : VC :=
  .seq (.seq (.r 4 [⟨none, [], none, .mv 21 (.s 3)⟩,
    ⟨none, [], none, .len 22 (.s 21)⟩,
    ⟨none, [], none, .mv 23 (.k (.int .i64 0))⟩]) c_impl_Screens_15) (.kp [1, 3] c_impl_Screens_29)
def c_impl_Screens_10 : VC :=
  .seq (.r 3 [⟨none, [], none, .fadr 15 (.s 1) 0⟩,
    ⟨none, [], none, .ld 16 (.s 15) 1 false⟩,
    ⟨none, [], none, .fadr 17 (.s 1) 1⟩,
    ⟨none, [], none, .ld 18 (.s 17) 1 false⟩,
    ⟨none, [], none, .bin 19 .mul (.s 16) (.s 18)⟩,
    ⟨none, [], none, .mk 20 (.s 19) [.sc] [(.int .i64 0)] 17592186044416⟩,
    ⟨none, [], none, .mv 3 (.s 20)⟩]) c_impl_Screens_12
def c_impl_Screens_2 : VC :=
  .seq (.seq (.r 1 [⟨none, [], none, .ld 12 (.s 1) 5 true⟩,
    ⟨none, [], none, .call 13 126 [(.s 12)]⟩,
    ⟨none, [], none, .un 14 .not (.s 13)⟩]) c_impl_Screens_5) c_impl_Screens_10
def c_impl_Screens_0 : VC :=
  .seq (.r 0 [⟨none, [], none, .box 1 (.s 0)⟩,
    ⟨none, [], none, .nil 2 [.own [.sc]]⟩]) c_impl_Screens_2
def vf_impl_Screens : VF := { pm := [.ro [.sc, .sc, .ro [.sc], .sc, .ro [.sc, .sc, .sc, .sc, .sc, .sc, .sc, .ro [.sc]]]], rm := [.v [.own [.own [.sc]]]], nslots := 114, res := [2], rc := [], code := .kp [0] c_impl_Screens_0 }
def c_laws_eqIntS_5 : VC :=
  .ite (.s 10) (.seq (.r 2 [⟨none, [], none, .mv 4 (.k (.bool false))⟩]) (.ret)) (.skip)
def c_laws_eqIntS_18 : VC :=
  .ite (.s 14) (.skip) (.exit 0)
def c_laws_eqIntS_25 : VC :=
  .ite (.s 25) (.seq (.r 7 [⟨none, [], none, .mv 4 (.k (.bool false))⟩]) (.ret)) (.skip)
def c_laws_eqIntS_30 : VC :=
  .r 5 [⟨none, [], none, .mv 15 (.s 5)⟩,
    ⟨none, [], none, .bin 16 .add (.s 15) (.k (.int .i64 1))⟩,
    ⟨none, [], none, .mv 5 (.s 16)⟩]
def c_laws_eqIntS_21 : VC :=
  .seq (.blk 1 (.seq (.d 6 [(0, ⟨none, [], none, .mv 17 (.s 0)⟩),
    (1, ⟨none, [], none, .mv 18 (.s 5)⟩),
    (2, ⟨none, [], none, .iadr 19 (.s 17) (.s 18) 1⟩),
    (3, ⟨none, [], none, .ldv 20 (.s 19) 1 false⟩),
    (4, ⟨none, [], none, .mv 21 (.s 1)⟩),
    (5, ⟨none, [], none, .mv 22 (.s 5)⟩),
    (6, ⟨none, [], none, .iadr 23 (.s 21) (.s 22) 1⟩),
    (7, ⟨none, [], none, .ldv 24 (.s 23) 1 false⟩),
    (8, ⟨none, [], none, .bin 25 .neq (.s 20) (.s 24)⟩)]) c_laws_eqIntS_25)) c_laws_eqIntS_30
def c_laws_eqIntS_15 : VC :=
  .seq (.seq (.r 4 [⟨none, [], none, .mv 11 (.s 5)⟩,
    ⟨none, [], none, .mv 12 (.s 0)⟩,
    ⟨none, [], none, .len 13 (.s 12)⟩,
    ⟨none, [], none, .bin 14 .lss (.s 11) (.s 13)⟩]) c_laws_eqIntS_18) c_laws_eqIntS_21
def c_laws_eqIntS_13 : VC :=
  .blk 0 (.loop [0, 1, 5] c_laws_eqIntS_15)
def c_laws_eqIntS_31 : VC :=
  .seq (.r 8 [⟨none, [], none, .mv 4 (.k (.bool true))⟩]) (.ret)
def c_laws_eqIntS_10 : VC :=
  .seq (.seq (.r 3 [⟨none, [], none, .mv 5 (.k (.int .i64 0))⟩]) c_laws_eqIntS_13) (.kp [] c_laws_eqIntS_31)
def c_laws_eqIntS_2 : VC :=
  .seq (.seq (.r 1 [⟨none, [], none, .mv 6 (.s 0)⟩,
    ⟨none, [], none, .len 7 (.s 6)⟩,
    ⟨none, [], none, .mv 8 (.s 1)⟩,
    ⟨none, [], none, .len 9 (.s 8)⟩,
    ⟨none, [], none, .bin 10 .neq (.s 7) (.s 9)⟩]) c_laws_eqIntS_5) c_laws_eqIntS_10
def c_laws_eqIntS_0 : VC :=
  .seq (.r 0 [⟨none, [], none, .mv 4 (.k (.bool false))⟩]) c_laws_eqIntS_2
def vf_laws_eqIntS : VF := { pm := [.ro [.ro [.sc]], .ro [.ro [.sc]]], rm := [.v [.sc]], nslots := 26, res := [4], rc := [], code := .kp [0, 1] c_laws_eqIntS_0 }
def c_laws_eqIntSS_5 : VC :=
  .ite (.s 10) (.seq (.r 2 [⟨none, [], none, .mv 4 (.k (.bool false))⟩]) (.ret)) (.skip)
def c_laws_eqIntSS_18 : VC :=
  .ite (.s 14) (.skip) (.exit 0)
def c_laws_eqIntSS_25 : VC :=
  .ite (.s 26) (.seq (.r 7 [⟨none, [], none, .mv 4 (.k (.bool false))⟩]) (.ret)) (.skip)
def c_laws_eqIntSS_30 : VC :=
  .r 5 [⟨none, [], none, .mv 15 (.s 5)⟩,
    ⟨none, [], none, .bin 16 .add (.s 15) (.k (.int .i64 1))⟩,
    ⟨none, [], none, .mv 5 (.s 16)⟩]
def c_laws_eqIntSS_21 : VC :=
  .seq (.blk 1 (.seq (.d 6 [(0, ⟨none, [], none, .mv 17 (.s 0)⟩),
    (1, ⟨none, [], none, .mv 18 (.s 5)⟩),
    (2, ⟨none, [], none, .iadr 19 (.s 17) (.s 18) 1⟩),
    (3, ⟨none, [], none, .ldv 20 (.s 19) 1 false⟩),
    (4, ⟨none, [], none, .mv 21 (.s 1)⟩),
    (5, ⟨none, [], none, .mv 22 (.s 5)⟩),
    (6, ⟨none, [], none, .iadr 23 (.s 21) (.s 22) 1⟩),
    (7, ⟨none, [], none, .ldv 24 (.s 23) 1 false⟩),
    (8, ⟨none, [], none, .call 25 62 [(.s 20), (.s 24)]⟩),
    (9, ⟨none, [], none, .un 26 .not (.s 25)⟩)]) c_laws_eqIntSS_25)) c_laws_eqIntSS_30
def c_laws_eqIntSS_15 : VC :=
  .seq (.seq (.r 4 [⟨none, [], none, .mv 11 (.s 5)⟩,
    ⟨none, [], none, .mv 12 (.s 0)⟩,
    ⟨none, [], none, .len 13 (.s 12)⟩,
    ⟨none, [], none, .bin 14 .lss (.s 11) (.s 13)⟩]) c_laws_eqIntSS_18) c_laws_eqIntSS_21
def c_laws_eqIntSS_13 : VC :=
  .blk 0 (.loop [0, 1, 5] c_laws_eqIntSS_15)
def c_laws_eqIntSS_31 : VC :=
  .seq (.r 8 [⟨none, [], none, .mv 4 (.k (.bool true))⟩]) (.ret)
def c_laws_eqIntSS_10 : VC :=
  .seq (.seq (.r 3 [⟨none, [], none, .mv 5 (.k (.int .i64 0))⟩]) c_laws_eqIntSS_13) (.kp [] c_laws_eqIntSS_31)
def c_laws_eqIntSS_2 : VC :=
  .seq (.seq (.r 1 [⟨none, [], none, .mv 6 (.s 0)⟩,
    ⟨none, [], none, .len 7 (.s 6)⟩,
    ⟨none, [], none, .mv 8 (.s 1)⟩,
    ⟨none, [], none, .len 9 (.s 8)⟩,
    ⟨none, [], none, .bin 10 .neq (.s 7) (.s 9)⟩]) c_laws_eqIntSS_5) c_laws_eqIntSS_10
def c_laws_eqIntSS_0 : VC :=
  .seq (.r 0 [⟨none, [], none, .mv 4 (.k (.bool false))⟩]) c_laws_eqIntSS_2
def vf_laws_eqIntSS : VF := { pm := [.ro [.ro [.ro [.sc]]], .ro [.ro [.ro [.sc]]]], rm := [.v [.sc]], nslots := 27, res := [4], rc := [], code := .kp [0, 1] c_laws_eqIntSS_0 }
def c_laws_eqFrame_5 : VC :=
  .ite (.s 9) (.seq (.r 2 [⟨none, [], none, .mv 4 (.k (.bool false))⟩]) (.ret)) (.skip)
def c_laws_eqFrame_13 : VC :=
  .ite (.s 14) (.seq (.r 4 [⟨none, [], none, .mv 4 (.k (.bool false))⟩]) (.ret)) (.skip)
def c_laws_eqFrame_21 : VC :=
  .ite (.s 19) (.seq (.r 6 [⟨none, [], none, .mv 4 (.k (.bool false))⟩]) (.ret)) (.skip)
def c_laws_eqFrame_29 : VC :=
  .ite (.s 24) (.seq (.r 8 [⟨none, [], none, .mv 4 (.k (.bool false))⟩]) (.ret)) (.skip)
def c_laws_eqFrame_37 : VC :=
  .ite (.s 29) (.seq (.r 10 [⟨none, [], none, .mv 4 (.k (.bool false))⟩]) (.ret)) (.skip)
def c_laws_eqFrame_45 : VC :=
  .ite (.s 34) (.seq (.r 12 [⟨none, [], none, .mv 4 (.k (.bool false))⟩]) (.ret)) (.skip)
def c_laws_eqFrame_53 : VC :=
  .ite (.s 39) (.seq (.r 14 [⟨none, [], none, .mv 4 (.k (.bool false))⟩]) (.ret)) (.skip)
def c_laws_eqFrame_61 : VC :=
  .ite (.s 45) (.seq (.r 16 [⟨none, [], none, .mv 4 (.k (.bool false))⟩]) (.ret)) (.skip)
def c_laws_eqFrame_66 : VC :=
  .seq (.r 17 [⟨none, [], none, .mv 4 (.k (.bool true))⟩]) (.ret)
def c_laws_eqFrame_58 : VC :=
  .seq (.seq (.r 15 [⟨none, [], none, .fadr 40 (.s 2) 7⟩,
    ⟨none, [], none, .ld 41 (.s 40) 1 false⟩,
    ⟨none, [], none, .fadr 42 (.s 3) 7⟩,
    ⟨none, [], none, .ld 43 (.s 42) 1 false⟩,
    ⟨none, [], none, .call 44 62 [(.s 41), (.s 43)]⟩,
    ⟨none, [], none, .un 45 .not (.s 44)⟩]) c_laws_eqFrame_61) c_laws_eqFrame_66
def c_laws_eqFrame_50 : VC :=
  .seq (.seq (.r 13 [⟨none, [], none, .fadr 35 (.s 2) 6⟩,
    ⟨none, [], none, .ld 36 (.s 35) 1 false⟩,
    ⟨none, [], none, .fadr 37 (.s 3) 6⟩,
    ⟨none, [], none, .ld 38 (.s 37) 1 false⟩,
    ⟨none, [], none, .bin 39 .neq (.s 36) (.s 38)⟩]) c_laws_eqFrame_53) c_laws_eqFrame_58
def c_laws_eqFrame_42 : VC :=
  .seq (.seq (.r 11 [⟨none, [], none, .fadr 30 (.s 2) 5⟩,
    ⟨none, [], none, .ld 31 (.s 30) 1 false⟩,
    ⟨none, [], none, .fadr 32 (.s 3) 5⟩,
    ⟨none, [], none, .ld 33 (.s 32) 1 false⟩,
    ⟨none, [], none, .bin 34 .neq (.s 31) (.s 33)⟩]) c_laws_eqFrame_45) c_laws_eqFrame_50
def c_laws_eqFrame_34 : VC :=
  .seq (.seq (.r 9 [⟨none, [], none, .fadr 25 (.s 2) 4⟩,
    ⟨none, [], none, .ld 26 (.s 25) 1 false⟩,
    ⟨none, [], none, .fadr 27 (.s 3) 4⟩,
    ⟨none, [], none, .ld 28 (.s 27) 1 false⟩,
    ⟨none, [], none, .bin 29 .neq (.s 26) (.s 28)⟩]) c_laws_eqFrame_37) c_laws_eqFrame_42
def c_laws_eqFrame_26 : VC :=
  .seq (.seq (.r 7 [⟨none, [], none, .fadr 20 (.s 2) 3⟩,
    ⟨none, [], none, .ld 21 (.s 20) 1 false⟩,
    ⟨none, [], none, .fadr 22 (.s 3) 3⟩,
    ⟨none, [], none, .ld 23 (.s 22) 1 false⟩,
    ⟨none, [], none, .bin 24 .neq (.s 21) (.s 23)⟩]) c_laws_eqFrame_29) c_laws_eqFrame_34
def c_laws_eqFrame_18 : VC :=
  .seq (.seq (.r 5 [⟨none, [], none, .fadr 15 (.s 2) 2⟩,
    ⟨none, [], none, .ld 16 (.s 15) 1 false⟩,
    ⟨none, [], none, .fadr 17 (.s 3) 2⟩,
    ⟨none, [], none, .ld 18 (.s 17) 1 false⟩,
    ⟨none, [], none, .bin 19 .neq (.s 16) (.s 18)⟩]) c_laws_eqFrame_21) c_laws_eqFrame_26
def c_laws_eqFrame_10 : VC :=
  .seq (.seq (.r 3 [⟨none, [], none, .fadr 10 (.s 2) 1⟩,
    ⟨none, [], none, .ld 11 (.s 10) 1 false⟩,
    ⟨none, [], none, .fadr 12 (.s 3) 1⟩,
    ⟨none, [], none, .ld 13 (.s 12) 1 false⟩,
    ⟨none, [], none, .bin 14 .neq (.s 11) (.s 13)⟩]) c_laws_eqFrame_13) c_laws_eqFrame_18
def c_laws_eqFrame_2 : VC :=
  .seq (.seq (.r 1 [⟨none, [], none, .fadr 5 (.s 2) 0⟩,
    ⟨none, [], none, .ld 6 (.s 5) 1 false⟩,
    ⟨none, [], none, .fadr 7 (.s 3) 0⟩,
    ⟨none, [], none, .ld 8 (.s 7) 1 false⟩,
    ⟨none, [], none, .bin 9 .neq (.s 6) (.s 8)⟩]) c_laws_eqFrame_5) c_laws_eqFrame_10
def c_laws_eqFrame_0 : VC :=
  .seq (.r 0 [⟨none, [], none, .box 2 (.s 0)⟩,
    ⟨none, [], none, .box 3 (.s 1)⟩,
    ⟨none, [], none, .mv 4 (.k (.bool false))⟩]) c_laws_eqFrame_2
def vf_laws_eqFrame : VF := { pm := [.ro [.sc, .sc, .sc, .sc, .sc, .sc, .sc, .ro [.sc]], .ro [.sc, .sc, .sc, .sc, .sc, .sc, .sc, .ro [.sc]]], rm := [.v [.sc]], nslots := 46, res := [4], rc := [], code := .kp [0, 1] c_laws_eqFrame_0 }
def c_laws_eqFrameS_5 : VC :=
  .ite (.s 10) (.seq (.r 2 [⟨none, [], none, .mv 4 (.k (.bool false))⟩]) (.ret)) (.skip)
def c_laws_eqFrameS_18 : VC :=
  .ite (.s 14) (.skip) (.exit 0)
def c_laws_eqFrameS_25 : VC :=
  .ite (.s 26) (.seq (.r 7 [⟨none, [], none, .mv 4 (.k (.bool false))⟩]) (.ret)) (.skip)
def c_laws_eqFrameS_30 : VC :=
  .r 5 [⟨none, [], none, .mv 15 (.s 5)⟩,
    ⟨none, [], none, .bin 16 .add (.s 15) (.k (.int .i64 1))⟩,
    ⟨none, [], none, .mv 5 (.s 16)⟩]
def c_laws_eqFrameS_21 : VC :=
  .seq (.blk 1 (.seq (.d 6 [(0, ⟨none, [], none, .mv 17 (.s 0)⟩),
    (1, ⟨none, [], none, .mv 18 (.s 5)⟩),
    (2, ⟨none, [], none, .iadr 19 (.s 17) (.s 18) 8⟩),
    (3, ⟨none, [], none, .ldv 20 (.s 19) 8 true⟩),
    (4, ⟨none, [], none, .mv 21 (.s 1)⟩),
    (5, ⟨none, [], none, .mv 22 (.s 5)⟩),
    (6, ⟨none, [], none, .iadr 23 (.s 21) (.s 22) 8⟩),
    (7, ⟨none, [], none, .ldv 24 (.s 23) 8 true⟩),
    (8, ⟨none, [], none, .call 25 187 [(.s 20), (.s 24)]⟩),
    (9, ⟨none, [], none, .un 26 .not (.s 25)⟩)]) c_laws_eqFrameS_25)) c_laws_eqFrameS_30
def c_laws_eqFrameS_15 : VC :=
  .seq (.seq (.r 4 [⟨none, [], none, .mv 11 (.s 5)⟩,
    ⟨none, [], none, .mv 12 (.s 0)⟩,
    ⟨none, [], none, .len 13 (.s 12)⟩,
    ⟨none, [], none, .bin 14 .lss (.s 11) (.s 13)⟩]) c_laws_eqFrameS_18) c_laws_eqFrameS_21
def c_laws_eqFrameS_13 : VC :=
  .blk 0 (.loop [0, 1, 5] c_laws_eqFrameS_15)
def c_laws_eqFrameS_31 : VC :=
  .seq (.r 8 [⟨none, [], none, .mv 4 (.k (.bool true))⟩]) (.ret)
def c_laws_eqFrameS_10 : VC :=
  .seq (.seq (.r 3 [⟨none, [], none, .mv 5 (.k (.int .i64 0))⟩]) c_laws_eqFrameS_13) (.kp [] c_laws_eqFrameS_31)
def c_laws_eqFrameS_2 : VC :=
  .seq (.seq (.r 1 [⟨none, [], none, .mv 6 (.s 0)⟩,
    ⟨none, [], none, .len 7 (.s 6)⟩,
    ⟨none, [], none, .mv 8 (.s 1)⟩,
    ⟨none, [], none, .len 9 (.s 8)⟩,
    ⟨none, [], none, .bin 10 .neq (.s 7) (.s 9)⟩]) c_laws_eqFrameS_5) c_laws_eqFrameS_10
def c_laws_eqFrameS_0 : VC :=
  .seq (.r 0 [⟨none, [], none, .mv 4 (.k (.bool false))⟩]) c_laws_eqFrameS_2
def vf_laws_eqFrameS : VF := { pm := [.ro [.ro [.sc, .sc, .sc, .sc, .sc, .sc, .sc, .ro [.sc]]], .ro [.ro [.sc, .sc, .sc, .sc, .sc, .sc, .sc, .ro [.sc]]]], rm := [.v [.sc]], nslots := 27, res := [4], rc := [], code := .kp [0, 1] c_laws_eqFrameS_0 }
def c_laws_eqMoving_5 : VC :=
  .ite (.s 9) (.seq (.r 2 [⟨none, [], none, .mv 4 (.k (.bool false))⟩]) (.ret)) (.skip)
def c_laws_eqMoving_13 : VC :=
  .ite (.s 14) (.seq (.r 4 [⟨none, [], none, .mv 4 (.k (.bool false))⟩]) (.ret)) (.skip)
def c_laws_eqMoving_21 : VC :=
  .ite (.s 20) (.seq (.r 6 [⟨none, [], none, .mv 4 (.k (.bool false))⟩]) (.ret)) (.skip)
def c_laws_eqMoving_29 : VC :=
  .ite (.s 25) (.seq (.r 8 [⟨none, [], none, .mv 4 (.k (.bool false))⟩]) (.ret)) (.skip)
def c_laws_eqMoving_37 : VC :=
  .ite (.s 31) (.seq (.r 10 [⟨none, [], none, .mv 4 (.k (.bool false))⟩]) (.ret)) (.skip)
def c_laws_eqMoving_42 : VC :=
  .seq (.r 11 [⟨none, [], none, .mv 4 (.k (.bool true))⟩]) (.ret)
def c_laws_eqMoving_34 : VC :=
  .seq (.seq (.r 9 [⟨none, [], none, .fadr 26 (.s 2) 4⟩,
    ⟨none, [], none, .ld 27 (.s 26) 1 false⟩,
    ⟨none, [], none, .fadr 28 (.s 3) 4⟩,
    ⟨none, [], none, .ld 29 (.s 28) 1 false⟩,
    ⟨none, [], none, .call 30 127 [(.s 27), (.s 29)]⟩,
    ⟨none, [], none, .un 31 .not (.s 30)⟩]) c_laws_eqMoving_37) c_laws_eqMoving_42
def c_laws_eqMoving_26 : VC :=
  .seq (.seq (.r 7 [⟨none, [], none, .fadr 21 (.s 2) 3⟩,
    ⟨none, [], none, .ld 22 (.s 21) 1 false⟩,
    ⟨none, [], none, .fadr 23 (.s 3) 3⟩,
    ⟨none, [], none, .ld 24 (.s 23) 1 false⟩,
    ⟨none, [], none, .bin 25 .neq (.s 22) (.s 24)⟩]) c_laws_eqMoving_29) c_laws_eqMoving_34
def c_laws_eqMoving_18 : VC :=
  .seq (.seq (.r 5 [⟨none, [], none, .fadr 15 (.s 2) 2⟩,
    ⟨none, [], none, .ld 16 (.s 15) 1 false⟩,
    ⟨none, [], none, .fadr 17 (.s 3) 2⟩,
    ⟨none, [], none, .ld 18 (.s 17) 1 false⟩,
    ⟨none, [], none, .call 19 62 [(.s 16), (.s 18)]⟩,
    ⟨none, [], none, .un 20 .not (.s 19)⟩]) c_laws_eqMoving_21) c_laws_eqMoving_26
def c_laws_eqMoving_10 : VC :=
  .seq (.seq (.r 3 [⟨none, [], none, .fadr 10 (.s 2) 1⟩,
    ⟨none, [], none, .ld 11 (.s 10) 1 false⟩,
    ⟨none, [], none, .fadr 12 (.s 3) 1⟩,
    ⟨none, [], none, .ld 13 (.s 12) 1 false⟩,
    ⟨none, [], none, .bin 14 .neq (.s 11) (.s 13)⟩]) c_laws_eqMoving_13) c_laws_eqMoving_18
def c_laws_eqMoving_2 : VC :=
  .seq (.seq (.r 1 [⟨none, [], none, .fadr 5 (.s 2) 0⟩,
    ⟨none, [], none, .ld 6 (.s 5) 1 false⟩,
    ⟨none, [], none, .fadr 7 (.s 3) 0⟩,
    ⟨none, [], none, .ld 8 (.s 7) 1 false⟩,
    ⟨none, [], none, .bin 9 .neq (.s 6) (.s 8)⟩]) c_laws_eqMoving_5) c_laws_eqMoving_10
def c_laws_eqMoving_0 : VC :=
  .seq (.r 0 [⟨none, [], none, .box 2 (.s 0)⟩,
    ⟨none, [], none, .box 3 (.s 1)⟩,
    ⟨none, [], none, .mv 4 (.k (.bool false))⟩]) c_laws_eqMoving_2
def vf_laws_eqMoving : VF := { pm := [.ro [.sc, .sc, .ro [.sc], .sc, .ro [.sc, .sc, .sc, .sc, .sc, .sc, .sc, .ro [.sc]]], .ro [.sc, .sc, .ro [.sc], .sc, .ro [.sc, .sc, .sc, .sc, .sc, .sc, .sc, .ro [.sc]]]], rm := [.v [.sc]], nslots := 32, res := [4], rc := [], code := .kp [0, 1] c_laws_eqMoving_0 }
def c_laws_markIntS_10 : VC :=
  .ite (.s 9) (.skip) (.exit 0)
def c_laws_markIntS_17 : VC :=
  .r 5 [⟨none, [], none, .mv 16 (.s 1)⟩,
    ⟨none, [], none, .bin 17 .add (.s 16) (.k (.int .i64 1))⟩,
    ⟨none, [], none, .mv 1 (.s 17)⟩]
def c_laws_markIntS_18 : VC :=
  .r 3 [⟨none, [], none, .mv 10 (.s 5)⟩,
    ⟨none, [], none, .bin 11 .add (.s 10) (.k (.int .i64 1))⟩,
    ⟨none, [], none, .mv 5 (.s 11)⟩]
def c_laws_markIntS_13 : VC :=
  .seq (.blk 1 (.seq (.r 4 [⟨none, [], none, .mv 12 (.s 0)⟩,
    ⟨none, [], none, .mv 13 (.s 5)⟩,
    ⟨none, [], none, .mv 14 (.s 1)⟩,
    ⟨none, [], none, .iadr 15 (.s 12) (.s 13) 1⟩,
    ⟨none, [], none, .st (.s 15) (.s 14) 1⟩]) c_laws_markIntS_17)) c_laws_markIntS_18
def c_laws_markIntS_7 : VC :=
  .seq (.seq (.r 2 [⟨none, [], none, .mv 6 (.s 5)⟩,
    ⟨none, [], none, .mv 7 (.s 0)⟩,
    ⟨none, [], none, .len 8 (.s 7)⟩,
    ⟨none, [], none, .bin 9 .lss (.s 6) (.s 8)⟩]) c_laws_markIntS_10) c_laws_markIntS_13
def c_laws_markIntS_5 : VC :=
  .blk 0 (.loop [0, 1, 5] c_laws_markIntS_7)
def c_laws_markIntS_19 : VC :=
  .seq (.r 6 [⟨none, [], none, .mv 18 (.s 1)⟩,
    ⟨none, [], none, .mv 4 (.s 18)⟩]) (.ret)
def c_laws_markIntS_2 : VC :=
  .seq (.seq (.r 1 [⟨none, [], none, .mv 5 (.k (.int .i64 0))⟩]) c_laws_markIntS_5) (.kp [0, 1] c_laws_markIntS_19)
def c_laws_markIntS_0 : VC :=
  .seq (.r 0 [⟨none, [], none, .mv 4 (.k (.int .i64 0))⟩]) c_laws_markIntS_2
def vf_laws_markIntS : VF := { pm := [.ms [.sc], .ro [.sc]], rm := [.v [.sc]], nslots := 19, res := [4], rc := [], code := .kp [0, 1] c_laws_markIntS_0 }
def c_laws_markFrameS_10 : VC :=
  .ite (.s 9) (.skip) (.exit 0)
def c_laws_markFrameS_43 : VC :=
  .r 18 [⟨none, [], none, .mv 61 (.s 0)⟩,
    ⟨none, [], none, .mv 62 (.s 5)⟩,
    ⟨none, [], none, .iadr 63 (.s 61) (.s 62) 8⟩,
    ⟨none, [], none, .fadr 64 (.s 63) 7⟩,
    ⟨none, [], none, .ld 65 (.s 64) 1 false⟩,
    ⟨none, [], none, .mv 66 (.s 1)⟩,
    ⟨none, [], none, .call 67 63 [(.s 65), (.s 66)]⟩,
    ⟨none, [], none, .mv 1 (.s 67)⟩]
def c_laws_markFrameS_41 : VC :=
  .seq (.r 17 [⟨none, [], none, .mv 59 (.s 1)⟩,
    ⟨none, [], none, .bin 60 .add (.s 59) (.k (.int .i64 1))⟩,
    ⟨none, [], none, .mv 1 (.s 60)⟩]) c_laws_markFrameS_43
def c_laws_markFrameS_39 : VC :=
  .seq (.r 16 [⟨none, [], none, .mv 54 (.s 0)⟩,
    ⟨none, [], none, .mv 55 (.s 5)⟩,
    ⟨none, [], none, .mv 56 (.s 1)⟩,
    ⟨none, [], none, .iadr 57 (.s 54) (.s 55) 8⟩,
    ⟨none, [], none, .fadr 58 (.s 57) 6⟩,
    ⟨none, [], none, .st (.s 58) (.s 56) 1⟩]) c_laws_markFrameS_41
def c_laws_markFrameS_37 : VC :=
  .seq (.r 15 [⟨none, [], none, .mv 52 (.s 1)⟩,
    ⟨none, [], none, .bin 53 .add (.s 52) (.k (.int .i64 1))⟩,
    ⟨none, [], none, .mv 1 (.s 53)⟩]) c_laws_markFrameS_39
def c_laws_markFrameS_35 : VC :=
  .seq (.r 14 [⟨none, [], none, .mv 47 (.s 0)⟩,
    ⟨none, [], none, .mv 48 (.s 5)⟩,
    ⟨none, [], none, .mv 49 (.s 1)⟩,
    ⟨none, [], none, .iadr 50 (.s 47) (.s 48) 8⟩,
    ⟨none, [], none, .fadr 51 (.s 50) 5⟩,
    ⟨none, [], none, .st (.s 51) (.s 49) 1⟩]) c_laws_markFrameS_37
def c_laws_markFrameS_33 : VC :=
  .seq (.r 13 [⟨none, [], none, .mv 45 (.s 1)⟩,
    ⟨none, [], none, .bin 46 .add (.s 45) (.k (.int .i64 1))⟩,
    ⟨none, [], none, .mv 1 (.s 46)⟩]) c_laws_markFrameS_35
def c_laws_markFrameS_31 : VC :=
  .seq (.r 12 [⟨none, [], none, .mv 40 (.s 0)⟩,
    ⟨none, [], none, .mv 41 (.s 5)⟩,
    ⟨none, [], none, .mv 42 (.s 1)⟩,
    ⟨none, [], none, .iadr 43 (.s 40) (.s 41) 8⟩,
    ⟨none, [], none, .fadr 44 (.s 43) 4⟩,
    ⟨none, [], none, .st (.s 44) (.s 42) 1⟩]) c_laws_markFrameS_33
def c_laws_markFrameS_29 : VC :=
  .seq (.r 11 [⟨none, [], none, .mv 38 (.s 1)⟩,
    ⟨none, [], none, .bin 39 .add (.s 38) (.k (.int .i64 1))⟩,
    ⟨none, [], none, .mv 1 (.s 39)⟩]) c_laws_markFrameS_31
def c_laws_markFrameS_27 : VC :=
  .seq (.r 10 [⟨none, [], none, .mv 33 (.s 0)⟩,
    ⟨none, [], none, .mv 34 (.s 5)⟩,
    ⟨none, [], none, .mv 35 (.s 1)⟩,
    ⟨none, [], none, .iadr 36 (.s 33) (.s 34) 8⟩,
    ⟨none, [], none, .fadr 37 (.s 36) 3⟩,
    ⟨none, [], none, .st (.s 37) (.s 35) 1⟩]) c_laws_markFrameS_29
def c_laws_markFrameS_25 : VC :=
  .seq (.r 9 [⟨none, [], none, .mv 31 (.s 1)⟩,
    ⟨none, [], none, .bin 32 .add (.s 31) (.k (.int .i64 1))⟩,
    ⟨none, [], none, .mv 1 (.s 32)⟩]) c_laws_markFrameS_27
def c_laws_markFrameS_23 : VC :=
  .seq (.r 8 [⟨none, [], none, .mv 26 (.s 0)⟩,
    ⟨none, [], none, .mv 27 (.s 5)⟩,
    ⟨none, [], none, .mv 28 (.s 1)⟩,
    ⟨none, [], none, .iadr 29 (.s 26) (.s 27) 8⟩,
    ⟨none, [], none, .fadr 30 (.s 29) 2⟩,
    ⟨none, [], none, .st (.s 30) (.s 28) 1⟩]) c_laws_markFrameS_25
def c_laws_markFrameS_21 : VC :=
  .seq (.r 7 [⟨none, [], none, .mv 24 (.s 1)⟩,
    ⟨none, [], none, .bin 25 .add (.s 24) (.k (.int .i64 1))⟩,
    ⟨none, [], none, .mv 1 (.s 25)⟩]) c_laws_markFrameS_23
def c_laws_markFrameS_19 : VC :=
  .seq (.r 6 [⟨none, [], none, .mv 19 (.s 0)⟩,
    ⟨none, [], none, .mv 20 (.s 5)⟩,
    ⟨none, [], none, .mv 21 (.s 1)⟩,
    ⟨none, [], none, .iadr 22 (.s 19) (.s 20) 8⟩,
    ⟨none, [], none, .fadr 23 (.s 22) 1⟩,
    ⟨none, [], none, .st (.s 23) (.s 21) 1⟩]) c_laws_markFrameS_21
def c_laws_markFrameS_17 : VC :=
  .seq (.r 5 [⟨none, [], none, .mv 17 (.s 1)⟩,
    ⟨none, [], none, .bin 18 .add (.s 17) (.k (.int .i64 1))⟩,
    ⟨none, [], none, .mv 1 (.s 18)⟩]) c_laws_markFrameS_19
def c_laws_markFrameS_44 : VC :=
  .r 3 [⟨none, [], none, .mv 10 (.s 5)⟩,
    ⟨none, [], none, .bin 11 .add (.s 10) (.k (.int .i64 1))⟩,
    ⟨none, [], none, .mv 5 (.s 11)⟩]
def c_laws_markFrameS_13 : VC :=
  .seq (.blk 1 (.seq (.r 4 [⟨none, [], none, .mv 12 (.s 0)⟩,
    ⟨none, [], none, .mv 13 (.s 5)⟩,
    ⟨none, [], none, .mv 14 (.s 1)⟩,
    ⟨none, [], none, .iadr 15 (.s 12) (.s 13) 8⟩,
    ⟨none, [], none, .fadr 16 (.s 15) 0⟩,
    ⟨none, [], none, .st (.s 16) (.s 14) 1⟩]) c_laws_markFrameS_17)) c_laws_markFrameS_44
def c_laws_markFrameS_7 : VC :=
  .seq (.seq (.r 2 [⟨none, [], none, .mv 6 (.s 5)⟩,
    ⟨none, [], none, .mv 7 (.s 0)⟩,
    ⟨none, [], none, .len 8 (.s 7)⟩,
    ⟨none, [], none, .bin 9 .lss (.s 6) (.s 8)⟩]) c_laws_markFrameS_10) c_laws_markFrameS_13
def c_laws_markFrameS_5 : VC :=
  .blk 0 (.loop [0, 1, 5] c_laws_markFrameS_7)
def c_laws_markFrameS_45 : VC :=
  .seq (.r 19 [⟨none, [], none, .mv 68 (.s 1)⟩,
    ⟨none, [], none, .mv 4 (.s 68)⟩]) (.ret)
def c_laws_markFrameS_2 : VC :=
  .seq (.seq (.r 1 [⟨none, [], none, .mv 5 (.k (.int .i64 0))⟩]) c_laws_markFrameS_5) (.kp [0, 1] c_laws_markFrameS_45)
def c_laws_markFrameS_0 : VC :=
  .seq (.r 0 [⟨none, [], none, .mv 4 (.k (.int .i64 0))⟩]) c_laws_markFrameS_2
def vf_laws_markFrameS : VF := { pm := [.ms [.sc, .sc, .sc, .sc, .sc, .sc, .sc, .own [.sc]], .ro [.sc]], rm := [.v [.sc]], nslots := 69, res := [4], rc := [], code := .kp [0, 1] c_laws_markFrameS_0 }
def c_laws_markMoving_6 : VC :=
  .seq (.r 3 [⟨none, [], none, .mv 13 (.s 1)⟩,
    ⟨none, [], none, .mv 4 (.s 13)⟩]) (.ret)
def c_laws_markMoving_4 : VC :=
  .seq (.r 2 [⟨none, [], none, .fadr 9 (.s 2) 4⟩,
    ⟨none, [], none, .ld 10 (.s 9) 1 false⟩,
    ⟨none, [], none, .mv 11 (.s 1)⟩,
    ⟨none, [], none, .call 12 128 [(.s 10), (.s 11)]⟩,
    ⟨none, [], none, .mv 1 (.s 12)⟩]) c_laws_markMoving_6
def c_laws_markMoving_2 : VC :=
  .seq (.r 1 [⟨none, [], none, .fadr 5 (.s 2) 2⟩,
    ⟨none, [], none, .ld 6 (.s 5) 1 false⟩,
    ⟨none, [], none, .mv 7 (.s 1)⟩,
    ⟨none, [], none, .call 8 63 [(.s 6), (.s 7)]⟩,
    ⟨none, [], none, .mv 1 (.s 8)⟩]) c_laws_markMoving_4
def c_laws_markMoving_0 : VC :=
  .seq (.r 0 [⟨none, [], none, .box 2 (.s 0)⟩,
    ⟨none, [], none, .mv 4 (.k (.int .i64 0))⟩]) c_laws_markMoving_2
def vf_laws_markMoving : VF := { pm := [.mg [.sc, .sc, .own [.sc], .sc, .own [.sc, .sc, .sc, .sc, .sc, .sc, .sc, .own [.sc]]], .ro [.sc]], rm := [.v [.sc]], nslots := 14, res := [4], rc := [], code := .kp [0, 1] c_laws_markMoving_0 }
def c_laws_markIntSS_10 : VC :=
  .ite (.s 9) (.skip) (.exit 0)
def c_laws_markIntSS_16 : VC :=
  .r 3 [⟨none, [], none, .mv 10 (.s 5)⟩,
    ⟨none, [], none, .bin 11 .add (.s 10) (.k (.int .i64 1))⟩,
    ⟨none, [], none, .mv 5 (.s 11)⟩]
def c_laws_markIntSS_13 : VC :=
  .seq (.blk 1 (.r 4 [⟨none, [], none, .mv 12 (.s 0)⟩,
    ⟨none, [], none, .mv 13 (.s 5)⟩,
    ⟨none, [], none, .iadr 14 (.s 12) (.s 13) 1⟩,
    ⟨none, [], none, .ld 15 (.s 14) 1 false⟩,
    ⟨none, [], none, .mv 16 (.s 1)⟩,
    ⟨none, [], none, .call 17 63 [(.s 15), (.s 16)]⟩,
    ⟨none, [], none, .mv 1 (.s 17)⟩])) c_laws_markIntSS_16
def c_laws_markIntSS_7 : VC :=
  .seq (.seq (.r 2 [⟨none, [], none, .mv 6 (.s 5)⟩,
    ⟨none, [], none, .mv 7 (.s 0)⟩,
    ⟨none, [], none, .len 8 (.s 7)⟩,
    ⟨none, [], none, .bin 9 .lss (.s 6) (.s 8)⟩]) c_laws_markIntSS_10) c_laws_markIntSS_13
def c_laws_markIntSS_5 : VC :=
  .blk 0 (.loop [0, 1, 5] c_laws_markIntSS_7)
def c_laws_markIntSS_17 : VC :=
  .seq (.r 5 [⟨none, [], none, .mv 18 (.s 1)⟩,
    ⟨none, [], none, .mv 4 (.s 18)⟩]) (.ret)
def c_laws_markIntSS_2 : VC :=
  .seq (.seq (.r 1 [⟨none, [], none, .mv 5 (.k (.int .i64 0))⟩]) c_laws_markIntSS_5) (.kp [0, 1] c_laws_markIntSS_17)
def c_laws_markIntSS_0 : VC :=
  .seq (.r 0 [⟨none, [], none, .mv 4 (.k (.int .i64 0))⟩]) c_laws_markIntSS_2
def vf_laws_markIntSS : VF := { pm := [.ms [.own [.sc]], .ro [.sc]], rm := [.v [.sc]], nslots := 19, res := [4], rc := [], code := .kp [0, 1] c_laws_markIntSS_0 }
def c_laws_heldIntS_10 : VC :=
  .ite (.s 9) (.skip) (.exit 0)
def c_laws_heldIntS_18 : VC :=
  .ite (.s 17) (.seq (.r 5 [⟨none, [], none, .mv 4 (.k (.int .i64 (-1)))⟩]) (.ret)) (.skip)
def c_laws_heldIntS_23 : VC :=
  .r 6 [⟨none, [], none, .mv 18 (.s 1)⟩,
    ⟨none, [], none, .bin 19 .add (.s 18) (.k (.int .i64 1))⟩,
    ⟨none, [], none, .mv 1 (.s 19)⟩]
def c_laws_heldIntS_24 : VC :=
  .r 3 [⟨none, [], none, .mv 10 (.s 5)⟩,
    ⟨none, [], none, .bin 11 .add (.s 10) (.k (.int .i64 1))⟩,
    ⟨none, [], none, .mv 5 (.s 11)⟩]
def c_laws_heldIntS_13 : VC :=
  .seq (.blk 1 (.seq (.seq (.r 4 [⟨none, [], none, .mv 12 (.s 0)⟩,
    ⟨none, [], none, .mv 13 (.s 5)⟩,
    ⟨none, [], none, .iadr 14 (.s 12) (.s 13) 1⟩,
    ⟨none, [], none, .ld 15 (.s 14) 1 false⟩,
    ⟨none, [], none, .mv 16 (.s 1)⟩,
    ⟨none, [], none, .bin 17 .neq (.s 15) (.s 16)⟩]) c_laws_heldIntS_18) c_laws_heldIntS_23)) c_laws_heldIntS_24
def c_laws_heldIntS_7 : VC :=
  .seq (.seq (.r 2 [⟨none, [], none, .mv 6 (.s 5)⟩,
    ⟨none, [], none, .mv 7 (.s 0)⟩,
    ⟨none, [], none, .len 8 (.s 7)⟩,
    ⟨none, [], none, .bin 9 .lss (.s 6) (.s 8)⟩]) c_laws_heldIntS_10) c_laws_heldIntS_13
def c_laws_heldIntS_5 : VC :=
  .blk 0 (.loop [0, 1, 5] c_laws_heldIntS_7)
def c_laws_heldIntS_25 : VC :=
  .seq (.r 7 [⟨none, [], none, .mv 20 (.s 1)⟩,
    ⟨none, [], none, .mv 4 (.s 20)⟩]) (.ret)
def c_laws_heldIntS_2 : VC :=
  .seq (.seq (.r 1 [⟨none, [], none, .mv 5 (.k (.int .i64 0))⟩]) c_laws_heldIntS_5) (.kp [1] c_laws_heldIntS_25)
def c_laws_heldIntS_0 : VC :=
  .seq (.r 0 [⟨none, [], none, .mv 4 (.k (.int .i64 0))⟩]) c_laws_heldIntS_2
def vf_laws_heldIntS : VF := { pm := [.ro [.ro [.sc]], .ro [.sc]], rm := [.v [.sc]], nslots := 21, res := [4], rc := [], code := .kp [0, 1] c_laws_heldIntS_0 }
def c_laws_heldIntSS_10 : VC :=
  .ite (.s 9) (.skip) (.exit 0)
def c_laws_heldIntSS_19 : VC :=
  .ite (.s 19) (.seq (.r 6 [⟨none, [], none, .mv 4 (.k (.int .i64 (-1)))⟩]) (.ret)) (.skip)
def c_laws_heldIntSS_17 : VC :=
  .seq (.r 5 [⟨none, [], none, .mv 18 (.s 1)⟩,
    ⟨none, [], none, .bin 19 .lss (.s 18) (.k (.int .i64 0))⟩]) c_laws_heldIntSS_19
def c_laws_heldIntSS_24 : VC :=
  .r 3 [⟨none, [], none, .mv 10 (.s 5)⟩,
    ⟨none, [], none, .bin 11 .add (.s 10) (.k (.int .i64 1))⟩,
    ⟨none, [], none, .mv 5 (.s 11)⟩]
def c_laws_heldIntSS_13 : VC :=
  .seq (.blk 1 (.seq (.r 4 [⟨none, [], none, .mv 12 (.s 0)⟩,
    ⟨none, [], none, .mv 13 (.s 5)⟩,
    ⟨none, [], none, .iadr 14 (.s 12) (.s 13) 1⟩,
    ⟨none, [], none, .ld 15 (.s 14) 1 false⟩,
    ⟨none, [], none, .mv 16 (.s 1)⟩,
    ⟨none, [], none, .call 17 64 [(.s 15), (.s 16)]⟩,
    ⟨none, [], none, .mv 1 (.s 17)⟩]) c_laws_heldIntSS_17)) c_laws_heldIntSS_24
def c_laws_heldIntSS_7 : VC :=
  .seq (.seq (.r 2 [⟨none, [], none, .mv 6 (.s 5)⟩,
    ⟨none, [], none, .mv 7 (.s 0)⟩,
    ⟨none, [], none, .len 8 (.s 7)⟩,
    ⟨none, [], none, .bin 9 .lss (.s 6) (.s 8)⟩]) c_laws_heldIntSS_10) c_laws_heldIntSS_13
def c_laws_heldIntSS_5 : VC :=
  .blk 0 (.loop [0, 1, 5] c_laws_heldIntSS_7)
def c_laws_heldIntSS_25 : VC :=
  .seq (.r 7 [⟨none, [], none, .mv 20 (.s 1)⟩,
    ⟨none, [], none, .mv 4 (.s 20)⟩]) (.ret)
def c_laws_heldIntSS_2 : VC :=
  .seq (.seq (.r 1 [⟨none, [], none, .mv 5 (.k (.int .i64 0))⟩]) c_laws_heldIntSS_5) (.kp [1] c_laws_heldIntSS_25)
def c_laws_heldIntSS_0 : VC :=
  .seq (.r 0 [⟨none, [], none, .mv 4 (.k (.int .i64 0))⟩]) c_laws_heldIntSS_2
def vf_laws_heldIntSS : VF := { pm := [.ro [.ro [.ro [.sc]]], .ro [.sc]], rm := [.v [.sc]], nslots := 21, res := [4], rc := [], code := .kp [0, 1] c_laws_heldIntSS_0 }
def c_laws_FnExactScreens_9 : VC :=
  .ite (.s 15) (.seq (.r 4 [⟨none, [], none, .mv 2 (.k (.bool true))⟩]) (.ret)) (.skip)
def c_laws_FnExactScreens_23 : VC :=
  .ite (.s 26) (.seq (.r 9 [⟨none, [], none, .mv 2 (.k (.bool false))⟩]) (.ret)) (.skip)
def c_laws_FnExactScreens_31 : VC :=
  .ite (.s 31) (.seq (.r 11 [⟨none, [], none, .mv 2 (.k (.bool false))⟩]) (.ret)) (.skip)
def c_laws_FnExactScreens_43 : VC :=
  .ite (.s 42) (.seq (.r 15 [⟨none, [], none, .mv 2 (.k (.bool false))⟩]) (.ret)) (.skip)
def c_laws_FnExactScreens_59 : VC :=
  .ite (.s 50) (.seq (.r 21 [⟨none, [], none, .mv 2 (.k (.bool false))⟩]) (.ret)) (.skip)
def c_laws_FnExactScreens_67 : VC :=
  .ite (.s 53) (.seq (.r 23 [⟨none, [], none, .mv 2 (.k (.bool false))⟩]) (.ret)) (.skip)
def c_laws_FnExactScreens_77 : VC :=
  .ite (.s 60) (.seq (.r 26 [⟨none, [], none, .mv 2 (.k (.bool false))⟩]) (.ret)) (.skip)
def c_laws_FnExactScreens_89 : VC :=
  .ite (.s 65) (.seq (.r 30 [⟨none, [], none, .mv 2 (.k (.bool false))⟩]) (.ret)) (.skip)
def c_laws_FnExactScreens_97 : VC :=
  .ite (.s 68) (.seq (.r 32 [⟨none, [], none, .mv 2 (.k (.bool false))⟩]) (.ret)) (.skip)
def c_laws_FnExactScreens_102 : VC :=
  .seq (.r 33 [⟨none, [], none, .mv 2 (.k (.bool true))⟩]) (.ret)
def c_laws_FnExactScreens_94 : VC :=
  .seq (.seq (.r 31 [⟨none, [], none, .mv 66 (.s 9)⟩,
    ⟨none, [], none, .mv 67 (.s 8)⟩,
    ⟨none, [], none, .bin 68 .neq (.s 66) (.s 67)⟩]) c_laws_FnExactScreens_97) c_laws_FnExactScreens_102
def c_laws_FnExactScreens_86 : VC :=
  .seq (.seq (.r 29 [⟨none, [], none, .mv 64 (.s 9)⟩,
    ⟨none, [], none, .bin 65 .lss (.s 64) (.k (.int .i64 0))⟩]) c_laws_FnExactScreens_89) c_laws_FnExactScreens_94
def c_laws_FnExactScreens_84 : VC :=
  .seq (.r 28 [⟨none, [], none, .mv 61 (.s 6)⟩,
    ⟨none, [], none, .mv 62 (.s 9)⟩,
    ⟨none, [], none, .call 63 44 [(.s 61), (.s 62)]⟩,
    ⟨none, [], none, .mv 9 (.s 63)⟩]) c_laws_FnExactScreens_86
def c_laws_FnExactScreens_82 : VC :=
  .seq (.r 27 [⟨none, [], none, .mv 9 (.k (.int .i64 1))⟩]) c_laws_FnExactScreens_84
def c_laws_FnExactScreens_74 : VC :=
  .seq (.seq (.r 25 [⟨none, [], none, .mv 57 (.s 10)⟩,
    ⟨none, [], none, .mv 58 (.s 4)⟩,
    ⟨none, [], none, .call 59 40 [(.s 57), (.s 58)]⟩,
    ⟨none, [], none, .un 60 .not (.s 59)⟩]) c_laws_FnExactScreens_77) c_laws_FnExactScreens_82
def c_laws_FnExactScreens_72 : VC :=
  .seq (.r 24 [⟨none, [], none, .ld 54 (.s 1) 5 true⟩,
    ⟨none, [], none, .call 55 38 [(.s 54)]⟩,
    ⟨none, [], none, .call 56 39 [(.s 55)]⟩,
    ⟨none, [], none, .mv 10 (.s 56)⟩]) c_laws_FnExactScreens_74
def c_laws_FnExactScreens_64 : VC :=
  .seq (.seq (.r 22 [⟨none, [], none, .mv 51 (.s 9)⟩,
    ⟨none, [], none, .mv 52 (.s 8)⟩,
    ⟨none, [], none, .bin 53 .neq (.s 51) (.s 52)⟩]) c_laws_FnExactScreens_67) c_laws_FnExactScreens_72
def c_laws_FnExactScreens_56 : VC :=
  .seq (.seq (.r 20 [⟨none, [], none, .mv 49 (.s 9)⟩,
    ⟨none, [], none, .bin 50 .lss (.s 49) (.k (.int .i64 0))⟩]) c_laws_FnExactScreens_59) c_laws_FnExactScreens_64
def c_laws_FnExactScreens_54 : VC :=
  .seq (.r 19 [⟨none, [], none, .mv 46 (.s 6)⟩,
    ⟨none, [], none, .mv 47 (.s 9)⟩,
    ⟨none, [], none, .call 48 44 [(.s 46), (.s 47)]⟩,
    ⟨none, [], none, .mv 9 (.s 48)⟩]) c_laws_FnExactScreens_56
def c_laws_FnExactScreens_52 : VC :=
  .seq (.r 18 [⟨none, [], none, .mv 9 (.k (.int .i64 1))⟩]) c_laws_FnExactScreens_54
def c_laws_FnExactScreens_50 : VC :=
  .seq (.r 17 [⟨none, [], none, .mv 43 (.s 6)⟩,
    ⟨none, [], none, .mv 44 (.s 8)⟩,
    ⟨none, [], none, .call 45 43 [(.s 43), (.s 44)]⟩,
    ⟨none, [], none, .mv 8 (.s 45)⟩]) c_laws_FnExactScreens_52
def c_laws_FnExactScreens_48 : VC :=
  .seq (.r 16 [⟨none, [], none, .mv 8 (.k (.int .i64 1))⟩]) c_laws_FnExactScreens_50
def c_laws_FnExactScreens_40 : VC :=
  .seq (.seq (.r 14 [⟨none, [], none, .mv 35 (.s 7)⟩,
    ⟨none, [], none, .bin 36 .lss (.s 35) (.k (.int .i64 0))⟩,
    ⟨none, [], none, .mv 37 (.s 36)⟩,
    ⟨none, [], some (37, false), .mv 38 (.s 6)⟩,
    ⟨none, [], some (37, false), .mv 39 (.s 4)⟩,
    ⟨none, [], some (37, false), .call 40 40 [(.s 38), (.s 39)]⟩,
    ⟨none, [], some (37, false), .un 41 .not (.s 40)⟩,
    ⟨none, [], none, .pick 42 (.s 37) (.k (.bool true)) (.s 41)⟩]) c_laws_FnExactScreens_43) c_laws_FnExactScreens_48
def c_laws_FnExactScreens_38 : VC :=
  .seq (.r 13 [⟨none, [], none, .ld 32 (.s 5) 5 true⟩,
    ⟨none, [], none, .mv 33 (.s 7)⟩,
    ⟨none, [], none, .call 34 42 [(.s 32), (.s 33)]⟩,
    ⟨none, [], none, .mv 7 (.s 34)⟩]) c_laws_FnExactScreens_40
def c_laws_FnExactScreens_36 : VC :=
  .seq (.r 12 [⟨none, [], none, .mv 7 (.k (.int .i64 1))⟩]) c_laws_FnExactScreens_38
def c_laws_FnExactScreens_28 : VC :=
  .seq (.seq (.d 10 [(0, ⟨none, [], none, .ldv 27 (.s 5) 5 true⟩),
    (1, ⟨none, [], none, .ldv 28 (.s 1) 5 true⟩),
    (2, ⟨none, [], none, .call 29 38 [(.s 28)]⟩),
    (3, ⟨none, [], none, .call 30 41 [(.s 27), (.s 29)]⟩),
    (4, ⟨none, [], none, .un 31 .not (.s 30)⟩)]) c_laws_FnExactScreens_31) c_laws_FnExactScreens_36
def c_laws_FnExactScreens_20 : VC :=
  .seq (.seq (.r 8 [⟨none, [], none, .mv 23 (.s 6)⟩,
    ⟨none, [], none, .mv 24 (.s 4)⟩,
    ⟨none, [], none, .call 25 40 [(.s 23), (.s 24)]⟩,
    ⟨none, [], none, .un 26 .not (.s 25)⟩]) c_laws_FnExactScreens_23) c_laws_FnExactScreens_28
def c_laws_FnExactScreens_18 : VC :=
  .seq (.r 7 [⟨none, [], none, .ld 21 (.s 5) 5 true⟩,
    ⟨none, [], none, .call 22 39 [(.s 21)]⟩,
    ⟨none, [], none, .mv 6 (.s 22)⟩]) c_laws_FnExactScreens_20
def c_laws_FnExactScreens_16 : VC :=
  .seq (.r 6 [⟨none, [], none, .ld 19 (.s 1) 5 true⟩,
    ⟨none, [], none, .call 20 38 [(.s 19)]⟩,
    ⟨none, [], none, .alloc 5 [.k (.int .i64 0), .k (.int .i64 0), .o [.sc], .k (.int .i64 0), .o [.sc, .sc, .sc, .sc, .sc, .sc, .sc, .own [.sc]]]⟩,
    ⟨none, [], none, .st (.s 5) (.s 20) 5⟩]) c_laws_FnExactScreens_18
def c_laws_FnExactScreens_14 : VC :=
  .seq (.r 5 [⟨none, [], none, .ld 16 (.s 1) 5 true⟩,
    ⟨none, [], none, .call 17 38 [(.s 16)]⟩,
    ⟨none, [.fz 17 2, .fz 17 4], none, .call 18 37 [(.s 17)]⟩,
    ⟨none, [], none, .mv 4 (.s 18)⟩]) c_laws_FnExactScreens_16
def c_laws_FnExactScreens_6 : VC :=
  .seq (.seq (.r 3 [⟨none, [], none, .mv 14 (.s 3)⟩,
    ⟨none, [], none, .bin 15 .lss (.s 14) (.k (.int .i64 0))⟩]) c_laws_FnExactScreens_9) c_laws_FnExactScreens_14
def c_laws_FnExactScreens_4 : VC :=
  .seq (.r 2 [⟨none, [], none, .ld 11 (.s 1) 5 true⟩,
    ⟨none, [], none, .mv 12 (.s 3)⟩,
    ⟨none, [], none, .call 13 36 [(.s 11), (.s 12)]⟩,
    ⟨none, [], none, .mv 3 (.s 13)⟩]) c_laws_FnExactScreens_6
def c_laws_FnExactScreens_2 : VC :=
  .seq (.r 1 [⟨none, [], none, .mv 3 (.k (.int .i64 1048576))⟩]) c_laws_FnExactScreens_4
def c_laws_FnExactScreens_0 : VC :=
  .seq (.r 0 [⟨none, [], none, .box 1 (.s 0)⟩,
    ⟨none, [], none, .mv 2 (.k (.bool false))⟩]) c_laws_FnExactScreens_2
def vf_laws_FnExactScreens : VF := { pm := [.ro [.sc, .sc, .ro [.sc], .sc, .ro [.sc, .sc, .sc, .sc, .sc, .sc, .sc, .ro [.sc]]]], rm := [.v [.sc]], nslots := 69, res := [2], rc := [], code := .kp [0] c_laws_FnExactScreens_0 }
def ext : FuncId → List Arg → Option FRes := fun _ _ => none
def tblL : List (FuncId × VF) := [(95, vf_laws_szIntS), (180, vf_laws_szFrame), (123, vf_laws_szFrameS), (36, vf_laws_szMoving), (60, vf_laws_toIntS), (184, vf_laws_toFrame), (125, vf_laws_toFrameS), (38, vf_laws_toMoving), (163, vf_spec_l4Sides), (217, vf_spec_l6Log), (98, vf_spec_l5Colours), (181, vf_spec_l6Head), (182, vf_spec_l6Frame), (183, vf_spec_l6Pixels), (124, vf_spec_GoodMoving), (37, vf_spec_Screens), (218, vf_impl_goodSide), (185, vf_impl_goodSides), (104, vf_impl_inRange), (186, vf_impl_goodFrame), (126, vf_impl_GoodMoving), (39, vf_impl_Screens), (62, vf_laws_eqIntS), (40, vf_laws_eqIntSS), (187, vf_laws_eqFrame), (127, vf_laws_eqFrameS), (41, vf_laws_eqMoving), (63, vf_laws_markIntS), (128, vf_laws_markFrameS), (42, vf_laws_markMoving), (43, vf_laws_markIntSS), (64, vf_laws_heldIntS), (44, vf_laws_heldIntSS), (7, vf_laws_FnExactScreens)]
def tbl : FuncId → Option VF := fun f => tblL.lookup f
end Go.Proofs.V

/- printed by a program: the plain functions, the code and the proofs of one law -/
set_option linter.unusedVariables false
set_option maxRecDepth 100000
namespace Go.Proofs.V
open Go
theorem fi_laws_szIntS : funcIs Go.Proofs.Try.prog tbl 95 vf_laws_szIntS = true := by kernel_rfl
theorem fi_laws_szFrame : funcIs Go.Proofs.Try.prog tbl 180 vf_laws_szFrame = true := by kernel_rfl
theorem fi_laws_szFrameS : funcIs Go.Proofs.Try.prog tbl 123 vf_laws_szFrameS = true := by kernel_rfl
theorem fi_laws_szMoving : funcIs Go.Proofs.Try.prog tbl 36 vf_laws_szMoving = true := by kernel_rfl
theorem fi_laws_toIntS : funcIs Go.Proofs.Try.prog tbl 60 vf_laws_toIntS = true := by kernel_rfl
theorem fi_laws_toFrame : funcIs Go.Proofs.Try.prog tbl 184 vf_laws_toFrame = true := by kernel_rfl
theorem fi_laws_toFrameS : funcIs Go.Proofs.Try.prog tbl 125 vf_laws_toFrameS = true := by kernel_rfl
theorem fi_laws_toMoving : funcIs Go.Proofs.Try.prog tbl 38 vf_laws_toMoving = true := by kernel_rfl
theorem fi_spec_l4Sides : funcIs Go.Proofs.Try.prog tbl 163 vf_spec_l4Sides = true := by kernel_rfl
theorem fi_spec_l6Log : funcIs Go.Proofs.Try.prog tbl 217 vf_spec_l6Log = true := by kernel_rfl
theorem fi_spec_l5Colours : funcIs Go.Proofs.Try.prog tbl 98 vf_spec_l5Colours = true := by kernel_rfl
theorem fi_spec_l6Head : funcIs Go.Proofs.Try.prog tbl 181 vf_spec_l6Head = true := by kernel_rfl
theorem fi_spec_l6Frame : funcIs Go.Proofs.Try.prog tbl 182 vf_spec_l6Frame = true := by kernel_rfl
theorem fi_spec_l6Pixels : funcIs Go.Proofs.Try.prog tbl 183 vf_spec_l6Pixels = true := by kernel_rfl
theorem fi_spec_GoodMoving : funcIs Go.Proofs.Try.prog tbl 124 vf_spec_GoodMoving = true := by kernel_rfl
theorem fi_spec_Screens : funcIs Go.Proofs.Try.prog tbl 37 vf_spec_Screens = true := by kernel_rfl
theorem fi_impl_goodSide : funcIs Go.Proofs.Try.prog tbl 218 vf_impl_goodSide = true := by kernel_rfl
theorem fi_impl_goodSides : funcIs Go.Proofs.Try.prog tbl 185 vf_impl_goodSides = true := by kernel_rfl
theorem fi_impl_inRange : funcIs Go.Proofs.Try.prog tbl 104 vf_impl_inRange = true := by kernel_rfl
theorem fi_impl_goodFrame : funcIs Go.Proofs.Try.prog tbl 186 vf_impl_goodFrame = true := by kernel_rfl
theorem fi_impl_GoodMoving : funcIs Go.Proofs.Try.prog tbl 126 vf_impl_GoodMoving = true := by kernel_rfl
theorem fi_impl_Screens : funcIs Go.Proofs.Try.prog tbl 39 vf_impl_Screens = true := by kernel_rfl
theorem fi_laws_eqIntS : funcIs Go.Proofs.Try.prog tbl 62 vf_laws_eqIntS = true := by kernel_rfl
theorem fi_laws_eqIntSS : funcIs Go.Proofs.Try.prog tbl 40 vf_laws_eqIntSS = true := by kernel_rfl
theorem fi_laws_eqFrame : funcIs Go.Proofs.Try.prog tbl 187 vf_laws_eqFrame = true := by kernel_rfl
theorem fi_laws_eqFrameS : funcIs Go.Proofs.Try.prog tbl 127 vf_laws_eqFrameS = true := by kernel_rfl
theorem fi_laws_eqMoving : funcIs Go.Proofs.Try.prog tbl 41 vf_laws_eqMoving = true := by kernel_rfl
theorem fi_laws_markIntS : funcIs Go.Proofs.Try.prog tbl 63 vf_laws_markIntS = true := by kernel_rfl
theorem fi_laws_markFrameS : funcIs Go.Proofs.Try.prog tbl 128 vf_laws_markFrameS = true := by kernel_rfl
theorem fi_laws_markMoving : funcIs Go.Proofs.Try.prog tbl 42 vf_laws_markMoving = true := by kernel_rfl
theorem fi_laws_markIntSS : funcIs Go.Proofs.Try.prog tbl 43 vf_laws_markIntSS = true := by kernel_rfl
theorem fi_laws_heldIntS : funcIs Go.Proofs.Try.prog tbl 64 vf_laws_heldIntS = true := by kernel_rfl
theorem fi_laws_heldIntSS : funcIs Go.Proofs.Try.prog tbl 44 vf_laws_heldIntSS = true := by kernel_rfl
theorem fi_laws_FnExactScreens : funcIs Go.Proofs.Try.prog tbl 7 vf_laws_FnExactScreens = true := by kernel_rfl
end Go.Proofs.V
