/- What a step of one who submits leaves: cells, words of 64 bits. -/
import Derived.Test.YtcahlnoianbndaaR4PSub
set_option linter.unusedVariables false
set_option linter.unusedSimpArgs false
set_option linter.unusedVariables false
namespace Go.Ab
theorem note_wf3 {c : CF} {m : List Int} {f : FR} (hm : Wm m) (hf : Wf f) : Wm (noteB c m f).1 ∧ Wf (noteB c m f).2 ∧ (noteB c m f).1.length = m.length := by
  have hr := load_rng hm 2
  obtain ⟨w3, w4, w5⟩ := hf
  have hk4 := mk_rng w4.1
  have hk5 := mk_rng w5.1
  have hc5 := clr_rng hk5.1 hk5.2
  unfold noteB
  split
  · exact ⟨hm, ⟨w3, w4, w5⟩, rfl⟩
  · split
    · exact ⟨hm, ⟨w3, hr, w5⟩, rfl⟩
    · split
      · split
        · refine ⟨hm.set 2 ?_ ?_, ?_, (by simp only []; exact store_len)⟩
          · split
            · exact (pack_rng _ _).1
            · exact (pack_rng _ _).1
          · split
            · exact (pack_rng _ _).2
            · exact (pack_rng _ _).2
          · have hl := low_rng (mkB f.2.2.2.2.1)
            simp only []
            by_cases hz : mkB f.2.2.2.2.1 = 0
            · rw [if_pos hz]
              exact ⟨by simp [endB], by simp [endB], by simp [endB]⟩
            · rw [if_neg hz]
              refine ⟨w3, w4, ?_⟩
              simp only
              split
              · split <;> omega
              · omega
        · exact ⟨hm, ⟨w3, w4, w5⟩, rfl⟩
      · split
        · exact ⟨hm.set _ (by decide) (by decide), ⟨w5, by simp [endB], by simp [endB]⟩, (by simp only []; exact store_len)⟩
        · refine ⟨hm.set _ (by decide) (by decide), ?_, (by simp only []; exact store_len)⟩
          split
          · exact ⟨by simp [endB]; omega, by simp [endB], by simp [endB]⟩
          · exact ⟨w3, w4, by simp only; omega⟩
theorem wait_wf {c : CF} {m : List Int} {f : FR} (hm : Wm m) (hf : Wf f) : Wm (waitB c m f).1 ∧ Wf (waitB c m f).2 := by
  have hr := load_rng hm 2
  obtain ⟨w3, w4, w5⟩ := hf
  have hs := set_rng (w := f.2.2.1) w5.1 w5.2
  unfold waitB
  dsimp only
  split
  · exact ⟨hm, w3, w4, w5⟩
  · split
    · exact ⟨hm, w3, hr, w5⟩
    · split
      · split
        · exact ⟨hm, w3, w4, hr⟩
        · exact ⟨hm, by simp [endB, Wf]⟩
      · split
        · exact ⟨hm.cas _ _ hs.1 hs.2, w3, w4, w5⟩
        · split
          · exact ⟨hm, w3, w4, load_rng hm _⟩
          · exact ⟨hm.set _ (by decide) (by decide), by simp [endB, Wf]⟩
theorem enq_wf {c : CF} {m : List Int} {f : FR} (hm : Wm m) (hf : Wf f) : Wm (enqB c m f).1 ∧ Wf (enqB c m f).2 := by
  obtain ⟨w3, w4, w5⟩ := hf
  have ha := addU_rng f.2.2.2.2.1 1
  have hb := addU_rng (freeB c f.2.2.2.2.1) 1
  unfold enqB
  dsimp only
  split
  · exact ⟨hm, w3, w4, w5⟩
  · split
    · exact ⟨hm, w3, load_rng hm 5, w5⟩
    · split
      · split
        · exact ⟨hm, w3, w4, load_rng hm _⟩
        · split
          · exact ⟨hm, w3, by simp [endB], by simp [endB]⟩
          · exact ⟨hm, w3, w4, load_rng hm _⟩
      · split
        · exact ⟨hm.cas _ _ ha.1 ha.2, w3, w4, w5⟩
        · split
          · exact ⟨hm.set _ w3.1 w3.2, w3, w4, w5⟩
          · exact ⟨hm.set _ hb.1 hb.2, w3, by simp [endB], by simp [endB]⟩
theorem deq_wf {c : CF} {m : List Int} {f : FR} (hm : Wm m) (hf : Wf f) : Wm (deqB c m f).1 ∧ Wf (deqB c m f).2 := by
  obtain ⟨w3, w4, w5⟩ := hf
  have ha := addU_rng f.2.2.2.2.1 1
  have hb := addU_rng (fullB c f.2.2.2.2.1) 1
  unfold deqB
  dsimp only
  split
  · exact ⟨hm, w3, w4, w5⟩
  · split
    · exact ⟨hm, w3, load_rng hm 4, w5⟩
    · split
      · split
        · exact ⟨hm, w3, w4, load_rng hm _⟩
        · split
          · exact ⟨hm, by simp [endB], by simp [endB], by simp [endB]⟩
          · exact ⟨hm, w3, w4, load_rng hm _⟩
      · split
        · exact ⟨hm.cas _ _ ha.1 ha.2, w3, w4, w5⟩
        · split
          · exact ⟨hm, load_rng hm _, w4, w5⟩
          · exact ⟨hm.set _ hb.1 hb.2, w3, by simp [endB], by simp [endB]⟩
theorem call_wf {c : CF} {m : List Int} {f : FR} (hm : Wm m) (hf : Wf f) : Wm (callB c m f).1 ∧ Wf (callB c m f).2 := by
  unfold callB injB evtB
  repeat' split
  all_goals first | exact enq_wf hm hf | exact deq_wf hm hf | exact wait_wf hm hf | exact ⟨(note_wf3 hm hf).1, (note_wf3 hm hf).2.1⟩ | exact ⟨hm, hf⟩
theorem sub_wf {c : CF} {t : List (Int × List Int)} {m : List Int} {i : Int} {x : SB} (hm : Wm m) (hf : Wf x.2.2) (ht : t.length ≤ 1000) : Wm (subB c t m i x).1 ∧ Wf (subB c t m i x).2.1.2.2 := by
  have hc := call_wf (c := c) hm hf
  have hz : Wf zeroF := by simp [Wf, zeroF]
  have h1 := addU_rng (loadM m 0) 1
  have h2 := addU_rng (loadM m 0) 18446744073709551615
  cases hmay : maySB c t m x with
  | false =>
    have e : subB c t m i x = (m, x, []) := by unfold subB; rw [hmay, if_pos rfl]
    rw [e]
    exact ⟨hm, hf⟩
  | true =>
    obtain ⟨_, _, _, _, _, r, rest, hx, h6, h7⟩ := mayS_of hmay
    have hh : headI x.2.1 = r := by rw [hx]; rfl
    unfold subB
    rw [hmay, if_neg (by simp), hh]
    dsimp only
    have h3 : Wf (3, 0, i, r, 0, 0, 0) := ⟨⟨h6, by simp only; omega⟩, by simp, by simp⟩
    have h4 : Wf (6, 0, i, 0, 0, 0, 0) := by simp [Wf]
    repeat' split
    all_goals first | exact ⟨hm, hf⟩ | exact ⟨hm, hz⟩ | exact ⟨hm, h4⟩ | exact ⟨hm.set 0 h1.1 h1.2, h3⟩ | exact hc | exact ⟨hc.1, hz⟩ | exact ⟨hm.set 0 h2.1 h2.2, hz⟩
end Go.Ab
