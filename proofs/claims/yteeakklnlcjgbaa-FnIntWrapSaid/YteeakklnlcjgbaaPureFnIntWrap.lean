/- FnIntWrap: for every code the number drawn out of it is wrapped to a word that differs by a multiple of 256, words to themselves; the one condition is that the code takes at most 2^47 - 4096 bytes. -/
import Derived.Test.YteeakklnlcjgbaaPureFnExactIntWrap
import Derived.Test.YteeakklnlcjgbaaDrawA
import Derived.Test.YteeakklnlcjgbaaD5
namespace Go.Proofs.Yteeakklnlcjgbaa.Pure
open Go Go.RowKit Go.Proofs.YteeakklnlcjgbaaW.PrintWords Go.Proofs.Yteeakklnlcjgbaa.P Go.Proofs.Yteeakklnlcjgbaa.Kit
theorem draw_IntWrap {l : List Int} (h : ∀ x ∈ l, (Lit.int .u8 x).wf = true) : Evp (fun k => spec_DrawIntWrap.f k l) (fun n => -9223372036854775808 ≤ n ∧ n ≤ 9223372036854775807) := by
  obtain ⟨bs, hb, hB⟩ := open_evp h
  unfold spec_DrawIntWrap.f
  rw [hb]
  simp only [Option.bind_some]
  refine Evp.bind (pick_evp hB (by decide) (by decide) (by decide)) fun a ha => ?_
  obtain ⟨a1, a2⟩ := a
  obtain ⟨ha0, ha1, rfl⟩ := ha
  refine Evp.ite (fun _ => ?_) (fun _ => ?_)
  · refine Evp.bind (pick_evp hB (by omega) (by omega) (by decide)) fun b hb => ?_
    obtain ⟨b1, b2⟩ := b
    obtain ⟨hb0, hb1, rfl⟩ := hb
    refine Evp.bind (pick_evp hB (by omega) (by omega) (by decide)) fun c hc => ?_
    obtain ⟨c1, c2⟩ := c
    obtain ⟨hc0, hc1, rfl⟩ := hc
    refine Evp.bind (pick_evp hB (by omega) (by omega) (by decide)) fun d hd => ?_
    obtain ⟨d1, d2⟩ := d
    obtain ⟨hd0, hd1, rfl⟩ := hd
    have hd2 := hd1 (by decide)
    dsimp only at hd0 hd2
    refine Evp.yes hd0 (Evp.yes (by simpa using hd2) (Evp.pure _ ?_))
    have : d1 = 0 ∨ d1 = 1 ∨ d1 = 2 ∨ d1 = 3 ∨ d1 = 4 ∨ d1 = 5 := by omega
    unfold wrap64
    rcases this with rfl | rfl | rfl | rfl | rfl | rfl <;> simp [rd] <;> omega
  · refine Evp.bind (pick_evp hB (by omega) (by omega) (by decide)) fun b hb => ?_
    obtain ⟨b1, b2⟩ := b
    obtain ⟨hb0, hb1, rfl⟩ := hb
    refine Evp.bind (pick_evp hB (by omega) (by omega) (by decide)) fun c hc => ?_
    obtain ⟨c1, c2⟩ := c
    obtain ⟨hc0, hc1, rfl⟩ := hc
    refine Evp.bind (pick_evp hB (by omega) (by omega) (by decide)) fun d hd => ?_
    refine Evp.pure _ ?_
    unfold wrap64
    omega
theorem FnIntWrap : laws_FnIntWrap.Pure := by
  intro l _ _ h
  refine Evp.rounds ?_
  unfold laws_FnIntWrap.f
  refine Evp.ite (fun _ => Evp.pure _ rfl) (fun _ => ?_)
  refine Evp.bind (draw_IntWrap h) fun n hn => ?_
  rw [impl_wrap, spec_wrap]
  simp only [Option.bind_some, if_true]
  refine Evp.const ?_ rfl
  have h1 : -128 ≤ wordOf n := by unfold wordOf; omega
  have h2 : wordOf n ≤ 127 := by unfold wordOf; omega
  rw [if_pos h1, if_pos h2, impl_wrap]
  have h3 : wordOf (wordOf n) = wordOf n := by unfold wordOf; omega
  have h4 : Int.tmod (wrap64 (Int.tmod n 256 - wordOf n)) 256 = 0 := by
    obtain ⟨m, hm, h⟩ := tmod256' n
    rw [hm]
    unfold wordOf at *
    rw [w64 (by omega) (by omega)]
    obtain ⟨q, hq, h'⟩ := tmod256' (m - ((n + 128) % 256 - 128))
    rw [hq]
    omega
  rw [h3, if_pos h4]
  simp
end Go.Proofs.Yteeakklnlcjgbaa.Pure
