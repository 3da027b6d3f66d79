/- What is proved: for all bytes and any number staddlelaw01.CodecSums answers true. No condition. -/
import Derived.Test.YtbmhcdledmolgaaP6
import Derived.Test.YtbmhcdledmolgaaQAwake01
namespace Go.Proofs.Ytbmhcdledmolgaa.Pure
open Go.RowKit Go.Proofs.Ytbmhcdledmolgaa.P Go.Proofs.YtbmhcdledmolgaaW.PrintWords Go.Proofs.Ytbmhcdledmolgaa.Q Go.Proofs.Ytbmhcdledmolgaa.M
theorem CodecSums : staddlelaw01_CodecSums.Pure := by
  intro l a _ hl hb ha
  have hB := IsB.of_wf hb
  obtain ⟨h0, h1⟩ := wf_u32 ha
  have hm := mask_range a
  have h : Ev (fun k => staddlelaw01_CodecSums.f k l a) true := by
    unfold staddlelaw01_CodecSums.f
    refine Ev.bind awake_ev ?_
    simp only [if_true]
    rw [Crc_eq l hB]
    refine Ev.bind (Ev.now _) (Ev.bind (refCrc_spec l hB (by omega)) ?_)
    rw [if_pos rfl, Mask_eq a h0 h1, refMask_eq a h0 h1, Unmask_eq, refUnmask_eq]
    refine Ev.congr (f := fun _ => some true) (fun k => ?_) (Ev.now _)
    simp only [Option.bind_some, if_true]
    rw [Unmask_eq, Option.bind_some, unmask_mask a h0 h1, if_pos rfl, Mask_eq _ (unmask_range a).1 (unmask_range a).2, Option.bind_some, mask_unmask a h0 h1]
    simp
  exact h.rounds
end Go.Proofs.Ytbmhcdledmolgaa.Pure
