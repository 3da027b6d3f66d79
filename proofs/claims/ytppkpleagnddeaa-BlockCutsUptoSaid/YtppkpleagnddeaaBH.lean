/- An entry is itself; what is taken of entries; what stands of what was opened. -/
import Derived.Test.YtppkpleagnddeaaP1
import Derived.Test.YtppkpleagnddeaaBQ
set_option linter.unusedVariables false
set_option linter.unusedSimpArgs false
namespace Go.Proofs.Ytppkpleagnddeaa.B
open Go.RowKit Go.Proofs.YtppkpleagnddeaaW.PrintWords Go.Proofs.YtppkpleagnddeaaW.PrintLast Go.Proofs.YtppkpleagnddeaaW.PrintMore Go.Proofs.Ytppkpleagnddeaa.P
theorem eqSelf (d : Nat) (w : World) (x0 : ByteArray) (x1 : Int) (x2 : Int) (x3 : ByteArray) :
    (Op.equalIn (d + 3) 42 (.agg #[.string x0, .int .u64 x1, .int .i64 x2, .string x3]) (.agg #[.string x0, .int .u64 x1, .int .i64 x2, .string x3])).run Try.prog w = .ok true w := by
  rw [eqA42, beq_self_eq_true, beq_self_eq_true, beq_self_eq_true, beq_self_eq_true]
  rfl
/-- what is taken of entries -/
def cut (l : List S42) : List S42 := if 1000 < l.length then l.take 1000 else l
theorem cut_len (l : List S42) : (cut l).length ≤ 1000 := by
  unfold cut
  split
  · rw [List.length_take]; omega
  · omega
theorem cut_mem {l : List S42} {x : S42} (h : x ∈ cut l) : x ∈ l := by
  unfold cut at h
  split at h
  · exact List.mem_of_mem_take h
  · exact h
/-- what stands of what was opened -/
def OSt (w : World) (n : Nat) (r : Option (List S42 × Int)) (pv : Value) : Prop := match r with
  | some x => ∃ g, pv = .pointer (some ⟨g, 0, none⟩) ∧ n ≤ g ∧ IsOwn w n g x.1 x.2
  | none => pv = .pointer none
theorem OSt.below {w w1 : World} {n : Nat} {r : Option (List S42 × Int)} {pv : Value} (h : OSt w n r pv) (hb : Below w.heap.size w w1) : OSt w1 n r pv := by
  cases r with
  | none => exact h
  | some x => obtain ⟨g, h1, h2, h3⟩ := h; exact ⟨g, h1, h2, h3.below hb⟩
theorem OSt.move {w w1 : World} {n : Nat} {r : Option (List S42 × Int)} {pv : Value} (h : OSt w n r pv) (hm : ∀ k, n ≤ k → w1.heap[k]? = w.heap[k]?) : OSt w1 n r pv := by
  cases r with
  | none => exact h
  | some x => obtain ⟨g, h1, h2, h3⟩ := h; exact ⟨g, h1, h2, h3.move h2 hm⟩
def evOf : Option (List S42 × Int) → Int
  | some _ => 0
  | none => 111
theorem Open_st (k : Nat) (A0 : Option Addr) (c0 : Nat) (b : List Int) (r : Option (List S42 × Int)) (w : World) (hr0 : Kd.C (Kd.int .u8) w A0 b.length b) (hc0 : b.length ≤ c0) (hf : open_g k b = some r) :
    Calls Try.prog 14 #[.slice A0 b.length c0] w fun e w' => Below w.heap.size w w' ∧ ∃ pv ev, e = .returned (.tuple #[pv, .int .i64 ev]) ∧ OSt w' w.heap.size r pv ∧ ev = evOf r := by
  refine (Open_own k A0 c0 b r w hr0 hc0 hf).mono ?_
  rintro e w7 ⟨hb, hm⟩
  refine ⟨hb, ?_⟩
  cases r with
  | none => exact ⟨_, _, hm, rfl, rfl⟩
  | some x => obtain ⟨g, h1, h2, h3⟩ := hm; exact ⟨_, _, h1, ⟨g, rfl, h2, h3⟩, rfl⟩
end Go.Proofs.Ytppkpleagnddeaa.B
