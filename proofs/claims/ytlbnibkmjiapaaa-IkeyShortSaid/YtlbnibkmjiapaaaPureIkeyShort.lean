/- What is proved: staddlelaw02.IkeyShort answers true for all inputs (strings at most 2^63 - 1 bytes long, bytes at most 2^47). -/
import Derived.Test.YtlbnibkmjiapaaaP17
import Derived.Test.YtlbnibkmjiapaaaQAwake02
import Derived.Test.YtlbnibkmjiapaaaQIkeyStr
namespace Go.Proofs.Ytlbnibkmjiapaaa.Pure
open Go.RowKit Go.Proofs.Ytlbnibkmjiapaaa.P Go.Proofs.YtlbnibkmjiapaaaW.PrintWords Go.Proofs.YtlbnibkmjiapaaaW.PrintMore Go.Proofs.Ytlbnibkmjiapaaa.Q Go.Proofs.Ytlbnibkmjiapaaa.M
theorem IkeyShort : staddlelaw02_IkeyShort.Pure := by
  intro a b ha hb
  have h : Ev (fun k => staddlelaw02_IkeyShort.f k a b) true := by
    unfold staddlelaw02_IkeyShort.f
    refine Ev.bind awake_ev (Ev.bind (Between_ev a b (by omega) (by omega)) (Ev.bind (Behind_ev a (by omega)) ?_))
    have l1 := btw_len a.data.toList b.data.toList
    have l2 := beh_len a.data.toList
    have z : a.size = a.data.toList.length := rfl
    refine Ev.ifF (by rw [S_size]; omega) (Ev.ifF (by rw [S_size]; omega) ?_)
    rw [S_toList, ByteArray.toList_eq, beh_not_less]
    refine Ev.step (f := fun _ => some true) (fun k => ?_) (Ev.now _)
    simp only [staddlelaw02_IkeyShort.j0]
    rw [if_neg (by decide), S_toList, ByteArray.toList_eq, ByteArray.toList_eq]
    by_cases hlt : Op.bytesLess a.data.toList b.data.toList = true
    · rw [if_pos hlt, if_pos trivial, btw_not_less, if_neg (by decide), btw_less _ _ hlt]
    · rw [if_neg hlt, if_pos trivial, btw_self _ _ (by simpa using hlt)]
      simp
  exact h.rounds
end Go.Proofs.Ytlbnibkmjiapaaa.Pure
