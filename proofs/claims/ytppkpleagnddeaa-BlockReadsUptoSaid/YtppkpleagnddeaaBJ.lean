/- An entry is itself. Words that are wanted besides. The walk of BlockReads. -/
import Derived.Test.YtppkpleagnddeaaP1
import Derived.Test.YtppkpleagnddeaaWWords
import Derived.Test.YtppkpleagnddeaaWLast
import Derived.Test.YtppkpleagnddeaaWApart
import Derived.Test.YtppkpleagnddeaaWArr
import Derived.Test.YtppkpleagnddeaaWFoot
import Derived.Test.YtppkpleagnddeaaWKept
import Derived.Test.YtppkpleagnddeaaWShare
import Derived.Test.YtppkpleagnddeaaWZeros
import Derived.Test.YtppkpleagnddeaaWN
import Derived.Test.YtppkpleagnddeaaWFootNe
import Derived.Test.YtppkpleagnddeaaWAt
import Derived.Test.YtppkpleagnddeaaWEqStruct
import Derived.Test.YtppkpleagnddeaaWTab
import Derived.Test.YtppkpleagnddeaaWFour
import Derived.Test.YtppkpleagnddeaaWGuard
import Derived.Test.YtppkpleagnddeaaWInv
import Derived.Test.YtppkpleagnddeaaWInvWords
import Derived.Test.YtppkpleagnddeaaWQPut
import Derived.Test.YtppkpleagnddeaaWNEv
import Derived.Test.YtppkpleagnddeaaWMore
import Derived.Test.YtppkpleagnddeaaWRepsOne
import Derived.Test.YtppkpleagnddeaaWSized
import Derived.ArgAppend
import Derived.Below
import Derived.BigQuiet
import Derived.ChangeSlices
import Derived.Deep.AppendLies
import Derived.Deep.CutBlock
import Derived.Deep.DeepCutAuto
import Derived.Deep.Draws
import Derived.Deep.LoopGhost
import Derived.Deep.OwnRows
import Derived.Deep.QuietTactic
import Derived.Deep.RegionHeld3
import Derived.KernelRfl
import Derived.Laws.BitsLemmas
import Derived.Laws.BytesArg
import Derived.Laws.IdiomCopy
import Derived.Laws.MakeOwn
import Derived.Laws.OwnMore
import Derived.Laws.Rows
import Derived.Laws.Slices
import Derived.Laws.StructEq
import Derived.Lib.AppendStr
import Derived.Lib.ConvBytes
import Derived.Maps.AppendAt
import Derived.OrdersHeld
import Derived.OwnWalk
import Derived.RowKit
import Derived.RowKit3
import Derived.SizedLaws
import Derived.Tactics
import Derived.WalkKit
import Derived.WideLaws
import Derived.Test.YtppkpleagnddeaaBA
import Derived.Test.YtppkpleagnddeaaBQ
import Derived.Test.YtppkpleagnddeaaP20
import Derived.Test.YtppkpleagnddeaaP21
namespace Go.Proofs.Ytppkpleagnddeaa.B
open Go.RowKit Go.Proofs.YtppkpleagnddeaaW.PrintWords Go.Proofs.YtppkpleagnddeaaW.PrintLast Go.Proofs.YtppkpleagnddeaaW.PrintMore Go.Proofs.Ytppkpleagnddeaa.P
theorem eqSelf (d : Nat) (w : World) (x0 : ByteArray) (x1 : Int) (x2 : Int) (x3 : ByteArray) :
    (Op.equalIn (d + 3) 42 (.agg #[.string x0, .int .u64 x1, .int .i64 x2, .string x3]) (.agg #[.string x0, .int .u64 x1, .int .i64 x2, .string x3])).run Try.prog w = .ok true w := by
  rw [eqA42, beq_self_eq_true, beq_self_eq_true, beq_self_eq_true, beq_self_eq_true]
  rfl
end Go.Proofs.Ytppkpleagnddeaa.B
namespace Go.Proofs.YtppkpleagnddeaaW.PrintWords
open Go.RowKit
section
variable {P : Program} {ops : Array Oper} {rest : List Oper} {o : Oper} {a : Act} {Q : Exit → Act → World → Prop}
end
section
variable {P : Program}
end
section
variable {P : Program} {ops : Array Oper} {rest : List Oper} {o : Oper} {a : Act} {Q : Exit → Act → World → Prop}
end
section
variable {P : Program} {ops : Array Oper} {rest : List Oper} {o : Oper} {a : Act} {Q : Exit → Act → World → Prop}
end
section
variable {P : Program} {ops : Array Oper} {o : Oper} {a : Act} {Q : Exit → Act → World → Prop} {K : Act → World → Prop}
end
section
variable {α : Type} {enc : α → Value} {d : α}
theorem encs_get (xs : List α) (j : Nat) (h : j < xs.length) : (encs enc xs)[j]? = some (enc (xs.getD j d)) := by
  simp [encs, List.getElem?_eq_getElem h, List.getD_eq_getElem?_getD]
theorem own_at_of {W : World} {base g n cap : Nat} {e : TypeId} {xs : List α} (h : W.ownsRow base e 1 (.slice (some ⟨g, 0, none⟩) n cap) n (encs enc xs)) (i : Int) (h0 : 0 ≤ i) (h1 : i < n) :
    W.cell? ⟨g, i.toNat, none⟩ = some (enc (rdOf d xs i)) ∧ W.frozen? ⟨g, i.toNat, none⟩ = false := by
  have hl : xs.length = n := by have := h.1; simp [encs] at this; exact this
  constructor
  · have hc := h.cells (g := g) rfl i.toNat _ (encs_get (d := d) xs i.toNat (by omega))
    rwa [add_plain] at hc
  · rcases h.2 with ⟨h', _⟩ | ⟨g', cap', cur, h', _, hh, _⟩
    · cases h'
    · have : g = g' := by injection h' with h'; injection h' with h'; injection h' with h'
      subst this
      simp [World.frozen?, hh]
theorem own_store_of {W : World} {base g n cap : Nat} {e : TypeId} {xs : List α} (h : W.ownsRow base e 1 (.slice (some ⟨g, 0, none⟩) n cap) n (encs enc xs)) (i : Int) (x : α) :
    (W.setCell ⟨g, i.toNat, none⟩ (enc x)).ownsRow base e 1 (.slice (some ⟨g, 0, none⟩) n cap) n (encs enc (xs.set i.toNat x)) ∧ W.grownBy (W.setCell ⟨g, i.toNat, none⟩ (enc x)) (some g) := by
  have hs := h.stored i.toNat (enc x)
  have he : (encs enc xs).set i.toNat (enc x) = encs enc (xs.set i.toNat x) := by simp [encs, List.map_set]
  rwa [he] at hs
end
section
variable {α : Type} {P : Program} {ops : Array Oper} {rest : List Oper} {o : Oper} {a : Act} {Q : Exit → Act → World → Prop}
end
section
variable {P : Program}
end
section
variable {α : Type} {R R' : α → List Value → Prop} {e : TypeId} {size : Nat} {w w1 : World} {base : Nat} {v : Value} {ps : List α}
end
section
variable {P : Program} {ops : Array Oper} {rest : List Oper} {o : Oper} {a : Act} {Q : Exit → Act → World → Prop} {α : Type} {R : α → List Value → Prop}
end
section
variable {P : Program} {ops : Array Oper} {o : Oper} {a : Act} {Q : Exit → Act → World → Prop} {K : Act → World → Prop} {α : Type} {R : α → List Value → Prop}
end
section
variable {α : Type} {P : Program}
end
section
variable {P : Program} {ops : Array Oper} {rest : List Oper} {o : Oper} {a : Act} {Q : Exit → Act → World → Prop}
end
namespace Kd
section
variable {α : Type} {d : Kd α} {e : Nat} {w w1 : World} {base : Nat} {ok ok' : Nat → Prop} {v : Value} {xs : List α}
end
section
variable {P : Program} {ops : Array Oper} {rest : List Oper} {o : Oper} {a : Act} {Q : Exit → Act → World → Prop} {α : Type}
end
section
variable {P : Program} {ops : Array Oper} {o : Oper} {a : Act} {Q : Exit → Act → World → Prop} {Kc : Act → World → Prop} {α : Type}
end
end Kd
namespace Kd
section
variable {α : Type} {F : Kd α → Kd α} {sz : Nat} {E : List Nat} {hs : ∀ n, (upto F sz E n).sz = sz} {hE : ∀ n q, q ∈ (upto F sz E n).E → q ∈ E}
end
end Kd
namespace Kd
end Kd
namespace Kd
section
variable {α β : Type} {d : Kd α} {d' : Kd β} {e e' : Nat} {w w1 W : World} {base b b' : Nat} {ok ok' okv oku : Nat → Prop} {v u : Value} {xs : List α} {ys : List β}
theorem R_form (h : d.R e w base ok v xs) (hp : 0 < xs.length) : ∃ g cap, v = .slice (some ⟨g, 0, none⟩) xs.length cap ∧ base ≤ g ∧ g < w.heap.size ∧ ∃ cells, w.heap[g]? = some (.cells cells e (0, 0)) := by
  obtain ⟨inner, ho⟩ := R_own h
  obtain ⟨g, cap, he, hb, hl⟩ := ho.form hp
  obtain ⟨cells, hc⟩ := own_typed ho g (by rw [he]; simp [Value.ownBlock])
  exact ⟨g, cap, he, hb, hl, cells, hc⟩
end
section
variable {w W : World} {A : Option Addr} {n : Nat}
variable {α : Type} {enc : α → Value} {h1 : ∀ x, (enc x).oneCell' = true} {e base g cap : Nat} {ok : Nat → Prop} {xs : List α}
theorem R_cell (d : α) (h : (scalar enc h1).R e W base ok (.slice (some ⟨g, 0, none⟩) xs.length cap) xs) (i : Int) (h0 : 0 ≤ i) (hi : i < xs.length) : W.cell? ⟨g, i.toNat, none⟩ = some (enc (rdOf d xs i)) ∧ W.frozen? ⟨g, i.toNat, none⟩ = false := own_at_of (own_of_R h) i h0 hi
theorem R_put (h : (scalar enc h1).R e W base ok (.slice (some ⟨g, 0, none⟩) xs.length cap) xs) (i : Int) (x : α) : (scalar enc h1).R e (W.setCell ⟨g, i.toNat, none⟩ (enc x)) base ok (.slice (some ⟨g, 0, none⟩) xs.length cap) (xs.set i.toNat x) ∧ W.grownBy (W.setCell ⟨g, i.toNat, none⟩ (enc x)) (some g) := by
  obtain ⟨ho, hg⟩ := own_store_of (own_of_R h) i x
  exact ⟨R_of_own (by rw [List.length_set]; exact ho) h.1, hg⟩
end
section
variable {P : Program} {ops : Array Oper} {rest : List Oper} {o : Oper} {a : Act} {Q : Exit → Act → World → Prop}
variable {α : Type}
end
end Kd
section
variable {P : Program}
end
section
variable {w w1 : World} {base n size : Nat} {e : TypeId} {v : Value} {xs : List Value}
end
section
variable {P : Program}
end
namespace Kd
section
variable {α : Type} {d : Kd α} {e : Nat} {w w1 W : World} {base : Nat} {ok ok' : Nat → Prop} {v : Value} {xs : List α}
end
section
variable {P : Program} {ops : Array Oper} {rest : List Oper} {o : Oper} {a : Act} {Q' : Exit → Act → World → Prop} {Kc : Act → World → Prop} {α : Type}
end
end Kd
namespace Kd
section
variable {α : Type} {d : Kd α} {e e' : Nat} {w w1 W : World} {base : Nat} {ok : Nat → Prop} {u v : Value} {xs : List α}
end
end Kd
namespace Kd
section
variable {α : Type} {d : Kd α} {e base g n cap : Nat} {ok okp : Nat → Prop} {W : World} {xs : List α}
end
end Kd
namespace Kd
section
variable {α : Type} {F : Kd α → Kd α} {sz : Nat} {E : List Nat} {hs : ∀ n, (upto F sz E n).sz = sz} {hE : ∀ n q, q ∈ (upto F sz E n).E → q ∈ E}
end
end Kd
namespace Kd
section
variable {P : Program} {ops : Array Oper} {rest : List Oper} {o : Oper} {a : Act} {Q : Exit → Act → World → Prop} {α : Type}
end
end Kd
namespace Kd
section
variable {P : Program} {ops : Array Oper} {rest : List Oper} {o : Oper} {a : Act} {Q : Exit → Act → World → Prop} {α : Type}
end
end Kd
namespace Kd
section
variable {α : Type} {k : Kd α} {w : World} {A : Option Addr} {xs : List α} {m c : Nat}
end
end Kd
section
variable {P : Program}
end
namespace Kd
section
variable {α β : Type} {d : Kd α} {d' : Kd β} {e e' base base' n : Nat} {ok ok' : Nat → Prop} {w W w1 W1 : World} {v u : Value} {xs : List α} {ys : List β} {A : Option Addr} {c : Nat}
end
section
variable {α : Type} {enc : α → Value} {h1 : ∀ x, (enc x).oneCell' = true} {w W : World} {A : Option Addr} {n g : Nat} {xs : List α}
end
end Kd
namespace Kd
section
variable {α : Type} {d : Kd α} {e base g : Nat} {ok : Nat → Prop} {w w1 : World} {v : Value} {xs : List α} {o : Obj}
end
end Kd
section
variable {P : Program} {ops : Array Oper} {rest : List Oper} {o : Oper} {a : Act} {Q : Exit → Act → World → Prop}
end
namespace Kd
section
variable {α : Type} {enc : α → Value} {h1 : ∀ x, (enc x).oneCell' = true} {e base g n cap : Nat} {ok : Nat → Prop} {W : World} {xs : List α}
theorem R_celln (d : α) (h : (scalar enc h1).R e W base ok (.slice (some ⟨g, 0, none⟩) n cap) xs) (i : Int) (h0 : 0 ≤ i) (hi : i < n) : W.cell? ⟨g, i.toNat, none⟩ = some (enc (rdOf d xs i)) ∧ W.frozen? ⟨g, i.toNat, none⟩ = false := by
  obtain ⟨rfl, _⟩ := R_reads' h
  exact R_cell d h i h0 hi
end
end Kd
section
variable {P : Program} {ops : Array Oper} {rest : List Oper} {o : Oper} {a : Act} {Q : Exit → Act → World → Prop}
theorem store_event {W w1 : World} (hgd : o.guard = none) {t : TypeId} {p : Tmp} {v : Operand} (_ho : o.op = .store t (.tmp p) v) (hN : o.dst = none)
    (hrun : (execOp a.eval o).run P W = .ok .skip w1) (h : ∀ w', w' = w1 → wpList P ops Q rest a w') : wpList P ops Q (o :: rest) a W := by
  refine wpList_plain hgd fun K hK => ?_
  unfold Oper.wp
  rw [hrun]
  show K (a.put o.dst undef) w1
  rw [hN]
  exact hK _ _ (h _ rfl)
end
namespace Kd
section
variable {α : Type} {enc : α → Value} {h1 : ∀ x, (enc x).oneCell' = true} {e base g n cap : Nat} {ok : Nat → Prop} {W : World} {xs : List α}
theorem R_putg (h : (scalar enc h1).R e W base ok (.slice (some ⟨g, 0, none⟩) n cap) xs) (i : Int) (x : α) : (scalar enc h1).R e (W.setCell ⟨g, i.toNat, none⟩ (enc x)) base ok (.slice (some ⟨g, 0, none⟩) n cap) (xs.set i.toNat x) ∧ W.grownBy (W.setCell ⟨g, i.toNat, none⟩ (enc x)) (some g) := by
  obtain ⟨rfl, _⟩ := R_reads' h
  exact R_put h i x
end
end Kd
section
variable {P : Program} {ops : Array Oper} {rest : List Oper} {o : Oper} {a : Act} {Q : Exit → Act → World → Prop} {W : World}
theorem gate_store {t : TypeId} {p : Tmp} {v : Operand} (_ho : o.op = .store t (.tmp p) v) (h : wpList P ops Q (o :: rest) a W) : wpList P ops Q (o :: rest) a W := h
end
section
variable {P : Program} {ops : Array Oper} {o : Oper} {a : Act} {Q : Exit → Act → World → Prop} {Kc : Act → World → Prop}
namespace Kd
variable {α : Type}
end Kd
end
section
variable {P : Program} {tmps : Array Value} {w : World}
end
namespace Kd
section
variable {P : Program} {α : Type}
end
section
variable {P : Program} {ops : Array Oper} {rest : List Oper} {o : Oper} {a : Act} {Q : Exit → Act → World → Prop} {Kc : Act → World → Prop} {α : Type}
end
end Kd
end Go.Proofs.YtppkpleagnddeaaW.PrintWords
namespace Go.Proofs.YtppkpleagnddeaaW.PrintWords
open Go.RowKit
namespace Kd
theorem heap_int (k : IntKind) : Heap (Kd.int k) := ⟨fun _ h => h⟩
section
variable {α : Type} {d : Kd α} {e base g n c : Nat} {ok : Nat → Prop} {w w0 W : World} {A : Option Addr} {xs : List α}
end
end Kd
end Go.Proofs.YtppkpleagnddeaaW.PrintWords
namespace Go.Proofs.YtppkpleagnddeaaW.PrintWords
open Go.RowKit
namespace Foot
variable {P Q : World → Prop} {W W1 : World} {ok ok' : Nat → Prop}
end Foot
namespace Kd
section
variable {α β : Type} {d : Kd α} {e base n n' cc g N : Nat} {ok ok' okp S : Nat → Prop} {w w0 w1 W W1 : World} {A A' : Option Addr} {u v v1 : Value} {xs : List α} {xs' : List β} {d' : Kd β} {x : α} {c : List Value}
theorem C_F (hd : Heap d) (h : d.C w A n xs) : F d w (fun k => k < w.heap.size) A n xs := fun _ hW => hd.C (fun k hlt => hW k hlt hlt) h
end
end Kd
end Go.Proofs.YtppkpleagnddeaaW.PrintWords
namespace Go.Proofs.YtppkpleagnddeaaW.PrintWords
open Go.ChangeShapes Go.WideShapes
theorem sized_ints {H : Type} {enc : TypeId × Value → H} {P : Program} {W : World} {base : Nat} {spare : Nat → Bool} {held : Bool} {t e : TypeId} {k : IntKind} {a : Option Addr} {len cap : Nat} {d : DataW H} {ps : List MemPlace} {ts : List TypeId} {ds : List (DataW H)} {j : Nat}
    (hsz : (DataW.weightsEach P ts ds).all (· ≤ reachBytes) = true) (ht : ts[j]? = some t) (hd : ds[j]? = some d) (hu : P.underlying t = some (.slice e)) (he : P.underlying e = some (.int k)) (hc : P.cellsOf e = 1) {B : Nat} (hB : P.bytesOf e = B)
    (h : DataW.Trod enc P W base spare held t (.slice a len cap) d ps) : len * B ≤ 140737488351232 := by
  obtain ⟨fuel, hf⟩ := h
  rcases open_ints hu he hc hf with ⟨hcs, _⟩ | ⟨x, l, c, zs, hcs, _, hl, _, hz, hx, _, _⟩
  · simp [Value.cells] at hcs
    obtain ⟨rfl, rfl, rfl⟩ := hcs
    simp
  · simp [Value.cells] at hcs
    obtain ⟨rfl, rfl, rfl⟩ := hcs
    obtain ⟨hx, _⟩ := Prod.mk.inj hx
    subst hx
    have z := sized_slice hsz ht hd hu
    rw [hB] at z
    have hl2 : len ≤ zs.length := by
      rw [hz]
      split
      · exact hl
      · exact Nat.le_refl _
    have h1 : (lits (H := H) k (zs.take len)).length + (lits (H := H) k (zs.drop len)).length = zs.length := by
      simp [lits]
      omega
    rw [h1] at z
    exact Nat.le_trans (Nat.mul_le_mul_right _ hl2) z
end Go.Proofs.YtppkpleagnddeaaW.PrintWords
namespace Go.Proofs.Ytppkpleagnddeaa.B
open Go.RowKit Go.Proofs.YtppkpleagnddeaaW.PrintWords Go.Proofs.YtppkpleagnddeaaW.PrintLast Go.Proofs.YtppkpleagnddeaaW.PrintMore Go.Proofs.Ytppkpleagnddeaa.P
set_option linter.unusedVariables false
set_option linter.unusedSimpArgs false
attribute [local go_sem high] eqSelf
theorem rd_w (n : Nat) (h : n < 9000000000000000000) : wrap64 ((n : Int) + 1) = ((n + 1 : Nat) : Int) := by unfold wrap64; omega
/-- what reading any bytes comes to -/
def Rds (k : Nat) (b : List Int) (q : S32) : Prop := ∃ r : Option (List S42 × Int), open_g k b = some r ∧ staddleref11_Read.f k b = some (match r with | some x => (x.1, 0) | none => ([], 111)) ∧ b.length < 140737488355328 ∧
  (∀ x, r = some x → x.1.length < 140737488355328 ∧ ∃ iv : Nat, x.2 = (iv : Int) ∧ ∃ n : Nat, find_f k x.1 iv q = some n ∧ staddleref11_Find.f k x.1 q.f0 q.f1 q.f2 = some (n : Int))
/-- what stands of what was opened -/
def OSt (w : World) (n : Nat) (r : Option (List S42 × Int)) (pv : Value) : Prop := match r with
  | some x => ∃ g, pv = .pointer (some ⟨g, 0, none⟩) ∧ n ≤ g ∧ IsOwn w n g x.1 x.2
  | none => pv = .pointer none
theorem OSt.below {w w1 : World} {n : Nat} {r : Option (List S42 × Int)} {pv : Value} (h : OSt w n r pv) (hb : Below w.heap.size w w1) : OSt w1 n r pv := by
  cases r with
  | none => exact h
  | some x => obtain ⟨g, h1, h2, h3⟩ := h; exact ⟨g, h1, h2, h3.below hb⟩
theorem OSt.move {w w1 : World} {n : Nat} {r : Option (List S42 × Int)} {pv : Value} (h : OSt w n r pv) (hm : ∀ k, n ≤ k → w1.heap[k]? = w.heap[k]?) : OSt w1 n r pv := by
  cases r with
  | none => exact h
  | some x => obtain ⟨g, h1, h2, h3⟩ := h; exact ⟨g, h1, h2, h3.move h2 hm⟩
def evOf : Option (List S42 × Int) → Int
  | some _ => 0
  | none => 111
theorem Open_st (k : Nat) (A0 : Option Addr) (c0 : Nat) (b : List Int) (r : Option (List S42 × Int)) (w : World) (hr0 : Kd.C (Kd.int .u8) w A0 b.length b) (hc0 : b.length ≤ c0) (hf : open_g k b = some r) :
    Calls Try.prog 14 #[.slice A0 b.length c0] w fun e w' => Below w.heap.size w w' ∧ ∃ pv ev, e = .returned (.tuple #[pv, .int .i64 ev]) ∧ OSt w' w.heap.size r pv ∧ ev = evOf r := by
  refine (Open_own k A0 c0 b r w hr0 hc0 hf).mono ?_
  rintro e w7 ⟨hb, hm⟩
  refine ⟨hb, ?_⟩
  cases r with
  | none => exact ⟨_, _, hm, rfl, rfl⟩
  | some x => obtain ⟨g, h1, h2, h3⟩ := hm; exact ⟨_, _, h1, ⟨g, rfl, h2, h3⟩, rfl⟩
structure RjSt (w : World) (Ar : Option Addr) (g gq : Nat) (L : List S42) (iv : Int) (q0 : ByteArray) (q1 q2 : Int) (wx : World) : Prop where
  blk : IsBlk wx g L iv
  row : Kd.C k42 wx Ar L.length L
  k0 : wx.cell? ⟨gq, 0, none⟩ = some (.string q0)
  k1 : wx.cell? ⟨gq, 1, none⟩ = some (.int .u64 q1)
  k2 : wx.cell? ⟨gq, 2, none⟩ = some (.int .i64 q2)
  bel : Below w.heap.size w wx
theorem RjSt.step {w wx w' : World} {Ar : Option Addr} {g gq : Nat} {L : List S42} {iv : Int} {q0 : ByteArray} {q1 q2 : Int} (h : RjSt w Ar g gq L iv q0 q1 q2 wx) (hb : Below wx.heap.size wx w') : RjSt w Ar g gq L iv q0 q1 q2 w' :=
  ⟨h.blk.below hb, Kd.C_below h.row hb, (hb.cell (World.block_lt_of_cell? _ _ h.k0)).trans h.k0, (hb.cell (World.block_lt_of_cell? _ _ h.k1)).trans h.k1, (hb.cell (World.block_lt_of_cell? _ _ h.k2)).trans h.k2, below_step h.bel hb⟩
set_option maxHeartbeats 4000000 in
set_option maxRecDepth 100000 in
theorem reads_calls (k : Nat) (A0 : Option Addr) (c0 : Nat) (b : List Int) (q0 : ByteArray) (q1 q2 a2 : Int) (w : World) (hr0 : Kd.C (Kd.int .u8) w A0 b.length b) (hc0 : b.length ≤ c0) (hf : Rds k b ⟨q0, q1, q2⟩) :
    Calls Try.prog 5 #[.slice A0 b.length c0, .agg #[.string q0, .int .u64 q1, .int .i64 q2], .int .i64 a2] w fun e w' => e = .returned (.bool true) ∧ Below w.heap.size w w' := by
  obtain ⟨r, hopen, href, hlen, hsome⟩ := hf
  have HR0 := Aside0.mk hr0
  have HC0 := Aside0.mk hc0
  have HB := Aside0.mk (Below.refl w.heap.size w)
  have HOP := Aside0.mk hopen
  have HRF := Aside0.mk href
  have HLEN := Aside0.mk hlen
  have HSM := Aside0.mk hsome
  clear hr0 hc0 hopen href hlen hsome
  go_enter Try.func5, Try.ntmps5
  go_upto_region 3 with (first
    | ((with_reducible refine gate_dst (N := 4) rfl ?_); refine box_event ?hg (N := 4) ?hd (cs := #[.string q0, .int .u64 q1, .int .i64 q2]) (t := 32) ?hr ?_; (case hd => rfl); (case hg => rfl); (case hr => first | (go_simp; done) | (go_simp; rfl)); intro gq hg w3 hbox hb
       have BK := Aside0.mk hbox
       have HB1 := Aside0.mk (below_step HB.out hb)
       clear hb hbox hg)
    | (go_at_call 10; with_reducible refine (awake_calls _).mono ?_; rintro e w4 ⟨rfl, hb⟩
       have BK1 := Aside0.mk (blk_below BK.out hb)
       have HB2 := Aside0.mk (below_step HB1.out hb)
       clear hb)
    | ((with_reducible refine gate_dst (N := 20) rfl ?_); refine Kd.R_lit (Kd.int .u8) _ 5 ?hg (N := 20) ?hd (xs := ([] : List Int)) (inner := []) (ok := fun _ => True) (okp := fun _ => True) ?hr ?hp (fun _ hk => hk) trivial (Below.refl _ _) (Nat.le_refl _) (by simp) ?_; (case hd => rfl); (case hg => rfl); (case hr => first | (go_simp; done) | (go_simp; rfl)); (case hp => exact (Reps.none _ _)); intro v20 w5 ho5 hb hg_ hnew_
       clear hg_ hnew_
       have HO5 := Aside0.mk (Kd.R_bound ho5)
       have BK2 := Aside0.mk (blk_below BK1.out hb)
       have HB3 := Aside0.mk (below_step HB2.out hb)
       have HB45 := Aside0.mk hb
       clear hb ho5)
    | ((with_reducible refine gate_builtin (b := .append) (xs := #[.tmp 20, .tmp 21]) rfl ?_); at_builtin; refine Kd.R_append_rows (Kd.int .u8) (w0 := w4) w4.heap.size rfl (.tmp 20) (.tmp 21) 24 5 (.int .u8 0) 1 rfl Try.underlying24 info5 rfl (by decide) (by omega) v20 ([] : List Int) b _ _ _ (fun k => w4.heap.size ≤ k) (fun _ => False) rfl rfl ?aO ?aR (fun _ _ h => h) (fun _ h => h.elim) ?aF ?aB ?aS ?aL ?_
       (case aR => exact Kd.C_below HR0.out HB3.out)
       (case aB => exact HB45.out)
       (case aF => exact (fun _ hk => Nat.le_trans (below_size HB45.out) hk))
       (case aO => exact Kd.R_mono HO5.out (fun k hk => hk.2.1))
       (case aS => exact below_size HB45.out)
       (case aL => have := HLEN.out; simp only [List.length_nil]; omega)
       intro v22 w6 ho6 hb6 hg6 hat6
       rw [List.nil_append] at ho6
       have HO6 := Aside0.mk ho6
       have BK3 := Aside0.mk (blk_below BK1.out hb6)
       have HB4 := Aside0.mk (below_step HB2.out hb6)
       obtain ⟨Ao, co, eo⟩ := Kd.R_slice ho6
       subst eo
       clear ho6 hb6 hg6 hat6))
  have HLT : Aside0 (∀ g', Ao = some ⟨g', 0, none⟩ → g' < w6.heap.size) := ⟨fun g' e => Kd.R_lt HO6.out g' (by rw [e]; rfl)⟩
  have HNG : Aside0 (∀ g', Ao = some ⟨g', 0, none⟩ → g' ≠ gq ∧ w.heap.size ≤ g') := ⟨fun g' e => by
    have h : w4.heap.size ≤ g' := HO6.out.1 g' (by rw [e]; rfl)
    have h1 := blk_lt BK1.out
    have h2 := below_size HB2.out
    exact ⟨by omega, by omega⟩⟩
  go_upto_region 5 with (first
    | (go_at_call 14; with_reducible refine (Open_st k Ao co b r _ (Kd.R_reads' HO6.out).2.2 (Kd.R_reads' HO6.out).2.1 HOP.out).mono ?_; rintro e w7 ⟨hb, pv, ev, rfl, hOS, hev⟩
       have HO7 := Aside0.mk (Kd.R_lower (Kd.R_mono (Kd.R_below HO6.out hb) (fun _ _ => trivial)) (below_size HB2.out))
       have BK4 := Aside0.mk (blk_below BK3.out hb)
       have HB5 := Aside0.mk (below_step HB4.out hb)
       have HOS := Aside0.mk hOS
       have HEV := Aside0.mk hev
       clear hb hOS hev))
  clear HB HB1 HB2 HB3 HB4 HB45 HO5 BK BK1 BK2 HOP
  go_loopg [11] (b.length + 1) (fun gf v11 wx => ∃ (i : Nat) (xs : List Int), v11 = .int .i64 (i : Int) ∧ Aside0 (gf + i = b.length + 1 ∧ i ≤ b.length) ∧ Aside0 (xs.length = b.length) ∧ Aside0 (Kd.R (Kd.int .u8) 5 wx w.heap.size (fun _ => True) (.slice Ao b.length co) xs) ∧ Aside0 (OSt wx w6.heap.size r pv) ∧ Aside0 (wx.heap[gq]? = some (.cells #[.string q0, .int .u64 q1, .int .i64 q2] 32 (0, 0))) ∧ Aside0 (Below w.heap.size w wx))
  case atStart => exact ⟨0, b, rfl, ⟨by omega, by omega⟩, ⟨rfl⟩, HO7, HOS, BK4, HB5⟩
  case round =>
    clear HO7 HOS BK4 HB5
    obtain ⟨i, xs, rfl, HI, HXL, HO, HOS, BK, HB⟩ := hrel
    cases gk with
    | zero => exact absurd HI.out.1 (by have := HI.out.2; omega)
    | succ g1 =>
      by_cases c : i < b.length
      · have c1b : decide ((i : Int) < (b.length : Int)) = true := decide_eq_true (by omega)
        have c1c : decide (i < b.length) = true := decide_eq_true c
        have c1d := eq_true (show (i : Int) < (b.length : Int) by omega)
        have c1f := eq_true (show 0 ≤ (i : Int) by omega)
        have c1e : decide (0 ≤ (i : Int)) = true := decide_eq_true (by omega)
        have HIB := Aside0.mk c
        have HW : Aside0 (wrap64 ((i : Int) + 1) = ((i + 1 : Nat) : Int)) := ⟨rd_w i (by have := HLEN.out; omega)⟩
        obtain ⟨go13, co13, eo13, gb13, gl13, cl13, HG13⟩ := Kd.R_form HO.out (by rw [HXL.out]; omega)
        injection eo13 with ea_ en_ ec_
        subst ea_
        have GB13 := Aside0.mk gb13
        have GL13 := Aside0.mk (HLT.out go13 rfl)
        have GN13 := Aside0.mk (HNG.out go13 rfl)
        clear gb13 gl13 HG13 cl13 c en_ ec_
        obtain ⟨hx13_0, hf13_0⟩ := Kd.R_celln 0 HO.out (i : Int) (Int.natCast_nonneg _) (by have := HIB.out; omega)
        have HP14 := Kd.R_putg HO.out (i : Int) 99
        rw [Int.toNat_natCast] at hx13_0 hf13_0 HP14
        go_wp2_with (first
          | ((with_reducible refine gate_store (t := 5) (p := 36) rfl ?_); refine store_event (t := 5) (p := 36) (v := ?vo) (w1 := (wr.setCell ⟨go13, i, none⟩ (.int .u8 99))) ?hg ?ho ?hn ?hr ?_; (case ho => rfl); (case hg => rfl); (case hn => rfl); (case hr => first | (go_simp; done) | (go_simp; rfl)); intro w15 hw
             have hp_ : Kd.R (Kd.int .u8) 5 w15 w.heap.size (fun _ => True) (.slice (some ⟨go13, 0, none⟩) b.length co) (xs.set i 99) := (by rw [hw]; exact HP14.1)
             have HO2 := Aside0.mk hp_
             have HOS2 : Aside0 (OSt w15 w6.heap.size r pv) := ⟨HOS.out.move (fun k hk => by rw [hw]; exact Below.heap_setCell _ _ _ k (by show k ≠ go13; have := GL13.out; omega))⟩
             have BK2 : Aside0 (w15.heap[gq]? = some (.cells #[.string q0, .int .u64 q1, .int .i64 q2] 32 (0, 0))) := ⟨by rw [hw]; exact (Below.heap_setCell _ _ _ gq (Ne.symm GN13.out.1)).trans BK.out⟩
             have HB2 : Aside0 (Below w.heap.size w w15) := ⟨by rw [hw]; exact below_set HB.out GN13.out.2⟩
             clear hw hp_ HP14 hx13_0 hf13_0))
        go_roundg g1
        case measure => omega
        case rel => exact ⟨i + 1, xs.set i 99, by rw [HW.out], ⟨by have := HI.out.1; omega, HIB.out⟩, ⟨by rw [List.length_set]; exact HXL.out⟩, HO2, HOS2, BK2, HB2⟩
      · have c1b : decide ((i : Int) < (b.length : Int)) = false := decide_eq_false (by omega)
        have c1c : decide (i < b.length) = false := decide_eq_false c
        clear c HI HXL HO HLT HNG
        cases r with
        | none =>
          obtain rfl : pv = .pointer none := HOS.out
          obtain rfl := HEV.out
          go_wp2_with (first
            | (go_at_call 15; with_reducible refine (staddleref11_Read.calls k (fun k_ => k_ < w.heap.size) A0 c0 b [] 111 _ (Kd.V_mk HC0.out (Kd.F_below (Kd.C_F (Kd.heap_int .u8) HR0.out) HB.out)) HRF.out).mono ?_; rintro e w16 ⟨v0, rfl, hol, hb⟩
               have HB2 := Aside0.mk (below_step HB.out hb)
               obtain ⟨Ar, cr, er⟩ := Kd.R_slice hol
               subst er
               clear hol hb))
          go_ret
          exact ⟨by first | rfl | simp, HB2.out⟩
        | some x =>
          obtain ⟨L, iv⟩ := x
          obtain ⟨g, hpv, hge, hown⟩ := HOS.out
          subst hpv
          obtain rfl := HEV.out
          obtain ⟨hLn, iv', hiv, n, hn1, hn2⟩ := HSM.out _ rfl
          dsimp only at hiv hn1 hn2 hLn hown
          subst hiv
          have HOW := Aside0.mk hown
          have HN1 := Aside0.mk hn1
          have HN2 := Aside0.mk hn2
          have HLL := Aside0.mk hLn
          clear hown hn1 hn2 hLn HOS HSM hge
          go_upto_region 9 with (first
            | (go_at_call 15; with_reducible refine (staddleref11_Read.calls k (fun k_ => k_ < w.heap.size) A0 c0 b L 0 _ (Kd.V_mk HC0.out (Kd.F_below (Kd.C_F (Kd.heap_int .u8) HR0.out) HB.out)) HRF.out).mono ?_; rintro e w16 ⟨v0, rfl, hol, hb⟩
               obtain ⟨Ar, cr, er⟩ := Kd.R_slice hol
               subst er
               have HRC := Aside0.mk (Kd.R_reads' hol).2.1
               have HS : Aside0 (RjSt w Ar g gq L (iv' : Int) q0 q1 q2 w16) := ⟨(HOW.out.below hb).blk, (Kd.R_reads' hol).2.2, (blk_cell (blk_below BK.out hb) 0).trans rfl, (blk_cell (blk_below BK.out hb) 1).trans rfl, (blk_cell (blk_below BK.out hb) 2).trans rfl, below_step HB.out hb⟩
               clear hol hb))
          clear HOW BK HB HRF HR0 HC0
          go_upto_region 13 with fail
          have HSD := Aside0.mk (HS.out.step (below_drew1 (Below.refl _ _)))
          have k0 := Aside0.mk HSD.out.k0
          have k1 := Aside0.mk HSD.out.k1
          have k2 := Aside0.mk HSD.out.k2
          have hLL : ((L.length : Int) != (L.length : Int)) = false := bne_self_eq_false _
          have hNN : ((n : Int) != (n : Int)) = false := bne_self_eq_false _
          refine start_ (n := 14) (S := fun w' => w'.cell? ⟨gq, 0, none⟩ = some (.string q0) ∧ w'.cell? ⟨gq, 1, none⟩ = some (.int .u64 q1) ∧ w'.cell? ⟨gq, 2, none⟩ = some (.int .i64 q2)) (ds := []) #[false, false, false, false, false, false, false, false, false, false, false, false, false, false] (by kernel_rfl) rfl rfl ⟨k0.out, k1.out, k2.out⟩ (fun hHeld => ?_)
          refine pure_ (i := 0) (N := some 58) (v := ?_) (a' := ?_) #[true, false, false, false, false, false, false, false, false, false, false, false, false, false] rfl rfl (by kernel_rfl) (fun _ _ _ h => h) (Or.inl ⟨by rfl, ?_⟩) ?_ ?_
          rotate_left
          · intro w'
            go_simp
            with_reducible rfl
          rotate_left
          · simp only [Act.put, List.setIfInBounds_toArray, List.set_cons_zero, List.set_cons_succ, i64_w, i32_w]
            rfl
          refine pure_ (i := 2) (N := some 60) (v := ?_) (a' := ?_) #[true, false, true, false, false, false, false, false, false, false, false, false, false, false] rfl rfl (by kernel_rfl) (fun _ _ _ h => h) (Or.inl ⟨by rfl, ?_⟩) ?_ ?_
          rotate_left
          · intro w'
            go_simp
            with_reducible rfl
          rotate_left
          · simp only [Act.put, List.setIfInBounds_toArray, List.set_cons_zero, List.set_cons_succ, i64_w, i32_w]
            rfl
          refine pure_ (i := 3) (N := some 61) (v := ?_) (a' := ?_) #[true, false, true, true, false, false, false, false, false, false, false, false, false, false] rfl rfl (by kernel_rfl) (fun _ _ _ h => h) (Or.inl ⟨by rfl, ?_⟩) ?_ ?_
          rotate_left
          · intro w'
            go_simp
            with_reducible rfl
          rotate_left
          · simp only [Act.put, List.setIfInBounds_toArray, List.set_cons_zero, List.set_cons_succ, i64_w, i32_w]
            rfl
          refine one_ (i := 1) (N := some 59) #[true, true, true, true, false, false, false, false, false, false, false, false, false, false] rfl rfl (by kernel_rfl) (by decide) (fun K hK => ?_)
          refine goes_ Try.func16 (by kernel_rfl) rfl #[.pointer (some ⟨g, 0, none⟩)] (by rfl) rfl rfl (by simp only [List.map_toArray, List.map_cons, List.map_nil]; rfl) ?_
          with_reducible refine (Len_calls g L (iv' : Int) _ HSD.out.blk).mono ?_
          rintro e W1 ⟨rfl, rfl⟩
          refine ⟨_, rfl, ?_⟩
          refine hK.out _ _ ⟨k0.out, k1.out, k2.out⟩ (fun hHeld => ?_)
          clear hK K
          refine norm_ (a' := ?_) ?_ ?_
          rotate_left
          · show Act.put _ (some 59) _ = _
            simp only [Act.put, List.setIfInBounds_toArray, List.set_cons_zero, List.set_cons_succ, i64_w, i32_w]
            rfl
          refine pure_ (i := 4) (N := some 62) (v := ?_) (a' := ?_) #[true, true, true, true, true, false, false, false, false, false, false, false, false, false] rfl rfl (by kernel_rfl) (fun _ _ _ h => h) (Or.inl ⟨by rfl, ?_⟩) ?_ ?_
          rotate_left
          · intro w'
            go_simp
            with_reducible rfl
          rotate_left
          · simp only [Act.put, List.setIfInBounds_toArray, List.set_cons_zero, List.set_cons_succ, i64_w, i32_w]
            rfl
          refine pure_ (i := 5) (N := some 63) (v := ?_) (a' := ?_) #[true, true, true, true, true, true, false, false, false, false, false, false, false, false] rfl rfl (by kernel_rfl) (fun _ _ _ h => h) (Or.inl ⟨by rfl, ?_⟩) ?_ ?_
          rotate_left
          · intro w'
            go_simp
            with_reducible rfl
          rotate_left
          · simp only [Act.put, List.setIfInBounds_toArray, List.set_cons_zero, List.set_cons_succ, i64_w, i32_w]
            rfl
          refine pure_ (i := 6) (N := some 64) (v := ?_) (a' := ?_) #[true, true, true, true, true, true, true, false, false, false, false, false, false, false] rfl rfl (by kernel_rfl) (fun _ _ _ h => h) (Or.inl ⟨by rfl, ?_⟩) ?_ ?_
          rotate_left
          · intro w'
            go_simp
            with_reducible rfl
          rotate_left
          · simp only [Act.put, List.setIfInBounds_toArray, List.set_cons_zero, List.set_cons_succ, i64_w, i32_w]
            rfl
          refine pure_ (i := 9) (N := some 67) (v := ?_) (a' := ?_) #[true, true, true, true, true, true, true, false, false, true, false, false, false, false] rfl rfl (by kernel_rfl) (fun _ _ _ h => h) (Or.inl ⟨by rfl, ?_⟩) ?_ ?_
          rotate_left
          · intro w'
            go_simp
            with_reducible rfl
          rotate_left
          · simp only [Act.put, List.setIfInBounds_toArray, List.set_cons_zero, List.set_cons_succ, i64_w, i32_w]
            rfl
          refine take_ (i := 7) (N := some 65) (v := ?_) (a' := ?_) #[true, true, true, true, true, true, true, true, false, true, false, false, false, false] rfl rfl (by kernel_rfl) (fun _ _ _ h => h) (Or.inl ⟨by rfl, ?_⟩) hHeld ?_ ?_
          rotate_left
          · rintro w' ⟨s0, s1, s2⟩
            go_simp
            with_reducible rfl
          rotate_left
          · simp only [Act.put, List.setIfInBounds_toArray, List.set_cons_zero, List.set_cons_succ, i64_w, i32_w]
            rfl
          refine take_ (i := 10) (N := some 68) (v := ?_) (a' := ?_) #[true, true, true, true, true, true, true, true, false, true, true, false, false, false] rfl rfl (by kernel_rfl) (fun _ _ _ h => h) (Or.inl ⟨by rfl, ?_⟩) hHeld ?_ ?_
          rotate_left
          · rintro w' ⟨s0, s1, s2⟩
            go_simp
            with_reducible rfl
          rotate_left
          · simp only [Act.put, List.setIfInBounds_toArray, List.set_cons_zero, List.set_cons_succ, i64_w, i32_w]
            rfl
          refine one_ (i := 8) (N := some 66) #[true, true, true, true, true, true, true, true, true, true, true, false, false, false] rfl rfl (by kernel_rfl) (by decide) (fun K hK => ?_)
          refine goes_ Try.func17 (by kernel_rfl) rfl #[.pointer (some ⟨g, 0, none⟩), .agg #[.string q0, .int .u64 q1, .int .i64 q2]] (by rfl) rfl rfl (by simp only [List.map_toArray, List.map_cons, List.map_nil]; rfl) ?_
          with_reducible refine (Find_calls k g L iv' ⟨q0, q1, q2⟩ n _ HSD.out.blk HN1.out).mono ?_
          rintro e W17 ⟨rfl, hb⟩
          refine ⟨_, rfl, ?_⟩
          have HSE := Aside0.mk (HSD.out.step hb)
          have k0b := Aside0.mk ((hb.cell (World.block_lt_of_cell? _ _ k0.out)).trans k0.out)
          have k1b := Aside0.mk ((hb.cell (World.block_lt_of_cell? _ _ k1.out)).trans k1.out)
          have k2b := Aside0.mk ((hb.cell (World.block_lt_of_cell? _ _ k2.out)).trans k2.out)
          clear hb
          refine hK.out _ _ ⟨k0b.out, k1b.out, k2b.out⟩ (fun hHeld => ?_)
          clear hK K
          refine norm_ (a' := ?_) ?_ ?_
          rotate_left
          · show Act.put _ (some 66) _ = _
            simp only [Act.put, List.setIfInBounds_toArray, List.set_cons_zero, List.set_cons_succ, i64_w, i32_w]
            rfl
          refine one_ (i := 11) (N := some 69) #[true, true, true, true, true, true, true, true, true, true, true, true, false, false] rfl rfl (by kernel_rfl) (by decide) (fun K hK => ?_)
          refine goes_ Try.func18 (by kernel_rfl) rfl #[.slice Ar L.length cr, .agg #[.string q0, .int .u64 q1, .int .i64 q2]] (by rfl) rfl rfl (by simp only [List.map_toArray, List.map_cons, List.map_nil]; rfl) ?_
          with_reducible refine (staddleref11_Find.calls k Ar cr L q0 q1 q2 (n : Int) _ HSE.out.row HRC.out HN2.out).mono ?_
          rintro e W18 ⟨rfl, hb⟩
          refine ⟨_, rfl, ?_⟩
          have HSF := Aside0.mk (HSE.out.step hb)
          have k0c := Aside0.mk ((hb.cell (World.block_lt_of_cell? _ _ k0b.out)).trans k0b.out)
          have k1c := Aside0.mk ((hb.cell (World.block_lt_of_cell? _ _ k1b.out)).trans k1b.out)
          have k2c := Aside0.mk ((hb.cell (World.block_lt_of_cell? _ _ k2b.out)).trans k2b.out)
          clear hb
          refine hK.out _ _ ⟨k0c.out, k1c.out, k2c.out⟩ (fun hHeld => ?_)
          clear hK K
          refine norm_ (a' := ?_) ?_ ?_
          rotate_left
          · show Act.put _ (some 69) _ = _
            simp only [Act.put, List.setIfInBounds_toArray, List.set_cons_zero, List.set_cons_succ, i64_w, i32_w]
            rfl
          refine pure_ (i := 12) (N := some 70) (v := ?_) (a' := ?_) #[true, true, true, true, true, true, true, true, true, true, true, true, true, false] rfl rfl (by kernel_rfl) (fun _ _ _ h => h) (Or.inl ⟨by rfl, ?_⟩) ?_ ?_
          rotate_left
          · intro w'
            go_simp
            with_reducible rfl
          rotate_left
          · simp only [Act.put, List.setIfInBounds_toArray, List.set_cons_zero, List.set_cons_succ, i64_w, i32_w]
            rfl
          refine pure_ (i := 13) (N := some 71) (v := ?_) (a' := ?_) #[true, true, true, true, true, true, true, true, true, true, true, true, true, true] rfl rfl (by kernel_rfl) (fun _ _ _ h => h) (Or.inl ⟨by rfl, ?_⟩) ?_ ?_
          rotate_left
          · intro w'
            go_simp
            with_reducible rfl
          rotate_left
          · simp only [Act.put, List.setIfInBounds_toArray, List.set_cons_zero, List.set_cons_succ, i64_w, i32_w]
            rfl
          refine done_ (by kernel_rfl) ?_
          clear hHeld HS HSD HSE hNN hLL k0 k1 k2 k0b k1b k2b k0c k1c k2c HN1 HN2
          have HS := HSF
          clear HSF
          go_upto_region 16 with fail
          go_loopg [14] (L.length + 1) (fun gf v14 wx => ∃ i : Nat, v14 = .int .i64 (i : Int) ∧ Aside0 (gf + i = L.length + 1 ∧ i ≤ L.length) ∧ Aside0 (RjSt w Ar g gq L (iv' : Int) q0 q1 q2 wx))
          case atStart => exact ⟨0, rfl, ⟨by omega, by omega⟩, HS⟩
          case round =>
            clear HS
            obtain ⟨i, rfl, HI, HS⟩ := hrel
            cases gk with
            | zero => exact absurd HI.out.1 (by have := HI.out.2; omega)
            | succ g1 =>
              by_cases c : i < L.length
              · have c1b : decide ((i : Int) < (L.length : Int)) = true := decide_eq_true (by omega)
                have c1c : decide (i < L.length) = true := decide_eq_true c
                have c1d := eq_true (show (i : Int) < (L.length : Int) by omega)
                have c1e : decide (0 ≤ (i : Int)) = true := decide_eq_true (by omega)
                have c1f := eq_true (show 0 ≤ (i : Int) by omega)
                have HIL := Aside0.mk c
                obtain ⟨X, hX⟩ : ∃ x, rd_T42 L (i : Int) = x := ⟨_, rfl⟩
                have HX := Aside0.mk hX
                have HW : Aside0 (wrap64 ((i : Int) + 1) = ((i + 1 : Nat) : Int)) := ⟨rd_w i (by have := HLL.out; omega)⟩
                clear hX c
                go_upto_region 19 with (first
                  | (go_at_call 19; with_reducible refine (At_calls g L (iv' : Int) (i : Int) _ HS.out.blk (Int.natCast_nonneg _) (Int.ofNat_lt.2 HIL.out)).mono ?_; rintro er w8 ⟨he, hb⟩
                     have he2 : er = .returned (.tuple #[.agg #[.string X.f0.f0, .int .u64 X.f0.f1, .int .i64 X.f0.f2, .string X.f1], .int .i64 0]) := by rw [he, ← HX.out]; rfl
                     subst he2
                     have HS1 := Aside0.mk (HS.out.step hb)
                     clear he hb HS)
                  | ((with_reducible refine gate_dst (N := 15) rfl ?_); refine box_event ?hg (N := 15) ?hd (cs := #[.string (⟨#[]⟩ : ByteArray), .int .u64 0, .int .i64 0, .string (⟨#[]⟩ : ByteArray)]) (t := 42) ?hr ?_; (case hd => rfl); (case hg => rfl); (case hr => first | (go_simp; done) | (go_simp; rfl)); intro gy hg w9 hbox hb
                     have BY := Aside0.mk hbox
                     have GY8 : Aside0 (w8.heap.size ≤ gy) := ⟨by rw [hg]; exact Nat.le_refl _⟩
                     have HB89 := Aside0.mk hb
                     have hz0 : w9.cell? ⟨gy, 0, none⟩ = some (.string (⟨#[]⟩ : ByteArray)) := (blk_cell hbox 0).trans rfl
                     have hz1 : w9.cell? ⟨gy, 1, none⟩ = some (.int .u64 0) := (blk_cell hbox 1).trans rfl
                     have hz2 : w9.cell? ⟨gy, 2, none⟩ = some (.int .i64 0) := (blk_cell hbox 2).trans rfl
                     have hz3 : w9.cell? ⟨gy, 3, none⟩ = some (.string (⟨#[]⟩ : ByteArray)) := (blk_cell hbox 3).trans rfl
                     have hf0 := blk_frozen hbox 0
                     have hf1 := blk_frozen hbox 1
                     have hf2 := blk_frozen hbox 2
                     have hf3 := blk_frozen hbox 3
                     clear hg hbox hb))
                obtain ⟨W9, hW9⟩ : ∃ x, ((((w9.setCell ⟨gy, 0, none⟩ (.string X.f0.f0)).setCell ⟨gy, 1, none⟩ (.int .u64 X.f0.f1)).setCell ⟨gy, 2, none⟩ (.int .i64 X.f0.f2)).setCell ⟨gy, 3, none⟩ (.string X.f1)) = x := ⟨_, rfl⟩
                rw [hW9]
                have BY9 : W9.heap[gy]? = some (.cells #[.string X.f0.f0, .int .u64 X.f0.f1, .int .i64 X.f0.f2, .string X.f1] 42 (0, 0)) := by rw [← hW9]; exact (blk_put (cs := #[.string X.f0.f0, .int .u64 X.f0.f1, .int .i64 X.f0.f2, .string (⟨#[]⟩ : ByteArray)]) (blk_put (cs := #[.string X.f0.f0, .int .u64 X.f0.f1, .int .i64 0, .string (⟨#[]⟩ : ByteArray)]) (blk_put (cs := #[.string X.f0.f0, .int .u64 0, .int .i64 0, .string (⟨#[]⟩ : ByteArray)]) (blk_put (cs := #[.string (⟨#[]⟩ : ByteArray), .int .u64 0, .int .i64 0, .string (⟨#[]⟩ : ByteArray)]) BY.out 0 _ rfl) 1 _ rfl) 2 _ rfl) 3 _ rfl)
                have HB9 : Below w8.heap.size w8 W9 := by rw [← hW9]; exact below_set (below_set (below_set (below_set HB89.out GY8.out) GY8.out) GY8.out) GY8.out
                have HSD : Aside0 (RjSt w Ar g gq L (iv' : Int) q0 q1 q2 W9.drew) := ⟨HS1.out.step (below_drew1 HB9)⟩
                have hBYD : W9.drew.heap[gy]? = some (.cells #[.string X.f0.f0, .int .u64 X.f0.f1, .int .i64 X.f0.f2, .string X.f1] 42 (0, 0)) := blk_drew BY9
                obtain ⟨al, eal, k0, k1, k2, k3⟩ := at_T42 HSD.out.row (i : Int) (Int.natCast_nonneg _) (Int.ofNat_lt.2 HIL.out)
                rw [HX.out] at k0 k1 k2 k3
                subst eal
                rw [Int.toNat_natCast] at k0 k1 k2 k3
                replace k0 := Aside0.mk k0
                replace k1 := Aside0.mk k1
                replace k2 := Aside0.mk k2
                replace k3 := Aside0.mk k3
                have m0 := Aside0.mk (show W9.drew.cell? ⟨gy, 0, none⟩ = some (.string X.f0.f0) from (blk_cell hBYD 0).trans rfl)
                have m1 := Aside0.mk (show W9.drew.cell? ⟨gy, 1, none⟩ = some (.int .u64 X.f0.f1) from (blk_cell hBYD 1).trans rfl)
                have m2 := Aside0.mk (show W9.drew.cell? ⟨gy, 2, none⟩ = some (.int .i64 X.f0.f2) from (blk_cell hBYD 2).trans rfl)
                have m3 := Aside0.mk (show W9.drew.cell? ⟨gy, 3, none⟩ = some (.string X.f1) from (blk_cell hBYD 3).trans rfl)
                clear hW9 BY9 HB9 hBYD hz0 hz1 hz2 hz3 hf0 hf1 hf2 hf3 BY GY8 HB89 HS1
                refine start_ (n := 10) (S := fun w' => w'.cell? (al.add (i * 4)) = some (.string X.f0.f0) ∧ w'.cell? ⟨(al.add (i * 4)).block, (al.add (i * 4)).off + 1, none⟩ = some (.int .u64 X.f0.f1) ∧ w'.cell? ⟨(al.add (i * 4)).block, (al.add (i * 4)).off + 2, none⟩ = some (.int .i64 X.f0.f2) ∧ w'.cell? ⟨(al.add (i * 4)).block, (al.add (i * 4)).off + 3, none⟩ = some (.string X.f1) ∧ w'.cell? ⟨gy, 0, none⟩ = some (.string X.f0.f0) ∧ w'.cell? ⟨gy, 1, none⟩ = some (.int .u64 X.f0.f1) ∧ w'.cell? ⟨gy, 2, none⟩ = some (.int .i64 X.f0.f2) ∧ w'.cell? ⟨gy, 3, none⟩ = some (.string X.f1)) (ds := []) #[false, false, false, false, false, false, false, false, false, false] (by kernel_rfl) rfl rfl ⟨k0.out, k1.out, k2.out, k3.out, m0.out, m1.out, m2.out, m3.out⟩ (fun hHeld => ?_)
                refine pure_ (i := 1) (N := some 85) (v := ?_) (a' := ?_) #[false, true, false, false, false, false, false, false, false, false] rfl rfl (by kernel_rfl) (fun _ _ _ h => h) (Or.inl ⟨by rfl, ?_⟩) ?_ ?_
                rotate_left
                · intro w'
                  go_simp
                  with_reducible rfl
                rotate_left
                · simp only [Act.put, List.setIfInBounds_toArray, List.set_cons_zero, List.set_cons_succ, i64_w, i32_w]
                  rfl
                refine pure_ (i := 2) (N := some 86) (v := ?_) (a' := ?_) #[false, true, true, false, false, false, false, false, false, false] rfl rfl (by kernel_rfl) (fun _ _ _ h => h) (Or.inl ⟨by rfl, ?_⟩) ?_ ?_
                rotate_left
                · intro w'
                  go_simp
                  with_reducible rfl
                rotate_left
                · simp only [Act.put, List.setIfInBounds_toArray, List.set_cons_zero, List.set_cons_succ, i64_w, i32_w]
                  rfl
                refine pure_ (i := 3) (N := some 87) (v := ?_) (a' := ?_) #[false, true, true, true, false, false, false, false, false, false] rfl rfl (by kernel_rfl) (fun _ _ _ h => h) (Or.inl ⟨by rfl, ?_⟩) ?_ ?_
                rotate_left
                · intro w'
                  go_simp
                  with_reducible rfl
                rotate_left
                · simp only [Act.put, List.setIfInBounds_toArray, List.set_cons_zero, List.set_cons_succ, i64_w, i32_w]
                  rfl
                refine take_ (i := 0) (N := some 84) (v := ?_) (a' := ?_) #[true, true, true, true, false, false, false, false, false, false] rfl rfl (by kernel_rfl) (fun _ _ _ h => h) (Or.inl ⟨by rfl, ?_⟩) hHeld ?_ ?_
                rotate_left
                · rintro w' ⟨s0, s1, s2, s3, s4, s5, s6, s7⟩
                  go_simp
                  with_reducible rfl
                rotate_left
                · simp only [Act.put, List.setIfInBounds_toArray, List.set_cons_zero, List.set_cons_succ, i64_w, i32_w]
                  rfl
                refine take_ (i := 4) (N := some 88) (v := ?_) (a' := ?_) #[true, true, true, true, true, false, false, false, false, false] rfl rfl (by kernel_rfl) (fun _ _ _ h => h) (Or.inl ⟨by rfl, ?_⟩) hHeld ?_ ?_
                rotate_left
                · rintro w' ⟨s0, s1, s2, s3, s4, s5, s6, s7⟩
                  go_simp
                  with_reducible rfl
                rotate_left
                · simp only [Act.put, List.setIfInBounds_toArray, List.set_cons_zero, List.set_cons_succ, i64_w, i32_w]
                  rfl
                refine pure_ (i := 5) (N := some 89) (v := ?_) (a' := ?_) #[true, true, true, true, true, true, false, false, false, false] rfl rfl (by kernel_rfl) (fun _ _ _ h => h) (Or.inl ⟨by rfl, ?_⟩) ?_ ?_
                rotate_left
                · intro w'
                  go_simp
                  with_reducible rfl
                rotate_left
                · simp only [Act.put, List.setIfInBounds_toArray, List.set_cons_zero, List.set_cons_succ, i64_w, i32_w]
                  rfl
                refine pure_ (i := 6) (N := some 90) (v := ?_) (a' := ?_) #[true, true, true, true, true, true, true, false, false, false] rfl rfl (by kernel_rfl) (fun _ _ _ h => h) (Or.inl ⟨by rfl, ?_⟩) ?_ ?_
                rotate_left
                · intro w'
                  go_simp
                  with_reducible rfl
                rotate_left
                · simp only [Act.put, List.setIfInBounds_toArray, List.set_cons_zero, List.set_cons_succ, i64_w, i32_w]
                  rfl
                refine pure_ (i := 7) (N := some 91) (v := ?_) (a' := ?_) #[true, true, true, true, true, true, true, true, false, false] rfl rfl (by kernel_rfl) (fun _ _ _ h => h) (Or.inl ⟨by rfl, ?_⟩) ?_ ?_
                rotate_left
                · intro w'
                  go_simp
                  with_reducible rfl
                rotate_left
                · simp only [Act.put, List.setIfInBounds_toArray, List.set_cons_zero, List.set_cons_succ, i64_w, i32_w]
                  rfl
                refine pure_ (i := 8) (N := some 92) (v := ?_) (a' := ?_) #[true, true, true, true, true, true, true, true, true, false] rfl rfl (by kernel_rfl) (fun _ _ _ h => h) (Or.inl ⟨by rfl, ?_⟩) ?_ ?_
                rotate_left
                · intro w'
                  go_simp
                  with_reducible rfl
                rotate_left
                · simp only [Act.put, List.setIfInBounds_toArray, List.set_cons_zero, List.set_cons_succ, i64_w, i32_w]
                  rfl
                refine pure_ (i := 9) (N := some 93) (v := ?_) (a' := ?_) #[true, true, true, true, true, true, true, true, true, true] rfl rfl (by kernel_rfl) (fun _ _ _ h => h) (Or.inl ⟨by rfl, ?_⟩) ?_ ?_
                rotate_left
                · intro w'
                  go_simp
                  with_reducible rfl
                rotate_left
                · simp only [Act.put, List.setIfInBounds_toArray, List.set_cons_zero, List.set_cons_succ, i64_w, i32_w]
                  rfl
                refine done_ (by kernel_rfl) ?_
                clear hHeld
                go_wp2
                go_roundg g1
                case measure => omega
                case rel => exact ⟨i + 1, by rw [HW.out], ⟨by have := HI.out.1; omega, HIL.out⟩, HSD⟩
              · have c1b : decide ((i : Int) < (L.length : Int)) = false := decide_eq_false (by omega)
                have c1c : decide (i < L.length) = false := decide_eq_false c
                clear c HI
                by_cases ca : 0 ≤ a2 ∧ a2 < (L.length : Int)
                · obtain ⟨X, hX⟩ : ∃ x, rd_T42 L a2 = x := ⟨_, rfl⟩
                  have HX := Aside0.mk hX
                  have HCA := Aside0.mk ca
                  have a1 : decide (0 ≤ a2) = true := decide_eq_true ca.1
                  have a3 : decide (a2 < (L.length : Int)) = true := decide_eq_true ca.2
                  clear hX ca
                  go_upto_region 22 with (first
                    | (go_at_call 19; with_reducible refine (At_calls g L (iv' : Int) a2 _ HS.out.blk HCA.out.1 HCA.out.2).mono ?_; rintro er w8 ⟨he, hb⟩
                       have he2 : er = .returned (.tuple #[.agg #[.string X.f0.f0, .int .u64 X.f0.f1, .int .i64 X.f0.f2, .string X.f1], .int .i64 0]) := by rw [he, ← HX.out]; rfl
                       subst he2
                       have HS1 := Aside0.mk (HS.out.step hb)
                       clear he hb HS)
                    | ((with_reducible refine gate_dst (N := 17) rfl ?_); refine box_event ?hg (N := 17) ?hd (cs := #[.string (⟨#[]⟩ : ByteArray), .int .u64 0, .int .i64 0, .string (⟨#[]⟩ : ByteArray)]) (t := 42) ?hr ?_; (case hd => rfl); (case hg => rfl); (case hr => first | (go_simp; done) | (go_simp; rfl)); intro gy hg w9 hbox hb
                       have BY := Aside0.mk hbox
                       have GY8 : Aside0 (w8.heap.size ≤ gy) := ⟨by rw [hg]; exact Nat.le_refl _⟩
                       have HB89 := Aside0.mk hb
                       have hz0 : w9.cell? ⟨gy, 0, none⟩ = some (.string (⟨#[]⟩ : ByteArray)) := (blk_cell hbox 0).trans rfl
                       have hz1 : w9.cell? ⟨gy, 1, none⟩ = some (.int .u64 0) := (blk_cell hbox 1).trans rfl
                       have hz2 : w9.cell? ⟨gy, 2, none⟩ = some (.int .i64 0) := (blk_cell hbox 2).trans rfl
                       have hz3 : w9.cell? ⟨gy, 3, none⟩ = some (.string (⟨#[]⟩ : ByteArray)) := (blk_cell hbox 3).trans rfl
                       have hf0 := blk_frozen hbox 0
                       have hf1 := blk_frozen hbox 1
                       have hf2 := blk_frozen hbox 2
                       have hf3 := blk_frozen hbox 3
                       clear hg hbox hb))
                  obtain ⟨W9, hW9⟩ : ∃ x, ((((w9.setCell ⟨gy, 0, none⟩ (.string X.f0.f0)).setCell ⟨gy, 1, none⟩ (.int .u64 X.f0.f1)).setCell ⟨gy, 2, none⟩ (.int .i64 X.f0.f2)).setCell ⟨gy, 3, none⟩ (.string X.f1)) = x := ⟨_, rfl⟩
                  rw [hW9]
                  have HB9 : Below w8.heap.size w8 W9 := by rw [← hW9]; exact below_set (below_set (below_set (below_set HB89.out GY8.out) GY8.out) GY8.out) GY8.out
                  have HS2 := Aside0.mk (HS1.out.step HB9)
                  clear hW9 HB9 hz0 hz1 hz2 hz3 hf0 hf1 hf2 hf3 BY GY8 HB89 HS1
                  go_wp2
                  go_ret
                  exact ⟨by first | rfl | simp, HS2.out.bel⟩
                · have HCO : Aside0 (a2 < 0 ∨ (L.length : Int) ≤ a2) := ⟨by omega⟩
                  go_upto_region 22 with (first
                    | (go_at_call 19; with_reducible refine (At_out g L (iv' : Int) a2 _ HS.out.blk HCO.out).mono ?_; rintro er w8 ⟨he, hb⟩
                       have he2 : er = .returned (.tuple #[.agg #[.string (⟨#[]⟩ : ByteArray), .int .u64 0, .int .i64 0, .string (⟨#[]⟩ : ByteArray)], .int .i64 1]) := he
                       subst he2
                       have HS1 := Aside0.mk (HS.out.step hb)
                       clear he hb HS)
                    | ((with_reducible refine gate_dst (N := 17) rfl ?_); refine box_event ?hg (N := 17) ?hd (cs := #[.string (⟨#[]⟩ : ByteArray), .int .u64 0, .int .i64 0, .string (⟨#[]⟩ : ByteArray)]) (t := 42) ?hr ?_; (case hd => rfl); (case hg => rfl); (case hr => first | (go_simp; done) | (go_simp; rfl)); intro gy hg w9 hbox hb
                       have BY := Aside0.mk hbox
                       have GY8 : Aside0 (w8.heap.size ≤ gy) := ⟨by rw [hg]; exact Nat.le_refl _⟩
                       have HB89 := Aside0.mk hb
                       have hz0 : w9.cell? ⟨gy, 0, none⟩ = some (.string (⟨#[]⟩ : ByteArray)) := (blk_cell hbox 0).trans rfl
                       have hz1 : w9.cell? ⟨gy, 1, none⟩ = some (.int .u64 0) := (blk_cell hbox 1).trans rfl
                       have hz2 : w9.cell? ⟨gy, 2, none⟩ = some (.int .i64 0) := (blk_cell hbox 2).trans rfl
                       have hz3 : w9.cell? ⟨gy, 3, none⟩ = some (.string (⟨#[]⟩ : ByteArray)) := (blk_cell hbox 3).trans rfl
                       have hf0 := blk_frozen hbox 0
                       have hf1 := blk_frozen hbox 1
                       have hf2 := blk_frozen hbox 2
                       have hf3 := blk_frozen hbox 3
                       clear hg hbox hb))
                  obtain ⟨W9, hW9⟩ : ∃ x, ((((w9.setCell ⟨gy, 0, none⟩ (.string (⟨#[]⟩ : ByteArray))).setCell ⟨gy, 1, none⟩ (.int .u64 0)).setCell ⟨gy, 2, none⟩ (.int .i64 0)).setCell ⟨gy, 3, none⟩ (.string (⟨#[]⟩ : ByteArray))) = x := ⟨_, rfl⟩
                  rw [hW9]
                  have BY9 : W9.heap[gy]? = some (.cells #[.string (⟨#[]⟩ : ByteArray), .int .u64 0, .int .i64 0, .string (⟨#[]⟩ : ByteArray)] 42 (0, 0)) := by rw [← hW9]; exact (blk_put (cs := #[.string (⟨#[]⟩ : ByteArray), .int .u64 0, .int .i64 0, .string (⟨#[]⟩ : ByteArray)]) (blk_put (cs := #[.string (⟨#[]⟩ : ByteArray), .int .u64 0, .int .i64 0, .string (⟨#[]⟩ : ByteArray)]) (blk_put (cs := #[.string (⟨#[]⟩ : ByteArray), .int .u64 0, .int .i64 0, .string (⟨#[]⟩ : ByteArray)]) (blk_put (cs := #[.string (⟨#[]⟩ : ByteArray), .int .u64 0, .int .i64 0, .string (⟨#[]⟩ : ByteArray)]) BY.out 0 _ rfl) 1 _ rfl) 2 _ rfl) 3 _ rfl)
                  have HB9 : Below w8.heap.size w8 W9 := by rw [← hW9]; exact below_set (below_set (below_set (below_set HB89.out GY8.out) GY8.out) GY8.out) GY8.out
                  have HS2 := Aside0.mk (HS1.out.step HB9)
                  have m0 : W9.cell? ⟨gy, 0, none⟩ = some (.string (⟨#[]⟩ : ByteArray)) := (blk_cell BY9 0).trans rfl
                  have m1 : W9.cell? ⟨gy, 1, none⟩ = some (.int .u64 0) := (blk_cell BY9 1).trans rfl
                  have m2 : W9.cell? ⟨gy, 2, none⟩ = some (.int .i64 0) := (blk_cell BY9 2).trans rfl
                  have m3 : W9.cell? ⟨gy, 3, none⟩ = some (.string (⟨#[]⟩ : ByteArray)) := (blk_cell BY9 3).trans rfl
                  clear hW9 HB9 BY9 hz0 hz1 hz2 hz3 hf0 hf1 hf2 hf3 BY GY8 HB89 HS1
                  by_cases cb : 0 ≤ a2
                  · have a1 : decide (0 ≤ a2) = true := decide_eq_true cb
                    have a3 : decide (a2 < (L.length : Int)) = false := decide_eq_false (by have := HCO.out; omega)
                    clear cb ca
                    go_wp2
                    go_ret
                    exact ⟨by first | rfl | simp, HS2.out.bel⟩
                  · have a1 : decide (0 ≤ a2) = false := decide_eq_false cb
                    clear cb ca
                    go_wp2
                    go_ret
                    exact ⟨by first | rfl | simp, HS2.out.bel⟩
end Go.Proofs.Ytppkpleagnddeaa.B
namespace Go.Proofs.Ytppkpleagnddeaa.P
open Go.RowKit Go.Proofs.YtppkpleagnddeaaW.PrintWords
theorem staddlelaw11_BlockReads.calls (k : Nat) (A0 : Option Addr) (c0 : Nat) (b : List Int) (q0 : ByteArray) (q1 q2 a2 : Int) (r : Bool) (w : World) (hr0 : Kd.C (Kd.int .u8) w A0 b.length b) (hc0 : b.length ≤ c0) (hf : B.Rds k b ⟨q0, q1, q2⟩ ∧ true = r) :
    Calls Try.prog 5 #[.slice A0 b.length c0, .agg #[.string q0, .int .u64 q1, .int .i64 q2], .int .i64 a2] w fun e w' => e = .returned (.bool r) ∧ Below w.heap.size w w' := by
  obtain ⟨hf, rfl⟩ := hf
  exact B.reads_calls k A0 c0 b q0 q1 q2 a2 w hr0 hc0 hf
end Go.Proofs.Ytppkpleagnddeaa.P
