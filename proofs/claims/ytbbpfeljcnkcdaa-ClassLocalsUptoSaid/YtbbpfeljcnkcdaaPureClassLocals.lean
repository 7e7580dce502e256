/- The pure statement of ClassLocals: Local answers as the reference does, for any method whose lists are no longer than 1048576 (the second form), and any number. -/
import Derived.Test.YtbbpfeljcnkcdaaRdClassLocals
import Derived.Test.YtbbpfeljcnkcdaaChain
namespace Go.Proofs.Ytbbpfeljcnkcdaa.Pure
open Go.RowKit Go.Proofs.Ytbbpfeljcnkcdaa.QClassLocals Go.Proofs.YtbbpfeljcnkcdaaW.PrintWords Go.Proofs.YtbbpfeljcnkcdaaW.PrintLast Go.Proofs.Ytbbpfeljcnkcdaa.Open Go.Proofs.Ytbbpfeljcnkcdaa.RdClassLocals Go.Proofs.Ytbbpfeljcnkcdaa.Chain
theorem inc_nat {i n : Nat} (h : i < n) (hn : n ≤ 1000000) : wrap64 ((i : Int) + 1) = ((i + 1 : Nat) : Int) := by unfold wrap64; omega
theorem rd_nat {x : List Int} {i : Nat} (h : i < x.length) : rd x (i : Int) = x[i] := by unfold rd; simp [List.getD_eq_getElem?_getD, List.getElem?_eq_getElem h]
theorem tt {X : List S40} {i : Nat} (h : i < X.length) : rd_T40 X (i : Int) = X[i] := by unfold rd_T40; simp [List.getD_eq_getElem?_getD, List.getElem?_eq_getElem h]
theorem awake_ok (k : Nat) (hk : 60 ≤ k) : plimsolllaw07_awake.f k = some true := by
  have h : plimsolllaw07_awake.f 60 = some true := by decide +kernel
  exact at_rounds (plimsolllaw07_awake.mono) hk h
theorem bnd {α β : Type} {o : Option α} {a : α} {f : α → Option β} {r : Option β} (h : o = some a) (k : f a = r) : o.bind f = r := by rw [h]; exact k
theorem ClassLocals : ClassLocals_Pure := by
  intro xs ys r0 r1 cs dp pt ph n _ _ _ _ _ _ _ _ hn ha hl _ _
  have hn' : -9223372036854775808 ≤ n ∧ n ≤ 9223372036854775807 := by
    unfold IntG at hn
    simp only [Lit.wf, Bool.and_eq_true, decide_eq_true_eq] at hn
    exact hn
  refine ⟨70, ?_⟩
  have one : ∃ p : Int × Int, class_Local.f 70 xs ys r0 r1 cs dp pt ph n = some p ∧ plimsollref05_Local.f xs ys r0 r1 cs dp pt ph n = some p := by
    have e1 : wrap64 ((xs.length : Int) + (ys.length : Int)) = ((xs.length + ys.length : Nat) : Int) := by unfold wrap64; omega
    have ref : plimsollref05_Local.f xs ys r0 r1 cs dp pt ph n = (if n < 0 then (some (0, 0)) else (if n ≥ ((xs ++ ys).length : Int) then (some (0, 0)) else (if 0 ≤ n then (if n < ((xs ++ ys).length : Int) then (some ((rd_T40 (xs ++ ys) n).f0, (rd_T40 (xs ++ ys) n).f1)) else (none)) else (none)))) := by
      unfold plimsollref05_Local.f
      simp only [Option.bind_some, List.nil_append]
      exact (if_pos (by simp; clear e1; omega)).trans (if_pos (by clear e1; omega))
    rw [ref]
    unfold class_Local.f
    rw [e1]
    clear e1
    have el : ((xs ++ ys).length : Int) = (xs.length : Int) + (ys.length : Int) := by rw [List.length_append]; omega
    by_cases h0 : n < 0
    · refine ⟨(0, 0), ?_, if_pos h0⟩
      rw [class_Local.j0]
      exact (if_pos h0).trans (if_pos rfl)
    · by_cases h1 : n ≥ ((xs.length + ys.length : Nat) : Int)
      · refine ⟨(0, 0), ?_, (if_neg h0).trans (if_pos (by omega))⟩
        refine (if_neg h0).trans ?_
        rw [decide_eq_true h1, class_Local.j0]
        exact if_pos rfl
      · obtain ⟨i, rfl⟩ : ∃ i : Nat, n = (i : Int) := ⟨n.toNat, by omega⟩
        have hi : i < (xs ++ ys).length := by omega
        refine ⟨((xs ++ ys)[i].f0, (xs ++ ys)[i].f1), ?_, ?_⟩
        · refine (if_neg h0).trans ?_
          rw [decide_eq_false h1, class_Local.j0]
          refine (if_neg Bool.false_ne_true).trans ?_
          by_cases h2 : (i : Int) < (xs.length : Int)
          · refine (if_pos h2).trans ((if_pos (by omega)).trans ?_)
            have h3 : i < xs.length := by omega
            rw [tt h3, List.getElem_append_left h3]
          · refine (if_neg h2).trans ?_
            have e2 : wrap64 ((i : Int) - (xs.length : Int)) = ((i - xs.length : Nat) : Int) := by unfold wrap64; omega
            rw [e2]
            clear e2
            have h3 : i - xs.length < ys.length := by omega
            refine (if_pos (by omega)).trans ((if_pos (by omega)).trans ?_)
            rw [tt h3, List.getElem_append_right (by omega)]
        · refine (if_neg h0).trans ((if_neg (by omega)).trans ((if_pos (by omega)).trans ((if_pos (by omega)).trans ?_)))
          rw [tt hi]
  obtain ⟨p, h1, h2⟩ := one
  unfold plimsolllaw07_ClassLocals.f
  refine bnd (awake_ok 70 (by omega)) ((if_pos rfl).trans (bnd h1 (bnd h2 ?_)))
  simp
end Go.Proofs.Ytbbpfeljcnkcdaa.Pure
