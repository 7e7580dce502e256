/- The reading methods, said of the state. -/
import Derived.Test.YtgpekomaoeockaaMemX
namespace Go.Proofs.Ytgpekomaoeockaa.MemC
open Go.RowKit Go.Proofs.YtgpekomaoeockaaW.PrintWords Go.Proofs.YtgpekomaoeockaaW.PrintLast Go.Proofs.YtgpekomaoeockaaW.PrintMore Go.Proofs.Ytgpekomaoeockaa.QMemSizes
set_option linter.unusedVariables false
section
variable {w : World} {base p sb hb : Nat} {st : List Int} {n : Nat} {rs : List Reg} {lv : Value}
theorem MS.list (h : MS w base p sb hb st n rs lv) : ∃ A c, lv = .slice A (lay 0 rs).length c ∧ Kd.C k50 w A (lay 0 rs).length (lay 0 rs) ∧ (lay 0 rs).length ≤ c := own_C h.lst (lay_length _ _)
theorem MS.used (h : MS w base p sb hb st n rs lv) (hl : rs.length ≤ 1000000000) : Calls Try.prog 15 #[.pointer (some ⟨p, 0, none⟩)] w fun e w' => e = .returned (.int .i64 ((tot rs : Nat) : Int)) ∧ Below w.heap.size w w' := by
  obtain ⟨A, c, rfl, hC, hc⟩ := h.list
  exact mem_Mem_Used.calls p _ A c _ _ w hC hc h.c2 (used_val rs (by have := h.tn; have := h.nb; omega) hl)
theorem MS.room (h : MS w base p sb hb st n rs lv) (hl : rs.length ≤ 1000000000) : Calls Try.prog 14 #[.pointer (some ⟨p, 0, none⟩)] w fun e w' => e = .returned (.int .i64 ((n : Int) - ((tot rs : Nat) : Int))) ∧ Below w.heap.size w w' := by
  obtain ⟨A, c, rfl, hC, hc⟩ := h.list
  have h1 := h.tn
  have h2 := h.nb
  refine (Room.calls _ p A (some ⟨hb, 0, none⟩) c n n _ _ w hC hc h.c2 h.c1 (used_val rs (by omega) hl)).mono ?_
  rintro e w' ⟨rfl, hb⟩
  exact ⟨by rw [wrap_id _ (by omega) (by omega)], hb⟩
theorem MS.stack (h : MS w base p sb hb st n rs lv) : Calls Try.prog 13 #[.pointer (some ⟨p, 0, none⟩)] w fun e w' => e = .returned (.slice (some ⟨sb, 0, none⟩) st.length st.length) ∧ Below w.heap.size w w' := Stack.calls p _ w h.c0
theorem MS.at_yes (h : MS w base p sb hb st n rs lv) (hl : rs.length ≤ 1000000000) (id : Int) (m : Nat) (hm : m < rs.length) (he : rs[m].1 = id) (hn : ∀ j (h : j < rs.length), j < m → rs[j].1 ≠ id) :
    Calls Try.prog 19 #[.pointer (some ⟨p, 0, none⟩), .int .i64 id] w fun e w' => e = .returned (.int .i64 (m : Int)) ∧ Below w.heap.size w w' := by
  obtain ⟨A, c, rfl, hC, hc⟩ := h.list
  exact at.calls _ p A c _ id _ w hC hc h.c2 (MemC.at_yes rs hl id m hm he hn)
theorem MS.at_no (h : MS w base p sb hb st n rs lv) (hl : rs.length ≤ 1000000000) (id : Int) (hn : ∀ j (h : j < rs.length), rs[j].1 ≠ id) :
    Calls Try.prog 19 #[.pointer (some ⟨p, 0, none⟩), .int .i64 id] w fun e w' => e = .returned (.int .i64 (-1)) ∧ Below w.heap.size w w' := by
  obtain ⟨A, c, rfl, hC, hc⟩ := h.list
  exact at.calls _ p A c _ id _ w hC hc h.c2 (MemC.at_no rs hl id hn)
theorem MS.place (h : MS w base p sb hb st n rs lv) (hl : rs.length ≤ 1000000000) (id : Int) (m : Nat) (hm : m < rs.length) (he : rs[m].1 = id) (hn : ∀ j (h : j < rs.length), j < m → rs[j].1 ≠ id) :
    Calls Try.prog 16 #[.pointer (some ⟨p, 0, none⟩), .int .i64 id] w fun e w' => e = .returned (.tuple #[.int .i64 ((tot (rs.take m) : Nat) : Int), .bool true]) ∧ Below w.heap.size w w' := by
  obtain ⟨A, c, rfl, hC, hc⟩ := h.list
  refine (Place.calls _ p A c _ id _ w hC hc h.c2 (MemC.at_yes rs hl id m hm he hn) (by omega) (by rw [lay_length]; omega)).mono ?_
  rintro e w' ⟨rfl, hb⟩
  refine ⟨?_, hb⟩
  rw [rd_lay 0 rs m hm, Nat.zero_add]
theorem MS.region (h : MS w base p sb hb st n rs lv) (hl : rs.length ≤ 1000000000) (id : Int) (m : Nat) (hm : m < rs.length) (he : rs[m].1 = id) (hn : ∀ j (h : j < rs.length), j < m → rs[j].1 ≠ id) :
    Calls Try.prog 11 #[.pointer (some ⟨p, 0, none⟩), .int .i64 id] w fun e w' => e = .returned (regV hb (tot (rs.take m)) rs[m].2.length) ∧ Below w.heap.size w w' := by
  obtain ⟨A, c, rfl, hC, hc⟩ := h.list
  have h1 := h.tn
  have h2 := h.nb
  have h3 := tot_take_le rs (m + 1)
  have h4 := tot_take_succ rs m hm
  exact Region.calls _ p A c _ hb n n (tot (rs.take m)) rs[m].2.length id _ w hC hc h.c2 h.c1 (MemC.at_yes rs hl id m hm he hn) (by omega) (by rw [lay_length]; omega) (by rw [rd_lay 0 rs m hm, Nat.zero_add]) (by rw [rd_lay 0 rs m hm]) (by omega) (by omega)
theorem MS.place_no (h : MS w base p sb hb st n rs lv) (hl : rs.length ≤ 1000000000) (id : Int) (hn : ∀ j (h : j < rs.length), rs[j].1 ≠ id) :
    Calls Try.prog 16 #[.pointer (some ⟨p, 0, none⟩), .int .i64 id] w fun e w' => e = .returned (.tuple #[.int .i64 0, .bool false]) ∧ Below w.heap.size w w' := by
  obtain ⟨A, c, rfl, hC, hc⟩ := h.list
  exact Place.no _ p A c _ id _ w hC hc h.c2 (MemC.at_no rs hl id hn) (by omega)
theorem MS.region_no (h : MS w base p sb hb st n rs lv) (hl : rs.length ≤ 1000000000) (id : Int) (hn : ∀ j (h : j < rs.length), rs[j].1 ≠ id) :
    Calls Try.prog 11 #[.pointer (some ⟨p, 0, none⟩), .int .i64 id] w fun e w' => e = .returned (.slice none 0 0) ∧ Below w.heap.size w w' := by
  obtain ⟨A, c, rfl, hC, hc⟩ := h.list
  exact Region.no _ p A c _ id _ w hC hc h.c2 (MemC.at_no rs hl id hn) (by omega)
end
end Go.Proofs.Ytgpekomaoeockaa.MemC
