/- Part of the proofs about package mem. -/
import Derived.Test.YtgpekomaoeockaaMemK1
namespace Go.Proofs.Ytgpekomaoeockaa.MemC
open Go.RowKit Go.Proofs.YtgpekomaoeockaaW.PrintWords Go.Proofs.YtgpekomaoeockaaW.PrintLast Go.Proofs.YtgpekomaoeockaaW.PrintMore Go.Proofs.Ytgpekomaoeockaa.QMemSizes
set_option linter.unusedVariables false
theorem PL.drewN {w w' : World} {base p sb hb : Nat} {st : List Int} {n : Nat} {ys : List LReg} {lv v : Value} (h : PL w w' base p sb hb st n ys lv v) (m : Nat) : PL w (w'.drewN m) base p sb hb st n ys lv v := h.below (pw_below_drewN (Below.refl _ _) m)
theorem two_ne (x : Int) : (x != x) = false := by simp
set_option maxHeartbeats 16000000 in
set_option maxRecDepth 100000 in
theorem alike.calls {w w' : World} {base p sb hb : Nat} {st : List Int} {n : Nat} {ys : List LReg} {lv : Value} {A : Option Addr} {cap : Nat} (h : PL w w' base p sb hb st n ys lv (.slice A ys.length cap)) :
    Calls Try.prog 12 #[.pointer (some ⟨p, 0, none⟩), .slice A ys.length cap, .int .i64 ((tot (regs ys) : Nat) : Int), .int .i64 (n : Int), .int .i64 (st.length : Int)] w' fun e w2 => e = .returned (.bool true) ∧ PL w w2 base p sb hb st n ys lv (.slice A ys.length cap) := by
  have HP := Aside0.mk h
  have hfew : (ys.length : Int) ≤ 40 := by have := h.few; omega
  have hT := h.tot
  have HT := Aside0.mk hT
  clear h hT
  go_enter Try.func12, Try.ntmps12
  go_wp2_with fail
  go_loopg [11, 12] (ys.length + 1) (fun kq v11 v12 w2 => ∃ (k : Nat), v11 = .int .i64 ((tot ((regs ys).take k) : Nat) : Int) ∧ v12 = .int .i64 (k : Int) ∧ Aside0 (k ≤ ys.length) ∧ Aside0 (k + kq = ys.length + 1) ∧ Aside0 (PL w w2 base p sb hb st n ys lv (.slice A ys.length cap)))
  case atStart => exact ⟨0, rfl, rfl, ⟨Nat.zero_le _⟩, ⟨by omega⟩, HP⟩
  case round =>
    clear HP
    obtain ⟨k, rfl, rfl, HK, HQ, HP⟩ := hrel
    cases gk with
    | zero => exact absurd HK.out (by have := HQ.out; omega)
    | succ k1 =>
      by_cases hk : k < ys.length
      · obtain ⟨g, cap', hv, _⟩ := HP.out.form (by omega)
        injection hv with hv _ hcap
        subst hv
        subst hcap
        have hx0 := HP.out.id k hk
        have hx1 := HP.out.sl k hk
        have HK2 := Aside0.mk hk
        have y1 : (0 ≤ (k : Int)) = True := eq_true (by omega)
        have y2 : ((k : Int) < (ys.length : Int)) = True := eq_true (by omega)
        have hin := HP.out.inner_le k hk
        have hn := HT.out.2
        have hb1 : ((tot ((regs ys).take k) : Nat) : Int) + (ys[k].1.2.length : Int) ≤ 65536 := by omega
        have HS := Aside0.mk hin.2
        have hk9 : (k : Int) ≤ 40 := by omega
        clear hin hn
        go_wp2_with fail
        refine (HP.out.place k HK2.out).mono ?_
        rintro e w3 ⟨rfl, hp3⟩
        have HP3 := Aside0.mk hp3
        have hz0 := hp3.id k hk
        have hz1 := hp3.sl k hk
        clear hp3 hx0 hx1
        go_wp2_with fail
        refine (HP3.out.region k HK2.out).mono ?_
        rintro e w4 ⟨o, rfl, ho, _, hp4⟩
        have HP4 := Aside0.mk hp4
        have HO := Aside0.mk ho
        have hx0 := hp4.id k hk
        have hx1 := hp4.sl k hk
        have t1 := two_ne ((tot ((regs ys).take k) : Nat) : Int)
        have t2 := two_ne (ys[k].1.2.length : Int)
        clear hp4 ho hz0 hz1
        go_wp2_with fail
        go_loopg [16] (ys[k].1.2.length + 1) (fun kq v16 w2 => ∃ (t : Nat), v16 = .int .i64 (t : Int) ∧ Aside0 (t ≤ ys[k].1.2.length) ∧ Aside0 (t + kq = ys[k].1.2.length + 1) ∧ Aside0 (PL w w2 base p sb hb st n ys lv (.slice (some ⟨g, 0, none⟩) ys.length cap)))
        case atStart => exact ⟨0, rfl, ⟨Nat.zero_le _⟩, ⟨by omega⟩, HP4⟩
        case round =>
          clear HP4 hx0 hx1
          obtain ⟨t, rfl, HT1, HT2, HP5⟩ := hrel
          cases gk with
          | zero => exact absurd HT1.out (by have := HT2.out; omega)
          | succ k2 =>
            by_cases ht : t < ys[k].1.2.length
            · have hx1 := HP5.out.sl k hk
              have hi := HP5.out.inner k hk t ht
              have hr := HP5.out.read k hk t ht
              rw [← HO.out (by omega)] at hr
              have HT3 := Aside0.mk ht
              have x1 : (0 ≤ (t : Int)) = True := eq_true (by omega)
              have x2 : ((t : Int) < (ys[k].1.2.length : Int)) = True := eq_true (by omega)
              have x3 : (t : Int) ≤ 65536 := by omega
              have x4 := two_ne (ys[k].1.2[t])
              generalize ys[k].1.2[t] = vv at hi hr x4
              clear ht
              go_wp2_with fail
              go_quiet (fail)
              go_wp2_with fail
              go_roundg k2
              case measure => have := HT2.out; omega
              case rel => exact ⟨t + 1, by go_num, ⟨HT3.out⟩, ⟨by have := HT2.out; omega⟩, ⟨HP5.out.drewN _⟩⟩
            · have hte : t = ys[k].1.2.length := by have := HT1.out; omega
              subst hte
              clear ht HT1 HT2
              go_wp2_with fail
              go_roundg k1
              case measure => have := HQ.out; omega
              case rel => exact ⟨k + 1, by rw [HS.out]; go_num, by go_num, ⟨HK2.out⟩, ⟨by have := HQ.out; omega⟩, HP5⟩
      · have hke : k = ys.length := by have := HK.out; omega
        subst hke
        clear hk HK HQ
        have t1 : (((tot (regs ys) : Nat) : Int) == ((tot (regs ys) : Nat) : Int)) = true := by simp
        have t2 : (((n : Nat) : Int) - ((tot (regs ys) : Nat) : Int) == ((n : Nat) : Int) - ((tot (regs ys) : Nat) : Int)) = true := by simp
        have t3 : ((st.length : Int) == (st.length : Int)) = true := by simp
        have hT1 := HT.out.1
        have hT2 := HT.out.2
        go_wp2_with fail
        refine (HP.out.ms.used HP.out.len).mono ?_
        rintro e w3 ⟨rfl, hb3⟩
        have HP3 := Aside0.mk (HP.out.below hb3)
        clear hb3
        go_wp2_with fail
        refine (HP3.out.ms.room HP3.out.len).mono ?_
        rintro e w4 ⟨rfl, hb4⟩
        have HP4 := Aside0.mk (HP3.out.below hb4)
        clear hb4
        go_wp2_with fail
        refine (HP4.out.ms.stack).mono ?_
        rintro e w5 ⟨rfl, hb5⟩
        have HP5 := Aside0.mk (HP4.out.below hb5)
        clear hb5
        go_wp2
        go_ret
        exact ⟨rfl, HP5.out⟩
end Go.Proofs.Ytgpekomaoeockaa.MemC
