import Derived.Test.YtcapgmoipacioaaPtZe
import Derived.Test.YtcapgmoipacioaaPpfracZe
import Derived.Test.YtcapgmoipacioaaPpmoneyZe
import Derived.Test.YtcapgmoipacioaaY1Ze
namespace Go.Proofs.Ytcapgmoipacioaa.P
open Go.RowKit Go.Proofs.YtcapgmoipacioaaW.PrintWords Go.Proofs.YtcapgmoipacioaaW.PrintLast Go.Proofs.YtcapgmoipacioaaW.PrintMore
set_option linter.unusedVariables false
set_option linter.unusedSimpArgs false
mutual
def code_Check.j0 : Nat → Bool → Int → Int → Int → Int → Bool → Option (Int)
 | 0, _, _, _, _, _, _ => none
 | k + 1, x11, x445000, x445001, x445002, x445003, x445004 => if x11 = true then (some 81) else (if x445001 = 1 then (code_Check.j1 k true x445000 x445001 x445002 x445003 x445004) else (code_Check.j1 k (x445001 == 2) x445000 x445001 x445002 x445003 x445004))
def code_Check.j1 : Nat → Bool → Int → Int → Int → Int → Bool → Option (Int)
 | 0, _, _, _, _, _, _ => none
 | k + 1, x3, x445000, x445001, x445002, x445003, x445004 => if x445001 < 1 then (code_Check.j2 k x3 true x445000 x445001 x445002 x445003 x445004) else (code_Check.j2 k x3 (decide (x445001 > 4)) x445000 x445001 x445002 x445003 x445004)
def code_Check.j2 : Nat → Bool → Bool → Int → Int → Int → Int → Bool → Option (Int)
 | 0, _, _, _, _, _, _, _ => none
 | k + 1, x3, x20, x445000, x445001, x445002, x445003, x445004 => if x20 = true then (some 80) else (if x3 = true then (code_Check.j3 k false x445000 x445001 x445002 x445003 x445004) else (code_Check.j3 k (x445002 != 0) x445000 x445001 x445002 x445003 x445004))
def code_Check.j3 : Nat → Bool → Int → Int → Int → Int → Bool → Option (Int)
 | 0, _, _, _, _, _, _ => none
 | k + 1, x29, x445000, x445001, x445002, x445003, x445004 => if x29 = true then (code_Check.j4 k x29 x445000 x445001 x445002 x445003 x445004) else (if x445002 < 0 then (code_Check.j4 k (decide (x445002 < 0)) x445000 x445001 x445002 x445003 x445004) else (if x445002 > 999999000 then (code_Check.j4 k (decide (x445002 > 999999000)) x445000 x445001 x445002 x445003 x445004) else (code_Check.j4 k ((Int.tmod x445002 1000) != 0) x445000 x445001 x445002 x445003 x445004)))
def code_Check.j4 : Nat → Bool → Int → Int → Int → Int → Bool → Option (Int)
 | 0, _, _, _, _, _, _ => none
 | k + 1, x29, x445000, x445001, x445002, x445003, x445004 => if x29 = true then (some 80) else (if x445001 = 2 then (code_Check.j5 k (x445002 == 0) x445000 x445001 x445002 x445003 x445004) else (code_Check.j5 k false x445000 x445001 x445002 x445003 x445004))
def code_Check.j5 : Nat → Bool → Int → Int → Int → Int → Bool → Option (Int)
 | 0, _, _, _, _, _, _ => none
 | k + 1, x47, x445000, x445001, x445002, x445003, x445004 => if x47 = true then (some 80) else (if x445001 = 3 then (code_Check.j6 k false x445000 x445001 x445002 x445003 x445004) else (code_Check.j6 k (x445003 != 0) x445000 x445001 x445002 x445003 x445004))
def code_Check.j6 : Nat → Bool → Int → Int → Int → Int → Bool → Option (Int)
 | 0, _, _, _, _, _, _ => none
 | k + 1, x56, x445000, x445001, x445002, x445003, x445004 => if x56 = true then (code_Check.j7 k x56) else (if x445003 < 0 then (code_Check.j7 k (decide (x445003 < 0))) else (code_Check.j7 k (decide (x445003 > 7))))
def code_Check.j7 : Nat → Bool → Option (Int)
 | 0, _ => none
 | k + 1, x56 => if x56 = true then (some 80) else (some 0)
end
def code_Check.f (k : Nat) (a0_0 : Int) (a0_1 : Int) (a0_2 : Int) (a0_3 : Int) (a0_4 : Bool) : Option (Int) := if a0_0 < 0 then (code_Check.j0 k true a0_0 a0_1 a0_2 a0_3 a0_4) else (code_Check.j0 k (decide (a0_0 > 7)) a0_0 a0_1 a0_2 a0_3 a0_4)
set_option maxHeartbeats 8000000 in
set_option maxRecDepth 100000 in
theorem code_Check.calls (k : Nat) (a0_0 : Int) (a0_1 : Int) (a0_2 : Int) (a0_3 : Int) (a0_4 : Bool) (r : Int) (w : World) (h : code_Check.f k a0_0 a0_1 a0_2 a0_3 a0_4 = some r) :
  Calls Try.prog 116 #[.agg #[.int .i64 a0_0, .int .i64 a0_1, .int .i64 a0_2, .int .i64 a0_3, .bool a0_4]] w fun e w' => e = .returned (.int .i64 r) ∧ Below w.heap.size w w' := by
 have hu88 := Try.underlying88; have HB := A_ (Below.refl w.heap.size w); unfold code_Check.f at h; have H := h; clear h; have HC2 := A_ H; clear H; go_enter Try.func116, Try.ntmps116
 go_upto_region 1 with (first | ((with_reducible refine gate_dst (N := 1) rfl ?_); refine be_ (N := 1) (cs := #[.int .i64 a0_0, .int .i64 a0_1, .int .i64 a0_2, .int .i64 a0_3, .bool a0_4]) (t := 88) ?_; intro gb444 hg w3 hbox hb; have BK444 := A_ (hbox); have GW444 := A_ ((by rw [hg]; exact (below_size (bl_ HB)) : w.heap.size ≤ gb444)); have GE444 := A_ ((by rw [hg]; exact (below_size (bl_ HB)) : w.heap.size ≤ gb444)); replace HB := A_ (below_step (bl_ HB) hb); clear hb hbox hg))
 (try simp only [Act.put, List.setIfInBounds_toArray, List.set_cons_zero, List.set_cons_succ])
 go_cut [11] (fun v11 wc => ∃ (kq : Nat) (x11_1 : Bool), v11 = .bool x11_1 ∧ Aside0 (code_Check.j0 kq x11_1 a0_0 a0_1 a0_2 a0_3 a0_4 = some r) ∧ Aside0 (kq ≤ k) ∧ Aside0 (wc.heap[gb444]? = some (.cells #[.int .i64 a0_0, .int .i64 a0_1, .int .i64 a0_2, .int .i64 a0_3, .bool a0_4] 88 (0, 0))) ∧ Aside0 (Below w.heap.size w wc))
 case first =>
  have H := HC2.out; clear HC2; by_cases c4 : a0_0 < 0
  ·rw [if_pos c4] at H; have c4b0 := decide_eq_true c4; clear c4
   (first | rw [c4b0] | (simp only [i64_w, i32_w]; rw [c4b0]) | skip)
   have H' := A_ H; clear H; have hcz5_0 := cz_ BK444 0; have hcz5_1 := cz_ BK444 1; have hcz5_2 := cz_ BK444 2; have hcz5_3 := cz_ BK444 3; have hcz5_4 := cz_ BK444 4; have hfz5_0 := fz_ BK444 0; have hfz5_1 := fz_ BK444 1; have hfz5_2 := fz_ BK444 2; have hfz5_3 := fz_ BK444 3; have hfz5_4 := fz_ BK444 4
   go_wp2
   go_meet
   case rel => exact ⟨_, (true), (sx_), H', ⟨by first | omega | exact Nat.le_refl _⟩, ⟨bx_ BK444⟩, ⟨bl1_ HB GE444.out⟩⟩
  ·rw [if_neg c4] at H; have c4b0 := decide_eq_false c4; clear c4
   (first | rw [c4b0] | (simp only [i64_w, i32_w]; rw [c4b0]) | skip)
   have H' := A_ H; clear H; have hcz6_0 := cz_ BK444 0; have hcz6_1 := cz_ BK444 1; have hcz6_2 := cz_ BK444 2; have hcz6_3 := cz_ BK444 3; have hcz6_4 := cz_ BK444 4; have hfz6_0 := fz_ BK444 0; have hfz6_1 := fz_ BK444 1; have hfz6_2 := fz_ BK444 2; have hfz6_3 := fz_ BK444 3; have hfz6_4 := fz_ BK444 4
   go_wp2
   go_meet
   case rel => exact ⟨_, (decide (a0_0 > 7)), (sx_), H', ⟨by first | omega | exact Nat.le_refl _⟩, ⟨bx_ BK444⟩, ⟨bl1_ HB GE444.out⟩⟩
 case rest =>
  clear HC2; try clear c1
  try clear p2
  try clear c4
  try clear c4b0
  try clear hcz5_0 hcz5_1 hcz5_2 hcz5_3 hcz5_4
  try clear hcz6_0 hcz6_1 hcz6_2 hcz6_3 hcz6_4
  try clear hfz5_0 hfz5_1 hfz5_2 hfz5_3 hfz5_4
  try clear hfz6_0 hfz6_1 hfz6_2 hfz6_3 hfz6_4
  obtain ⟨kq, x11_1, rfl, HA, HJ1, BK444, HB⟩ := hcut
  cases kq with
  | zero => exact absurd HA.out (by simp [code_Check.j0])
  | succ kj1 =>
   have H := HA.out; clear HA; simp only [code_Check.j0] at H; by_cases c7 : x11_1 = true
   ·subst c7; rw [if_pos rfl] at H; obtain rfl := Option.some.inj H
    go_wp2
    go_ret
    exact ⟨er_, bl1_ HB GE444.out⟩
   ·replace c7 := Bool.eq_false_iff.mpr c7; subst c7; rw [if_neg (show ¬ (false = true) by decide)] at H; have HC8 := A_ H; clear H; go_upto_region 3 with (fail)
    go_cut [3] (fun v3 wc => ∃ (kq : Nat) (x3_7 : Bool), v3 = .bool x3_7 ∧ Aside0 (code_Check.j1 kq x3_7 a0_0 a0_1 a0_2 a0_3 a0_4 = some r) ∧ Aside0 (kq ≤ kj1) ∧ Aside0 (wc.heap[gb444]? = some (.cells #[.int .i64 a0_0, .int .i64 a0_1, .int .i64 a0_2, .int .i64 a0_3, .bool a0_4] 88 (0, 0))) ∧ Aside0 (Below w.heap.size w wc))
    case first =>
     have H := HC8.out; clear HC8; by_cases c9 : a0_1 = 1
     ·rw [if_pos c9] at H; have c9b0 : (a0_1 == 1) = true := beq_iff_eq.mpr c9; have c9b1 : (a0_1 != 1) = false := bne_eq_false_iff_eq.mpr c9; clear c9
      (first | rw [c9b0] | (simp only [i64_w, i32_w]; rw [c9b0]) | skip)
      have H' := A_ H; clear H; have hcz10_0 := cz_ BK444 0; have hcz10_1 := cz_ BK444 1; have hcz10_2 := cz_ BK444 2; have hcz10_3 := cz_ BK444 3; have hcz10_4 := cz_ BK444 4; have hfz10_0 := fz_ BK444 0; have hfz10_1 := fz_ BK444 1; have hfz10_2 := fz_ BK444 2; have hfz10_3 := fz_ BK444 3; have hfz10_4 := fz_ BK444 4
      go_wp2
      go_meet
      case rel => exact ⟨_, (true), (sx_), H', ⟨by have := HJ1.out; first | omega | exact Nat.le_refl _⟩, ⟨bx_ BK444⟩, ⟨bl1_ HB GE444.out⟩⟩
     ·rw [if_neg c9] at H; have c9b0 : (a0_1 == 1) = false := beq_eq_false_iff_ne.mpr c9; have c9b1 : (a0_1 != 1) = true := bne_iff_ne.mpr c9
      (first | rw [c9b0] | (simp only [i64_w, i32_w]; rw [c9b0]) | skip)
      have H' := A_ H; clear H; have hcz11_0 := cz_ BK444 0; have hcz11_1 := cz_ BK444 1; have hcz11_2 := cz_ BK444 2; have hcz11_3 := cz_ BK444 3; have hcz11_4 := cz_ BK444 4; have hfz11_0 := fz_ BK444 0; have hfz11_1 := fz_ BK444 1; have hfz11_2 := fz_ BK444 2; have hfz11_3 := fz_ BK444 3; have hfz11_4 := fz_ BK444 4
      go_wp2
      go_meet
      case rel => exact ⟨_, ((a0_1 == 2)), (sx_), H', ⟨by have := HJ1.out; first | omega | exact Nat.le_refl _⟩, ⟨bx_ BK444⟩, ⟨bl1_ HB GE444.out⟩⟩
    case rest =>
     clear HC8; try clear c1
     try clear p2
     try clear c4
     try clear c4b0
     try clear c7
     try clear c9
     try clear c9b0
     try clear c9b1
     try clear c11
     try clear hcz10_0 hcz10_1 hcz10_2 hcz10_3 hcz10_4
     try clear hcz11_0 hcz11_1 hcz11_2 hcz11_3 hcz11_4
     try clear hcz5_0 hcz5_1 hcz5_2 hcz5_3 hcz5_4
     try clear hcz6_0 hcz6_1 hcz6_2 hcz6_3 hcz6_4
     try clear hfz10_0 hfz10_1 hfz10_2 hfz10_3 hfz10_4
     try clear hfz11_0 hfz11_1 hfz11_2 hfz11_3 hfz11_4
     try clear hfz5_0 hfz5_1 hfz5_2 hfz5_3 hfz5_4
     try clear hfz6_0 hfz6_1 hfz6_2 hfz6_3 hfz6_4
     try clear p2
     obtain ⟨kq, x3_7, rfl, HA, HJ7, BK444, HB⟩ := hcut
     cases kq with
     | zero => exact absurd HA.out (by simp [code_Check.j1])
     | succ kj7 =>
      have H := HA.out; clear HA; simp only [code_Check.j1] at H; have HC12 := A_ H; clear H; go_upto_region 4 with (fail)
      go_cut [20] (fun v20 wc => ∃ (kq : Nat) (x20_11 : Bool), v20 = .bool x20_11 ∧ Aside0 (code_Check.j2 kq x3_7 x20_11 a0_0 a0_1 a0_2 a0_3 a0_4 = some r) ∧ Aside0 (kq ≤ kj7) ∧ Aside0 (wc.heap[gb444]? = some (.cells #[.int .i64 a0_0, .int .i64 a0_1, .int .i64 a0_2, .int .i64 a0_3, .bool a0_4] 88 (0, 0))) ∧ Aside0 (Below w.heap.size w wc))
      case first =>
       have H := HC12.out; clear HC12; by_cases c13 : a0_1 < 1
       ·rw [if_pos c13] at H; have c13b0 := decide_eq_true c13; clear c13
        (first | rw [c13b0] | (simp only [i64_w, i32_w]; rw [c13b0]) | skip)
        have H' := A_ H; clear H; have hcz14_0 := cz_ BK444 0; have hcz14_1 := cz_ BK444 1; have hcz14_2 := cz_ BK444 2; have hcz14_3 := cz_ BK444 3; have hcz14_4 := cz_ BK444 4; have hfz14_0 := fz_ BK444 0; have hfz14_1 := fz_ BK444 1; have hfz14_2 := fz_ BK444 2; have hfz14_3 := fz_ BK444 3; have hfz14_4 := fz_ BK444 4
        go_wp2
        go_meet
        case rel => exact ⟨_, (true), (sx_), H', ⟨by have := HJ1.out; have := HJ7.out; first | omega | exact Nat.le_refl _⟩, ⟨bx_ BK444⟩, ⟨bl1_ HB GE444.out⟩⟩
       ·rw [if_neg c13] at H; have c13b0 := decide_eq_false c13; clear c13
        (first | rw [c13b0] | (simp only [i64_w, i32_w]; rw [c13b0]) | skip)
        have H' := A_ H; clear H; have hcz15_0 := cz_ BK444 0; have hcz15_1 := cz_ BK444 1; have hcz15_2 := cz_ BK444 2; have hcz15_3 := cz_ BK444 3; have hcz15_4 := cz_ BK444 4; have hfz15_0 := fz_ BK444 0; have hfz15_1 := fz_ BK444 1; have hfz15_2 := fz_ BK444 2; have hfz15_3 := fz_ BK444 3; have hfz15_4 := fz_ BK444 4
        go_wp2
        go_meet
        case rel => exact ⟨_, (decide (a0_1 > 4)), (sx_), H', ⟨by have := HJ1.out; have := HJ7.out; first | omega | exact Nat.le_refl _⟩, ⟨bx_ BK444⟩, ⟨bl1_ HB GE444.out⟩⟩
      case rest =>
       clear HC12; try clear c1
       try clear p2
       try clear c4
       try clear c4b0
       try clear c7
       try clear c9
       try clear c9b0
       try clear c9b1
       try clear c11
       try clear c13
       try clear c13b0
       try clear hcz10_0 hcz10_1 hcz10_2 hcz10_3 hcz10_4
       try clear hcz11_0 hcz11_1 hcz11_2 hcz11_3 hcz11_4
       try clear hcz14_0 hcz14_1 hcz14_2 hcz14_3 hcz14_4
       try clear hcz15_0 hcz15_1 hcz15_2 hcz15_3 hcz15_4
       try clear hcz5_0 hcz5_1 hcz5_2 hcz5_3 hcz5_4
       try clear hcz6_0 hcz6_1 hcz6_2 hcz6_3 hcz6_4
       try clear hfz10_0 hfz10_1 hfz10_2 hfz10_3 hfz10_4
       try clear hfz11_0 hfz11_1 hfz11_2 hfz11_3 hfz11_4
       try clear hfz14_0 hfz14_1 hfz14_2 hfz14_3 hfz14_4
       try clear hfz15_0 hfz15_1 hfz15_2 hfz15_3 hfz15_4
       try clear hfz5_0 hfz5_1 hfz5_2 hfz5_3 hfz5_4
       try clear hfz6_0 hfz6_1 hfz6_2 hfz6_3 hfz6_4
       try clear p2
       obtain ⟨kq, x20_11, rfl, HA, HJ11, BK444, HB⟩ := hcut
       cases kq with
       | zero => exact absurd HA.out (by simp [code_Check.j2])
       | succ kj11 =>
        have H := HA.out; clear HA; simp only [code_Check.j2] at H; by_cases c16 : x20_11 = true
        ·subst c16; rw [if_pos rfl] at H; obtain rfl := Option.some.inj H
         go_wp2
         go_ret
         exact ⟨er_, bl1_ HB GE444.out⟩
        ·replace c16 := Bool.eq_false_iff.mpr c16; subst c16; rw [if_neg (show ¬ (false = true) by decide)] at H; have HC17 := A_ H; clear H; go_upto_region 6 with (fail)
         go_cut [29] (fun v29 wc => ∃ (kq : Nat) (x29_16 : Bool), v29 = .bool x29_16 ∧ Aside0 (code_Check.j3 kq x29_16 a0_0 a0_1 a0_2 a0_3 a0_4 = some r) ∧ Aside0 (kq ≤ kj11) ∧ Aside0 (wc.heap[gb444]? = some (.cells #[.int .i64 a0_0, .int .i64 a0_1, .int .i64 a0_2, .int .i64 a0_3, .bool a0_4] 88 (0, 0))) ∧ Aside0 (Below w.heap.size w wc))
         case first =>
          have H := HC17.out; clear HC17; by_cases c18 : x3_7 = true
          ·subst c18; rw [if_pos rfl] at H; have H' := A_ H; clear H
           go_wp2
           go_meet
           case rel => exact ⟨_, (false), (sx_), H', ⟨by have := HJ1.out; have := HJ7.out; have := HJ11.out; first | omega | exact Nat.le_refl _⟩, ⟨bx_ BK444⟩, ⟨bl1_ HB GE444.out⟩⟩
          ·replace c18 := Bool.eq_false_iff.mpr c18; subst c18; rw [if_neg (show ¬ (false = true) by decide)] at H; have H' := A_ H; clear H; have hcz19_0 := cz_ BK444 0; have hcz19_1 := cz_ BK444 1; have hcz19_2 := cz_ BK444 2; have hcz19_3 := cz_ BK444 3; have hcz19_4 := cz_ BK444 4; have hfz19_0 := fz_ BK444 0; have hfz19_1 := fz_ BK444 1; have hfz19_2 := fz_ BK444 2; have hfz19_3 := fz_ BK444 3; have hfz19_4 := fz_ BK444 4
           go_wp2
           go_meet
           case rel => exact ⟨_, ((a0_2 != 0)), (sx_), H', ⟨by have := HJ1.out; have := HJ7.out; have := HJ11.out; first | omega | exact Nat.le_refl _⟩, ⟨bx_ BK444⟩, ⟨bl1_ HB GE444.out⟩⟩
         case rest =>
          clear HC17; try clear c1
          try clear p2
          try clear c4
          try clear c4b0
          try clear c7
          try clear c9
          try clear c9b0
          try clear c9b1
          try clear c11
          try clear c13
          try clear c13b0
          try clear c16
          try clear c18
          try clear hcz10_0 hcz10_1 hcz10_2 hcz10_3 hcz10_4
          try clear hcz11_0 hcz11_1 hcz11_2 hcz11_3 hcz11_4
          try clear hcz14_0 hcz14_1 hcz14_2 hcz14_3 hcz14_4
          try clear hcz15_0 hcz15_1 hcz15_2 hcz15_3 hcz15_4
          try clear hcz19_0 hcz19_1 hcz19_2 hcz19_3 hcz19_4
          try clear hcz5_0 hcz5_1 hcz5_2 hcz5_3 hcz5_4
          try clear hcz6_0 hcz6_1 hcz6_2 hcz6_3 hcz6_4
          try clear hfz10_0 hfz10_1 hfz10_2 hfz10_3 hfz10_4
          try clear hfz11_0 hfz11_1 hfz11_2 hfz11_3 hfz11_4
          try clear hfz14_0 hfz14_1 hfz14_2 hfz14_3 hfz14_4
          try clear hfz15_0 hfz15_1 hfz15_2 hfz15_3 hfz15_4
          try clear hfz19_0 hfz19_1 hfz19_2 hfz19_3 hfz19_4
          try clear hfz5_0 hfz5_1 hfz5_2 hfz5_3 hfz5_4
          try clear hfz6_0 hfz6_1 hfz6_2 hfz6_3 hfz6_4
          try clear p2
          obtain ⟨kq, x29_16, rfl, HA, HJ16, BK444, HB⟩ := hcut
          cases kq with
          | zero => exact absurd HA.out (by simp [code_Check.j3])
          | succ kj16 =>
           have H := HA.out; clear HA; simp only [code_Check.j3] at H; have HC20 := A_ H; clear H
           go_upto_if 29 with (fail)
           go_cut [29] (fun v29 wc => ∃ (kq : Nat) (x29_19 : Bool), v29 = .bool x29_19 ∧ Aside0 (code_Check.j4 kq x29_19 a0_0 a0_1 a0_2 a0_3 a0_4 = some r) ∧ Aside0 (kq ≤ kj16) ∧ Aside0 (wc.heap[gb444]? = some (.cells #[.int .i64 a0_0, .int .i64 a0_1, .int .i64 a0_2, .int .i64 a0_3, .bool a0_4] 88 (0, 0))) ∧ Aside0 (Below w.heap.size w wc))
           case first =>
            have H := HC20.out; clear HC20; by_cases c21 : x29_16 = true
            ·subst c21; rw [if_pos rfl] at H; have H' := A_ H; clear H
             go_wp2
             go_meet
             case rel => exact ⟨_, (true), (sx_), H', ⟨by have := HJ1.out; have := HJ7.out; have := HJ11.out; have := HJ16.out; first | omega | exact Nat.le_refl _⟩, ⟨bx_ BK444⟩, ⟨bl1_ HB GE444.out⟩⟩
            ·replace c21 := Bool.eq_false_iff.mpr c21; subst c21; rw [if_neg (show ¬ (false = true) by decide)] at H; by_cases c22 : a0_2 < 0
             ·rw [if_pos c22] at H; have c22b0 := decide_eq_true c22; clear c22
              (first | rw [c22b0] | (simp only [i64_w, i32_w]; rw [c22b0]) | skip)
              have H' := A_ H; clear H; have hcz23_0 := cz_ BK444 0; have hcz23_1 := cz_ BK444 1; have hcz23_2 := cz_ BK444 2; have hcz23_3 := cz_ BK444 3; have hcz23_4 := cz_ BK444 4; have hfz23_0 := fz_ BK444 0; have hfz23_1 := fz_ BK444 1; have hfz23_2 := fz_ BK444 2; have hfz23_3 := fz_ BK444 3; have hfz23_4 := fz_ BK444 4
              go_wp2
              go_meet
              case rel => exact ⟨_, (decide (a0_2 < 0)), (sx_), H', ⟨by have := HJ1.out; have := HJ7.out; have := HJ11.out; have := HJ16.out; first | omega | exact Nat.le_refl _⟩, ⟨bx_ BK444⟩, ⟨bl1_ HB GE444.out⟩⟩
             ·rw [if_neg c22] at H; have c22b0 := decide_eq_false c22; clear c22
              (first | rw [c22b0] | (simp only [i64_w, i32_w]; rw [c22b0]) | skip)
              by_cases c24 : a0_2 > 999999000
              ·rw [if_pos c24] at H; have c24b0 : decide (999999000 < a0_2) = true := decide_eq_true c24; clear c24; have H' := A_ H; clear H; have hcz25_0 := cz_ BK444 0; have hcz25_1 := cz_ BK444 1; have hcz25_2 := cz_ BK444 2; have hcz25_3 := cz_ BK444 3; have hcz25_4 := cz_ BK444 4; have hfz25_0 := fz_ BK444 0; have hfz25_1 := fz_ BK444 1; have hfz25_2 := fz_ BK444 2; have hfz25_3 := fz_ BK444 3; have hfz25_4 := fz_ BK444 4
               go_wp2
               go_meet
               case rel => exact ⟨_, (decide (a0_2 > 999999000)), (sx_), H', ⟨by have := HJ1.out; have := HJ7.out; have := HJ11.out; have := HJ16.out; first | omega | exact Nat.le_refl _⟩, ⟨bx_ BK444⟩, ⟨bl1_ HB GE444.out⟩⟩
              ·rw [if_neg c24] at H; have c24b0 : decide (999999000 < a0_2) = false := decide_eq_false c24; clear c24; have H' := A_ H; clear H; have hcz26_0 := cz_ BK444 0; have hcz26_1 := cz_ BK444 1; have hcz26_2 := cz_ BK444 2; have hcz26_3 := cz_ BK444 3; have hcz26_4 := cz_ BK444 4; have hfz26_0 := fz_ BK444 0; have hfz26_1 := fz_ BK444 1; have hfz26_2 := fz_ BK444 2; have hfz26_3 := fz_ BK444 3; have hfz26_4 := fz_ BK444 4
               go_wp2
               go_meet
               case rel => exact ⟨_, (((Int.tmod a0_2 1000) != 0)), (sx_), H', ⟨by have := HJ1.out; have := HJ7.out; have := HJ11.out; have := HJ16.out; first | omega | exact Nat.le_refl _⟩, ⟨bx_ BK444⟩, ⟨bl1_ HB GE444.out⟩⟩
           case rest =>
            clear HC20; try clear c1
            try clear c2
            try clear p2
            try clear c4
            try clear c4b0
            try clear c7
            try clear c9
            try clear c9b0
            try clear c9b1
            try clear c11
            try clear c13
            try clear c13b0
            try clear c16
            try clear c18
            try clear c21
            try clear c22
            try clear c22b0
            try clear c24
            try clear c24b0
            try clear hcz10_0 hcz10_1 hcz10_2 hcz10_3 hcz10_4
            try clear hcz11_0 hcz11_1 hcz11_2 hcz11_3 hcz11_4
            try clear hcz14_0 hcz14_1 hcz14_2 hcz14_3 hcz14_4
            try clear hcz15_0 hcz15_1 hcz15_2 hcz15_3 hcz15_4
            try clear hcz19_0 hcz19_1 hcz19_2 hcz19_3 hcz19_4
            try clear hcz23_0 hcz23_1 hcz23_2 hcz23_3 hcz23_4
            try clear hcz25_0 hcz25_1 hcz25_2 hcz25_3 hcz25_4
            try clear hcz26_0 hcz26_1 hcz26_2 hcz26_3 hcz26_4
            try clear hcz5_0 hcz5_1 hcz5_2 hcz5_3 hcz5_4
            try clear hcz6_0 hcz6_1 hcz6_2 hcz6_3 hcz6_4
            try clear hfz10_0 hfz10_1 hfz10_2 hfz10_3 hfz10_4
            try clear hfz11_0 hfz11_1 hfz11_2 hfz11_3 hfz11_4
            try clear hfz14_0 hfz14_1 hfz14_2 hfz14_3 hfz14_4
            try clear hfz15_0 hfz15_1 hfz15_2 hfz15_3 hfz15_4
            try clear hfz19_0 hfz19_1 hfz19_2 hfz19_3 hfz19_4
            try clear hfz23_0 hfz23_1 hfz23_2 hfz23_3 hfz23_4
            try clear hfz25_0 hfz25_1 hfz25_2 hfz25_3 hfz25_4
            try clear hfz26_0 hfz26_1 hfz26_2 hfz26_3 hfz26_4
            try clear hfz5_0 hfz5_1 hfz5_2 hfz5_3 hfz5_4
            try clear hfz6_0 hfz6_1 hfz6_2 hfz6_3 hfz6_4
            try clear p2
            obtain ⟨kq, x29_19, rfl, HA, HJ19, BK444, HB⟩ := hcut
            cases kq with
            | zero => exact absurd HA.out (by simp [code_Check.j4])
            | succ kj19 =>
             have H := HA.out; clear HA; simp only [code_Check.j4] at H; by_cases c27 : x29_19 = true
             ·subst c27; rw [if_pos rfl] at H; obtain rfl := Option.some.inj H
              go_wp2
              go_ret
              exact ⟨er_, bl1_ HB GE444.out⟩
             ·replace c27 := Bool.eq_false_iff.mpr c27; subst c27; rw [if_neg (show ¬ (false = true) by decide)] at H; have HC28 := A_ H; clear H; go_upto_region 11 with (fail)
              go_cut [47] (fun v47 wc => ∃ (kq : Nat) (x47_27 : Bool), v47 = .bool x47_27 ∧ Aside0 (code_Check.j5 kq x47_27 a0_0 a0_1 a0_2 a0_3 a0_4 = some r) ∧ Aside0 (kq ≤ kj19) ∧ Aside0 (wc.heap[gb444]? = some (.cells #[.int .i64 a0_0, .int .i64 a0_1, .int .i64 a0_2, .int .i64 a0_3, .bool a0_4] 88 (0, 0))) ∧ Aside0 (Below w.heap.size w wc))
              case first =>
               have H := HC28.out; clear HC28; by_cases c29 : a0_1 = 2
               ·rw [if_pos c29] at H; have c29b0 : (a0_1 == 2) = true := beq_iff_eq.mpr c29; have c29b1 : (a0_1 != 2) = false := bne_eq_false_iff_eq.mpr c29; clear c29
                (first | rw [c29b0] | (simp only [i64_w, i32_w]; rw [c29b0]) | skip)
                have H' := A_ H; clear H; have hcz30_0 := cz_ BK444 0; have hcz30_1 := cz_ BK444 1; have hcz30_2 := cz_ BK444 2; have hcz30_3 := cz_ BK444 3; have hcz30_4 := cz_ BK444 4; have hfz30_0 := fz_ BK444 0; have hfz30_1 := fz_ BK444 1; have hfz30_2 := fz_ BK444 2; have hfz30_3 := fz_ BK444 3; have hfz30_4 := fz_ BK444 4
                go_wp2
                go_meet
                case rel => exact ⟨_, ((a0_2 == 0)), (sx_), H', ⟨by have := HJ1.out; have := HJ7.out; have := HJ11.out; have := HJ16.out; have := HJ19.out; first | omega | exact Nat.le_refl _⟩, ⟨bx_ BK444⟩, ⟨bl1_ HB GE444.out⟩⟩
               ·rw [if_neg c29] at H; have c29b0 : (a0_1 == 2) = false := beq_eq_false_iff_ne.mpr c29; have c29b1 : (a0_1 != 2) = true := bne_iff_ne.mpr c29
                (first | rw [c29b0] | (simp only [i64_w, i32_w]; rw [c29b0]) | skip)
                have H' := A_ H; clear H; have hcz31_0 := cz_ BK444 0; have hcz31_1 := cz_ BK444 1; have hcz31_2 := cz_ BK444 2; have hcz31_3 := cz_ BK444 3; have hcz31_4 := cz_ BK444 4; have hfz31_0 := fz_ BK444 0; have hfz31_1 := fz_ BK444 1; have hfz31_2 := fz_ BK444 2; have hfz31_3 := fz_ BK444 3; have hfz31_4 := fz_ BK444 4
                go_wp2
                go_meet
                case rel => exact ⟨_, (false), (sx_), H', ⟨by have := HJ1.out; have := HJ7.out; have := HJ11.out; have := HJ16.out; have := HJ19.out; first | omega | exact Nat.le_refl _⟩, ⟨bx_ BK444⟩, ⟨bl1_ HB GE444.out⟩⟩
              case rest =>
               clear HC28; try clear c1
               try clear c2
               try clear p2
               try clear c4
               try clear c4b0
               try clear c7
               try clear c9
               try clear c9b0
               try clear c9b1
               try clear c11
               try clear c13
               try clear c13b0
               try clear c16
               try clear c18
               try clear c21
               try clear c22
               try clear c22b0
               try clear c24
               try clear c24b0
               try clear c27
               try clear c29
               try clear c29b0
               try clear c29b1
               try clear hcz10_0 hcz10_1 hcz10_2 hcz10_3 hcz10_4
               try clear hcz11_0 hcz11_1 hcz11_2 hcz11_3 hcz11_4
               try clear hcz14_0 hcz14_1 hcz14_2 hcz14_3 hcz14_4
               try clear hcz15_0 hcz15_1 hcz15_2 hcz15_3 hcz15_4
               try clear hcz19_0 hcz19_1 hcz19_2 hcz19_3 hcz19_4
               try clear hcz23_0 hcz23_1 hcz23_2 hcz23_3 hcz23_4
               try clear hcz25_0 hcz25_1 hcz25_2 hcz25_3 hcz25_4
               try clear hcz26_0 hcz26_1 hcz26_2 hcz26_3 hcz26_4
               try clear hcz30_0 hcz30_1 hcz30_2 hcz30_3 hcz30_4
               try clear hcz31_0 hcz31_1 hcz31_2 hcz31_3 hcz31_4
               try clear hcz5_0 hcz5_1 hcz5_2 hcz5_3 hcz5_4
               try clear hcz6_0 hcz6_1 hcz6_2 hcz6_3 hcz6_4
               try clear hfz10_0 hfz10_1 hfz10_2 hfz10_3 hfz10_4
               try clear hfz11_0 hfz11_1 hfz11_2 hfz11_3 hfz11_4
               try clear hfz14_0 hfz14_1 hfz14_2 hfz14_3 hfz14_4
               try clear hfz15_0 hfz15_1 hfz15_2 hfz15_3 hfz15_4
               try clear hfz19_0 hfz19_1 hfz19_2 hfz19_3 hfz19_4
               try clear hfz23_0 hfz23_1 hfz23_2 hfz23_3 hfz23_4
               try clear hfz25_0 hfz25_1 hfz25_2 hfz25_3 hfz25_4
               try clear hfz26_0 hfz26_1 hfz26_2 hfz26_3 hfz26_4
               try clear hfz30_0 hfz30_1 hfz30_2 hfz30_3 hfz30_4
               try clear hfz31_0 hfz31_1 hfz31_2 hfz31_3 hfz31_4
               try clear hfz5_0 hfz5_1 hfz5_2 hfz5_3 hfz5_4
               try clear hfz6_0 hfz6_1 hfz6_2 hfz6_3 hfz6_4
               try clear p2
               obtain ⟨kq, x47_27, rfl, HA, HJ27, BK444, HB⟩ := hcut
               cases kq with
               | zero => exact absurd HA.out (by simp [code_Check.j5])
               | succ kj27 =>
                have H := HA.out; clear HA; simp only [code_Check.j5] at H; by_cases c32 : x47_27 = true
                ·subst c32; rw [if_pos rfl] at H; obtain rfl := Option.some.inj H
                 go_wp2
                 go_ret
                 exact ⟨er_, bl1_ HB GE444.out⟩
                ·replace c32 := Bool.eq_false_iff.mpr c32; subst c32; rw [if_neg (show ¬ (false = true) by decide)] at H; have HC33 := A_ H; clear H; go_upto_region 13 with (fail)
                 go_cut [56] (fun v56 wc => ∃ (kq : Nat) (x56_32 : Bool), v56 = .bool x56_32 ∧ Aside0 (code_Check.j6 kq x56_32 a0_0 a0_1 a0_2 a0_3 a0_4 = some r) ∧ Aside0 (kq ≤ kj27) ∧ Aside0 (wc.heap[gb444]? = some (.cells #[.int .i64 a0_0, .int .i64 a0_1, .int .i64 a0_2, .int .i64 a0_3, .bool a0_4] 88 (0, 0))) ∧ Aside0 (Below w.heap.size w wc))
                 case first =>
                  have H := HC33.out; clear HC33; by_cases c34 : a0_1 = 3
                  ·rw [if_pos c34] at H; have c34b0 : (a0_1 == 3) = true := beq_iff_eq.mpr c34; have c34b1 : (a0_1 != 3) = false := bne_eq_false_iff_eq.mpr c34; clear c34
                   (first | rw [c34b0] | (simp only [i64_w, i32_w]; rw [c34b0]) | skip)
                   have H' := A_ H; clear H; have hcz35_0 := cz_ BK444 0; have hcz35_1 := cz_ BK444 1; have hcz35_2 := cz_ BK444 2; have hcz35_3 := cz_ BK444 3; have hcz35_4 := cz_ BK444 4; have hfz35_0 := fz_ BK444 0; have hfz35_1 := fz_ BK444 1; have hfz35_2 := fz_ BK444 2; have hfz35_3 := fz_ BK444 3; have hfz35_4 := fz_ BK444 4
                   go_wp2
                   go_meet
                   case rel => exact ⟨_, (false), (sx_), H', ⟨by have := HJ1.out; have := HJ7.out; have := HJ11.out; have := HJ16.out; have := HJ19.out; have := HJ27.out; first | omega | exact Nat.le_refl _⟩, ⟨bx_ BK444⟩, ⟨bl1_ HB GE444.out⟩⟩
                  ·rw [if_neg c34] at H; have c34b0 : (a0_1 == 3) = false := beq_eq_false_iff_ne.mpr c34; have c34b1 : (a0_1 != 3) = true := bne_iff_ne.mpr c34
                   (first | rw [c34b0] | (simp only [i64_w, i32_w]; rw [c34b0]) | skip)
                   have H' := A_ H; clear H; have hcz36_0 := cz_ BK444 0; have hcz36_1 := cz_ BK444 1; have hcz36_2 := cz_ BK444 2; have hcz36_3 := cz_ BK444 3; have hcz36_4 := cz_ BK444 4; have hfz36_0 := fz_ BK444 0; have hfz36_1 := fz_ BK444 1; have hfz36_2 := fz_ BK444 2; have hfz36_3 := fz_ BK444 3; have hfz36_4 := fz_ BK444 4
                   go_wp2
                   go_meet
                   case rel => exact ⟨_, ((a0_3 != 0)), (sx_), H', ⟨by have := HJ1.out; have := HJ7.out; have := HJ11.out; have := HJ16.out; have := HJ19.out; have := HJ27.out; first | omega | exact Nat.le_refl _⟩, ⟨bx_ BK444⟩, ⟨bl1_ HB GE444.out⟩⟩
                 case rest =>
                  clear HC33; try clear c1
                  try clear c2
                  try clear p2
                  try clear c3
                  try clear c4
                  try clear c4b0
                  try clear c7
                  try clear c9
                  try clear c9b0
                  try clear c9b1
                  try clear c11
                  try clear c13
                  try clear c13b0
                  try clear c16
                  try clear c18
                  try clear c21
                  try clear c22
                  try clear c22b0
                  try clear c24
                  try clear c24b0
                  try clear c27
                  try clear c29
                  try clear c29b0
                  try clear c29b1
                  try clear c32
                  try clear c34
                  try clear c34b0
                  try clear c34b1
                  try clear hcz10_0 hcz10_1 hcz10_2 hcz10_3 hcz10_4
                  try clear hcz11_0 hcz11_1 hcz11_2 hcz11_3 hcz11_4
                  try clear hcz14_0 hcz14_1 hcz14_2 hcz14_3 hcz14_4
                  try clear hcz15_0 hcz15_1 hcz15_2 hcz15_3 hcz15_4
                  try clear hcz19_0 hcz19_1 hcz19_2 hcz19_3 hcz19_4
                  try clear hcz23_0 hcz23_1 hcz23_2 hcz23_3 hcz23_4
                  try clear hcz25_0 hcz25_1 hcz25_2 hcz25_3 hcz25_4
                  try clear hcz26_0 hcz26_1 hcz26_2 hcz26_3 hcz26_4
                  try clear hcz30_0 hcz30_1 hcz30_2 hcz30_3 hcz30_4
                  try clear hcz31_0 hcz31_1 hcz31_2 hcz31_3 hcz31_4
                  try clear hcz35_0 hcz35_1 hcz35_2 hcz35_3 hcz35_4
                  try clear hcz36_0 hcz36_1 hcz36_2 hcz36_3 hcz36_4
                  try clear hcz5_0 hcz5_1 hcz5_2 hcz5_3 hcz5_4
                  try clear hcz6_0 hcz6_1 hcz6_2 hcz6_3 hcz6_4
                  try clear hfz10_0 hfz10_1 hfz10_2 hfz10_3 hfz10_4
                  try clear hfz11_0 hfz11_1 hfz11_2 hfz11_3 hfz11_4
                  try clear hfz14_0 hfz14_1 hfz14_2 hfz14_3 hfz14_4
                  try clear hfz15_0 hfz15_1 hfz15_2 hfz15_3 hfz15_4
                  try clear hfz19_0 hfz19_1 hfz19_2 hfz19_3 hfz19_4
                  try clear hfz23_0 hfz23_1 hfz23_2 hfz23_3 hfz23_4
                  try clear hfz25_0 hfz25_1 hfz25_2 hfz25_3 hfz25_4
                  try clear hfz26_0 hfz26_1 hfz26_2 hfz26_3 hfz26_4
                  try clear hfz30_0 hfz30_1 hfz30_2 hfz30_3 hfz30_4
                  try clear hfz31_0 hfz31_1 hfz31_2 hfz31_3 hfz31_4
                  try clear hfz35_0 hfz35_1 hfz35_2 hfz35_3 hfz35_4
                  try clear hfz36_0 hfz36_1 hfz36_2 hfz36_3 hfz36_4
                  try clear hfz5_0 hfz5_1 hfz5_2 hfz5_3 hfz5_4
                  try clear hfz6_0 hfz6_1 hfz6_2 hfz6_3 hfz6_4
                  try clear p2
                  obtain ⟨kq, x56_32, rfl, HA, HJ32, BK444, HB⟩ := hcut
                  cases kq with
                  | zero => exact absurd HA.out (by simp [code_Check.j6])
                  | succ kj32 =>
                   have H := HA.out; clear HA; simp only [code_Check.j6] at H; have HC37 := A_ H; clear H
                   go_upto_if 56 with (fail)
                   go_cut [56] (fun v56 wc => ∃ (kq : Nat) (x56_36 : Bool), v56 = .bool x56_36 ∧ Aside0 (code_Check.j7 kq x56_36 = some r) ∧ Aside0 (kq ≤ kj32) ∧ Aside0 (wc.heap[gb444]? = some (.cells #[.int .i64 a0_0, .int .i64 a0_1, .int .i64 a0_2, .int .i64 a0_3, .bool a0_4] 88 (0, 0))) ∧ Aside0 (Below w.heap.size w wc))
                   case first =>
                    have H := HC37.out; clear HC37; by_cases c38 : x56_32 = true
                    ·subst c38; rw [if_pos rfl] at H; have H' := A_ H; clear H
                     go_wp2
                     go_meet
                     case rel => exact ⟨_, (true), (sx_), H', ⟨by have := HJ1.out; have := HJ7.out; have := HJ11.out; have := HJ16.out; have := HJ19.out; have := HJ27.out; have := HJ32.out; first | omega | exact Nat.le_refl _⟩, ⟨bx_ BK444⟩, ⟨bl1_ HB GE444.out⟩⟩
                    ·replace c38 := Bool.eq_false_iff.mpr c38; subst c38; rw [if_neg (show ¬ (false = true) by decide)] at H; by_cases c39 : a0_3 < 0
                     ·rw [if_pos c39] at H; have c39b0 := decide_eq_true c39; clear c39
                      (first | rw [c39b0] | (simp only [i64_w, i32_w]; rw [c39b0]) | skip)
                      have H' := A_ H; clear H; have hcz40_0 := cz_ BK444 0; have hcz40_1 := cz_ BK444 1; have hcz40_2 := cz_ BK444 2; have hcz40_3 := cz_ BK444 3; have hcz40_4 := cz_ BK444 4; have hfz40_0 := fz_ BK444 0; have hfz40_1 := fz_ BK444 1; have hfz40_2 := fz_ BK444 2; have hfz40_3 := fz_ BK444 3; have hfz40_4 := fz_ BK444 4
                      go_wp2
                      go_meet
                      case rel => exact ⟨_, (decide (a0_3 < 0)), (sx_), H', ⟨by have := HJ1.out; have := HJ7.out; have := HJ11.out; have := HJ16.out; have := HJ19.out; have := HJ27.out; have := HJ32.out; first | omega | exact Nat.le_refl _⟩, ⟨bx_ BK444⟩, ⟨bl1_ HB GE444.out⟩⟩
                     ·rw [if_neg c39] at H; have c39b0 := decide_eq_false c39; clear c39
                      (first | rw [c39b0] | (simp only [i64_w, i32_w]; rw [c39b0]) | skip)
                      have H' := A_ H; clear H; have hcz41_0 := cz_ BK444 0; have hcz41_1 := cz_ BK444 1; have hcz41_2 := cz_ BK444 2; have hcz41_3 := cz_ BK444 3; have hcz41_4 := cz_ BK444 4; have hfz41_0 := fz_ BK444 0; have hfz41_1 := fz_ BK444 1; have hfz41_2 := fz_ BK444 2; have hfz41_3 := fz_ BK444 3; have hfz41_4 := fz_ BK444 4
                      go_wp2
                      go_meet
                      case rel => exact ⟨_, (decide (a0_3 > 7)), (sx_), H', ⟨by have := HJ1.out; have := HJ7.out; have := HJ11.out; have := HJ16.out; have := HJ19.out; have := HJ27.out; have := HJ32.out; first | omega | exact Nat.le_refl _⟩, ⟨bx_ BK444⟩, ⟨bl1_ HB GE444.out⟩⟩
                   case rest =>
                    clear HC37; try clear c1
                    try clear c2
                    try clear p2
                    try clear c3
                    try clear c4
                    try clear c4b0
                    try clear c7
                    try clear c9
                    try clear c9b0
                    try clear c9b1
                    try clear c11
                    try clear c13
                    try clear c13b0
                    try clear c16
                    try clear c18
                    try clear c21
                    try clear c22
                    try clear c22b0
                    try clear c24
                    try clear c24b0
                    try clear c27
                    try clear c29
                    try clear c29b0
                    try clear c29b1
                    try clear c32
                    try clear c34
                    try clear c34b0
                    try clear c34b1
                    try clear c38
                    try clear c39
                    try clear c39b0
                    try clear hcz10_0 hcz10_1 hcz10_2 hcz10_3 hcz10_4
                    try clear hcz11_0 hcz11_1 hcz11_2 hcz11_3 hcz11_4
                    try clear hcz14_0 hcz14_1 hcz14_2 hcz14_3 hcz14_4
                    try clear hcz15_0 hcz15_1 hcz15_2 hcz15_3 hcz15_4
                    try clear hcz19_0 hcz19_1 hcz19_2 hcz19_3 hcz19_4
                    try clear hcz23_0 hcz23_1 hcz23_2 hcz23_3 hcz23_4
                    try clear hcz25_0 hcz25_1 hcz25_2 hcz25_3 hcz25_4
                    try clear hcz26_0 hcz26_1 hcz26_2 hcz26_3 hcz26_4
                    try clear hcz30_0 hcz30_1 hcz30_2 hcz30_3 hcz30_4
                    try clear hcz31_0 hcz31_1 hcz31_2 hcz31_3 hcz31_4
                    try clear hcz35_0 hcz35_1 hcz35_2 hcz35_3 hcz35_4
                    try clear hcz36_0 hcz36_1 hcz36_2 hcz36_3 hcz36_4
                    try clear hcz40_0 hcz40_1 hcz40_2 hcz40_3 hcz40_4
                    try clear hcz41_0 hcz41_1 hcz41_2 hcz41_3 hcz41_4
                    try clear hcz5_0 hcz5_1 hcz5_2 hcz5_3 hcz5_4
                    try clear hcz6_0 hcz6_1 hcz6_2 hcz6_3 hcz6_4
                    try clear hfz10_0 hfz10_1 hfz10_2 hfz10_3 hfz10_4
                    try clear hfz11_0 hfz11_1 hfz11_2 hfz11_3 hfz11_4
                    try clear hfz14_0 hfz14_1 hfz14_2 hfz14_3 hfz14_4
                    try clear hfz15_0 hfz15_1 hfz15_2 hfz15_3 hfz15_4
                    try clear hfz19_0 hfz19_1 hfz19_2 hfz19_3 hfz19_4
                    try clear hfz23_0 hfz23_1 hfz23_2 hfz23_3 hfz23_4
                    try clear hfz25_0 hfz25_1 hfz25_2 hfz25_3 hfz25_4
                    try clear hfz26_0 hfz26_1 hfz26_2 hfz26_3 hfz26_4
                    try clear hfz30_0 hfz30_1 hfz30_2 hfz30_3 hfz30_4
                    try clear hfz31_0 hfz31_1 hfz31_2 hfz31_3 hfz31_4
                    try clear hfz35_0 hfz35_1 hfz35_2 hfz35_3 hfz35_4
                    try clear hfz36_0 hfz36_1 hfz36_2 hfz36_3 hfz36_4
                    try clear hfz40_0 hfz40_1 hfz40_2 hfz40_3 hfz40_4
                    try clear hfz41_0 hfz41_1 hfz41_2 hfz41_3 hfz41_4
                    try clear hfz5_0 hfz5_1 hfz5_2 hfz5_3 hfz5_4
                    try clear hfz6_0 hfz6_1 hfz6_2 hfz6_3 hfz6_4
                    try clear p2
                    obtain ⟨kq, x56_36, rfl, HA, HJ36, BK444, HB⟩ := hcut
                    cases kq with
                    | zero => exact absurd HA.out (by simp [code_Check.j7])
                    | succ kj36 =>
                     have H := HA.out; clear HA; simp only [code_Check.j7] at H; by_cases c42 : x56_36 = true
                     ·subst c42; rw [if_pos rfl] at H; obtain rfl := Option.some.inj H
                      go_wp2
                      go_ret
                      exact ⟨er_, bl1_ HB GE444.out⟩
                     ·replace c42 := Bool.eq_false_iff.mpr c42; subst c42; rw [if_neg (show ¬ (false = true) by decide)] at H; obtain rfl := Option.some.inj H
                      go_wp2
                      go_ret
                      exact ⟨er_, bl1_ HB GE444.out⟩
def code_Free.j0 : Nat → Int → Int → Bool → Int → Int → Int → Int → Bool → Option (Int × Int)
 | 0, _, _, _, _, _, _, _, _ => none
 | k + 1, x1, x2, x30, x452000, x452001, x452002, x452003, x452004 => if x30 = true then (some (0, 1)) else ((frac_Scale.f k x452002 x1 x2).bind fun bt453 => (if x452001 = 2 then (some (wrap64 (-bt453.1), bt453.2)) else (some (bt453.1, bt453.2))))
def code_Free.f (k : Nat) (a0_0 : Int) (a0_1 : Int) (a0_2 : Int) (a0_3 : Int) (a0_4 : Bool) (a1 : Int) (a2 : Int) : Option (Int × Int) := (code_Check.f k a0_0 a0_1 a0_2 a0_3 a0_4).bind fun t452 => (if t452 = 0 then (if a1 < 0 then (code_Free.j0 k a1 a2 true a0_0 a0_1 a0_2 a0_3 a0_4) else (if a2 < 1 then (code_Free.j0 k a1 a2 true a0_0 a0_1 a0_2 a0_3 a0_4) else (if a1 > a2 then (code_Free.j0 k a1 a2 true a0_0 a0_1 a0_2 a0_3 a0_4) else (code_Free.j0 k a1 a2 (decide (a2 > 1048576)) a0_0 a0_1 a0_2 a0_3 a0_4)))) else (some (0, t452)))
set_option maxHeartbeats 8000000 in
set_option maxRecDepth 100000 in
theorem code_Free.calls (k : Nat) (a0_0 : Int) (a0_1 : Int) (a0_2 : Int) (a0_3 : Int) (a0_4 : Bool) (a1 : Int) (a2 : Int) (r1 : Int) (r2 : Int) (w : World) (h : code_Free.f k a0_0 a0_1 a0_2 a0_3 a0_4 a1 a2 = some (r1, r2)) :
  Calls Try.prog 130 #[.agg #[.int .i64 a0_0, .int .i64 a0_1, .int .i64 a0_2, .int .i64 a0_3, .bool a0_4], .int .i64 a1, .int .i64 a2] w fun e w' => e = .returned (.tuple #[.int .i64 r1, .int .i64 r2]) ∧ Below w.heap.size w w' := by
 have hu88 := Try.underlying88; have HB := A_ (Below.refl w.heap.size w); unfold code_Free.f at h; have H := h; clear h; replace H := Option.bind_eq_some_iff.mp H; obtain ⟨t452, A40, H⟩ := H; (try dsimp only at H); have A4 := A_ A40; clear A40; by_cases c5 : t452 = 0
 ·rw [if_pos c5] at H; have c5b0 : (t452 == 0) = true := beq_iff_eq.mpr c5; have c5b1 : (t452 != 0) = false := bne_eq_false_iff_eq.mpr c5; clear c5; have HC6 := A_ H; clear H; go_enter Try.func130, Try.ntmps130
  go_upto_region 4 with (first | ((with_reducible refine gate_dst (N := 3) rfl ?_); refine be_ (N := 3) (cs := #[.int .i64 a0_0, .int .i64 a0_1, .int .i64 a0_2, .int .i64 a0_3, .bool a0_4]) (t := 88) ?_; intro gb451 hg w7 hbox hb; have BK451 := A_ (hbox); have GW451 := A_ ((by rw [hg]; exact (below_size (bl_ HB)) : w.heap.size ≤ gb451)); have GE451 := A_ ((by rw [hg]; exact (below_size (bl_ HB)) : w.heap.size ≤ gb451)); replace HB := A_ (below_step (bl_ HB) hb); clear hb hbox hg; have hcz8_0 := cz_ BK451 0; have hcz8_1 := cz_ BK451 1; have hcz8_2 := cz_ BK451 2; have hcz8_3 := cz_ BK451 3; have hcz8_4 := cz_ BK451 4; have hfz8_0 := fz_ BK451 0; have hfz8_1 := fz_ BK451 1; have hfz8_2 := fz_ BK451 2; have hfz8_3 := fz_ BK451 3; have hfz8_4 := fz_ BK451 4) | ((with_reducible refine gate_callee (f := 116) rfl ?_); refine gm_ (some 12) Try.func116 #[.agg #[.int .i64 a0_0, .int .i64 a0_1, .int .i64 a0_2, .int .i64 a0_3, .bool a0_4]] ?_; (with_reducible refine (code_Check.calls k a0_0 a0_1 a0_2 a0_3 a0_4 t452 _ A4.out).mono ?_); rintro e w9 ⟨rfl, hb⟩; refine ⟨_, rfl, ?_⟩; replace BK451 := A_ (blk_below (bx_ BK451) hb); replace HB := A_ (below_step (bl1_ HB GE451.out) hb); (try clear hb); (try clear hb2); (try clear hk); (try clear hi)))
  (try simp only [Act.put, List.setIfInBounds_toArray, List.set_cons_zero, List.set_cons_succ])
  go_cut [30] (fun v30 wc => ∃ (kq : Nat) (x30_5 : Bool), v30 = .bool x30_5 ∧ Aside0 (code_Free.j0 kq a1 a2 x30_5 a0_0 a0_1 a0_2 a0_3 a0_4 = some (r1, r2)) ∧ Aside0 (kq ≤ k) ∧ Aside0 (wc.heap[gb451]? = some (.cells #[.int .i64 a0_0, .int .i64 a0_1, .int .i64 a0_2, .int .i64 a0_3, .bool a0_4] 88 (0, 0))) ∧ Aside0 (Below w.heap.size w wc))
  case first =>
   have H := HC6.out; clear HC6; by_cases c10 : a1 < 0
   ·rw [if_pos c10] at H; have c10b0 := decide_eq_true c10; clear c10
    (first | rw [c10b0] | (simp only [i64_w, i32_w]; rw [c10b0]) | skip)
    have H' := A_ H; clear H
    go_wp2
    go_meet
    case rel => exact ⟨_, (true), (sx_), H', ⟨by first | omega | exact Nat.le_refl _⟩, ⟨bx_ BK451⟩, ⟨bl1_ HB GE451.out⟩⟩
   ·rw [if_neg c10] at H; have c10b0 := decide_eq_false c10; clear c10
    (first | rw [c10b0] | (simp only [i64_w, i32_w]; rw [c10b0]) | skip)
    by_cases c11 : a2 < 1
    ·rw [if_pos c11] at H; have c11b0 := decide_eq_true c11; clear c11; have H' := A_ H; clear H
     go_wp2
     go_meet
     case rel => exact ⟨_, (true), (sx_), H', ⟨by first | omega | exact Nat.le_refl _⟩, ⟨bx_ BK451⟩, ⟨bl1_ HB GE451.out⟩⟩
    ·rw [if_neg c11] at H; have c11b0 := decide_eq_false c11; clear c11; by_cases c12 : a1 > a2
     ·rw [if_pos c12] at H; have c12b0 : decide (a2 < a1) = true := decide_eq_true c12; clear c12; have H' := A_ H; clear H
      go_wp2
      go_meet
      case rel => exact ⟨_, (true), (sx_), H', ⟨by first | omega | exact Nat.le_refl _⟩, ⟨bx_ BK451⟩, ⟨bl1_ HB GE451.out⟩⟩
     ·rw [if_neg c12] at H; have c12b0 : decide (a2 < a1) = false := decide_eq_false c12; clear c12; have H' := A_ H; clear H
      go_wp2
      go_meet
      case rel => exact ⟨_, (decide (a2 > 1048576)), (sx_), H', ⟨by first | omega | exact Nat.le_refl _⟩, ⟨bx_ BK451⟩, ⟨bl1_ HB GE451.out⟩⟩
  case rest =>
   clear HC6; try clear c1
   try clear p2
   try clear c5
   try clear c5b0
   try clear c5b1
   try clear c10
   try clear c10b0
   try clear c11
   try clear c11b0
   try clear c12
   try clear c12b0
   try clear hcz8_0 hcz8_1 hcz8_2 hcz8_3 hcz8_4
   try clear hfz8_0 hfz8_1 hfz8_2 hfz8_3 hfz8_4
   obtain ⟨kq, x30_5, rfl, HA, HJ5, BK451, HB⟩ := hcut
   cases kq with
   | zero => exact absurd HA.out (by simp [code_Free.j0])
   | succ kj5 =>
    have H := HA.out; clear HA; simp only [code_Free.j0] at H; by_cases c13 : x30_5 = true
    ·subst c13; rw [if_pos rfl] at H; simp only [Option.some.injEq, Prod.mk.injEq] at H; obtain ⟨rfl, rfl⟩ := H
     go_wp2
     go_ret2
     exact ⟨er_, bl1_ HB GE451.out⟩
    ·replace c13 := Bool.eq_false_iff.mpr c13; subst c13; rw [if_neg (show ¬ (false = true) by decide)] at H; replace H := Option.bind_eq_some_iff.mp H; obtain ⟨⟨t453, t454⟩, A140, H⟩ := H; (try dsimp only at H); have A14 := A_ A140; clear A140; by_cases c15 : a0_1 = 2
     ·rw [if_pos c15] at H; have c15b0 : (a0_1 == 2) = true := beq_iff_eq.mpr c15; have c15b1 : (a0_1 != 2) = false := bne_eq_false_iff_eq.mpr c15; clear c15; simp only [Option.some.injEq, Prod.mk.injEq] at H; obtain ⟨rfl, rfl⟩ := H; have hcz16_0 := cz_ BK451 0; have hcz16_1 := cz_ BK451 1; have hcz16_2 := cz_ BK451 2; have hcz16_3 := cz_ BK451 3; have hcz16_4 := cz_ BK451 4; have hfz16_0 := fz_ BK451 0; have hfz16_1 := fz_ BK451 1; have hfz16_2 := fz_ BK451 2; have hfz16_3 := fz_ BK451 3; have hfz16_4 := fz_ BK451 4; go_wp2_with (first | ((with_reducible refine gate_callee (f := 103) rfl ?_); refine gm_ (some 36) Try.func103 #[.int .i64 a0_2, .int .i64 a1, .int .i64 a2] ?_; (with_reducible refine (frac_Scale.calls kj5 a0_2 a1 a2 t453 t454 _ A14.out).mono ?_); rintro e w17 ⟨rfl, hb⟩; refine ⟨_, rfl, ?_⟩; replace BK451 := A_ (blk_below (bx_ BK451) hb); replace HB := A_ (below_step (bl1_ HB GE451.out) hb); (try clear hb); (try clear hb2); (try clear hk); (try clear hi); have hcz18_0 := cz_ BK451 0; have hcz18_1 := cz_ BK451 1; have hcz18_2 := cz_ BK451 2; have hcz18_3 := cz_ BK451 3; have hcz18_4 := cz_ BK451 4; have hfz18_0 := fz_ BK451 0; have hfz18_1 := fz_ BK451 1; have hfz18_2 := fz_ BK451 2; have hfz18_3 := fz_ BK451 3; have hfz18_4 := fz_ BK451 4))
      go_ret2
      exact ⟨er_, bl1_ HB GE451.out⟩
     ·rw [if_neg c15] at H; have c15b0 : (a0_1 == 2) = false := beq_eq_false_iff_ne.mpr c15; have c15b1 : (a0_1 != 2) = true := bne_iff_ne.mpr c15; simp only [Option.some.injEq, Prod.mk.injEq] at H; obtain ⟨rfl, rfl⟩ := H; have hcz19_0 := cz_ BK451 0; have hcz19_1 := cz_ BK451 1; have hcz19_2 := cz_ BK451 2; have hcz19_3 := cz_ BK451 3; have hcz19_4 := cz_ BK451 4; have hfz19_0 := fz_ BK451 0; have hfz19_1 := fz_ BK451 1; have hfz19_2 := fz_ BK451 2; have hfz19_3 := fz_ BK451 3; have hfz19_4 := fz_ BK451 4; go_wp2_with (first | ((with_reducible refine gate_callee (f := 103) rfl ?_); refine gm_ (some 36) Try.func103 #[.int .i64 a0_2, .int .i64 a1, .int .i64 a2] ?_; (with_reducible refine (frac_Scale.calls kj5 a0_2 a1 a2 t453 t454 _ A14.out).mono ?_); rintro e w20 ⟨rfl, hb⟩; refine ⟨_, rfl, ?_⟩; replace BK451 := A_ (blk_below (bx_ BK451) hb); replace HB := A_ (below_step (bl1_ HB GE451.out) hb); (try clear hb); (try clear hb2); (try clear hk); (try clear hi); have hcz21_0 := cz_ BK451 0; have hcz21_1 := cz_ BK451 1; have hcz21_2 := cz_ BK451 2; have hcz21_3 := cz_ BK451 3; have hcz21_4 := cz_ BK451 4; have hfz21_0 := fz_ BK451 0; have hfz21_1 := fz_ BK451 1; have hfz21_2 := fz_ BK451 2; have hfz21_3 := fz_ BK451 3; have hfz21_4 := fz_ BK451 4))
      go_ret2
      exact ⟨er_, bl1_ HB GE451.out⟩
 ·rw [if_neg c5] at H; have c5b0 : (t452 == 0) = false := beq_eq_false_iff_ne.mpr c5; have c5b1 : (t452 != 0) = true := bne_iff_ne.mpr c5; simp only [Option.some.injEq, Prod.mk.injEq] at H; obtain ⟨rfl, rfl⟩ := H; go_enter Try.func130, Try.ntmps130
  go_wp2_with (first | ((with_reducible refine gate_dst (N := 3) rfl ?_); refine be_ (N := 3) (cs := #[.int .i64 a0_0, .int .i64 a0_1, .int .i64 a0_2, .int .i64 a0_3, .bool a0_4]) (t := 88) ?_; intro gb451 hg w22 hbox hb; have BK451 := A_ (hbox); have GW451 := A_ ((by rw [hg]; exact (below_size (bl_ HB)) : w.heap.size ≤ gb451)); have GE451 := A_ ((by rw [hg]; exact (below_size (bl_ HB)) : w.heap.size ≤ gb451)); replace HB := A_ (below_step (bl_ HB) hb); clear hb hbox hg; have hcz23_0 := cz_ BK451 0; have hcz23_1 := cz_ BK451 1; have hcz23_2 := cz_ BK451 2; have hcz23_3 := cz_ BK451 3; have hcz23_4 := cz_ BK451 4; have hfz23_0 := fz_ BK451 0; have hfz23_1 := fz_ BK451 1; have hfz23_2 := fz_ BK451 2; have hfz23_3 := fz_ BK451 3; have hfz23_4 := fz_ BK451 4) | ((with_reducible refine gate_callee (f := 116) rfl ?_); refine gm_ (some 12) Try.func116 #[.agg #[.int .i64 a0_0, .int .i64 a0_1, .int .i64 a0_2, .int .i64 a0_3, .bool a0_4]] ?_; (with_reducible refine (code_Check.calls k a0_0 a0_1 a0_2 a0_3 a0_4 t452 _ A4.out).mono ?_); rintro e w24 ⟨rfl, hb⟩; refine ⟨_, rfl, ?_⟩; replace BK451 := A_ (blk_below (bx_ BK451) hb); replace HB := A_ (below_step (bl1_ HB GE451.out) hb); (try clear hb); (try clear hb2); (try clear hk); (try clear hi)))
  go_ret2
  exact ⟨er_, bl1_ HB GE451.out⟩
def code_Charge.f (k : Nat) (a0_0 : Int) (a0_1 : Int) (a0_2 : Int) (a0_3 : Int) (a0_4 : Bool) (a1 : Int) (a2 : Int) (a3 : Int) : Option (Int × Int) := (code_Free.f k a0_0 a0_1 a0_2 a0_3 a0_4 a2 a3).bind fun bt462 => (if bt462.2 = 0 then (if a0_1 = 4 then ((money_Right.f k (([a1] : List Int))).bind fun t467 => (if t467 = true then (some (0, 0)) else (some (0, 10)))) else ((money_Sub.f k a1 bt462.1).bind fun bt468 => (some (mx 0 bt468.1, bt468.2)))) else (some (0, bt462.2)))
set_option maxHeartbeats 8000000 in
set_option maxRecDepth 100000 in
theorem code_Charge.calls (k : Nat) (a0_0 : Int) (a0_1 : Int) (a0_2 : Int) (a0_3 : Int) (a0_4 : Bool) (a1 : Int) (a2 : Int) (a3 : Int) (r1 : Int) (r2 : Int) (w : World) (h : code_Charge.f k a0_0 a0_1 a0_2 a0_3 a0_4 a1 a2 a3 = some (r1, r2)) :
  Calls Try.prog 81 #[.agg #[.int .i64 a0_0, .int .i64 a0_1, .int .i64 a0_2, .int .i64 a0_3, .bool a0_4], .int .i64 a1, .int .i64 a2, .int .i64 a3] w fun e w' => e = .returned (.tuple #[.int .i64 r1, .int .i64 r2]) ∧ Below w.heap.size w w' := by
 have hu88 := Try.underlying88; have HB := A_ (Below.refl w.heap.size w); unfold code_Charge.f at h; have H := h; clear h; replace H := Option.bind_eq_some_iff.mp H; obtain ⟨⟨t462, t463⟩, A50, H⟩ := H; (try dsimp only at H); have A5 := A_ A50; clear A50; by_cases c6 : t463 = 0
 ·rw [if_pos c6] at H; have c6b0 : (t463 == 0) = true := beq_iff_eq.mpr c6; have c6b1 : (t463 != 0) = false := bne_eq_false_iff_eq.mpr c6; clear c6; by_cases c7 : a0_1 = 4
  ·rw [if_pos c7] at H; have c7b0 : (a0_1 == 4) = true := beq_iff_eq.mpr c7; have c7b1 : (a0_1 != 4) = false := bne_eq_false_iff_eq.mpr c7; clear c7; obtain ⟨y464, hy464⟩ : ∃ y_ : List Int, y_ = (([a1] : List Int)) := ⟨_, rfl⟩; replace H : ((money_Right.f k y464).bind fun t467 => (if t467 = true then (some (0, 0)) else (some (0, 10)))) = some (r1, r2) := by first | (rw [hy464]; with_reducible exact H) | (have H2_ := (Option.bind_some _ _).symm.trans H; rw [hy464]; with_reducible exact H2_) | (have H2_ := (Option.bind_some _ _).symm.trans H; with_reducible exact H2_) | with_reducible exact H | (rw [hy464]; exact H) | exact H
   have Ny464 := A_ hy464; clear hy464; replace H := Option.bind_eq_some_iff.mp H; obtain ⟨t467, A80, H⟩ := H; (try dsimp only at H); have A8 := A_ A80; clear A80; by_cases c9 : t467 = true
   ·subst c9; rw [if_pos rfl] at H; simp only [Option.some.injEq, Prod.mk.injEq] at H; obtain ⟨rfl, rfl⟩ := H; go_enter Try.func81, Try.ntmps81
    go_wp2_with (first | ((with_reducible refine gate_dst (N := 4) rfl ?_); refine be_ (N := 4) (cs := #[.int .i64 a0_0, .int .i64 a0_1, .int .i64 a0_2, .int .i64 a0_3, .bool a0_4]) (t := 88) ?_; intro gb461 hg w10 hbox hb; have BK461 := A_ (hbox); have GW461 := A_ ((by rw [hg]; exact (below_size (bl_ HB)) : w.heap.size ≤ gb461)); have GE461 := A_ ((by rw [hg]; exact (below_size (bl_ HB)) : w.heap.size ≤ gb461)); replace HB := A_ (below_step (bl_ HB) hb); clear hb hbox hg; have hcz11_0 := cz_ BK461 0; have hcz11_1 := cz_ BK461 1; have hcz11_2 := cz_ BK461 2; have hcz11_3 := cz_ BK461 3; have hcz11_4 := cz_ BK461 4; have hfz11_0 := fz_ BK461 0; have hfz11_1 := fz_ BK461 1; have hfz11_2 := fz_ BK461 2; have hfz11_3 := fz_ BK461 3; have hfz11_4 := fz_ BK461 4) | ((with_reducible refine gate_callee (f := 130) rfl ?_); refine gm_ (some 17) Try.func130 #[.agg #[.int .i64 a0_0, .int .i64 a0_1, .int .i64 a0_2, .int .i64 a0_3, .bool a0_4], .int .i64 a2, .int .i64 a3] ?_; (with_reducible refine (code_Free.calls k a0_0 a0_1 a0_2 a0_3 a0_4 a2 a3 t462 t463 _ A5.out).mono ?_); rintro e w12 ⟨rfl, hb⟩; refine ⟨_, rfl, ?_⟩; replace BK461 := A_ (blk_below (bx_ BK461) hb); replace HB := A_ (below_step (bl1_ HB GE461.out) hb); (try clear hb); (try clear hb2); (try clear hk); (try clear hi); have hcz13_0 := cz_ BK461 0; have hcz13_1 := cz_ BK461 1; have hcz13_2 := cz_ BK461 2; have hcz13_3 := cz_ BK461 3; have hcz13_4 := cz_ BK461 4; have hfz13_0 := fz_ BK461 0; have hfz13_1 := fz_ BK461 1; have hfz13_2 := fz_ BK461 2; have hfz13_3 := fz_ BK461 3; have hfz13_4 := fz_ BK461 4) | ((with_reducible refine gate_dst (N := 27) rfl ?_); refine Kd.R_lit (Kd.int .i64) _ 2 ?hg (N := 27) ?hd (xs := ([a1] : List Int)) (inner := [.int .i64 a1]) (ok := fun _ => True) (okp := fun _ => True) ?hr ?hp (fun _ hk => hk) trivial (Below.refl _ _) (Nat.le_refl _) (by simp) ?_; (case hd => rfl); (case hg => rfl); (case hr => first | (go_simp; done) | (go_simp; rfl)); (case hp => exact (Reps.one (show Kd.M (Kd.int .i64) _ _ _ a1 [.int .i64 a1] from rfl) (Reps.none _ _))); intro v465 w14 ho15 hb hg_ hnew_; clear hg_ hnew_; (first | rw [← Ny464.out] at ho15 | (simp only [Int.reduceToNat] at ho15; rw [← Ny464.out] at ho15)); have HO466 := A_ (Kd.R_lower ho15 (below_size (bl1_ HB GE461.out))); replace BK461 := A_ (blk_below (bx_ BK461) hb); replace HB := A_ (below_step (bl1_ HB GE461.out) hb); clear hb ho15; obtain ⟨Ao16, co16, eo16⟩ := Kd.R_slice HO466.out; subst eo16) | ((with_reducible refine gate_callee (f := 118) rfl ?_); refine gm_ (some 28) Try.func118 #[.slice Ao16 y464.length co16] ?_; (with_reducible refine (money_Right.calls k _ _ y464 true _ ?side1 ?side2 A8.out).mono ?_); (case side1 => repeat (first | exact (Kd.R_reads' HO466.out).2.2 | (with_reducible refine Kd.C_alloc ?_ _) | (with_reducible refine Kd.C_drewN ?_ _) | (with_reducible refine Kd.C_drew ?_))); (case side2 => exact (Kd.R_reads' HO466.out).2.1); rintro e w' ⟨rfl, ⟨nd, rfl⟩⟩; refine ⟨_, rfl, ?_⟩))
    go_ret2
    exact ⟨er_, bl1_ HB GE461.out⟩
   ·replace c9 := Bool.eq_false_iff.mpr c9; subst c9; rw [if_neg (show ¬ (false = true) by decide)] at H; simp only [Option.some.injEq, Prod.mk.injEq] at H; obtain ⟨rfl, rfl⟩ := H; go_enter Try.func81, Try.ntmps81
    go_wp2_with (first | ((with_reducible refine gate_dst (N := 4) rfl ?_); refine be_ (N := 4) (cs := #[.int .i64 a0_0, .int .i64 a0_1, .int .i64 a0_2, .int .i64 a0_3, .bool a0_4]) (t := 88) ?_; intro gb461 hg w17 hbox hb; have BK461 := A_ (hbox); have GW461 := A_ ((by rw [hg]; exact (below_size (bl_ HB)) : w.heap.size ≤ gb461)); have GE461 := A_ ((by rw [hg]; exact (below_size (bl_ HB)) : w.heap.size ≤ gb461)); replace HB := A_ (below_step (bl_ HB) hb); clear hb hbox hg; have hcz18_0 := cz_ BK461 0; have hcz18_1 := cz_ BK461 1; have hcz18_2 := cz_ BK461 2; have hcz18_3 := cz_ BK461 3; have hcz18_4 := cz_ BK461 4; have hfz18_0 := fz_ BK461 0; have hfz18_1 := fz_ BK461 1; have hfz18_2 := fz_ BK461 2; have hfz18_3 := fz_ BK461 3; have hfz18_4 := fz_ BK461 4) | ((with_reducible refine gate_callee (f := 130) rfl ?_); refine gm_ (some 17) Try.func130 #[.agg #[.int .i64 a0_0, .int .i64 a0_1, .int .i64 a0_2, .int .i64 a0_3, .bool a0_4], .int .i64 a2, .int .i64 a3] ?_; (with_reducible refine (code_Free.calls k a0_0 a0_1 a0_2 a0_3 a0_4 a2 a3 t462 t463 _ A5.out).mono ?_); rintro e w19 ⟨rfl, hb⟩; refine ⟨_, rfl, ?_⟩; replace BK461 := A_ (blk_below (bx_ BK461) hb); replace HB := A_ (below_step (bl1_ HB GE461.out) hb); (try clear hb); (try clear hb2); (try clear hk); (try clear hi); have hcz20_0 := cz_ BK461 0; have hcz20_1 := cz_ BK461 1; have hcz20_2 := cz_ BK461 2; have hcz20_3 := cz_ BK461 3; have hcz20_4 := cz_ BK461 4; have hfz20_0 := fz_ BK461 0; have hfz20_1 := fz_ BK461 1; have hfz20_2 := fz_ BK461 2; have hfz20_3 := fz_ BK461 3; have hfz20_4 := fz_ BK461 4) | ((with_reducible refine gate_dst (N := 27) rfl ?_); refine Kd.R_lit (Kd.int .i64) _ 2 ?hg (N := 27) ?hd (xs := ([a1] : List Int)) (inner := [.int .i64 a1]) (ok := fun _ => True) (okp := fun _ => True) ?hr ?hp (fun _ hk => hk) trivial (Below.refl _ _) (Nat.le_refl _) (by simp) ?_; (case hd => rfl); (case hg => rfl); (case hr => first | (go_simp; done) | (go_simp; rfl)); (case hp => exact (Reps.one (show Kd.M (Kd.int .i64) _ _ _ a1 [.int .i64 a1] from rfl) (Reps.none _ _))); intro v465 w21 ho22 hb hg_ hnew_; clear hg_ hnew_; (first | rw [← Ny464.out] at ho22 | (simp only [Int.reduceToNat] at ho22; rw [← Ny464.out] at ho22)); have HO466 := A_ (Kd.R_lower ho22 (below_size (bl1_ HB GE461.out))); replace BK461 := A_ (blk_below (bx_ BK461) hb); replace HB := A_ (below_step (bl1_ HB GE461.out) hb); clear hb ho22; obtain ⟨Ao23, co23, eo23⟩ := Kd.R_slice HO466.out; subst eo23) | ((with_reducible refine gate_callee (f := 118) rfl ?_); refine gm_ (some 28) Try.func118 #[.slice Ao23 y464.length co23] ?_; (with_reducible refine (money_Right.calls k _ _ y464 false _ ?side1 ?side2 A8.out).mono ?_); (case side1 => repeat (first | exact (Kd.R_reads' HO466.out).2.2 | (with_reducible refine Kd.C_alloc ?_ _) | (with_reducible refine Kd.C_drewN ?_ _) | (with_reducible refine Kd.C_drew ?_))); (case side2 => exact (Kd.R_reads' HO466.out).2.1); rintro e w' ⟨rfl, ⟨nd, rfl⟩⟩; refine ⟨_, rfl, ?_⟩))
    go_ret2
    exact ⟨er_, bl1_ HB GE461.out⟩
  ·rw [if_neg c7] at H; have c7b0 : (a0_1 == 4) = false := beq_eq_false_iff_ne.mpr c7; have c7b1 : (a0_1 != 4) = true := bne_iff_ne.mpr c7; replace H := Option.bind_eq_some_iff.mp H; obtain ⟨⟨t468, t469⟩, A240, H⟩ := H; replace H : (some (mx 0 t468, t469)) = some (r1, r2) := H; have A24 := A_ A240; clear A240; obtain ⟨ji25, hji25⟩ : ∃ j_ : Int, (mx 0 t468) = j_ := ⟨_, rfl⟩; replace H : (some (ji25, t469)) = some (r1, r2) := by first | (rw [hji25] at H; exact H) | (simp only [hji25] at H ⊢; exact H)
   (try rw [hji25] at A5)
   (try rw [hji25] at A24)
   (try (have hji25l : 0 ≤ ji25 := by (rw [← hji25]; unfold mx; (repeat' split) <;> omega)))
   (try (have hji25m : 0 ≤ ji25 := by omega))
   have hji25_ : (if 0 < t468 then t468 else 0) = ji25 := hji25; simp only [Option.some.injEq, Prod.mk.injEq] at H; obtain ⟨rfl, rfl⟩ := H; go_enter Try.func81, Try.ntmps81
   go_wp2_with (first | ((with_reducible refine gate_dst (N := 4) rfl ?_); refine be_ (N := 4) (cs := #[.int .i64 a0_0, .int .i64 a0_1, .int .i64 a0_2, .int .i64 a0_3, .bool a0_4]) (t := 88) ?_; intro gb461 hg w26 hbox hb; have BK461 := A_ (hbox); have GW461 := A_ ((by rw [hg]; exact (below_size (bl_ HB)) : w.heap.size ≤ gb461)); have GE461 := A_ ((by rw [hg]; exact (below_size (bl_ HB)) : w.heap.size ≤ gb461)); replace HB := A_ (below_step (bl_ HB) hb); clear hb hbox hg; have hcz27_0 := cz_ BK461 0; have hcz27_1 := cz_ BK461 1; have hcz27_2 := cz_ BK461 2; have hcz27_3 := cz_ BK461 3; have hcz27_4 := cz_ BK461 4; have hfz27_0 := fz_ BK461 0; have hfz27_1 := fz_ BK461 1; have hfz27_2 := fz_ BK461 2; have hfz27_3 := fz_ BK461 3; have hfz27_4 := fz_ BK461 4) | ((with_reducible refine gate_callee (f := 130) rfl ?_); refine gm_ (some 17) Try.func130 #[.agg #[.int .i64 a0_0, .int .i64 a0_1, .int .i64 a0_2, .int .i64 a0_3, .bool a0_4], .int .i64 a2, .int .i64 a3] ?_; (with_reducible refine (code_Free.calls k a0_0 a0_1 a0_2 a0_3 a0_4 a2 a3 t462 t463 _ A5.out).mono ?_); rintro e w28 ⟨rfl, hb⟩; refine ⟨_, rfl, ?_⟩; replace BK461 := A_ (blk_below (bx_ BK461) hb); replace HB := A_ (below_step (bl1_ HB GE461.out) hb); (try clear hb); (try clear hb2); (try clear hk); (try clear hi); have hcz29_0 := cz_ BK461 0; have hcz29_1 := cz_ BK461 1; have hcz29_2 := cz_ BK461 2; have hcz29_3 := cz_ BK461 3; have hcz29_4 := cz_ BK461 4; have hfz29_0 := fz_ BK461 0; have hfz29_1 := fz_ BK461 1; have hfz29_2 := fz_ BK461 2; have hfz29_3 := fz_ BK461 3; have hfz29_4 := fz_ BK461 4) | ((with_reducible refine gate_callee (f := 131) rfl ?_); refine gm_ (some 33) Try.func131 #[.int .i64 a1, .int .i64 t462] ?_; (with_reducible refine (money_Sub.calls k a1 t462 t468 t469 _ A24.out).mono ?_); rintro e w30 ⟨rfl, hb⟩; refine ⟨_, rfl, ?_⟩; replace BK461 := A_ (blk_below (bx_ BK461) hb); replace HB := A_ (below_step (bl1_ HB GE461.out) hb); (try clear hb); (try clear hb2); (try clear hk); (try clear hi)))
   go_ret2
   exact ⟨by first | rfl | (simp [errW_none, errW_some] <;> rfl) | (simp only [← hji25]; first | rfl | (simp [errW_none, errW_some] <;> rfl)) | (simp [*, errW_none, errW_some] <;> rfl), bl1_ HB GE461.out⟩
 ·rw [if_neg c6] at H; have c6b0 : (t463 == 0) = false := beq_eq_false_iff_ne.mpr c6; have c6b1 : (t463 != 0) = true := bne_iff_ne.mpr c6; simp only [Option.some.injEq, Prod.mk.injEq] at H; obtain ⟨rfl, rfl⟩ := H; go_enter Try.func81, Try.ntmps81
  go_wp2_with (first | ((with_reducible refine gate_dst (N := 4) rfl ?_); refine be_ (N := 4) (cs := #[.int .i64 a0_0, .int .i64 a0_1, .int .i64 a0_2, .int .i64 a0_3, .bool a0_4]) (t := 88) ?_; intro gb461 hg w31 hbox hb; have BK461 := A_ (hbox); have GW461 := A_ ((by rw [hg]; exact (below_size (bl_ HB)) : w.heap.size ≤ gb461)); have GE461 := A_ ((by rw [hg]; exact (below_size (bl_ HB)) : w.heap.size ≤ gb461)); replace HB := A_ (below_step (bl_ HB) hb); clear hb hbox hg; have hcz32_0 := cz_ BK461 0; have hcz32_1 := cz_ BK461 1; have hcz32_2 := cz_ BK461 2; have hcz32_3 := cz_ BK461 3; have hcz32_4 := cz_ BK461 4; have hfz32_0 := fz_ BK461 0; have hfz32_1 := fz_ BK461 1; have hfz32_2 := fz_ BK461 2; have hfz32_3 := fz_ BK461 3; have hfz32_4 := fz_ BK461 4) | ((with_reducible refine gate_callee (f := 130) rfl ?_); refine gm_ (some 17) Try.func130 #[.agg #[.int .i64 a0_0, .int .i64 a0_1, .int .i64 a0_2, .int .i64 a0_3, .bool a0_4], .int .i64 a2, .int .i64 a3] ?_; (with_reducible refine (code_Free.calls k a0_0 a0_1 a0_2 a0_3 a0_4 a2 a3 t462 t463 _ A5.out).mono ?_); rintro e w33 ⟨rfl, hb⟩; refine ⟨_, rfl, ?_⟩; replace BK461 := A_ (blk_below (bx_ BK461) hb); replace HB := A_ (below_step (bl1_ HB GE461.out) hb); (try clear hb); (try clear hb2); (try clear hk); (try clear hi)))
  go_ret2
  exact ⟨er_, bl1_ HB GE461.out⟩
end Go.Proofs.Ytcapgmoipacioaa.P
