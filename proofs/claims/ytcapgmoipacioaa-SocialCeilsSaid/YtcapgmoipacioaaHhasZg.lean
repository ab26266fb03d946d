import Derived.Test.YtcapgmoipacioaaPtZg
import Derived.Deep.RegionWith
namespace Go.Proofs.Ytcapgmoipacioaa.P
open Go.RowKit Go.Proofs.YtcapgmoipacioaaW.PrintWords Go.Proofs.YtcapgmoipacioaaW.PrintLast Go.Proofs.YtcapgmoipacioaaW.PrintMore
set_option linter.unusedVariables false
set_option linter.unusedSimpArgs false
def idx120 (l : List S120) (nm : ByteArray) : Nat → Int → Int
  | 0, _ => -1
  | n + 1, i => if ((rd_T120 l i).f0.toList == nm.toList) = true then i else idx120 l nm n (i + 1)
theorem idx120_end {l : List S120} {nm : ByteArray} {n : Nat} {i R : Int} (h : idx120 l nm n i = R) (hn : n = 0) : -1 = R := by subst hn; exact h
theorem idx120_hit {l : List S120} {nm : ByteArray} {n : Nat} {i R : Int} (h : idx120 l nm (n + 1) i = R) (c : ((rd_T120 l i).f0.toList == nm.toList) = true) : i = R := by rw [idx120, if_pos c] at h; exact h
theorem idx120_go {l : List S120} {nm : ByteArray} {n : Nat} {i R : Int} (h : idx120 l nm (n + 1) i = R) (c : ((rd_T120 l i).f0.toList == nm.toList) = false) : idx120 l nm n (i + 1) = R := by rw [idx120, if_neg (by rw [c]; decide)] at h; exact h
theorem idx120_any (nm : ByteArray) : ∀ (suf pre : List S120), decide (0 ≤ idx120 (pre ++ suf) nm suf.length (pre.length : Int)) = suf.any fun x => x.f0.toList == nm.toList
  | [], pre => by rw [List.length_nil, idx120]; rfl
  | x :: suf, pre => by
    have e0 : rd_T120 (pre ++ x :: suf) (pre.length : Int) = x := by unfold rd_T120; simp [List.getD_eq_getElem?_getD]
    have ih := idx120_any nm suf (pre ++ [x])
    have e1 : pre ++ [x] ++ suf = pre ++ x :: suf := by simp
    have e2 : ((pre ++ [x]).length : Int) = (pre.length : Int) + 1 := by simp
    rw [e1, e2] at ih
    rw [List.length_cons, idx120, e0, List.any_cons]
    cases h : (x.f0.toList == nm.toList) with
    | true => rw [if_pos rfl, Bool.true_or]; exact decide_eq_true (by omega)
    | false => rw [if_neg (by decide), Bool.false_or]; exact ih
set_option maxHeartbeats 4000000 in
set_option maxRecDepth 100000 in
theorem ask120.calls (x : S120) (v2 : Value) (g : Nat) (nm : ByteArray) (w : World) (hp : w.cell? ⟨g, 0, none⟩ = some (.string nm)) :
    Calls Try.prog 142 #[.agg #[.string x.f0, .int .i64 x.f1, v2, .int .i64 x.f3, .int .i64 x.f4, .int .i64 x.f5], .pointer (some ⟨g, 0, none⟩)] w fun e w' => e = .returned (.bool (x.f0.toList == nm.toList)) ∧ Below w.heap.size w w' := by
  have hu120 := Try.underlying120; have hg := World.block_lt_of_cell? w _ hp; go_enter Try.func142, Try.ntmps142
  go_wp2
  go_ret
  exact ⟨rfl, by repeat (first | exact Below.refl _ _ | apply below_alloc)⟩
set_option maxHeartbeats 4000000 in
set_option maxRecDepth 100000 in
theorem idx120.calls (A : Option Addr) (c : Nat) (l : List S120) (g : Nat) (nm : ByteArray) (w : World) (hr : Kd.C k120 w A l.length l) (hl : l.length ≤ 64) (hp : w.cell? ⟨g, 0, none⟩ = some (.string nm)) :
    Calls Try.prog 155 #[.slice A l.length c, .func (.func 142) #[] #[.pointer (some ⟨g, 0, none⟩)]] w fun e w' => e = .returned (.int .i64 (idx120 l nm l.length 0)) ∧ Below w.heap.size w w' := by
  have hu120 := Try.underlying120; have HR0 := Aside0.mk hr; have HP := Aside0.mk hp; have HL := Aside0.mk hl; have HB := Aside0.mk (Below.refl w.heap.size w); obtain ⟨R, hR⟩ : ∃ R, idx120 l nm l.length 0 = R := ⟨_, rfl⟩; rw [hR]; have HF0 := Aside0.mk hR; clear hr hp hR hl; go_enter Try.func155, Try.ntmps155
  go_wp2
  go_loopg [8] (l.length + 1) (fun kq v8 w' => ∃ (i : Int) (n : Nat), v8 = .int .i64 i ∧ Aside0 (kq = n + 1) ∧ Aside0 (0 ≤ i) ∧ Aside0 (i ≤ l.length) ∧ Aside0 ((l.length : Int) - i = n) ∧ Aside0 (idx120 l nm n i = R) ∧ Aside0 (Below w.heap.size w w'))
  case atStart => exact ⟨0, l.length, rfl, ⟨rfl⟩, ⟨by omega⟩, ⟨by omega⟩, ⟨by omega⟩, HF0, HB⟩
  case round =>
    clear HF0 HB; obtain ⟨i, n, rfl, HK, I0, I1, HN, HF, HB⟩ := hrel; by_cases c0 : i < (l.length : Int)
    · obtain ⟨m, rfl⟩ : ∃ m, n = m + 1 := ⟨n - 1, by have := HN.out; omega⟩; have p0 := I0.out; obtain ⟨ad, A2, c2, e, hx0, hx1, hx2, hx3, hx4, hx5, l2_, g2_⟩ := at_T120 HR0.out i p0 c0; cases e; replace hx0 := (HB.out.cell (World.block_lt_of_cell? w _ hx0)).trans hx0; replace hx1 := (HB.out.cell (World.block_lt_of_cell? w _ hx1)).trans hx1; replace hx2 := (HB.out.cell (World.block_lt_of_cell? w _ hx2)).trans hx2; replace hx3 := (HB.out.cell (World.block_lt_of_cell? w _ hx3)).trans hx3; replace hx4 := (HB.out.cell (World.block_lt_of_cell? w _ hx4)).trans hx4; replace hx5 := (HB.out.cell (World.block_lt_of_cell? w _ hx5)).trans hx5; have hp := (HB.out.cell (World.block_lt_of_cell? w _ HP.out)).trans HP.out; have hinc : IntKind.i64.wrap (i + 1) = i + 1 := IntWalk.i64_in _ (by have := HL.out; omega); have p0 := eq_true p0; have t0 : decide (i < (l.length : Int)) = true := decide_eq_true c0; have p1 := eq_true c0; have I2 := Aside0.mk c0; clear c0
      cases hit : ((rd_T120 l i).f0.toList == nm.toList) with
      | true =>
        have HE : Aside0 (i = R) := ⟨idx120_hit HF.out hit⟩; have HT := Aside0.mk hit; clear hit; go_wp2_with (go_at_call 142; refine (ask120.calls (rd_T120 l i) _ g nm _ hp).mono ?_; rw [HT.out]; rintro e w1 ⟨rfl, hb⟩; have HB1 := Aside0.mk (below_step (by repeat (first | (with_reducible first | exact HB.out | apply below_alloc | apply pw_below_drewN | apply below_drew1) | exact HB.out)) hb); clear HB hb; have HB := HB1; clear HB1)
        go_ret
        exact ⟨by rw [← HE.out]; first | rfl | (simp; done), HB.out⟩
      | false =>
        have HG : Aside0 (idx120 l nm m (i + 1) = R) := ⟨idx120_go HF.out hit⟩; have HT := Aside0.mk hit; clear hit; go_wp2_with (go_at_call 142; refine (ask120.calls (rd_T120 l i) _ g nm _ hp).mono ?_; rw [HT.out]; rintro e w1 ⟨rfl, hb⟩; have HB1 := Aside0.mk (below_step (by repeat (first | (with_reducible first | exact HB.out | apply below_alloc | apply pw_below_drewN | apply below_drew1) | exact HB.out)) hb); clear HB hb; have HB := HB1; clear HB1)
        go_roundg (m + 1)
        case measure => have := HK.out; omega
        case rel => exact ⟨i + 1, m, (by first | rfl | (simp; done) | (simp [*]; done)), ⟨rfl⟩, ⟨by have := I0.out; omega⟩, ⟨by have := I2.out; omega⟩, ⟨by have := HN.out; omega⟩, HG, HB⟩
    · have t0 : decide (i < (l.length : Int)) = false := decide_eq_false c0; have HE : Aside0 (-1 = R) := ⟨idx120_end HF.out (by have := HN.out; have := I1.out; omega)⟩; clear c0
      go_wp2
      go_ret
      exact ⟨by rw [← HE.out]; first | rfl | (simp; done), HB.out⟩
def api_Contrib_141.f (l0 : List (S120)) (a1_0 : ByteArray) (a1_1 : Int) (l1_2 : List (S106)) (a1_3 : Int) (a1_4 : Int) (a1_5 : Int) : Option (Bool) := if l0.length ≤ 64 then some (l0.any fun x => x.f0.toList == a1_0.toList) else none
set_option maxHeartbeats 4000000 in
set_option maxRecDepth 100000 in
theorem api_Contrib_141.asks (g : Nat) (A0 : Option Addr) (c0 : Nat) (l0 : List (S120)) (a1_0 : ByteArray) (a1_1 : Int) (A1_2 : Option Addr) (c1_2 : Nat) (l1_2 : List (S106)) (a1_3 : Int) (a1_4 : Int) (a1_5 : Int) (r : Bool) (w : World) (hr0 : Kd.C k120 w A0 l0.length l0) (hc0 : l0.length ≤ c0) (hr1_2 : Kd.C k106 w A1_2 l1_2.length l1_2) (hc1_2 : l1_2.length ≤ c1_2) (hp : w.cell? ⟨g, 0, none⟩ = some (.string a1_0)) (h : api_Contrib_141.f l0 a1_0 a1_1 l1_2 a1_3 a1_4 a1_5 = some r) :
    Calls Try.prog 141 #[.slice A0 l0.length c0, .func (.func 142) #[] #[.pointer (some ⟨g, 0, none⟩)]] w fun e w' => e = .returned (.bool r) ∧ Below w.heap.size w w' := by
  unfold api_Contrib_141.f at h; by_cases hl : l0.length ≤ 64
  · rw [if_pos hl] at h; obtain rfl := Option.some.inj h; have hq := idx120_any a1_0 l0 []; rw [List.nil_append, List.length_nil] at hq; replace hq : decide (0 ≤ idx120 l0 a1_0 l0.length 0) = _ := hq; rw [← hq]; obtain ⟨R, hR⟩ : ∃ R, idx120 l0 a1_0 l0.length 0 = R := ⟨_, rfl⟩; rw [hR]; have HRR := Aside0.mk hR; clear hR; have HR := Aside0.mk hr0; have HL := Aside0.mk hl; have HP := Aside0.mk hp; clear hr0 hl hp hq h; go_enter Try.func141, Try.ntmps141
    go_wp2_with fail
    (with_reducible refine (idx120.calls A0 c0 l0 g a1_0 _ HR.out HL.out HP.out).mono ?_)
    rintro e w1 ⟨rfl, hb⟩; have HB := Aside0.mk hb; clear hb; rw [HRR.out]
    go_wp2
    go_ret
    exact ⟨by first | rfl | (simp; done), HB.out⟩
  · rw [if_neg hl] at h; exact absurd h (by simp)
def idx209 (l : List S209) (nm : ByteArray) : Nat → Int → Int
  | 0, _ => -1
  | n + 1, i => if ((rd_T209 l i).f0.toList == nm.toList) = true then i else idx209 l nm n (i + 1)
theorem idx209_end {l : List S209} {nm : ByteArray} {n : Nat} {i R : Int} (h : idx209 l nm n i = R) (hn : n = 0) : -1 = R := by subst hn; exact h
theorem idx209_hit {l : List S209} {nm : ByteArray} {n : Nat} {i R : Int} (h : idx209 l nm (n + 1) i = R) (c : ((rd_T209 l i).f0.toList == nm.toList) = true) : i = R := by rw [idx209, if_pos c] at h; exact h
theorem idx209_go {l : List S209} {nm : ByteArray} {n : Nat} {i R : Int} (h : idx209 l nm (n + 1) i = R) (c : ((rd_T209 l i).f0.toList == nm.toList) = false) : idx209 l nm n (i + 1) = R := by rw [idx209, if_neg (by rw [c]; decide)] at h; exact h
theorem idx209_any (nm : ByteArray) : ∀ (suf pre : List S209), decide (0 ≤ idx209 (pre ++ suf) nm suf.length (pre.length : Int)) = suf.any fun x => x.f0.toList == nm.toList
  | [], pre => by rw [List.length_nil, idx209]; rfl
  | x :: suf, pre => by
    have e0 : rd_T209 (pre ++ x :: suf) (pre.length : Int) = x := by unfold rd_T209; simp [List.getD_eq_getElem?_getD]
    have ih := idx209_any nm suf (pre ++ [x])
    have e1 : pre ++ [x] ++ suf = pre ++ x :: suf := by simp
    have e2 : ((pre ++ [x]).length : Int) = (pre.length : Int) + 1 := by simp
    rw [e1, e2] at ih
    rw [List.length_cons, idx209, e0, List.any_cons]
    cases h : (x.f0.toList == nm.toList) with
    | true => rw [if_pos rfl, Bool.true_or]; exact decide_eq_true (by omega)
    | false => rw [if_neg (by decide), Bool.false_or]; exact ih
set_option maxHeartbeats 4000000 in
set_option maxRecDepth 100000 in
theorem ask209.calls (x : S209) (g : Nat) (nm : ByteArray) (w : World) (hp : w.cell? ⟨g, 0, none⟩ = some (.string nm)) :
    Calls Try.prog 144 #[.agg #[.string x.f0, .int .i64 x.f1, .int .i64 x.f2, .int .i64 x.f3], .pointer (some ⟨g, 0, none⟩)] w fun e w' => e = .returned (.bool (x.f0.toList == nm.toList)) ∧ Below w.heap.size w w' := by
  have hu209 := Try.underlying209; have hg := World.block_lt_of_cell? w _ hp; go_enter Try.func144, Try.ntmps144
  go_wp2
  go_ret
  exact ⟨rfl, by repeat (first | exact Below.refl _ _ | apply below_alloc)⟩
set_option maxHeartbeats 4000000 in
set_option maxRecDepth 100000 in
theorem idx209.calls (A : Option Addr) (c : Nat) (l : List S209) (g : Nat) (nm : ByteArray) (w : World) (hr : Kd.C k209 w A l.length l) (hl : l.length ≤ 64) (hp : w.cell? ⟨g, 0, none⟩ = some (.string nm)) :
    Calls Try.prog 156 #[.slice A l.length c, .func (.func 144) #[] #[.pointer (some ⟨g, 0, none⟩)]] w fun e w' => e = .returned (.int .i64 (idx209 l nm l.length 0)) ∧ Below w.heap.size w w' := by
  have hu209 := Try.underlying209; have HR0 := Aside0.mk hr; have HP := Aside0.mk hp; have HL := Aside0.mk hl; have HB := Aside0.mk (Below.refl w.heap.size w); obtain ⟨R, hR⟩ : ∃ R, idx209 l nm l.length 0 = R := ⟨_, rfl⟩; rw [hR]; have HF0 := Aside0.mk hR; clear hr hp hR hl; go_enter Try.func156, Try.ntmps156
  go_wp2
  go_loopg [8] (l.length + 1) (fun kq v8 w' => ∃ (i : Int) (n : Nat), v8 = .int .i64 i ∧ Aside0 (kq = n + 1) ∧ Aside0 (0 ≤ i) ∧ Aside0 (i ≤ l.length) ∧ Aside0 ((l.length : Int) - i = n) ∧ Aside0 (idx209 l nm n i = R) ∧ Aside0 (Below w.heap.size w w'))
  case atStart => exact ⟨0, l.length, rfl, ⟨rfl⟩, ⟨by omega⟩, ⟨by omega⟩, ⟨by omega⟩, HF0, HB⟩
  case round =>
    clear HF0 HB; obtain ⟨i, n, rfl, HK, I0, I1, HN, HF, HB⟩ := hrel; by_cases c0 : i < (l.length : Int)
    · obtain ⟨m, rfl⟩ : ∃ m, n = m + 1 := ⟨n - 1, by have := HN.out; omega⟩; have p0 := I0.out; obtain ⟨ad, e, hx0, hx1, hx2, hx3⟩ := at_T209 HR0.out i p0 c0; cases e; replace hx0 := (HB.out.cell (World.block_lt_of_cell? w _ hx0)).trans hx0; replace hx1 := (HB.out.cell (World.block_lt_of_cell? w _ hx1)).trans hx1; replace hx2 := (HB.out.cell (World.block_lt_of_cell? w _ hx2)).trans hx2; replace hx3 := (HB.out.cell (World.block_lt_of_cell? w _ hx3)).trans hx3; have hp := (HB.out.cell (World.block_lt_of_cell? w _ HP.out)).trans HP.out; have hinc : IntKind.i64.wrap (i + 1) = i + 1 := IntWalk.i64_in _ (by have := HL.out; omega); have p0 := eq_true p0; have t0 : decide (i < (l.length : Int)) = true := decide_eq_true c0; have p1 := eq_true c0; have I2 := Aside0.mk c0; clear c0
      cases hit : ((rd_T209 l i).f0.toList == nm.toList) with
      | true =>
        have HE : Aside0 (i = R) := ⟨idx209_hit HF.out hit⟩; have HT := Aside0.mk hit; clear hit; go_wp2_with (go_at_call 144; refine (ask209.calls (rd_T209 l i) g nm _ hp).mono ?_; rw [HT.out]; rintro e w1 ⟨rfl, hb⟩; have HB1 := Aside0.mk (below_step (by repeat (first | (with_reducible first | exact HB.out | apply below_alloc | apply pw_below_drewN | apply below_drew1) | exact HB.out)) hb); clear HB hb; have HB := HB1; clear HB1)
        go_ret
        exact ⟨by rw [← HE.out]; first | rfl | (simp; done), HB.out⟩
      | false =>
        have HG : Aside0 (idx209 l nm m (i + 1) = R) := ⟨idx209_go HF.out hit⟩; have HT := Aside0.mk hit; clear hit; go_wp2_with (go_at_call 144; refine (ask209.calls (rd_T209 l i) g nm _ hp).mono ?_; rw [HT.out]; rintro e w1 ⟨rfl, hb⟩; have HB1 := Aside0.mk (below_step (by repeat (first | (with_reducible first | exact HB.out | apply below_alloc | apply pw_below_drewN | apply below_drew1) | exact HB.out)) hb); clear HB hb; have HB := HB1; clear HB1)
        go_roundg (m + 1)
        case measure => have := HK.out; omega
        case rel => exact ⟨i + 1, m, (by first | rfl | (simp; done) | (simp [*]; done)), ⟨rfl⟩, ⟨by have := I0.out; omega⟩, ⟨by have := I2.out; omega⟩, ⟨by have := HN.out; omega⟩, HG, HB⟩
    · have t0 : decide (i < (l.length : Int)) = false := decide_eq_false c0; have HE : Aside0 (-1 = R) := ⟨idx209_end HF.out (by have := HN.out; have := I1.out; omega)⟩; clear c0
      go_wp2
      go_ret
      exact ⟨by rw [← HE.out]; first | rfl | (simp; done), HB.out⟩
def api_Kind_143.f (l0 : List (S209)) (a1_0 : ByteArray) (a1_1 : Int) (a1_2 : Int) (a1_3 : Int) : Option (Bool) := if l0.length ≤ 64 then some (l0.any fun x => x.f0.toList == a1_0.toList) else none
set_option maxHeartbeats 4000000 in
set_option maxRecDepth 100000 in
theorem api_Kind_143.asks (g : Nat) (A0 : Option Addr) (c0 : Nat) (l0 : List (S209)) (a1_0 : ByteArray) (a1_1 : Int) (a1_2 : Int) (a1_3 : Int) (r : Bool) (w : World) (hr0 : Kd.C k209 w A0 l0.length l0) (hc0 : l0.length ≤ c0) (hp : w.cell? ⟨g, 0, none⟩ = some (.string a1_0)) (h : api_Kind_143.f l0 a1_0 a1_1 a1_2 a1_3 = some r) :
    Calls Try.prog 143 #[.slice A0 l0.length c0, .func (.func 144) #[] #[.pointer (some ⟨g, 0, none⟩)]] w fun e w' => e = .returned (.bool r) ∧ Below w.heap.size w w' := by
  unfold api_Kind_143.f at h; by_cases hl : l0.length ≤ 64
  · rw [if_pos hl] at h; obtain rfl := Option.some.inj h; have hq := idx209_any a1_0 l0 []; rw [List.nil_append, List.length_nil] at hq; replace hq : decide (0 ≤ idx209 l0 a1_0 l0.length 0) = _ := hq; rw [← hq]; obtain ⟨R, hR⟩ : ∃ R, idx209 l0 a1_0 l0.length 0 = R := ⟨_, rfl⟩; rw [hR]; have HRR := Aside0.mk hR; clear hR; have HR := Aside0.mk hr0; have HL := Aside0.mk hl; have HP := Aside0.mk hp; clear hr0 hl hp hq h; go_enter Try.func143, Try.ntmps143
    go_wp2_with fail
    (with_reducible refine (idx209.calls A0 c0 l0 g a1_0 _ HR.out HL.out HP.out).mono ?_)
    rintro e w1 ⟨rfl, hb⟩; have HB := Aside0.mk hb; clear hb; rw [HRR.out]
    go_wp2
    go_ret
    exact ⟨by first | rfl | (simp; done), HB.out⟩
  · rw [if_neg hl] at h; exact absurd h (by simp)
end Go.Proofs.Ytcapgmoipacioaa.P
