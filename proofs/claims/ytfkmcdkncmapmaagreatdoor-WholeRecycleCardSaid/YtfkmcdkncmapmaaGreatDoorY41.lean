/- The document's own address: that it is a number is all that is asked. -/
import Derived.Test.YtfkmcdkncmapmaaGreatDoorY02
import Derived.Test.YtfkmcdkncmapmaaGreatDoorY40
import Derived.Test.YtfkmcdkncmapmaaGreatDoorY26
import Derived.Test.YtfkmcdkncmapmaaGreatDoorProg
import Derived.Test.YtfkmcdkncmapmaaGreatDoorY37
set_option linter.unusedVariables false
set_option linter.unusedSimpArgs false
set_option maxRecDepth 100000
set_option maxHeartbeats 400000
namespace Go.Proofs.YtfkmcdkncmapmaaGreatDoor
open Go Go.RowKit
theorem refBit_calls (w i : Nat) (hw : w < 18446744073709551616) (hi : i < 64) (w0 : World) : SX.Rets Tryz.prog 110 #[.int .u64 (w : Int), .int .i64 (i : Int)] w0 (fun v _ => ∃ b : Bool, v = .bool b ∧ (w % 8 = 0 → i < 3 → b = false)) := by
 refine SX.enter (args := [.int .u64 (w : Int), .int .i64 (i : Int)]) 22 Tryz.func110 rfl kr fun ac A H => XS (XR (SX.batch [0] A H kr kr fun ac w1 A H => XD (XT (XS (XS (XR (SX.batch [0, 0, 0] A H kr kr fun ac w1 A H => ?_)))))))
 have A := A.re 8 (.bool (decide ((i : Int) < 0))) (.bool false) kr (by rw [decide_eq_false ko])
 refine SX.batch [0, 0] A H kr kr fun ac w1 A H => ?_
 have A := A.re 10 (.bool (decide ((i : Int) > 63))) (.bool false) kr (by rw [decide_eq_false ko])
 refine SX.batch [0] A H kr kr fun ac w1 A H => XD (XT (Xf A (XK (XT (XS (XS (XR (SX.batch [0] A H kr kr fun ac w1 A H => XD (XT (XB ?_))))))))))
 refine SX.loopG (σ := Nat) (fun k ac w1 => k ≤ i ∧ ∃ x : Nat, x < 18446744073709551616 ∧ x = w / 2 ^ k ∧ SX.Agrees 22 ac [(0, .int .u64 (x : Int)), (1, .int .i64 (i : Int)), (5, .int .i64 (k : Int))] ∧ SX.Own w0 w1 [] ⟨[], [], []⟩) (fun k => i - k) 0 ?_ ?_
 · exact ⟨Nat.zero_le _, w, hw, (by simp), A.sub _ kr, H⟩
 · rintro k ac w1 ⟨hk, x, hx, hxe, A, H⟩
   refine XS (XS (XR (SX.batch [0, 0, 0] A H kr kr fun ac w1 A H => XD (XT ?_))))
   refine Xs (decide ((k : Int) < (i : Int))) (fun h1 => ?_) fun h1 => ?_
   · have A := A.re 14 (.bool (decide ((k : Int) < (i : Int)))) (.bool true) kr (by rw [h1])
     have h1p : k < i := by simp only [decide_eq_true_eq] at h1; omega
     refine Xt A (XK (XT (XS (XB (XR (SX.batch [0, 0] A H kr kr fun ac w1 A H => ?_))))))
     have A := A.re 18 (.int .u64 (IntKind.u64.wrap (Int.tdiv (x : Int) 2))) (.int .u64 ((x / 2 : Nat) : Int)) kr (SX.u_quo x 2 ko)
     refine SX.batch [0] A H kr kr fun ac w1 A H => XD (XN (XT (XR (SX.batch [0, 0] A H kr kr fun ac w1 A H => ?_))))
     have A := A.re 16 (.int .i64 (IntKind.i64.wrap ((k : Int) + 1))) (.int .i64 ((k + 1 : Nat) : Int)) kr (SX.i_addN k 1 ko)
     refine SX.batch [0] A H kr kr fun ac w1 A H => XD (XT ?_)
     exact ⟨k + 1, ⟨by omega, x / 2, by omega, (by rw [hxe, Nat.div_div_eq_div_mul, Nat.pow_succ]), A.sub _ kr, H⟩, by omega⟩
   · have A := A.re 14 (.bool (decide ((k : Int) < (i : Int)))) (.bool false) kr (by rw [h1])
     refine Xf A (XI (XX (XX (XE (XT (XS (XR (SX.batch [0, 0, 0, 0] A H kr kr fun ac w1 A H => XD (XT (XW ?_))))))))))
     have hki : k = i := by
      simp only [decide_eq_false_iff_not] at h1
      omega
     refine SX.ret [0] _ A H kr kr rfl ⟨Int.tmod (x : Int) 2 == 1, rfl, fun h8 h3 => ?_⟩
     have hx2 : x % 2 = 0 := by
      rw [hxe, hki]
      have : i = 0 ∨ i = 1 ∨ i = 2 := by omega
      rcases this with rfl | rfl | rfl
      · simp; omega
      · simp; omega
      · simp; omega
     have e : Int.tmod (x : Int) 2 = ((x % 2 : Nat) : Int) := rfl
     rw [e, hx2]
     rfl
/-- Sixty-four cells that hold truths. -/
def arr64 (f : Nat → Bool) : Array Value := ((List.range 64).map fun k => Value.bool (f k)).toArray
theorem arr64_get (f : Nat → Bool) {i : Nat} (hi : i < 64) : (arr64 f)[i]? = some (.bool (f i)) := by
 simp [arr64, hi]
theorem arr64_map (bl : List Bool) (h : bl.length = 64) : (bl.map Value.bool).toArray = arr64 (fun k => bl.getD k false) := by
 unfold arr64
 congr 1
 refine List.ext_getElem? fun i => ?_
 by_cases hi : i < 64
 · rw [List.getElem?_map, List.getElem?_map, List.getElem?_range hi, List.getElem?_eq_getElem ko]
   simp [List.getD, List.getElem?_eq_getElem (show i < bl.length by omega)]
 · rw [List.getElem?_eq_none (by simp; omega), List.getElem?_eq_none (by simp; omega)]
theorem refOf_calls (f : Nat → Bool) (hf : f 0 = false ∧ f 1 = false ∧ f 2 = false) (w0 : World) : SX.Rets Tryz.prog 111 #[.agg (arr64 f)] w0 (fun v _ => ∃ x : Nat, x < 18446744073709551616 ∧ x % 8 = 0 ∧ v = .int .u64 (x : Int)) := by
 refine SX.enter (args := [.agg (arr64 f)]) 17 Tryz.func111 rfl kr fun ac A H => XS (XR (SX.batch [0, 0] A H kr kr fun ac w1 A H => XD (XT (XS (XR (SX.batch [0] A H kr kr fun ac w1 A H => XD (XT (XS (XS (XR (SX.batch [0] A H kr kr fun ac w1 A H => XD (XT (XB ?_)))))))))))))
 refine SX.loopG (σ := Nat) (fun k ac w1 => k ≤ 64 ∧ ∃ x B : Nat, x < 18446744073709551616 ∧ ((k = 2 → x % 2 = 0) ∧ (k = 1 → x % 4 = 0) ∧ (k = 0 → x % 8 = 0)) ∧ SX.Agrees 17 ac [(1, .pointer (some ⟨B, 0, none⟩)), (3, .int .u64 (x : Int)), (4, .int .i64 ((k : Int) - 1))] ∧ SX.Own w0 w1 [(B, .cells (arr64 f) 183 (0, 0))] ⟨[], [], []⟩) (fun k => k) 64 ?_ ?_
 · exact ⟨Nat.le_refl _, 0, SX.bb H 0, by decide, by omega, A.sub _ kr, H.pick [0] _ kc kr⟩
 · rintro k ac w1 ⟨hk, x, B, hx, hlow, A, H⟩
   refine XS (XS (XR (SX.batch [0, 0] A H kr kr fun ac w1 A H => XD (XT ?_))))
   refine Xs (decide ((k : Int) - 1 ≥ 0)) (fun h1 => ?_) fun h1 => ?_
   · have A := A.re 6 (.bool (decide ((k : Int) - 1 ≥ 0))) (.bool true) kr (by rw [h1])
     have h1p : 1 ≤ k := by simp only [decide_eq_true_eq] at h1; omega
     refine Xt A (XK (XT (XS (XB (XS (XR (SX.batch [0, 0] A H kr kr fun ac w1 A H => ?_)))))))
     have A := A.re 10 (.int .u64 (IntKind.u64.wrap ((x : Int) * ((2 : Nat) : Int)))) (.int .u64 ((x * 2 % 18446744073709551616 : Nat) : Int)) kr (u_mulm x 2)
     refine SX.batch [0] A H kr kr fun ac w1 A H => XD (XT (XS (XR (SX.batch [0] A H kr kr fun ac w1 A H => ?_))))
     have A := A.re 11 (.int .i64 ((k : Int) - 1)) (.int .i64 ((k - 1 : Nat) : Int)) kr (by rw [show ((k - 1 : Nat) : Int) = (k : Int) - 1 by omega])
     have hbk := H.has (B, .cells (arr64 f) 183 (0, 0)) (List.mem_of_getElem? (i := 0) kr)
     refine SX.given A (SX.run_idx_array0 (P := Tryz.prog) (w := w1) (T := 183) (E := 4) (n := 64) (k := .i64) (b := B) (i := k - 1) kr kr ko) kr kr fun ac A => SX.given A (SX.run_load1 (P := Tryz.prog) (w := w1) (T := 4) (b := B) (o := k - 1) (v := .bool (f (k - 1))) kr (by simp only [World.cell?, hbk]; exact arr64_get f ko)) kr kr fun ac A => XD (XT ?_)
     refine SX.cut (fun ac w2 => ∃ y B : Nat, y < 18446744073709551616 ∧ ((k = 3 → y % 2 = 0) ∧ (k = 2 → y % 4 = 0) ∧ (k = 1 → y % 8 = 0)) ∧ SX.Agrees 17 ac [(1, .pointer (some ⟨B, 0, none⟩)), (3, .int .u64 (y : Int)), (4, .int .i64 ((k : Int) - 1))] ∧ SX.Own w0 w2 [(B, .cells (arr64 f) 183 (0, 0))] ⟨[], [], []⟩) ?_ ?_
     · cases hb : f (k - 1) with
       | true =>
        have A := A.re 13 (.bool (f (k - 1))) (.bool true) kr (by rw [hb])
        refine Xt A (XR (SX.batch [0, 0] A H kr kr fun ac w1 A H => ?_))
        have A := A.re 15 (.int .u64 (IntKind.u64.wrap (((x * 2 % 18446744073709551616 : Nat) : Int) + ((1 : Nat) : Int)))) (.int .u64 (((x * 2 % 18446744073709551616 + 1) % 18446744073709551616 : Nat) : Int)) kr (u_addm _ 1)
        refine SX.batch [0] A H kr kr fun ac w1 A H => XD ?_
        exact ⟨(x * 2 % 18446744073709551616 + 1) % 18446744073709551616, B, Nat.mod_lt _ kc, ⟨fun e => (by subst e; rw [show (3 : Nat) - 1 = 2 from rfl, hf.2.2] at hb; cases hb), fun e => (by subst e; rw [show (2 : Nat) - 1 = 1 from rfl, hf.2.1] at hb; cases hb), fun e => (by subst e; rw [show (1 : Nat) - 1 = 0 from rfl, hf.1] at hb; cases hb)⟩, A.sub _ kr, H.pick [0] _ kc kr⟩
       | false =>
        have A := A.re 13 (.bool (f (k - 1))) (.bool false) kr (by rw [hb])
        refine Xf A (XK ?_)
        exact ⟨x * 2 % 18446744073709551616, B, Nat.mod_lt _ kc, by omega, A.sub _ kr, H.pick [0] _ kc kr⟩
     · rintro ac w2 ⟨y, B, hy, hly, A, H⟩
       refine XN (XT (XR (SX.batch [0, 0] A H kr kr fun ac w1 A H => ?_)))
       have A := A.re 8 (.int .i64 (IntKind.i64.wrap ((k : Int) - 1 - 1))) (.int .i64 (((k - 1 : Nat) : Int) - 1)) kr (by rw [SX.i_in _ ko ko, show ((k - 1 : Nat) : Int) = (k : Int) - 1 by omega])
       refine SX.batch [0] A H kr kr fun ac w1 A H => XD (XT ?_)
       exact ⟨k - 1, ⟨by omega, y, B, hy, by omega, A.sub _ kr, H.pick [0] _ kc kr⟩, by omega⟩
   · have A := A.re 6 (.bool (decide ((k : Int) - 1 ≥ 0))) (.bool false) kr (by rw [h1])
     refine Xf A (XI (XX (XX (XE (XT (XS (XR (SX.batch [0, 0] A H kr kr fun ac w1 A H => XD (XT (XW ?_))))))))))
     exact SX.ret [0] _ A H kr kr rfl ⟨x, hx, hlow.2.2 (by simp only [decide_eq_false_iff_not] at h1; omega), rfl⟩
theorem refSign_calls (w : Nat) (hw : w < 18446744073709551616) (hw8 : w % 8 = 0) (w0 : World) : SX.Rets Tryz.prog 41 #[.int .u64 (w : Int), .int .i64 39] w0 (fun v _ => ∃ x : Nat, x < 18446744073709551616 ∧ x % 8 = 0 ∧ v = .int .u64 (x : Int)) := by
 refine SX.enter (args := [.int .u64 (w : Int), .int .i64 39]) 21 Tryz.func41 rfl kr fun ac A H => XS (XR (SX.batch [0] A H kr kr fun ac w1 A H => XD (XT (XS (XR (SX.batch [0] A H kr kr fun ac w1 A H => XD (XT (XS (XS (XR (SX.batch [0] A H kr kr fun ac w1 A H => XD (XT (XB ?_)))))))))))))
 refine SX.loopG (σ := Nat) (fun i ac w1 => i ≤ 64 ∧ ∃ (B : Nat) (bl : List Bool), bl.length = 64 ∧ (∀ j, j < 3 → j < i → bl.getD j false = false) ∧ SX.Agrees 21 ac [(0, .int .u64 (w : Int)), (1, .int .i64 39), (5, .pointer (some ⟨B, 0, none⟩)), (6, .int .i64 (i : Int))] ∧ SX.Own w0 w1 [(B, .cells (bl.map Value.bool).toArray 183 (0, 0))] ⟨[], [], []⟩) (fun i => 64 - i) 0 ?_ ?_
 · exact ⟨Nat.zero_le _, SX.bb H 0, List.replicate 64 false, rfl, (fun _ _ h => by omega), A.sub _ kr, H.pick [0] _ kc kr⟩
 · rintro i ac w1 ⟨hi, B, bl, hbl, hlo, A, H⟩
   refine XS (XS (XR (SX.batch [0, 0] A H kr kr fun ac w1 A H => XD (XT ?_))))
   refine Xs (decide ((i : Int) < 64)) (fun h1 => ?_) fun h1 => ?_
   · have A := A.re 8 (.bool (decide ((i : Int) < 64))) (.bool true) kr (by rw [h1])
     have h1p : i < 64 := by simp only [decide_eq_true_eq] at h1; omega
     refine Xt A (XK (XT (XS (XB (XR (SX.batch [0, 0, 0, 0, 0, 0] A H kr kr fun ac w1 A H => ?_))))))
     have A := A.re 16 (.int .i64 (if ((38 : Nat) : Int) < ((i : Nat) : Int) then ((38 : Nat) : Int) else ((i : Nat) : Int))) (.int .i64 ((min i 38 : Nat) : Int)) kr (by rw [min_val])
     refine SX.call A H (refBit_calls w (min i 38) hw ko w1) kr kr ?_
     rintro _ ac w2 ⟨b, rfl, hb8⟩ A H
     refine SX.given A (SX.run_idx_array0 (P := Tryz.prog) (w := w2) (T := 183) (E := 4) (n := 64) (k := .i64) (b := B) (i := i) kr kr h1p) kr kr fun ac A => ?_
     have hbk := H.has (B, .cells (bl.map Value.bool).toArray 183 (0, 0)) (List.mem_of_getElem? (i := 0) kr)
     obtain ⟨x2, w3, hrun, hown, hx2, hg2⟩ := SX.do_store (P := Tryz.prog) (w := w2) (T := 4) (b := B) (o := i) (v := .bool b) (vs := [.bool b]) (by rfl) kr hbk (by simp; omega) (by simp; rfl)
     have H := hown _ _ _ (H.pick [0] [(B, .cells (bl.map Value.bool).toArray 183 (0, 0))] kc kr)
     have ex : x2 = (bl.set i b).map Value.bool := by
      refine List.ext_getElem? fun k => ?_
      rw [hg2, List.getElem?_map (l := bl.set i b), List.getElem?_set]
      by_cases hk : k < i
      · rw [if_pos hk, if_neg ko, List.getElem?_map]
      · rw [if_neg hk]
        by_cases hk2 : k = i
        · subst hk2
          simp [hbl, h1p]
        · rw [if_neg (by simp; omega), if_neg ko, List.getElem?_map]
     rw [ex] at H
     refine SX.givenS A hrun kr kr fun ac A => XD (XN (XT (XR (SX.batch [0, 0] A H kr kr fun ac w4 A H => ?_))))
     have A := A.re 10 (.int .i64 (IntKind.i64.wrap ((i : Int) + 1))) (.int .i64 ((i + 1 : Nat) : Int)) kr (SX.i_addN i 1 ko)
     refine SX.batch [0] A H kr kr fun ac w4 A H => XD (XT ?_)
     exact ⟨i + 1, ⟨by omega, B, bl.set i b, by simp [hbl], (fun j hj hji => by
      by_cases e : j = i
      · subst e
        have := hb8 hw8 ko
        subst this
        simp [List.getD, List.getElem?_set, hbl, h1p]
      · have := hlo j hj ko
        simp only [List.getD, List.getElem?_set, if_neg (fun h => e (Eq.symm h))] at this ⊢
        exact this), A.sub _ kr, H.pick [0] _ kc kr⟩, by omega⟩
   · have A := A.re 8 (.bool (decide ((i : Int) < 64))) (.bool false) kr (by rw [h1])
     refine Xf A (XI (XX (XX (XE (XT (XS (XR ?_)))))))
     rw [arr64_map bl hbl] at H
     refine SX.batch [0] A H kr kr fun ac w1 A H => SX.call A H (refOf_calls (fun k => bl.getD k false) (by simp only [decide_eq_false_iff_not] at h1; exact ⟨hlo 0 ko ko, hlo 1 ko ko, hlo 2 ko ko⟩) w1) kr kr ?_
     rintro _ ac w2 ⟨x, hx, hx8, rfl⟩ A H
     refine SX.batch [0] A H kr kr fun ac w1 A H => XD (XT (XW ?_))
     exact SX.ret [0] _ A H kr kr rfl ⟨_, hx, hx8, rfl⟩
theorem refAddr_calls (n : Nat) (hn : n < 18446744073709551616) (w0 : World) : SX.Rets Tryz.prog 16 #[.int .u64 (n : Int)] w0 (fun v _ => ∃ x : Nat, x < 18446744073709551616 ∧ x % 8 = 0 ∧ v = .int .u64 (x : Int)) := by
 refine SX.enter (args := [.int .u64 (n : Int)]) 7 Tryz.func16 rfl kr fun ac A H => XS (XR (SX.batch [0] A H kr kr fun ac w1 A H => XD (XT (XS (XR (SX.batch [0, 0] A H kr kr fun ac w1 A H => ?_))))))
 have A := A.re 4 (.int .u64 (Int.tmod (n : Int) ((134217728 : Nat) : Int))) (.int .u64 ((n % 134217728 : Nat) : Int)) kr (SX.u_rem n 134217728)
 refine SX.batch [0] A H kr kr fun ac w1 A H => ?_
 have A := A.re 5 (.int .u64 (IntKind.u64.wrap (((n % 134217728 : Nat) : Int) * ((4096 : Nat) : Int)))) (.int .u64 ((n % 134217728 * 4096 % 18446744073709551616 : Nat) : Int)) kr (u_mulm _ 4096)
 refine SX.call A H (refSign_calls (n % 134217728 * 4096 % 18446744073709551616) (Nat.mod_lt _ kc) ko w1) kr kr ?_
 rintro _ ac w2 ⟨x, hx, hx8, rfl⟩ A H
 refine SX.batch [0] A H kr kr fun ac w1 A H => XD (XT (XW ?_))
 exact SX.ret [0] _ A H kr kr rfl ⟨_, hx, hx8, rfl⟩
end Go.Proofs.YtfkmcdkncmapmaaGreatDoor
set_option linter.unusedVariables false
set_option linter.unusedSimpArgs false
set_option maxRecDepth 100000
set_option maxHeartbeats 2000000
namespace Go.Proofs.YtfkmcdkncmapmaaGreatDoor
open Go Go.RowKit
theorem refMay_calls (c : D.Conf)  (w0 : World) : SX.Gives Tryz.prog 13 #[(D.Conf.enc c)] w0 (.bool (D.mayN c)) := by
 refine SX.enter (args := [(D.Conf.enc c)]) 41 Tryz.func13 rfl kr fun ac A H => XS (XR (Xb [0, 0] A H fun ac w A H => XD (XT (XS (XR (Xb [0, 0, 0, 0] A H fun ac w A H => ?_))))))
 refine Xs (decide (c.data ≥ 1)) (fun h1 => ?_) fun h1 => ?_
 ·
  have A := A.rb 6 h1
  have h1p : c.data ≥ 1 := kp h1
  refine Xb [0, 0, 0, 0, 0] A H fun ac w A H => ?_
  refine Xs (decide (c.data ≤ 524288)) (fun h2 => ?_) fun h2 => ?_
  ·
   have A := A.rb 11 h2
   have h2p : c.data ≤ 524288 := kp h2
   refine Xb [0, 0, 0, 0, 0] A H fun ac w A H => ?_
   refine Xs (decide (c.pool ≥ 1)) (fun h3 => ?_) fun h3 => ?_
   ·
    have A := A.rb 16 h3
    have h3p : c.pool ≥ 1 := kp h3
    refine Xb [0, 0, 0, 0, 0] A H fun ac w A H => ?_
    refine Xs (decide (c.pool ≤ 64)) (fun h4 => ?_) fun h4 => ?_
    ·
     have A := A.rb 21 h4
     have h4p : c.pool ≤ 64 := kp h4
     refine Xb [0, 0, 0, 0, 0] A H fun ac w A H => ?_
     refine Xs (decide (c.asids ≥ 1)) (fun h5 => ?_) fun h5 => ?_
     ·
      have A := A.rb 26 h5
      have h5p : c.asids ≥ 1 := kp h5
      refine Xb [0, 0, 0, 0, 0] A H fun ac w A H => ?_
      refine Xs (decide (c.asids ≤ 16)) (fun h6 => ?_) fun h6 => ?_
      ·
       have A := A.rb 31 h6
       have h6p : c.asids ≤ 16 := kp h6
       refine Xb [0, 0, 0, 0, 0] A H fun ac w A H => ?_
       refine Xs (decide (c.sets ≥ 0)) (fun h7 => ?_) fun h7 => ?_
       ·
        have A := A.rb 36 h7
        have h7p : c.sets ≥ 0 := kp h7
        refine Xb [0, 0, 0, 0, 0] A H fun ac w A H => XD (XT (XW (Xr [0] (.bool (decide (c.sets ≤ 16))) A H (congrArg Value.bool ?_))))
        first | (simp [D.mayN, within, h1, h2, h3, h4, h5, h6, h7]; done) | (simp [D.mayN, within]; simp at *; omega) | (simp_all [D.mayN, within]; done)
       ·
        have A := A.rb 36 h7
        have h7p : ¬ (c.sets ≥ 0) := kp h7
        refine Xb [0, 0, 0, 0, 0] A H fun ac w A H => XD (XT (XW (Xr [0] (.bool false) A H (congrArg Value.bool ?_))))
        first | (simp [D.mayN, within, h1, h2, h3, h4, h5, h6, h7]; done) | (simp [D.mayN, within]; simp at *; omega) | (simp_all [D.mayN, within]; done)
      ·
       have A := A.rb 31 h6
       have h6p : ¬ (c.asids ≤ 16) := kp h6
       refine Xb [0, 0, 0, 0, 0, 0, 0, 0, 0, 0] A H fun ac w A H => XD (XT (XW (Xr [0] (.bool false) A H (congrArg Value.bool ?_))))
       first | (simp [D.mayN, within, h1, h2, h3, h4, h5, h6]; done) | (simp [D.mayN, within]; simp at *; omega) | (simp_all [D.mayN, within]; done)
     ·
      have A := A.rb 26 h5
      have h5p : ¬ (c.asids ≥ 1) := kp h5
      refine Xb [0, 0, 0, 0, 0, 0, 0, 0, 0, 0, 0, 0, 0, 0, 0] A H fun ac w A H => XD (XT (XW (Xr [0] (.bool false) A H (congrArg Value.bool ?_))))
      first | (simp [D.mayN, within, h1, h2, h3, h4, h5]; done) | (simp [D.mayN, within]; simp at *; omega) | (simp_all [D.mayN, within]; done)
    ·
     have A := A.rb 21 h4
     have h4p : ¬ (c.pool ≤ 64) := kp h4
     refine Xb [0, 0, 0, 0, 0, 0, 0, 0, 0, 0, 0, 0, 0, 0, 0, 0, 0, 0, 0, 0] A H fun ac w A H => XD (XT (XW (Xr [0] (.bool false) A H (congrArg Value.bool ?_))))
     first | (simp [D.mayN, within, h1, h2, h3, h4]; done) | (simp [D.mayN, within]; simp at *; omega) | (simp_all [D.mayN, within]; done)
   ·
    have A := A.rb 16 h3
    have h3p : ¬ (c.pool ≥ 1) := kp h3
    refine Xb [0, 0, 0, 0, 0, 0, 0, 0, 0, 0, 0, 0, 0, 0, 0, 0, 0, 0, 0, 0, 0, 0, 0, 0, 0] A H fun ac w A H => XD (XT (XW (Xr [0] (.bool false) A H (congrArg Value.bool ?_))))
    first | (simp [D.mayN, within, h1, h2, h3]; done) | (simp [D.mayN, within]; simp at *; omega) | (simp_all [D.mayN, within]; done)
  ·
   have A := A.rb 11 h2
   have h2p : ¬ (c.data ≤ 524288) := kp h2
   refine Xb [0, 0, 0, 0, 0, 0, 0, 0, 0, 0, 0, 0, 0, 0, 0, 0, 0, 0, 0, 0, 0, 0, 0, 0, 0, 0, 0, 0, 0, 0] A H fun ac w A H => XD (XT (XW (Xr [0] (.bool false) A H (congrArg Value.bool ?_))))
   first | (simp [D.mayN, within, h1, h2]; done) | (simp [D.mayN, within]; simp at *; omega) | (simp_all [D.mayN, within]; done)
 ·
  have A := A.rb 6 h1
  have h1p : ¬ (c.data ≥ 1) := kp h1
  refine Xb [0, 0, 0, 0, 0, 0, 0, 0, 0, 0, 0, 0, 0, 0, 0, 0, 0, 0, 0, 0, 0, 0, 0, 0, 0, 0, 0, 0, 0, 0, 0, 0, 0, 0, 0] A H fun ac w A H => XD (XT (XW (Xr [0] (.bool false) A H (congrArg Value.bool ?_))))
  first | (simp [D.mayN, within, h1]; done) | (simp [D.mayN, within]; simp at *; omega) | (simp_all [D.mayN, within]; done)
end Go.Proofs.YtfkmcdkncmapmaaGreatDoor
set_option linter.unusedVariables false
set_option linter.unusedSimpArgs false
set_option maxRecDepth 100000
namespace Go.Proofs.YtfkmcdkncmapmaaGreatDoor
open Go Go.RowKit
namespace D
def Conf.one (c : Conf) : Conf := ⟨c.data, c.pool, 1, c.sets⟩
theorem cd_one {c : Conf} (h : mayN c = true) (hp : ¬ c.pool < 3) : Cd (⟨c.data, c.pool, 1, c.sets⟩ : Conf) := by
 have := may_bd h
 exact ⟨this.1, this.2.1, by show 3 ≤ c.pool; omega, this.2.2.2.1, rfl, this.2.2.2.2.2.2.1, this.2.2.2.2.2.2.2⟩
theorem RInv.pok {c : Conf} {k : Kernel} (h : RInv c k) (hc : Cd c) : k.pool.Ok := h.pool.ok hc.d hc.n
theorem RInv.msz {c : Conf} {k : Kernel} (h : RInv c k) (hc : Cd c) : k.mem.size ≤ 1099511627776 := by rw [h.mem.size]; exact hc.big
theorem RInv.cok {c : Conf} {k : Kernel} (h : RInv c k) (hc : Cd c) : 0 ≤ k.conf.data ∧ k.conf.data ≤ 524288 := by rw [h.conf]; have := hc.d1; have := hc.d2; omega
theorem RInv.shb {c : Conf} {k : Kernel} (h : RInv c k) (hc : Cd c) : k.shared < 4503599627370495 := by rw [h.shared]; have := hc.d; omega
theorem RInv.rtb {c : Conf} {k : Kernel} (h : RInv c k) (hc : Cd c) : (k.sp 0).root < 4503599627370495 := by
 unfold Kernel.sp
 rw [h.spaces]
 show c.data.toNat + 1 < _
 have := hc.d; omega
theorem RInv.kok {c : Conf} {k : Kernel} (h : RInv c k) (hc : Cd c) : k.Ok := ⟨⟨by rw [h.satp]; show c.data.toNat + 1 < _; have := hc.d; omega, by rw [h.satp]; show 1 < _; decide, h.tlb.ok, h.tlb.pp⟩, h.msz hc⟩
theorem RInv.offp {c : Conf} {k : Kernel} (h : RInv c k) (hc : Cd c) : (switchN k (-1)).k.pool.Ok := by rw [switch_off]; exact h.pok hc
theorem RInv.offa {c : Conf} {k : Kernel} (h : RInv c k) : (switchN k (-1)).k.asids.Ok := by
 rw [switch_off]
 show k.asids.Ok
 rw [h.asids]
 exact ⟨by decide, by decide, by decide⟩
theorem RInv.offm {c : Conf} {k : Kernel} (h : RInv c k) (hc : Cd c) : (switchN k (-1)).k.mem.size ≤ 1099511627776 := by rw [switch_off]; exact h.msz hc
theorem RInv.offr {c : Conf} {k : Kernel} (h : RInv c k) (hc : Cd c) : ∀ s ∈ (switchN k (-1)).k.spaces, s.root < 4503599627370495 ∧ s.asid < 18446744073709551616 := by
 rw [switch_off]
 show ∀ s ∈ k.spaces, _
 rw [h.spaces]
 intro s hs
 rw [List.mem_singleton.1 hs]
 have := hc.d
 exact ⟨by show c.data.toNat + 1 < _; omega, by show 1 < _; decide⟩
theorem RInv.offn {c : Conf} {k : Kernel} (h : RInv c k) : (switchN k (-1)).k.spaces.length ≤ 32 := by
 rw [switch_off]
 show k.spaces.length ≤ 32
 rw [h.spaces]; simp
theorem After.pok {c : Conf} {k : Kernel} (h : After c k) (hc : Cd c) : k.pool.Ok := h.pool.ok hc.d hc.n
theorem After.aok {c : Conf} {k : Kernel} (h : After c k) : k.asids.Ok := by rw [h.asids]; exact ⟨by decide, by decide, by decide⟩
theorem After.msz {c : Conf} {k : Kernel} (h : After c k) (hc : Cd c) : k.mem.size ≤ 1099511627776 := by rw [h.mem.size]; exact hc.big
theorem After.shb {c : Conf} {k : Kernel} (h : After c k) (hc : Cd c) : k.shared < 18446744073709551616 := by rw [h.shared]; have := hc.d; omega
theorem After.fl {c : Conf} {k : Kernel} (h : After c k) : k.fences.length < 900000 := by rw [h.fences]; decide
theorem Last.kok {c : Conf} {k : Kernel} (h : Last c k) (hc : Cd c) : k.Ok := by
 have lv : ∀ e : Entry, e.valid = false → e.Lv := fun e he hv => by rw [he] at hv; cases hv
 have pp : ∀ e : Entry, e.valid = false → e.Pp := fun e he hv => by rw [he] at hv; cases hv
 refine ⟨⟨by rw [h.satp]; show c.data.toNat + 1 < _; have := hc.d; omega, by rw [h.satp]; show 1 < _; decide, ⟨h.len, fun s hs => ?_⟩, fun s hs => ?_⟩, by rw [h.size]; exact hc.big⟩
 · have := h.tlb s hs
   exact ⟨lv _ this.l0, lv _ this.l1, lv _ this.l2, lv _ this.l3⟩
 · have := h.tlb s hs
   exact ⟨pp _ this.l0, pp _ this.l1, pp _ this.l2, pp _ this.l3⟩
theorem Last.asid {c : Conf} {k : Kernel} (h : Last c k) {e : Space} (he : k.spaces[1]? = some e) : e.asid = 1 := by
 rw [h.spaces] at he
 cases he; rfl
theorem Last.two {c : Conf} {k : Kernel} (h : Last c k) : 1 < k.spaces.length := by rw [h.spaces]; simp
theorem start_pok {c : Conf} (hc : Cd c) : (newK c).pool.Ok := (newP_take hc).ok hc.d hc.n
theorem start_aok {c : Conf} (hc : Cd c) : (newK c).asids.Ok := by rw [new_asids hc]; exact ⟨by decide, by decide, by decide⟩
theorem start_msz {c : Conf} (hc : Cd c) : (newK c).mem.size ≤ 1099511627776 := by
 show (freshM (newM c) (newP c)).size ≤ _
 rw [freshM_size]; exact hc.big
theorem start_tlb {c : Conf} (hc : Cd c) : (newK c).hart.tlb.Ok := ⟨by show (List.replicate c.sets.toNat Set.zero).length ≤ 16; rw [List.length_replicate]; have := hc.s2; omega, fun s hs => by
 rw [List.eq_of_mem_replicate (show s ∈ List.replicate c.sets.toNat Set.zero from hs)]
 exact ⟨fun h => (by cases h), fun h => (by cases h), fun h => (by cases h), fun h => (by cases h)⟩⟩
theorem start_shb {c : Conf} (hc : Cd c) : (newK c).shared < 18446744073709551616 := by rw [new_shared hc]; have := hc.d; omega
theorem mod3 (n : Nat) : kindB (((n % 3 : Nat)) : Int) = true := by
 unfold kindB
 have := Nat.mod_lt n (show 0 < 3 by decide)
 simp; omega
theorem modW {n : Nat} (hn : n < 256) : kindB (IntKind.i64.wrap (Int.tmod ((n : Nat) : Int) 3)) = true := by
 have h : ∀ m : Fin 256, kindB (IntKind.i64.wrap (Int.tmod ((m.val : Nat) : Int) 3)) = true := by decide +kernel
 exact h ⟨n, hn⟩
end D
end Go.Proofs.YtfkmcdkncmapmaaGreatDoor
