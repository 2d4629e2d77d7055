/- rat.Parts -/
import Derived.Test.YtgajpmcjjefghaaGreatDoorRatPlain
import Derived.Test.YtgajpmcjjefghaaGreatDoorPRatBelow
import Derived.Deep.RegionHeld3
namespace Go.Proofs.YtgajpmcjjefghaaGreatDoor
open Go.RowKit Go.Att

theorem parts_any {w : World} {v : Value} {q : Rat} (hq : RdQ w v q) (h1 : (limbs q.num.natAbs).length ≤ 1000000) (h2 : (limbs q.den).length ≤ 1000000) :
    Calls Tryz.prog 27 #[v] w (Gives w fun v' w' => ∃ n d, v' = .tuple #[.bool (decide (q.num < 0)), n, d] ∧ OwnL 57 w.heap.size w' n (limbs q.num.natAbs) ∧ OwnL 57 w.heap.size w' d (limbs q.den)) := by
  refine via fun R hR => ?_
  obtain ⟨n, d, rfl, hn, hd⟩ := hq
  have HN := Lib.hid hn
  have HD := Lib.hid hd
  clear hn hd
  have b1 := Ext.alloc w (.cells #[.bool (decide (q.num < 0)), n, d] 26)
  have C1 := Lib.hid (Box3.new w (.bool (decide (q.num < 0))) n d 26)
  go_enter Tryz.func27, Tryz.ntmps27
  go_wp2_with fail
  generalize w.alloc (.cells #[.bool (decide (q.num < 0)), n, d] 26) = w1 at *
  have s1 := b1.size
  have b2 := drew_ext w1
  have XE := b2
  go_region_held3 (fun w' => w'.cell? ⟨w.heap.size, 0, none⟩ = some (.bool (decide (q.num < 0))) ∧ w'.cell? ⟨w.heap.size, 1, none⟩ = some (n) ∧ w'.cell? ⟨w.heap.size, 2, none⟩ = some (d)) (exact C1.out.ext XE)
    (first
     | (go_at_call 53; refine (norm_any O4.out (by have := bel_len q.den; omega)).mono ?_; rintro e w5 ⟨v5, rfl, b5, o5⟩; have O5 := Lib.hid o5; clear o5; (first | have XE := Ext.trans XE b5 | have XE := Ext.trans (Ext.trans XE (Ext.alloc _ _)) b5))
     | (go_at_call 46; refine (below_any (HD.out.ext (Ext.trans b1 (Ext.trans b2 b3)))).mono ?_; rintro e w4 ⟨v4, rfl, b4, o4⟩; have O4 := Lib.hid o4; clear o4; (first | have XE := Ext.trans XE b4 | have XE := Ext.trans (Ext.trans XE (Ext.alloc _ _)) b4))
     | (go_at_call 53; refine (norm_any (HN.out.ext (Ext.trans b1 b2)) (by omega)).mono ?_; rintro e w3 ⟨v3, rfl, b3, o3⟩; have O3 := Lib.hid o3; clear o3; (first | have XE := Ext.trans XE b3 | have XE := Ext.trans (Ext.trans XE (Ext.alloc _ _)) b3)))
  rw [nv_limbs] at O3
  rw [nv_bel] at O5
  go_wp2
  go_ret3
  exact hR.out _ _ (Gives.mk (Ext.trans b1 (Ext.trans b2 (Ext.trans b3 (Ext.trans b4 b5)))) ⟨_, _, rfl, (O3.out.ext (Ext.trans b4 b5)).mono s1, O5.out.mono (Nat.le_trans s1 (Below.size (Ext.trans b2 (Ext.trans b3 b4))))⟩)
end Go.Proofs.YtgajpmcjjefghaaGreatDoor
