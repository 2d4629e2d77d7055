/- The shelf's contracts of strings.TrimPrefix and strings.Cut at this program: written by the kit's lay-plain, its numbers by name. -/
import Derived.Shelf.Strings.Shaped
import Derived.Shelf.Strings.Prefix
import Derived.WalkSmall
import Derived.Test.YtgajpmcjjefghaaGreatDoorPRtext
import Derived.Test.YtgajpmcjjefghaaGreatDoorPParse
namespace Go.Proofs
open Go.Shelf Go.RowKit
def Tryz.lays101_ren : Go.Shelf.Ren := ⟨fun | 101 => 37 | 208 => 62 | 206 => 77 | n => n, fun | 9 => 9 | 4 => 4 | 3 => 3 | n => n, fun | n => n⟩
theorem Tryz.lays101 : Go.Proofs.Lays.n101 Tryz.prog Tryz.lays101_ren := {
  mixed := by kernel_rfl
  f101 := Tryz.func37.trans (congrArg some (by kernel_rfl))
  f206 := Tryz.func77.trans (congrArg some (by kernel_rfl))
  f208 := Tryz.func62.trans (congrArg some (by kernel_rfl))
  t3 := Tryz.underlying3
  a3 := Tryz.isAgg3
  z3 := Tryz.sizeOf3
  v3 := Tryz.zeroValue3
  t4 := Tryz.underlying4
  a4 := Tryz.isAgg4
  z4 := Tryz.sizeOf4
  v4 := Tryz.zeroValue4
  t9 := Tryz.underlying9
  a9 := Tryz.isAgg9
  z9 := Tryz.sizeOf9
  v9 := Tryz.zeroValue9 }
def Tryz.laysM145_ren : Go.Shelf.Ren := ⟨fun | 145 => 38 | 220 => 63 | 219 => 78 | 217 => 90 | 225 => 91 | 224 => 92 | 267 => 93 | 266 => 102 | 314 => 103 | n => n, fun | 9 => 9 | 4 => 4 | 59 => 74 | 3 => 3 | 5 => 5 | 46 => 96 | 146 => 133 | 51 => 57 | n => n, fun | 1 => 0 | n => n⟩
theorem Tryz.laysM145 : Go.Proofs.LaysM.n145 Tryz.prog Tryz.laysM145_ren := {
  mixed := by kernel_rfl
  f145 := Tryz.func38.trans (congrArg some (by kernel_rfl))
  f217 := Tryz.func90.trans (congrArg some (by kernel_rfl))
  f219 := Tryz.func78.trans (congrArg some (by kernel_rfl))
  f220 := Tryz.func63.trans (congrArg some (by kernel_rfl))
  f224 := Tryz.func92.trans (congrArg some (by kernel_rfl))
  f225 := Tryz.func91.trans (congrArg some (by kernel_rfl))
  f266 := Tryz.func102.trans (congrArg some (by kernel_rfl))
  f267 := Tryz.func93.trans (congrArg some (by kernel_rfl))
  f314 := Tryz.func103.trans (congrArg some (by kernel_rfl))
  t3 := Tryz.underlying3
  a3 := Tryz.isAgg3
  z3 := Tryz.sizeOf3
  v3 := Tryz.zeroValue3
  t4 := Tryz.underlying4
  a4 := Tryz.isAgg4
  z4 := Tryz.sizeOf4
  v4 := Tryz.zeroValue4
  t5 := Tryz.underlying5
  a5 := Tryz.isAgg5
  z5 := Tryz.sizeOf5
  v5 := Tryz.zeroValue5
  t9 := Tryz.underlying9
  a9 := Tryz.isAgg9
  z9 := Tryz.sizeOf9
  v9 := Tryz.zeroValue9
  t46 := Tryz.underlying96
  a46 := Tryz.isAgg96
  z46 := Tryz.sizeOf96
  v46 := Tryz.zeroValue96
  t51 := Tryz.underlying57
  a51 := Tryz.isAgg57
  z51 := Tryz.sizeOf57
  v51 := Tryz.zeroValue57
  t59 := Tryz.underlying74
  a59 := Tryz.isAgg74
  z59 := Tryz.sizeOf74
  v59 := Tryz.zeroValue74
  t146 := Tryz.underlying133
  a146 := Tryz.isAgg133
  z146 := Tryz.sizeOf133
  v146 := Tryz.zeroValue133
  g1 := by kernel_rfl
  i3 := by kernel_rfl
  i4 := by kernel_rfl
  i5 := by kernel_rfl
  i9 := by kernel_rfl
  i46 := by kernel_rfl
  i51 := by kernel_rfl
  i59 := by kernel_rfl
  i146 := by kernel_rfl
  m1 := by kernel_rfl
  s1_3 := fun w h => Go.Proofs.cell_of_shapedOpen_int (zero := #[.int .i64 0]) (t := 3) h (of_decide_eq_true (by kernel_rfl)) (by kernel_rfl) rfl (by kernel_rfl) (by kernel_rfl) Tryz.underlying3 }

theorem Tryz.strings_TrimPrefix (s p : ByteArray) (w : World) :
    Calls Tryz.prog 37 #[.string s, .string p] w fun e w' => e = .returned (.string ⟨(Lib.trimPrefix s.data.toList p.data.toList).toArray⟩) ∧ w' = w := Any.strings_TrimPrefix Tryz.lays101 s p w
theorem Tryz.strings_Cut (s sep : ByteArray) (m : Int) (w : World) (hs : s.size < 4294967281) (hm : w.cell? ⟨0, 0, none⟩ = some (.int .i64 m)) :
    Calls Tryz.prog 38 #[.string s, .string sep] w fun e w' => e = .returned (.tuple #[.string ⟨(Lib.cut s.data.toList sep.data.toList).1.toArray⟩, .string ⟨(Lib.cut s.data.toList sep.data.toList).2.1.toArray⟩, .bool (Lib.cut s.data.toList sep.data.toList).2.2]) ∧ ∃ n, w' = w.drewN n :=
  Any.strings_Cut { Tryz.laysM145 with } s sep m w hs hm
/-- The variable's cell in a world of the program's own shape. -/
theorem Tryz.maxLen_cell {w : World} (h : w.ShapedOpen Tryz.prog) : ∃ m, w.cell? ⟨0, 0, none⟩ = some (.int .i64 m) := Tryz.laysM145.s1_3 w h
end Go.Proofs
namespace Go.Proofs.YtgajpmcjjefghaaGreatDoor
open Go.RowKit Go.Att

/-- The bytes of any string. -/
theorem strOf_bsOf (s : ByteArray) : strOf (bsOf s) = s := by
  unfold strOf bsOf
  rw [List.map_map]
  have h : (UInt8.ofNat ∘ UInt8.toNat) = id := by
    funext x
    simp
  rw [h, List.map_id]
theorem bsOf_fit (s : ByteArray) : Fit 256 (bsOf s) := fun x hx => by
  unfold bsOf at hx
  obtain ⟨y, -, rfl⟩ := List.mem_map.1 hx
  exact y.toNat_lt
theorem strOf_list (L : List Nat) : (strOf L).data.toList = L.map UInt8.ofNat := by unfold strOf; rfl
theorem ofNat_inj {x : Nat} {c : UInt8} (hx : x < 256) : (UInt8.ofNat x = c) ↔ x = c.toNat := by
  constructor
  · rintro rfl
    simp
    omega
  · rintro rfl
    simp
/-- Where the byte first stands; the length: nowhere. -/
def pos (c : Nat) (L : List Nat) : Nat := L.findIdx (· == c)
theorem pos_le (c : Nat) (L : List Nat) : pos c L ≤ L.length := List.findIdx_le_length
theorem pos_cons (c x : Nat) (L : List Nat) : pos c (x :: L) = if x = c then 0 else pos c L + 1 := by
  unfold pos
  rw [List.findIdx_cons]
  by_cases h : x = c
  · simp [h]
  · rw [if_neg h, show (x == c) = false by simpa using h]
    rfl
theorem indexByte_pos (c : UInt8) : ∀ {L : List Nat}, Fit 256 L → Lib.indexByte (L.map UInt8.ofNat) c = if pos c.toNat L < L.length then ((pos c.toNat L : Nat) : Int) else -1
  | [], _ => by simp [Lib.indexByte]
  | x :: L, hf => by
    have ih := indexByte_pos c (L := L) fun y hy => hf y (List.mem_cons_of_mem _ hy)
    have hx := hf x List.mem_cons_self
    rw [List.map_cons, Lib.indexByte, ih, pos_cons, List.length_cons]
    by_cases h : x = c.toNat
    · rw [if_pos h, if_pos (by rw [(ofNat_inj hx).2 h]; exact beq_self_eq_true c)]
      simp
    · rw [if_neg h, if_neg (by intro h2; exact h ((ofNat_inj hx).1 (eq_of_beq h2)))]
      by_cases h3 : pos c.toNat L < L.length
      · have e1 : (if pos c.toNat L < L.length then ((pos c.toNat L : Nat) : Int) else -1) = ((pos c.toNat L : Nat) : Int) := if_pos h3
        have e2 : (if pos c.toNat L + 1 < L.length + 1 then ((pos c.toNat L + 1 : Nat) : Int) else -1) = ((pos c.toNat L + 1 : Nat) : Int) := if_pos (by omega)
        have e3 : (((pos c.toNat L : Nat) : Int) == -1) = false := by rw [beq_eq_false_iff_ne]; omega
        rw [e1, e2, e3]
        simp
      · have e1 : (if pos c.toNat L < L.length then ((pos c.toNat L : Nat) : Int) else -1) = -1 := if_neg h3
        have e2 : (if pos c.toNat L + 1 < L.length + 1 then ((pos c.toNat L + 1 : Nat) : Int) else -1) = -1 := if_neg (by omega)
        rw [e1, e2]
        rfl
theorem strOf_ofList (l : List Nat) : (⟨(l.map UInt8.ofNat).toArray⟩ : ByteArray) = strOf l := by unfold strOf; rfl
theorem cut_yes {w : World} {L : List Nat} (c : UInt8) (hf : Fit 256 L) (hl : L.length ≤ 1000000) (hm : ∃ m, w.cell? ⟨0, 0, none⟩ = some (.int .i64 m)) (hp : pos c.toNat L < L.length) :
    Calls Tryz.prog 38 #[.string (strOf L), .string ⟨#[c]⟩] w (Gives w fun v' _ => v' = .tuple #[.string (strOf (L.take (pos c.toNat L))), .string (strOf (L.drop (pos c.toNat L + 1))), .bool true]) := by
  obtain ⟨m, hm⟩ := hm
  refine (Tryz.strings_Cut (strOf L) ⟨#[c]⟩ m w (by rw [strOf_size]; omega) hm).mono ?_
  rintro e w' ⟨rfl, n, rfl⟩
  refine Gives.mk (below_drewN (Below.refl _ _) n) ?_
  have hi := indexByte_pos c hf
  rw [if_pos hp] at hi
  rw [strOf_list]
  have hc : (⟨#[c]⟩ : ByteArray).data.toList = [c] := rfl
  rw [hc]
  unfold Lib.cut
  rw [Lib.index_one, hi, if_pos (by omega), Int.toNat_natCast]
  dsimp only [List.length_singleton]
  rw [← List.map_take, ← List.map_drop, strOf_ofList, strOf_ofList]
theorem cut_no {w : World} {L : List Nat} (c : UInt8) (hf : Fit 256 L) (hl : L.length ≤ 1000000) (hm : ∃ m, w.cell? ⟨0, 0, none⟩ = some (.int .i64 m)) (hp : ¬ pos c.toNat L < L.length) :
    Calls Tryz.prog 38 #[.string (strOf L), .string ⟨#[c]⟩] w (Gives w fun v' _ => v' = .tuple #[.string (strOf L), .string ⟨#[]⟩, .bool false]) := by
  obtain ⟨m, hm⟩ := hm
  refine (Tryz.strings_Cut (strOf L) ⟨#[c]⟩ m w (by rw [strOf_size]; omega) hm).mono ?_
  rintro e w' ⟨rfl, n, rfl⟩
  refine Gives.mk (below_drewN (Below.refl _ _) n) ?_
  have hi := indexByte_pos c hf
  rw [if_neg hp] at hi
  rw [strOf_list]
  have hc : (⟨#[c]⟩ : ByteArray).data.toList = [c] := rfl
  rw [hc]
  unfold Lib.cut
  rw [Lib.index_one, hi, if_neg (by omega)]
  dsimp only
  rw [strOf_ofList]
/-- A leading '-' taken off. -/
def stripN : List Nat → Bool × List Nat
  | [] => (false, [])
  | x :: r => if x = 45 then (true, r) else (false, x :: r)
theorem trim45_any {w : World} {L : List Nat} (hf : Fit 256 L) :
    Calls Tryz.prog 37 #[.string (strOf L), .string ⟨#[45]⟩] w (Gives w fun v' _ => v' = .string (strOf (stripN L).2)) := by
  refine (Tryz.strings_TrimPrefix (strOf L) ⟨#[45]⟩ w).mono ?_
  rintro e w' ⟨rfl, rfl⟩
  refine Gives.mk (Ext.refl _) ?_
  rw [strOf_list]
  have hc : (⟨#[45]⟩ : ByteArray).data.toList = [45] := rfl
  rw [hc]
  unfold Lib.trimPrefix Lib.hasPrefix
  cases L with
  | nil => simp [stripN, strOf_nil]
  | cons x r =>
    have hx := hf x List.mem_cons_self
    unfold stripN
    by_cases h : x = 45
    · subst h
      simp [strOf_ofList]
    · have h2 : ¬ UInt8.ofNat x = 45 := fun h3 => h ((ofNat_inj hx).1 h3)
      have h4 : ¬ (45 : UInt8) = UInt8.ofNat x := fun h3 => h2 h3.symm
      simp [h, h4]
      rw [← List.map_cons, strOf_ofList]
theorem stripN_cons (x : Nat) (r : List Nat) : stripN (x :: r) = if x = 45 then (true, r) else (false, x :: r) := rfl
theorem stripN_len (L : List Nat) : (stripN L).2.length = L.length - (if (stripN L).1 then 1 else 0) := by
  cases L with
  | nil => rfl
  | cons x r =>
    rw [stripN_cons]
    by_cases h : x = 45
    · rw [if_pos h]; simp
    · rw [if_neg h]; simp
theorem stripN_fit {L : List Nat} (hf : Fit 256 L) : Fit 256 (stripN L).2 := by
  cases L with
  | nil => exact hf
  | cons x r =>
    rw [stripN_cons]
    by_cases h : x = 45
    · rw [if_pos h]; exact fun y hy => hf y (List.mem_cons_of_mem _ hy)
    · rw [if_neg h]; exact hf
end Go.Proofs.YtgajpmcjjefghaaGreatDoor
