/- The shelf's contracts of strings.TrimPrefix and strings.Cut at this program: written by the kit's lay-plain, its numbers by name. -/
import Derived.Shelf.Strings.Shaped
import Derived.Shelf.Strings.Prefix
import Derived.WalkSmall
import Derived.Test.YtgajpmcjjefghaaDoorPRtext
import Derived.Test.YtgajpmcjjefghaaDoorPParse
namespace Go.Proofs
open Go.Shelf Go.RowKit
def Tryd.lays101_ren : Go.Shelf.Ren := ⟨fun | 101 => 61 | 208 => 87 | 206 => 99 | n => n, fun | 9 => 9 | 4 => 4 | 3 => 3 | n => n, fun | n => n⟩
theorem Tryd.lays101 : Go.Proofs.Lays.n101 Tryd.prog Tryd.lays101_ren := {
  mixed := by kernel_rfl
  f101 := Tryd.func61.trans (congrArg some (by kernel_rfl))
  f206 := Tryd.func99.trans (congrArg some (by kernel_rfl))
  f208 := Tryd.func87.trans (congrArg some (by kernel_rfl))
  t3 := Tryd.underlying3
  a3 := Tryd.isAgg3
  z3 := Tryd.sizeOf3
  v3 := Tryd.zeroValue3
  t4 := Tryd.underlying4
  a4 := Tryd.isAgg4
  z4 := Tryd.sizeOf4
  v4 := Tryd.zeroValue4
  t9 := Tryd.underlying9
  a9 := Tryd.isAgg9
  z9 := Tryd.sizeOf9
  v9 := Tryd.zeroValue9 }
def Tryd.laysM145_ren : Go.Shelf.Ren := ⟨fun | 145 => 62 | 220 => 88 | 219 => 103 | 217 => 113 | 225 => 114 | 224 => 115 | 267 => 116 | 266 => 120 | 314 => 121 | n => n, fun | 9 => 9 | 4 => 4 | 59 => 92 | 3 => 3 | 5 => 5 | 46 => 79 | 146 => 134 | 51 => 71 | n => n, fun | 1 => 0 | n => n⟩
theorem Tryd.laysM145 : Go.Proofs.LaysM.n145 Tryd.prog Tryd.laysM145_ren := {
  mixed := by kernel_rfl
  f145 := Tryd.func62.trans (congrArg some (by kernel_rfl))
  f217 := Tryd.func113.trans (congrArg some (by kernel_rfl))
  f219 := Tryd.func103.trans (congrArg some (by kernel_rfl))
  f220 := Tryd.func88.trans (congrArg some (by kernel_rfl))
  f224 := Tryd.func115.trans (congrArg some (by kernel_rfl))
  f225 := Tryd.func114.trans (congrArg some (by kernel_rfl))
  f266 := Tryd.func120.trans (congrArg some (by kernel_rfl))
  f267 := Tryd.func116.trans (congrArg some (by kernel_rfl))
  f314 := Tryd.func121.trans (congrArg some (by kernel_rfl))
  t3 := Tryd.underlying3
  a3 := Tryd.isAgg3
  z3 := Tryd.sizeOf3
  v3 := Tryd.zeroValue3
  t4 := Tryd.underlying4
  a4 := Tryd.isAgg4
  z4 := Tryd.sizeOf4
  v4 := Tryd.zeroValue4
  t5 := Tryd.underlying5
  a5 := Tryd.isAgg5
  z5 := Tryd.sizeOf5
  v5 := Tryd.zeroValue5
  t9 := Tryd.underlying9
  a9 := Tryd.isAgg9
  z9 := Tryd.sizeOf9
  v9 := Tryd.zeroValue9
  t46 := Tryd.underlying79
  a46 := Tryd.isAgg79
  z46 := Tryd.sizeOf79
  v46 := Tryd.zeroValue79
  t51 := Tryd.underlying71
  a51 := Tryd.isAgg71
  z51 := Tryd.sizeOf71
  v51 := Tryd.zeroValue71
  t59 := Tryd.underlying92
  a59 := Tryd.isAgg92
  z59 := Tryd.sizeOf92
  v59 := Tryd.zeroValue92
  t146 := Tryd.underlying134
  a146 := Tryd.isAgg134
  z146 := Tryd.sizeOf134
  v146 := Tryd.zeroValue134
  g1 := by kernel_rfl
  i3 := by kernel_rfl
  i4 := by kernel_rfl
  i5 := by kernel_rfl
  i9 := by kernel_rfl
  i46 := by kernel_rfl
  i51 := by kernel_rfl
  i59 := by kernel_rfl
  i146 := by kernel_rfl
  m1 := by kernel_rfl
  s1_3 := fun w h => Go.Proofs.cell_of_shapedOpen_int (zero := #[.int .i64 0]) (t := 3) h (of_decide_eq_true (by kernel_rfl)) (by kernel_rfl) rfl (by kernel_rfl) (by kernel_rfl) Tryd.underlying3 }

theorem Tryd.strings_TrimPrefix (s p : ByteArray) (w : World) :
    Calls Tryd.prog 61 #[.string s, .string p] w fun e w' => e = .returned (.string ⟨(Lib.trimPrefix s.data.toList p.data.toList).toArray⟩) ∧ w' = w := Any.strings_TrimPrefix Tryd.lays101 s p w
theorem Tryd.strings_Cut (s sep : ByteArray) (m : Int) (w : World) (hs : s.size < 4294967281) (hm : w.cell? ⟨0, 0, none⟩ = some (.int .i64 m)) :
    Calls Tryd.prog 62 #[.string s, .string sep] w fun e w' => e = .returned (.tuple #[.string ⟨(Lib.cut s.data.toList sep.data.toList).1.toArray⟩, .string ⟨(Lib.cut s.data.toList sep.data.toList).2.1.toArray⟩, .bool (Lib.cut s.data.toList sep.data.toList).2.2]) ∧ ∃ n, w' = w.drewN n :=
  Any.strings_Cut { Tryd.laysM145 with } s sep m w hs hm
/-- The variable's cell in a world of the program's own shape. -/
theorem Tryd.maxLen_cell {w : World} (h : w.ShapedOpen Tryd.prog) : ∃ m, w.cell? ⟨0, 0, none⟩ = some (.int .i64 m) := Tryd.laysM145.s1_3 w h
end Go.Proofs
namespace Go.Proofs.YtgajpmcjjefghaaDoor
open Go.RowKit Go.Att

/-- The bytes of any string. -/
theorem strOf_bsOf (s : ByteArray) : strOf (bsOf s) = s := by
  unfold strOf bsOf
  rw [List.map_map]
  have h : (UInt8.ofNat ∘ UInt8.toNat) = id := by
    funext x
    simp
  rw [h, List.map_id]
theorem bsOf_fit (s : ByteArray) : Fit 256 (bsOf s) := fun x hx => by
  unfold bsOf at hx
  obtain ⟨y, -, rfl⟩ := List.mem_map.1 hx
  exact y.toNat_lt
theorem strOf_list (L : List Nat) : (strOf L).data.toList = L.map UInt8.ofNat := by unfold strOf; rfl
theorem ofNat_inj {x : Nat} {c : UInt8} (hx : x < 256) : (UInt8.ofNat x = c) ↔ x = c.toNat := by
  constructor
  · rintro rfl
    simp
    omega
  · rintro rfl
    simp
/-- Where the byte first stands; the length: nowhere. -/
def pos (c : Nat) (L : List Nat) : Nat := L.findIdx (· == c)
theorem pos_le (c : Nat) (L : List Nat) : pos c L ≤ L.length := List.findIdx_le_length
theorem pos_cons (c x : Nat) (L : List Nat) : pos c (x :: L) = if x = c then 0 else pos c L + 1 := by
  unfold pos
  rw [List.findIdx_cons]
  by_cases h : x = c
  · simp [h]
  · rw [if_neg h, show (x == c) = false by simpa using h]
    rfl
theorem indexByte_pos (c : UInt8) : ∀ {L : List Nat}, Fit 256 L → Lib.indexByte (L.map UInt8.ofNat) c = if pos c.toNat L < L.length then ((pos c.toNat L : Nat) : Int) else -1
  | [], _ => by simp [Lib.indexByte]
  | x :: L, hf => by
    have ih := indexByte_pos c (L := L) fun y hy => hf y (List.mem_cons_of_mem _ hy)
    have hx := hf x List.mem_cons_self
    rw [List.map_cons, Lib.indexByte, ih, pos_cons, List.length_cons]
    by_cases h : x = c.toNat
    · rw [if_pos h, if_pos (by rw [(ofNat_inj hx).2 h]; exact beq_self_eq_true c)]
      simp
    · rw [if_neg h, if_neg (by intro h2; exact h ((ofNat_inj hx).1 (eq_of_beq h2)))]
      by_cases h3 : pos c.toNat L < L.length
      · have e1 : (if pos c.toNat L < L.length then ((pos c.toNat L : Nat) : Int) else -1) = ((pos c.toNat L : Nat) : Int) := if_pos h3
        have e2 : (if pos c.toNat L + 1 < L.length + 1 then ((pos c.toNat L + 1 : Nat) : Int) else -1) = ((pos c.toNat L + 1 : Nat) : Int) := if_pos (by omega)
        have e3 : (((pos c.toNat L : Nat) : Int) == -1) = false := by rw [beq_eq_false_iff_ne]; omega
        rw [e1, e2, e3]
        simp
      · have e1 : (if pos c.toNat L < L.length then ((pos c.toNat L : Nat) : Int) else -1) = -1 := if_neg h3
        have e2 : (if pos c.toNat L + 1 < L.length + 1 then ((pos c.toNat L + 1 : Nat) : Int) else -1) = -1 := if_neg (by omega)
        rw [e1, e2]
        rfl
theorem strOf_ofList (l : List Nat) : (⟨(l.map UInt8.ofNat).toArray⟩ : ByteArray) = strOf l := by unfold strOf; rfl
theorem cut_yes {w : World} {L : List Nat} (c : UInt8) (hf : Fit 256 L) (hl : L.length ≤ 1000000) (hm : ∃ m, w.cell? ⟨0, 0, none⟩ = some (.int .i64 m)) (hp : pos c.toNat L < L.length) :
    Calls Tryd.prog 62 #[.string (strOf L), .string ⟨#[c]⟩] w (Gives w fun v' _ => v' = .tuple #[.string (strOf (L.take (pos c.toNat L))), .string (strOf (L.drop (pos c.toNat L + 1))), .bool true]) := by
  obtain ⟨m, hm⟩ := hm
  refine (Tryd.strings_Cut (strOf L) ⟨#[c]⟩ m w (by rw [strOf_size]; omega) hm).mono ?_
  rintro e w' ⟨rfl, n, rfl⟩
  refine Gives.mk (below_drewN (Below.refl _ _) n) ?_
  have hi := indexByte_pos c hf
  rw [if_pos hp] at hi
  rw [strOf_list]
  have hc : (⟨#[c]⟩ : ByteArray).data.toList = [c] := rfl
  rw [hc]
  unfold Lib.cut
  rw [Lib.index_one, hi, if_pos (by omega), Int.toNat_natCast]
  dsimp only [List.length_singleton]
  rw [← List.map_take, ← List.map_drop, strOf_ofList, strOf_ofList]
theorem cut_no {w : World} {L : List Nat} (c : UInt8) (hf : Fit 256 L) (hl : L.length ≤ 1000000) (hm : ∃ m, w.cell? ⟨0, 0, none⟩ = some (.int .i64 m)) (hp : ¬ pos c.toNat L < L.length) :
    Calls Tryd.prog 62 #[.string (strOf L), .string ⟨#[c]⟩] w (Gives w fun v' _ => v' = .tuple #[.string (strOf L), .string ⟨#[]⟩, .bool false]) := by
  obtain ⟨m, hm⟩ := hm
  refine (Tryd.strings_Cut (strOf L) ⟨#[c]⟩ m w (by rw [strOf_size]; omega) hm).mono ?_
  rintro e w' ⟨rfl, n, rfl⟩
  refine Gives.mk (below_drewN (Below.refl _ _) n) ?_
  have hi := indexByte_pos c hf
  rw [if_neg hp] at hi
  rw [strOf_list]
  have hc : (⟨#[c]⟩ : ByteArray).data.toList = [c] := rfl
  rw [hc]
  unfold Lib.cut
  rw [Lib.index_one, hi, if_neg (by omega)]
  dsimp only
  rw [strOf_ofList]
/-- A leading '-' taken off. -/
def stripN : List Nat → Bool × List Nat
  | [] => (false, [])
  | x :: r => if x = 45 then (true, r) else (false, x :: r)
theorem trim45_any {w : World} {L : List Nat} (hf : Fit 256 L) :
    Calls Tryd.prog 61 #[.string (strOf L), .string ⟨#[45]⟩] w (Gives w fun v' _ => v' = .string (strOf (stripN L).2)) := by
  refine (Tryd.strings_TrimPrefix (strOf L) ⟨#[45]⟩ w).mono ?_
  rintro e w' ⟨rfl, rfl⟩
  refine Gives.mk (Ext.refl _) ?_
  rw [strOf_list]
  have hc : (⟨#[45]⟩ : ByteArray).data.toList = [45] := rfl
  rw [hc]
  unfold Lib.trimPrefix Lib.hasPrefix
  cases L with
  | nil => simp [stripN, strOf_nil]
  | cons x r =>
    have hx := hf x List.mem_cons_self
    unfold stripN
    by_cases h : x = 45
    · subst h
      simp [strOf_ofList]
    · have h2 : ¬ UInt8.ofNat x = 45 := fun h3 => h ((ofNat_inj hx).1 h3)
      have h4 : ¬ (45 : UInt8) = UInt8.ofNat x := fun h3 => h2 h3.symm
      simp [h, h4]
      rw [← List.map_cons, strOf_ofList]
theorem stripN_cons (x : Nat) (r : List Nat) : stripN (x :: r) = if x = 45 then (true, r) else (false, x :: r) := rfl
theorem stripN_len (L : List Nat) : (stripN L).2.length = L.length - (if (stripN L).1 then 1 else 0) := by
  cases L with
  | nil => rfl
  | cons x r =>
    rw [stripN_cons]
    by_cases h : x = 45
    · rw [if_pos h]; simp
    · rw [if_neg h]; simp
theorem stripN_fit {L : List Nat} (hf : Fit 256 L) : Fit 256 (stripN L).2 := by
  cases L with
  | nil => exact hf
  | cons x r =>
    rw [stripN_cons]
    by_cases h : x = 45
    · rw [if_pos h]; exact fun y hy => hf y (List.mem_cons_of_mem _ hy)
    · rw [if_neg h]; exact hf
end Go.Proofs.YtgajpmcjjefghaaDoor
