/- From what a law's arguments read as to what its walk is told. -/
import Derived.Test.YtnbbhpihlcglgaaRows
import Derived.Test.YtnbbhpihlcglgaaNumAll
import Derived.ProofKit
import Derived.OpenShut
import Derived.JoinedCond
namespace Go.Proofs.Ytnbbhpihlcglgaa
open Go.ChangeShapes Go.WideShapes Go.ChangeAt Go.RowKit Go.Att

theorem bulk_one {H : Type} (d : DataW H) : 1 ≤ Rows.uptoBulk d := by
  cases d with
  | lit l => cases l <;> simp [Rows.uptoBulk]
  | _ => simp [Rows.uptoBulk]
theorem bulk_len {H : Type} (l : List (DataW H)) : l.length ≤ Rows.uptoBulkAll l := by
  induction l with
  | nil => simp [Rows.uptoBulkAll]
  | cons x r ih => have := bulk_one x; simp only [Rows.uptoBulkAll, List.length_cons]; omega
theorem bulk_small {H : Type} {l : List (DataW H)} (hk : Rows.uptoSmall H l = true) : Rows.uptoBulkAll l ≤ 1048576 := of_decide_eq_true hk
theorem bulk_cons {H : Type} (d : DataW H) (l : List (DataW H)) : Rows.uptoBulkAll (d :: l) = Rows.uptoBulk d + Rows.uptoBulkAll l := by simp only [Rows.uptoBulkAll]
theorem bulk_nil {H : Type} : Rows.uptoBulkAll ([] : List (DataW H)) = 0 := by simp only [Rows.uptoBulkAll]

theorem nats_of {H : Type} {enc : TypeId × Value → H} {P : Program} {W : World} {spare : Nat → Bool} {held : Bool} {t e : TypeId} {k : IntKind} {a0 : Option Addr} {len0 cap0 fuel : Nat} {d : DataW H} {ps : List MemPlace}
    (ht : P.underlying t = some (.slice e)) (he : P.underlying e = some (.int k)) (hc : P.cellsOf e = 1) (hk : k.signed = false) (hf : DataW.trod enc P W 0 spare held fuel t [.slice a0 len0 cap0] = some (d, ps)) :
    ∃ xs : List Nat, RdI k W (.slice a0 len0 cap0) xs ∧ Fit (2 ^ k.bits) xs ∧ xs.length + 1 ≤ Rows.uptoBulk d := by
  rcases open_ints ht he hc hf with ⟨hcs, hx⟩ | ⟨x, l, c, zs, hcs, _, hl, hm, hz, hx, hcell, hwz⟩
  · simp at hcs
    obtain ⟨rfl, rfl, rfl⟩ := hcs
    exact ⟨[], RdI.nil _ _, Fit.nil _, bulk_one d⟩
  · simp at hcs
    obtain ⟨rfl, rfl, rfl⟩ := hcs
    simp only [Prod.mk.injEq] at hx
    obtain ⟨rfl, _⟩ := hx
    have hlen : len0 ≤ zs.length := by rw [hz]; split <;> omega
    have hwf : ∀ n ∈ zs, 0 ≤ n ∧ n < 2 ^ k.bits := by
      intro n hn
      have := hwz n hn
      cases k <;> simp [IntKind.signed] at hk <;> simp [Lit.wf, IntKind.min, IntKind.max, IntKind.bits, IntKind.signed] at this ⊢ <;> omega
    have hl2 : (zs.take len0).length = len0 := by rw [List.length_take]; omega
    refine ⟨(zs.take len0).map Int.toNat, ?_, ?_, ?_⟩
    · unfold RdI RdV
      rw [len_ints, List.length_map, hl2, Nat.mul_one]
      refine ⟨rfl, some x, cap0, rfl, hl, hm, (fun h => by cases h), fun i hi => ?_⟩
      have hci := hcell i (by omega)
      have hsp : x = ⟨x.block, x.off, none⟩ := by
        have h0 := hcell 0 (by omega)
        obtain ⟨b, o, sp⟩ := x
        cases sp with
        | none => rfl
        | some s =>
          simp [Addr.add, World.cell?] at h0
          split at h0 <;> simp at h0
      refine ⟨x.block, x.off, by rw [← hsp], ?_⟩
      rw [hsp, Addr.add_lit] at hci
      rw [hci]
      simp [ints, hi, List.getD]
      have hi2 : i < zs.length := by omega
      rw [List.getElem?_eq_getElem hi2]
      have := hwf zs[i] (List.getElem_mem hi2)
      simp
      omega
    · intro y hy
      obtain ⟨n, hn, rfl⟩ := List.mem_map.1 hy
      have := hwf n (List.mem_of_mem_take hn)
      have e : ((2 ^ k.bits : Nat) : Int) = 2 ^ k.bits := by simp
      omega
    · rw [List.length_map]
      simp only [Rows.uptoBulk]
      have := bulk_len (H := H) (lits k (zs.take len0))
      simp [lits] at this ⊢
      omega
theorem open_nats {H : Type} {enc : TypeId × Value → H} {P : Program} {W : World} {spare : Nat → Bool} {held : Bool} {t e : TypeId} {k : IntKind} {v : Value} {r : Reach} {b0 : Nat} {d : DataW H} {ps : List MemPlace}
    (ht : P.underlying t = some (.slice e)) (he : P.underlying e = some (.int k)) (hc : P.cellsOf e = 1) (hk : k.signed = false) (hval : Value.okWide P W r b0 t v) (h : DataW.Trod enc P W 0 spare held t v d ps) :
    ∃ xs : List Nat, RdI k W v xs ∧ Fit (2 ^ k.bits) xs ∧ xs.length + 1 ≤ Rows.uptoBulk d := by
  obtain ⟨a0, len0, cap0, rfl⟩ := okWide_slice ht hval
  obtain ⟨fuel, hf⟩ := h
  exact nats_of ht he hc hk (by simpa [Value.cells] using hf)
set_option maxRecDepth 100000 in
theorem open_u32s {H : Type} {enc : TypeId × Value → H} {W : World} {spare : Nat → Bool} {held : Bool} {v : Value} {r : Reach} {b0 : Nat} {d : DataW H} {ps : List MemPlace}
    (hval : Value.okWide Try.prog W r b0 23 v) (h : DataW.Trod enc Try.prog W 0 spare held 23 v d ps) : ∃ xs : List Nat, RdL W v xs ∧ xs.length + 1 ≤ Rows.uptoBulk d := by
  obtain ⟨xs, h1, h2, h3⟩ := open_nats Try.underlying23 Try.underlying163 (by kernel_rfl) rfl hval h
  exact ⟨xs, ⟨h1, h2⟩, h3⟩
theorem wf_int {a : Int} (h : (Lit.int .i64 a).wf = true) : -9223372036854775808 ≤ a ∧ a ≤ 9223372036854775807 := by
  simp [Lit.wf, IntKind.min, IntKind.max, IntKind.bits, IntKind.signed] at h; omega
theorem wf_u64 {a : Int} (h : (Lit.int .u64 a).wf = true) : 0 ≤ a ∧ a ≤ 18446744073709551615 := by
  simp [Lit.wf, IntKind.min, IntKind.max, IntKind.bits, IntKind.signed] at h; omega
theorem wf_u32 {a : Int} (h : (Lit.int .u32 a).wf = true) : 0 ≤ a ∧ a ≤ 4294967295 := by
  simp [Lit.wf, IntKind.min, IntKind.max, IntKind.bits, IntKind.signed] at h; omega
end Go.Proofs.Ytnbbhpihlcglgaa
