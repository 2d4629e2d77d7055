/- Short names for the steps of a drawn region. Nothing here names the program. -/
import Derived.Deep.RegionHeld3
import Derived.KernelRfl
namespace Go.Att

theorem jP (a : Act) (d : Tmp) (v : Value) : a.put (some d) v = { a with tmps := a.tmps.setIfInBounds d v } := rfl
theorem jA {α : Type} {xs : List α} {i : Nat} (h : i < xs.toArray.size) : xs.toArray[i] = xs[i]'(by simpa using h) := rfl
theorem jB {α : Type} {a : α} {as : List α} {i : Nat} {h : i + 1 < (a :: as).length} : (a :: as)[i + 1]'h = as[i]'(Nat.lt_of_succ_lt_succ h) := rfl
theorem jC {α : Type} {a : α} {as : List α} {h : 0 < (a :: as).length} : (a :: as)[0]'h = a := rfl
theorem jD {α : Type} (l : List α) (i : Nat) (a : α) : l.toArray.setIfInBounds i a = (l.set i a).toArray := List.setIfInBounds_toArray ..
theorem jE {α : Type} {a b : α} {as : List α} : (a :: as).set 0 b = b :: as := rfl
theorem jF {α : Type} {a b : α} {as : List α} {i : Nat} : (a :: as).set (i + 1) b = a :: as.set i b := rfl
section
variable {P : Program} {ops : Array Oper} {Q : Exit → Act → World → Prop} {md : Region.Mode} {S : World → Prop}
theorem tkH {oi : Oper} {v : Value} {n : Nat} {l : Array Bool} {a : Act} {w : World} (i : Nat) (hS : S w)
    (h : wpAnyH P md ops Q S n (l.setIfInBounds i true) (a.put oi.dst v) w) (hi : ops[i]? = some oi := by rfl) (hb : (Region.noSelect ops && Region.free md ops l i && (Region.ready md ops l).contains i) = true := by kernel_rfl)
    (hQ : ∀ c a w, Q (.panic c) (a.put oi.dst v) w → Q (.panic c) a w := by exact fun _ _ _ h => h) (hw : Region.wanted oi (yielded ops a.tmps) = true := by rfl) (hy : ∀ w, S w → (execOp a.eval oi).run P w = .ok (.value v) w := by (intro w0 hSw; (try dsimp only at hSw); go_simp; try with_reducible rfl)) : wpAnyH P md ops Q S (n + 1) l a w := by
  simp only [Bool.and_eq_true] at hb
  exact wpAnyH_take hi hb.1.1 hb.1.2 hb.2 hQ (.inl ⟨hw, hy⟩) hS h
theorem rdH {o : Oper} {n : Nat} {l : Array Bool} {a : Act} {w : World} (i : Nat) (hr : Region.ready md ops l = [i]) (ho : ops[i]? = some o)
    (h : ∀ K' : Act → World → Prop, Shut (∀ a w, S w → (S w → wpAnyH P md ops Q S n (l.setIfInBounds i true) a w) → K' a w) → if Region.wanted o (yielded ops a.tmps) = true then Oper.wp P o a w K' Q else K' (a.put o.dst undef) w) : wpAnyH P md ops Q S (n + 1) l a w :=
  wpAnyH_ready hr (by simp) (AllReadyH.cons ho h AllReadyH.nil)
end
end Go.Att
