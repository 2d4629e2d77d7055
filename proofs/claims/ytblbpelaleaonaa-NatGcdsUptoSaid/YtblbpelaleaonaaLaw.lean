/- Laws for make and append at the walk's operations. -/
import Derived.Test.YtblbpelaleaonaaLib
namespace Go.Att
open Go.RowKit

/-- Slice type t has elements of type e: zero value z, 'size' cells, 'bytes' bytes each. -/
structure ElemT (P : Program) (t e : TypeId) (z : Value) (size bytes : Nat) : Prop where
  und : P.underlying t = some (.slice e)
  inf : ∃ i, P.info? e = some i ∧ i.zero = some z ∧ i.size = size ∧ i.bytes = bytes
  cells : z.cells.size = size
  pos : 0 < size
theorem ElemT.mk' {P : Program} {t e : TypeId} {z : Value} {size bytes : Nat} (h1 : P.underlying t = some (.slice e)) (h2 : (P.info? e).map (fun i => (i.zero, i.size, i.bytes)) = some (some z, size, bytes)) (h3 : z.cells.size = size) (h4 : 0 < size) : ElemT P t e z size bytes :=
  ⟨h1, info_parts h2, h3, h4⟩

/-- An operation that runs: without a guard, or where the guard says yes ('rfl' in both cases). -/
theorem wpList_want {P : Program} {w : World} {ops : Array Oper} {rest : List Oper} {o : Oper} {a : Act} {Q : Exit → Act → World → Prop} (hw : Region.wanted o (yielded ops a.tmps) = true)
    (h : ∀ K : Act → World → Prop, (∀ a w, wpList P ops Q rest a w → K a w) → o.wp P a w K Q) : wpList P ops Q (o :: rest) a w :=
  wpList_step fun K hK => by rw [if_pos hw]; exact h K hK
/-- append(s, x...): s the call's own (or nil), x whatever can be read. -/
theorem append_rd {P : Program} {w : World} {ops : Array Oper} {rest : List Oper} {o : Oper} {a : Act} {Q : Exit → Act → World → Prop} {t e : TypeId} {z : Value} {size bytes : Nat} (T : ElemT P t e z size bytes)
    (hgd : Region.wanted o (yielded ops a.tmps) = true) (s x : Operand) (ho : o.op = .call { callee := .builtin .append, args := #[s, x], argTypes := #[t, t] })
    (base : Nat) {v : Value} {n : Nat} {xs : List Value} (hs : a.eval s = v) (hown : w.ownsRow base e size v n xs)
    {v2 : Value} {m : Nat} {news : List Value} (hx : a.eval x = v2) (hr : RdV w v2 size m news) (h1 : ∀ u ∈ news, u.oneCell' = true)
    (h63 : (n + m) * bytes ≤ 140737488355328) (hm63 : n + m ≤ maxLen) (hbase : base ≤ w.heap.size)
    (h : ∀ v' w', w'.ownsRow base e size v' (n + m) (xs ++ news) → Below base w w' → w.grownBy w' v.ownBlock → wpList P ops Q rest (a.put o.dst v') w') : wpList P ops Q (o :: rest) a w := by
  obtain ⟨i, hi, hz, hsz, hby⟩ := T.inf
  have hb : ∀ w', w.grownBy w' v.ownBlock → Below base w w' := fun w' hg =>
    (Below.refl base w).grown hg hbase (fun k hk => (hown.lt k hk).1)
  have hr' := hr
  obtain ⟨hlen, ao, cap, rfl, hmc, hcm, hnone, _⟩ := hr'
  cases ao with
  | some ad => exact wpList_want hgd fun _ hK => wp_append_own w s x t ho base e i z size bytes T.und hi hz hsz hby T.cells T.pos v n xs hs hown ad m cap news hx hlen (hr.news ad rfl) h1 hm63 h63 hbase (fun v' w' a1 a2 _ => hK _ _ (h v' w' a1 (hb w' a2) a2))
  | none =>
    obtain rfl := hnone rfl
    obtain rfl : m = 0 := by omega
    have hnews : news = [] := List.eq_nil_of_length_eq_zero (by simpa using hlen)
    subst hnews
    refine wpList_want hgd fun K hK' => ?_
    have hrun := run_append_owned_none (P := P) w base t o.type e i size T.und hi v n xs hown
    unfold Oper.wp
    simp [execOp, ho, resolve, invoke, builtin, hs, hx, hrun, Result.andThen]
    exact hK' _ _ (by simpa using h v w (by simpa using hown) (Below.refl _ _) (World.grownBy.refl _ _))

/-- make([]T, n) -/
theorem make_full {P : Program} {w : World} {ops : Array Oper} {rest : List Oper} {o : Oper} {a : Act} {Q : Exit → Act → World → Prop} {t e : TypeId} {z : Value} {size bytes : Nat} (T : ElemT P t e z size bytes)
    (hg : o.guard = none) (l c : Operand) (hop : o.op = Op.makeSlice t l c)
    (kl kc : IntKind) (n : Nat) (hl : a.eval l = .int kl n) (hc : a.eval c = .int kc n) (b2 : bytes * n ≤ 281474976710656) (b3 : n ≤ maxLen)
    (hK : ∀ w', w'.ownsRow w.heap.size e size (.slice (some ⟨w.heap.size, 0, none⟩) n n) n (madeCells z.cells (n * size)).toList → Ext w w' → wpList P ops Q rest (a.put o.dst (.slice (some ⟨w.heap.size, 0, none⟩) n n)) w') :
    wpList P ops Q (o :: rest) a w := by
  obtain ⟨i, hi, hz, hsz, hby⟩ := T.inf
  exact wpList_make_full w hg l c t hop w.heap.size e i z size T.und hi hz hsz kl kc n n n hl hc rfl rfl (by rw [hby]; exact b2) b3 (Nat.le_refl _) (fun w' h1 h2 => hK w' h1 (Ext.grown h2))

/-- make([]T, 0, n) -/
theorem make_cap {P : Program} {w : World} {ops : Array Oper} {rest : List Oper} {o : Oper} {a : Act} {Q : Exit → Act → World → Prop} {t e : TypeId} {z : Value} {size bytes : Nat} (T : ElemT P t e z size bytes)
    (hg : o.guard = none) (l c : Operand) (hop : o.op = Op.makeSlice t l c)
    (kl kc : IntKind) (n : Nat) (hl : a.eval l = .int kl 0) (hc : a.eval c = .int kc n) (b2 : bytes * n ≤ 281474976710656) (b3 : n ≤ maxLen)
    (hK : ∀ w', w'.ownsRow w.heap.size e size (.slice (some ⟨w.heap.size, 0, none⟩) 0 n) 0 [] → Ext w w' → wpList P ops Q rest (a.put o.dst (.slice (some ⟨w.heap.size, 0, none⟩) 0 n)) w') :
    wpList P ops Q (o :: rest) a w := by
  obtain ⟨i, hi, hz, hsz, hby⟩ := T.inf
  exact wpList_make_own w hg l c t hop w.heap.size e i z size T.und hi hz hsz kl kc n n hl hc rfl (by rw [hby]; exact b2) b3 (Nat.le_refl _) (fun w' h1 h2 => hK w' h1 (Ext.grown h2))

/-- A one-block literal, as it is read. -/
theorem RdV.lit (w : World) (cs : Array Value) (e : TypeId) (size n : Nat) (hs : cs.size = n * size) (hn : n ≤ maxLen) : RdV (w.alloc (.cells cs e)) (.slice (some ⟨w.heap.size, 0, none⟩) n n) size n cs.toList :=
  RdV.of_owns (World.ownsRow_lit (base := w.heap.size) w cs n (Nat.le_refl _) hn hs)
theorem madeInts (k : IntKind) (n : Nat) : (madeCells (Value.int k 0).cells (n * 1)).toList = ints k (List.replicate n 0) := by
  rw [Nat.mul_one]
  show (madeCells #[Value.int k 0] n).toList = _
  rw [toList_madeCells_one]; simp [ints]
theorem madeBools (n : Nat) : (madeCells (Value.bool false).cells (n * 1)).toList = bools (List.replicate n false) := by
  rw [Nat.mul_one]
  show (madeCells #[Value.bool false] n).toList = _
  rw [toList_madeCells_one]; simp [bools]
def zeros (n : Nat) : List Nat := List.replicate n 0
def nays (n : Nat) : List Bool := List.replicate n false
theorem len_zeros (n : Nat) : (zeros n).length = n := by simp [zeros]
theorem len_nays (n : Nat) : (nays n).length = n := by simp [nays]
theorem fit_zeros {M : Nat} (n : Nat) (h : 0 < M) : Fit M (zeros n) := Fit.replicate _ _ h
theorem make_ints {P : Program} {w : World} {ops : Array Oper} {rest : List Oper} {o : Oper} {a : Act} {Q : Exit → Act → World → Prop} {t e : TypeId} {k : IntKind} {bytes : Nat} (T : ElemT P t e (.int k 0) 1 bytes)
    (hg : o.guard = none) (l c : Operand) (hop : o.op = Op.makeSlice t l c)
    (kl kc : IntKind) (n : Nat) (hl : a.eval l = .int kl n) (hc : a.eval c = .int kc n) (b2 : bytes * n ≤ 281474976710656) (b3 : n ≤ maxLen)
    (hK : ∀ w', OwnI k e w.heap.size w' (.slice (some ⟨w.heap.size, 0, none⟩) n n) (zeros n) → Ext w w' → wpList P ops Q rest (a.put o.dst (.slice (some ⟨w.heap.size, 0, none⟩) n n)) w') :
    wpList P ops Q (o :: rest) a w :=
  make_full T hg l c hop kl kc n hl hc b2 b3 (fun w' h1 h2 => hK w' (by rw [madeInts] at h1; unfold OwnI zeros; rw [List.length_replicate]; exact h1) h2)
theorem make_bools {P : Program} {w : World} {ops : Array Oper} {rest : List Oper} {o : Oper} {a : Act} {Q : Exit → Act → World → Prop} {t e : TypeId} {bytes : Nat} (T : ElemT P t e (.bool false) 1 bytes)
    (hg : o.guard = none) (l c : Operand) (hop : o.op = Op.makeSlice t l c)
    (kl kc : IntKind) (n : Nat) (hl : a.eval l = .int kl n) (hc : a.eval c = .int kc n) (b2 : bytes * n ≤ 281474976710656) (b3 : n ≤ maxLen)
    (hK : ∀ w', OwnB e w.heap.size w' (.slice (some ⟨w.heap.size, 0, none⟩) n n) (nays n) → Ext w w' → wpList P ops Q rest (a.put o.dst (.slice (some ⟨w.heap.size, 0, none⟩) n n)) w') :
    wpList P ops Q (o :: rest) a w :=
  make_full T hg l c hop kl kc n hl hc b2 b3 (fun w' h1 h2 => hK w' (by rw [madeBools] at h1; unfold OwnB nays; rw [List.length_replicate]; exact h1) h2)
/-! operations on numbers whose answer the prover names -/
theorem op_bin {P : Program} {w : World} {ops : Array Oper} {rest : List Oper} {o : Oper} {a : Act} {Q : Exit → Act → World → Prop} {op : BinOp} {t ty : TypeId} {x y : Operand}
    (hg : Region.wanted o (yielded ops a.tmps) = true) (ho : o.op = .binOp op t x y ty) {X Y V : Value} (hx : a.eval x = X) (hy : a.eval y = Y) (hne : op ≠ .eql ∧ op ≠ .neq) (hrun : (binOp op t X Y).run P w = .ok V w)
    (h : wpList P ops Q rest (a.put o.dst V) w) : wpList P ops Q (o :: rest) a w := by
  refine wpList_want hg fun K hK' => ?_
  unfold Oper.wp
  have hgd : ∀ A B : Value, eqGuard op t x y A B = pure () := by
    intro A B
    unfold eqGuard
    cases op <;> first | rfl | exact absurd rfl hne.1 | exact absurd rfl hne.2
  simp [execOp, ho, hx, hy, hrun, hgd, Result.andThen]
  exact hK' _ _ h

theorem wrap_id {k : IntKind} {V : Nat} (hs : k.signed = false) (h : V < 2 ^ k.bits) : k.wrap (V : Int) = V := by
  cases k <;> simp [IntKind.signed] at hs <;> simp [IntKind.wrap, IntKind.bits, IntKind.signed] at h ⊢ <;> omega

/-- x << s: the exact product, where it fits. -/
theorem op_shl {P : Program} {w : World} {ops : Array Oper} {rest : List Oper} {o : Oper} {a : Act} {Q : Exit → Act → World → Prop} {t ty : TypeId} {x y : Operand}
    (hg : Region.wanted o (yielded ops a.tmps) = true) (ho : o.op = .binOp .shl t x y ty) {k yk : IntKind} {Xi Si : Int} (X S V : Nat) (hx : a.eval x = .int k Xi) (hy : a.eval y = .int yk Si) (hX : Xi = X) (hS : Si = S) (hk : k.signed = false) (hsb : S ≤ k.bits) (hV : X * 2 ^ S = V) (hlt : V < 2 ^ k.bits)
    (h : wpList P ops Q rest (a.put o.dst (.int k V)) w) : wpList P ops Q (o :: rest) a w := by
  subst hX hS
  refine op_bin hg ho hx hy (by constructor <;> intro h <;> cases h) ?_ h
  have e : (X : Int) * 2 ^ min (S : Int).toNat k.bits = (V : Int) := by
    rw [Int.toNat_natCast, Nat.min_eq_left hsb, ← hV]; simp
  rw [binOp_shl, shift_shl_any _ _ _ _ (by omega), e, wrap_id hk hlt]
  rfl
/-- x >> s -/
theorem op_shr {P : Program} {w : World} {ops : Array Oper} {rest : List Oper} {o : Oper} {a : Act} {Q : Exit → Act → World → Prop} {t ty : TypeId} {x y : Operand}
    (hg : Region.wanted o (yielded ops a.tmps) = true) (ho : o.op = .binOp .shr t x y ty) {k yk : IntKind} {Xi Si : Int} (X S V : Nat) (hx : a.eval x = .int k Xi) (hy : a.eval y = .int yk Si) (hX : Xi = X) (hS : Si = S) (hsb : S ≤ k.bits) (hV : X / 2 ^ S = V)
    (h : wpList P ops Q rest (a.put o.dst (.int k V)) w) : wpList P ops Q (o :: rest) a w := by
  subst hX hS
  refine op_bin hg ho hx hy (by constructor <;> intro h <;> cases h) ?_ h
  have e : (X : Int) / 2 ^ min (S : Int).toNat k.bits = (V : Int) := by
    rw [Int.toNat_natCast, Nat.min_eq_left hsb, ← hV]; simp
  rw [binOp_shr, shift_shr_any _ _ _ _ (by omega), e]
  rfl
/-- x | y of unsigned numbers -/
theorem op_or {P : Program} {w : World} {ops : Array Oper} {rest : List Oper} {o : Oper} {a : Act} {Q : Exit → Act → World → Prop} {t ty : TypeId} {x y : Operand}
    (hg : Region.wanted o (yielded ops a.tmps) = true) (ho : o.op = .binOp .or t x y ty) {k : IntKind} {Xi Yi : Int} (X Y V : Nat) (hx : a.eval x = .int k Xi) (hy : a.eval y = .int k Yi) (hX : Xi = X) (hY : Yi = Y) (hk : k.signed = false) (hx64 : X < 2 ^ k.bits) (hy64 : Y < 2 ^ k.bits) (hV : X ||| Y = V)
    (h : wpList P ops Q rest (a.put o.dst (.int k V)) w) : wpList P ops Q (o :: rest) a w := by
  subst hX hY
  refine op_bin hg ho hx hy (by constructor <;> intro h <;> cases h) ?_ h
  rw [binOp_or]
  have e : (BitVec.ofInt k.bits (X : Int) ||| BitVec.ofInt k.bits (Y : Int)).toNat = V := by
    rw [BitVec.toNat_or]
    simp only [BitVec.ofInt_natCast, BitVec.toNat_ofNat, Nat.mod_eq_of_lt hx64, Nat.mod_eq_of_lt hy64, hV]
  have hv : V < 2 ^ k.bits := by rw [← hV]; exact Nat.or_lt_two_pow hx64 hy64
  simp only [Op.intBits, e, wrap_id hk hv]
  rfl
/-- a bitwise 'or' of what does not meet is the sum -/
theorem or_sum {lo hi s : Nat} (h : lo < 2 ^ s) : lo ||| hi * 2 ^ s = lo + hi * 2 ^ s := by
  rw [Nat.mul_comm hi, Nat.or_comm, ← Nat.two_pow_add_eq_or_of_lt h]
  omega

/-- make([]T, l, c) of integers -/
theorem make_ints_lc {P : Program} {w : World} {ops : Array Oper} {rest : List Oper} {o : Oper} {a : Act} {Q : Exit → Act → World → Prop} {t e : TypeId} {k : IntKind} {bytes : Nat} (T : ElemT P t e (.int k 0) 1 bytes)
    (hg : o.guard = none) (l c : Operand) (hop : o.op = Op.makeSlice t l c)
    {kl kc : IntKind} {li ci : Int} (n m : Nat) (hl : a.eval l = .int kl li) (hc : a.eval c = .int kc ci) (hn : li = n) (hm : ci = m) (hnm : n ≤ m) (b2 : bytes * m ≤ 281474976710656) (b3 : m ≤ maxLen)
    (hK : ∀ w', OwnI k e w.heap.size w' (.slice (some ⟨w.heap.size, 0, none⟩) n m) (zeros n) → Ext w w' → wpList P ops Q rest (a.put o.dst (.slice (some ⟨w.heap.size, 0, none⟩) n m)) w') :
    wpList P ops Q (o :: rest) a w := by
  obtain ⟨i, hi, hz, hsz, hby⟩ := T.inf
  subst hn hm
  have hb' : (i.bytes : Int) * (m : Int) ≤ 281474976710656 := by
    rw [hby]; have : ((bytes * m : Nat) : Int) ≤ 281474976710656 := by omega
    rwa [Int.natCast_mul] at this
  have hr := run_make (P := P) w t e i _ T.und hi hz kl kc n m (by omega) (by omega) hb' (by unfold maxLen at b3; omega)
  simp only [Int.toNat_natCast] at hr
  refine wpList_plain hg fun K hK' => ?_
  unfold Oper.wp
  simp [execOp, hop, hl, hc, hr, Result.andThen]
  refine hK' _ _ (hK _ ?_ (Ext.alloc _ _))
  unfold OwnI zeros
  rw [List.length_replicate, hsz]
  refine ⟨by simp [ints], .inr ⟨_, _, _, rfl, Nat.le_refl _, heap_alloc_new w _, hnm, b3, size_madeCells _ _, ?_⟩⟩
  rw [madeInts]
  simp [ints, List.take_replicate, Nat.min_eq_left hnm]
end Go.Att
