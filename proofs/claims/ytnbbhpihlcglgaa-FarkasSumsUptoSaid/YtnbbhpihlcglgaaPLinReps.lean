/- Sums in form, by what their coefficients are: the program's side, the document's side, and the document's yes. -/
import Derived.Test.YtnbbhpihlcglgaaPR8Means
import Derived.Test.YtnbbhpihlcglgaaPTold8
import Derived.Test.YtnbbhpihlcglgaaLinAll
import Derived.Test.YtnbbhpihlcglgaaPExpr8
namespace Go.Proofs.Ytnbbhpihlcglgaa
open Go.RowKit Go.Att

/-- v is an expression in form with the coefficients F and the constant c, none too big. -/
def Rep (w : World) (v : Value) (F : Int → Rat) (c : Rat) : Prop := ∃ l, FormT l ∧ (∀ x, cf l x = F x) ∧ Okx 380 l c ∧ RdX w v l c
def RepY (w : World) (v : Value) (F : Int → Rat) (c : Rat) : Prop := ∃ l, FormT l ∧ (∀ x, cf l x = F x) ∧ Okx 380 l c ∧ RdY w v l c
theorem Rep.ext {w w' : World} {v : Value} {F : Int → Rat} {c : Rat} (h : Rep w v F c) (x : Ext w w') : Rep w' v F c := by
  obtain ⟨l, h1, h2, h3, h4⟩ := h
  exact ⟨l, h1, h2, h3, h4.ext x⟩
theorem RepY.ext {w w' : World} {v : Value} {F : Int → Rat} {c : Rat} (h : RepY w v F c) (x : Ext w w') : RepY w' v F c := by
  obtain ⟨l, h1, h2, h3, h4⟩ := h
  exact ⟨l, h1, h2, h3, h4.ext x⟩
/-- At most twelve terms of small numbers. -/
def Smx (l : TL) (c : Rat) : Prop := l.length ≤ 12 ∧ (∀ t ∈ l, Sz 8 t.2) ∧ Sz 8 c
theorem Smx.okx {l : TL} {c : Rat} (h : Smx l c) : Okx 380 l c := (Okx.of (L := 8) (n := 12) h.2.1 h.1 (by decide) h.2.2 (Nat.le_refl _)).le (by decide)
theorem Smx.cf {l : TL} {c : Rat} (h : Smx l c) (x : Int) : Sz 109 (cf l x) := (cf_sz h.2.1 x).le (by have := h.1; omega)
theorem tL_sm {w : World} {v : Value} {l : List (Int × NN)} {n : NN} (hv : RdNE w v l n) : Smx (tL l) (qN n) := ⟨tL_len l, (tL_sz hv).1, (tL_sz hv).2⟩
theorem told8_ok {w : World} {v : Value} {l : TL} {c : Rat} (hv : RdX w v l c) (h : Okx 380 l c) : Calls Try.prog 33 #[v] w (Gives w fun v' w' => RdY w' v' l c) :=
  (told8_any hv (fun t ht => (h.2.1 t ht).le (by decide)) (h.2.2.2.le (by decide)) h.1).mono fun _ _ ⟨v, e, b, o⟩ => ⟨v, e, b, OwnEy.rd o⟩
theorem rep_told {w : World} {v : Value} {F : Int → Rat} {c : Rat} (h : Rep w v F c) : Calls Try.prog 33 #[v] w (Gives w fun v' w' => RepY w' v' F c) := by
  obtain ⟨l, h1, h2, h3, h4⟩ := h
  exact (told8_ok h4 h3).mono fun _ _ ⟨v, e, b, o⟩ => ⟨v, e, b, l, h1, h2, h3, o⟩
theorem rep_means {w : World} {vg va vb vp vq : Value} {la lb : TL} {F : Int → Rat} {c ca cb p q : Rat} (hg : RepY w vg F c) (hp : OwnP 4 0 w vp p) (ha : RdY w va la ca) (hq : OwnP 4 0 w vq q) (hb : RdY w vb lb cb)
    (zp : Sz 380 p) (za : Okx 380 la ca) (zq : Sz 380 q) (zb : Okx 380 lb cb) (hc : c = p * ca + q * cb) (hx : ∀ x, F x = p * cf la x + q * cf lb x) :
    Calls Try.prog 39 #[vg, vp, va, vq, vb] w (Gives w fun v' _ => v' = .bool true) := by
  obtain ⟨l, h1, h2, h3, h4⟩ := hg
  exact r8means_yes h4 hp ha hq hb h3 zp za zq zb h1 hc (fun x => (h2 x).trans (hx x))
theorem rep_add {w : World} {va vb : Value} {la lb : TL} {ca cb : Rat} (ha : RdX w va la ca) (hb : RdX w vb lb cb) (za : Smx la ca) (zb : Smx lb cb) :
    Calls Try.prog 40 #[va, vb] w (Gives w fun v' w' => Rep w' v' (fun x => cf la x + cf lb x) (ca + cb)) :=
  (ladd_any 8 8 ha hb za.2.1 zb.2.1 za.2.2 zb.2.2 (by have := za.1; have := zb.1; omega) (by decide) (by decide)).mono fun _ _ ⟨v, e, b, l', hf, hc, _, hl, o⟩ =>
    ⟨v, e, b, l', hf, hc, Okx.form hf (by decide) (by have := za.1; have := zb.1; omega) (fun x => by rw [hc]; exact ((za.cf x).add (zb.cf x)).le (by decide)) ((za.2.2.add zb.2.2).le (by decide)), OwnEx.rd o⟩
theorem rep_sub {w : World} {va vb : Value} {la lb : TL} {ca cb : Rat} (ha : RdX w va la ca) (hb : RdX w vb lb cb) (za : Smx la ca) (zb : Smx lb cb) :
    Calls Try.prog 42 #[va, vb] w (Gives w fun v' w' => Rep w' v' (fun x => cf la x - cf lb x) (ca - cb)) :=
  (lsub_any 8 8 ha hb za.2.1 zb.2.1 za.2.2 zb.2.2 (by have := za.1; have := zb.1; omega) (by have := zb.1; omega) (by decide)).mono fun _ _ ⟨v, e, b, l', hf, hc, _, hl, o⟩ =>
    ⟨v, e, b, l', hf, hc, Okx.form hf (by decide) (by have := za.1; have := zb.1; omega) (fun x => by rw [hc]; exact ((za.cf x).sub (zb.cf x)).le (by decide)) ((za.2.2.sub zb.2.2).le (by decide)), OwnEx.rd o⟩
theorem rep_scale {w : World} {vr v : Value} {l : TL} {r c : Rat} (hr : OwnQ 163 0 w vr r) (hv : RdX w v l c) (zr : Sz 8 r) (z : Smx l c) :
    Calls Try.prog 43 #[vr, v] w (Gives w fun v' w' => Rep w' v' (fun x => r * cf l x) (r * c)) :=
  (lscale_any 8 8 8 hr hv zr z.2.1 z.2.2 (by have := z.1; omega) (by decide) (by decide)).mono fun _ _ ⟨v, e, b, l', hf, hc, _, hl, o⟩ =>
    ⟨v, e, b, l', hf, hc, Okx.form hf (by decide) (by have := z.1; omega) (fun x => by rw [hc]; exact (zr.mul (z.cf x)).le (by decide)) ((zr.mul z.2.2).le (by decide)), OwnEx.rd o⟩
theorem rep_canon {w : World} {v : Value} {l : TL} {c : Rat} (hv : RdX w v l c) (z : Smx l c) :
    Calls Try.prog 38 #[v] w (Gives w fun v' w' => Rep w' v' (fun x => cf l x) c) :=
  (canon_any 8 hv z.2.1 (by have := z.1; omega) (by decide)).mono fun _ _ ⟨v, e, b, l', hc, _, hl, o⟩ =>
    ⟨v, e, b, l', hc.1, hc.2, Okx.form hc.1 (by decide) (by have := z.1; omega) (fun x => by rw [hc.2]; exact (z.cf x).le (by decide)) (z.2.2.le (by decide)), OwnEx.rd o⟩
theorem expr8_sm {w : World} {v : Value} {l : List (Int × NN)} {n : NN} (hv : RdNE w v l n) (hs : ∀ t ∈ l, Nlt 1000000000 t.2) (hn : Nlt 1000000000 n) :
    Calls Try.prog 31 #[v] w (Gives w fun v' w' => OwnX 0 w' v' (tL l) (qN n)) :=
  (expr8_any hv hs hn).mono fun _ _ ⟨v, e, b, o⟩ => ⟨v, e, b, o.mono (Nat.zero_le _)⟩
end Go.Proofs.Ytnbbhpihlcglgaa
