-- codec, plain: what goes through all coders, and back.
import Derived.Test.YteocmeidkdhmiaaLzM
import Derived.Test.YteocmeidkdhmiaaLzJ
import Derived.Test.YteocmeidkdhmiaaRcM
import Derived.Test.YteocmeidkdhmiaaRcJa
import Derived.Test.YteocmeidkdhmiaaDe
import Derived.Test.YteocmeidkdhmiaaBj
import Derived.Test.YteocmeidkdhmiaaXtM
import Derived.Test.YteocmeidkdhmiaaCl
namespace Go.Proofs.Yteocmeidkdhmiaa.Pv
set_option linter.all false
open Go.RowKit Go.Proofs
set_option maxRecDepth 100000
set_option maxHeartbeats 4000000
theorem rep_bytes (far : Nat) : ∀ (k : Nat) (out : List Int), Bytes out → Bytes (rep far k out)
  | 0, _, h => h
  | k + 1, out, h => rep_bytes far k _ fun x hx => by
    rcases List.mem_append.1 hx with hx | hx
    · exact h x hx
    · simp only [List.mem_singleton] at hx
      subst hx
      exact h.getD _
def LzOk (n : Int) (r : List Int × Int) : Prop := Bytes r.1 ∧ (r.1.length : Int) ≤ n
theorem lzok_nil {n e : Int} (h : 0 ≤ n) : LzOk n ([], e) := ⟨fun x hx => (by cases hx), by simpa using h⟩
theorem fin_ok {n : Int} {b out : List Int} (ho : Bytes out) (hl : (out.length : Int) ≤ n) : LzOk n (fin b out) := by
  unfold fin
  split
  · exact lzok_nil (by omega)
  · exact ⟨ho, hl⟩
theorem unit1_lz {n : Int} {go : List Int → List Int → Int → Nat → List Int × Int} {b out : List Int} {fl : Int} {many : Nat} (hb : Bytes b) (ho : Bytes out) (hl : (out.length : Int) < n)
    (hg : ∀ b out fl many, Bytes b → Bytes out → (out.length : Int) ≤ n → LzOk n (go b out fl many)) : LzOk n (unit1 n go b out fl many) := by
  unfold unit1
  split
  · exact lzok_nil (by omega)
  split
  · refine hg _ _ _ _ (hb.drop 1) (fun x hx => ?_) (by simp; omega)
    rcases List.mem_append.1 hx with hx | hx
    · exact ho x hx
    · simp only [List.mem_singleton] at hx
      subst hx
      exact hb.getD 0
  split
  · exact lzok_nil (by omega)
  · rename_i h
    refine hg _ _ _ _ (hb.drop 2) (rep_bytes _ _ _ ho) ?_
    have := hb.getD 1
    rw [rep_length]
    unfold longOf at h ⊢
    omega
theorem backF_lz (n : Int) : ∀ (q : Nat) (b out : List Int) (fl : Int) (many : Nat), Bytes b → Bytes out → (out.length : Int) ≤ n → LzOk n (backF n q b out fl many)
  | 0, b, out, fl, many, hb, ho, hl => fin_ok ho hl
  | q + 1, b, out, fl, many, hb, ho, hl => by
    unfold backF
    split
    · exact fin_ok ho hl
    split
    · split
      · exact lzok_nil (by omega)
      · exact unit1_lz (hb.drop 1) ho (by omega) (backF_lz n q)
    · exact unit1_lz hb ho (by omega) (backF_lz n q)
theorem back_lz {b : List Int} (n : Int) (hb : Bytes b) : Bytes (back b n).1 ∧ (back b n).1.length ≤ 65536 := by
  unfold back
  split
  · exact ⟨fun x hx => (by cases hx), by simp⟩
  · have h := backF_lz n n.toNat b [] 0 0 hb (fun x hx => (by cases hx)) (by simp; omega)
    exact ⟨h.1, by have := h.2; omega⟩
theorem decN_oct (s : RS) : ∀ i, Oct (decN s i).2
  | 0 => fun x hx => by cases hx
  | i + 1 => fun x hx => by
    rw [decN] at hx
    rcases List.mem_append.1 hx with hx | hx
    · exact decN_oct s i x hx
    · simp only [List.mem_singleton] at hx
      omega
theorem rback_rc (b : List Int) (n : Int) : Oct (rback b n).1 ∧ (rback b n).1.length ≤ 65536 := by
  unfold rback
  have hn : Oct [] := fun x hx => by cases hx
  split
  · exact ⟨hn, by simp⟩
  split
  · exact ⟨hn, by simp⟩
  split
  · exact ⟨hn, by simp⟩
  split
  · exact ⟨hn, by simp⟩
  split
  · exact ⟨hn, by simp⟩
  · exact ⟨decN_oct _ _, by rw [decN_length]; omega⟩
/-- Options. -/
structure Op5 where
  bcj : Bool
  del : Int
  lz : Bool
  rng : Bool
  cry : Bool
def Op5.cells (o : Op5) : List PV := [.v (.bool o.bcj), .v (.int .i64 o.del), .v (.bool o.lz), .v (.bool o.rng), .v (.bool o.cry)]
def Op5.pv (o : Op5) : PV := .agg o.cells
def Op5.right (o : Op5) : Bool := decide (0 ≤ o.del) && decide (o.del ≤ 255)
def c1 (o : Op5) (b : List Int) : List Int := if o.bcj then bcjF 1 b else b
def c2 (o : Op5) (b : List Int) : List Int := deltaP (c1 o b) o.del
def c3 (o : Op5) (b : List Int) : List Int := if o.lz then put (c2 o b) else c2 o b
def c4 (o : Op5) (b : List Int) : List Int := if o.rng then rput (c3 o b) else c3 o b
def c5 (o : Op5) (st : List Int → List Int) (b : List Int) : List Int := if o.cry then st (c4 o b) else c4 o b
def e1 (o : Op5) (st : List Int → List Int) (b : List Int) : List Int := if o.cry then st b else b
def e2 (o : Op5) (st : List Int → List Int) (mid : Int) (b : List Int) : List Int × Int := if o.rng then rback (e1 o st b) mid else (e1 o st b, 0)
def e3 (o : Op5) (st : List Int → List Int) (mid raw : Int) (b : List Int) : List Int × Int := if o.lz then back (e2 o st mid b).1 raw else ((e2 o st mid b).1, 0)
def e4 (o : Op5) (st : List Int → List Int) (mid raw : Int) (b : List Int) : List Int := deltaB (e3 o st mid raw b).1 o.del
def e5 (o : Op5) (st : List Int → List Int) (mid raw : Int) (b : List Int) : List Int := if o.bcj then bcjF (-1) (e4 o st mid raw b) else e4 o st mid raw b
def bad1 (o : Op5) (raw : Int) : Bool := !o.right || decide (raw < 0) || decide (65536 < raw)
def bad2 (o : Op5) (mid raw len : Int) : Bool := decide (mid < 0) || decide (131072 < mid) || (!o.lz && !decide (mid = raw)) || (!o.rng && !decide (len = mid))
/-- What comes back, and the error. -/
def cback (o : Op5) (st : List Int → List Int) (mid raw : Int) (b : List Int) : List Int × Int :=
  if bad1 o raw = true then ([], 1)
  else if bad2 o mid raw b.length = true then ([], 2)
  else if (e2 o st mid b).2 ≠ 0 then ([], 2)
  else if (e3 o st mid raw b).2 ≠ 0 then ([], 2)
  else (e5 o st mid raw b, 0)
theorem c1_ok (o : Op5) {b : List Int} (hb : Oct b) : Oct (c1 o b) ∧ (c1 o b).length = b.length := by
  unfold c1
  split
  · exact ⟨bcjF_oct 1 hb, bcjF_length 1 b⟩
  · exact ⟨hb, rfl⟩
theorem c2_ok (o : Op5) {b : List Int} (hb : Oct b) : Oct (c2 o b) ∧ (c2 o b).length = b.length := by
  obtain ⟨h1, h2⟩ := c1_ok o hb
  exact ⟨deltaP_oct h1 _, by rw [c2, deltaP_length, h2]⟩
theorem c3_ok (o : Op5) {b : List Int} (hb : Oct b) : Oct (c3 o b) ∧ 8 * (c3 o b).length ≤ 9 * b.length + 7 ∧ (o.lz = false → (c3 o b).length = b.length) := by
  obtain ⟨h1, h2⟩ := c2_ok o hb
  unfold c3
  split
  · rename_i h
    have := put_len (c2 o b)
    exact ⟨put_bytes _ h1, by omega, fun k => (by rw [h] at k; cases k)⟩
  · exact ⟨h1, by omega, fun _ => h2⟩
theorem c4_ok (o : Op5) {b : List Int} (hb : Oct b) : Oct (c4 o b) ∧ (c4 o b).length ≤ 8 * (c3 o b).length + 5 ∧ (o.rng = false → (c4 o b).length = (c3 o b).length) ∧ (o.rng = true → 5 ≤ (c4 o b).length) := by
  obtain ⟨h1, h2⟩ := c3_ok o hb
  unfold c4
  split
  · rename_i h
    exact ⟨rput_bytes _, rput_len _, fun k => (by rw [h] at k; cases k), fun _ => rput_len5 _⟩
  · rename_i h
    exact ⟨h1, by omega, fun _ => rfl, fun k => by rw [k] at h; exact absurd rfl h⟩
/-- What went through comes back. -/
theorem cback_cput (o : Op5) (st : List Int → List Int) {b : List Int} (hb : Oct b) (hl : b.length ≤ 400) (hr : o.right = true)
    (hst : ∀ l, Oct l → (st l).length = l.length ∧ st (st l) = l) : cback o st (c3 o b).length b.length (c5 o st b) = (b, 0) := by
  obtain ⟨h1, h1l⟩ := c1_ok o hb
  obtain ⟨h2, h2l⟩ := c2_ok o hb
  obtain ⟨h3, h3l, h3e⟩ := c3_ok o hb
  obtain ⟨h4, h4l, h4e, h45⟩ := c4_ok o hb
  have k1 : e1 o st (c5 o st b) = c4 o b := by
    unfold e1 c5
    split
    · exact (hst _ h4).2
    · rfl
  have k1l : (c5 o st b).length = (c4 o b).length := by
    unfold c5
    split
    · exact (hst _ h4).1
    · rfl
  have k2 : e2 o st (c3 o b).length (c5 o st b) = (c3 o b, 0) := by
    unfold e2
    rw [k1]
    unfold c4
    split
    · have hs := agree_self (rput (c3 o b)) []
      rw [List.append_nil] at hs
      rw [rback_put (c3 o b) (rput (c3 o b)) h3 (by omega) (rput_bytes _) hs, if_neg (by omega), if_pos rfl]
    · rfl
  have k3 : e3 o st (c3 o b).length b.length (c5 o st b) = (c2 o b, 0) := by
    unfold e3
    rw [k2]
    unfold c3
    split
    · have := back_put (c2 o b) [] (by omega)
      rw [List.append_nil, h2l] at this
      rw [this]
      rfl
    · rfl
  have k4 : e4 o st (c3 o b).length b.length (c5 o st b) = c1 o b := by
    unfold e4
    rw [k3]
    exact delta_back h1 _
  have k5 : e5 o st (c3 o b).length b.length (c5 o st b) = b := by
    unfold e5
    rw [k4]
    unfold c1
    split
    · exact bcj_back hb
    · rfl
  unfold cback
  have g1 : bad1 o (b.length : Int) = false := by
    unfold bad1
    rw [hr]
    simp only [Bool.not_true, Bool.false_or, Bool.or_eq_false_iff, decide_eq_false_iff_not]
    omega
  have g2 : bad2 o ((c3 o b).length : Int) b.length (c5 o st b).length = false := by
    unfold bad2
    rw [k1l]
    have e1 : decide (((c3 o b).length : Int) < 0) = false := decide_eq_false (by omega)
    have e2 : decide (131072 < ((c3 o b).length : Int)) = false := decide_eq_false (by omega)
    rw [e1, e2]
    simp only [Bool.false_or]
    cases hz : o.lz
    · rw [h3e hz]
      cases hr : o.rng
      · rw [h4e hr, h3e hz]; simp
      · simp
    · cases hr : o.rng
      · rw [h4e hr]; simp
      · simp
  rw [g1, g2, k2, k3, k5]
  simp
end Go.Proofs.Yteocmeidkdhmiaa.Pv
