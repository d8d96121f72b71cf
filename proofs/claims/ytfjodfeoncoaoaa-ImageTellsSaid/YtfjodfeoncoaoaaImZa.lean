-- Images among a law's arguments; what Read tells is fine.
import Derived.Test.YtfjodfeoncoaoaaImX
import Derived.Test.YtfjodfeoncoaoaaImU
import Derived.Test.YtfjodfeoncoaoaaImI
namespace Go.Proofs.Ytfjodfeoncoaoaa.Pv
set_option linter.all false
open Go.RowKit Go.Proofs
set_option maxRecDepth 100000
set_option maxHeartbeats 4000000
theorem wf8 {l : List Int} (h : ∀ n ∈ l, (Lit.int .u8 n).wf = true) : Oct l := fun x hx => by
  have := h x hx
  simp [Lit.wf, IntKind.min, IntKind.max, IntKind.bits, IntKind.signed] at this
  omega
theorem wf32 {n : Int} (h : (Lit.int .u32 n).wf = true) : 0 ≤ n ∧ n < 4294967296 := by
  simp [Lit.wf, IntKind.min, IntKind.max, IntKind.bits, IntKind.signed] at h
  omega
abbrev SImg : List PV → Prop := SFs [SFs [SBool, SInt .i64, SBool, SBool, SBool], SInt .i64, SInt .i64, SInt .i64, SInt .u32, SArr 2 (SInt .u32), SSl 1 1 (SInt .u8), SSl 1 1 (SInt .u8), SSl 1 1 (SInt .u8)]
theorem ssl_one {xs : List PV} (h : SSl 1 1 (SInt .u8) xs) : ∃ l, xs = [.ro 1 false (ints .u8 l)] ∧ Oct l ∧ l.length ≤ 140737488351232 := by
  obtain ⟨rows, rfl, r1, r2, r3⟩ := h
  obtain ⟨b, e, hb1, hb2⟩ := sl_ints (x := .ro 1 false rows) ⟨rows, rfl, r1, r2, r3⟩
  cases e
  exact ⟨b, rfl, wf8 hb2, by omega⟩
theorem img_of {xs : List PV} (h : SImg xs) : ∃ x : Img, xs = x.cells ∧ x.Ok ∧ x.stub.length ≤ 140737488351232 ∧ x.pay.length ≤ 140737488351232 ∧ x.dir.length ≤ 140737488351232 := by
  obtain ⟨p0, q0, rfl, ⟨p1, q1, rfl, ⟨b1, rfl⟩, p2, q2, rfl, ⟨n, rfl, hn⟩, p3, q3, rfl, ⟨b3, rfl⟩, p4, q4, rfl, ⟨b4, rfl⟩, p5, q5, rfl, ⟨b5, rfl⟩, rfl⟩, p6, q6, rfl, ⟨c, rfl, hc⟩, p7, q7, rfl, ⟨m, rfl, hm⟩, p8, q8, rfl, ⟨r, rfl, hr⟩, p9, q9, rfl, ⟨s, rfl, hs⟩, p10, q10, rfl, h10, p11, q11, rfl, h11, p12, q12, rfl, h12, p13, q13, rfl, h13, rfl⟩ := h
  obtain ⟨nl, rfl, n1, n2⟩ := arr_ints h10
  obtain ⟨s1, rfl, o1, l1⟩ := ssl_one h11
  obtain ⟨s2, rfl, o2, l2⟩ := ssl_one h12
  obtain ⟨s3, rfl, o3, l3⟩ := ssl_one h13
  match nl, n1 with
  | [a, b], _ =>
    exact ⟨⟨⟨b1, n, b3, b4, b5⟩, c, m, r, s, a, b, s1, s2, s3⟩, rfl, ⟨wf32 hs, wf32 (n2 a (by simp)), wf32 (n2 b (by simp)), o1, o2, o3⟩, l1, l2, l3⟩
theorem seg_oct {b : List Int} (h : Oct b) (i j : Int) : Oct (seg b i j) := fun x hx => h x (List.mem_of_mem_drop (List.mem_of_mem_take hx))
theorem seg_le (b : List Int) (i j : Int) : (seg b i j).length ≤ b.length := by
  unfold seg
  rw [List.length_take, List.length_drop]
  omega
theorem readF_fine {b : List Int} (hb : Oct b) : (readF b).1.Ok ∧ (readF b).1.stub.length ≤ 1000000000 ∧ (readF b).1.pay.length ≤ 1000000000 ∧ (readF b).1.dir.length ≤ 1000000000 := by
  have hz : Img.zero.Ok ∧ Img.zero.stub.length ≤ 1000000000 ∧ Img.zero.pay.length ≤ 1000000000 ∧ Img.zero.dir.length ≤ 1000000000 := ⟨zero_ok, by decide, by decide, by decide⟩
  rcases findF_cases hb with ⟨a, e, hf, he⟩ | ⟨f, t, hf, h0, h1, h2, h3⟩
  · unfold readF
    rw [hf, if_pos (by simp only; omega)]
    exact hz
  · unfold readF
    rw [hf, if_neg (by simp)]
    unfold parseF
    split
    · refine ⟨⟨num4_range hb _, num4_range hb _, num4_range hb _, seg_oct hb _ _, seg_oct hb _ _, seg_oct hb _ _⟩, ?_, ?_, ?_⟩
      · exact Nat.le_trans (seg_le b _ _) (by omega)
      · exact Nat.le_trans (seg_le b _ _) (by omega)
      · exact Nat.le_trans (seg_le b _ _) (by omega)
    · exact hz
theorem bytesF_len (p : List Int) (x : Img) : (bytesF p x).1.length ≤ 1000000000 := by
  have hal := x.all_length
  unfold bytesF
  split
  · split
    · simp
    · rename_i h
      simp only [Img.bytes, List.length_append, le4_length, List.length_cons, List.length_nil]
      omega
  · simp
theorem sameF_self (x : Img) : sameF x x = true := by
  unfold sameF sameO
  rw [decide_eq_true_eq]
  exact ⟨⟨rfl, rfl, rfl, rfl, rfl⟩, rfl, rfl, rfl, rfl, rfl, rfl, rfl, rfl, rfl⟩
end Go.Proofs.Ytfjodfeoncoaoaa.Pv
