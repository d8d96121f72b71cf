-- Images: what may be comes back from its bytes (plain).
import Derived.Test.YtfjodfeoncoaoaaImP
namespace Go.Proofs.Ytfjodfeoncoaoaa.Pv
set_option linter.all false
open Go.RowKit Go.Proofs
set_option maxRecDepth 100000
set_option maxHeartbeats 4000000
theorem lastUpto_eq {b : List Int} {k : Nat} (hk : at4 b k = true) : ∀ n : Nat, k < n → (∀ i, k < i → i < n → at4 b i = false) → lastUpto b n = k
  | 0, h, _ => absurd h (Nat.not_lt_zero _)
  | n + 1, h, hf => by
    simp only [lastUpto]
    by_cases e : k = n
    · subst e
      rw [if_pos hk]
    · rw [hf n (by omega) (by omega)]
      exact lastUpto_eq hk n (by omega) fun i h1 h2 => hf i h1 (by omega)
theorem at4_app (A B : List Int) (i : Nat) : at4 (A ++ B) (A.length + i) = at4 B i := by
  unfold at4
  rw [Nat.add_assoc, Nat.add_assoc, Nat.add_assoc, getD_app, getD_app, getD_app, getD_app]
theorem lastAt_bytes (C h : List Int) (hno : ∀ i, i + 3 < h.length → at4 h i = false) : lastAt (C ++ ([49, 88, 70, 83] ++ h)) = C.length := by
  unfold lastAt
  have hl : (C ++ ([49, 88, 70, 83] ++ h)).length = C.length + (4 + h.length) := by simp; omega
  refine lastUpto_eq (k := C.length) ?_ _ (by rw [hl]; omega) fun i h1 h2 => ?_
  · have := at4_app C ([49, 88, 70, 83] ++ h) 0
    rw [Nat.add_zero] at this
    rw [this]
    rfl
  · rw [hl] at h2
    obtain ⟨j, rfl⟩ : ∃ j, i = C.length + j := ⟨i - C.length, by omega⟩
    rw [at4_app]
    have hc : j = 1 ∨ j = 2 ∨ j = 3 ∨ 4 ≤ j := by omega
    rcases hc with rfl | rfl | rfl | hj
    · rfl
    · rfl
    · rfl
    · obtain ⟨m, rfl⟩ : ∃ m, j = ([49, 88, 70, 83] : List Int).length + m := ⟨j - 4, by simp; omega⟩
      rw [at4_app]
      exact hno m (by simp at h2; omega)
theorem seg_mid (A B C : List Int) {i j : Int} (hi : i = A.length) (hj : j = A.length + B.length) : seg (A ++ (B ++ C)) i j = B := by
  have h1 : i.toNat = A.length := by omega
  have h2 : (j - i).toNat = B.length := by omega
  unfold seg
  rw [h1, h2, List.drop_left, List.take_left]
theorem hdr_words (x : Img) (hx : x.Ok) : num4 x.hdr 8 = x.count % 4294967296 ∧ num4 x.hdr 12 = (x.pay.length : Int) % 4294967296 ∧ num4 x.hdr 16 = x.mid % 4294967296 ∧ num4 x.hdr 20 = x.raw % 4294967296 ∧ num4 x.hdr 24 = x.sum ∧ num4 x.hdr 28 = x.n0 ∧ num4 x.hdr 32 = x.n1 ∧ num4 x.hdr 36 = (x.stub.length : Int) % 4294967296 ∧ num4 x.hdr 40 = (x.dir.length : Int) % 4294967296 := by
  have h1 := hx.sum
  have h2 := hx.n0
  have h3 := hx.n1
  have key : ∀ n : Int, 0 ≤ n ∧ n < 4294967296 → n % 256 + 256 * (n / 256 % 256) + 65536 * (n / 65536 % 256) + 16777216 * (n / 16777216 % 256) = n := fun n hn => by omega
  refine ⟨key _ (by omega), key _ (by omega), key _ (by omega), key _ (by omega), key _ h1, key _ h2, key _ h3, key _ (by omega), key _ (by omega)⟩
theorem open_byte (o : Op5) (h : o.right = true) : openF (byteTo o 4) (o.del % 256) = o := by
  obtain ⟨a, d, b, c, e⟩ := o
  simp only [Op5.right, Bool.and_eq_true, decide_eq_true_eq] at h
  have hd : d % 256 = d := by omega
  unfold openF
  simp only [hd]
  cases a <;> cases b <;> cases c <;> cases e <;> rfl
theorem right_of {x : Img} (h : x.right = true) : x.o.right = true ∧ 0 ≤ x.count ∧ x.count ≤ 200 ∧ 0 ≤ x.raw ∧ x.raw ≤ 65536 ∧ 0 ≤ x.mid ∧ x.mid ≤ 131072 := by
  unfold Img.right at h
  rw [decide_eq_true_eq] at h
  exact ⟨h.1, h.2.1, h.2.2.1, h.2.2.2.1, h.2.2.2.2.1, h.2.2.2.2.2.1, h.2.2.2.2.2.2.1⟩
theorem parse_bytes (x : Img) (hx : x.Ok) (hr : x.right = true) (p T : List Int) (hs : x.stub.length < 4294967296) (hp : x.pay.length < 4294967296) (hd : x.dir.length < 4294967296) :
    parseF (p ++ (x.all ++ T)) p.length (p.length + x.all.length : Int) = (x, ⟨p.length, p.length + 44, p.length + 44 + x.stub.length, p.length + 44 + x.stub.length + x.pay.length, p.length + x.all.length⟩, 0) := by
  obtain ⟨r1, r2, r3, r4, r5, r6, r7⟩ := right_of hr
  obtain ⟨w8, w12, w16, w20, w24, w28, w32, w36, w40⟩ := hdr_words x hx
  rw [Int.emod_eq_of_lt (by omega) (by omega)] at w8 w12 w16 w20 w36 w40
  have hL : p ++ (x.all ++ T) = p ++ (x.hdr ++ (x.stub ++ (x.pay ++ (x.dir ++ T)))) := by simp [Img.all]
  have hlen := x.all_length
  have hg : ∀ i, i < 44 → (p ++ (x.all ++ T)).getD (p.length + i) 0 = x.hdr.getD i 0 := fun i hi => by rw [hL, getD_app, getD_low (by rw [x.hdr_length]; exact hi)]
  have hn : ∀ i, i + 3 < 44 → num4 (p ++ (x.all ++ T)) (p.length + i) = num4 x.hdr i := fun i hi => by rw [hL, num4_app, num4_low _ _ (by rw [x.hdr_length]; exact hi)]
  have ho := open_byte x.o r1
  have hbr := byteTo_oct x.o
  have g0 : (p ++ (x.all ++ T)).getD p.length 0 = 83 := hg 0 (by decide)
  have hform : formed (p ++ (x.all ++ T)) p.length (p.length + x.all.length : Int) = true := by
    unfold formed
    rw [decide_eq_true_eq, Int.toNat_natCast]
    refine ⟨g0, hg 1 (by decide), hg 2 (by decide), hg 3 (by decide), ?_, hg 6 (by decide), hg 7 (by decide), ?_⟩
    · rw [hg 4 (by decide)]
      exact hbr.2
    · rw [hn 36 (by decide), hn 12 (by decide), hn 40 (by decide), w36, w12, w40, hlen]
      omega
  have hi : imgAt (p ++ (x.all ++ T)) p.length (p.length + x.all.length : Int) = x := by
    unfold imgAt
    simp only [Int.toNat_natCast]
    rw [hn 36 (by decide), hn 12 (by decide), hn 8 (by decide), hn 16 (by decide), hn 20 (by decide), hn 24 (by decide), hn 28 (by decide), hn 32 (by decide), hg 4 (by decide), hg 5 (by decide), w36, w12, w8, w16, w20, w24, w28, w32]
    have s1 : seg (p ++ (x.all ++ T)) ((p.length : Int) + 44) ((p.length : Int) + 44 + x.stub.length) = x.stub := by
      rw [show p ++ (x.all ++ T) = (p ++ x.hdr) ++ (x.stub ++ (x.pay ++ (x.dir ++ T))) by simp [Img.all]]
      exact seg_mid _ _ _ (by simp [x.hdr_length]) (by simp [x.hdr_length])
    have s2 : seg (p ++ (x.all ++ T)) ((p.length : Int) + 44 + x.stub.length) ((p.length : Int) + 44 + x.stub.length + x.pay.length) = x.pay := by
      rw [show p ++ (x.all ++ T) = (p ++ (x.hdr ++ x.stub)) ++ (x.pay ++ (x.dir ++ T)) by simp [Img.all]]
      exact seg_mid _ _ _ (by simp [x.hdr_length]; omega) (by simp [x.hdr_length]; omega)
    have s3 : seg (p ++ (x.all ++ T)) ((p.length : Int) + 44 + x.stub.length + x.pay.length) (p.length + x.all.length : Int) = x.dir := by
      rw [show p ++ (x.all ++ T) = (p ++ (x.hdr ++ (x.stub ++ x.pay))) ++ (x.dir ++ T) by simp [Img.all]]
      exact seg_mid _ _ _ (by simp [x.hdr_length]; omega) (by rw [hlen]; simp [x.hdr_length]; omega)
    rw [s1, s2, s3]
    show Img.mk (openF (byteTo x.o 4) (x.o.del % 256)) x.count x.mid x.raw x.sum x.n0 x.n1 x.stub x.pay x.dir = x
    rw [ho]
  have hw : whAt (p ++ (x.all ++ T)) p.length (p.length + x.all.length : Int) = ⟨p.length, p.length + 44, p.length + 44 + x.stub.length, p.length + 44 + x.stub.length + x.pay.length, p.length + x.all.length⟩ := by
    unfold whAt
    simp only [Int.toNat_natCast]
    rw [hn 36 (by decide), hn 12 (by decide), w36, w12]
  unfold parseF
  rw [hi, hw, if_pos (by rw [hform, hr]; rfl)]
theorem find_bytes (x : Img) (p h : List Int) (hno : ∀ i, i + 3 < h.length → at4 h i = false) (hl : p.length + x.all.length + 12 + h.length ≤ 1048576) :
    (h.length ≤ 65536 → findF (x.bytes p ++ h) = (((p.length : Int), (p.length : Int) + (x.all.length : Int)), ((0 : Int), (0 : Int)))) ∧ (65536 < h.length → ∃ a, findF (x.bytes p ++ h) = (((0 : Int), (0 : Int)), (a, (5 : Int)))) := by
  have hal := x.all_length
  have e1 : x.bytes p ++ h = (p ++ (x.all ++ (le4 (x.all.length : Int) ++ le4 (crc x.all)))) ++ ([49, 88, 70, 83] ++ h) := by simp [Img.bytes]
  have e2 : x.bytes p ++ h = (p ++ x.all) ++ (le4 (x.all.length : Int) ++ (le4 (crc x.all) ++ ([49, 88, 70, 83] ++ h))) := by simp [Img.bytes]
  have e3 : x.bytes p ++ h = (p ++ (x.all ++ le4 (x.all.length : Int))) ++ (le4 (crc x.all) ++ ([49, 88, 70, 83] ++ h)) := by simp [Img.bytes]
  have e4 : x.bytes p ++ h = p ++ (x.all ++ (le4 (x.all.length : Int) ++ (le4 (crc x.all) ++ ([49, 88, 70, 83] ++ h)))) := by simp [Img.bytes]
  have hlen : (x.bytes p ++ h).length = p.length + x.all.length + 12 + h.length := by rw [e4]; simp [le4_length]; omega
  have hla : lastAt (x.bytes p ++ h) = (p.length + x.all.length + 8 : Int) := by
    rw [e1, lastAt_bytes _ _ hno]
    simp [le4_length]
    omega
  have hn1 : num4 (x.bytes p ++ h) (p.length + x.all.length) = x.all.length := by
    have := num4_app (p ++ x.all) (le4 (x.all.length : Int) ++ (le4 (crc x.all) ++ ([49, 88, 70, 83] ++ h))) 0
    rw [e2]
    rw [List.length_append, Nat.add_zero] at this
    rw [this, num4_le4 (by omega) (by omega)]
  have hcr := crc_range x.all
  have hn2 : num4 (x.bytes p ++ h) (p.length + x.all.length + 4) = crc x.all := by
    have := num4_app (p ++ (x.all ++ le4 (x.all.length : Int))) (le4 (crc x.all) ++ ([49, 88, 70, 83] ++ h)) 0
    rw [e3]
    rw [List.length_append, List.length_append, le4_length, Nat.add_zero, ← Nat.add_assoc] at this
    rw [this, num4_le4 hcr.1 hcr.2]
  have hsl : ((x.bytes p ++ h).drop p.length).take x.all.length = x.all := by rw [e4]; simp
  have t1 : ((p.length + x.all.length + 8 : Int) - 8).toNat = p.length + x.all.length := by omega
  have t2 : ((p.length + x.all.length + 8 : Int) - 8 + 4).toNat = p.length + x.all.length + 4 := by omega
  have t3 : ((p.length + x.all.length + 8 : Int) - 8 - (x.all.length : Int)).toNat = p.length := by omega
  constructor
  · intro hh
    unfold findF
    rw [hla, t1, t2, hn1, hn2, t3, Int.toNat_natCast, hsl, if_neg (by omega), if_neg (by omega), if_neg (by omega), if_pos rfl]
    simp only [Prod.mk.injEq, and_self, and_true]
    omega
  · intro hh
    refine ⟨(p.length + x.all.length + 8 : Int) - 8, ?_⟩
    unfold findF
    rw [hla, if_neg (by omega), if_pos (by omega)]
theorem read_bytes (x : Img) (hx : x.Ok) (hr : x.right = true) (p h : List Int) (hno : ∀ i, i + 3 < h.length → at4 h i = false) (hl : p.length + x.all.length + 12 + h.length ≤ 1048576) :
    (h.length ≤ 65536 → readF (x.bytes p ++ h) = (x, ⟨p.length, p.length + 44, p.length + 44 + x.stub.length, p.length + 44 + x.stub.length + x.pay.length, p.length + x.all.length⟩, 0)) ∧ (65536 < h.length → readF (x.bytes p ++ h) = (Img.zero, Wh.zero, 5)) := by
  have hal := x.all_length
  obtain ⟨f1, f2⟩ := find_bytes x p h hno hl
  constructor
  · intro hh
    have e4 : x.bytes p ++ h = p ++ (x.all ++ (le4 (x.all.length : Int) ++ (le4 (crc x.all) ++ ([49, 88, 70, 83] ++ h)))) := by simp [Img.bytes]
    unfold readF
    rw [f1 hh]
    simp only [ne_eq, not_true_eq_false, if_false]
    rw [e4]
    exact parse_bytes x hx hr p _ (by omega) (by omega) (by omega)
  · intro hh
    obtain ⟨a, ha⟩ := f2 hh
    unfold readF
    rw [ha, if_pos (by simp)]
end Go.Proofs.Ytfjodfeoncoaoaa.Pv
