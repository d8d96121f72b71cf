-- Images, plainly.
import Derived.Test.YtfjodfeoncoaoaaOpA
import Derived.Test.YtfjodfeoncoaoaaCrV
namespace Go.Proofs.Ytfjodfeoncoaoaa.Pv
set_option linter.all false
open Go.RowKit Go.Proofs
def num4 (b : List Int) (i : Nat) : Int := b.getD i 0 + 256 * b.getD (i + 1) 0 + 65536 * b.getD (i + 2) 0 + 16777216 * b.getD (i + 3) 0
def le4 (n : Int) : List Int := [n % 256, n / 256 % 256, n / 65536 % 256, n / 16777216 % 256]
theorem getD_oct {b : List Int} (h : Oct b) (i : Nat) : 0 ≤ b.getD i 0 ∧ b.getD i 0 < 256 := by
  rcases Nat.lt_or_ge i b.length with hi | hi
  · have := h (b[i]) (List.getElem_mem hi)
    simpa [List.getD_eq_getElem?_getD, List.getElem?_eq_getElem hi] using this
  · simp [List.getD_eq_getElem?_getD, List.getElem?_eq_none hi]
theorem num4_range {b : List Int} (h : Oct b) (i : Nat) : 0 ≤ num4 b i ∧ num4 b i < 4294967296 := by
  have h0 := getD_oct h i
  have h1 := getD_oct h (i + 1)
  have h2 := getD_oct h (i + 2)
  have h3 := getD_oct h (i + 3)
  unfold num4
  omega
theorem le4_oct (n : Int) : Oct (le4 n) := by
  intro x hx
  simp only [le4, List.mem_cons, List.not_mem_nil, or_false] at hx
  omega
theorem le4_length (n : Int) : (le4 n).length = 4 := rfl
theorem getD_app {A B : List Int} (i : Nat) : (A ++ B).getD (A.length + i) 0 = B.getD i 0 := by
  simp [List.getD_eq_getElem?_getD, List.getElem?_append_right]
theorem getD_low {A B : List Int} {i : Nat} (h : i < A.length) : (A ++ B).getD i 0 = A.getD i 0 := by
  simp [List.getD_eq_getElem?_getD, List.getElem?_append_left h]
theorem num4_app (A B : List Int) (i : Nat) : num4 (A ++ B) (A.length + i) = num4 B i := by
  unfold num4
  rw [Nat.add_assoc, Nat.add_assoc, Nat.add_assoc, getD_app, getD_app, getD_app, getD_app]
theorem num4_low (A B : List Int) {i : Nat} (h : i + 3 < A.length) : num4 (A ++ B) i = num4 A i := by
  unfold num4
  rw [getD_low (by omega), getD_low (by omega), getD_low (by omega), getD_low (by omega)]
theorem num4_le4 {n : Int} (h0 : 0 ≤ n) (h1 : n < 4294967296) (C : List Int) : num4 (le4 n ++ C) 0 = n := by
  simp only [num4, le4, List.cons_append, List.getD_cons_zero, List.getD_cons_succ, Nat.zero_add]
  show n % 256 + 256 * (n / 256 % 256) + 65536 * (n / 65536 % 256) + 16777216 * (n / 16777216 % 256) = n
  omega
structure Img where
  o : Op5
  count : Int
  mid : Int
  raw : Int
  sum : Int
  n0 : Int
  n1 : Int
  stub : List Int
  pay : List Int
  dir : List Int
def Img.cells (x : Img) : List PV := [.v (.bool x.o.bcj), .v (.int .i64 x.o.del), .v (.bool x.o.lz), .v (.bool x.o.rng), .v (.bool x.o.cry), .v (.int .i64 x.count), .v (.int .i64 x.mid), .v (.int .i64 x.raw), .v (.int .u32 x.sum), .v (.int .u32 x.n0), .v (.int .u32 x.n1),
  .ro 1 false (ints .u8 x.stub), .ro 1 false (ints .u8 x.pay), .ro 1 false (ints .u8 x.dir)]
def Img.zero : Img := ⟨⟨false, 0, false, false, false⟩, 0, 0, 0, 0, 0, 0, [], [], []⟩
def Img.right (x : Img) : Bool := decide (x.o.right = true ∧ 0 ≤ x.count ∧ x.count ≤ 200 ∧ 0 ≤ x.raw ∧ x.raw ≤ 65536 ∧ 0 ≤ x.mid ∧ x.mid ≤ 131072 ∧ (x.stub.length : Int) % 4 = 0 ∧ (x.o.lz = true ∨ x.mid = x.raw) ∧ (x.o.rng = true → x.mid ≤ 65536) ∧ (x.o.rng = false → (x.pay.length : Int) = x.mid))
/-- The cells' values are ones of their kinds. -/
structure Img.Ok (x : Img) : Prop where
  sum : 0 ≤ x.sum ∧ x.sum < 4294967296
  n0 : 0 ≤ x.n0 ∧ x.n0 < 4294967296
  n1 : 0 ≤ x.n1 ∧ x.n1 < 4294967296
  stub : Oct x.stub
  pay : Oct x.pay
  dir : Oct x.dir
def Img.words (x : Img) : List Int := [x.count % 4294967296, (x.pay.length : Int) % 4294967296, x.mid % 4294967296, x.raw % 4294967296, x.sum, x.n0, x.n1, (x.stub.length : Int) % 4294967296, (x.dir.length : Int) % 4294967296]
def Img.hdr (x : Img) : List Int := [83, 70, 88, 49, byteTo x.o 4, x.o.del % 256, 0, 0] ++ (x.words.flatMap le4)
def Img.all (x : Img) : List Int := x.hdr ++ (x.stub ++ (x.pay ++ x.dir))
def crc (l : List Int) : Int := Cr.sum 0 l
def Img.bytes (p : List Int) (x : Img) : List Int := p ++ (x.all ++ (le4 (x.all.length : Int) ++ (le4 (crc x.all) ++ [49, 88, 70, 83])))
theorem Img.hdr_length (x : Img) : x.hdr.length = 44 := rfl
theorem Img.all_length (x : Img) : x.all.length = 44 + x.stub.length + x.pay.length + x.dir.length := by
  simp only [Img.all, List.length_append, Img.hdr_length]
  omega
theorem byteTo_oct (o : Op5) : 0 ≤ byteTo o 4 ∧ byteTo o 4 < 16 := by
  obtain ⟨a, b, c, d, e⟩ := o
  cases a <;> cases c <;> cases d <;> cases e <;> simp [byteTo, b1]
theorem flat_oct : ∀ (l : List Int), Oct (l.flatMap le4)
  | [] => fun x h => by simp at h
  | a :: l => fun x h => by
    rw [List.flatMap_cons, List.mem_append] at h
    rcases h with h | h
    · exact le4_oct _ x h
    · exact flat_oct l x h
theorem Img.hdr_oct (x : Img) : Oct x.hdr := by
  intro y hy
  rw [Img.hdr, List.mem_append] at hy
  rcases hy with hy | hy
  · have := byteTo_oct x.o
    simp only [List.mem_cons, List.not_mem_nil, or_false] at hy
    omega
  · exact flat_oct _ y hy
theorem crc_range (l : List Int) : 0 ≤ crc l ∧ crc l < 4294967296 := ⟨Cr.U_lo _, Cr.U32_hi _⟩
/-- Does what ends a trailer stand there? -/
def at4 (b : List Int) (i : Nat) : Bool := decide (b.getD i 0 = 49 ∧ b.getD (i + 1) 0 = 88 ∧ b.getD (i + 2) 0 = 70 ∧ b.getD (i + 3) 0 = 83)
def lastUpto (b : List Int) : Nat → Int
  | 0 => -1
  | i + 1 => if at4 b i then (i : Int) else lastUpto b i
def lastAt (b : List Int) : Int := lastUpto b (b.length - 3)
/-- Where an image is: from, to; or where an error is, and which. -/
def findF (b : List Int) : (Int × Int) × (Int × Int) :=
  if 1048576 < (b.length : Int) then ((0, 0), (0, 4)) else
  if lastAt b - 8 < 0 ∨ 65536 < (b.length : Int) - (lastAt b - 8) - 12 then ((0, 0), (lastAt b - 8, 5)) else
  if num4 b (lastAt b - 8).toNat < 44 ∨ lastAt b - 8 < num4 b (lastAt b - 8).toNat then ((0, 0), (lastAt b - 8, 5)) else
  if crc ((b.drop ((lastAt b - 8) - num4 b (lastAt b - 8).toNat).toNat).take (num4 b (lastAt b - 8).toNat).toNat) = num4 b ((lastAt b - 8) + 4).toNat then (((lastAt b - 8) - num4 b (lastAt b - 8).toNat, lastAt b - 8), (0, 0))
  else ((0, 0), ((lastAt b - 8) - num4 b (lastAt b - 8).toNat, 6))
structure Wh where
  h : Int
  s : Int
  p : Int
  d : Int
  t : Int
def Wh.cells (w : Wh) : List PV := [.v (.int .i64 w.h), .v (.int .i64 w.s), .v (.int .i64 w.p), .v (.int .i64 w.d), .v (.int .i64 w.t)]
def Wh.zero : Wh := ⟨0, 0, 0, 0, 0⟩
def bit (n : Int) (k : Int) : Bool := decide (n / k % 2 = 1)
def openF (n d : Int) : Op5 := ⟨bit n 1, d, bit n 2, bit n 4, bit n 8⟩
def seg (b : List Int) (i j : Int) : List Int := (b.drop i.toNat).take (j - i).toNat
/-- The image whose header begins at h, and ends at t. -/
def imgAt (b : List Int) (h t : Int) : Img :=
  let f := h.toNat
  let s := num4 b (f + 36)
  let p := num4 b (f + 12)
  ⟨openF (b.getD (f + 4) 0) (b.getD (f + 5) 0), num4 b (f + 8), num4 b (f + 16), num4 b (f + 20), num4 b (f + 24), num4 b (f + 28), num4 b (f + 32), seg b (h + 44) (h + 44 + s), seg b (h + 44 + s) (h + 44 + s + p), seg b (h + 44 + s + p) t⟩
def whAt (b : List Int) (h t : Int) : Wh := ⟨h, h + 44, h + 44 + num4 b (h.toNat + 36), h + 44 + num4 b (h.toNat + 36) + num4 b (h.toNat + 12), t⟩
def formed (b : List Int) (h t : Int) : Bool := decide (b.getD h.toNat 0 = 83 ∧ b.getD (h.toNat + 1) 0 = 70 ∧ b.getD (h.toNat + 2) 0 = 88 ∧ b.getD (h.toNat + 3) 0 = 49 ∧ b.getD (h.toNat + 4) 0 < 16 ∧ b.getD (h.toNat + 6) 0 = 0 ∧ b.getD (h.toNat + 7) 0 = 0 ∧
  44 + num4 b (h.toNat + 36) + num4 b (h.toNat + 12) + num4 b (h.toNat + 40) = t - h)
def parseF (b : List Int) (h t : Int) : Img × Wh × Int :=
  if formed b h t && (imgAt b h t).right then (imgAt b h t, whAt b h t, 0) else (Img.zero, Wh.zero, 2)
def readF (b : List Int) : Img × Wh × Int :=
  if (findF b).2.2 ≠ 0 then (Img.zero, Wh.zero, (findF b).2.2) else parseF b (findF b).1.1 (findF b).1.2
end Go.Proofs.Ytfjodfeoncoaoaa.Pv
