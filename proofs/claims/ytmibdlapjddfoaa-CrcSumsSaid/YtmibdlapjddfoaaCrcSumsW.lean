/- CrcSums: the sum of any bytes, behind any sum, and of parts, is the reference's. For every input; no condition. -/
import Derived.Test.YtmibdlapjddfoaaCrcR
import Derived.Test.YtmibdlapjddfoaaQCrcx2
namespace Go.Proofs.Ytmibdlapjddfoaa.CrcSumsW
open Go.RowKit Go.Proofs.YtmibdlapjddfoaaW.PrintWords Go.Proofs.Ytmibdlapjddfoaa.Bv Go.Proofs.Ytmibdlapjddfoaa.CrcF Go.Proofs.Ytmibdlapjddfoaa.CrcE Go.Proofs.Ytmibdlapjddfoaa.QCrc
theorem j2_ev (a : Int) (l : List Int) (ls : List (List Int)) (hl : l.length ≤ 140737488351232) (hn : ls.length ≤ 140737488351232) (hls : ∀ l ∈ ls, l.length ≤ 140737488351232) (b : Bool) :
    Ev (fun k => carapacelaw01_CrcSums.j2 k a l ls true b) true := by
  cases b with
  | true => exact Ev.step (f := fun _ => some true) (fun k => by simp only [carapacelaw01_CrcSums.j2]; rw [if_pos trivial]) (Ev.now _)
  | false =>
    have e6 : Ev (fun k => (crc_All.f k ls).bind fun t116 => ((carapaceref01_All.f k ls).bind fun t117 => (some (t116 == t117)))) true :=
      Ev.bind (All_ev ls hn hls) (Ev.bind (rAll_ev ls hn hls) (by simp only [beq_self_eq_true]; exact Ev.now _))
    have e5 : Ev (fun k => (crc_More.f k a l).bind fun t114 => ((carapaceref01_More.f k a l).bind fun t115 => (if t114 = t115 then ((crc_All.f k ls).bind fun t116 => ((carapaceref01_All.f k ls).bind fun t117 => (some (t116 == t117)))) else (some false)))) true :=
      Ev.bind (More_ev a l hl) (Ev.bind (rMore_ev a l hl) (by simp only [if_true]; exact e6))
    have e4 : Ev (fun k => (crc_Sum.f k l).bind fun t112 => ((carapaceref01_Sum.f k l).bind fun t113 => (if t112 = t113 then ((crc_More.f k a l).bind fun t114 => ((carapaceref01_More.f k a l).bind fun t115 => (if t114 = t115 then ((crc_All.f k ls).bind fun t116 => ((carapaceref01_All.f k ls).bind fun t117 => (some (t116 == t117)))) else (some false)))) else (some false)))) true :=
      Ev.bind (Sum_ev l hl) (Ev.bind (rSum_ev l hl) (by simp only [if_true]; exact e5))
    refine Ev.step (fun k => ?_) e4
    simp only [carapacelaw01_CrcSums.j2]
    rw [if_neg (by simp), if_pos trivial]
theorem j1_ev (a : Int) (l : List Int) (ls : List (List Int)) (hl : l.length ≤ 140737488351232) (hn : ls.length ≤ 140737488351232) (hls : ∀ l ∈ ls, l.length ≤ 140737488351232) (n : Int) :
    Ev (fun k => carapacelaw01_CrcSums.j1 k a l ls true n) true := by
  by_cases h : (l.length : Int) > 2000
  · exact Ev.step (fun k => by simp only [carapacelaw01_CrcSums.j1]; rw [if_pos h]) (j2_ev a l ls hl hn hls true)
  · exact Ev.step (fun k => by simp only [carapacelaw01_CrcSums.j1]; rw [if_neg h]) (j2_ev a l ls hl hn hls (decide (n > 2000)))
theorem l0_ev (a : Int) (l : List Int) (ls : List (List Int)) (hl : l.length ≤ 140737488351232) (hn : ls.length ≤ 140737488351232) (hls : ∀ l ∈ ls, l.length ≤ 140737488351232) (d : Nat) :
    ∀ (i : Nat) (n : Int), i + d = ls.length → Ev (fun k => carapacelaw01_CrcSums.l0 k a l ls true n (i : Int)) true := by
  induction d with
  | zero =>
    intro i n h
    exact Ev.step (fun k => by simp only [carapacelaw01_CrcSums.l0]; rw [if_neg (by omega)]) (j1_ev a l ls hl hn hls n)
  | succ d ih =>
    intro i n h
    by_cases hm : n < 10000
    · refine Ev.step (fun k => ?_) (ih (i + 1) (wrap64 ((wrap64 (n + ((rd_L1 ls (i : Int)).length : Int))) + 1)) (by omega))
      simp only [carapacelaw01_CrcSums.l0]
      rw [if_pos (by omega), if_pos hm, if_pos (by omega), w64 (x := (i : Int) + 1) (by omega) (by omega)]
      rfl
    · exact Ev.step (fun k => by simp only [carapacelaw01_CrcSums.l0]; rw [if_pos (by omega), if_neg hm]) (j1_ev a l ls hl hn hls n)
theorem walk (w : World) (a0 : Int) (_ : (Lit.int .u32 a0).wf = true) (A1 : Option Addr) (c1 : Nat) (l1 : List Int) (hr1 : Kd.C (Kd.int .u8) w A1 l1.length l1) (hc1 : l1.length ≤ c1) (ok1 : l1.length * 1 ≤ 140737488351232 ∧ l1.length ≤ maxLen ∧ ∀ x ∈ l1, (Lit.int .u8 x).wf = true)
    (A2 : Option Addr) (c2 : Nat) (l2 : List (List Int)) (hr2 : Kd.C (Kd.slice 5 (Kd.int .u8)) w A2 l2.length l2) (hc2 : l2.length ≤ c2)
    (ok2 : l2.length * 24 ≤ 140737488351232 ∧ l2.length ≤ maxLen ∧ ∀ l ∈ l2, l.length * 1 ≤ 140737488351232 ∧ l.length ≤ maxLen ∧ ∀ x ∈ l, (Lit.int .u8 x).wf = true) :
    Calls Try.prog 3 #[.int .u32 a0, .slice A1 l1.length c1, .slice A2 l2.length c2] w fun e w' => e = .returned (.bool true) ∧ Below w.heap.size w w' := by
  obtain ⟨k, h⟩ := (l0_ev a0 l1 l2 (by omega) (by omega) (fun l hl => by have := (ok2.2.2 l hl).1; omega) l2.length 0 0 (by omega)).rounds
  exact carapacelaw01_CrcSums.calls k a0 A1 c1 l1 A2 c2 l2 true w hr1 hc1 hr2 hc2 h
end Go.Proofs.Ytmibdlapjddfoaa.CrcSumsW
