/- Part 5 of the texts of this claim: the evaluator, and what it says of the program's functions. -/
import Derived.Test.YtdkoncfpkhapjaaDoorXD
set_option linter.unusedSectionVars false
set_option linter.unusedVariables false
set_option linter.unusedSimpArgs false
set_option linter.constructorNameAsVariable false
/- Numeral: the law of the longest. -/
section
open Go Go.Vm Go.Proofs
namespace Go.Proofs.Num
theorem lla_p (s : NSys) (n : Int) (m : Int) (X : Ext) (call : Caller) (lf : Nat)
  (h0 : callv X call false 13 [AV.agg (sysC s)] [Ob.cells (sysC s)] 0 = some (bo false, [Ob.cells (sysC s)]))
  (h1 : callv X call false 15 [] [Ob.cells (sysC s)] 0 = some (bo true, [Ob.cells (sysC s)])) : vbody Tryd.prog X call lf noFg Tryd.f8 (codeOf Tryd.f8) [AV.agg (sysC s), i6 n, AV.int IntKind.u16 m] [] 0 = some (bo true, [Ob.cells (sysC s)]) :=
  along_sound (ans := [(5, Ans.v (bo false)), (14, Ans.v (bo true))]) (by kernel_rfl) (And.intro h0 (And.intro h1 trivial))
theorem llb_p (s : NSys) (n : Int) (m : Int) (X : Ext) (call : Caller) (lf : Nat)
  (h0 : callv X call false 13 [AV.agg (sysC s)] [Ob.cells (sysC s)] 0 = some (bo true, [Ob.cells (sysC s)]))
  (h1 : callv X call false 22 [AV.agg (sysC s)] [Ob.cells (sysC s)] 0 = some (bo false, [Ob.cells (sysC s)]))
  (h2 : callv X call false 15 [] [Ob.cells (sysC s)] 0 = some (bo true, [Ob.cells (sysC s)])) : vbody Tryd.prog X call lf noFg Tryd.f8 (codeOf Tryd.f8) [AV.agg (sysC s), i6 n, AV.int IntKind.u16 m] [] 0 = some (bo true, [Ob.cells (sysC s)]) :=
  along_sound (ans := [(5, Ans.v (bo true)), (11, Ans.v (bo false)), (17, Ans.v (bo true))]) (by kernel_rfl) (And.intro h0 (And.intro h1 (And.intro h2 trivial)))
theorem llc_pttt (s : NSys) (n : Int) (m : Int) (b : Int) (c : Int) (X : Ext) (call : Caller) (lf : Nat)
  (h0 : callv X call false 13 [AV.agg (sysC s)] [Ob.cells (sysC s)] 0 = some (bo true, [Ob.cells (sysC s)]))
  (h1 : callv X call false 22 [AV.agg (sysC s)] [Ob.cells (sysC s)] 0 = some (bo true, [Ob.cells (sysC s)]))
  (h2 : callv X call false 24 [AV.agg (sysC s), i6 n] [Ob.cells (sysC s)] 0 = some (AV.tup [i6 b, i6 c], [Ob.cells (sysC s)]))
  (h3 : decide (n < 0) = true)
  (h4 : callv X call false 15 [] [Ob.cells (sysC s)] 0 = some (bo true, [Ob.cells (sysC s)]))
  (h5 : (b == 0) = true)
  (h6 : (c == 0) = true) : vbody Tryd.prog X call lf noFg Tryd.f8 (codeOf Tryd.f8) [AV.agg (sysC s), i6 n, AV.int IntKind.u16 m] [] 0 = some (bo true, [Ob.cells (sysC s)]) :=
  along_sound (ans := [(5, Ans.v (bo true)), (11, Ans.v (bo true)), (19, Ans.v (AV.tup [i6 b, i6 c])), (27, Ans.b true), (30, Ans.v (bo true)), (35, Ans.b true), (41, Ans.b true)]) (by kernel_rfl) (And.intro h0 (And.intro h1 (And.intro h2 (And.intro h3 (And.intro h4 (And.intro h5 (And.intro h6 trivial)))))))
theorem llc_pfttttt (s : NSys) (n : Int) (m : Int) (b : Int) (c : Int) (li : Int) (k : Int) (x : List ByteArray) (y : List ByteArray) (X : Ext) (call : Caller) (lf : Nat)
  (h0 : callv X call false 13 [AV.agg (sysC s)] [Ob.cells (sysC s)] 0 = some (bo true, [Ob.cells (sysC s)]))
  (h1 : callv X call false 22 [AV.agg (sysC s)] [Ob.cells (sysC s)] 0 = some (bo true, [Ob.cells (sysC s)]))
  (h2 : callv X call false 24 [AV.agg (sysC s), i6 n] [Ob.cells (sysC s)] 0 = some (AV.tup [i6 b, i6 c], [Ob.cells (sysC s)]))
  (h3 : decide (n < 0) = false)
  (h4 : callv X call false 25 [i6 n] [Ob.cells (sysC s)] 0 = some (i6 li, [Ob.cells (sysC s)]))
  (h5 : keep [Ob.cells (sysC s)] (binv Tryd.prog BinOp.rem 3 (i6 (w6 m)) (i6 (w6 (li + 1)))) = some (i6 k, [Ob.cells (sysC s)]))
  (h6 : callv X call false 16 [AV.agg (sysC s), i6 k] [Ob.cells (sysC s)] 0 = some (AV.tup [lro (List.length x) 1 (List.map st x), i6 0], [Ob.cells (sysC s)]))
  (h7 : callv X call false 16 [AV.agg (sysC s), i6 b] [Ob.cells (sysC s)] 0 = some (AV.tup [lro (List.length y) 1 (List.map st y), i6 0], [Ob.cells (sysC s)]))
  (h8 : callv X call false 15 [] [Ob.cells (sysC s)] 0 = some (bo true, [Ob.cells (sysC s)]))
  (h9 : decide (b ≥ 0) = true)
  (h10 : decide (b ≤ li) = true)
  (h11 : ((↑(List.length y) : Int) == c) = true)
  (h12 : decide ((↑(List.length x) : Int) ≤ c) = true)
  (h13 : decide ((↑(List.length x) : Int) < c) = true) : vbody Tryd.prog X call lf noFg Tryd.f8 (codeOf Tryd.f8) [AV.agg (sysC s), i6 n, AV.int IntKind.u16 m] [] 0 = some (bo true, [Ob.cells (sysC s)]) :=
  along_sound (ans := [(5, Ans.v (bo true)), (11, Ans.v (bo true)), (19, Ans.v (AV.tup [i6 b, i6 c])), (27, Ans.b false), (31, Ans.v (i6 li)), (38, Ans.v (i6 k)), (43, Ans.v (AV.tup [lro (List.length x) 1 (List.map st x), i6 0])), (52, Ans.v (AV.tup [lro (List.length y) 1 (List.map st y), i6 0])), (59, Ans.v (bo true)), (76, Ans.b true), (84, Ans.b true), (94, Ans.b true), (104, Ans.b true), (114, Ans.b true)]) (by kernel_rfl) (And.intro h0 (And.intro h1 (And.intro h2 (And.intro h3 (And.intro h4 (And.intro h5 (And.intro h6 (And.intro h7 (And.intro h8 (And.intro h9 (And.intro h10 (And.intro h11 (And.intro h12 (And.intro h13 trivial))))))))))))))
theorem llc_pfttttft (s : NSys) (n : Int) (m : Int) (b : Int) (c : Int) (li : Int) (k : Int) (x : List ByteArray) (y : List ByteArray) (X : Ext) (call : Caller) (lf : Nat)
  (h0 : callv X call false 13 [AV.agg (sysC s)] [Ob.cells (sysC s)] 0 = some (bo true, [Ob.cells (sysC s)]))
  (h1 : callv X call false 22 [AV.agg (sysC s)] [Ob.cells (sysC s)] 0 = some (bo true, [Ob.cells (sysC s)]))
  (h2 : callv X call false 24 [AV.agg (sysC s), i6 n] [Ob.cells (sysC s)] 0 = some (AV.tup [i6 b, i6 c], [Ob.cells (sysC s)]))
  (h3 : decide (n < 0) = false)
  (h4 : callv X call false 25 [i6 n] [Ob.cells (sysC s)] 0 = some (i6 li, [Ob.cells (sysC s)]))
  (h5 : keep [Ob.cells (sysC s)] (binv Tryd.prog BinOp.rem 3 (i6 (w6 m)) (i6 (w6 (li + 1)))) = some (i6 k, [Ob.cells (sysC s)]))
  (h6 : callv X call false 16 [AV.agg (sysC s), i6 k] [Ob.cells (sysC s)] 0 = some (AV.tup [lro (List.length x) 1 (List.map st x), i6 0], [Ob.cells (sysC s)]))
  (h7 : callv X call false 16 [AV.agg (sysC s), i6 b] [Ob.cells (sysC s)] 0 = some (AV.tup [lro (List.length y) 1 (List.map st y), i6 0], [Ob.cells (sysC s)]))
  (h8 : callv X call false 15 [] [Ob.cells (sysC s)] 0 = some (bo true, [Ob.cells (sysC s)]))
  (h9 : decide (b ≥ 0) = true)
  (h10 : decide (b ≤ li) = true)
  (h11 : ((↑(List.length y) : Int) == c) = true)
  (h12 : decide ((↑(List.length x) : Int) ≤ c) = true)
  (h13 : decide ((↑(List.length x) : Int) < c) = false)
  (h14 : decide (b ≤ k) = true) : vbody Tryd.prog X call lf noFg Tryd.f8 (codeOf Tryd.f8) [AV.agg (sysC s), i6 n, AV.int IntKind.u16 m] [] 0 = some (bo true, [Ob.cells (sysC s)]) :=
  along_sound (ans := [(5, Ans.v (bo true)), (11, Ans.v (bo true)), (19, Ans.v (AV.tup [i6 b, i6 c])), (27, Ans.b false), (31, Ans.v (i6 li)), (38, Ans.v (i6 k)), (43, Ans.v (AV.tup [lro (List.length x) 1 (List.map st x), i6 0])), (52, Ans.v (AV.tup [lro (List.length y) 1 (List.map st y), i6 0])), (59, Ans.v (bo true)), (76, Ans.b true), (84, Ans.b true), (94, Ans.b true), (104, Ans.b true), (114, Ans.b false), (122, Ans.b true)]) (by kernel_rfl) (And.intro h0 (And.intro h1 (And.intro h2 (And.intro h3 (And.intro h4 (And.intro h5 (And.intro h6 (And.intro h7 (And.intro h8 (And.intro h9 (And.intro h10 (And.intro h11 (And.intro h12 (And.intro h13 (And.intro h14 trivial)))))))))))))))

/-- What the longest is. -/
structure LongIs (s : NSys) (N : Nat) : Prop where
  at_ : ∃ (b : Nat) (l : List ByteArray), b < N ∧ longO s N = ((b : Int), (l.length : Int)) ∧ sayO s 6 (b : Int) = some l
  all_ : ∀ (k : Nat) (l : List ByteArray), k < N → sayO s 6 (k : Int) = some l → (l.length : Int) ≤ (longO s N).2 ∧ ((l.length : Int) = (longO s N).2 → (longO s N).1 ≤ (k : Int))
theorem long_inv {s : NSys} (hv : validL s = true) : ∀ (N : Nat), 0 < N → N ≤ 10000 → LongIs s N
  | 0, h, _ => absurd h (by omega)
  | 1, _, _ => by
    obtain ⟨l, hl, _⟩ := words_some hv (n := 0) (by omega) (by omega)
    have hl' : sayO s 6 ((0 : Nat) : Int) = some l := hl
    have hne := (sayO_len s 6 _ l hl).1
    have hpos : 0 < l.length := List.length_pos_iff.2 hne
    have e : longO s 1 = (((0 : Nat) : Int), (l.length : Int)) := by
      have e1 : longO s 1 = match sayO s 6 ((0 : Nat) : Int) with
        | some l => if (l.length : Int) > (longO s 0).2 then (((0 : Nat) : Int), (l.length : Int)) else longO s 0
        | none => longO s 0 := rfl
      rw [e1, hl']
      simp only
      have e2 : (longO s 0).2 = 0 := rfl
      rw [e2, if_pos (by omega)]
    refine ⟨⟨0, l, by omega, e, hl'⟩, fun k l' hk h => ?_⟩
    have : k = 0 := by omega
    subst this
    rw [hl'] at h
    simp only [Option.some.injEq] at h
    subst h
    rw [e]
    exact ⟨Int.le_refl _, fun _ => Int.le_refl _⟩
  | N + 2, _, h9 => by
    have ih := long_inv hv (N + 1) (by omega) (by omega)
    obtain ⟨b, lb, h1, h2, h3⟩ := ih.at_
    obtain ⟨l, hl, _⟩ := words_some hv (n := ((N + 1 : Nat) : Int)) (by omega) (by omega)
    have e : longO s (N + 2) = if (l.length : Int) > (longO s (N + 1)).2 then (((N + 1 : Nat) : Int), (l.length : Int)) else longO s (N + 1) := by
      have e1 : longO s (N + 2) = match sayO s 6 ((N + 1 : Nat) : Int) with
        | some l => if (l.length : Int) > (longO s (N + 1)).2 then (((N + 1 : Nat) : Int), (l.length : Int)) else longO s (N + 1)
        | none => longO s (N + 1) := rfl
      rw [e1, hl]
    by_cases hg : (l.length : Int) > (longO s (N + 1)).2
    · rw [if_pos hg] at e
      refine ⟨⟨N + 1, l, by omega, e, hl⟩, fun k l' hk h => ?_⟩
      rw [e]
      simp only
      by_cases hk2 : k < N + 1
      · have := (ih.all_ k l' hk2 h).1
        exact ⟨by omega, fun h => by omega⟩
      · have : k = N + 1 := by omega
        subst this
        rw [hl] at h
        simp only [Option.some.injEq] at h
        subst h
        exact ⟨Int.le_refl _, fun _ => Int.le_refl _⟩
    · rw [if_neg hg] at e
      refine ⟨⟨b, lb, by omega, by rw [e]; exact h2, h3⟩, fun k l' hk h => ?_⟩
      rw [e]
      by_cases hk2 : k < N + 1
      · exact ih.all_ k l' hk2 h
      · have : k = N + 1 := by omega
        subst this
        rw [hl] at h
        simp only [Option.some.injEq] at h
        subst h
        refine ⟨by omega, fun _ => ?_⟩
        rw [h2]
        simp only
        omega
section
variable {s : NSys} {dr : Bool} {σ : List Ob} {ro : Nat}
theorem c_longest (hk : okS s = true) {n : Int} (hn : -9223372036854775808 ≤ n) : callv (X15 []) (callerOf T13) dr 24 [AV.agg (sysC s), i6 n] σ ro = some (.tup [i6 (longestO s n).1, i6 (longestO s n).2], σ) := by
  refine call_T (r := .tup [i6 (longestO s n).1, i6 (longestO s n).2]) rfl rfl (lt_sysn s n) ?_ rfl rfl
  show longestS (roAll [AV.agg (sysC s), i6 n]) = _
  rw [ro_sysn]
  simp only [longestS, sysO_sysC]
  rw [if_pos ⟨hk, hn⟩]
theorem c_lim (n : Int) : callv (X15 []) (callerOf T13) dr 25 [i6 n] σ ro = some (i6 (limO n), σ) := call_T (r := i6 (limO n)) rfl rfl rfl rfl rfl rfl
end
theorem words_of' {s : NSys} (hv : validL s = true) {n : Int} (h0 : 0 ≤ n) (h9 : n ≤ 9999) {l : List ByteArray} (hl : sayO s 6 n = some l) : wordsO s n = some (l, 0) := by
  unfold wordsO
  rw [if_neg (by rw [hv]; simp; omega), if_neg (by omega), hl]
/-- NumeralLongest: true. -/
theorem law_longest [Fixed] (hX : ∀ l, ExtOk Tryd.prog (X15 l)) {s : NSys} (hk : okS s = true) {n m : Int} (n0 : -9223372036854775808 ≤ n) (m0 : 0 ≤ m) (m1 : m ≤ 65535) : CallAt Tryd.prog 8 [AV.agg (sysC s), i6 n, .int .u16 m] [] 0 (bo true) [] := by
  have run : ∀ {σ' : List Ob}, vbody Tryd.prog (X15 []) (callerOf T13) 1 noFg Tryd.f8 (codeOf Tryd.f8) [AV.agg (sysC s), i6 n, .int .u16 m] [] 0 = some (bo true, σ') → CallAt Tryd.prog 8 [AV.agg (sysC s), i6 n, .int .u16 m] [] 0 (bo true) [] :=
    fun h => run_at (hX []) (T13_ok hX) rfl Tryd.func8 rfl rfl h
  have hs := c_small (s := s) (dr := false) (σ := [Ob.cells (sysC s)]) (ro := 0)
  have hv := c_valid (dr := false) (σ := [Ob.cells (sysC s)]) (ro := 0) hk
  have hl := c_longest (dr := false) (σ := [Ob.cells (sysC s)]) (ro := 0) hk n0
  cases hsm : smallL s with
  | false =>
    rw [hsm] at hs
    exact run (lla_p s n m (X15 []) (callerOf T13) 1 hs c_awake)
  | true =>
    rw [hsm] at hs
    cases hva : validL s with
    | false =>
      rw [hva] at hv
      exact run (llb_p s n m (X15 []) (callerOf T13) 1 hs hv c_awake)
    | true =>
      rw [hva] at hv
      have e : longestO s n = longO s (limO n + 1).toNat := by unfold longestO; rw [hva]; rfl
      by_cases hn : n < 0
      · have e0 : limO n = n := by unfold limO; rw [if_neg (by omega)]
        have e1 : (limO n + 1).toNat = 0 := by rw [e0]; omega
        rw [e, e1] at hl
        exact run (llc_pttt s n m _ _ (X15 []) (callerOf T13) 1 hs hv hl (decide_eq_true hn) c_awake rfl rfl)
      · have hlim : 0 ≤ limO n ∧ limO n ≤ 9999 := by unfold limO; split <;> omega
        have hI := long_inv hva (limO n + 1).toNat (by omega) (by omega)
        obtain ⟨b, lb, h1, h2, h3⟩ := hI.at_
        have hw1 : w6 m = m := w6_id (by omega) (by omega)
        have hw2 : w6 (limO n + 1) = limO n + 1 := w6_id (by omega) (by omega)
        have hne : limO n + 1 ≠ 0 := by omega
        have hr := rem_p (S := [Ob.cells (sysC s)]) (n := m) hne
        obtain ⟨k, hkk⟩ : ∃ k : Nat, m.tmod (limO n + 1) = (k : Int) := by
          rw [Int.tmod_eq_emod_of_nonneg m0]
          exact ⟨(m % (limO n + 1)).toNat, (Int.toNat_of_nonneg (Int.emod_nonneg _ hne)).symm⟩
        have hklt : (k : Int) < limO n + 1 := by
          rw [← hkk, Int.tmod_eq_emod_of_nonneg m0]
          exact Int.emod_lt_of_pos _ (by omega)
        rw [hkk] at hr
        obtain ⟨x, hx, hwx⟩ := words_some hva (n := (k : Int)) (by omega) (by omega)
        obtain ⟨q1, q2⟩ := hI.all_ k x (by omega) hx
        rw [e, h2] at hl
        rw [h2] at q1 q2
        simp only at q1 q2
        have h7 := c_words (dr := false) (σ := [Ob.cells (sysC s)]) (ro := 0) hk (words_of' hva (n := (b : Int)) (by omega) (by omega) h3)
        have h6 := c_words (dr := false) (σ := [Ob.cells (sysC s)]) (ro := 0) hk hwx
        by_cases hlt : (x.length : Int) < (lb.length : Int)
        · exact run (llc_pfttttt s n m _ _ _ _ x lb (X15 []) (callerOf T13) 1 hs hv hl (decide_eq_false hn) (c_lim n) (by rw [hw1, hw2]; exact hr) h6 h7 c_awake (by simp) (decide_eq_true (by omega)) (by simp) (decide_eq_true q1) (decide_eq_true hlt))
        · exact run (llc_pfttttft s n m _ _ _ _ x lb (X15 []) (callerOf T13) 1 hs hv hl (decide_eq_false hn) (c_lim n) (by rw [hw1, hw2]; exact hr) h6 h7 c_awake (by simp) (decide_eq_true (by omega)) (by simp) (decide_eq_true q1) (decide_eq_false hlt) (decide_eq_true (q2 (by omega))))
end Go.Proofs.Num
end
