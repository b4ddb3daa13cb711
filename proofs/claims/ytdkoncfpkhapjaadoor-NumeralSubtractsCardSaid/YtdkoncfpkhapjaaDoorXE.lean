/- Part 5 of the texts of this claim: the evaluator, and what it says of the program's functions. -/
import Derived.Test.YtdkoncfpkhapjaaDoorXD
set_option linter.unusedSectionVars false
set_option linter.unusedVariables false
set_option linter.unusedSimpArgs false
set_option linter.constructorNameAsVariable false
/- Numeral: parts of numbers; calls with rows of the call itself. -/
section
open Go Go.Vm Go.Proofs
namespace Go.Proofs.Num
def z0 (s : NSys) : NSys := { s with sub := 0, le := ByteArray.mk #[] }

def lpS0 (b : Int) (n : Int) (P : Nat → Int) (i0 : Nat) : St :=
  stOf 23 [8, 9, 10, 11, 12, 13, 14, 15, 16, 17, 18, 19, 20, 21] [(0, i6 b), (1, i6 n), (4, i6 0), (5, i6 (P i0)), (6, i6 (↑i0 : Int)), (7, i6 b)] []
def lpS1 (b : Int) (n : Int) (P : Nat → Int) (i0 : Nat) : St :=
  stOf 23 [] [(0, i6 b), (1, i6 n), (4, i6 0), (5, i6 (w6 (P i0 * b))), (6, i6 (w6 ((↑i0 : Int) + 1))), (7, i6 b), (8, i6 (↑i0 : Int)), (9, bo true), (10, bo true), (11, i6 n), (12, i6 (P i0)), (13, i6 b), (14, i6 (w6 (P i0 * b))), (15, bo true), (16, bo true), (17, i6 (↑i0 : Int)), (18, i6 (w6 ((↑i0 : Int) + 1))), (19, i6 (P i0)), (20, i6 b), (21, i6 (w6 (P i0 * b)))] []
def lpS2 (b : Int) (n : Int) (P : Nat → Int) (i0 : Nat) : St :=
  stOf 23 [17, 18, 19, 20, 21] [(0, i6 b), (1, i6 n), (4, i6 0), (5, i6 (P i0)), (6, i6 (↑i0 : Int)), (7, i6 b), (8, i6 (↑i0 : Int)), (9, bo true), (10, bo true), (11, i6 n), (12, i6 (P i0)), (13, i6 b), (14, i6 (w6 (P i0 * b))), (15, bo false), (16, bo false)] []
def lpS3 (b : Int) (n : Int) : St :=
  stOf 23 [] [(0, i6 b), (1, i6 n), (4, i6 0), (5, i6 b), (6, i6 0), (7, i6 b)] []
def lpS4 (b : Int) (n : Int) (P : Nat → Int) (i0 : Nat) : St :=
  stOf 23 [17, 18, 19, 20, 21] [(0, i6 b), (1, i6 n), (4, i6 0), (5, i6 (P i0)), (6, i6 (↑i0 : Int)), (7, i6 b), (8, i6 (↑i0 : Int)), (9, bo false), (10, bo false), (16, bo false)] []
theorem lpw_r0_tt (b : Int) (n : Int) (P : Nat → Int) (X : Ext) (call : Caller) (lf : Nat) (i0 : Nat)
  (h0 : decide ((↑i0 : Int) < 2) = true)
  (h1 : decide (n ≥ w6 (P i0 * b)) = true) : vexec Tryd.prog X call lf 0 noFg (loopN Tryd.f23 0) (lpS0 b n P i0) = some (Ex.normal, (lpS1 b n P i0)) :=
  around_sound (ans := [(2, Ans.b true), (13, Ans.b true)]) (by kernel_rfl) (And.intro h0 (And.intro h1 trivial))
theorem lpw_r0_tf (b : Int) (n : Int) (P : Nat → Int) (X : Ext) (call : Caller) (lf : Nat) (i0 : Nat)
  (h0 : decide ((↑i0 : Int) < 2) = true)
  (h1 : decide (n ≥ w6 (P i0 * b)) = false) : vexec Tryd.prog X call lf 0 noFg (loopN Tryd.f23 0) (lpS0 b n P i0) = some (Ex.exit 0, (lpS2 b n P i0)) :=
  around_sound (ans := [(2, Ans.b true), (13, Ans.b false)]) (by kernel_rfl) (And.intro h0 (And.intro h1 trivial))
theorem lpw_pltf (b : Int) (n : Int) (P : Nat → Int) (X : Ext) (call : Caller) (lf : Nat) (i0 : Nat)
  (h0 : vexec Tryd.prog X call lf 0 noFg (Code.loop (loopN Tryd.f23 0)) (lpS3 b n) = some (Ex.exit 0, (lpS2 b n P i0))) : vbody Tryd.prog X call lf noFg Tryd.f23 (codeOf Tryd.f23) [i6 b, i6 n] [] 0 = some (i6 (P i0), []) :=
  along_sound (ans := [(7, Ans.l (Ex.exit 0) (lpS2 b n P i0))]) (by kernel_rfl) (And.intro h0 trivial)
theorem lpw_r0_f (b : Int) (n : Int) (P : Nat → Int) (X : Ext) (call : Caller) (lf : Nat) (i0 : Nat)
  (h0 : decide ((↑i0 : Int) < 2) = false) : vexec Tryd.prog X call lf 0 noFg (loopN Tryd.f23 0) (lpS0 b n P i0) = some (Ex.exit 0, (lpS4 b n P i0)) :=
  around_sound (ans := [(2, Ans.b false)]) (by kernel_rfl) (And.intro h0 trivial)
theorem lpw_plf (b : Int) (n : Int) (P : Nat → Int) (X : Ext) (call : Caller) (lf : Nat) (i0 : Nat)
  (h0 : vexec Tryd.prog X call lf 0 noFg (Code.loop (loopN Tryd.f23 0)) (lpS3 b n) = some (Ex.exit 0, (lpS4 b n P i0))) : vbody Tryd.prog X call lf noFg Tryd.f23 (codeOf Tryd.f23) [i6 b, i6 n] [] 0 = some (i6 (P i0), []) :=
  along_sound (ans := [(7, Ans.l (Ex.exit 0) (lpS4 b n P i0))]) (by kernel_rfl) (And.intro h0 trivial)

/-! ### plain facts -/
/-- The words of a head. -/
def headO (s : NSys) (k : Nat) (q : Int) (w : ByteArray) : Option (List ByteArray) := if q != 1 || !s.om then (match sayO s k q with | some a => some (a ++ [w]) | none => none) else some [w]
def tailO (s : NSys) (k : Nat) (r : Int) (head : List ByteArray) : Option (List ByteArray) :=
  if r == 0 then some head else match sayO s k r with
    | none => none
    | some a => some (if s.sf then a ++ (joinWords s ++ head) else head ++ (joinWords s ++ a))
def lessO (s : NSys) (k : Nat) (x y : Int) : Option (List ByteArray) := match sayO s k x, sayO s k y with
  | some a, some b => some (a ++ s.le :: b)
  | _, _ => none
theorem sayO_succ (s : NSys) (k : Nat) (n : Int) : sayO s (k + 1) n = if n < s.base then (if 0 ≤ n then (match s.digits[n.toNat]? with | some w => some [w] | none => none) else none)
    else if lessL s (w6 (n.tdiv (s.base ^ (powK s n + 1)))) (s.base ^ (powK s n + 1)) (n.tmod (s.base ^ (powK s n + 1))) then lessO s k (w6 (s.base ^ (powK s n + 1) - n.tmod (s.base ^ (powK s n + 1)))) (w6 (w6 (w6 (n.tdiv (s.base ^ (powK s n + 1))) + 1) * s.base ^ (powK s n + 1)))
    else match s.powers[powK s n]? with
      | none => none
      | some w => match headO s k (w6 (n.tdiv (s.base ^ (powK s n + 1)))) w with
        | none => none
        | some head => tailO s k (n.tmod (s.base ^ (powK s n + 1))) head := by
  rw [sayO]
  unfold headO tailO lessO
  rfl
theorem headO_mono {s : NSys} {k : Nat} {q : Int} {w : ByteArray} {h : List ByteArray} (hm : ∀ n l, sayO s k n = some l → sayO s (k + 1) n = some l) (hh : headO s k q w = some h) : headO s (k + 1) q w = some h := by
  unfold headO at hh ⊢
  split at hh
  · rename_i hq
    rw [if_pos hq]
    split at hh
    · rename_i a ha
      rw [hm _ _ ha]
      exact hh
    · cases hh
  · rename_i hq
    rw [if_neg hq]
    exact hh
theorem tailO_mono {s : NSys} {k : Nat} {r : Int} {h l : List ByteArray} (hm : ∀ n l, sayO s k n = some l → sayO s (k + 1) n = some l) (hh : tailO s k r h = some l) : tailO s (k + 1) r h = some l := by
  unfold tailO at hh ⊢
  split at hh
  · rename_i hr
    rw [if_pos hr]
    exact hh
  · rename_i hr
    rw [if_neg hr]
    split at hh
    · cases hh
    · rename_i a ha
      rw [hm _ _ ha]
      exact hh
theorem lessO_mono {s : NSys} {k : Nat} {x y : Int} {l : List ByteArray} (hm : ∀ n l, sayO s k n = some l → sayO s (k + 1) n = some l) (hh : lessO s k x y = some l) : lessO s (k + 1) x y = some l := by
  unfold lessO at hh ⊢
  split at hh
  · rename_i a b ha hb
    rw [hm _ _ ha, hm _ _ hb]
    exact hh
  · cases hh
theorem sayO_mono {s : NSys} : ∀ (k : Nat) {n : Int} {l : List ByteArray}, sayO s k n = some l → sayO s (k + 1) n = some l
  | 0, _, _, h => by simp [sayO] at h
  | k + 1, n, l, h => by
    have hm : ∀ n l, sayO s k n = some l → sayO s (k + 1) n = some l := fun n l h => sayO_mono k h
    rw [sayO_succ] at h ⊢
    split at h
    · rename_i hn
      rw [if_pos hn]
      exact h
    · rename_i hn
      rw [if_neg hn]
      split at h
      · rename_i hl
        rw [if_pos hl]
        exact lessO_mono hm h
      · rename_i hl
        rw [if_neg hl]
        split at h
        · cases h
        · rename_i w hw
          split at h
          · cases h
          · rename_i head hh
            rw [headO_mono hm hh]
            exact tailO_mono hm h
theorem mult_facts {s : NSys} (hg : Good s) {q : Int} {i : Nat} (hi : i ≤ 2) (hq1 : 1 ≤ q) (hq2 : q < s.base) : powK s (q * s.base ^ (i + 1)) = i ∧ w6 ((q * s.base ^ (i + 1)).tdiv (s.base ^ (i + 1))) = q ∧ (q * s.base ^ (i + 1)).tmod (s.base ^ (i + 1)) = 0 ∧ ¬ q * s.base ^ (i + 1) < s.base := by
  obtain ⟨b1, b2⟩ := base_pow hg hi
  have hbase := hg.base
  have hp0 : 0 < s.base ^ (i + 1) := by omega
  have hlo : s.base ^ (i + 1) ≤ q * s.base ^ (i + 1) := by
    have : 1 * s.base ^ (i + 1) ≤ q * s.base ^ (i + 1) := Int.mul_le_mul_of_nonneg_right hq1 (by omega)
    omega
  have hup : q * s.base ^ (i + 1) < s.base ^ (i + 2) := by
    have : s.base ^ (i + 2) = s.base * s.base ^ (i + 1) := by rw [Int.pow_succ, Int.mul_comm]
    rw [this]
    exact Int.mul_lt_mul_of_pos_right hq2 hp0
  refine ⟨?_, ?_, Int.mul_tmod_left _ _, by omega⟩
  · have h : i = 0 ∨ i = 1 ∨ i = 2 := by omega
    generalize q * s.base ^ (i + 1) = n at *
    unfold powK
    rcases h with rfl | rfl | rfl
    · rw [if_pos hup]
    · rw [if_neg (by simpa using hlo), if_pos hup]
    · have : ¬ s.base ^ 2 > n := by
        have h23 : s.base ^ 2 ≤ s.base ^ 3 := by rcases hbase with e | e <;> rw [e] <;> decide
        have : s.base ^ 3 ≤ n := hlo
        omega
      rw [if_neg this, if_neg (by simpa using hlo)]
  · rw [Int.mul_tdiv_cancel _ (by omega)]
    exact w6_id (by omega) (by omega)
theorem less0 {s : NSys} (hg : Good s) {q : Int} {i : Nat} (hi : i ≤ 2) (hq1 : 0 ≤ q) (hq2 : q < s.base) : lessL s q (s.base ^ (i + 1)) 0 = false := by
  obtain ⟨b1, b2⟩ := base_pow hg hi
  have hbase := hg.base
  rw [Bool.eq_false_iff]
  intro h
  have := (lessL_iff hg (by omega) (by omega) (by omega) (by omega)).1 h
  have := hg.sub1
  omega
theorem say_mult_eq {s : NSys} (hg : Good s) {q : Int} {i k : Nat} (hi : i ≤ 2) (hq1 : 1 ≤ q) (hq2 : q < s.base) {w : ByteArray} (hw : s.powers[i]? = some w) : sayO s (k + 1) (q * s.base ^ (i + 1)) = headO s k q w := by
  obtain ⟨h1, h2, h3, h4⟩ := mult_facts hg hi hq1 hq2
  rw [sayO_succ, if_neg h4, h1, h2, h3, less0 hg hi (by omega) hq2, hw]
  simp only [Bool.false_eq_true, if_false]
  cases headO s k q w with
  | none => rfl
  | some h => rfl
theorem head_some {s : NSys} (hg : Good s) {q : Int} {k : Nat} (hq1 : 0 ≤ q) (hq2 : q < s.base) (w : ByteArray) : ∃ h, headO s (k + 1) q w = some h ∧ h ≠ [] := by
  obtain ⟨a, ha⟩ := say_digit hg k hq1 hq2
  unfold headO
  split
  · rw [ha]
    exact ⟨_, rfl, by simp⟩
  · exact ⟨_, rfl, by simp⟩
/-- A number that is no multiple, without subtraction. -/
theorem parts_words {s : NSys} (hg : Good s) {n : Int} (hb : s.base ≤ n) (h9 : n ≤ 9999) (hl : lessL s (w6 (n.tdiv (s.base ^ (powK s n + 1)))) (s.base ^ (powK s n + 1)) (n.tmod (s.base ^ (powK s n + 1))) = false) (hr : n.tmod (s.base ^ (powK s n + 1)) ≠ 0) :
    ∃ h t, sayO s 6 (n - n.tmod (s.base ^ (powK s n + 1))) = some h ∧ sayO s 6 (n.tmod (s.base ^ (powK s n + 1))) = some t ∧ sayO s 6 n = some (if s.sf then t ++ (joinWords s ++ h) else h ++ (joinWords s ++ t)) ∧ h ≠ [] ∧ t ≠ [] := by
  have hp := parts hg hb h9
  have hK := powK_le s n
  obtain ⟨w, hw⟩ := pow_at hg hK
  obtain ⟨b1, b2⟩ := base_pow hg hK
  have hbase := hg.base
  have e : n - n.tmod (s.base ^ (powK s n + 1)) = w6 (n.tdiv (s.base ^ (powK s n + 1))) * s.base ^ (powK s n + 1) := by have := hp.eq; omega
  have hq1 := hp.q1
  have hq2 := hp.q2
  have hr0 := hp.r0
  have hr1 := hp.r1
  obtain ⟨h, hh, hh0⟩ := head_some hg (k := 4) (q := w6 (n.tdiv (s.base ^ (powK s n + 1)))) (by omega) hq2 w
  obtain ⟨t, ht⟩ : ∃ t, sayO s 5 (n.tmod (s.base ^ (powK s n + 1))) = some t := by
    have h4 := (powK_spec hg hb h9)
    exact say_some hg 2 0 hr0 (by omega) (by
      have h0 := pow_mono hg (show powK s n + 1 ≤ 3 by omega)
      have : s.base ^ (2 + 1) = s.base ^ 3 := rfl
      omega)
  refine ⟨h, t, ?_, sayO_mono 5 ht, ?_, hh0, (sayO_len s 5 _ t ht).1⟩
  · rw [e, say_mult_eq hg hK hq1 hq2 hw]
    exact hh
  · rw [sayO_succ, if_neg (by omega), hl, hw]
    simp only [Bool.false_eq_true, if_false]
    rw [hh]
    simp only [tailO]
    rw [if_neg (by simpa using hr), ht]
/-! ### the law's power -/
def pow23S : List AV → Option AV
  | [.int .i64 b, .int .i64 n] => if b = 10 ∨ b = 20 then some (i6 (b ^ (powK ⟨b, [], [], false, ByteArray.mk #[], 0, ByteArray.mk #[], false⟩ n + 1))) else none
  | _ => none
def T14 : Vm.Spec := addS T13 23 pow23S
abbrev D23 : List Nat := [18, 17, 21, 20, 19, 16, 15, 14, 13, 12, 11, 10, 9, 8]
theorem dead23 : (deadC (loopN Tryd.f23 0) ([], [])).2 = D23 := by kernel_rfl
theorem pow23_run {X : Ext} {call : Caller} {lf : Nat} (hlf : 2 < lf) {s : NSys} (hb : s.base = 10 ∨ s.base = 20) (n : Int) : vbody Tryd.prog X call lf noFg Tryd.f23 (codeOf Tryd.f23) [i6 s.base, i6 n] [] 0 = some (i6 (s.base ^ (powK s n + 1)), []) := by
  have start : forget D23 (lpS3 s.base n) = lpS0 s.base n (rwP s) 0 := by
    have e : rwP s 0 = s.base := by unfold rwP; rw [Nat.zero_add]; exact Int.pow_one _
    unfold lpS3 lpS0
    rw [e]
    show _ = _
    kernel_rfl
  have round : ∀ i, i < 2 → ¬ s.base ^ (i + 2) > n → ∃ S1, vexec Tryd.prog X call lf 0 noFg (loopN Tryd.f23 0) (lpS0 s.base n (rwP s) i) = some (.normal, S1) ∧ forget D23 S1 = lpS0 s.base n (rwP s) (i + 1) := by
    intro i hi hn
    have e2 : w6 (rwP s i * s.base) = rwP s (i + 1) := pow_mul hb hi
    refine ⟨_, lpw_r0_tt s.base n (rwP s) X call lf i (by simp; omega) (by rw [e2]; exact decide_eq_true (by show rwP s (i + 1) ≤ n; unfold rwP; exact Int.not_lt.1 hn)), ?_⟩
    have e : w6 ((i : Int) + 1) = ((i + 1 : Nat) : Int) := wrap_small (by omega)
    unfold lpS1
    rw [e, e2]
    unfold lpS0
    show _ = _
    kernel_rfl
  unfold powK
  by_cases h2 : s.base ^ 2 > n
  · rw [if_pos h2]
    have e2 : w6 (rwP s 0 * s.base) = s.base ^ 2 := pow_mul hb (by omega)
    exact lpw_pltf s.base n (rwP s) X call lf 0 (loop_run (P := Tryd.prog) (X := X) (call := call) (lf := lf) (ro := 0) (fg := noFg) dead23 (lpS0 s.base n (rwP s)) 0 (by omega) start (fun i hi => absurd hi (by omega)) (lpw_r0_tf s.base n (rwP s) X call lf 0 (by simp) (by rw [e2]; exact decide_eq_false (by omega))) (by simp))
  · rw [if_neg h2]
    by_cases h3 : s.base ^ 3 > n
    · rw [if_pos h3]
      have e2 : w6 (rwP s 1 * s.base) = s.base ^ 3 := pow_mul hb (by omega)
      exact lpw_pltf s.base n (rwP s) X call lf 1 (loop_run (P := Tryd.prog) (X := X) (call := call) (lf := lf) (ro := 0) (fg := noFg) dead23 (lpS0 s.base n (rwP s)) 1 (by omega) start (fun i hi => by
        have : i = 0 := by omega
        subst this
        exact round 0 (by omega) h2) (lpw_r0_tf s.base n (rwP s) X call lf 1 (by simp) (by rw [e2]; exact decide_eq_false (by omega))) (by simp))
    · rw [if_neg h3]
      exact lpw_plf s.base n (rwP s) X call lf 2 (loop_run (P := Tryd.prog) (X := X) (call := call) (lf := lf) (ro := 0) (fg := noFg) dead23 (lpS0 s.base n (rwP s)) 2 (by omega) start (fun i hi => by
        have : i = 0 ∨ i = 1 := by omega
        rcases this with rfl | rfl
        · exact round 0 (by omega) h2
        · exact round 1 (by omega) h3) (lpw_r0_f s.base n (rwP s) X call lf 2 (by simp)) (by simp))
theorem T14_ok [Fixed] (hX : ∀ l, ExtOk Tryd.prog (X15 l)) : SpecOk Tryd.prog T14 := by
  refine (T13_ok hX).add ?_
  intro vs r h
  unfold pow23S at h
  split at h
  · split at h
    · rename_i b n hb
      simp only [Option.some.injEq] at h
      subst h
      exact run_at (hX []) (T13_ok hX) rfl Tryd.func23 rfl rfl (pow23_run (s := ⟨b, [], [], false, ByteArray.mk #[], 0, ByteArray.mk #[], false⟩) (lf := 3) (by omega) hb n)
    · cases h
  · cases h
/-! ### calls over any specification that knows T13's -/
structure Has (T : Vm.Spec) : Prop where
  at_ : ∀ f vs r, T13 f vs = some r → T f vs = some r
theorem has14 : Has T14 := ⟨fun f vs r h => by
  unfold T14 addS
  split
  · rename_i e
    subst e
    have : T13 23 vs = none := rfl
    rw [this] at h
    cases h
  · exact h⟩
theorem callv_mono {T U : Vm.Spec} (hT : ∀ f vs r, T f vs = some r → U f vs = some r) {f : FuncId} {vs : List AV} {r : AV} {dr : Bool} {σ : List Ob} {ro : Nat} {l : List Nat} (hl : AV.ltAll 0 vs = true) (hf : Nat.beq f 47 = false) (h : callv (X15 l) (callerOf T) dr f vs σ ro = some (r, σ)) :
    callv (X15 l) (callerOf U) dr f vs σ ro = some (r, σ) := by
  have h1 : (X15 l).pureFn f = none := by
    simp only [X15]
    rw [if_neg (fun e => by rw [e] at hf; cases hf)]
  have h2 : (X15 l).stFn f = none := rfl
  unfold callv at h ⊢
  rw [h1, h2] at h ⊢
  simp only [hl, if_true, callerOf] at h ⊢
  cases ht : T f vs with
  | none => rw [ht] at h; cases h
  | some x => rw [hT f vs x ht]; rw [ht] at h; exact h
/-- A call with a row of one's own among the arguments. -/
theorem call_thaw {T : Vm.Spec} {l : List Nat} {f : FuncId} {vs vs' : List AV} {r r' : AV} {σ σ' : List Ob} {ro : Nat} (hf : Nat.beq f 47 = false) (ha : memN f l = false) (h0 : AV.ltAll 0 vs = false) (ht : AV.thawAll σ vs = some vs') (hl : AV.ltAll 0 vs' = true) (hz : freezeIds ro σ (AV.ownsAll vs) = some σ') (hc : T f vs' = some r) (hp : r.pure = true) (hu : unfr r = r') :
    callv (X15 l) (callerOf T) false f vs σ ro = some (r', σ') := by
  have h1 : (X15 l).pureFn f = none := by
    simp only [X15]
    rw [if_neg (fun e => by rw [e] at hf; cases hf)]
  have h2 : (X15 l).stFn f = none := rfl
  have h3 : (X15 l).adopt f = false := ha
  unfold callv
  rw [h1, h2]
  simp only [h0, ht, hl, hz, callerOf, hc, hp, h3, hu]
  simp
theorem grow_new {σ : List Ob} {l : List ByteArray} (h0 : l ≠ []) (hb : l.length * 17 ≤ 140737488355328) :
    appendv Tryd.prog 22 σ 0 (.list .clip 0 1 []) (lst l) = some (.own σ.length l.length, σ ++ [.arr l.length 1 (l.map .str)]) := by
  have hm : l.length ≠ 0 := fun e => h0 (List.eq_nil_of_length_eq_zero e)
  unfold appendv
  rw [Tryd.underlying22]
  simp only [cells9, appended_isS (is_lst l), zero9, bytes9]
  rw [if_pos ⟨owns_strs l, rfl⟩]
  simp only [Nat.zero_add, List.nil_append]
  rw [if_pos ⟨.inr trivial, .inl trivial, rfl, hb⟩, if_neg hm]
theorem grow_more {c : Ob} {l m : List ByteArray} {p : AV} (hp : IsS p m) (h0 : m ≠ []) (hb : (l.length + m.length) * 17 ≤ 140737488355328) :
    appendv Tryd.prog 22 [c, .arr l.length 1 (l.map .str)] 0 (.own 1 l.length) p = some (.own 1 (l ++ m).length, [c, .arr (l ++ m).length 1 ((l ++ m).map .str)]) := by
  have hm : m.length ≠ 0 := fun e => h0 (List.eq_nil_of_length_eq_zero e)
  have := grow_own (P := Tryd.prog) (ro := 0) (id := 1) (n := l.length) (σ := [c, Ob.arr l.length 1 (l.map .str)]) (cs := l.map .str) (ys := m.map .str) (m := m.length) (x := p) Tryd.underlying22 zero9 (by rw [cells9]; rfl) (by rw [cells9]; rfl) (Nat.zero_le _)
    (by rw [cells9, appended_isS hp]) (owns_strs _) hm (by rw [bytes9]; omega)
  rw [this, cells9]
  simp [setOb]
/-- Texts, called with a row of one's own. -/
theorem texts_own {T : Vm.Spec} (hT : ∀ vs, T 17 vs = textsS vs) {c : Ob} {l m : List ByteArray} (hl : l.length ≤ 140737488355328) :
    callv (X15 []) (callerOf T) false 17 [lst l, .own 1 m.length] [c, .arr m.length 1 (m.map .str)] 0 = some (bo (textsL l m), [c, .fro m.length 1 (m.map .str)]) := by
  refine call_thaw (vs' := [lst l, lst m]) (r := bo (textsL l m)) rfl rfl ?_ ?_ (lt_two (lt_lst l) (lt_lst m)) ?_ ?_ rfl rfl
  · simp [AV.ltAll, AV.lt, lt_strs]
    decide
  · simp [AV.thawAll, AV.thaw, thaw_strs]
  · simp [AV.ownsAll, AV.owns, owns_strs, freezeIds, freezeId, setOb]
  · rw [hT]
    simp only [textsS, isSO_of (is_lst l), isSO_of (is_lst m), hl, if_true]
end Go.Proofs.Num
end
/- Numeral: the law of parts. -/
section
open Go Go.Vm Go.Proofs
namespace Go.Proofs.Num
theorem lpa_p (s : NSys) (n : Int) (X : Ext) (call : Caller) (lf : Nat)
  (h0 : callv X call false 13 [AV.agg (sysC (z0 s))] [Ob.cells (sysC (z0 s))] 0 = some (bo false, [Ob.cells (sysC (z0 s))]))
  (h1 : callv X call false 15 [] [Ob.cells (sysC (z0 s))] 0 = some (bo true, [Ob.cells (sysC (z0 s))])) : vbody Tryd.prog X call lf noFg Tryd.f6 (codeOf Tryd.f6) [AV.agg (sysC s), AV.int IntKind.u16 n] [] 0 = some (bo true, [Ob.cells (sysC (z0 s))]) :=
  along_sound (ans := [(15, Ans.v (bo false)), (30, Ans.v (bo true))]) (by kernel_rfl) (And.intro h0 (And.intro h1 trivial))
theorem lpb_p (s : NSys) (n : Int) (X : Ext) (call : Caller) (lf : Nat)
  (h0 : callv X call false 13 [AV.agg (sysC (z0 s))] [Ob.cells (sysC (z0 s))] 0 = some (bo true, [Ob.cells (sysC (z0 s))]))
  (h1 : callv X call false 22 [AV.agg (sysC (z0 s))] [Ob.cells (sysC (z0 s))] 0 = some (bo false, [Ob.cells (sysC (z0 s))]))
  (h2 : callv X call false 15 [] [Ob.cells (sysC (z0 s))] 0 = some (bo true, [Ob.cells (sysC (z0 s))])) : vbody Tryd.prog X call lf noFg Tryd.f6 (codeOf Tryd.f6) [AV.agg (sysC s), AV.int IntKind.u16 n] [] 0 = some (bo true, [Ob.cells (sysC (z0 s))]) :=
  along_sound (ans := [(15, Ans.v (bo true)), (21, Ans.v (bo false)), (33, Ans.v (bo true))]) (by kernel_rfl) (And.intro h0 (And.intro h1 (And.intro h2 trivial)))
theorem lpc_pt (s : NSys) (n : Int) (X : Ext) (call : Caller) (lf : Nat)
  (h0 : callv X call false 13 [AV.agg (sysC (z0 s))] [Ob.cells (sysC (z0 s))] 0 = some (bo true, [Ob.cells (sysC (z0 s))]))
  (h1 : callv X call false 22 [AV.agg (sysC (z0 s))] [Ob.cells (sysC (z0 s))] 0 = some (bo true, [Ob.cells (sysC (z0 s))]))
  (h2 : decide (Int.tmod (w6 n) 10000 < NSys.base s) = true)
  (h3 : callv X call false 15 [] [Ob.cells (sysC (z0 s))] 0 = some (bo true, [Ob.cells (sysC (z0 s))])) : vbody Tryd.prog X call lf noFg Tryd.f6 (codeOf Tryd.f6) [AV.agg (sysC s), AV.int IntKind.u16 n] [] 0 = some (bo true, [Ob.cells (sysC (z0 s))]) :=
  along_sound (ans := [(15, Ans.v (bo true)), (21, Ans.v (bo true)), (33, Ans.b true), (37, Ans.v (bo true))]) (by kernel_rfl) (And.intro h0 (And.intro h1 (And.intro h2 (And.intro h3 trivial))))
theorem lpc_pft (s : NSys) (n : Int) (p : Int) (r : Int) (X : Ext) (call : Caller) (lf : Nat)
  (h0 : callv X call false 13 [AV.agg (sysC (z0 s))] [Ob.cells (sysC (z0 s))] 0 = some (bo true, [Ob.cells (sysC (z0 s))]))
  (h1 : callv X call false 22 [AV.agg (sysC (z0 s))] [Ob.cells (sysC (z0 s))] 0 = some (bo true, [Ob.cells (sysC (z0 s))]))
  (h2 : decide (Int.tmod (w6 n) 10000 < NSys.base s) = false)
  (h3 : callv X call false 23 [i6 (NSys.base s), i6 (Int.tmod (w6 n) 10000)] [Ob.cells (sysC (z0 s))] 0 = some (i6 p, [Ob.cells (sysC (z0 s))]))
  (h4 : keep [Ob.cells (sysC (z0 s))] (binv Tryd.prog BinOp.rem 3 (i6 (Int.tmod (w6 n) 10000)) (i6 p)) = some (i6 r, [Ob.cells (sysC (z0 s))]))
  (h5 : (r == 0) = true)
  (h6 : callv X call false 15 [] [Ob.cells (sysC (z0 s))] 0 = some (bo true, [Ob.cells (sysC (z0 s))])) : vbody Tryd.prog X call lf noFg Tryd.f6 (codeOf Tryd.f6) [AV.agg (sysC s), AV.int IntKind.u16 n] [] 0 = some (bo true, [Ob.cells (sysC (z0 s))]) :=
  along_sound (ans := [(15, Ans.v (bo true)), (21, Ans.v (bo true)), (33, Ans.b false), (40, Ans.v (i6 p)), (45, Ans.v (i6 r)), (46, Ans.b true), (49, Ans.v (bo true))]) (by kernel_rfl) (And.intro h0 (And.intro h1 (And.intro h2 (And.intro h3 (And.intro h4 (And.intro h5 (And.intro h6 trivial)))))))
theorem lpc_pfftt (s : NSys) (n : Int) (p : Int) (r : Int) (h : List ByteArray) (t : List ByteArray) (a : List ByteArray) (x : List ByteArray) (y : List ByteArray) (X : Ext) (call : Caller) (lf : Nat)
  (h0 : callv X call false 13 [AV.agg (sysC (z0 s))] [Ob.cells (sysC (z0 s))] 0 = some (bo true, [Ob.cells (sysC (z0 s))]))
  (h1 : callv X call false 22 [AV.agg (sysC (z0 s))] [Ob.cells (sysC (z0 s))] 0 = some (bo true, [Ob.cells (sysC (z0 s))]))
  (h2 : decide (Int.tmod (w6 n) 10000 < NSys.base s) = false)
  (h3 : callv X call false 23 [i6 (NSys.base s), i6 (Int.tmod (w6 n) 10000)] [Ob.cells (sysC (z0 s))] 0 = some (i6 p, [Ob.cells (sysC (z0 s))]))
  (h4 : keep [Ob.cells (sysC (z0 s))] (binv Tryd.prog BinOp.rem 3 (i6 (Int.tmod (w6 n) 10000)) (i6 p)) = some (i6 r, [Ob.cells (sysC (z0 s))]))
  (h5 : (r == 0) = false)
  (h6 : keep [Ob.cells (sysC (z0 s))] (binv Tryd.prog BinOp.rem 3 (i6 (Int.tmod (w6 n) 10000)) (i6 p)) = some (i6 r, [Ob.cells (sysC (z0 s))]))
  (h7 : callv X call true 16 [AV.agg (sysC (z0 s)), i6 (w6 (Int.tmod (w6 n) 10000 - r))] [Ob.cells (sysC (z0 s))] 0 = some (AV.tup [lro (List.length h) 1 (List.map st h), i6 0], [Ob.cells (sysC (z0 s))]))
  (h8 : keep [Ob.cells (sysC (z0 s))] (binv Tryd.prog BinOp.rem 3 (i6 (Int.tmod (w6 n) 10000)) (i6 p)) = some (i6 r, [Ob.cells (sysC (z0 s))]))
  (h9 : callv X call true 16 [AV.agg (sysC (z0 s)), i6 r] [Ob.cells (sysC (z0 s))] 0 = some (AV.tup [lro (List.length t) 1 (List.map st t), i6 0], [Ob.cells (sysC (z0 s))]))
  (h10 : callv X call false 16 [AV.agg (sysC (z0 s)), i6 (Int.tmod (w6 n) 10000)] [Ob.cells (sysC (z0 s))] 0 = some (AV.tup [lro (List.length a) 1 (List.map st a), i6 0], [Ob.cells (sysC (z0 s))]))
  (h11 : NSys.sf s = true)
  (h12 : appendv Tryd.prog 22 [Ob.cells (sysC (z0 s))] 0 (AV.list LK.clip 0 1 []) (lro (List.length t) 1 (List.map st t)) = some (AV.own 1 (List.length x), [Ob.cells (sysC (z0 s)), Ob.arr (List.length x) 1 (List.map st x)]))
  (h13 : (!empB (NSys.jo (z0 s))) = true)
  (h14 : appendv Tryd.prog 22 [Ob.cells (sysC (z0 s)), Ob.arr (List.length x) 1 (List.map st x)] 0 (AV.own 1 (List.length x)) (AV.list LK.clip 1 1 [st (NSys.jo (z0 s))]) = some (AV.own 1 (List.length x + 1), [Ob.cells (sysC (z0 s)), Ob.arr (List.length x + 1) 1 (List.map st (x ++ [NSys.jo s]))]))
  (h15 : appendv Tryd.prog 22 [Ob.cells (sysC (z0 s)), Ob.arr (List.length x + 1) 1 (List.map st (x ++ [NSys.jo s]))] 0 (AV.own 1 (List.length x + 1)) (lro (List.length h) 1 (List.map st h)) = some (AV.own 1 (List.length y), [Ob.cells (sysC (z0 s)), Ob.arr (List.length y) 1 (List.map st y)]))
  (h16 : callv X call false 15 [] [Ob.cells (sysC (z0 s)), Ob.arr (List.length y) 1 (List.map st y)] 0 = some (bo true, [Ob.cells (sysC (z0 s)), Ob.arr (List.length y) 1 (List.map st y)]))
  (h17 : callv X call false 17 [lro (List.length a) 1 (List.map st a), AV.own 1 (List.length y)] [Ob.cells (sysC (z0 s)), Ob.arr (List.length y) 1 (List.map st y)] 0 = some (bo true, [Ob.cells (sysC (z0 s)), Ob.fro (List.length y) 1 (List.map st y)])) : vbody Tryd.prog X call lf noFg Tryd.f6 (codeOf Tryd.f6) [AV.agg (sysC s), AV.int IntKind.u16 n] [] 0 = some (bo true, [Ob.cells (sysC (z0 s)), Ob.fro (List.length y) 1 (List.map st y)]) :=
  along_sound (ans := [(15, Ans.v (bo true)), (21, Ans.v (bo true)), (33, Ans.b false), (40, Ans.v (i6 p)), (45, Ans.v (i6 r)), (46, Ans.b false), (53, Ans.v (i6 r)), (55, Ans.v (AV.tup [lro (List.length h) 1 (List.map st h), i6 0])), (65, Ans.v (i6 r)), (66, Ans.v (AV.tup [lro (List.length t) 1 (List.map st t), i6 0])), (75, Ans.v (AV.tup [lro (List.length a) 1 (List.map st a), i6 0])), (83, Ans.b true), (93, Ans.c (AV.own 1 (List.length x)) [Ob.cells (sysC (z0 s)), Ob.arr (List.length x) 1 (List.map st x)]), (98, Ans.b true), (105, Ans.c (AV.own 1 (List.length x + 1)) [Ob.cells (sysC (z0 s)), Ob.arr (List.length x + 1) 1 (List.map st (x ++ [NSys.jo s]))]), (110, Ans.c (AV.own 1 (List.length y)) [Ob.cells (sysC (z0 s)), Ob.arr (List.length y) 1 (List.map st y)]), (113, Ans.v (bo true)), (138, Ans.c (bo true) [Ob.cells (sysC (z0 s)), Ob.fro (List.length y) 1 (List.map st y)])]) (by kernel_rfl) (And.intro h0 (And.intro h1 (And.intro h2 (And.intro h3 (And.intro h4 (And.intro h5 (And.intro h6 (And.intro h7 (And.intro h8 (And.intro h9 (And.intro h10 (And.intro h11 (And.intro h12 (And.intro h13 (And.intro h14 (And.intro h15 (And.intro h16 (And.intro h17 trivial))))))))))))))))))
theorem lpc_pfftf (s : NSys) (n : Int) (p : Int) (r : Int) (h : List ByteArray) (t : List ByteArray) (a : List ByteArray) (x : List ByteArray) (y : List ByteArray) (X : Ext) (call : Caller) (lf : Nat)
  (h0 : callv X call false 13 [AV.agg (sysC (z0 s))] [Ob.cells (sysC (z0 s))] 0 = some (bo true, [Ob.cells (sysC (z0 s))]))
  (h1 : callv X call false 22 [AV.agg (sysC (z0 s))] [Ob.cells (sysC (z0 s))] 0 = some (bo true, [Ob.cells (sysC (z0 s))]))
  (h2 : decide (Int.tmod (w6 n) 10000 < NSys.base s) = false)
  (h3 : callv X call false 23 [i6 (NSys.base s), i6 (Int.tmod (w6 n) 10000)] [Ob.cells (sysC (z0 s))] 0 = some (i6 p, [Ob.cells (sysC (z0 s))]))
  (h4 : keep [Ob.cells (sysC (z0 s))] (binv Tryd.prog BinOp.rem 3 (i6 (Int.tmod (w6 n) 10000)) (i6 p)) = some (i6 r, [Ob.cells (sysC (z0 s))]))
  (h5 : (r == 0) = false)
  (h6 : keep [Ob.cells (sysC (z0 s))] (binv Tryd.prog BinOp.rem 3 (i6 (Int.tmod (w6 n) 10000)) (i6 p)) = some (i6 r, [Ob.cells (sysC (z0 s))]))
  (h7 : callv X call true 16 [AV.agg (sysC (z0 s)), i6 (w6 (Int.tmod (w6 n) 10000 - r))] [Ob.cells (sysC (z0 s))] 0 = some (AV.tup [lro (List.length h) 1 (List.map st h), i6 0], [Ob.cells (sysC (z0 s))]))
  (h8 : keep [Ob.cells (sysC (z0 s))] (binv Tryd.prog BinOp.rem 3 (i6 (Int.tmod (w6 n) 10000)) (i6 p)) = some (i6 r, [Ob.cells (sysC (z0 s))]))
  (h9 : callv X call true 16 [AV.agg (sysC (z0 s)), i6 r] [Ob.cells (sysC (z0 s))] 0 = some (AV.tup [lro (List.length t) 1 (List.map st t), i6 0], [Ob.cells (sysC (z0 s))]))
  (h10 : callv X call false 16 [AV.agg (sysC (z0 s)), i6 (Int.tmod (w6 n) 10000)] [Ob.cells (sysC (z0 s))] 0 = some (AV.tup [lro (List.length a) 1 (List.map st a), i6 0], [Ob.cells (sysC (z0 s))]))
  (h11 : NSys.sf s = true)
  (h12 : appendv Tryd.prog 22 [Ob.cells (sysC (z0 s))] 0 (AV.list LK.clip 0 1 []) (lro (List.length t) 1 (List.map st t)) = some (AV.own 1 (List.length x), [Ob.cells (sysC (z0 s)), Ob.arr (List.length x) 1 (List.map st x)]))
  (h13 : (!empB (NSys.jo (z0 s))) = false)
  (h14 : appendv Tryd.prog 22 [Ob.cells (sysC (z0 s)), Ob.arr (List.length x) 1 (List.map st x)] 0 (AV.own 1 (List.length x)) (lro (List.length h) 1 (List.map st h)) = some (AV.own 1 (List.length y), [Ob.cells (sysC (z0 s)), Ob.arr (List.length y) 1 (List.map st y)]))
  (h15 : callv X call false 15 [] [Ob.cells (sysC (z0 s)), Ob.arr (List.length y) 1 (List.map st y)] 0 = some (bo true, [Ob.cells (sysC (z0 s)), Ob.arr (List.length y) 1 (List.map st y)]))
  (h16 : callv X call false 17 [lro (List.length a) 1 (List.map st a), AV.own 1 (List.length y)] [Ob.cells (sysC (z0 s)), Ob.arr (List.length y) 1 (List.map st y)] 0 = some (bo true, [Ob.cells (sysC (z0 s)), Ob.fro (List.length y) 1 (List.map st y)])) : vbody Tryd.prog X call lf noFg Tryd.f6 (codeOf Tryd.f6) [AV.agg (sysC s), AV.int IntKind.u16 n] [] 0 = some (bo true, [Ob.cells (sysC (z0 s)), Ob.fro (List.length y) 1 (List.map st y)]) :=
  along_sound (ans := [(15, Ans.v (bo true)), (21, Ans.v (bo true)), (33, Ans.b false), (40, Ans.v (i6 p)), (45, Ans.v (i6 r)), (46, Ans.b false), (53, Ans.v (i6 r)), (55, Ans.v (AV.tup [lro (List.length h) 1 (List.map st h), i6 0])), (65, Ans.v (i6 r)), (66, Ans.v (AV.tup [lro (List.length t) 1 (List.map st t), i6 0])), (75, Ans.v (AV.tup [lro (List.length a) 1 (List.map st a), i6 0])), (83, Ans.b true), (93, Ans.c (AV.own 1 (List.length x)) [Ob.cells (sysC (z0 s)), Ob.arr (List.length x) 1 (List.map st x)]), (98, Ans.b false), (103, Ans.c (AV.own 1 (List.length y)) [Ob.cells (sysC (z0 s)), Ob.arr (List.length y) 1 (List.map st y)]), (106, Ans.v (bo true)), (131, Ans.c (bo true) [Ob.cells (sysC (z0 s)), Ob.fro (List.length y) 1 (List.map st y)])]) (by kernel_rfl) (And.intro h0 (And.intro h1 (And.intro h2 (And.intro h3 (And.intro h4 (And.intro h5 (And.intro h6 (And.intro h7 (And.intro h8 (And.intro h9 (And.intro h10 (And.intro h11 (And.intro h12 (And.intro h13 (And.intro h14 (And.intro h15 (And.intro h16 trivial)))))))))))))))))
theorem lpc_pffft (s : NSys) (n : Int) (p : Int) (r : Int) (h : List ByteArray) (t : List ByteArray) (a : List ByteArray) (x : List ByteArray) (y : List ByteArray) (X : Ext) (call : Caller) (lf : Nat)
  (h0 : callv X call false 13 [AV.agg (sysC (z0 s))] [Ob.cells (sysC (z0 s))] 0 = some (bo true, [Ob.cells (sysC (z0 s))]))
  (h1 : callv X call false 22 [AV.agg (sysC (z0 s))] [Ob.cells (sysC (z0 s))] 0 = some (bo true, [Ob.cells (sysC (z0 s))]))
  (h2 : decide (Int.tmod (w6 n) 10000 < NSys.base s) = false)
  (h3 : callv X call false 23 [i6 (NSys.base s), i6 (Int.tmod (w6 n) 10000)] [Ob.cells (sysC (z0 s))] 0 = some (i6 p, [Ob.cells (sysC (z0 s))]))
  (h4 : keep [Ob.cells (sysC (z0 s))] (binv Tryd.prog BinOp.rem 3 (i6 (Int.tmod (w6 n) 10000)) (i6 p)) = some (i6 r, [Ob.cells (sysC (z0 s))]))
  (h5 : (r == 0) = false)
  (h6 : keep [Ob.cells (sysC (z0 s))] (binv Tryd.prog BinOp.rem 3 (i6 (Int.tmod (w6 n) 10000)) (i6 p)) = some (i6 r, [Ob.cells (sysC (z0 s))]))
  (h7 : callv X call true 16 [AV.agg (sysC (z0 s)), i6 (w6 (Int.tmod (w6 n) 10000 - r))] [Ob.cells (sysC (z0 s))] 0 = some (AV.tup [lro (List.length h) 1 (List.map st h), i6 0], [Ob.cells (sysC (z0 s))]))
  (h8 : keep [Ob.cells (sysC (z0 s))] (binv Tryd.prog BinOp.rem 3 (i6 (Int.tmod (w6 n) 10000)) (i6 p)) = some (i6 r, [Ob.cells (sysC (z0 s))]))
  (h9 : callv X call true 16 [AV.agg (sysC (z0 s)), i6 r] [Ob.cells (sysC (z0 s))] 0 = some (AV.tup [lro (List.length t) 1 (List.map st t), i6 0], [Ob.cells (sysC (z0 s))]))
  (h10 : callv X call false 16 [AV.agg (sysC (z0 s)), i6 (Int.tmod (w6 n) 10000)] [Ob.cells (sysC (z0 s))] 0 = some (AV.tup [lro (List.length a) 1 (List.map st a), i6 0], [Ob.cells (sysC (z0 s))]))
  (h11 : NSys.sf s = false)
  (h12 : appendv Tryd.prog 22 [Ob.cells (sysC (z0 s))] 0 (AV.list LK.clip 0 1 []) (lro (List.length h) 1 (List.map st h)) = some (AV.own 1 (List.length x), [Ob.cells (sysC (z0 s)), Ob.arr (List.length x) 1 (List.map st x)]))
  (h13 : (!empB (NSys.jo (z0 s))) = true)
  (h14 : appendv Tryd.prog 22 [Ob.cells (sysC (z0 s)), Ob.arr (List.length x) 1 (List.map st x)] 0 (AV.own 1 (List.length x)) (AV.list LK.clip 1 1 [st (NSys.jo (z0 s))]) = some (AV.own 1 (List.length x + 1), [Ob.cells (sysC (z0 s)), Ob.arr (List.length x + 1) 1 (List.map st (x ++ [NSys.jo s]))]))
  (h15 : appendv Tryd.prog 22 [Ob.cells (sysC (z0 s)), Ob.arr (List.length x + 1) 1 (List.map st (x ++ [NSys.jo s]))] 0 (AV.own 1 (List.length x + 1)) (lro (List.length t) 1 (List.map st t)) = some (AV.own 1 (List.length y), [Ob.cells (sysC (z0 s)), Ob.arr (List.length y) 1 (List.map st y)]))
  (h16 : callv X call false 15 [] [Ob.cells (sysC (z0 s)), Ob.arr (List.length y) 1 (List.map st y)] 0 = some (bo true, [Ob.cells (sysC (z0 s)), Ob.arr (List.length y) 1 (List.map st y)]))
  (h17 : callv X call false 17 [lro (List.length a) 1 (List.map st a), AV.own 1 (List.length y)] [Ob.cells (sysC (z0 s)), Ob.arr (List.length y) 1 (List.map st y)] 0 = some (bo true, [Ob.cells (sysC (z0 s)), Ob.fro (List.length y) 1 (List.map st y)])) : vbody Tryd.prog X call lf noFg Tryd.f6 (codeOf Tryd.f6) [AV.agg (sysC s), AV.int IntKind.u16 n] [] 0 = some (bo true, [Ob.cells (sysC (z0 s)), Ob.fro (List.length y) 1 (List.map st y)]) :=
  along_sound (ans := [(15, Ans.v (bo true)), (21, Ans.v (bo true)), (33, Ans.b false), (40, Ans.v (i6 p)), (45, Ans.v (i6 r)), (46, Ans.b false), (53, Ans.v (i6 r)), (55, Ans.v (AV.tup [lro (List.length h) 1 (List.map st h), i6 0])), (65, Ans.v (i6 r)), (66, Ans.v (AV.tup [lro (List.length t) 1 (List.map st t), i6 0])), (75, Ans.v (AV.tup [lro (List.length a) 1 (List.map st a), i6 0])), (83, Ans.b false), (88, Ans.c (AV.own 1 (List.length x)) [Ob.cells (sysC (z0 s)), Ob.arr (List.length x) 1 (List.map st x)]), (93, Ans.b true), (100, Ans.c (AV.own 1 (List.length x + 1)) [Ob.cells (sysC (z0 s)), Ob.arr (List.length x + 1) 1 (List.map st (x ++ [NSys.jo s]))]), (105, Ans.c (AV.own 1 (List.length y)) [Ob.cells (sysC (z0 s)), Ob.arr (List.length y) 1 (List.map st y)]), (108, Ans.v (bo true)), (133, Ans.c (bo true) [Ob.cells (sysC (z0 s)), Ob.fro (List.length y) 1 (List.map st y)])]) (by kernel_rfl) (And.intro h0 (And.intro h1 (And.intro h2 (And.intro h3 (And.intro h4 (And.intro h5 (And.intro h6 (And.intro h7 (And.intro h8 (And.intro h9 (And.intro h10 (And.intro h11 (And.intro h12 (And.intro h13 (And.intro h14 (And.intro h15 (And.intro h16 (And.intro h17 trivial))))))))))))))))))
theorem lpc_pffff (s : NSys) (n : Int) (p : Int) (r : Int) (h : List ByteArray) (t : List ByteArray) (a : List ByteArray) (x : List ByteArray) (y : List ByteArray) (X : Ext) (call : Caller) (lf : Nat)
  (h0 : callv X call false 13 [AV.agg (sysC (z0 s))] [Ob.cells (sysC (z0 s))] 0 = some (bo true, [Ob.cells (sysC (z0 s))]))
  (h1 : callv X call false 22 [AV.agg (sysC (z0 s))] [Ob.cells (sysC (z0 s))] 0 = some (bo true, [Ob.cells (sysC (z0 s))]))
  (h2 : decide (Int.tmod (w6 n) 10000 < NSys.base s) = false)
  (h3 : callv X call false 23 [i6 (NSys.base s), i6 (Int.tmod (w6 n) 10000)] [Ob.cells (sysC (z0 s))] 0 = some (i6 p, [Ob.cells (sysC (z0 s))]))
  (h4 : keep [Ob.cells (sysC (z0 s))] (binv Tryd.prog BinOp.rem 3 (i6 (Int.tmod (w6 n) 10000)) (i6 p)) = some (i6 r, [Ob.cells (sysC (z0 s))]))
  (h5 : (r == 0) = false)
  (h6 : keep [Ob.cells (sysC (z0 s))] (binv Tryd.prog BinOp.rem 3 (i6 (Int.tmod (w6 n) 10000)) (i6 p)) = some (i6 r, [Ob.cells (sysC (z0 s))]))
  (h7 : callv X call true 16 [AV.agg (sysC (z0 s)), i6 (w6 (Int.tmod (w6 n) 10000 - r))] [Ob.cells (sysC (z0 s))] 0 = some (AV.tup [lro (List.length h) 1 (List.map st h), i6 0], [Ob.cells (sysC (z0 s))]))
  (h8 : keep [Ob.cells (sysC (z0 s))] (binv Tryd.prog BinOp.rem 3 (i6 (Int.tmod (w6 n) 10000)) (i6 p)) = some (i6 r, [Ob.cells (sysC (z0 s))]))
  (h9 : callv X call true 16 [AV.agg (sysC (z0 s)), i6 r] [Ob.cells (sysC (z0 s))] 0 = some (AV.tup [lro (List.length t) 1 (List.map st t), i6 0], [Ob.cells (sysC (z0 s))]))
  (h10 : callv X call false 16 [AV.agg (sysC (z0 s)), i6 (Int.tmod (w6 n) 10000)] [Ob.cells (sysC (z0 s))] 0 = some (AV.tup [lro (List.length a) 1 (List.map st a), i6 0], [Ob.cells (sysC (z0 s))]))
  (h11 : NSys.sf s = false)
  (h12 : appendv Tryd.prog 22 [Ob.cells (sysC (z0 s))] 0 (AV.list LK.clip 0 1 []) (lro (List.length h) 1 (List.map st h)) = some (AV.own 1 (List.length x), [Ob.cells (sysC (z0 s)), Ob.arr (List.length x) 1 (List.map st x)]))
  (h13 : (!empB (NSys.jo (z0 s))) = false)
  (h14 : appendv Tryd.prog 22 [Ob.cells (sysC (z0 s)), Ob.arr (List.length x) 1 (List.map st x)] 0 (AV.own 1 (List.length x)) (lro (List.length t) 1 (List.map st t)) = some (AV.own 1 (List.length y), [Ob.cells (sysC (z0 s)), Ob.arr (List.length y) 1 (List.map st y)]))
  (h15 : callv X call false 15 [] [Ob.cells (sysC (z0 s)), Ob.arr (List.length y) 1 (List.map st y)] 0 = some (bo true, [Ob.cells (sysC (z0 s)), Ob.arr (List.length y) 1 (List.map st y)]))
  (h16 : callv X call false 17 [lro (List.length a) 1 (List.map st a), AV.own 1 (List.length y)] [Ob.cells (sysC (z0 s)), Ob.arr (List.length y) 1 (List.map st y)] 0 = some (bo true, [Ob.cells (sysC (z0 s)), Ob.fro (List.length y) 1 (List.map st y)])) : vbody Tryd.prog X call lf noFg Tryd.f6 (codeOf Tryd.f6) [AV.agg (sysC s), AV.int IntKind.u16 n] [] 0 = some (bo true, [Ob.cells (sysC (z0 s)), Ob.fro (List.length y) 1 (List.map st y)]) :=
  along_sound (ans := [(15, Ans.v (bo true)), (21, Ans.v (bo true)), (33, Ans.b false), (40, Ans.v (i6 p)), (45, Ans.v (i6 r)), (46, Ans.b false), (53, Ans.v (i6 r)), (55, Ans.v (AV.tup [lro (List.length h) 1 (List.map st h), i6 0])), (65, Ans.v (i6 r)), (66, Ans.v (AV.tup [lro (List.length t) 1 (List.map st t), i6 0])), (75, Ans.v (AV.tup [lro (List.length a) 1 (List.map st a), i6 0])), (83, Ans.b false), (88, Ans.c (AV.own 1 (List.length x)) [Ob.cells (sysC (z0 s)), Ob.arr (List.length x) 1 (List.map st x)]), (93, Ans.b false), (98, Ans.c (AV.own 1 (List.length y)) [Ob.cells (sysC (z0 s)), Ob.arr (List.length y) 1 (List.map st y)]), (101, Ans.v (bo true)), (126, Ans.c (bo true) [Ob.cells (sysC (z0 s)), Ob.fro (List.length y) 1 (List.map st y)])]) (by kernel_rfl) (And.intro h0 (And.intro h1 (And.intro h2 (And.intro h3 (And.intro h4 (And.intro h5 (And.intro h6 (And.intro h7 (And.intro h8 (And.intro h9 (And.intro h10 (And.intro h11 (And.intro h12 (And.intro h13 (And.intro h14 (And.intro h15 (And.intro h16 trivial)))))))))))))))))

section
variable {s : NSys} {dr : Bool} {σ : List Ob} {ro : Nat}
theorem d_small : callv (X15 []) (callerOf T14) dr 13 [AV.agg (sysC s)] σ ro = some (bo (smallL s), σ) := callv_mono has14.at_ (lt_sys s) rfl c_small
theorem d_valid (hk : okS s = true) : callv (X15 []) (callerOf T14) dr 22 [AV.agg (sysC s)] σ ro = some (bo (validL s), σ) := callv_mono has14.at_ (lt_sys s) rfl (c_valid hk)
theorem d_awake : callv (X15 []) (callerOf T14) dr 15 [] σ ro = some (bo true, σ) := callv_mono has14.at_ rfl rfl c_awake
theorem d_words (hk : okS s = true) {n c : Int} {ws : List ByteArray} (hw : wordsO s n = some (ws, c)) : callv (X15 []) (callerOf T14) dr 16 [AV.agg (sysC s), i6 n] σ ro = some (.tup [lst ws, i6 c], σ) := callv_mono has14.at_ (lt_sysn s n) rfl (c_words hk hw)
theorem d_pow (hb : s.base = 10 ∨ s.base = 20) (n : Int) : callv (X15 []) (callerOf T14) dr 23 [i6 s.base, i6 n] σ ro = some (i6 (s.base ^ (powK s n + 1)), σ) := by
  refine call_T (r := i6 (s.base ^ (powK s n + 1))) rfl rfl rfl ?_ rfl rfl
  show pow23S [i6 s.base, i6 n] = _
  simp only [pow23S]
  rw [if_pos hb]
  rfl
end
theorem words_of {s : NSys} (hv : validL s = true) {n : Int} (h0 : 0 ≤ n) (h9 : n ≤ 9999) {l : List ByteArray} (hl : sayO s 6 n = some l) : wordsO s n = some (l, 0) := by
  unfold wordsO
  rw [if_neg (by rw [hv]; simp; omega), if_neg (by omega), hl]
theorem z0_ok {s : NSys} (h : okS s = true) : okS (z0 s) = true := by
  simp only [okS, z0, Bool.and_eq_true] at h ⊢
  exact ⟨h.1, h.2.1, h.2.2.1, rfl, h.2.2.2.2⟩
theorem joinWords_of {s : NSys} : (empB s.jo = true → joinWords s = []) ∧ (empB s.jo = false → joinWords s = [s.jo]) := by
  unfold joinWords
  constructor
  · intro h; rw [if_pos h]
  · intro h; rw [h]; rfl
/-- NumeralParts: true. -/
theorem law_parts [Fixed] (hX : ∀ l, ExtOk Tryd.prog (X15 l)) {s : NSys} (hk : okS s = true) {n : Int} (n0 : 0 ≤ n) (n1 : n ≤ 65535) : CallAt Tryd.prog 6 [AV.agg (sysC s), .int .u16 n] [] 0 (bo true) [] := by
  have run : ∀ {σ' : List Ob}, vbody Tryd.prog (X15 []) (callerOf T14) 1 noFg Tryd.f6 (codeOf Tryd.f6) [AV.agg (sysC s), .int .u16 n] [] 0 = some (bo true, σ') → CallAt Tryd.prog 6 [AV.agg (sysC s), .int .u16 n] [] 0 (bo true) [] :=
    fun h => run_at (hX []) (T14_ok hX) rfl Tryd.func6 rfl rfl h
  have hs := d_small (s := z0 s) (dr := false) (σ := [Ob.cells (sysC (z0 s))]) (ro := 0)
  have hv := d_valid (dr := false) (σ := [Ob.cells (sysC (z0 s))]) (ro := 0) (z0_ok hk)
  cases hsm : smallL (z0 s) with
  | false =>
    rw [hsm] at hs
    exact run (lpa_p s n (X15 []) (callerOf T14) 1 hs d_awake)
  | true =>
    rw [hsm] at hs
    cases hva : validL (z0 s) with
    | false =>
      rw [hva] at hv
      exact run (lpb_p s n (X15 []) (callerOf T14) 1 hs hv d_awake)
    | true =>
      rw [hva] at hv
      have hg := good_of hva
      have hbase := hg.base
      have hw : w6 n = n := w6_id (by omega) (by omega)
      obtain ⟨k, hkk⟩ : ∃ k, (w6 n).tmod 10000 = k := ⟨_, rfl⟩
      have k0 : 0 ≤ k ∧ k ≤ 9999 := by
        rw [← hkk, hw, Int.tmod_eq_emod_of_nonneg n0]
        omega
      by_cases hb : k < s.base
      · exact run (lpc_pt s n (X15 []) (callerOf T14) 1 hs hv (by rw [hkk]; exact decide_eq_true hb) d_awake)
      · have hp := d_pow (s := z0 s) (dr := false) (σ := [Ob.cells (sysC (z0 s))]) (ro := 0) hbase k
        have hr := rem_p (S := [Ob.cells (sysC (z0 s))]) (n := k) (base_pos hbase (powK (z0 s) k))
        by_cases h0 : k.tmod ((z0 s).base ^ (powK (z0 s) k + 1)) = 0
        · exact run (lpc_pft s n _ _ (X15 []) (callerOf T14) 1 hs hv (by rw [hkk]; exact decide_eq_false hb) (by rw [hkk]; exact hp) (by rw [hkk]; exact hr) (by rw [h0]; rfl) d_awake)
        · have hpa := parts hg (n := k) (Int.not_lt.1 hb) k0.2
          have hless : lessL (z0 s) (w6 (k.tdiv ((z0 s).base ^ (powK (z0 s) k + 1)))) ((z0 s).base ^ (powK (z0 s) k + 1)) (k.tmod ((z0 s).base ^ (powK (z0 s) k + 1))) = false := by
            unfold lessL z0
            rfl
          obtain ⟨h, t, hh, ht, ha, hn, tn⟩ := parts_words hg (Int.not_lt.1 hb) k0.2 hless h0
          have hm1 : w6 (k - k.tmod ((z0 s).base ^ (powK (z0 s) k + 1))) = k - k.tmod ((z0 s).base ^ (powK (z0 s) k + 1)) := by
            have := hpa.r0
            have := hpa.r1
            have := (base_pow hg (powK_le (z0 s) k)).2
            exact w6_id (by omega) (by omega)
          have hr0 := hpa.r0
          have hrk : k.tmod ((z0 s).base ^ (powK (z0 s) k + 1)) ≤ k := by
            have h1 := hpa.eq
            have h2 : 0 ≤ w6 (k.tdiv ((z0 s).base ^ (powK (z0 s) k + 1))) * (z0 s).base ^ (powK (z0 s) k + 1) := Int.mul_nonneg (by have := hpa.q1; omega) (by have := pow_le hg (powK (z0 s) k + 1); omega)
            omega
          have lh := (sayO_len (z0 s) 6 _ h hh).2
          have lt := (sayO_len (z0 s) 6 _ t ht).2
          have la := say6_len ha
          have h7 := d_words (dr := true) (σ := [Ob.cells (sysC (z0 s))]) (ro := 0) (z0_ok hk) (words_of hva (n := k - k.tmod ((z0 s).base ^ (powK (z0 s) k + 1))) (by omega) (by omega) hh)
          have h9 := d_words (dr := true) (σ := [Ob.cells (sysC (z0 s))]) (ro := 0) (z0_ok hk) (words_of hva hr0 (by omega) ht)
          have h10 := d_words (dr := false) (σ := [Ob.cells (sysC (z0 s))]) (ro := 0) (z0_ok hk) (words_of hva k0.1 k0.2 ha)
          have ends : ∀ (c : Ob) (y : List ByteArray), y = (if (z0 s).sf then t ++ (joinWords (z0 s) ++ h) else h ++ (joinWords (z0 s) ++ t)) → callv (X15 []) (callerOf T14) false 17 [lst (if (z0 s).sf then t ++ (joinWords (z0 s) ++ h) else h ++ (joinWords (z0 s) ++ t)), .own 1 y.length] [c, .arr y.length 1 (y.map st)] 0 = some (bo true, [c, .fro y.length 1 (y.map st)]) := by
            intro c y hy
            have := texts_own (T := T14) (fun _ => rfl) (c := c) (l := if (z0 s).sf then t ++ (joinWords (z0 s) ++ h) else h ++ (joinWords (z0 s) ++ t)) (m := y) la
            rw [hy, textsL_refl] at this
            rw [hy]
            exact this
          have g1 := fun {l : List ByteArray} (h0 : l ≠ []) (hb : l.length * 17 ≤ 140737488355328) => grow_new (σ := [Ob.cells (sysC (z0 s))]) h0 hb
          cases hj : empB s.jo with
          | true =>
            have ej : joinWords (z0 s) = [] := joinWords_of.1 hj
            rw [ej] at ends ha h10
            cases hsf : s.sf with
            | true =>
              have esf : (z0 s).sf = true := hsf
              rw [esf] at ends h10
              simp only [if_true, List.nil_append] at ends h10
              exact run (lpc_pfftf s n _ _ h t _ t (t ++ h) (X15 []) (callerOf T14) 1 hs hv (by rw [hkk]; exact decide_eq_false hb) (by rw [hkk]; exact hp) (by rw [hkk]; exact hr) (by simpa using h0) (by rw [hkk]; exact hr) (by rw [hkk, hm1]; exact h7) (by rw [hkk]; exact hr) h9 (by rw [hkk]; exact h10) hsf
                (g1 tn (by omega)) (by show (!empB s.jo) = false; rw [hj]; rfl) (grow_more (is_lst h) hn (by omega)) d_awake (ends _ _ rfl))
            | false =>
              have esf : (z0 s).sf = false := hsf
              rw [esf] at ends h10
              simp only [Bool.false_eq_true, if_false, List.nil_append] at ends h10
              exact run (lpc_pffff s n _ _ h t _ h (h ++ t) (X15 []) (callerOf T14) 1 hs hv (by rw [hkk]; exact decide_eq_false hb) (by rw [hkk]; exact hp) (by rw [hkk]; exact hr) (by simpa using h0) (by rw [hkk]; exact hr) (by rw [hkk, hm1]; exact h7) (by rw [hkk]; exact hr) h9 (by rw [hkk]; exact h10) hsf
                (g1 hn (by omega)) (by show (!empB s.jo) = false; rw [hj]; rfl) (grow_more (is_lst t) tn (by omega)) d_awake (ends _ _ rfl))
          | false =>
            have ej : joinWords (z0 s) = [s.jo] := joinWords_of.2 hj
            rw [ej] at ends ha h10
            cases hsf : s.sf with
            | true =>
              have esf : (z0 s).sf = true := hsf
              rw [esf] at ends h10
              simp only [if_true] at ends h10
              have e1 : (t ++ [s.jo]).length = t.length + 1 := by simp
              have g2 := grow_more (c := Ob.cells (sysC (z0 s))) (l := t) (m := [s.jo]) (p := .list .clip 1 1 [.str s.jo]) (is_one s.jo) (by simp) (by simp only [List.length_cons, List.length_nil]; omega)
              have g3 := grow_more (c := Ob.cells (sysC (z0 s))) (l := t ++ [s.jo]) (m := h) (p := lst h) (is_lst h) hn (by rw [e1]; omega)
              rw [e1] at g2 g3
              exact run (lpc_pfftt s n _ _ h t _ t ((t ++ [s.jo]) ++ h) (X15 []) (callerOf T14) 1 hs hv (by rw [hkk]; exact decide_eq_false hb) (by rw [hkk]; exact hp) (by rw [hkk]; exact hr) (by simpa using h0) (by rw [hkk]; exact hr) (by rw [hkk, hm1]; exact h7) (by rw [hkk]; exact hr) h9 (by rw [hkk]; exact h10) hsf
                (g1 tn (by omega)) (by show (!empB s.jo) = true; rw [hj]; rfl) g2 g3 d_awake (ends _ _ (by simp)))
            | false =>
              have esf : (z0 s).sf = false := hsf
              rw [esf] at ends h10
              simp only [Bool.false_eq_true, if_false] at ends h10
              have e1 : (h ++ [s.jo]).length = h.length + 1 := by simp
              have g2 := grow_more (c := Ob.cells (sysC (z0 s))) (l := h) (m := [s.jo]) (p := .list .clip 1 1 [.str s.jo]) (is_one s.jo) (by simp) (by simp only [List.length_cons, List.length_nil]; omega)
              have g3 := grow_more (c := Ob.cells (sysC (z0 s))) (l := h ++ [s.jo]) (m := t) (p := lst t) (is_lst t) tn (by rw [e1]; omega)
              rw [e1] at g2 g3
              exact run (lpc_pffft s n _ _ h t _ h ((h ++ [s.jo]) ++ t) (X15 []) (callerOf T14) 1 hs hv (by rw [hkk]; exact decide_eq_false hb) (by rw [hkk]; exact hp) (by rw [hkk]; exact hr) (by simpa using h0) (by rw [hkk]; exact hr) (by rw [hkk, hm1]; exact h7) (by rw [hkk]; exact hr) h9 (by rw [hkk]; exact h10) hsf
                (g1 hn (by omega)) (by show (!empB s.jo) = true; rw [hj]; rfl) g2 g3 d_awake (ends _ _ (by simp)))
end Go.Proofs.Num
end
/- Numeral: the law of subtraction. -/
section
open Go Go.Vm Go.Proofs
namespace Go.Proofs.Num
def lsS0 (s : NSys) (a : Int) (b : Int) (c : Int) (P : Nat → Int) (i0 : Nat) : St :=
  stOf 130 [37, 38, 39, 40, 41, 42, 43, 44, 45, 46, 47] [(0, AV.agg (sysC s)), (1, AV.int IntKind.u8 a), (2, AV.int IntKind.u8 b), (3, AV.int IntKind.u8 c), (4, AV.ref 0 0), (8, bo false), (9, i6 (P i0)), (10, i6 (↑i0 : Int)), (21, AV.agg (sysC s)), (22, bo true), (23, bo false), (24, bo false), (25, AV.agg (sysC s)), (26, bo true), (27, bo false), (28, bo false), (29, bo false), (30, AV.ref 0 5), (31, i6 (NSys.sub s)), (32, bo false), (33, bo false), (35, AV.ref 0 0), (36, i6 (NSys.base s))] [Ob.cells (sysC s)]
def lsS1 (s : NSys) (a : Int) (b : Int) (c : Int) (P : Nat → Int) (i0 : Nat) : St :=
  stOf 130 [] [(0, AV.agg (sysC s)), (1, AV.int IntKind.u8 a), (2, AV.int IntKind.u8 b), (3, AV.int IntKind.u8 c), (4, AV.ref 0 0), (8, bo false), (9, i6 (w6 (P i0 * NSys.base s))), (10, i6 (w6 ((↑i0 : Int) + 1))), (21, AV.agg (sysC s)), (22, bo true), (23, bo false), (24, bo false), (25, AV.agg (sysC s)), (26, bo true), (27, bo false), (28, bo false), (29, bo false), (30, AV.ref 0 5), (31, i6 (NSys.sub s)), (32, bo false), (33, bo false), (35, AV.ref 0 0), (36, i6 (NSys.base s)), (37, i6 (↑i0 : Int)), (38, AV.int IntKind.u8 a), (39, AV.int IntKind.u8 (Int.tmod a 3)), (40, i6 (w6 (Int.tmod a 3))), (41, bo true), (42, i6 (↑i0 : Int)), (43, i6 (w6 ((↑i0 : Int) + 1))), (44, i6 (P i0)), (45, AV.ref 0 0), (46, i6 (NSys.base s)), (47, i6 (w6 (P i0 * NSys.base s)))] [Ob.cells (sysC s)]
def lsS2 (s : NSys) (a : Int) (b : Int) (c : Int) (P : Nat → Int) (i0 : Nat) : St :=
  stOf 130 [42, 43, 44, 45, 46, 47] [(0, AV.agg (sysC s)), (1, AV.int IntKind.u8 a), (2, AV.int IntKind.u8 b), (3, AV.int IntKind.u8 c), (4, AV.ref 0 0), (8, bo false), (9, i6 (P i0)), (10, i6 (↑i0 : Int)), (21, AV.agg (sysC s)), (22, bo true), (23, bo false), (24, bo false), (25, AV.agg (sysC s)), (26, bo true), (27, bo false), (28, bo false), (29, bo false), (30, AV.ref 0 5), (31, i6 (NSys.sub s)), (32, bo false), (33, bo false), (35, AV.ref 0 0), (36, i6 (NSys.base s)), (37, i6 (↑i0 : Int)), (38, AV.int IntKind.u8 a), (39, AV.int IntKind.u8 (Int.tmod a 3)), (40, i6 (w6 (Int.tmod a 3))), (41, bo false)] [Ob.cells (sysC s)]
def lsS3 (s : NSys) (a : Int) (b : Int) (c : Int) : St :=
  stOf 130 [] [(0, AV.agg (sysC s)), (1, AV.int IntKind.u8 a), (2, AV.int IntKind.u8 b), (3, AV.int IntKind.u8 c), (4, AV.ref 0 0), (8, bo false), (9, i6 (NSys.base s)), (10, i6 0), (21, AV.agg (sysC s)), (22, bo true), (23, bo false), (24, bo false), (25, AV.agg (sysC s)), (26, bo true), (27, bo false), (28, bo false), (29, bo false), (30, AV.ref 0 5), (31, i6 (NSys.sub s)), (32, bo false), (33, bo false), (35, AV.ref 0 0), (36, i6 (NSys.base s))] [Ob.cells (sysC s)]
theorem lsa_p (s : NSys) (a : Int) (b : Int) (c : Int) (X : Ext) (call : Caller) (lf : Nat)
  (h0 : callv X call false 13 [AV.agg (sysC s)] [Ob.cells (sysC s)] 0 = some (bo false, [Ob.cells (sysC s)]))
  (h1 : callv X call false 15 [] [Ob.cells (sysC s)] 0 = some (bo true, [Ob.cells (sysC s)])) : vbody Tryd.prog X call lf noFg Tryd.f7 (codeOf Tryd.f7) [AV.agg (sysC s), AV.int IntKind.u8 a, AV.int IntKind.u8 b, AV.int IntKind.u8 c] [] 0 = some (bo true, [Ob.cells (sysC s)]) :=
  along_sound (ans := [(5, Ans.v (bo false)), (19, Ans.v (bo true))]) (by kernel_rfl) (And.intro h0 (And.intro h1 trivial))
theorem lsb_p (s : NSys) (a : Int) (b : Int) (c : Int) (X : Ext) (call : Caller) (lf : Nat)
  (h0 : callv X call false 13 [AV.agg (sysC s)] [Ob.cells (sysC s)] 0 = some (bo true, [Ob.cells (sysC s)]))
  (h1 : callv X call false 22 [AV.agg (sysC s)] [Ob.cells (sysC s)] 0 = some (bo false, [Ob.cells (sysC s)]))
  (h2 : callv X call false 15 [] [Ob.cells (sysC s)] 0 = some (bo true, [Ob.cells (sysC s)])) : vbody Tryd.prog X call lf noFg Tryd.f7 (codeOf Tryd.f7) [AV.agg (sysC s), AV.int IntKind.u8 a, AV.int IntKind.u8 b, AV.int IntKind.u8 c] [] 0 = some (bo true, [Ob.cells (sysC s)]) :=
  along_sound (ans := [(5, Ans.v (bo true)), (11, Ans.v (bo false)), (22, Ans.v (bo true))]) (by kernel_rfl) (And.intro h0 (And.intro h1 (And.intro h2 trivial)))
theorem lsc_pt (s : NSys) (a : Int) (b : Int) (c : Int) (X : Ext) (call : Caller) (lf : Nat)
  (h0 : callv X call false 13 [AV.agg (sysC s)] [Ob.cells (sysC s)] 0 = some (bo true, [Ob.cells (sysC s)]))
  (h1 : callv X call false 22 [AV.agg (sysC s)] [Ob.cells (sysC s)] 0 = some (bo true, [Ob.cells (sysC s)]))
  (h2 : (NSys.sub s == 0) = true)
  (h3 : callv X call false 15 [] [Ob.cells (sysC s)] 0 = some (bo true, [Ob.cells (sysC s)])) : vbody Tryd.prog X call lf noFg Tryd.f7 (codeOf Tryd.f7) [AV.agg (sysC s), AV.int IntKind.u8 a, AV.int IntKind.u8 b, AV.int IntKind.u8 c] [] 0 = some (bo true, [Ob.cells (sysC s)]) :=
  along_sound (ans := [(5, Ans.v (bo true)), (11, Ans.v (bo true)), (21, Ans.b true), (25, Ans.v (bo true))]) (by kernel_rfl) (And.intro h0 (And.intro h1 (And.intro h2 (And.intro h3 trivial))))
theorem lsc_r0_t (s : NSys) (a : Int) (b : Int) (c : Int) (P : Nat → Int) (X : Ext) (call : Caller) (lf : Nat) (i0 : Nat)
  (h0 : decide ((↑i0 : Int) < w6 (Int.tmod a 3)) = true) : vexec Tryd.prog X call lf 0 noFg (loopN Tryd.f7 0) (lsS0 s a b c P i0) = some (Ex.normal, (lsS1 s a b c P i0)) :=
  around_sound (ans := [(5, Ans.b true)]) (by kernel_rfl) (And.intro h0 trivial)
theorem lsc_r0_f (s : NSys) (a : Int) (b : Int) (c : Int) (P : Nat → Int) (X : Ext) (call : Caller) (lf : Nat) (i0 : Nat)
  (h0 : decide ((↑i0 : Int) < w6 (Int.tmod a 3)) = false) : vexec Tryd.prog X call lf 0 noFg (loopN Tryd.f7 0) (lsS0 s a b c P i0) = some (Ex.exit 0, (lsS2 s a b c P i0)) :=
  around_sound (ans := [(5, Ans.b false)]) (by kernel_rfl) (And.intro h0 trivial)
theorem lsc_pflft (s : NSys) (a : Int) (b : Int) (c : Int) (d : Int) (q : Int) (P : Nat → Int) (X : Ext) (call : Caller) (lf : Nat) (i0 : Nat)
  (h0 : callv X call false 13 [AV.agg (sysC s)] [Ob.cells (sysC s)] 0 = some (bo true, [Ob.cells (sysC s)]))
  (h1 : callv X call false 22 [AV.agg (sysC s)] [Ob.cells (sysC s)] 0 = some (bo true, [Ob.cells (sysC s)]))
  (h2 : (NSys.sub s == 0) = false)
  (h3 : vexec Tryd.prog X call lf 0 noFg (Code.loop (loopN Tryd.f7 0)) (lsS3 s a b c) = some (Ex.exit 0, (lsS2 s a b c P i0)))
  (h4 : keep [Ob.cells (sysC s)] (binv Tryd.prog BinOp.rem 3 (i6 (w6 c)) (i6 (NSys.sub s))) = some (i6 d, [Ob.cells (sysC s)]))
  (h5 : keep [Ob.cells (sysC s)] (binv Tryd.prog BinOp.rem 3 (i6 (w6 b)) (i6 (w6 (NSys.base s - 2)))) = some (i6 q, [Ob.cells (sysC s)]))
  (h6 : decide (w6 (w6 (w6 (w6 (q + 1) * P i0) + P i0) - w6 (d + 1)) > 9999) = true)
  (h7 : callv X call false 15 [] [Ob.cells (sysC s)] 0 = some (bo true, [Ob.cells (sysC s)])) : vbody Tryd.prog X call lf noFg Tryd.f7 (codeOf Tryd.f7) [AV.agg (sysC s), AV.int IntKind.u8 a, AV.int IntKind.u8 b, AV.int IntKind.u8 c] [] 0 = some (bo true, [Ob.cells (sysC s)]) :=
  along_sound (ans := [(5, Ans.v (bo true)), (11, Ans.v (bo true)), (21, Ans.b false), (30, Ans.l (Ex.exit 0) (lsS2 s a b c P i0)), (36, Ans.v (i6 d)), (45, Ans.v (i6 q)), (59, Ans.b true), (62, Ans.v (bo true))]) (by kernel_rfl) (And.intro h0 (And.intro h1 (And.intro h2 (And.intro h3 (And.intro h4 (And.intro h5 (And.intro h6 (And.intro h7 trivial))))))))
theorem lsc_pflfftf (s : NSys) (a : Int) (b : Int) (c : Int) (d : Int) (q : Int) (e3 : Int) (P : Nat → Int) (l : List ByteArray) (x : List ByteArray) (y : List ByteArray) (X : Ext) (call : Caller) (lf : Nat) (i0 : Nat)
  (h0 : callv X call false 13 [AV.agg (sysC s)] [Ob.cells (sysC s)] 0 = some (bo true, [Ob.cells (sysC s)]))
  (h1 : callv X call false 22 [AV.agg (sysC s)] [Ob.cells (sysC s)] 0 = some (bo true, [Ob.cells (sysC s)]))
  (h2 : (NSys.sub s == 0) = false)
  (h3 : vexec Tryd.prog X call lf 0 noFg (Code.loop (loopN Tryd.f7 0)) (lsS3 s a b c) = some (Ex.exit 0, (lsS2 s a b c P i0)))
  (h4 : keep [Ob.cells (sysC s)] (binv Tryd.prog BinOp.rem 3 (i6 (w6 c)) (i6 (NSys.sub s))) = some (i6 d, [Ob.cells (sysC s)]))
  (h5 : keep [Ob.cells (sysC s)] (binv Tryd.prog BinOp.rem 3 (i6 (w6 b)) (i6 (w6 (NSys.base s - 2)))) = some (i6 q, [Ob.cells (sysC s)]))
  (h6 : decide (w6 (w6 (w6 (w6 (q + 1) * P i0) + P i0) - w6 (d + 1)) > 9999) = false)
  (h7 : callv X call false 16 [AV.agg (sysC s), i6 (w6 (w6 (w6 (w6 (q + 1) * P i0) + P i0) - w6 (d + 1)))] [Ob.cells (sysC s)] 0 = some (AV.tup [lro (List.length l) 1 (List.map st l), i6 0], [Ob.cells (sysC s)]))
  (h8 : callv X call false 16 [AV.agg (sysC s), i6 (w6 (d + 1))] [Ob.cells (sysC s)] 0 = some (AV.tup [lro (List.length x) 1 (List.map st x), i6 0], [Ob.cells (sysC s)]))
  (h9 : callv X call false 16 [AV.agg (sysC s), i6 (w6 (w6 (w6 (q + 1) + 1) * P i0))] [Ob.cells (sysC s)] 0 = some (AV.tup [lro (List.length y) 1 (List.map st y), i6 e3], [Ob.cells (sysC s)]))
  (h10 : appendv Tryd.prog 22 [Ob.cells (sysC s)] 0 (AV.list LK.clip 0 1 []) (lro (List.length x) 1 (List.map st x)) = some (AV.own 1 (List.length x), [Ob.cells (sysC s), Ob.arr (List.length x) 1 (List.map st x)]))
  (h11 : appendv Tryd.prog 22 [Ob.cells (sysC s), Ob.arr (List.length x) 1 (List.map st x)] 0 (AV.own 1 (List.length x)) (AV.list LK.clip 1 1 [st (NSys.le s)]) = some (AV.own 1 (List.length x + 1), [Ob.cells (sysC s), Ob.arr (List.length x + 1) 1 (List.map st (x ++ [NSys.le s]))]))
  (h12 : appendv Tryd.prog 22 [Ob.cells (sysC s), Ob.arr (List.length x + 1) 1 (List.map st (x ++ [NSys.le s]))] 0 (AV.own 1 (List.length x + 1)) (lro (List.length y) 1 (List.map st y)) = some (AV.own 1 (List.length x + 1 + List.length y), [Ob.cells (sysC s), Ob.arr (List.length x + 1 + List.length y) 1 (List.map st (x ++ [NSys.le s] ++ y))]))
  (h13 : callv X call false 15 [] [Ob.cells (sysC s), Ob.arr (List.length x + 1 + List.length y) 1 (List.map st (x ++ [NSys.le s] ++ y))] 0 = some (bo true, [Ob.cells (sysC s), Ob.arr (List.length x + 1 + List.length y) 1 (List.map st (x ++ [NSys.le s] ++ y))]))
  (h14 : (e3 == 0) = true)
  (h15 : (e3 != 0) = false)
  (h16 : callv X call false 17 [lro (List.length l) 1 (List.map st l), AV.own 1 (List.length x + 1 + List.length y)] [Ob.cells (sysC s), Ob.arr (List.length x + 1 + List.length y) 1 (List.map st (x ++ [NSys.le s] ++ y))] 0 = some (bo true, [Ob.cells (sysC s), Ob.fro (List.length x + 1 + List.length y) 1 (List.map st (x ++ [NSys.le s] ++ y))])) : vbody Tryd.prog X call lf noFg Tryd.f7 (codeOf Tryd.f7) [AV.agg (sysC s), AV.int IntKind.u8 a, AV.int IntKind.u8 b, AV.int IntKind.u8 c] [] 0 = some (bo true, [Ob.cells (sysC s), Ob.fro (List.length x + 1 + List.length y) 1 (List.map st (x ++ [NSys.le s] ++ y))]) :=
  along_sound (ans := [(5, Ans.v (bo true)), (11, Ans.v (bo true)), (21, Ans.b false), (30, Ans.l (Ex.exit 0) (lsS2 s a b c P i0)), (36, Ans.v (i6 d)), (45, Ans.v (i6 q)), (59, Ans.b false), (64, Ans.v (AV.tup [lro (List.length l) 1 (List.map st l), i6 0])), (73, Ans.v (AV.tup [lro (List.length x) 1 (List.map st x), i6 0])), (85, Ans.v (AV.tup [lro (List.length y) 1 (List.map st y), i6 e3])), (94, Ans.c (AV.own 1 (List.length x)) [Ob.cells (sysC s), Ob.arr (List.length x) 1 (List.map st x)]), (98, Ans.c (AV.own 1 (List.length x + 1)) [Ob.cells (sysC s), Ob.arr (List.length x + 1) 1 (List.map st (x ++ [NSys.le s]))]), (100, Ans.c (AV.own 1 (List.length x + 1 + List.length y)) [Ob.cells (sysC s), Ob.arr (List.length x + 1 + List.length y) 1 (List.map st (x ++ [NSys.le s] ++ y))]), (103, Ans.v (bo true)), (120, Ans.b true), (135, Ans.b false), (143, Ans.c (bo true) [Ob.cells (sysC s), Ob.fro (List.length x + 1 + List.length y) 1 (List.map st (x ++ [NSys.le s] ++ y))])]) (by kernel_rfl) (And.intro h0 (And.intro h1 (And.intro h2 (And.intro h3 (And.intro h4 (And.intro h5 (And.intro h6 (And.intro h7 (And.intro h8 (And.intro h9 (And.intro h10 (And.intro h11 (And.intro h12 (And.intro h13 (And.intro h14 (And.intro h15 (And.intro h16 trivial)))))))))))))))))
theorem lsc_pflffftt (s : NSys) (a : Int) (b : Int) (c : Int) (d : Int) (q : Int) (e3 : Int) (P : Nat → Int) (l : List ByteArray) (x : List ByteArray) (y : List ByteArray) (X : Ext) (call : Caller) (lf : Nat) (i0 : Nat)
  (h0 : callv X call false 13 [AV.agg (sysC s)] [Ob.cells (sysC s)] 0 = some (bo true, [Ob.cells (sysC s)]))
  (h1 : callv X call false 22 [AV.agg (sysC s)] [Ob.cells (sysC s)] 0 = some (bo true, [Ob.cells (sysC s)]))
  (h2 : (NSys.sub s == 0) = false)
  (h3 : vexec Tryd.prog X call lf 0 noFg (Code.loop (loopN Tryd.f7 0)) (lsS3 s a b c) = some (Ex.exit 0, (lsS2 s a b c P i0)))
  (h4 : keep [Ob.cells (sysC s)] (binv Tryd.prog BinOp.rem 3 (i6 (w6 c)) (i6 (NSys.sub s))) = some (i6 d, [Ob.cells (sysC s)]))
  (h5 : keep [Ob.cells (sysC s)] (binv Tryd.prog BinOp.rem 3 (i6 (w6 b)) (i6 (w6 (NSys.base s - 2)))) = some (i6 q, [Ob.cells (sysC s)]))
  (h6 : decide (w6 (w6 (w6 (w6 (q + 1) * P i0) + P i0) - w6 (d + 1)) > 9999) = false)
  (h7 : callv X call false 16 [AV.agg (sysC s), i6 (w6 (w6 (w6 (w6 (q + 1) * P i0) + P i0) - w6 (d + 1)))] [Ob.cells (sysC s)] 0 = some (AV.tup [lro (List.length l) 1 (List.map st l), i6 0], [Ob.cells (sysC s)]))
  (h8 : callv X call false 16 [AV.agg (sysC s), i6 (w6 (d + 1))] [Ob.cells (sysC s)] 0 = some (AV.tup [lro (List.length x) 1 (List.map st x), i6 0], [Ob.cells (sysC s)]))
  (h9 : callv X call false 16 [AV.agg (sysC s), i6 (w6 (w6 (w6 (q + 1) + 1) * P i0))] [Ob.cells (sysC s)] 0 = some (AV.tup [lro (List.length y) 1 (List.map st y), i6 e3], [Ob.cells (sysC s)]))
  (h10 : appendv Tryd.prog 22 [Ob.cells (sysC s)] 0 (AV.list LK.clip 0 1 []) (lro (List.length x) 1 (List.map st x)) = some (AV.own 1 (List.length x), [Ob.cells (sysC s), Ob.arr (List.length x) 1 (List.map st x)]))
  (h11 : appendv Tryd.prog 22 [Ob.cells (sysC s), Ob.arr (List.length x) 1 (List.map st x)] 0 (AV.own 1 (List.length x)) (AV.list LK.clip 1 1 [st (NSys.le s)]) = some (AV.own 1 (List.length x + 1), [Ob.cells (sysC s), Ob.arr (List.length x + 1) 1 (List.map st (x ++ [NSys.le s]))]))
  (h12 : appendv Tryd.prog 22 [Ob.cells (sysC s), Ob.arr (List.length x + 1) 1 (List.map st (x ++ [NSys.le s]))] 0 (AV.own 1 (List.length x + 1)) (lro (List.length y) 1 (List.map st y)) = some (AV.own 1 (List.length x + 1 + List.length y), [Ob.cells (sysC s), Ob.arr (List.length x + 1 + List.length y) 1 (List.map st (x ++ [NSys.le s] ++ y))]))
  (h13 : callv X call false 15 [] [Ob.cells (sysC s), Ob.arr (List.length x + 1 + List.length y) 1 (List.map st (x ++ [NSys.le s] ++ y))] 0 = some (bo true, [Ob.cells (sysC s), Ob.arr (List.length x + 1 + List.length y) 1 (List.map st (x ++ [NSys.le s] ++ y))]))
  (h14 : (e3 == 0) = false)
  (h15 : decide (w6 (w6 (w6 (q + 1) + 1) * P i0) > 9999) = true)
  (h16 : (e3 != 0) = true) : vbody Tryd.prog X call lf noFg Tryd.f7 (codeOf Tryd.f7) [AV.agg (sysC s), AV.int IntKind.u8 a, AV.int IntKind.u8 b, AV.int IntKind.u8 c] [] 0 = some (bo true, [Ob.cells (sysC s), Ob.arr (List.length x + 1 + List.length y) 1 (List.map st (x ++ [NSys.le s] ++ y))]) :=
  along_sound (ans := [(5, Ans.v (bo true)), (11, Ans.v (bo true)), (21, Ans.b false), (30, Ans.l (Ex.exit 0) (lsS2 s a b c P i0)), (36, Ans.v (i6 d)), (45, Ans.v (i6 q)), (59, Ans.b false), (64, Ans.v (AV.tup [lro (List.length l) 1 (List.map st l), i6 0])), (73, Ans.v (AV.tup [lro (List.length x) 1 (List.map st x), i6 0])), (85, Ans.v (AV.tup [lro (List.length y) 1 (List.map st y), i6 e3])), (94, Ans.c (AV.own 1 (List.length x)) [Ob.cells (sysC s), Ob.arr (List.length x) 1 (List.map st x)]), (98, Ans.c (AV.own 1 (List.length x + 1)) [Ob.cells (sysC s), Ob.arr (List.length x + 1) 1 (List.map st (x ++ [NSys.le s]))]), (100, Ans.c (AV.own 1 (List.length x + 1 + List.length y)) [Ob.cells (sysC s), Ob.arr (List.length x + 1 + List.length y) 1 (List.map st (x ++ [NSys.le s] ++ y))]), (103, Ans.v (bo true)), (120, Ans.b false), (132, Ans.b true), (140, Ans.b true)]) (by kernel_rfl) (And.intro h0 (And.intro h1 (And.intro h2 (And.intro h3 (And.intro h4 (And.intro h5 (And.intro h6 (And.intro h7 (And.intro h8 (And.intro h9 (And.intro h10 (And.intro h11 (And.intro h12 (And.intro h13 (And.intro h14 (And.intro h15 (And.intro h16 trivial)))))))))))))))))

theorem sub_words {s : NSys} (hg : Good s) {i : Nat} (hi : i ≤ 2) {D K : Int} (hD1 : 1 ≤ D) (hD2 : D ≤ s.sub) (hK1 : 1 ≤ K) (hK2 : K + 1 < s.base) (h9 : K * s.base ^ (i + 1) + s.base ^ (i + 1) - D ≤ 9999) :
    ∃ x y, sayO s 6 D = some x ∧ sayO s 5 ((K + 1) * s.base ^ (i + 1)) = some y ∧ sayO s 6 (K * s.base ^ (i + 1) + s.base ^ (i + 1) - D) = some (x ++ s.le :: y) := by
  obtain ⟨b1, b2⟩ := base_pow hg hi
  have hbase := hg.base
  have hs0 := hg.sub0
  have hs1 := hg.sub1
  obtain ⟨x, hx⟩ := say_digit hg 4 (n := D) (by omega) (by omega)
  obtain ⟨y, hy⟩ := say_mult hg 3 (q := K + 1) hi (by omega) hK2
  refine ⟨x, y, sayO_mono 5 hx, hy, ?_⟩
  have hKp : s.base ^ (i + 1) ≤ K * s.base ^ (i + 1) := by
    have : 1 * s.base ^ (i + 1) ≤ K * s.base ^ (i + 1) := Int.mul_le_mul_of_nonneg_right hK1 (by omega)
    omega
  have hup : (K + 1) * s.base ^ (i + 1) < s.base ^ (i + 2) := by
    have : s.base ^ (i + 2) = s.base * s.base ^ (i + 1) := by rw [Int.pow_succ, Int.mul_comm]
    rw [this]
    exact Int.mul_lt_mul_of_pos_right hK2 (by omega)
  have hup2 : K * s.base ^ (i + 1) + s.base ^ (i + 1) < s.base ^ (i + 2) := by rw [Int.add_mul, Int.one_mul] at hup; exact hup
  have hK : powK s (K * s.base ^ (i + 1) + s.base ^ (i + 1) - D) = i := by
    have h : i = 0 ∨ i = 1 ∨ i = 2 := by omega
    have hlo : s.base ^ (i + 1) ≤ K * s.base ^ (i + 1) + s.base ^ (i + 1) - D := by omega
    have hhi : K * s.base ^ (i + 1) + s.base ^ (i + 1) - D < s.base ^ (i + 2) := by omega
    generalize K * s.base ^ (i + 1) + s.base ^ (i + 1) - D = n at *
    unfold powK
    rcases h with rfl | rfl | rfl
    · rw [if_pos hhi]
    · rw [if_neg (by simpa using hlo), if_pos hhi]
    · have : ¬ s.base ^ 2 > n := by
        have h23 : s.base ^ 2 ≤ s.base ^ 3 := by rcases hbase with e | e <;> rw [e] <;> decide
        have : s.base ^ 3 ≤ n := hlo
        omega
      rw [if_neg this, if_neg (by simpa using hlo)]
  have hn0 : 0 ≤ K * s.base ^ (i + 1) + s.base ^ (i + 1) - D := by omega
  have hdiv : w6 ((K * s.base ^ (i + 1) + s.base ^ (i + 1) - D).tdiv (s.base ^ (i + 1))) = K := by
    rw [Int.tdiv_eq_ediv_of_nonneg hn0]
    have e : K * s.base ^ (i + 1) + s.base ^ (i + 1) - D = (s.base ^ (i + 1) - D) + s.base ^ (i + 1) * K := by rw [Int.mul_comm]; omega
    rw [e, Int.add_mul_ediv_left _ _ (by omega), Int.ediv_eq_zero_of_lt (by omega) (by omega), Int.zero_add]
    exact w6_id (by omega) (by omega)
  have hmod : (K * s.base ^ (i + 1) + s.base ^ (i + 1) - D).tmod (s.base ^ (i + 1)) = s.base ^ (i + 1) - D := by
    rw [Int.tmod_eq_emod_of_nonneg hn0]
    have e : K * s.base ^ (i + 1) + s.base ^ (i + 1) - D = (s.base ^ (i + 1) - D) + s.base ^ (i + 1) * K := by rw [Int.mul_comm]; omega
    rw [e, Int.add_mul_emod_self_left]
    exact Int.emod_eq_of_lt (by omega) (by omega)
  have hless : lessL s K (s.base ^ (i + 1)) (s.base ^ (i + 1) - D) = true := (lessL_iff hg (by omega) (by omega) (by omega) (by omega)).2 ⟨by omega, by omega, hK2⟩
  rw [sayO_succ, if_neg (by omega), hK, hdiv, hmod, hless]
  simp only [if_true]
  have e1 : w6 (s.base ^ (i + 1) - (s.base ^ (i + 1) - D)) = D := by
    rw [show s.base ^ (i + 1) - (s.base ^ (i + 1) - D) = D by omega]
    exact w6_id (by omega) (by omega)
  have e2 : w6 (K + 1) = K + 1 := w6_id (by omega) (by omega)
  have hle : (K + 1) * s.base ^ (i + 1) ≤ 20 * 8000 := Int.mul_le_mul (by omega) (by omega) (by omega) (by omega)
  have h0 : 0 ≤ (K + 1) * s.base ^ (i + 1) := Int.mul_nonneg (by omega) (by omega)
  have e3 : w6 ((K + 1) * s.base ^ (i + 1)) = (K + 1) * s.base ^ (i + 1) := w6_id (by omega) (by omega)
  rw [e1, e2, e3]
  unfold lessO
  rw [hx, hy]
abbrev D7 : List Nat := [43, 42, 47, 46, 45, 44, 41, 40, 39, 38, 37]
theorem dead7 : (deadC (loopN Tryd.f7 0) ([], [])).2 = D7 := by kernel_rfl
/-- The law's loop: the power. -/
theorem ls_loop {X : Ext} {call : Caller} {lf : Nat} (hlf : 2 < lf) {s : NSys} (hb : s.base = 10 ∨ s.base = 20) {a b c : Int} {i : Nat} (hi : i ≤ 2) (ha : w6 (Int.tmod a 3) = (i : Int)) :
    vexec Tryd.prog X call lf 0 noFg (Code.loop (loopN Tryd.f7 0)) (lsS3 s a b c) = some (Ex.exit 0, lsS2 s a b c (rwP s) i) := by
  have start : forget D7 (lsS3 s a b c) = lsS0 s a b c (rwP s) 0 := by
    have e : rwP s 0 = s.base := by unfold rwP; rw [Nat.zero_add]; exact Int.pow_one _
    unfold lsS3 lsS0
    rw [e]
    show _ = _
    kernel_rfl
  refine loop_run (P := Tryd.prog) (X := X) (call := call) (lf := lf) (ro := 0) (fg := noFg) dead7 (lsS0 s a b c (rwP s)) i (by omega) start (fun k hk => ?_) (lsc_r0_f s a b c (rwP s) X call lf i (by rw [ha]; exact decide_eq_false (by omega))) (by simp)
  refine ⟨_, lsc_r0_t s a b c (rwP s) X call lf k (by rw [ha]; exact decide_eq_true (by omega)), ?_⟩
  have e : w6 ((k : Int) + 1) = ((k + 1 : Nat) : Int) := wrap_small (by omega)
  have e2 : w6 (rwP s k * s.base) = rwP s (k + 1) := pow_mul hb (by omega)
  unfold lsS1
  rw [e, e2]
  unfold lsS0
  show _ = _
  kernel_rfl
theorem grow_nil1 {c : Ob} {l : List ByteArray} (hb : l.length * 17 ≤ 140737488355328) :
    appendv Tryd.prog 22 [c, .arr l.length 1 (l.map .str)] 0 (.own 1 l.length) (lst []) = some (.own 1 l.length, [c, .arr l.length 1 (l.map .str)]) := by
  exact grow_none (P := Tryd.prog) (ro := 0) (id := 1) (n := l.length) (σ := [c, Ob.arr l.length 1 (l.map .str)]) (cs := l.map .str) (ys := []) (x := lst []) Tryd.underlying22 zero9 (by rw [cells9]; rfl) (by rw [cells9]; rfl) (Nat.zero_le _)
    (by rw [cells9]; rfl) rfl (by rw [bytes9]; omega)
/-- NumeralSubtracts: true. -/
theorem law_subtracts [Fixed] (hX : ∀ l, ExtOk Tryd.prog (X15 l)) {s : NSys} (hk : okS s = true) {a b c : Int} (a0 : 0 ≤ a) (a1 : a ≤ 255) (b0 : 0 ≤ b) (b1 : b ≤ 255) (c0 : 0 ≤ c) (c1 : c ≤ 255) : CallAt Tryd.prog 7 [AV.agg (sysC s), .int .u8 a, .int .u8 b, .int .u8 c] [] 0 (bo true) [] := by
  have run : ∀ {σ' : List Ob}, vbody Tryd.prog (X15 []) (callerOf T13) 3 noFg Tryd.f7 (codeOf Tryd.f7) [AV.agg (sysC s), .int .u8 a, .int .u8 b, .int .u8 c] [] 0 = some (bo true, σ') → CallAt Tryd.prog 7 [AV.agg (sysC s), .int .u8 a, .int .u8 b, .int .u8 c] [] 0 (bo true) [] :=
    fun h => run_at (hX []) (T13_ok hX) rfl Tryd.func7 rfl rfl h
  have hs := c_small (s := s) (dr := false) (σ := [Ob.cells (sysC s)]) (ro := 0)
  have hv := c_valid (dr := false) (σ := [Ob.cells (sysC s)]) (ro := 0) hk
  cases hsm : smallL s with
  | false =>
    rw [hsm] at hs
    exact run (lsa_p s a b c (X15 []) (callerOf T13) 3 hs c_awake)
  | true =>
    rw [hsm] at hs
    cases hva : validL s with
    | false =>
      rw [hva] at hv
      exact run (lsb_p s a b c (X15 []) (callerOf T13) 3 hs hv c_awake)
    | true =>
      rw [hva] at hv
      have hg := good_of hva
      have hbase := hg.base
      have hs0 := hg.sub0
      have hs1 := hg.sub1
      by_cases hsub : s.sub = 0
      · exact run (lsc_pt s a b c (X15 []) (callerOf T13) 3 hs hv (by rw [hsub]; rfl) c_awake)
      · have h2 : (s.sub == 0) = false := by simpa using hsub
        obtain ⟨i, hi, hai⟩ : ∃ i : Nat, i ≤ 2 ∧ w6 (Int.tmod a 3) = (i : Int) := by
          have e : Int.tmod a 3 = a % 3 := Int.tmod_eq_emod_of_nonneg a0
          rw [e, w6_id (by omega) (by omega)]
          exact ⟨(a % 3).toNat, by omega, by omega⟩
        have hloop := ls_loop (X := X15 []) (call := callerOf T13) (lf := 3) (by omega) hbase (b := b) (c := c) hi hai
        obtain ⟨p1, p2⟩ := base_pow hg hi
        -- what is missing
        have hd := rem_p (S := [Ob.cells (sysC s)]) (n := w6 c) hsub
        have hwc : w6 c = c := w6_id (by omega) (by omega)
        obtain ⟨d, hdd⟩ : ∃ d, c.tmod s.sub = d := ⟨_, rfl⟩
        have hd0 : 0 ≤ d ∧ d < s.sub := by
          rw [← hdd, Int.tmod_eq_emod_of_nonneg c0]
          exact ⟨Int.emod_nonneg _ hsub, Int.emod_lt_of_pos _ (by omega)⟩
        rw [hwc, hdd] at hd
        -- the factor
        have hwb : w6 b = b := w6_id (by omega) (by omega)
        have hwb2 : w6 (s.base - 2) = s.base - 2 := w6_id (by omega) (by omega)
        have hq := rem_p (S := [Ob.cells (sysC s)]) (n := b) (p := s.base - 2) (by omega)
        obtain ⟨q, hqq⟩ : ∃ q, b.tmod (s.base - 2) = q := ⟨_, rfl⟩
        have hq0 : 0 ≤ q ∧ q < s.base - 2 := by
          rw [← hqq, Int.tmod_eq_emod_of_nonneg b0]
          exact ⟨Int.emod_nonneg _ (by omega), Int.emod_lt_of_pos _ (by omega)⟩
        rw [hqq] at hq
        have e1 : w6 (q + 1) = q + 1 := w6_id (by omega) (by omega)
        have e2 : w6 (d + 1) = d + 1 := w6_id (by omega) (by omega)
        have hm : (q + 1) * s.base ^ (i + 1) ≤ 20 * 8000 := Int.mul_le_mul (by omega) (by omega) (by omega) (by omega)
        have hm0 : 0 ≤ (q + 1) * s.base ^ (i + 1) := Int.mul_nonneg (by omega) (by omega)
        have hm2 : (q + 1 + 1) * s.base ^ (i + 1) ≤ 20 * 8000 := Int.mul_le_mul (by omega) (by omega) (by omega) (by omega)
        have hm3 : 0 ≤ (q + 1 + 1) * s.base ^ (i + 1) := Int.mul_nonneg (by omega) (by omega)
        have e3 : w6 (w6 (w6 (w6 (q + 1) * rwP s i) + rwP s i) - w6 (d + 1)) = (q + 1) * s.base ^ (i + 1) + s.base ^ (i + 1) - (d + 1) := by
          unfold rwP
          rw [e1, e2, w6_id (n := (q + 1) * s.base ^ (i + 1)) (by omega) (by omega), w6_id (n := (q + 1) * s.base ^ (i + 1) + s.base ^ (i + 1)) (by omega) (by omega), w6_id (by omega) (by omega)]
        have e4 : w6 (w6 (w6 (q + 1) + 1) * rwP s i) = (q + 1 + 1) * s.base ^ (i + 1) := by
          unfold rwP
          rw [e1, w6_id (n := q + 1 + 1) (by omega) (by omega), w6_id (by omega) (by omega)]
        have hq' : keep [Ob.cells (sysC s)] (binv Tryd.prog BinOp.rem 3 (i6 (w6 b)) (i6 (w6 (s.base - 2)))) = some (i6 q, [Ob.cells (sysC s)]) := by rw [hwb, hwb2]; exact hq
        have hd' : keep [Ob.cells (sysC s)] (binv Tryd.prog BinOp.rem 3 (i6 (w6 c)) (i6 s.sub)) = some (i6 d, [Ob.cells (sysC s)]) := by rw [hwc]; exact hd
        by_cases hbig : (q + 1) * s.base ^ (i + 1) + s.base ^ (i + 1) - (d + 1) > 9999
        · exact run (lsc_pflft s a b c d q (rwP s) (X15 []) (callerOf T13) 3 i hs hv h2 hloop hd' hq' (by rw [e3]; exact decide_eq_true hbig) c_awake)
        · obtain ⟨x, y, hx, hy, hn⟩ := sub_words hg hi (D := d + 1) (K := q + 1) (by omega) (by omega) (by omega) (by omega) (by omega)
          have hn0 : 0 ≤ (q + 1) * s.base ^ (i + 1) + s.base ^ (i + 1) - (d + 1) := by
            have : 0 ≤ (q + 1) * s.base ^ (i + 1) := hm0
            omega
          have h7 := c_words (dr := false) (σ := [Ob.cells (sysC s)]) (ro := 0) hk (words_of hva hn0 (by omega) hn)
          have h8 := c_words (dr := false) (σ := [Ob.cells (sysC s)]) (ro := 0) hk (words_of hva (n := d + 1) (by omega) (by omega) hx)
          obtain ⟨x1, x2⟩ := sayO_len s 6 _ x hx
          obtain ⟨y1, y2⟩ := sayO_len s 5 _ y hy
          have g1 := grow_new (σ := [Ob.cells (sysC s)]) (l := x) x1 (by omega)
          have g2 := grow_more (c := Ob.cells (sysC s)) (l := x) (m := [s.le]) (p := .list .clip 1 1 [.str s.le]) (is_one s.le) (by simp) (by simp only [List.length_cons, List.length_nil]; omega)
          have l1 : (x ++ [s.le]).length = x.length + 1 := by simp
          rw [l1] at g2
          by_cases hbig2 : (q + 1 + 1) * s.base ^ (i + 1) > 9999
          · have hw : wordsO s ((q + 1 + 1) * s.base ^ (i + 1)) = some ([], 2) := by unfold wordsO; rw [if_neg (by rw [hva]; simp; omega), if_pos hbig2]
            have h9 := c_words (dr := false) (σ := [Ob.cells (sysC s)]) (ro := 0) hk hw
            have g3 := grow_nil1 (c := Ob.cells (sysC s)) (l := x ++ [s.le]) (by rw [l1]; omega)
            rw [l1] at g3
            have g3' : appendv Tryd.prog 22 [Ob.cells (sysC s), Ob.arr (x.length + 1) 1 (List.map st (x ++ [s.le]))] 0 (AV.own 1 (x.length + 1)) (lst []) = some (AV.own 1 (x.length + 1 + ([] : List ByteArray).length), [Ob.cells (sysC s), Ob.arr (x.length + 1 + ([] : List ByteArray).length) 1 (List.map st (x ++ [s.le] ++ []))]) := by
              rw [List.append_nil]
              exact g3
            exact run (lsc_pflffftt s a b c d q 2 (rwP s) _ x [] (X15 []) (callerOf T13) 3 i hs hv h2 hloop hd' hq' (by rw [e3]; exact decide_eq_false hbig) (by rw [e3]; exact h7) (by rw [e2]; exact h8) (by rw [e4]; exact h9) g1 g2 g3' c_awake rfl (by rw [e4]; exact decide_eq_true hbig2) rfl)
          · have h9 := c_words (dr := false) (σ := [Ob.cells (sysC s)]) (ro := 0) hk (words_of hva (n := (q + 1 + 1) * s.base ^ (i + 1)) (by omega) (by omega) (sayO_mono 5 hy))
            have g3 := grow_more (c := Ob.cells (sysC s)) (l := x ++ [s.le]) (m := y) (p := lst y) (is_lst y) y1 (by rw [l1]; omega)
            have l2 : (x ++ [s.le] ++ y).length = x.length + 1 + y.length := by simp only [List.length_append, List.length_cons, List.length_nil]
            rw [l1, l2] at g3
            have ht := texts_own (T := T13) (fun _ => rfl) (c := Ob.cells (sysC s)) (l := x ++ s.le :: y) (m := x ++ [s.le] ++ y) (by have := say6_len hn; exact this)
            rw [show x ++ [s.le] ++ y = x ++ s.le :: y by simp, textsL_refl] at ht
            rw [show x ++ s.le :: y = x ++ [s.le] ++ y by simp, l2] at ht
            rw [show x ++ s.le :: y = x ++ [s.le] ++ y by simp] at h7
            have l3 : (x ++ [s.le] ++ y).length = (x ++ [s.le] ++ y).length := rfl
            exact run (lsc_pflfftf s a b c d q 0 (rwP s) (x ++ [s.le] ++ y) x y (X15 []) (callerOf T13) 3 i hs hv h2 hloop hd' hq' (by rw [e3]; exact decide_eq_false hbig) (by rw [e3]; exact h7) (by rw [e2]; exact h8) (by rw [e4]; exact h9) g1 g2 g3 c_awake rfl rfl (by
              have := ht
              rw [← l2]
              rw [← l2] at this
              exact this))
end Go.Proofs.Num
end
