/- Part 5 of the texts of this claim: the evaluator, and what it says of the program's functions. -/
import Derived.Test.YtdkoncfpkhapjaaDoorXD
set_option linter.unusedSectionVars false
set_option linter.unusedVariables false
set_option linter.unusedSimpArgs false
set_option linter.constructorNameAsVariable false
/- Numeral: parts of numbers; calls with rows of the call itself. -/
section
open Go Go.Vm Go.Proofs
namespace Go.Proofs.Num
def z0 (s : NSys) : NSys := { s with sub := 0, le := ByteArray.mk #[] }

def lpS0 (b : Int) (n : Int) (P : Nat → Int) (i0 : Nat) : St :=
  stOf 23 [8, 9, 10, 11, 12, 13, 14, 15, 16, 17, 18, 19, 20, 21] [(0, i6 b), (1, i6 n), (4, i6 0), (5, i6 (P i0)), (6, i6 (↑i0 : Int)), (7, i6 b)] []
def lpS1 (b : Int) (n : Int) (P : Nat → Int) (i0 : Nat) : St :=
  stOf 23 [] [(0, i6 b), (1, i6 n), (4, i6 0), (5, i6 (w6 (P i0 * b))), (6, i6 (w6 ((↑i0 : Int) + 1))), (7, i6 b), (8, i6 (↑i0 : Int)), (9, bo true), (10, bo true), (11, i6 n), (12, i6 (P i0)), (13, i6 b), (14, i6 (w6 (P i0 * b))), (15, bo true), (16, bo true), (17, i6 (↑i0 : Int)), (18, i6 (w6 ((↑i0 : Int) + 1))), (19, i6 (P i0)), (20, i6 b), (21, i6 (w6 (P i0 * b)))] []
def lpS2 (b : Int) (n : Int) (P : Nat → Int) (i0 : Nat) : St :=
  stOf 23 [17, 18, 19, 20, 21] [(0, i6 b), (1, i6 n), (4, i6 0), (5, i6 (P i0)), (6, i6 (↑i0 : Int)), (7, i6 b), (8, i6 (↑i0 : Int)), (9, bo true), (10, bo true), (11, i6 n), (12, i6 (P i0)), (13, i6 b), (14, i6 (w6 (P i0 * b))), (15, bo false), (16, bo false)] []
def lpS3 (b : Int) (n : Int) : St :=
  stOf 23 [] [(0, i6 b), (1, i6 n), (4, i6 0), (5, i6 b), (6, i6 0), (7, i6 b)] []
def lpS4 (b : Int) (n : Int) (P : Nat → Int) (i0 : Nat) : St :=
  stOf 23 [17, 18, 19, 20, 21] [(0, i6 b), (1, i6 n), (4, i6 0), (5, i6 (P i0)), (6, i6 (↑i0 : Int)), (7, i6 b), (8, i6 (↑i0 : Int)), (9, bo false), (10, bo false), (16, bo false)] []
theorem lpw_r0_tt (b : Int) (n : Int) (P : Nat → Int) (X : Ext) (call : Caller) (lf : Nat) (i0 : Nat)
  (h0 : decide ((↑i0 : Int) < 2) = true)
  (h1 : decide (n ≥ w6 (P i0 * b)) = true) : vexec Tryd.prog X call lf 0 noFg (loopN Tryd.f23 0) (lpS0 b n P i0) = some (Ex.normal, (lpS1 b n P i0)) :=
  around_sound (ans := [(2, Ans.b true), (13, Ans.b true)]) (by kernel_rfl) (And.intro h0 (And.intro h1 trivial))
theorem lpw_r0_tf (b : Int) (n : Int) (P : Nat → Int) (X : Ext) (call : Caller) (lf : Nat) (i0 : Nat)
  (h0 : decide ((↑i0 : Int) < 2) = true)
  (h1 : decide (n ≥ w6 (P i0 * b)) = false) : vexec Tryd.prog X call lf 0 noFg (loopN Tryd.f23 0) (lpS0 b n P i0) = some (Ex.exit 0, (lpS2 b n P i0)) :=
  around_sound (ans := [(2, Ans.b true), (13, Ans.b false)]) (by kernel_rfl) (And.intro h0 (And.intro h1 trivial))
theorem lpw_pltf (b : Int) (n : Int) (P : Nat → Int) (X : Ext) (call : Caller) (lf : Nat) (i0 : Nat)
  (h0 : vexec Tryd.prog X call lf 0 noFg (Code.loop (loopN Tryd.f23 0)) (lpS3 b n) = some (Ex.exit 0, (lpS2 b n P i0))) : vbody Tryd.prog X call lf noFg Tryd.f23 (codeOf Tryd.f23) [i6 b, i6 n] [] 0 = some (i6 (P i0), []) :=
  along_sound (ans := [(7, Ans.l (Ex.exit 0) (lpS2 b n P i0))]) (by kernel_rfl) (And.intro h0 trivial)
theorem lpw_r0_f (b : Int) (n : Int) (P : Nat → Int) (X : Ext) (call : Caller) (lf : Nat) (i0 : Nat)
  (h0 : decide ((↑i0 : Int) < 2) = false) : vexec Tryd.prog X call lf 0 noFg (loopN Tryd.f23 0) (lpS0 b n P i0) = some (Ex.exit 0, (lpS4 b n P i0)) :=
  around_sound (ans := [(2, Ans.b false)]) (by kernel_rfl) (And.intro h0 trivial)
theorem lpw_plf (b : Int) (n : Int) (P : Nat → Int) (X : Ext) (call : Caller) (lf : Nat) (i0 : Nat)
  (h0 : vexec Tryd.prog X call lf 0 noFg (Code.loop (loopN Tryd.f23 0)) (lpS3 b n) = some (Ex.exit 0, (lpS4 b n P i0))) : vbody Tryd.prog X call lf noFg Tryd.f23 (codeOf Tryd.f23) [i6 b, i6 n] [] 0 = some (i6 (P i0), []) :=
  along_sound (ans := [(7, Ans.l (Ex.exit 0) (lpS4 b n P i0))]) (by kernel_rfl) (And.intro h0 trivial)

/-! ### plain facts -/
/-- The words of a head. -/
def headO (s : NSys) (k : Nat) (q : Int) (w : ByteArray) : Option (List ByteArray) := if q != 1 || !s.om then (match sayO s k q with | some a => some (a ++ [w]) | none => none) else some [w]
def tailO (s : NSys) (k : Nat) (r : Int) (head : List ByteArray) : Option (List ByteArray) :=
  if r == 0 then some head else match sayO s k r with
    | none => none
    | some a => some (if s.sf then a ++ (joinWords s ++ head) else head ++ (joinWords s ++ a))
def lessO (s : NSys) (k : Nat) (x y : Int) : Option (List ByteArray) := match sayO s k x, sayO s k y with
  | some a, some b => some (a ++ s.le :: b)
  | _, _ => none
theorem sayO_succ (s : NSys) (k : Nat) (n : Int) : sayO s (k + 1) n = if n < s.base then (if 0 ≤ n then (match s.digits[n.toNat]? with | some w => some [w] | none => none) else none)
    else if lessL s (w6 (n.tdiv (s.base ^ (powK s n + 1)))) (s.base ^ (powK s n + 1)) (n.tmod (s.base ^ (powK s n + 1))) then lessO s k (w6 (s.base ^ (powK s n + 1) - n.tmod (s.base ^ (powK s n + 1)))) (w6 (w6 (w6 (n.tdiv (s.base ^ (powK s n + 1))) + 1) * s.base ^ (powK s n + 1)))
    else match s.powers[powK s n]? with
      | none => none
      | some w => match headO s k (w6 (n.tdiv (s.base ^ (powK s n + 1)))) w with
        | none => none
        | some head => tailO s k (n.tmod (s.base ^ (powK s n + 1))) head := by
  rw [sayO]
  unfold headO tailO lessO
  rfl
theorem headO_mono {s : NSys} {k : Nat} {q : Int} {w : ByteArray} {h : List ByteArray} (hm : ∀ n l, sayO s k n = some l → sayO s (k + 1) n = some l) (hh : headO s k q w = some h) : headO s (k + 1) q w = some h := by
  unfold headO at hh ⊢
  split at hh
  · rename_i hq
    rw [if_pos hq]
    split at hh
    · rename_i a ha
      rw [hm _ _ ha]
      exact hh
    · cases hh
  · rename_i hq
    rw [if_neg hq]
    exact hh
theorem tailO_mono {s : NSys} {k : Nat} {r : Int} {h l : List ByteArray} (hm : ∀ n l, sayO s k n = some l → sayO s (k + 1) n = some l) (hh : tailO s k r h = some l) : tailO s (k + 1) r h = some l := by
  unfold tailO at hh ⊢
  split at hh
  · rename_i hr
    rw [if_pos hr]
    exact hh
  · rename_i hr
    rw [if_neg hr]
    split at hh
    · cases hh
    · rename_i a ha
      rw [hm _ _ ha]
      exact hh
theorem lessO_mono {s : NSys} {k : Nat} {x y : Int} {l : List ByteArray} (hm : ∀ n l, sayO s k n = some l → sayO s (k + 1) n = some l) (hh : lessO s k x y = some l) : lessO s (k + 1) x y = some l := by
  unfold lessO at hh ⊢
  split at hh
  · rename_i a b ha hb
    rw [hm _ _ ha, hm _ _ hb]
    exact hh
  · cases hh
theorem sayO_mono {s : NSys} : ∀ (k : Nat) {n : Int} {l : List ByteArray}, sayO s k n = some l → sayO s (k + 1) n = some l
  | 0, _, _, h => by simp [sayO] at h
  | k + 1, n, l, h => by
    have hm : ∀ n l, sayO s k n = some l → sayO s (k + 1) n = some l := fun n l h => sayO_mono k h
    rw [sayO_succ] at h ⊢
    split at h
    · rename_i hn
      rw [if_pos hn]
      exact h
    · rename_i hn
      rw [if_neg hn]
      split at h
      · rename_i hl
        rw [if_pos hl]
        exact lessO_mono hm h
      · rename_i hl
        rw [if_neg hl]
        split at h
        · cases h
        · rename_i w hw
          split at h
          · cases h
          · rename_i head hh
            rw [headO_mono hm hh]
            exact tailO_mono hm h
theorem mult_facts {s : NSys} (hg : Good s) {q : Int} {i : Nat} (hi : i ≤ 2) (hq1 : 1 ≤ q) (hq2 : q < s.base) : powK s (q * s.base ^ (i + 1)) = i ∧ w6 ((q * s.base ^ (i + 1)).tdiv (s.base ^ (i + 1))) = q ∧ (q * s.base ^ (i + 1)).tmod (s.base ^ (i + 1)) = 0 ∧ ¬ q * s.base ^ (i + 1) < s.base := by
  obtain ⟨b1, b2⟩ := base_pow hg hi
  have hbase := hg.base
  have hp0 : 0 < s.base ^ (i + 1) := by omega
  have hlo : s.base ^ (i + 1) ≤ q * s.base ^ (i + 1) := by
    have : 1 * s.base ^ (i + 1) ≤ q * s.base ^ (i + 1) := Int.mul_le_mul_of_nonneg_right hq1 (by omega)
    omega
  have hup : q * s.base ^ (i + 1) < s.base ^ (i + 2) := by
    have : s.base ^ (i + 2) = s.base * s.base ^ (i + 1) := by rw [Int.pow_succ, Int.mul_comm]
    rw [this]
    exact Int.mul_lt_mul_of_pos_right hq2 hp0
  refine ⟨?_, ?_, Int.mul_tmod_left _ _, by omega⟩
  · have h : i = 0 ∨ i = 1 ∨ i = 2 := by omega
    generalize q * s.base ^ (i + 1) = n at *
    unfold powK
    rcases h with rfl | rfl | rfl
    · rw [if_pos hup]
    · rw [if_neg (by simpa using hlo), if_pos hup]
    · have : ¬ s.base ^ 2 > n := by
        have h23 : s.base ^ 2 ≤ s.base ^ 3 := by rcases hbase with e | e <;> rw [e] <;> decide
        have : s.base ^ 3 ≤ n := hlo
        omega
      rw [if_neg this, if_neg (by simpa using hlo)]
  · rw [Int.mul_tdiv_cancel _ (by omega)]
    exact w6_id (by omega) (by omega)
theorem less0 {s : NSys} (hg : Good s) {q : Int} {i : Nat} (hi : i ≤ 2) (hq1 : 0 ≤ q) (hq2 : q < s.base) : lessL s q (s.base ^ (i + 1)) 0 = false := by
  obtain ⟨b1, b2⟩ := base_pow hg hi
  have hbase := hg.base
  rw [Bool.eq_false_iff]
  intro h
  have := (lessL_iff hg (by omega) (by omega) (by omega) (by omega)).1 h
  have := hg.sub1
  omega
theorem say_mult_eq {s : NSys} (hg : Good s) {q : Int} {i k : Nat} (hi : i ≤ 2) (hq1 : 1 ≤ q) (hq2 : q < s.base) {w : ByteArray} (hw : s.powers[i]? = some w) : sayO s (k + 1) (q * s.base ^ (i + 1)) = headO s k q w := by
  obtain ⟨h1, h2, h3, h4⟩ := mult_facts hg hi hq1 hq2
  rw [sayO_succ, if_neg h4, h1, h2, h3, less0 hg hi (by omega) hq2, hw]
  simp only [Bool.false_eq_true, if_false]
  cases headO s k q w with
  | none => rfl
  | some h => rfl
theorem head_some {s : NSys} (hg : Good s) {q : Int} {k : Nat} (hq1 : 0 ≤ q) (hq2 : q < s.base) (w : ByteArray) : ∃ h, headO s (k + 1) q w = some h ∧ h ≠ [] := by
  obtain ⟨a, ha⟩ := say_digit hg k hq1 hq2
  unfold headO
  split
  · rw [ha]
    exact ⟨_, rfl, by simp⟩
  · exact ⟨_, rfl, by simp⟩
/-- A number that is no multiple, without subtraction. -/
theorem parts_words {s : NSys} (hg : Good s) {n : Int} (hb : s.base ≤ n) (h9 : n ≤ 9999) (hl : lessL s (w6 (n.tdiv (s.base ^ (powK s n + 1)))) (s.base ^ (powK s n + 1)) (n.tmod (s.base ^ (powK s n + 1))) = false) (hr : n.tmod (s.base ^ (powK s n + 1)) ≠ 0) :
    ∃ h t, sayO s 6 (n - n.tmod (s.base ^ (powK s n + 1))) = some h ∧ sayO s 6 (n.tmod (s.base ^ (powK s n + 1))) = some t ∧ sayO s 6 n = some (if s.sf then t ++ (joinWords s ++ h) else h ++ (joinWords s ++ t)) ∧ h ≠ [] ∧ t ≠ [] := by
  have hp := parts hg hb h9
  have hK := powK_le s n
  obtain ⟨w, hw⟩ := pow_at hg hK
  obtain ⟨b1, b2⟩ := base_pow hg hK
  have hbase := hg.base
  have e : n - n.tmod (s.base ^ (powK s n + 1)) = w6 (n.tdiv (s.base ^ (powK s n + 1))) * s.base ^ (powK s n + 1) := by have := hp.eq; omega
  have hq1 := hp.q1
  have hq2 := hp.q2
  have hr0 := hp.r0
  have hr1 := hp.r1
  obtain ⟨h, hh, hh0⟩ := head_some hg (k := 4) (q := w6 (n.tdiv (s.base ^ (powK s n + 1)))) (by omega) hq2 w
  obtain ⟨t, ht⟩ : ∃ t, sayO s 5 (n.tmod (s.base ^ (powK s n + 1))) = some t := by
    have h4 := (powK_spec hg hb h9)
    exact say_some hg 2 0 hr0 (by omega) (by
      have h0 := pow_mono hg (show powK s n + 1 ≤ 3 by omega)
      have : s.base ^ (2 + 1) = s.base ^ 3 := rfl
      omega)
  refine ⟨h, t, ?_, sayO_mono 5 ht, ?_, hh0, (sayO_len s 5 _ t ht).1⟩
  · rw [e, say_mult_eq hg hK hq1 hq2 hw]
    exact hh
  · rw [sayO_succ, if_neg (by omega), hl, hw]
    simp only [Bool.false_eq_true, if_false]
    rw [hh]
    simp only [tailO]
    rw [if_neg (by simpa using hr), ht]
/-! ### the law's power -/
def pow23S : List AV → Option AV
  | [.int .i64 b, .int .i64 n] => if b = 10 ∨ b = 20 then some (i6 (b ^ (powK ⟨b, [], [], false, ByteArray.mk #[], 0, ByteArray.mk #[], false⟩ n + 1))) else none
  | _ => none
def T14 : Vm.Spec := addS T13 23 pow23S
abbrev D23 : List Nat := [18, 17, 21, 20, 19, 16, 15, 14, 13, 12, 11, 10, 9, 8]
theorem dead23 : (deadC (loopN Tryd.f23 0) ([], [])).2 = D23 := by kernel_rfl
theorem pow23_run {X : Ext} {call : Caller} {lf : Nat} (hlf : 2 < lf) {s : NSys} (hb : s.base = 10 ∨ s.base = 20) (n : Int) : vbody Tryd.prog X call lf noFg Tryd.f23 (codeOf Tryd.f23) [i6 s.base, i6 n] [] 0 = some (i6 (s.base ^ (powK s n + 1)), []) := by
  have start : forget D23 (lpS3 s.base n) = lpS0 s.base n (rwP s) 0 := by
    have e : rwP s 0 = s.base := by unfold rwP; rw [Nat.zero_add]; exact Int.pow_one _
    unfold lpS3 lpS0
    rw [e]
    show _ = _
    kernel_rfl
  have round : ∀ i, i < 2 → ¬ s.base ^ (i + 2) > n → ∃ S1, vexec Tryd.prog X call lf 0 noFg (loopN Tryd.f23 0) (lpS0 s.base n (rwP s) i) = some (.normal, S1) ∧ forget D23 S1 = lpS0 s.base n (rwP s) (i + 1) := by
    intro i hi hn
    have e2 : w6 (rwP s i * s.base) = rwP s (i + 1) := pow_mul hb hi
    refine ⟨_, lpw_r0_tt s.base n (rwP s) X call lf i (by simp; omega) (by rw [e2]; exact decide_eq_true (by show rwP s (i + 1) ≤ n; unfold rwP; exact Int.not_lt.1 hn)), ?_⟩
    have e : w6 ((i : Int) + 1) = ((i + 1 : Nat) : Int) := wrap_small (by omega)
    unfold lpS1
    rw [e, e2]
    unfold lpS0
    show _ = _
    kernel_rfl
  unfold powK
  by_cases h2 : s.base ^ 2 > n
  · rw [if_pos h2]
    have e2 : w6 (rwP s 0 * s.base) = s.base ^ 2 := pow_mul hb (by omega)
    exact lpw_pltf s.base n (rwP s) X call lf 0 (loop_run (P := Tryd.prog) (X := X) (call := call) (lf := lf) (ro := 0) (fg := noFg) dead23 (lpS0 s.base n (rwP s)) 0 (by omega) start (fun i hi => absurd hi (by omega)) (lpw_r0_tf s.base n (rwP s) X call lf 0 (by simp) (by rw [e2]; exact decide_eq_false (by omega))) (by simp))
  · rw [if_neg h2]
    by_cases h3 : s.base ^ 3 > n
    · rw [if_pos h3]
      have e2 : w6 (rwP s 1 * s.base) = s.base ^ 3 := pow_mul hb (by omega)
      exact lpw_pltf s.base n (rwP s) X call lf 1 (loop_run (P := Tryd.prog) (X := X) (call := call) (lf := lf) (ro := 0) (fg := noFg) dead23 (lpS0 s.base n (rwP s)) 1 (by omega) start (fun i hi => by
        have : i = 0 := by omega
        subst this
        exact round 0 (by omega) h2) (lpw_r0_tf s.base n (rwP s) X call lf 1 (by simp) (by rw [e2]; exact decide_eq_false (by omega))) (by simp))
    · rw [if_neg h3]
      exact lpw_plf s.base n (rwP s) X call lf 2 (loop_run (P := Tryd.prog) (X := X) (call := call) (lf := lf) (ro := 0) (fg := noFg) dead23 (lpS0 s.base n (rwP s)) 2 (by omega) start (fun i hi => by
        have : i = 0 ∨ i = 1 := by omega
        rcases this with rfl | rfl
        · exact round 0 (by omega) h2
        · exact round 1 (by omega) h3) (lpw_r0_f s.base n (rwP s) X call lf 2 (by simp)) (by simp))
theorem T14_ok [Fixed] (hX : ∀ l, ExtOk Tryd.prog (X15 l)) : SpecOk Tryd.prog T14 := by
  refine (T13_ok hX).add ?_
  intro vs r h
  unfold pow23S at h
  split at h
  · split at h
    · rename_i b n hb
      simp only [Option.some.injEq] at h
      subst h
      exact run_at (hX []) (T13_ok hX) rfl Tryd.func23 rfl rfl (pow23_run (s := ⟨b, [], [], false, ByteArray.mk #[], 0, ByteArray.mk #[], false⟩) (lf := 3) (by omega) hb n)
    · cases h
  · cases h
/-! ### calls over any specification that knows T13's -/
structure Has (T : Vm.Spec) : Prop where
  at_ : ∀ f vs r, T13 f vs = some r → T f vs = some r
theorem has14 : Has T14 := ⟨fun f vs r h => by
  unfold T14 addS
  split
  · rename_i e
    subst e
    have : T13 23 vs = none := rfl
    rw [this] at h
    cases h
  · exact h⟩
theorem callv_mono {T U : Vm.Spec} (hT : ∀ f vs r, T f vs = some r → U f vs = some r) {f : FuncId} {vs : List AV} {r : AV} {dr : Bool} {σ : List Ob} {ro : Nat} {l : List Nat} (hl : AV.ltAll 0 vs = true) (hf : Nat.beq f 47 = false) (h : callv (X15 l) (callerOf T) dr f vs σ ro = some (r, σ)) :
    callv (X15 l) (callerOf U) dr f vs σ ro = some (r, σ) := by
  have h1 : (X15 l).pureFn f = none := by
    simp only [X15]
    rw [if_neg (fun e => by rw [e] at hf; cases hf)]
  have h2 : (X15 l).stFn f = none := rfl
  unfold callv at h ⊢
  rw [h1, h2] at h ⊢
  simp only [hl, if_true, callerOf] at h ⊢
  cases ht : T f vs with
  | none => rw [ht] at h; cases h
  | some x => rw [hT f vs x ht]; rw [ht] at h; exact h
/-- A call with a row of one's own among the arguments. -/
theorem call_thaw {T : Vm.Spec} {l : List Nat} {f : FuncId} {vs vs' : List AV} {r r' : AV} {σ σ' : List Ob} {ro : Nat} (hf : Nat.beq f 47 = false) (ha : memN f l = false) (h0 : AV.ltAll 0 vs = false) (ht : AV.thawAll σ vs = some vs') (hl : AV.ltAll 0 vs' = true) (hz : freezeIds ro σ (AV.ownsAll vs) = some σ') (hc : T f vs' = some r) (hp : r.pure = true) (hu : unfr r = r') :
    callv (X15 l) (callerOf T) false f vs σ ro = some (r', σ') := by
  have h1 : (X15 l).pureFn f = none := by
    simp only [X15]
    rw [if_neg (fun e => by rw [e] at hf; cases hf)]
  have h2 : (X15 l).stFn f = none := rfl
  have h3 : (X15 l).adopt f = false := ha
  unfold callv
  rw [h1, h2]
  simp only [h0, ht, hl, hz, callerOf, hc, hp, h3, hu]
  simp
theorem grow_new {σ : List Ob} {l : List ByteArray} (h0 : l ≠ []) (hb : l.length * 17 ≤ 140737488355328) :
    appendv Tryd.prog 22 σ 0 (.list .clip 0 1 []) (lst l) = some (.own σ.length l.length, σ ++ [.arr l.length 1 (l.map .str)]) := by
  have hm : l.length ≠ 0 := fun e => h0 (List.eq_nil_of_length_eq_zero e)
  unfold appendv
  rw [Tryd.underlying22]
  simp only [cells9, appended_isS (is_lst l), zero9, bytes9]
  rw [if_pos ⟨owns_strs l, rfl⟩]
  simp only [Nat.zero_add, List.nil_append]
  rw [if_pos ⟨.inr trivial, .inl trivial, rfl, hb⟩, if_neg hm]
theorem grow_more {c : Ob} {l m : List ByteArray} {p : AV} (hp : IsS p m) (h0 : m ≠ []) (hb : (l.length + m.length) * 17 ≤ 140737488355328) :
    appendv Tryd.prog 22 [c, .arr l.length 1 (l.map .str)] 0 (.own 1 l.length) p = some (.own 1 (l ++ m).length, [c, .arr (l ++ m).length 1 ((l ++ m).map .str)]) := by
  have hm : m.length ≠ 0 := fun e => h0 (List.eq_nil_of_length_eq_zero e)
  have := grow_own (P := Tryd.prog) (ro := 0) (id := 1) (n := l.length) (σ := [c, Ob.arr l.length 1 (l.map .str)]) (cs := l.map .str) (ys := m.map .str) (m := m.length) (x := p) Tryd.underlying22 zero9 (by rw [cells9]; rfl) (by rw [cells9]; rfl) (Nat.zero_le _)
    (by rw [cells9, appended_isS hp]) (owns_strs _) hm (by rw [bytes9]; omega)
  rw [this, cells9]
  simp [setOb]
/-- Texts, called with a row of one's own. -/
theorem texts_own {T : Vm.Spec} (hT : ∀ vs, T 17 vs = textsS vs) {c : Ob} {l m : List ByteArray} (hl : l.length ≤ 140737488355328) :
    callv (X15 []) (callerOf T) false 17 [lst l, .own 1 m.length] [c, .arr m.length 1 (m.map .str)] 0 = some (bo (textsL l m), [c, .fro m.length 1 (m.map .str)]) := by
  refine call_thaw (vs' := [lst l, lst m]) (r := bo (textsL l m)) rfl rfl ?_ ?_ (lt_two (lt_lst l) (lt_lst m)) ?_ ?_ rfl rfl
  · simp [AV.ltAll, AV.lt, lt_strs]
    decide
  · simp [AV.thawAll, AV.thaw, thaw_strs]
  · simp [AV.ownsAll, AV.owns, owns_strs, freezeIds, freezeId, setOb]
  · rw [hT]
    simp only [textsS, isSO_of (is_lst l), isSO_of (is_lst m), hl, if_true]
end Go.Proofs.Num
end
/- Numeral: the law of parts. -/
section
open Go Go.Vm Go.Proofs
namespace Go.Proofs.Num
theorem lpa_p (s : NSys) (n : Int) (X : Ext) (call : Caller) (lf : Nat)
  (h0 : callv X call false 13 [AV.agg (sysC (z0 s))] [Ob.cells (sysC (z0 s))] 0 = some (bo false, [Ob.cells (sysC (z0 s))]))
  (h1 : callv X call false 15 [] [Ob.cells (sysC (z0 s))] 0 = some (bo true, [Ob.cells (sysC (z0 s))])) : vbody Tryd.prog X call lf noFg Tryd.f6 (codeOf Tryd.f6) [AV.agg (sysC s), AV.int IntKind.u16 n] [] 0 = some (bo true, [Ob.cells (sysC (z0 s))]) :=
  along_sound (ans := [(15, Ans.v (bo false)), (30, Ans.v (bo true))]) (by kernel_rfl) (And.intro h0 (And.intro h1 trivial))
theorem lpb_p (s : NSys) (n : Int) (X : Ext) (call : Caller) (lf : Nat)
  (h0 : callv X call false 13 [AV.agg (sysC (z0 s))] [Ob.cells (sysC (z0 s))] 0 = some (bo true, [Ob.cells (sysC (z0 s))]))
  (h1 : callv X call false 22 [AV.agg (sysC (z0 s))] [Ob.cells (sysC (z0 s))] 0 = some (bo false, [Ob.cells (sysC (z0 s))]))
  (h2 : callv X call false 15 [] [Ob.cells (sysC (z0 s))] 0 = some (bo true, [Ob.cells (sysC (z0 s))])) : vbody Tryd.prog X call lf noFg Tryd.f6 (codeOf Tryd.f6) [AV.agg (sysC s), AV.int IntKind.u16 n] [] 0 = some (bo true, [Ob.cells (sysC (z0 s))]) :=
  along_sound (ans := [(15, Ans.v (bo true)), (21, Ans.v (bo false)), (33, Ans.v (bo true))]) (by kernel_rfl) (And.intro h0 (And.intro h1 (And.intro h2 trivial)))
theorem lpc_pt (s : NSys) (n : Int) (X : Ext) (call : Caller) (lf : Nat)
  (h0 : callv X call false 13 [AV.agg (sysC (z0 s))] [Ob.cells (sysC (z0 s))] 0 = some (bo true, [Ob.cells (sysC (z0 s))]))
  (h1 : callv X call false 22 [AV.agg (sysC (z0 s))] [Ob.cells (sysC (z0 s))] 0 = some (bo true, [Ob.cells (sysC (z0 s))]))
  (h2 : decide (Int.tmod (w6 n) 10000 < NSys.base s) = true)
  (h3 : callv X call false 15 [] [Ob.cells (sysC (z0 s))] 0 = some (bo true, [Ob.cells (sysC (z0 s))])) : vbody Tryd.prog X call lf noFg Tryd.f6 (codeOf Tryd.f6) [AV.agg (sysC s), AV.int IntKind.u16 n] [] 0 = some (bo true, [Ob.cells (sysC (z0 s))]) :=
  along_sound (ans := [(15, Ans.v (bo true)), (21, Ans.v (bo true)), (33, Ans.b true), (37, Ans.v (bo true))]) (by kernel_rfl) (And.intro h0 (And.intro h1 (And.intro h2 (And.intro h3 trivial))))
theorem lpc_pft (s : NSys) (n : Int) (p : Int) (r : Int) (X : Ext) (call : Caller) (lf : Nat)
  (h0 : callv X call false 13 [AV.agg (sysC (z0 s))] [Ob.cells (sysC (z0 s))] 0 = some (bo true, [Ob.cells (sysC (z0 s))]))
  (h1 : callv X call false 22 [AV.agg (sysC (z0 s))] [Ob.cells (sysC (z0 s))] 0 = some (bo true, [Ob.cells (sysC (z0 s))]))
  (h2 : decide (Int.tmod (w6 n) 10000 < NSys.base s) = false)
  (h3 : callv X call false 23 [i6 (NSys.base s), i6 (Int.tmod (w6 n) 10000)] [Ob.cells (sysC (z0 s))] 0 = some (i6 p, [Ob.cells (sysC (z0 s))]))
  (h4 : keep [Ob.cells (sysC (z0 s))] (binv Tryd.prog BinOp.rem 3 (i6 (Int.tmod (w6 n) 10000)) (i6 p)) = some (i6 r, [Ob.cells (sysC (z0 s))]))
  (h5 : (r == 0) = true)
  (h6 : callv X call false 15 [] [Ob.cells (sysC (z0 s))] 0 = some (bo true, [Ob.cells (sysC (z0 s))])) : vbody Tryd.prog X call lf noFg Tryd.f6 (codeOf Tryd.f6) [AV.agg (sysC s), AV.int IntKind.u16 n] [] 0 = some (bo true, [Ob.cells (sysC (z0 s))]) :=
  along_sound (ans := [(15, Ans.v (bo true)), (21, Ans.v (bo true)), (33, Ans.b false), (40, Ans.v (i6 p)), (45, Ans.v (i6 r)), (46, Ans.b true), (49, Ans.v (bo true))]) (by kernel_rfl) (And.intro h0 (And.intro h1 (And.intro h2 (And.intro h3 (And.intro h4 (And.intro h5 (And.intro h6 trivial)))))))
theorem lpc_pfftt (s : NSys) (n : Int) (p : Int) (r : Int) (h : List ByteArray) (t : List ByteArray) (a : List ByteArray) (x : List ByteArray) (y : List ByteArray) (X : Ext) (call : Caller) (lf : Nat)
  (h0 : callv X call false 13 [AV.agg (sysC (z0 s))] [Ob.cells (sysC (z0 s))] 0 = some (bo true, [Ob.cells (sysC (z0 s))]))
  (h1 : callv X call false 22 [AV.agg (sysC (z0 s))] [Ob.cells (sysC (z0 s))] 0 = some (bo true, [Ob.cells (sysC (z0 s))]))
  (h2 : decide (Int.tmod (w6 n) 10000 < NSys.base s) = false)
  (h3 : callv X call false 23 [i6 (NSys.base s), i6 (Int.tmod (w6 n) 10000)] [Ob.cells (sysC (z0 s))] 0 = some (i6 p, [Ob.cells (sysC (z0 s))]))
  (h4 : keep [Ob.cells (sysC (z0 s))] (binv Tryd.prog BinOp.rem 3 (i6 (Int.tmod (w6 n) 10000)) (i6 p)) = some (i6 r, [Ob.cells (sysC (z0 s))]))
  (h5 : (r == 0) = false)
  (h6 : keep [Ob.cells (sysC (z0 s))] (binv Tryd.prog BinOp.rem 3 (i6 (Int.tmod (w6 n) 10000)) (i6 p)) = some (i6 r, [Ob.cells (sysC (z0 s))]))
  (h7 : callv X call true 16 [AV.agg (sysC (z0 s)), i6 (w6 (Int.tmod (w6 n) 10000 - r))] [Ob.cells (sysC (z0 s))] 0 = some (AV.tup [lro (List.length h) 1 (List.map st h), i6 0], [Ob.cells (sysC (z0 s))]))
  (h8 : keep [Ob.cells (sysC (z0 s))] (binv Tryd.prog BinOp.rem 3 (i6 (Int.tmod (w6 n) 10000)) (i6 p)) = some (i6 r, [Ob.cells (sysC (z0 s))]))
  (h9 : callv X call true 16 [AV.agg (sysC (z0 s)), i6 r] [Ob.cells (sysC (z0 s))] 0 = some (AV.tup [lro (List.length t) 1 (List.map st t), i6 0], [Ob.cells (sysC (z0 s))]))
  (h10 : callv X call false 16 [AV.agg (sysC (z0 s)), i6 (Int.tmod (w6 n) 10000)] [Ob.cells (sysC (z0 s))] 0 = some (AV.tup [lro (List.length a) 1 (List.map st a), i6 0], [Ob.cells (sysC (z0 s))]))
  (h11 : NSys.sf s = true)
  (h12 : appendv Tryd.prog 22 [Ob.cells (sysC (z0 s))] 0 (AV.list LK.clip 0 1 []) (lro (List.length t) 1 (List.map st t)) = some (AV.own 1 (List.length x), [Ob.cells (sysC (z0 s)), Ob.arr (List.length x) 1 (List.map st x)]))
  (h13 : (!empB (NSys.jo (z0 s))) = true)
  (h14 : appendv Tryd.prog 22 [Ob.cells (sysC (z0 s)), Ob.arr (List.length x) 1 (List.map st x)] 0 (AV.own 1 (List.length x)) (AV.list LK.clip 1 1 [st (NSys.jo (z0 s))]) = some (AV.own 1 (List.length x + 1), [Ob.cells (sysC (z0 s)), Ob.arr (List.length x + 1) 1 (List.map st (x ++ [NSys.jo s]))]))
  (h15 : appendv Tryd.prog 22 [Ob.cells (sysC (z0 s)), Ob.arr (List.length x + 1) 1 (List.map st (x ++ [NSys.jo s]))] 0 (AV.own 1 (List.length x + 1)) (lro (List.length h) 1 (List.map st h)) = some (AV.own 1 (List.length y), [Ob.cells (sysC (z0 s)), Ob.arr (List.length y) 1 (List.map st y)]))
  (h16 : callv X call false 15 [] [Ob.cells (sysC (z0 s)), Ob.arr (List.length y) 1 (List.map st y)] 0 = some (bo true, [Ob.cells (sysC (z0 s)), Ob.arr (List.length y) 1 (List.map st y)]))
  (h17 : callv X call false 17 [lro (List.length a) 1 (List.map st a), AV.own 1 (List.length y)] [Ob.cells (sysC (z0 s)), Ob.arr (List.length y) 1 (List.map st y)] 0 = some (bo true, [Ob.cells (sysC (z0 s)), Ob.fro (List.length y) 1 (List.map st y)])) : vbody Tryd.prog X call lf noFg Tryd.f6 (codeOf Tryd.f6) [AV.agg (sysC s), AV.int IntKind.u16 n] [] 0 = some (bo true, [Ob.cells (sysC (z0 s)), Ob.fro (List.length y) 1 (List.map st y)]) :=
  along_sound (ans := [(15, Ans.v (bo true)), (21, Ans.v (bo true)), (33, Ans.b false), (40, Ans.v (i6 p)), (45, Ans.v (i6 r)), (46, Ans.b false), (53, Ans.v (i6 r)), (55, Ans.v (AV.tup [lro (List.length h) 1 (List.map st h), i6 0])), (65, Ans.v (i6 r)), (66, Ans.v (AV.tup [lro (List.length t) 1 (List.map st t), i6 0])), (75, Ans.v (AV.tup [lro (List.length a) 1 (List.map st a), i6 0])), (83, Ans.b true), (93, Ans.c (AV.own 1 (List.length x)) [Ob.cells (sysC (z0 s)), Ob.arr (List.length x) 1 (List.map st x)]), (98, Ans.b true), (105, Ans.c (AV.own 1 (List.length x + 1)) [Ob.cells (sysC (z0 s)), Ob.arr (List.length x + 1) 1 (List.map st (x ++ [NSys.jo s]))]), (110, Ans.c (AV.own 1 (List.length y)) [Ob.cells (sysC (z0 s)), Ob.arr (List.length y) 1 (List.map st y)]), (113, Ans.v (bo true)), (138, Ans.c (bo true) [Ob.cells (sysC (z0 s)), Ob.fro (List.length y) 1 (List.map st y)])]) (by kernel_rfl) (And.intro h0 (And.intro h1 (And.intro h2 (And.intro h3 (And.intro h4 (And.intro h5 (And.intro h6 (And.intro h7 (And.intro h8 (And.intro h9 (And.intro h10 (And.intro h11 (And.intro h12 (And.intro h13 (And.intro h14 (And.intro h15 (And.intro h16 (And.intro h17 trivial))))))))))))))))))
theorem lpc_pfftf (s : NSys) (n : Int) (p : Int) (r : Int) (h : List ByteArray) (t : List ByteArray) (a : List ByteArray) (x : List ByteArray) (y : List ByteArray) (X : Ext) (call : Caller) (lf : Nat)
  (h0 : callv X call false 13 [AV.agg (sysC (z0 s))] [Ob.cells (sysC (z0 s))] 0 = some (bo true, [Ob.cells (sysC (z0 s))]))
  (h1 : callv X call false 22 [AV.agg (sysC (z0 s))] [Ob.cells (sysC (z0 s))] 0 = some (bo true, [Ob.cells (sysC (z0 s))]))
  (h2 : decide (Int.tmod (w6 n) 10000 < NSys.base s) = false)
  (h3 : callv X call false 23 [i6 (NSys.base s), i6 (Int.tmod (w6 n) 10000)] [Ob.cells (sysC (z0 s))] 0 = some (i6 p, [Ob.cells (sysC (z0 s))]))
  (h4 : keep [Ob.cells (sysC (z0 s))] (binv Tryd.prog BinOp.rem 3 (i6 (Int.tmod (w6 n) 10000)) (i6 p)) = some (i6 r, [Ob.cells (sysC (z0 s))]))
  (h5 : (r == 0) = false)
  (h6 : keep [Ob.cells (sysC (z0 s))] (binv Tryd.prog BinOp.rem 3 (i6 (Int.tmod (w6 n) 10000)) (i6 p)) = some (i6 r, [Ob.cells (sysC (z0 s))]))
  (h7 : callv X call true 16 [AV.agg (sysC (z0 s)), i6 (w6 (Int.tmod (w6 n) 10000 - r))] [Ob.cells (sysC (z0 s))] 0 = some (AV.tup [lro (List.length h) 1 (List.map st h), i6 0], [Ob.cells (sysC (z0 s))]))
  (h8 : keep [Ob.cells (sysC (z0 s))] (binv Tryd.prog BinOp.rem 3 (i6 (Int.tmod (w6 n) 10000)) (i6 p)) = some (i6 r, [Ob.cells (sysC (z0 s))]))
  (h9 : callv X call true 16 [AV.agg (sysC (z0 s)), i6 r] [Ob.cells (sysC (z0 s))] 0 = some (AV.tup [lro (List.length t) 1 (List.map st t), i6 0], [Ob.cells (sysC (z0 s))]))
  (h10 : callv X call false 16 [AV.agg (sysC (z0 s)), i6 (Int.tmod (w6 n) 10000)] [Ob.cells (sysC (z0 s))] 0 = some (AV.tup [lro (List.length a) 1 (List.map st a), i6 0], [Ob.cells (sysC (z0 s))]))
  (h11 : NSys.sf s = true)
  (h12 : appendv Tryd.prog 22 [Ob.cells (sysC (z0 s))] 0 (AV.list LK.clip 0 1 []) (lro (List.length t) 1 (List.map st t)) = some (AV.own 1 (List.length x), [Ob.cells (sysC (z0 s)), Ob.arr (List.length x) 1 (List.map st x)]))
  (h13 : (!empB (NSys.jo (z0 s))) = false)
  (h14 : appendv Tryd.prog 22 [Ob.cells (sysC (z0 s)), Ob.arr (List.length x) 1 (List.map st x)] 0 (AV.own 1 (List.length x)) (lro (List.length h) 1 (List.map st h)) = some (AV.own 1 (List.length y), [Ob.cells (sysC (z0 s)), Ob.arr (List.length y) 1 (List.map st y)]))
  (h15 : callv X call false 15 [] [Ob.cells (sysC (z0 s)), Ob.arr (List.length y) 1 (List.map st y)] 0 = some (bo true, [Ob.cells (sysC (z0 s)), Ob.arr (List.length y) 1 (List.map st y)]))
  (h16 : callv X call false 17 [lro (List.length a) 1 (List.map st a), AV.own 1 (List.length y)] [Ob.cells (sysC (z0 s)), Ob.arr (List.length y) 1 (List.map st y)] 0 = some (bo true, [Ob.cells (sysC (z0 s)), Ob.fro (List.length y) 1 (List.map st y)])) : vbody Tryd.prog X call lf noFg Tryd.f6 (codeOf Tryd.f6) [AV.agg (sysC s), AV.int IntKind.u16 n] [] 0 = some (bo true, [Ob.cells (sysC (z0 s)), Ob.fro (List.length y) 1 (List.map st y)]) :=
  along_sound (ans := [(15, Ans.v (bo true)), (21, Ans.v (bo true)), (33, Ans.b false), (40, Ans.v (i6 p)), (45, Ans.v (i6 r)), (46, Ans.b false), (53, Ans.v (i6 r)), (55, Ans.v (AV.tup [lro (List.length h) 1 (List.map st h), i6 0])), (65, Ans.v (i6 r)), (66, Ans.v (AV.tup [lro (List.length t) 1 (List.map st t), i6 0])), (75, Ans.v (AV.tup [lro (List.length a) 1 (List.map st a), i6 0])), (83, Ans.b true), (93, Ans.c (AV.own 1 (List.length x)) [Ob.cells (sysC (z0 s)), Ob.arr (List.length x) 1 (List.map st x)]), (98, Ans.b false), (103, Ans.c (AV.own 1 (List.length y)) [Ob.cells (sysC (z0 s)), Ob.arr (List.length y) 1 (List.map st y)]), (106, Ans.v (bo true)), (131, Ans.c (bo true) [Ob.cells (sysC (z0 s)), Ob.fro (List.length y) 1 (List.map st y)])]) (by kernel_rfl) (And.intro h0 (And.intro h1 (And.intro h2 (And.intro h3 (And.intro h4 (And.intro h5 (And.intro h6 (And.intro h7 (And.intro h8 (And.intro h9 (And.intro h10 (And.intro h11 (And.intro h12 (And.intro h13 (And.intro h14 (And.intro h15 (And.intro h16 trivial)))))))))))))))))
theorem lpc_pffft (s : NSys) (n : Int) (p : Int) (r : Int) (h : List ByteArray) (t : List ByteArray) (a : List ByteArray) (x : List ByteArray) (y : List ByteArray) (X : Ext) (call : Caller) (lf : Nat)
  (h0 : callv X call false 13 [AV.agg (sysC (z0 s))] [Ob.cells (sysC (z0 s))] 0 = some (bo true, [Ob.cells (sysC (z0 s))]))
  (h1 : callv X call false 22 [AV.agg (sysC (z0 s))] [Ob.cells (sysC (z0 s))] 0 = some (bo true, [Ob.cells (sysC (z0 s))]))
  (h2 : decide (Int.tmod (w6 n) 10000 < NSys.base s) = false)
  (h3 : callv X call false 23 [i6 (NSys.base s), i6 (Int.tmod (w6 n) 10000)] [Ob.cells (sysC (z0 s))] 0 = some (i6 p, [Ob.cells (sysC (z0 s))]))
  (h4 : keep [Ob.cells (sysC (z0 s))] (binv Tryd.prog BinOp.rem 3 (i6 (Int.tmod (w6 n) 10000)) (i6 p)) = some (i6 r, [Ob.cells (sysC (z0 s))]))
  (h5 : (r == 0) = false)
  (h6 : keep [Ob.cells (sysC (z0 s))] (binv Tryd.prog BinOp.rem 3 (i6 (Int.tmod (w6 n) 10000)) (i6 p)) = some (i6 r, [Ob.cells (sysC (z0 s))]))
  (h7 : callv X call true 16 [AV.agg (sysC (z0 s)), i6 (w6 (Int.tmod (w6 n) 10000 - r))] [Ob.cells (sysC (z0 s))] 0 = some (AV.tup [lro (List.length h) 1 (List.map st h), i6 0], [Ob.cells (sysC (z0 s))]))
  (h8 : keep [Ob.cells (sysC (z0 s))] (binv Tryd.prog BinOp.rem 3 (i6 (Int.tmod (w6 n) 10000)) (i6 p)) = some (i6 r, [Ob.cells (sysC (z0 s))]))
  (h9 : callv X call true 16 [AV.agg (sysC (z0 s)), i6 r] [Ob.cells (sysC (z0 s))] 0 = some (AV.tup [lro (List.length t) 1 (List.map st t), i6 0], [Ob.cells (sysC (z0 s))]))
  (h10 : callv X call false 16 [AV.agg (sysC (z0 s)), i6 (Int.tmod (w6 n) 10000)] [Ob.cells (sysC (z0 s))] 0 = some (AV.tup [lro (List.length a) 1 (List.map st a), i6 0], [Ob.cells (sysC (z0 s))]))
  (h11 : NSys.sf s = false)
  (h12 : appendv Tryd.prog 22 [Ob.cells (sysC (z0 s))] 0 (AV.list LK.clip 0 1 []) (lro (List.length h) 1 (List.map st h)) = some (AV.own 1 (List.length x), [Ob.cells (sysC (z0 s)), Ob.arr (List.length x) 1 (List.map st x)]))
  (h13 : (!empB (NSys.jo (z0 s))) = true)
  (h14 : appendv Tryd.prog 22 [Ob.cells (sysC (z0 s)), Ob.arr (List.length x) 1 (List.map st x)] 0 (AV.own 1 (List.length x)) (AV.list LK.clip 1 1 [st (NSys.jo (z0 s))]) = some (AV.own 1 (List.length x + 1), [Ob.cells (sysC (z0 s)), Ob.arr (List.length x + 1) 1 (List.map st (x ++ [NSys.jo s]))]))
  (h15 : appendv Tryd.prog 22 [Ob.cells (sysC (z0 s)), Ob.arr (List.length x + 1) 1 (List.map st (x ++ [NSys.jo s]))] 0 (AV.own 1 (List.length x + 1)) (lro (List.length t) 1 (List.map st t)) = some (AV.own 1 (List.length y), [Ob.cells (sysC (z0 s)), Ob.arr (List.length y) 1 (List.map st y)]))
  (h16 : callv X call false 15 [] [Ob.cells (sysC (z0 s)), Ob.arr (List.length y) 1 (List.map st y)] 0 = some (bo true, [Ob.cells (sysC (z0 s)), Ob.arr (List.length y) 1 (List.map st y)]))
  (h17 : callv X call false 17 [lro (List.length a) 1 (List.map st a), AV.own 1 (List.length y)] [Ob.cells (sysC (z0 s)), Ob.arr (List.length y) 1 (List.map st y)] 0 = some (bo true, [Ob.cells (sysC (z0 s)), Ob.fro (List.length y) 1 (List.map st y)])) : vbody Tryd.prog X call lf noFg Tryd.f6 (codeOf Tryd.f6) [AV.agg (sysC s), AV.int IntKind.u16 n] [] 0 = some (bo true, [Ob.cells (sysC (z0 s)), Ob.fro (List.length y) 1 (List.map st y)]) :=
  along_sound (ans := [(15, Ans.v (bo true)), (21, Ans.v (bo true)), (33, Ans.b false), (40, Ans.v (i6 p)), (45, Ans.v (i6 r)), (46, Ans.b false), (53, Ans.v (i6 r)), (55, Ans.v (AV.tup [lro (List.length h) 1 (List.map st h), i6 0])), (65, Ans.v (i6 r)), (66, Ans.v (AV.tup [lro (List.length t) 1 (List.map st t), i6 0])), (75, Ans.v (AV.tup [lro (List.length a) 1 (List.map st a), i6 0])), (83, Ans.b false), (88, Ans.c (AV.own 1 (List.length x)) [Ob.cells (sysC (z0 s)), Ob.arr (List.length x) 1 (List.map st x)]), (93, Ans.b true), (100, Ans.c (AV.own 1 (List.length x + 1)) [Ob.cells (sysC (z0 s)), Ob.arr (List.length x + 1) 1 (List.map st (x ++ [NSys.jo s]))]), (105, Ans.c (AV.own 1 (List.length y)) [Ob.cells (sysC (z0 s)), Ob.arr (List.length y) 1 (List.map st y)]), (108, Ans.v (bo true)), (133, Ans.c (bo true) [Ob.cells (sysC (z0 s)), Ob.fro (List.length y) 1 (List.map st y)])]) (by kernel_rfl) (And.intro h0 (And.intro h1 (And.intro h2 (And.intro h3 (And.intro h4 (And.intro h5 (And.intro h6 (And.intro h7 (And.intro h8 (And.intro h9 (And.intro h10 (And.intro h11 (And.intro h12 (And.intro h13 (And.intro h14 (And.intro h15 (And.intro h16 (And.intro h17 trivial))))))))))))))))))
theorem lpc_pffff (s : NSys) (n : Int) (p : Int) (r : Int) (h : List ByteArray) (t : List ByteArray) (a : List ByteArray) (x : List ByteArray) (y : List ByteArray) (X : Ext) (call : Caller) (lf : Nat)
  (h0 : callv X call false 13 [AV.agg (sysC (z0 s))] [Ob.cells (sysC (z0 s))] 0 = some (bo true, [Ob.cells (sysC (z0 s))]))
  (h1 : callv X call false 22 [AV.agg (sysC (z0 s))] [Ob.cells (sysC (z0 s))] 0 = some (bo true, [Ob.cells (sysC (z0 s))]))
  (h2 : decide (Int.tmod (w6 n) 10000 < NSys.base s) = false)
  (h3 : callv X call false 23 [i6 (NSys.base s), i6 (Int.tmod (w6 n) 10000)] [Ob.cells (sysC (z0 s))] 0 = some (i6 p, [Ob.cells (sysC (z0 s))]))
  (h4 : keep [Ob.cells (sysC (z0 s))] (binv Tryd.prog BinOp.rem 3 (i6 (Int.tmod (w6 n) 10000)) (i6 p)) = some (i6 r, [Ob.cells (sysC (z0 s))]))
  (h5 : (r == 0) = false)
  (h6 : keep [Ob.cells (sysC (z0 s))] (binv Tryd.prog BinOp.rem 3 (i6 (Int.tmod (w6 n) 10000)) (i6 p)) = some (i6 r, [Ob.cells (sysC (z0 s))]))
  (h7 : callv X call true 16 [AV.agg (sysC (z0 s)), i6 (w6 (Int.tmod (w6 n) 10000 - r))] [Ob.cells (sysC (z0 s))] 0 = some (AV.tup [lro (List.length h) 1 (List.map st h), i6 0], [Ob.cells (sysC (z0 s))]))
  (h8 : keep [Ob.cells (sysC (z0 s))] (binv Tryd.prog BinOp.rem 3 (i6 (Int.tmod (w6 n) 10000)) (i6 p)) = some (i6 r, [Ob.cells (sysC (z0 s))]))
  (h9 : callv X call true 16 [AV.agg (sysC (z0 s)), i6 r] [Ob.cells (sysC (z0 s))] 0 = some (AV.tup [lro (List.length t) 1 (List.map st t), i6 0], [Ob.cells (sysC (z0 s))]))
  (h10 : callv X call false 16 [AV.agg (sysC (z0 s)), i6 (Int.tmod (w6 n) 10000)] [Ob.cells (sysC (z0 s))] 0 = some (AV.tup [lro (List.length a) 1 (List.map st a), i6 0], [Ob.cells (sysC (z0 s))]))
  (h11 : NSys.sf s = false)
  (h12 : appendv Tryd.prog 22 [Ob.cells (sysC (z0 s))] 0 (AV.list LK.clip 0 1 []) (lro (List.length h) 1 (List.map st h)) = some (AV.own 1 (List.length x), [Ob.cells (sysC (z0 s)), Ob.arr (List.length x) 1 (List.map st x)]))
  (h13 : (!empB (NSys.jo (z0 s))) = false)
  (h14 : appendv Tryd.prog 22 [Ob.cells (sysC (z0 s)), Ob.arr (List.length x) 1 (List.map st x)] 0 (AV.own 1 (List.length x)) (lro (List.length t) 1 (List.map st t)) = some (AV.own 1 (List.length y), [Ob.cells (sysC (z0 s)), Ob.arr (List.length y) 1 (List.map st y)]))
  (h15 : callv X call false 15 [] [Ob.cells (sysC (z0 s)), Ob.arr (List.length y) 1 (List.map st y)] 0 = some (bo true, [Ob.cells (sysC (z0 s)), Ob.arr (List.length y) 1 (List.map st y)]))
  (h16 : callv X call false 17 [lro (List.length a) 1 (List.map st a), AV.own 1 (List.length y)] [Ob.cells (sysC (z0 s)), Ob.arr (List.length y) 1 (List.map st y)] 0 = some (bo true, [Ob.cells (sysC (z0 s)), Ob.fro (List.length y) 1 (List.map st y)])) : vbody Tryd.prog X call lf noFg Tryd.f6 (codeOf Tryd.f6) [AV.agg (sysC s), AV.int IntKind.u16 n] [] 0 = some (bo true, [Ob.cells (sysC (z0 s)), Ob.fro (List.length y) 1 (List.map st y)]) :=
  along_sound (ans := [(15, Ans.v (bo true)), (21, Ans.v (bo true)), (33, Ans.b false), (40, Ans.v (i6 p)), (45, Ans.v (i6 r)), (46, Ans.b false), (53, Ans.v (i6 r)), (55, Ans.v (AV.tup [lro (List.length h) 1 (List.map st h), i6 0])), (65, Ans.v (i6 r)), (66, Ans.v (AV.tup [lro (List.length t) 1 (List.map st t), i6 0])), (75, Ans.v (AV.tup [lro (List.length a) 1 (List.map st a), i6 0])), (83, Ans.b false), (88, Ans.c (AV.own 1 (List.length x)) [Ob.cells (sysC (z0 s)), Ob.arr (List.length x) 1 (List.map st x)]), (93, Ans.b false), (98, Ans.c (AV.own 1 (List.length y)) [Ob.cells (sysC (z0 s)), Ob.arr (List.length y) 1 (List.map st y)]), (101, Ans.v (bo true)), (126, Ans.c (bo true) [Ob.cells (sysC (z0 s)), Ob.fro (List.length y) 1 (List.map st y)])]) (by kernel_rfl) (And.intro h0 (And.intro h1 (And.intro h2 (And.intro h3 (And.intro h4 (And.intro h5 (And.intro h6 (And.intro h7 (And.intro h8 (And.intro h9 (And.intro h10 (And.intro h11 (And.intro h12 (And.intro h13 (And.intro h14 (And.intro h15 (And.intro h16 trivial)))))))))))))))))

section
variable {s : NSys} {dr : Bool} {σ : List Ob} {ro : Nat}
theorem d_small : callv (X15 []) (callerOf T14) dr 13 [AV.agg (sysC s)] σ ro = some (bo (smallL s), σ) := callv_mono has14.at_ (lt_sys s) rfl c_small
theorem d_valid (hk : okS s = true) : callv (X15 []) (callerOf T14) dr 22 [AV.agg (sysC s)] σ ro = some (bo (validL s), σ) := callv_mono has14.at_ (lt_sys s) rfl (c_valid hk)
theorem d_awake : callv (X15 []) (callerOf T14) dr 15 [] σ ro = some (bo true, σ) := callv_mono has14.at_ rfl rfl c_awake
theorem d_words (hk : okS s = true) {n c : Int} {ws : List ByteArray} (hw : wordsO s n = some (ws, c)) : callv (X15 []) (callerOf T14) dr 16 [AV.agg (sysC s), i6 n] σ ro = some (.tup [lst ws, i6 c], σ) := callv_mono has14.at_ (lt_sysn s n) rfl (c_words hk hw)
theorem d_pow (hb : s.base = 10 ∨ s.base = 20) (n : Int) : callv (X15 []) (callerOf T14) dr 23 [i6 s.base, i6 n] σ ro = some (i6 (s.base ^ (powK s n + 1)), σ) := by
  refine call_T (r := i6 (s.base ^ (powK s n + 1))) rfl rfl rfl ?_ rfl rfl
  show pow23S [i6 s.base, i6 n] = _
  simp only [pow23S]
  rw [if_pos hb]
  rfl
end
theorem words_of {s : NSys} (hv : validL s = true) {n : Int} (h0 : 0 ≤ n) (h9 : n ≤ 9999) {l : List ByteArray} (hl : sayO s 6 n = some l) : wordsO s n = some (l, 0) := by
  unfold wordsO
  rw [if_neg (by rw [hv]; simp; omega), if_neg (by omega), hl]
theorem z0_ok {s : NSys} (h : okS s = true) : okS (z0 s) = true := by
  simp only [okS, z0, Bool.and_eq_true] at h ⊢
  exact ⟨h.1, h.2.1, h.2.2.1, rfl, h.2.2.2.2⟩
theorem joinWords_of {s : NSys} : (empB s.jo = true → joinWords s = []) ∧ (empB s.jo = false → joinWords s = [s.jo]) := by
  unfold joinWords
  constructor
  · intro h; rw [if_pos h]
  · intro h; rw [h]; rfl
/-- NumeralParts: true. -/
theorem law_parts [Fixed] (hX : ∀ l, ExtOk Tryd.prog (X15 l)) {s : NSys} (hk : okS s = true) {n : Int} (n0 : 0 ≤ n) (n1 : n ≤ 65535) : CallAt Tryd.prog 6 [AV.agg (sysC s), .int .u16 n] [] 0 (bo true) [] := by
  have run : ∀ {σ' : List Ob}, vbody Tryd.prog (X15 []) (callerOf T14) 1 noFg Tryd.f6 (codeOf Tryd.f6) [AV.agg (sysC s), .int .u16 n] [] 0 = some (bo true, σ') → CallAt Tryd.prog 6 [AV.agg (sysC s), .int .u16 n] [] 0 (bo true) [] :=
    fun h => run_at (hX []) (T14_ok hX) rfl Tryd.func6 rfl rfl h
  have hs := d_small (s := z0 s) (dr := false) (σ := [Ob.cells (sysC (z0 s))]) (ro := 0)
  have hv := d_valid (dr := false) (σ := [Ob.cells (sysC (z0 s))]) (ro := 0) (z0_ok hk)
  cases hsm : smallL (z0 s) with
  | false =>
    rw [hsm] at hs
    exact run (lpa_p s n (X15 []) (callerOf T14) 1 hs d_awake)
  | true =>
    rw [hsm] at hs
    cases hva : validL (z0 s) with
    | false =>
      rw [hva] at hv
      exact run (lpb_p s n (X15 []) (callerOf T14) 1 hs hv d_awake)
    | true =>
      rw [hva] at hv
      have hg := good_of hva
      have hbase := hg.base
      have hw : w6 n = n := w6_id (by omega) (by omega)
      obtain ⟨k, hkk⟩ : ∃ k, (w6 n).tmod 10000 = k := ⟨_, rfl⟩
      have k0 : 0 ≤ k ∧ k ≤ 9999 := by
        rw [← hkk, hw, Int.tmod_eq_emod_of_nonneg n0]
        omega
      by_cases hb : k < s.base
      · exact run (lpc_pt s n (X15 []) (callerOf T14) 1 hs hv (by rw [hkk]; exact decide_eq_true hb) d_awake)
      · have hp := d_pow (s := z0 s) (dr := false) (σ := [Ob.cells (sysC (z0 s))]) (ro := 0) hbase k
        have hr := rem_p (S := [Ob.cells (sysC (z0 s))]) (n := k) (base_pos hbase (powK (z0 s) k))
        by_cases h0 : k.tmod ((z0 s).base ^ (powK (z0 s) k + 1)) = 0
        · exact run (lpc_pft s n _ _ (X15 []) (callerOf T14) 1 hs hv (by rw [hkk]; exact decide_eq_false hb) (by rw [hkk]; exact hp) (by rw [hkk]; exact hr) (by rw [h0]; rfl) d_awake)
        · have hpa := parts hg (n := k) (Int.not_lt.1 hb) k0.2
          have hless : lessL (z0 s) (w6 (k.tdiv ((z0 s).base ^ (powK (z0 s) k + 1)))) ((z0 s).base ^ (powK (z0 s) k + 1)) (k.tmod ((z0 s).base ^ (powK (z0 s) k + 1))) = false := by
            unfold lessL z0
            rfl
          obtain ⟨h, t, hh, ht, ha, hn, tn⟩ := parts_words hg (Int.not_lt.1 hb) k0.2 hless h0
          have hm1 : w6 (k - k.tmod ((z0 s).base ^ (powK (z0 s) k + 1))) = k - k.tmod ((z0 s).base ^ (powK (z0 s) k + 1)) := by
            have := hpa.r0
            have := hpa.r1
            have := (base_pow hg (powK_le (z0 s) k)).2
            exact w6_id (by omega) (by omega)
          have hr0 := hpa.r0
          have hrk : k.tmod ((z0 s).base ^ (powK (z0 s) k + 1)) ≤ k := by
            have h1 := hpa.eq
            have h2 : 0 ≤ w6 (k.tdiv ((z0 s).base ^ (powK (z0 s) k + 1))) * (z0 s).base ^ (powK (z0 s) k + 1) := Int.mul_nonneg (by have := hpa.q1; omega) (by have := pow_le hg (powK (z0 s) k + 1); omega)
            omega
          have lh := (sayO_len (z0 s) 6 _ h hh).2
          have lt := (sayO_len (z0 s) 6 _ t ht).2
          have la := say6_len ha
          have h7 := d_words (dr := true) (σ := [Ob.cells (sysC (z0 s))]) (ro := 0) (z0_ok hk) (words_of hva (n := k - k.tmod ((z0 s).base ^ (powK (z0 s) k + 1))) (by omega) (by omega) hh)
          have h9 := d_words (dr := true) (σ := [Ob.cells (sysC (z0 s))]) (ro := 0) (z0_ok hk) (words_of hva hr0 (by omega) ht)
          have h10 := d_words (dr := false) (σ := [Ob.cells (sysC (z0 s))]) (ro := 0) (z0_ok hk) (words_of hva k0.1 k0.2 ha)
          have ends : ∀ (c : Ob) (y : List ByteArray), y = (if (z0 s).sf then t ++ (joinWords (z0 s) ++ h) else h ++ (joinWords (z0 s) ++ t)) → callv (X15 []) (callerOf T14) false 17 [lst (if (z0 s).sf then t ++ (joinWords (z0 s) ++ h) else h ++ (joinWords (z0 s) ++ t)), .own 1 y.length] [c, .arr y.length 1 (y.map st)] 0 = some (bo true, [c, .fro y.length 1 (y.map st)]) := by
            intro c y hy
            have := texts_own (T := T14) (fun _ => rfl) (c := c) (l := if (z0 s).sf then t ++ (joinWords (z0 s) ++ h) else h ++ (joinWords (z0 s) ++ t)) (m := y) la
            rw [hy, textsL_refl] at this
            rw [hy]
            exact this
          have g1 := fun {l : List ByteArray} (h0 : l ≠ []) (hb : l.length * 17 ≤ 140737488355328) => grow_new (σ := [Ob.cells (sysC (z0 s))]) h0 hb
          cases hj : empB s.jo with
          | true =>
            have ej : joinWords (z0 s) = [] := joinWords_of.1 hj
            rw [ej] at ends ha h10
            cases hsf : s.sf with
            | true =>
              have esf : (z0 s).sf = true := hsf
              rw [esf] at ends h10
              simp only [if_true, List.nil_append] at ends h10
              exact run (lpc_pfftf s n _ _ h t _ t (t ++ h) (X15 []) (callerOf T14) 1 hs hv (by rw [hkk]; exact decide_eq_false hb) (by rw [hkk]; exact hp) (by rw [hkk]; exact hr) (by simpa using h0) (by rw [hkk]; exact hr) (by rw [hkk, hm1]; exact h7) (by rw [hkk]; exact hr) h9 (by rw [hkk]; exact h10) hsf
                (g1 tn (by omega)) (by show (!empB s.jo) = false; rw [hj]; rfl) (grow_more (is_lst h) hn (by omega)) d_awake (ends _ _ rfl))
            | false =>
              have esf : (z0 s).sf = false := hsf
              rw [esf] at ends h10
              simp only [Bool.false_eq_true, if_false, List.nil_append] at ends h10
              exact run (lpc_pffff s n _ _ h t _ h (h ++ t) (X15 []) (callerOf T14) 1 hs hv (by rw [hkk]; exact decide_eq_false hb) (by rw [hkk]; exact hp) (by rw [hkk]; exact hr) (by simpa using h0) (by rw [hkk]; exact hr) (by rw [hkk, hm1]; exact h7) (by rw [hkk]; exact hr) h9 (by rw [hkk]; exact h10) hsf
                (g1 hn (by omega)) (by show (!empB s.jo) = false; rw [hj]; rfl) (grow_more (is_lst t) tn (by omega)) d_awake (ends _ _ rfl))
          | false =>
            have ej : joinWords (z0 s) = [s.jo] := joinWords_of.2 hj
            rw [ej] at ends ha h10
            cases hsf : s.sf with
            | true =>
              have esf : (z0 s).sf = true := hsf
              rw [esf] at ends h10
              simp only [if_true] at ends h10
              have e1 : (t ++ [s.jo]).length = t.length + 1 := by simp
              have g2 := grow_more (c := Ob.cells (sysC (z0 s))) (l := t) (m := [s.jo]) (p := .list .clip 1 1 [.str s.jo]) (is_one s.jo) (by simp) (by simp only [List.length_cons, List.length_nil]; omega)
              have g3 := grow_more (c := Ob.cells (sysC (z0 s))) (l := t ++ [s.jo]) (m := h) (p := lst h) (is_lst h) hn (by rw [e1]; omega)
              rw [e1] at g2 g3
              exact run (lpc_pfftt s n _ _ h t _ t ((t ++ [s.jo]) ++ h) (X15 []) (callerOf T14) 1 hs hv (by rw [hkk]; exact decide_eq_false hb) (by rw [hkk]; exact hp) (by rw [hkk]; exact hr) (by simpa using h0) (by rw [hkk]; exact hr) (by rw [hkk, hm1]; exact h7) (by rw [hkk]; exact hr) h9 (by rw [hkk]; exact h10) hsf
                (g1 tn (by omega)) (by show (!empB s.jo) = true; rw [hj]; rfl) g2 g3 d_awake (ends _ _ (by simp)))
            | false =>
              have esf : (z0 s).sf = false := hsf
              rw [esf] at ends h10
              simp only [Bool.false_eq_true, if_false] at ends h10
              have e1 : (h ++ [s.jo]).length = h.length + 1 := by simp
              have g2 := grow_more (c := Ob.cells (sysC (z0 s))) (l := h) (m := [s.jo]) (p := .list .clip 1 1 [.str s.jo]) (is_one s.jo) (by simp) (by simp only [List.length_cons, List.length_nil]; omega)
              have g3 := grow_more (c := Ob.cells (sysC (z0 s))) (l := h ++ [s.jo]) (m := t) (p := lst t) (is_lst t) tn (by rw [e1]; omega)
              rw [e1] at g2 g3
              exact run (lpc_pffft s n _ _ h t _ h ((h ++ [s.jo]) ++ t) (X15 []) (callerOf T14) 1 hs hv (by rw [hkk]; exact decide_eq_false hb) (by rw [hkk]; exact hp) (by rw [hkk]; exact hr) (by simpa using h0) (by rw [hkk]; exact hr) (by rw [hkk, hm1]; exact h7) (by rw [hkk]; exact hr) h9 (by rw [hkk]; exact h10) hsf
                (g1 hn (by omega)) (by show (!empB s.jo) = true; rw [hj]; rfl) g2 g3 d_awake (ends _ _ (by simp)))
end Go.Proofs.Num
end
/- Numeral: the law of subtraction. -/
section
open Go Go.Vm Go.Proofs
namespace Go.Proofs.Num
def lsS0 (s : NSys) (a : Int) (b : Int) (c : Int) (P : Nat → Int) (i0 : Nat) : St :=
  stOf 130 [37, 38, 39, 40, 41, 42, 43, 44, 45, 46, 47] [(0, AV.agg (sysC s)), (1, AV.int IntKind.u8 a), (2, AV.int IntKind.u8 b), (3, AV.int IntKind.u8 c), (4, AV.ref 0 0), (8, bo false), (9, i6 (P i0)), (10, i6 (↑i0 : Int)), (21, AV.agg (sysC s)), (22, bo true), (23, bo false), (24, bo false), (25, AV.agg (sysC s)), (26, bo true), (27, bo false), (28, bo false), (29, bo false), (30, AV.ref 0 5), (31, i6 (NSys.sub s)), (32, bo false), (33, bo false), (35, AV.ref 0 0), (36, i6 (NSys.base s))] [Ob.cells (sysC s)]
def lsS1 (s : NSys) (a : Int) (b : Int) (c : Int) (P : Nat → Int) (i0 : Nat) : St :=
  stOf 130 [] [(0, AV.agg (sysC s)), (1, AV.int IntKind.u8 a), (2, AV.int IntKind.u8 b), (3, AV.int IntKind.u8 c), (4, AV.ref 0 0), (8, bo false), (9, i6 (w6 (P i0 * NSys.base s))), (10, i6 (w6 ((↑i0 : Int) + 1))), (21, AV.agg (sysC s)), (22, bo true), (23, bo false), (24, bo false), (25, AV.agg (sysC s)), (26, bo true), (27, bo false), (28, bo false), (29, bo false), (30, AV.ref 0 5), (31, i6 (NSys.sub s)), (32, bo false), (33, bo false), (35, AV.ref 0 0), (36, i6 (NSys.base s)), (37, i6 (↑i0 : Int)), (38, AV.int IntKind.u8 a), (39, AV.int IntKind.u8 (Int.tmod a 3)), (40, i6 (w6 (Int.tmod a 3))), (41, bo true), (42, i6 (↑i0 : Int)), (43, i6 (w6 ((↑i0 : Int) + 1))), (44, i6 (P i0)), (45, AV.ref 0 0), (46, i6 (NSys.base s)), (47, i6 (w6 (P i0 * NSys.base s)))] [Ob.cells (sysC s)]
def lsS2 (s : NSys) (a : Int) (b : Int) (c : Int) (P : Nat → Int) (i0 : Nat) : St :=
  stOf 130 [42, 43, 44, 45, 46, 47] [(0, AV.agg (sysC s)), (1, AV.int IntKind.u8 a), (2, AV.int IntKind.u8 b), (3, AV.int IntKind.u8 c), (4, AV.ref 0 0), (8, bo false), (9, i6 (P i0)), (10, i6 (↑i0 : Int)), (21, AV.agg (sysC s)), (22, bo true), (23, bo false), (24, bo false), (25, AV.agg (sysC s)), (26, bo true), (27, bo false), (28, bo false), (29, bo false), (30, AV.ref 0 5), (31, i6 (NSys.sub s)), (32, bo false), (33, bo false), (35, AV.ref 0 0), (36, i6 (NSys.base s)), (37, i6 (↑i0 : Int)), (38, AV.int IntKind.u8 a), (39, AV.int IntKind.u8 (Int.tmod a 3)), (40, i6 (w6 (Int.tmod a 3))), (41, bo false)] [Ob.cells (sysC s)]
def lsS3 (s : NSys) (a : Int) (b : Int) (c : Int) : St :=
  stOf 130 [] [(0, AV.agg (sysC s)), (1, AV.int IntKind.u8 a), (2, AV.int IntKind.u8 b), (3, AV.int IntKind.u8 c), (4, AV.ref 0 0), (8, bo false), (9, i6 (NSys.base s)), (10, i6 0), (21, AV.agg (sysC s)), (22, bo true), (23, bo false), (24, bo false), (25, AV.agg (sysC s)), (26, bo true), (27, bo false), (28, bo false), (29, bo false), (30, AV.ref 0 5), (31, i6 (NSys.sub s)), (32, bo false), (33, bo false), (35, AV.ref 0 0), (36, i6 (NSys.base s))] [Ob.cells (sysC s)]
theorem lsa_p (s : NSys) (a : Int) (b : Int) (c : Int) (X : Ext) (call : Caller) (lf : Nat)
  (h0 : callv X call false 13 [AV.agg (sysC s)] [Ob.cells (sysC s)] 0 = some (bo false, [Ob.cells (sysC s)]))
  (h1 : callv X call false 15 [] [Ob.cells (sysC s)] 0 = some (bo true, [Ob.cells (sysC s)])) : vbody Tryd.prog X call lf noFg Tryd.f7 (codeOf Tryd.f7) [AV.agg (sysC s), AV.int IntKind.u8 a, AV.int IntKind.u8 b, AV.int IntKind.u8 c] [] 0 = some (bo true, [Ob.cells (sysC s)]) :=
  along_sound (ans := [(5, Ans.v (bo false)), (19, Ans.v (bo true))]) (by kernel_rfl) (And.intro h0 (And.intro h1 trivial))
theorem lsb_p (s : NSys) (a : Int) (b : Int) (c : Int) (X : Ext) (call : Caller) (lf : Nat)
  (h0 : callv X call false 13 [AV.agg (sysC s)] [Ob.cells (sysC s)] 0 = some (bo true, [Ob.cells (sysC s)]))
  (h1 : callv X call false 22 [AV.agg (sysC s)] [Ob.cells (sysC s)] 0 = some (bo false, [Ob.cells (sysC s)]))
  (h2 : callv X call false 15 [] [Ob.cells (sysC s)] 0 = some (bo true, [Ob.cells (sysC s)])) : vbody Tryd.prog X call lf noFg Tryd.f7 (codeOf Tryd.f7) [AV.agg (sysC s), AV.int IntKind.u8 a, AV.int IntKind.u8 b, AV.int IntKind.u8 c] [] 0 = some (bo true, [Ob.cells (sysC s)]) :=
  along_sound (ans := [(5, Ans.v (bo true)), (11, Ans.v (bo false)), (22, Ans.v (bo true))]) (by kernel_rfl) (And.intro h0 (And.intro h1 (And.intro h2 trivial)))
theorem lsc_pt (s : NSys) (a : Int) (b : Int) (c : Int) (X : Ext) (call : Caller) (lf : Nat)
  (h0 : callv X call false 13 [AV.agg (sysC s)] [Ob.cells (sysC s)] 0 = some (bo true, [Ob.cells (sysC s)]))
  (h1 : callv X call false 22 [AV.agg (sysC s)] [Ob.cells (sysC s)] 0 = some (bo true, [Ob.cells (sysC s)]))
  (h2 : (NSys.sub s == 0) = true)
  (h3 : callv X call false 15 [] [Ob.cells (sysC s)] 0 = some (bo true, [Ob.cells (sysC s)])) : vbody Tryd.prog X call lf noFg Tryd.f7 (codeOf Tryd.f7) [AV.agg (sysC s), AV.int IntKind.u8 a, AV.int IntKind.u8 b, AV.int IntKind.u8 c] [] 0 = some (bo true, [Ob.cells (sysC s)]) :=
  along_sound (ans := [(5, Ans.v (bo true)), (11, Ans.v (bo true)), (21, Ans.b true), (25, Ans.v (bo true))]) (by kernel_rfl) (And.intro h0 (And.intro h1 (And.intro h2 (And.intro h3 trivial))))
theorem lsc_r0_t (s : NSys) (a : Int) (b : Int) (c : Int) (P : Nat → Int) (X : Ext) (call : Caller) (lf : Nat) (i0 : Nat)
  (h0 : decide ((↑i0 : Int) < w6 (Int.tmod a 3)) = true) : vexec Tryd.prog X call lf 0 noFg (loopN Tryd.f7 0) (lsS0 s a b c P i0) = some (Ex.normal, (lsS1 s a b c P i0)) :=
  around_sound (ans := [(5, Ans.b true)]) (by kernel_rfl) (And.intro h0 trivial)
theorem lsc_r0_f (s : NSys) (a : Int) (b : Int) (c : Int) (P : Nat → Int) (X : Ext) (call : Caller) (lf : Nat) (i0 : Nat)
  (h0 : decide ((↑i0 : Int) < w6 (Int.tmod a 3)) = false) : vexec Tryd.prog X call lf 0 noFg (loopN Tryd.f7 0) (lsS0 s a b c P i0) = some (Ex.exit 0, (lsS2 s a b c P i0)) :=
  around_sound (ans := [(5, Ans.b false)]) (by kernel_rfl) (And.intro h0 trivial)
theorem lsc_pflft (s : NSys) (a : Int) (b : Int) (c : Int) (d : Int) (q : Int) (P : Nat → Int) (X : Ext) (call : Caller) (lf : Nat) (i0 : Nat)
  (h0 : callv X call false 13 [AV.agg (sysC s)] [Ob.cells (sysC s)] 0 = some (bo true, [Ob.cells (sysC s)]))
  (h1 : callv X call false 22 [AV.agg (sysC s)] [Ob.cells (sysC s)] 0 = some (bo true, [Ob.cells (sysC s)]))
  (h2 : (NSys.sub s == 0) = false)
  (h3 : vexec Tryd.prog X call lf 0 noFg (Code.loop (loopN Tryd.f7 0)) (lsS3 s a b c) = some (Ex.exit 0, (lsS2 s a b c P i0)))
  (h4 : keep [Ob.cells (sysC s)] (binv Tryd.prog BinOp.rem 3 (i6 (w6 c)) (i6 (NSys.sub s))) = some (i6 d, [Ob.cells (sysC s)]))
  (h5 : keep [Ob.cells (sysC s)] (binv Tryd.prog BinOp.rem 3 (i6 (w6 b)) (i6 (w6 (NSys.base s - 2)))) = some (i6 q, [Ob.cells (sysC s)]))
  (h6 : decide (w6 (w6 (w6 (w6 (q + 1) * P i0) + P i0) - w6 (d + 1)) > 9999) = true)
  (h7 : callv X call false 15 [] [Ob.cells (sysC s)] 0 = some (bo true, [Ob.cells (sysC s)])) : vbody Tryd.prog X call lf noFg Tryd.f7 (codeOf Tryd.f7) [AV.agg (sysC s), AV.int IntKind.u8 a, AV.int IntKind.u8 b, AV.int IntKind.u8 c] [] 0 = some (bo true, [Ob.cells (sysC s)]) :=
  along_sound (ans := [(5, Ans.v (bo true)), (11, Ans.v (bo true)), (21, Ans.b false), (30, Ans.l (Ex.exit 0) (lsS2 s a b c P i0)), (36, Ans.v (i6 d)), (45, Ans.v (i6 q)), (59, Ans.b true), (62, Ans.v (bo true))]) (by kernel_rfl) (And.intro h0 (And.intro h1 (And.intro h2 (And.intro h3 (And.intro h4 (And.intro h5 (And.intro h6 (And.intro h7 trivial))))))))
theorem lsc_pflfftf (s : NSys) (a : Int) (b : Int) (c : Int) (d : Int) (q : Int) (e3 : Int) (P : Nat → Int) (l : List ByteArray) (x : List ByteArray) (y : List ByteArray) (X : Ext) (call : Caller) (lf : Nat) (i0 : Nat)
  (h0 : callv X call false 13 [AV.agg (sysC s)] [Ob.cells (sysC s)] 0 = some (bo true, [Ob.cells (sysC s)]))
  (h1 : callv X call false 22 [AV.agg (sysC s)] [Ob.cells (sysC s)] 0 = some (bo true, [Ob.cells (sysC s)]))
  (h2 : (NSys.sub s == 0) = false)
  (h3 : vexec Tryd.prog X call lf 0 noFg (Code.loop (loopN Tryd.f7 0)) (lsS3 s a b c) = some (Ex.exit 0, (lsS2 s a b c P i0)))
  (h4 : keep [Ob.cells (sysC s)] (binv Tryd.prog BinOp.rem 3 (i6 (w6 c)) (i6 (NSys.sub s))) = some (i6 d, [Ob.cells (sysC s)]))
  (h5 : keep [Ob.cells (sysC s)] (binv Tryd.prog BinOp.rem 3 (i6 (w6 b)) (i6 (w6 (NSys.base s - 2)))) = some (i6 q, [Ob.cells (sysC s)]))
  (h6 : decide (w6 (w6 (w6 (w6 (q + 1) * P i0) + P i0) - w6 (d + 1)) > 9999) = false)
  (h7 : callv X call false 16 [AV.agg (sysC s), i6 (w6 (w6 (w6 (w6 (q + 1) * P i0) + P i0) - w6 (d + 1)))] [Ob.cells (sysC s)] 0 = some (AV.tup [lro (List.length l) 1 (List.map st l), i6 0], [Ob.cells (sysC s)]))
  (h8 : callv X call false 16 [AV.agg (sysC s), i6 (w6 (d + 1))] [Ob.cells (sysC s)] 0 = some (AV.tup [lro (List.length x) 1 (List.map st x), i6 0], [Ob.cells (sysC s)]))
  (h9 : callv X call false 16 [AV.agg (sysC s), i6 (w6 (w6 (w6 (q + 1) + 1) * P i0))] [Ob.cells (sysC s)] 0 = some (AV.tup [lro (List.length y) 1 (List.map st y), i6 e3], [Ob.cells (sysC s)]))
  (h10 : appendv Tryd.prog 22 [Ob.cells (sysC s)] 0 (AV.list LK.clip 0 1 []) (lro (List.length x) 1 (List.map st x)) = some (AV.own 1 (List.length x), [Ob.cells (sysC s), Ob.arr (List.length x) 1 (List.map st x)]))
  (h11 : appendv Tryd.prog 22 [Ob.cells (sysC s), Ob.arr (List.length x) 1 (List.map st x)] 0 (AV.own 1 (List.length x)) (AV.list LK.clip 1 1 [st (NSys.le s)]) = some (AV.own 1 (List.length x + 1), [Ob.cells (sysC s), Ob.arr (List.length x + 1) 1 (List.map st (x ++ [NSys.le s]))]))
  (h12 : appendv Tryd.prog 22 [Ob.cells (sysC s), Ob.arr (List.length x + 1) 1 (List.map st (x ++ [NSys.le s]))] 0 (AV.own 1 (List.length x + 1)) (lro (List.length y) 1 (List.map st y)) = some (AV.own 1 (List.length x + 1 + List.length y), [Ob.cells (sysC s), Ob.arr (List.length x + 1 + List.length y) 1 (List.map st (x ++ [NSys.le s] ++ y))]))
  (h13 : callv X call false 15 [] [Ob.cells (sysC s), Ob.arr (List.length x + 1 + List.length y) 1 (List.map st (x ++ [NSys.le s] ++ y))] 0 = some (bo true, [Ob.cells (sysC s), Ob.arr (List.length x + 1 + List.length y) 1 (List.map st (x ++ [NSys.le s] ++ y))]))
  (h14 : (e3 == 0) = true)
  (h15 : (e3 != 0) = false)
  (h16 : callv X call false 17 [lro (List.length l) 1 (List.map st l), AV.own 1 (List.length x + 1 + List.length y)] [Ob.cells (sysC s), Ob.arr (List.length x + 1 + List.length y) 1 (List.map st (x ++ [NSys.le s] ++ y))] 0 = some (bo true, [Ob.cells (sysC s), Ob.fro (List.length x + 1 + List.length y) 1 (List.map st (x ++ [NSys.le s] ++ y))])) : vbody Tryd.prog X call lf noFg Tryd.f7 (codeOf Tryd.f7) [AV.agg (sysC s), AV.int IntKind.u8 a, AV.int IntKind.u8 b, AV.int IntKind.u8 c] [] 0 = some (bo true, [Ob.cells (sysC s), Ob.fro (List.length x + 1 + List.length y) 1 (List.map st (x ++ [NSys.le s] ++ y))]) :=
  along_sound (ans := [(5, Ans.v (bo true)), (11, Ans.v (bo true)), (21, Ans.b false), (30, Ans.l (Ex.exit 0) (lsS2 s a b c P i0)), (36, Ans.v (i6 d)), (45, Ans.v (i6 q)), (59, Ans.b false), (64, Ans.v (AV.tup [lro (List.length l) 1 (List.map st l), i6 0])), (73, Ans.v (AV.tup [lro (List.length x) 1 (List.map st x), i6 0])), (85, Ans.v (AV.tup [lro (List.length y) 1 (List.map st y), i6 e3])), (94, Ans.c (AV.own 1 (List.length x)) [Ob.cells (sysC s), Ob.arr (List.length x) 1 (List.map st x)]), (98, Ans.c (AV.own 1 (List.length x + 1)) [Ob.cells (sysC s), Ob.arr (List.length x + 1) 1 (List.map st (x ++ [NSys.le s]))]), (100, Ans.c (AV.own 1 (List.length x + 1 + List.length y)) [Ob.cells (sysC s), Ob.arr (List.length x + 1 + List.length y) 1 (List.map st (x ++ [NSys.le s] ++ y))]), (103, Ans.v (bo true)), (120, Ans.b true), (135, Ans.b false), (143, Ans.c (bo true) [Ob.cells (sysC s), Ob.fro (List.length x + 1 + List.length y) 1 (List.map st (x ++ [NSys.le s] ++ y))])]) (by kernel_rfl) (And.intro h0 (And.intro h1 (And.intro h2 (And.intro h3 (And.intro h4 (And.intro h5 (And.intro h6 (And.intro h7 (And.intro h8 (And.intro h9 (And.intro h10 (And.intro h11 (And.intro h12 (And.intro h13 (And.intro h14 (And.intro h15 (And.intro h16 trivial)))))))))))))))))
theorem lsc_pflffftt (s : NSys) (a : Int) (b : Int) (c : Int) (d : Int) (q : Int) (e3 : Int) (P : Nat → Int) (l : List ByteArray) (x : List ByteArray) (y : List ByteArray) (X : Ext) (call : Caller) (lf : Nat) (i0 : Nat)
  (h0 : callv X call false 13 [AV.agg (sysC s)] [Ob.cells (sysC s)] 0 = some (bo true, [Ob.cells (sysC s)]))
  (h1 : callv X call false 22 [AV.agg (sysC s)] [Ob.cells (sysC s)] 0 = some (bo true, [Ob.cells (sysC s)]))
  (h2 : (NSys.sub s == 0) = false)
  (h3 : vexec Tryd.prog X call lf 0 noFg (Code.loop (loopN Tryd.f7 0)) (lsS3 s a b c) = some (Ex.exit 0, (lsS2 s a b c P i0)))
  (h4 : keep [Ob.cells (sysC s)] (binv Tryd.prog BinOp.rem 3 (i6 (w6 c)) (i6 (NSys.sub s))) = some (i6 d, [Ob.cells (sysC s)]))
  (h5 : keep [Ob.cells (sysC s)] (binv Tryd.prog BinOp.rem 3 (i6 (w6 b)) (i6 (w6 (NSys.base s - 2)))) = some (i6 q, [Ob.cells (sysC s)]))
  (h6 : decide (w6 (w6 (w6 (w6 (q + 1) * P i0) + P i0) - w6 (d + 1)) > 9999) = false)
  (h7 : callv X call false 16 [AV.agg (sysC s), i6 (w6 (w6 (w6 (w6 (q + 1) * P i0) + P i0) - w6 (d + 1)))] [Ob.cells (sysC s)] 0 = some (AV.tup [lro (List.length l) 1 (List.map st l), i6 0], [Ob.cells (sysC s)]))
  (h8 : callv X call false 16 [AV.agg (sysC s), i6 (w6 (d + 1))] [Ob.cells (sysC s)] 0 = some (AV.tup [lro (List.length x) 1 (List.map st x), i6 0], [Ob.cells (sysC s)]))
  (h9 : callv X call false 16 [AV.agg (sysC s), i6 (w6 (w6 (w6 (q + 1) + 1) * P i0))] [Ob.cells (sysC s)] 0 = some (AV.tup [lro (List.length y) 1 (List.map st y), i6 e3], [Ob.cells (sysC s)]))
  (h10 : appendv Tryd.prog 22 [Ob.cells (sysC s)] 0 (AV.list LK.clip 0 1 []) (lro (List.length x) 1 (List.map st x)) = some (AV.own 1 (List.length x), [Ob.cells (sysC s), Ob.arr (List.length x) 1 (List.map st x)]))
  (h11 : appendv Tryd.prog 22 [Ob.cells (sysC s), Ob.arr (List.length x) 1 (List.map st x)] 0 (AV.own 1 (List.length x)) (AV.list LK.clip 1 1 [st (NSys.le s)]) = some (AV.own 1 (List.length x + 1), [Ob.cells (sysC s), Ob.arr (List.length x + 1) 1 (List.map st (x ++ [NSys.le s]))]))
  (h12 : appendv Tryd.prog 22 [Ob.cells (sysC s), Ob.arr (List.length x + 1) 1 (List.map st (x ++ [NSys.le s]))] 0 (AV.own 1 (List.length x + 1)) (lro (List.length y) 1 (List.map st y)) = some (AV.own 1 (List.length x + 1 + List.length y), [Ob.cells (sysC s), Ob.arr (List.length x + 1 + List.length y) 1 (List.map st (x ++ [NSys.le s] ++ y))]))
  (h13 : callv X call false 15 [] [Ob.cells (sysC s), Ob.arr (List.length x + 1 + List.length y) 1 (List.map st (x ++ [NSys.le s] ++ y))] 0 = some (bo true, [Ob.cells (sysC s), Ob.arr (List.length x + 1 + List.length y) 1 (List.map st (x ++ [NSys.le s] ++ y))]))
  (h14 : (e3 == 0) = false)
  (h15 : decide (w6 (w6 (w6 (q + 1) + 1) * P i0) > 9999) = true)
  (h16 : (e3 != 0) = true) : vbody Tryd.prog X call lf noFg Tryd.f7 (codeOf Tryd.f7) [AV.agg (sysC s), AV.int IntKind.u8 a, AV.int IntKind.u8 b, AV.int IntKind.u8 c] [] 0 = some (bo true, [Ob.cells (sysC s), Ob.arr (List.length x + 1 + List.length y) 1 (List.map st (x ++ [NSys.le s] ++ y))]) :=
  along_sound (ans := [(5, Ans.v (bo true)), (11, Ans.v (bo true)), (21, Ans.b false), (30, Ans.l (Ex.exit 0) (lsS2 s a b c P i0)), (36, Ans.v (i6 d)), (45, Ans.v (i6 q)), (59, Ans.b false), (64, Ans.v (AV.tup [lro (List.length l) 1 (List.map st l), i6 0])), (73, Ans.v (AV.tup [lro (List.length x) 1 (List.map st x), i6 0])), (85, Ans.v (AV.tup [lro (List.length y) 1 (List.map st y), i6 e3])), (94, Ans.c (AV.own 1 (List.length x)) [Ob.cells (sysC s), Ob.arr (List.length x) 1 (List.map st x)]), (98, Ans.c (AV.own 1 (List.length x + 1)) [Ob.cells (sysC s), Ob.arr (List.length x + 1) 1 (List.map st (x ++ [NSys.le s]))]), (100, Ans.c (AV.own 1 (List.length x + 1 + List.length y)) [Ob.cells (sysC s), Ob.arr (List.length x + 1 + List.length y) 1 (List.map st (x ++ [NSys.le s] ++ y))]), (103, Ans.v (bo true)), (120, Ans.b false), (132, Ans.b true), (140, Ans.b true)]) (by kernel_rfl) (And.intro h0 (And.intro h1 (And.intro h2 (And.intro h3 (And.intro h4 (And.intro h5 (And.intro h6 (And.intro h7 (And.intro h8 (And.intro h9 (And.intro h10 (And.intro h11 (And.intro h12 (And.intro h13 (And.intro h14 (And.intro h15 (And.intro h16 trivial)))))))))))))))))

theorem sub_words {s : NSys} (hg : Good s) {i : Nat} (hi : i ≤ 2) {D K : Int} (hD1 : 1 ≤ D) (hD2 : D ≤ s.sub) (hK1 : 1 ≤ K) (hK2 : K + 1 < s.base) (h9 : K * s.base ^ (i + 1) + s.base ^ (i + 1) - D ≤ 9999) :
    ∃ x y, sayO s 6 D = some x ∧ sayO s 5 ((K + 1) * s.base ^ (i + 1)) = some y ∧ sayO s 6 (K * s.base ^ (i + 1) + s.base ^ (i + 1) - D) = some (x ++ s.le :: y) := by
  obtain ⟨b1, b2⟩ := base_pow hg hi
  have hbase := hg.base
  have hs0 := hg.sub0
  have hs1 := hg.sub1
  obtain ⟨x, hx⟩ := say_digit hg 4 (n := D) (by omega) (by omega)
  obtain ⟨y, hy⟩ := say_mult hg 3 (q := K + 1) hi (by omega) hK2
  refine ⟨x, y, sayO_mono 5 hx, hy, ?_⟩
  have hKp : s.base ^ (i + 1) ≤ K * s.base ^ (i + 1) := by
    have : 1 * s.base ^ (i + 1) ≤ K * s.base ^ (i + 1) := Int.mul_le_mul_of_nonneg_right hK1 (by omega)
    omega
  have hup : (K + 1) * s.base ^ (i + 1) < s.base ^ (i + 2) := by
    have : s.base ^ (i + 2) = s.base * s.base ^ (i + 1) := by rw [Int.pow_succ, Int.mul_comm]
    rw [this]
    exact Int.mul_lt_mul_of_pos_right hK2 (by omega)
  have hup2 : K * s.base ^ (i + 1) + s.base ^ (i + 1) < s.base ^ (i + 2) := by rw [Int.add_mul, Int.one_mul] at hup; exact hup
  have hK : powK s (K * s.base ^ (i + 1) + s.base ^ (i + 1) - D) = i := by
    have h : i = 0 ∨ i = 1 ∨ i = 2 := by omega
    have hlo : s.base ^ (i + 1) ≤ K * s.base ^ (i + 1) + s.base ^ (i + 1) - D := by omega
    have hhi : K * s.base ^ (i + 1) + s.base ^ (i + 1) - D < s.base ^ (i + 2) := by omega
    generalize K * s.base ^ (i + 1) + s.base ^ (i + 1) - D = n at *
    unfold powK
    rcases h with rfl | rfl | rfl
    · rw [if_pos hhi]
    · rw [if_neg (by simpa using hlo), if_pos hhi]
    · have : ¬ s.base ^ 2 > n := by
        have h23 : s.base ^ 2 ≤ s.base ^ 3 := by rcases hbase with e | e <;> rw [e] <;> decide
        have : s.base ^ 3 ≤ n := hlo
        omega
      rw [if_neg this, if_neg (by simpa using hlo)]
  have hn0 : 0 ≤ K * s.base ^ (i + 1) + s.base ^ (i + 1) - D := by omega
  have hdiv : w6 ((K * s.base ^ (i + 1) + s.base ^ (i + 1) - D).tdiv (s.base ^ (i + 1))) = K := by
    rw [Int.tdiv_eq_ediv_of_nonneg hn0]
    have e : K * s.base ^ (i + 1) + s.base ^ (i + 1) - D = (s.base ^ (i + 1) - D) + s.base ^ (i + 1) * K := by rw [Int.mul_comm]; omega
    rw [e, Int.add_mul_ediv_left _ _ (by omega), Int.ediv_eq_zero_of_lt (by omega) (by omega), Int.zero_add]
    exact w6_id (by omega) (by omega)
  have hmod : (K * s.base ^ (i + 1) + s.base ^ (i + 1) - D).tmod (s.base ^ (i + 1)) = s.base ^ (i + 1) - D := by
    rw [Int.tmod_eq_emod_of_nonneg hn0]
    have e : K * s.base ^ (i + 1) + s.base ^ (i + 1) - D = (s.base ^ (i + 1) - D) + s.base ^ (i + 1) * K := by rw [Int.mul_comm]; omega
    rw [e, Int.add_mul_emod_self_left]
    exact Int.emod_eq_of_lt (by omega) (by omega)
  have hless : lessL s K (s.base ^ (i + 1)) (s.base ^ (i + 1) - D) = true := (lessL_iff hg (by omega) (by omega) (by omega) (by omega)).2 ⟨by omega, by omega, hK2⟩
  rw [sayO_succ, if_neg (by omega), hK, hdiv, hmod, hless]
  simp only [if_true]
  have e1 : w6 (s.base ^ (i + 1) - (s.base ^ (i + 1) - D)) = D := by
    rw [show s.base ^ (i + 1) - (s.base ^ (i + 1) - D) = D by omega]
    exact w6_id (by omega) (by omega)
  have e2 : w6 (K + 1) = K + 1 := w6_id (by omega) (by omega)
  have hle : (K + 1) * s.base ^ (i + 1) ≤ 20 * 8000 := Int.mul_le_mul (by omega) (by omega) (by omega) (by omega)
  have h0 : 0 ≤ (K + 1) * s.base ^ (i + 1) := Int.mul_nonneg (by omega) (by omega)
  have e3 : w6 ((K + 1) * s.base ^ (i + 1)) = (K + 1) * s.base ^ (i + 1) := w6_id (by omega) (by omega)
  rw [e1, e2, e3]
  unfold lessO
  rw [hx, hy]
abbrev D7 : List Nat := [43, 42, 47, 46, 45, 44, 41, 40, 39, 38, 37]
theorem dead7 : (deadC (loopN Tryd.f7 0) ([], [])).2 = D7 := by kernel_rfl
/-- The law's loop: the power. -/
theorem ls_loop {X : Ext} {call : Caller} {lf : Nat} (hlf : 2 < lf) {s : NSys} (hb : s.base = 10 ∨ s.base = 20) {a b c : Int} {i : Nat} (hi : i ≤ 2) (ha : w6 (Int.tmod a 3) = (i : Int)) :
    vexec Tryd.prog X call lf 0 noFg (Code.loop (loopN Tryd.f7 0)) (lsS3 s a b c) = some (Ex.exit 0, lsS2 s a b c (rwP s) i) := by
  have start : forget D7 (lsS3 s a b c) = lsS0 s a b c (rwP s) 0 := by
    have e : rwP s 0 = s.base := by unfold rwP; rw [Nat.zero_add]; exact Int.pow_one _
    unfold lsS3 lsS0
    rw [e]
    show _ = _
    kernel_rfl
  refine loop_run (P := Tryd.prog) (X := X) (call := call) (lf := lf) (ro := 0) (fg := noFg) dead7 (lsS0 s a b c (rwP s)) i (by omega) start (fun k hk => ?_) (lsc_r0_f s a b c (rwP s) X call lf i (by rw [ha]; exact decide_eq_false (by omega))) (by simp)
  refine ⟨_, lsc_r0_t s a b c (rwP s) X call lf k (by rw [ha]; exact decide_eq_true (by omega)), ?_⟩
  have e : w6 ((k : Int) + 1) = ((k + 1 : Nat) : Int) := wrap_small (by omega)
  have e2 : w6 (rwP s k * s.base) = rwP s (k + 1) := pow_mul hb (by omega)
  unfold lsS1
  rw [e, e2]
  unfold lsS0
  show _ = _
  kernel_rfl
theorem grow_nil1 {c : Ob} {l : List ByteArray} (hb : l.length * 17 ≤ 140737488355328) :
    appendv Tryd.prog 22 [c, .arr l.length 1 (l.map .str)] 0 (.own 1 l.length) (lst []) = some (.own 1 l.length, [c, .arr l.length 1 (l.map .str)]) := by
  exact grow_none (P := Tryd.prog) (ro := 0) (id := 1) (n := l.length) (σ := [c, Ob.arr l.length 1 (l.map .str)]) (cs := l.map .str) (ys := []) (x := lst []) Tryd.underlying22 zero9 (by rw [cells9]; rfl) (by rw [cells9]; rfl) (Nat.zero_le _)
    (by rw [cells9]; rfl) rfl (by rw [bytes9]; omega)
/-- NumeralSubtracts: true. -/
theorem law_subtracts [Fixed] (hX : ∀ l, ExtOk Tryd.prog (X15 l)) {s : NSys} (hk : okS s = true) {a b c : Int} (a0 : 0 ≤ a) (a1 : a ≤ 255) (b0 : 0 ≤ b) (b1 : b ≤ 255) (c0 : 0 ≤ c) (c1 : c ≤ 255) : CallAt Tryd.prog 7 [AV.agg (sysC s), .int .u8 a, .int .u8 b, .int .u8 c] [] 0 (bo true) [] := by
  have run : ∀ {σ' : List Ob}, vbody Tryd.prog (X15 []) (callerOf T13) 3 noFg Tryd.f7 (codeOf Tryd.f7) [AV.agg (sysC s), .int .u8 a, .int .u8 b, .int .u8 c] [] 0 = some (bo true, σ') → CallAt Tryd.prog 7 [AV.agg (sysC s), .int .u8 a, .int .u8 b, .int .u8 c] [] 0 (bo true) [] :=
    fun h => run_at (hX []) (T13_ok hX) rfl Tryd.func7 rfl rfl h
  have hs := c_small (s := s) (dr := false) (σ := [Ob.cells (sysC s)]) (ro := 0)
  have hv := c_valid (dr := false) (σ := [Ob.cells (sysC s)]) (ro := 0) hk
  cases hsm : smallL s with
  | false =>
    rw [hsm] at hs
    exact run (lsa_p s a b c (X15 []) (callerOf T13) 3 hs c_awake)
  | true =>
    rw [hsm] at hs
    cases hva : validL s with
    | false =>
      rw [hva] at hv
      exact run (lsb_p s a b c (X15 []) (callerOf T13) 3 hs hv c_awake)
    | true =>
      rw [hva] at hv
      have hg := good_of hva
      have hbase := hg.base
      have hs0 := hg.sub0
      have hs1 := hg.sub1
      by_cases hsub : s.sub = 0
      · exact run (lsc_pt s a b c (X15 []) (callerOf T13) 3 hs hv (by rw [hsub]; rfl) c_awake)
      · have h2 : (s.sub == 0) = false := by simpa using hsub
        obtain ⟨i, hi, hai⟩ : ∃ i : Nat, i ≤ 2 ∧ w6 (Int.tmod a 3) = (i : Int) := by
          have e : Int.tmod a 3 = a % 3 := Int.tmod_eq_emod_of_nonneg a0
          rw [e, w6_id (by omega) (by omega)]
          exact ⟨(a % 3).toNat, by omega, by omega⟩
        have hloop := ls_loop (X := X15 []) (call := callerOf T13) (lf := 3) (by omega) hbase (b := b) (c := c) hi hai
        obtain ⟨p1, p2⟩ := base_pow hg hi
        -- what is missing
        have hd := rem_p (S := [Ob.cells (sysC s)]) (n := w6 c) hsub
        have hwc : w6 c = c := w6_id (by omega) (by omega)
        obtain ⟨d, hdd⟩ : ∃ d, c.tmod s.sub = d := ⟨_, rfl⟩
        have hd0 : 0 ≤ d ∧ d < s.sub := by
          rw [← hdd, Int.tmod_eq_emod_of_nonneg c0]
          exact ⟨Int.emod_nonneg _ hsub, Int.emod_lt_of_pos _ (by omega)⟩
        rw [hwc, hdd] at hd
        -- the factor
        have hwb : w6 b = b := w6_id (by omega) (by omega)
        have hwb2 : w6 (s.base - 2) = s.base - 2 := w6_id (by omega) (by omega)
        have hq := rem_p (S := [Ob.cells (sysC s)]) (n := b) (p := s.base - 2) (by omega)
        obtain ⟨q, hqq⟩ : ∃ q, b.tmod (s.base - 2) = q := ⟨_, rfl⟩
        have hq0 : 0 ≤ q ∧ q < s.base - 2 := by
          rw [← hqq, Int.tmod_eq_emod_of_nonneg b0]
          exact ⟨Int.emod_nonneg _ (by omega), Int.emod_lt_of_pos _ (by omega)⟩
        rw [hqq] at hq
        have e1 : w6 (q + 1) = q + 1 := w6_id (by omega) (by omega)
        have e2 : w6 (d + 1) = d + 1 := w6_id (by omega) (by omega)
        have hm : (q + 1) * s.base ^ (i + 1) ≤ 20 * 8000 := Int.mul_le_mul (by omega) (by omega) (by omega) (by omega)
        have hm0 : 0 ≤ (q + 1) * s.base ^ (i + 1) := Int.mul_nonneg (by omega) (by omega)
        have hm2 : (q + 1 + 1) * s.base ^ (i + 1) ≤ 20 * 8000 := Int.mul_le_mul (by omega) (by omega) (by omega) (by omega)
        have hm3 : 0 ≤ (q + 1 + 1) * s.base ^ (i + 1) := Int.mul_nonneg (by omega) (by omega)
        have e3 : w6 (w6 (w6 (w6 (q + 1) * rwP s i) + rwP s i) - w6 (d + 1)) = (q + 1) * s.base ^ (i + 1) + s.base ^ (i + 1) - (d + 1) := by
          unfold rwP
          rw [e1, e2, w6_id (n := (q + 1) * s.base ^ (i + 1)) (by omega) (by omega), w6_id (n := (q + 1) * s.base ^ (i + 1) + s.base ^ (i + 1)) (by omega) (by omega), w6_id (by omega) (by omega)]
        have e4 : w6 (w6 (w6 (q + 1) + 1) * rwP s i) = (q + 1 + 1) * s.base ^ (i + 1) := by
          unfold rwP
          rw [e1, w6_id (n := q + 1 + 1) (by omega) (by omega), w6_id (by omega) (by omega)]
        have hq' : keep [Ob.cells (sysC s)] (binv Tryd.prog BinOp.rem 3 (i6 (w6 b)) (i6 (w6 (s.base - 2)))) = some (i6 q, [Ob.cells (sysC s)]) := by rw [hwb, hwb2]; exact hq
        have hd' : keep [Ob.cells (sysC s)] (binv Tryd.prog BinOp.rem 3 (i6 (w6 c)) (i6 s.sub)) = some (i6 d, [Ob.cells (sysC s)]) := by rw [hwc]; exact hd
        by_cases hbig : (q + 1) * s.base ^ (i + 1) + s.base ^ (i + 1) - (d + 1) > 9999
        · exact run (lsc_pflft s a b c d q (rwP s) (X15 []) (callerOf T13) 3 i hs hv h2 hloop hd' hq' (by rw [e3]; exact decide_eq_true hbig) c_awake)
        · obtain ⟨x, y, hx, hy, hn⟩ := sub_words hg hi (D := d + 1) (K := q + 1) (by omega) (by omega) (by omega) (by omega) (by omega)
          have hn0 : 0 ≤ (q + 1) * s.base ^ (i + 1) + s.base ^ (i + 1) - (d + 1) := by
            have : 0 ≤ (q + 1) * s.base ^ (i + 1) := hm0
            omega
          have h7 := c_words (dr := false) (σ := [Ob.cells (sysC s)]) (ro := 0) hk (words_of hva hn0 (by omega) hn)
          have h8 := c_words (dr := false) (σ := [Ob.cells (sysC s)]) (ro := 0) hk (words_of hva (n := d + 1) (by omega) (by omega) hx)
          obtain ⟨x1, x2⟩ := sayO_len s 6 _ x hx
          obtain ⟨y1, y2⟩ := sayO_len s 5 _ y hy
          have g1 := grow_new (σ := [Ob.cells (sysC s)]) (l := x) x1 (by omega)
          have g2 := grow_more (c := Ob.cells (sysC s)) (l := x) (m := [s.le]) (p := .list .clip 1 1 [.str s.le]) (is_one s.le) (by simp) (by simp only [List.length_cons, List.length_nil]; omega)
          have l1 : (x ++ [s.le]).length = x.length + 1 := by simp
          rw [l1] at g2
          by_cases hbig2 : (q + 1 + 1) * s.base ^ (i + 1) > 9999
          · have hw : wordsO s ((q + 1 + 1) * s.base ^ (i + 1)) = some ([], 2) := by unfold wordsO; rw [if_neg (by rw [hva]; simp; omega), if_pos hbig2]
            have h9 := c_words (dr := false) (σ := [Ob.cells (sysC s)]) (ro := 0) hk hw
            have g3 := grow_nil1 (c := Ob.cells (sysC s)) (l := x ++ [s.le]) (by rw [l1]; omega)
            rw [l1] at g3
            have g3' : appendv Tryd.prog 22 [Ob.cells (sysC s), Ob.arr (x.length + 1) 1 (List.map st (x ++ [s.le]))] 0 (AV.own 1 (x.length + 1)) (lst []) = some (AV.own 1 (x.length + 1 + ([] : List ByteArray).length), [Ob.cells (sysC s), Ob.arr (x.length + 1 + ([] : List ByteArray).length) 1 (List.map st (x ++ [s.le] ++ []))]) := by
              rw [List.append_nil]
              exact g3
            exact run (lsc_pflffftt s a b c d q 2 (rwP s) _ x [] (X15 []) (callerOf T13) 3 i hs hv h2 hloop hd' hq' (by rw [e3]; exact decide_eq_false hbig) (by rw [e3]; exact h7) (by rw [e2]; exact h8) (by rw [e4]; exact h9) g1 g2 g3' c_awake rfl (by rw [e4]; exact decide_eq_true hbig2) rfl)
          · have h9 := c_words (dr := false) (σ := [Ob.cells (sysC s)]) (ro := 0) hk (words_of hva (n := (q + 1 + 1) * s.base ^ (i + 1)) (by omega) (by omega) (sayO_mono 5 hy))
            have g3 := grow_more (c := Ob.cells (sysC s)) (l := x ++ [s.le]) (m := y) (p := lst y) (is_lst y) y1 (by rw [l1]; omega)
            have l2 : (x ++ [s.le] ++ y).length = x.length + 1 + y.length := by simp only [List.length_append, List.length_cons, List.length_nil]
            rw [l1, l2] at g3
            have ht := texts_own (T := T13) (fun _ => rfl) (c := Ob.cells (sysC s)) (l := x ++ s.le :: y) (m := x ++ [s.le] ++ y) (by have := say6_len hn; exact this)
            rw [show x ++ [s.le] ++ y = x ++ s.le :: y by simp, textsL_refl] at ht
            rw [show x ++ s.le :: y = x ++ [s.le] ++ y by simp, l2] at ht
            rw [show x ++ s.le :: y = x ++ [s.le] ++ y by simp] at h7
            have l3 : (x ++ [s.le] ++ y).length = (x ++ [s.le] ++ y).length := rfl
            exact run (lsc_pflfftf s a b c d q 0 (rwP s) (x ++ [s.le] ++ y) x y (X15 []) (callerOf T13) 3 i hs hv h2 hloop hd' hq' (by rw [e3]; exact decide_eq_false hbig) (by rw [e3]; exact h7) (by rw [e2]; exact h8) (by rw [e4]; exact h9) g1 g2 g3 c_awake rfl rfl (by
              have := ht
              rw [← l2]
              rw [← l2] at this
              exact this))
end Go.Proofs.Num
end
/- Numeral: Equal, head, rest: walked. -/
section
open Go Go.Vm Go.Proofs
namespace Go.Proofs.Num
def eqS0 (na : Nat) (nb : Nat) (a : List AV) (b : List AV) (i0 : Nat) : St :=
  stOf 26 [4, 5, 14, 15, 16, 17, 18, 19, 20, 21, 22, 23, 24, 25] [(0, lro na 1 a), (1, lro nb 1 b), (6, lro na 1 a), (7, i6 (↑na : Int)), (8, lro nb 1 b), (9, i6 (↑nb : Int)), (10, bo false), (11, lro na 1 a), (12, i6 (↑na : Int)), (13, i6 (↑i0 : Int))] []
def eqS1 (na : Nat) (nb : Nat) (a : List AV) (b : List AV) (ra : List AV) (rb : List AV) (x : ByteArray) (y : ByteArray) (i0 : Nat) : St :=
  stOf 26 [25] [(0, lro na 1 a), (1, lro nb 1 b), (4, bo false), (5, i6 (↑i0 : Int)), (6, lro na 1 a), (7, i6 (↑na : Int)), (8, lro nb 1 b), (9, i6 (↑nb : Int)), (10, bo false), (11, lro na 1 a), (12, i6 (↑na : Int)), (13, i6 (↑i0 : Int)), (14, bo true), (15, i6 (↑i0 : Int)), (16, lro na 1 a), (17, i6 (↑i0 : Int)), (18, AV.eaddr ra), (19, st x), (20, lro nb 1 b), (21, i6 (↑i0 : Int)), (22, AV.eaddr rb), (23, st y), (24, bo true)] []
def eqS2 (na : Nat) (nb : Nat) (a : List AV) (b : List AV) : St :=
  stOf 26 [] [(0, lro na 1 a), (1, lro nb 1 b), (4, bo false), (6, lro na 1 a), (7, i6 (↑na : Int)), (8, lro nb 1 b), (9, i6 (↑nb : Int)), (10, bo false), (11, lro na 1 a), (12, i6 (↑na : Int)), (13, i6 0)] []
def eqS3 (na : Nat) (nb : Nat) (a : List AV) (b : List AV) (ra : List AV) (rb : List AV) (x : ByteArray) (y : ByteArray) (i0 : Nat) : St :=
  stOf 26 [4] [(0, lro na 1 a), (1, lro nb 1 b), (5, i6 (↑i0 : Int)), (6, lro na 1 a), (7, i6 (↑na : Int)), (8, lro nb 1 b), (9, i6 (↑nb : Int)), (10, bo false), (11, lro na 1 a), (12, i6 (↑na : Int)), (13, i6 (w6 ((↑i0 : Int) + 1))), (14, bo true), (15, i6 (↑i0 : Int)), (16, lro na 1 a), (17, i6 (↑i0 : Int)), (18, AV.eaddr ra), (19, st x), (20, lro nb 1 b), (21, i6 (↑i0 : Int)), (22, AV.eaddr rb), (23, st y), (24, bo false), (25, i6 (w6 ((↑i0 : Int) + 1)))] []
def eqS4 (na : Nat) (nb : Nat) (a : List AV) (b : List AV) (i0 : Nat) : St :=
  stOf 26 [4, 5, 15, 16, 17, 18, 19, 20, 21, 22, 23, 24, 25] [(0, lro na 1 a), (1, lro nb 1 b), (6, lro na 1 a), (7, i6 (↑na : Int)), (8, lro nb 1 b), (9, i6 (↑nb : Int)), (10, bo false), (11, lro na 1 a), (12, i6 (↑na : Int)), (13, i6 (↑i0 : Int)), (14, bo false)] []
theorem eq_pt (na : Nat) (nb : Nat) (a : List AV) (b : List AV) (X : Ext) (call : Caller) (lf : Nat)
  (h0 : ((↑na : Int) != (↑nb : Int)) = true) : vbody Tryd.prog X call lf noFg Tryd.f60 (codeOf Tryd.f60) [lro na 1 a, lro nb 1 b] [] 0 = some (bo false, []) :=
  along_sound (ans := [(7, Ans.b true)]) (by kernel_rfl) (And.intro h0 trivial)
theorem eq_r0_tt (na : Nat) (nb : Nat) (a : List AV) (b : List AV) (ra : List AV) (rb : List AV) (x : ByteArray) (y : ByteArray) (X : Ext) (call : Caller) (lf : Nat) (i0 : Nat)
  (h0 : decide ((↑i0 : Int) < (↑na : Int)) = true)
  (h1 : keep [] (indexAddrv Tryd.prog 22 [] (lro na 1 a) (i6 (↑i0 : Int))) = some (AV.eaddr ra, []))
  (h2 : keep [] (loadv Tryd.prog 9 [] (AV.eaddr ra)) = some (st x, []))
  (h3 : keep [] (indexAddrv Tryd.prog 22 [] (lro nb 1 b) (i6 (↑i0 : Int))) = some (AV.eaddr rb, []))
  (h4 : keep [] (loadv Tryd.prog 9 [] (AV.eaddr rb)) = some (st y, []))
  (h5 : (!ByteArray.toList x == ByteArray.toList y) = true) : vexec Tryd.prog X call lf 0 noFg (loopN Tryd.f60 0) (eqS0 na nb a b i0) = some (Ex.ret, (eqS1 na nb a b ra rb x y i0)) :=
  around_sound (ans := [(1, Ans.b true), (9, Ans.v (AV.eaddr ra)), (10, Ans.v (st x)), (13, Ans.v (AV.eaddr rb)), (14, Ans.v (st y)), (15, Ans.b true)]) (by kernel_rfl) (And.intro h0 (And.intro h1 (And.intro h2 (And.intro h3 (And.intro h4 (And.intro h5 trivial))))))
theorem eq_pfltt (na : Nat) (nb : Nat) (a : List AV) (b : List AV) (ra : List AV) (rb : List AV) (x : ByteArray) (y : ByteArray) (X : Ext) (call : Caller) (lf : Nat) (i0 : Nat)
  (h0 : ((↑na : Int) != (↑nb : Int)) = false)
  (h1 : vexec Tryd.prog X call lf 0 noFg (Code.loop (loopN Tryd.f60 0)) (eqS2 na nb a b) = some (Ex.ret, (eqS1 na nb a b ra rb x y i0))) : vbody Tryd.prog X call lf noFg Tryd.f60 (codeOf Tryd.f60) [lro na 1 a, lro nb 1 b] [] 0 = some (bo false, []) :=
  along_sound (ans := [(7, Ans.b false), (13, Ans.l Ex.ret (eqS1 na nb a b ra rb x y i0))]) (by kernel_rfl) (And.intro h0 (And.intro h1 trivial))
theorem eq_r0_tf (na : Nat) (nb : Nat) (a : List AV) (b : List AV) (ra : List AV) (rb : List AV) (x : ByteArray) (y : ByteArray) (X : Ext) (call : Caller) (lf : Nat) (i0 : Nat)
  (h0 : decide ((↑i0 : Int) < (↑na : Int)) = true)
  (h1 : keep [] (indexAddrv Tryd.prog 22 [] (lro na 1 a) (i6 (↑i0 : Int))) = some (AV.eaddr ra, []))
  (h2 : keep [] (loadv Tryd.prog 9 [] (AV.eaddr ra)) = some (st x, []))
  (h3 : keep [] (indexAddrv Tryd.prog 22 [] (lro nb 1 b) (i6 (↑i0 : Int))) = some (AV.eaddr rb, []))
  (h4 : keep [] (loadv Tryd.prog 9 [] (AV.eaddr rb)) = some (st y, []))
  (h5 : (!ByteArray.toList x == ByteArray.toList y) = false) : vexec Tryd.prog X call lf 0 noFg (loopN Tryd.f60 0) (eqS0 na nb a b i0) = some (Ex.normal, (eqS3 na nb a b ra rb x y i0)) :=
  around_sound (ans := [(1, Ans.b true), (9, Ans.v (AV.eaddr ra)), (10, Ans.v (st x)), (13, Ans.v (AV.eaddr rb)), (14, Ans.v (st y)), (15, Ans.b false)]) (by kernel_rfl) (And.intro h0 (And.intro h1 (And.intro h2 (And.intro h3 (And.intro h4 (And.intro h5 trivial))))))
theorem eq_r0_f (na : Nat) (nb : Nat) (a : List AV) (b : List AV) (X : Ext) (call : Caller) (lf : Nat) (i0 : Nat)
  (h0 : decide ((↑i0 : Int) < (↑na : Int)) = false) : vexec Tryd.prog X call lf 0 noFg (loopN Tryd.f60 0) (eqS0 na nb a b i0) = some (Ex.exit 0, (eqS4 na nb a b i0)) :=
  around_sound (ans := [(1, Ans.b false)]) (by kernel_rfl) (And.intro h0 trivial)
theorem eq_pflf (na : Nat) (nb : Nat) (a : List AV) (b : List AV) (X : Ext) (call : Caller) (lf : Nat) (i0 : Nat)
  (h0 : ((↑na : Int) != (↑nb : Int)) = false)
  (h1 : vexec Tryd.prog X call lf 0 noFg (Code.loop (loopN Tryd.f60 0)) (eqS2 na nb a b) = some (Ex.exit 0, (eqS4 na nb a b i0))) : vbody Tryd.prog X call lf noFg Tryd.f60 (codeOf Tryd.f60) [lro na 1 a, lro nb 1 b] [] 0 = some (bo true, []) :=
  along_sound (ans := [(7, Ans.b false), (13, Ans.l (Ex.exit 0) (eqS4 na nb a b i0))]) (by kernel_rfl) (And.intro h0 (And.intro h1 trivial))
theorem head_ptt (s : NSys) (q : Int) (i : Int) (ra : List AV) (x : ByteArray) (X : Ext) (call : Caller) (lf : Nat)
  (h0 : (q == 1) = true)
  (h1 : NSys.om s = true)
  (h2 : keep [Ob.cells (sysC s)] (indexAddrv Tryd.prog 22 [Ob.cells (sysC s)] (lro (List.length (NSys.powers s)) 1 (List.map st (NSys.powers s))) (i6 i)) = some (AV.eaddr ra, [Ob.cells (sysC s)]))
  (h3 : keep [Ob.cells (sysC s)] (loadv Tryd.prog 9 [Ob.cells (sysC s)] (AV.eaddr ra)) = some (st x, [Ob.cells (sysC s)])) : vbody Tryd.prog X call lf noFg Tryd.f59 (codeOf Tryd.f59) [AV.agg (sysC s), i6 q, i6 i] [] 0 = some (AV.list LK.clip 1 1 [st x], [Ob.cells (sysC s)]) :=
  along_sound (ans := [(5, Ans.b true), (12, Ans.b true), (20, Ans.v (AV.eaddr ra)), (21, Ans.v (st x))]) (by kernel_rfl) (And.intro h0 (And.intro h1 (And.intro h2 (And.intro h3 trivial))))
theorem head_ptf (s : NSys) (q : Int) (i : Int) (ra : List AV) (rb : List AV) (x : ByteArray) (y : ByteArray) (X : Ext) (call : Caller) (lf : Nat)
  (h0 : (q == 1) = true)
  (h1 : NSys.om s = false)
  (h2 : keep [Ob.cells (sysC s)] (indexAddrv Tryd.prog 22 [Ob.cells (sysC s)] (lro (List.length (NSys.digits s)) 1 (List.map st (NSys.digits s))) (i6 q)) = some (AV.eaddr ra, [Ob.cells (sysC s)]))
  (h3 : keep [Ob.cells (sysC s)] (loadv Tryd.prog 9 [Ob.cells (sysC s)] (AV.eaddr ra)) = some (st x, [Ob.cells (sysC s)]))
  (h4 : keep [Ob.cells (sysC s)] (indexAddrv Tryd.prog 22 [Ob.cells (sysC s)] (lro (List.length (NSys.powers s)) 1 (List.map st (NSys.powers s))) (i6 i)) = some (AV.eaddr rb, [Ob.cells (sysC s)]))
  (h5 : keep [Ob.cells (sysC s)] (loadv Tryd.prog 9 [Ob.cells (sysC s)] (AV.eaddr rb)) = some (st y, [Ob.cells (sysC s)])) : vbody Tryd.prog X call lf noFg Tryd.f59 (codeOf Tryd.f59) [AV.agg (sysC s), i6 q, i6 i] [] 0 = some (AV.list LK.clip 2 1 [st x, st y], [Ob.cells (sysC s)]) :=
  along_sound (ans := [(5, Ans.b true), (12, Ans.b false), (20, Ans.v (AV.eaddr ra)), (21, Ans.v (st x)), (26, Ans.v (AV.eaddr rb)), (27, Ans.v (st y))]) (by kernel_rfl) (And.intro h0 (And.intro h1 (And.intro h2 (And.intro h3 (And.intro h4 (And.intro h5 trivial))))))
theorem head_pf (s : NSys) (q : Int) (i : Int) (ra : List AV) (rb : List AV) (x : ByteArray) (y : ByteArray) (X : Ext) (call : Caller) (lf : Nat)
  (h0 : (q == 1) = false)
  (h1 : keep [Ob.cells (sysC s)] (indexAddrv Tryd.prog 22 [Ob.cells (sysC s)] (lro (List.length (NSys.digits s)) 1 (List.map st (NSys.digits s))) (i6 q)) = some (AV.eaddr ra, [Ob.cells (sysC s)]))
  (h2 : keep [Ob.cells (sysC s)] (loadv Tryd.prog 9 [Ob.cells (sysC s)] (AV.eaddr ra)) = some (st x, [Ob.cells (sysC s)]))
  (h3 : keep [Ob.cells (sysC s)] (indexAddrv Tryd.prog 22 [Ob.cells (sysC s)] (lro (List.length (NSys.powers s)) 1 (List.map st (NSys.powers s))) (i6 i)) = some (AV.eaddr rb, [Ob.cells (sysC s)]))
  (h4 : keep [Ob.cells (sysC s)] (loadv Tryd.prog 9 [Ob.cells (sysC s)] (AV.eaddr rb)) = some (st y, [Ob.cells (sysC s)])) : vbody Tryd.prog X call lf noFg Tryd.f59 (codeOf Tryd.f59) [AV.agg (sysC s), i6 q, i6 i] [] 0 = some (AV.list LK.clip 2 1 [st x, st y], [Ob.cells (sysC s)]) :=
  along_sound (ans := [(5, Ans.b false), (17, Ans.v (AV.eaddr ra)), (18, Ans.v (st x)), (23, Ans.v (AV.eaddr rb)), (24, Ans.v (st y))]) (by kernel_rfl) (And.intro h0 (And.intro h1 (And.intro h2 (And.intro h3 (And.intro h4 trivial)))))
theorem rest_pt (s : NSys) (t : List ByteArray) (h : List ByteArray) (X : Ext) (call : Caller) (lf : Nat)
  (h0 : decide (w6 ((↑(List.length t) : Int) - (↑(List.length h) : Int)) < 0) = true) : vbody Tryd.prog X call lf noFg Tryd.f58 (codeOf Tryd.f58) [AV.agg (sysC s), lro (List.length t) 1 (List.map st t), lro (List.length h) 1 (List.map st h)] [] 0 = some (AV.tup [AV.list LK.nil 0 0 [], bo false], [Ob.cells (sysC s)]) :=
  along_sound (ans := [(13, Ans.b true)]) (by kernel_rfl) (And.intro h0 trivial)
theorem rest_pfttt (s : NSys) (t : List ByteArray) (h : List ByteArray) (a : List ByteArray) (o : List ByteArray) (a2 : List ByteArray) (o2 : List ByteArray) (X : Ext) (call : Caller) (lf : Nat)
  (h0 : decide (w6 ((↑(List.length t) : Int) - (↑(List.length h) : Int)) < 0) = false)
  (h1 : slc Tryd.prog 22 [Ob.cells (sysC s)] true 0 (lro (List.length t) 1 (List.map st t)) none (some (i6 (↑(List.length h) : Int))) none = some (lro (List.length a) 1 (List.map st a), [Ob.cells (sysC s)]))
  (h2 : slc Tryd.prog 22 [Ob.cells (sysC s)] true 0 (lro (List.length t) 1 (List.map st t)) (some (i6 (↑(List.length h) : Int))) none none = some (lro (List.length o) 1 (List.map st o), [Ob.cells (sysC s)]))
  (h3 : NSys.sf s = true)
  (h4 : slc Tryd.prog 22 [Ob.cells (sysC s)] true 0 (lro (List.length t) 1 (List.map st t)) (some (i6 (w6 ((↑(List.length t) : Int) - (↑(List.length h) : Int))))) none none = some (lro (List.length a2) 1 (List.map st a2), [Ob.cells (sysC s)]))
  (h5 : slc Tryd.prog 22 [Ob.cells (sysC s)] true 0 (lro (List.length t) 1 (List.map st t)) none (some (i6 (w6 ((↑(List.length t) : Int) - (↑(List.length h) : Int))))) none = some (lro (List.length o2) 1 (List.map st o2), [Ob.cells (sysC s)]))
  (h6 : callv X call false 60 [lro (List.length a2) 1 (List.map st a2), lro (List.length h) 1 (List.map st h)] [Ob.cells (sysC s)] 0 = some (bo true, [Ob.cells (sysC s)]))
  (h7 : (w6 ((↑(List.length t) : Int) - (↑(List.length h) : Int)) == 0) = true)
  (h8 : vend1 [] 0 [Ob.cells (sysC s)] [lro (List.length o2) 1 (List.map st o2), bo true] = some (AV.tup [lro (List.length o2) 1 (List.map st o2), bo true], [Ob.cells (sysC s)])) : vbody Tryd.prog X call lf noFg Tryd.f58 (codeOf Tryd.f58) [AV.agg (sysC s), lro (List.length t) 1 (List.map st t), lro (List.length h) 1 (List.map st h)] [] 0 = some (AV.tup [lro (List.length o2) 1 (List.map st o2), bo true], [Ob.cells (sysC s)]) :=
  along_sound (ans := [(13, Ans.b false), (19, Ans.v (lro (List.length a) 1 (List.map st a))), (23, Ans.v (lro (List.length o) 1 (List.map st o))), (29, Ans.b true), (34, Ans.v (lro (List.length a2) 1 (List.map st a2))), (37, Ans.v (lro (List.length o2) 1 (List.map st o2))), (43, Ans.v (bo true)), (48, Ans.b true), (60, Ans.c (AV.tup [lro (List.length o2) 1 (List.map st o2), bo true]) [Ob.cells (sysC s)])]) (by kernel_rfl) (And.intro h0 (And.intro h1 (And.intro h2 (And.intro h3 (And.intro h4 (And.intro h5 (And.intro h6 (And.intro h7 (And.intro h8 trivial)))))))))
theorem rest_pfttft (s : NSys) (t : List ByteArray) (h : List ByteArray) (a : List ByteArray) (o : List ByteArray) (a2 : List ByteArray) (o2 : List ByteArray) (X : Ext) (call : Caller) (lf : Nat)
  (h0 : decide (w6 ((↑(List.length t) : Int) - (↑(List.length h) : Int)) < 0) = false)
  (h1 : slc Tryd.prog 22 [Ob.cells (sysC s)] true 0 (lro (List.length t) 1 (List.map st t)) none (some (i6 (↑(List.length h) : Int))) none = some (lro (List.length a) 1 (List.map st a), [Ob.cells (sysC s)]))
  (h2 : slc Tryd.prog 22 [Ob.cells (sysC s)] true 0 (lro (List.length t) 1 (List.map st t)) (some (i6 (↑(List.length h) : Int))) none none = some (lro (List.length o) 1 (List.map st o), [Ob.cells (sysC s)]))
  (h3 : NSys.sf s = true)
  (h4 : slc Tryd.prog 22 [Ob.cells (sysC s)] true 0 (lro (List.length t) 1 (List.map st t)) (some (i6 (w6 ((↑(List.length t) : Int) - (↑(List.length h) : Int))))) none none = some (lro (List.length a2) 1 (List.map st a2), [Ob.cells (sysC s)]))
  (h5 : slc Tryd.prog 22 [Ob.cells (sysC s)] true 0 (lro (List.length t) 1 (List.map st t)) none (some (i6 (w6 ((↑(List.length t) : Int) - (↑(List.length h) : Int))))) none = some (lro (List.length o2) 1 (List.map st o2), [Ob.cells (sysC s)]))
  (h6 : callv X call false 60 [lro (List.length a2) 1 (List.map st a2), lro (List.length h) 1 (List.map st h)] [Ob.cells (sysC s)] 0 = some (bo true, [Ob.cells (sysC s)]))
  (h7 : (w6 ((↑(List.length t) : Int) - (↑(List.length h) : Int)) == 0) = false)
  (h8 : (empB (NSys.jo s)) = true)
  (h9 : vend1 [] 0 [Ob.cells (sysC s)] [lro (List.length o2) 1 (List.map st o2), bo true] = some (AV.tup [lro (List.length o2) 1 (List.map st o2), bo true], [Ob.cells (sysC s)])) : vbody Tryd.prog X call lf noFg Tryd.f58 (codeOf Tryd.f58) [AV.agg (sysC s), lro (List.length t) 1 (List.map st t), lro (List.length h) 1 (List.map st h)] [] 0 = some (AV.tup [lro (List.length o2) 1 (List.map st o2), bo true], [Ob.cells (sysC s)]) :=
  along_sound (ans := [(13, Ans.b false), (19, Ans.v (lro (List.length a) 1 (List.map st a))), (23, Ans.v (lro (List.length o) 1 (List.map st o))), (29, Ans.b true), (34, Ans.v (lro (List.length a2) 1 (List.map st a2))), (37, Ans.v (lro (List.length o2) 1 (List.map st o2))), (43, Ans.v (bo true)), (48, Ans.b false), (57, Ans.b true), (64, Ans.c (AV.tup [lro (List.length o2) 1 (List.map st o2), bo true]) [Ob.cells (sysC s)])]) (by kernel_rfl) (And.intro h0 (And.intro h1 (And.intro h2 (And.intro h3 (And.intro h4 (And.intro h5 (And.intro h6 (And.intro h7 (And.intro h8 (And.intro h9 trivial))))))))))
theorem rest_pfttffttt (s : NSys) (t : List ByteArray) (h : List ByteArray) (a : List ByteArray) (o : List ByteArray) (a2 : List ByteArray) (o2 : List ByteArray) (u : List ByteArray) (ra : List AV) (x : ByteArray) (X : Ext) (call : Caller) (lf : Nat)
  (h0 : decide (w6 ((↑(List.length t) : Int) - (↑(List.length h) : Int)) < 0) = false)
  (h1 : slc Tryd.prog 22 [Ob.cells (sysC s)] true 0 (lro (List.length t) 1 (List.map st t)) none (some (i6 (↑(List.length h) : Int))) none = some (lro (List.length a) 1 (List.map st a), [Ob.cells (sysC s)]))
  (h2 : slc Tryd.prog 22 [Ob.cells (sysC s)] true 0 (lro (List.length t) 1 (List.map st t)) (some (i6 (↑(List.length h) : Int))) none none = some (lro (List.length o) 1 (List.map st o), [Ob.cells (sysC s)]))
  (h3 : NSys.sf s = true)
  (h4 : slc Tryd.prog 22 [Ob.cells (sysC s)] true 0 (lro (List.length t) 1 (List.map st t)) (some (i6 (w6 ((↑(List.length t) : Int) - (↑(List.length h) : Int))))) none none = some (lro (List.length a2) 1 (List.map st a2), [Ob.cells (sysC s)]))
  (h5 : slc Tryd.prog 22 [Ob.cells (sysC s)] true 0 (lro (List.length t) 1 (List.map st t)) none (some (i6 (w6 ((↑(List.length t) : Int) - (↑(List.length h) : Int))))) none = some (lro (List.length o2) 1 (List.map st o2), [Ob.cells (sysC s)]))
  (h6 : callv X call false 60 [lro (List.length a2) 1 (List.map st a2), lro (List.length h) 1 (List.map st h)] [Ob.cells (sysC s)] 0 = some (bo true, [Ob.cells (sysC s)]))
  (h7 : (w6 ((↑(List.length t) : Int) - (↑(List.length h) : Int)) == 0) = false)
  (h8 : (empB (NSys.jo s)) = false)
  (h9 : NSys.sf s = true)
  (h10 : slc Tryd.prog 22 [Ob.cells (sysC s)] true 0 (lro (List.length o2) 1 (List.map st o2)) none (some (i6 (w6 (w6 ((↑(List.length t) : Int) - (↑(List.length h) : Int)) - 1)))) none = some (lro (List.length u) 1 (List.map st u), [Ob.cells (sysC s)]))
  (h11 : decide (w6 ((↑(List.length t) : Int) - (↑(List.length h) : Int)) > 1) = true)
  (h12 : keep [Ob.cells (sysC s)] (indexAddrv Tryd.prog 22 [Ob.cells (sysC s)] (lro (List.length o2) 1 (List.map st o2)) (i6 (w6 (w6 ((↑(List.length t) : Int) - (↑(List.length h) : Int)) - 1)))) = some (AV.eaddr ra, [Ob.cells (sysC s)]))
  (h13 : keep [Ob.cells (sysC s)] (loadv Tryd.prog 9 [Ob.cells (sysC s)] (AV.eaddr ra)) = some (st x, [Ob.cells (sysC s)]))
  (h14 : (ByteArray.toList x == ByteArray.toList (NSys.jo s)) = true)
  (h15 : vend1 [] 0 [Ob.cells (sysC s)] [lro (List.length u) 1 (List.map st u), bo true] = some (AV.tup [lro (List.length u) 1 (List.map st u), bo true], [Ob.cells (sysC s)])) : vbody Tryd.prog X call lf noFg Tryd.f58 (codeOf Tryd.f58) [AV.agg (sysC s), lro (List.length t) 1 (List.map st t), lro (List.length h) 1 (List.map st h)] [] 0 = some (AV.tup [lro (List.length u) 1 (List.map st u), bo true], [Ob.cells (sysC s)]) :=
  along_sound (ans := [(13, Ans.b false), (19, Ans.v (lro (List.length a) 1 (List.map st a))), (23, Ans.v (lro (List.length o) 1 (List.map st o))), (29, Ans.b true), (34, Ans.v (lro (List.length a2) 1 (List.map st a2))), (37, Ans.v (lro (List.length o2) 1 (List.map st o2))), (43, Ans.v (bo true)), (48, Ans.b false), (57, Ans.b false), (63, Ans.b true), (69, Ans.v (lro (List.length u) 1 (List.map st u))), (71, Ans.b true), (80, Ans.v (AV.eaddr ra)), (82, Ans.v (st x)), (90, Ans.b true), (94, Ans.c (AV.tup [lro (List.length u) 1 (List.map st u), bo true]) [Ob.cells (sysC s)])]) (by kernel_rfl) (And.intro h0 (And.intro h1 (And.intro h2 (And.intro h3 (And.intro h4 (And.intro h5 (And.intro h6 (And.intro h7 (And.intro h8 (And.intro h9 (And.intro h10 (And.intro h11 (And.intro h12 (And.intro h13 (And.intro h14 (And.intro h15 trivial))))))))))))))))
theorem rest_pfttffttf (s : NSys) (t : List ByteArray) (h : List ByteArray) (a : List ByteArray) (o : List ByteArray) (a2 : List ByteArray) (o2 : List ByteArray) (u : List ByteArray) (ra : List AV) (x : ByteArray) (X : Ext) (call : Caller) (lf : Nat)
  (h0 : decide (w6 ((↑(List.length t) : Int) - (↑(List.length h) : Int)) < 0) = false)
  (h1 : slc Tryd.prog 22 [Ob.cells (sysC s)] true 0 (lro (List.length t) 1 (List.map st t)) none (some (i6 (↑(List.length h) : Int))) none = some (lro (List.length a) 1 (List.map st a), [Ob.cells (sysC s)]))
  (h2 : slc Tryd.prog 22 [Ob.cells (sysC s)] true 0 (lro (List.length t) 1 (List.map st t)) (some (i6 (↑(List.length h) : Int))) none none = some (lro (List.length o) 1 (List.map st o), [Ob.cells (sysC s)]))
  (h3 : NSys.sf s = true)
  (h4 : slc Tryd.prog 22 [Ob.cells (sysC s)] true 0 (lro (List.length t) 1 (List.map st t)) (some (i6 (w6 ((↑(List.length t) : Int) - (↑(List.length h) : Int))))) none none = some (lro (List.length a2) 1 (List.map st a2), [Ob.cells (sysC s)]))
  (h5 : slc Tryd.prog 22 [Ob.cells (sysC s)] true 0 (lro (List.length t) 1 (List.map st t)) none (some (i6 (w6 ((↑(List.length t) : Int) - (↑(List.length h) : Int))))) none = some (lro (List.length o2) 1 (List.map st o2), [Ob.cells (sysC s)]))
  (h6 : callv X call false 60 [lro (List.length a2) 1 (List.map st a2), lro (List.length h) 1 (List.map st h)] [Ob.cells (sysC s)] 0 = some (bo true, [Ob.cells (sysC s)]))
  (h7 : (w6 ((↑(List.length t) : Int) - (↑(List.length h) : Int)) == 0) = false)
  (h8 : (empB (NSys.jo s)) = false)
  (h9 : NSys.sf s = true)
  (h10 : slc Tryd.prog 22 [Ob.cells (sysC s)] true 0 (lro (List.length o2) 1 (List.map st o2)) none (some (i6 (w6 (w6 ((↑(List.length t) : Int) - (↑(List.length h) : Int)) - 1)))) none = some (lro (List.length u) 1 (List.map st u), [Ob.cells (sysC s)]))
  (h11 : decide (w6 ((↑(List.length t) : Int) - (↑(List.length h) : Int)) > 1) = true)
  (h12 : keep [Ob.cells (sysC s)] (indexAddrv Tryd.prog 22 [Ob.cells (sysC s)] (lro (List.length o2) 1 (List.map st o2)) (i6 (w6 (w6 ((↑(List.length t) : Int) - (↑(List.length h) : Int)) - 1)))) = some (AV.eaddr ra, [Ob.cells (sysC s)]))
  (h13 : keep [Ob.cells (sysC s)] (loadv Tryd.prog 9 [Ob.cells (sysC s)] (AV.eaddr ra)) = some (st x, [Ob.cells (sysC s)]))
  (h14 : (ByteArray.toList x == ByteArray.toList (NSys.jo s)) = false)
  (h15 : vend1 [] 0 [Ob.cells (sysC s)] [lro (List.length u) 1 (List.map st u), bo false] = some (AV.tup [lro (List.length u) 1 (List.map st u), bo false], [Ob.cells (sysC s)])) : vbody Tryd.prog X call lf noFg Tryd.f58 (codeOf Tryd.f58) [AV.agg (sysC s), lro (List.length t) 1 (List.map st t), lro (List.length h) 1 (List.map st h)] [] 0 = some (AV.tup [lro (List.length u) 1 (List.map st u), bo false], [Ob.cells (sysC s)]) :=
  along_sound (ans := [(13, Ans.b false), (19, Ans.v (lro (List.length a) 1 (List.map st a))), (23, Ans.v (lro (List.length o) 1 (List.map st o))), (29, Ans.b true), (34, Ans.v (lro (List.length a2) 1 (List.map st a2))), (37, Ans.v (lro (List.length o2) 1 (List.map st o2))), (43, Ans.v (bo true)), (48, Ans.b false), (57, Ans.b false), (63, Ans.b true), (69, Ans.v (lro (List.length u) 1 (List.map st u))), (71, Ans.b true), (80, Ans.v (AV.eaddr ra)), (82, Ans.v (st x)), (90, Ans.b false), (94, Ans.c (AV.tup [lro (List.length u) 1 (List.map st u), bo false]) [Ob.cells (sysC s)])]) (by kernel_rfl) (And.intro h0 (And.intro h1 (And.intro h2 (And.intro h3 (And.intro h4 (And.intro h5 (And.intro h6 (And.intro h7 (And.intro h8 (And.intro h9 (And.intro h10 (And.intro h11 (And.intro h12 (And.intro h13 (And.intro h14 (And.intro h15 trivial))))))))))))))))
theorem rest_pfttfftf (s : NSys) (t : List ByteArray) (h : List ByteArray) (a : List ByteArray) (o : List ByteArray) (a2 : List ByteArray) (o2 : List ByteArray) (u : List ByteArray) (X : Ext) (call : Caller) (lf : Nat)
  (h0 : decide (w6 ((↑(List.length t) : Int) - (↑(List.length h) : Int)) < 0) = false)
  (h1 : slc Tryd.prog 22 [Ob.cells (sysC s)] true 0 (lro (List.length t) 1 (List.map st t)) none (some (i6 (↑(List.length h) : Int))) none = some (lro (List.length a) 1 (List.map st a), [Ob.cells (sysC s)]))
  (h2 : slc Tryd.prog 22 [Ob.cells (sysC s)] true 0 (lro (List.length t) 1 (List.map st t)) (some (i6 (↑(List.length h) : Int))) none none = some (lro (List.length o) 1 (List.map st o), [Ob.cells (sysC s)]))
  (h3 : NSys.sf s = true)
  (h4 : slc Tryd.prog 22 [Ob.cells (sysC s)] true 0 (lro (List.length t) 1 (List.map st t)) (some (i6 (w6 ((↑(List.length t) : Int) - (↑(List.length h) : Int))))) none none = some (lro (List.length a2) 1 (List.map st a2), [Ob.cells (sysC s)]))
  (h5 : slc Tryd.prog 22 [Ob.cells (sysC s)] true 0 (lro (List.length t) 1 (List.map st t)) none (some (i6 (w6 ((↑(List.length t) : Int) - (↑(List.length h) : Int))))) none = some (lro (List.length o2) 1 (List.map st o2), [Ob.cells (sysC s)]))
  (h6 : callv X call false 60 [lro (List.length a2) 1 (List.map st a2), lro (List.length h) 1 (List.map st h)] [Ob.cells (sysC s)] 0 = some (bo true, [Ob.cells (sysC s)]))
  (h7 : (w6 ((↑(List.length t) : Int) - (↑(List.length h) : Int)) == 0) = false)
  (h8 : (empB (NSys.jo s)) = false)
  (h9 : NSys.sf s = true)
  (h10 : slc Tryd.prog 22 [Ob.cells (sysC s)] true 0 (lro (List.length o2) 1 (List.map st o2)) none (some (i6 (w6 (w6 ((↑(List.length t) : Int) - (↑(List.length h) : Int)) - 1)))) none = some (lro (List.length u) 1 (List.map st u), [Ob.cells (sysC s)]))
  (h11 : decide (w6 ((↑(List.length t) : Int) - (↑(List.length h) : Int)) > 1) = false)
  (h12 : vend1 [] 0 [Ob.cells (sysC s)] [lro (List.length u) 1 (List.map st u), bo false] = some (AV.tup [lro (List.length u) 1 (List.map st u), bo false], [Ob.cells (sysC s)])) : vbody Tryd.prog X call lf noFg Tryd.f58 (codeOf Tryd.f58) [AV.agg (sysC s), lro (List.length t) 1 (List.map st t), lro (List.length h) 1 (List.map st h)] [] 0 = some (AV.tup [lro (List.length u) 1 (List.map st u), bo false], [Ob.cells (sysC s)]) :=
  along_sound (ans := [(13, Ans.b false), (19, Ans.v (lro (List.length a) 1 (List.map st a))), (23, Ans.v (lro (List.length o) 1 (List.map st o))), (29, Ans.b true), (34, Ans.v (lro (List.length a2) 1 (List.map st a2))), (37, Ans.v (lro (List.length o2) 1 (List.map st o2))), (43, Ans.v (bo true)), (48, Ans.b false), (57, Ans.b false), (63, Ans.b true), (69, Ans.v (lro (List.length u) 1 (List.map st u))), (71, Ans.b false), (85, Ans.c (AV.tup [lro (List.length u) 1 (List.map st u), bo false]) [Ob.cells (sysC s)])]) (by kernel_rfl) (And.intro h0 (And.intro h1 (And.intro h2 (And.intro h3 (And.intro h4 (And.intro h5 (And.intro h6 (And.intro h7 (And.intro h8 (And.intro h9 (And.intro h10 (And.intro h11 (And.intro h12 trivial)))))))))))))
theorem rest_pftf (s : NSys) (t : List ByteArray) (h : List ByteArray) (a : List ByteArray) (o : List ByteArray) (a2 : List ByteArray) (o2 : List ByteArray) (X : Ext) (call : Caller) (lf : Nat)
  (h0 : decide (w6 ((↑(List.length t) : Int) - (↑(List.length h) : Int)) < 0) = false)
  (h1 : slc Tryd.prog 22 [Ob.cells (sysC s)] true 0 (lro (List.length t) 1 (List.map st t)) none (some (i6 (↑(List.length h) : Int))) none = some (lro (List.length a) 1 (List.map st a), [Ob.cells (sysC s)]))
  (h2 : slc Tryd.prog 22 [Ob.cells (sysC s)] true 0 (lro (List.length t) 1 (List.map st t)) (some (i6 (↑(List.length h) : Int))) none none = some (lro (List.length o) 1 (List.map st o), [Ob.cells (sysC s)]))
  (h3 : NSys.sf s = true)
  (h4 : slc Tryd.prog 22 [Ob.cells (sysC s)] true 0 (lro (List.length t) 1 (List.map st t)) (some (i6 (w6 ((↑(List.length t) : Int) - (↑(List.length h) : Int))))) none none = some (lro (List.length a2) 1 (List.map st a2), [Ob.cells (sysC s)]))
  (h5 : slc Tryd.prog 22 [Ob.cells (sysC s)] true 0 (lro (List.length t) 1 (List.map st t)) none (some (i6 (w6 ((↑(List.length t) : Int) - (↑(List.length h) : Int))))) none = some (lro (List.length o2) 1 (List.map st o2), [Ob.cells (sysC s)]))
  (h6 : callv X call false 60 [lro (List.length a2) 1 (List.map st a2), lro (List.length h) 1 (List.map st h)] [Ob.cells (sysC s)] 0 = some (bo false, [Ob.cells (sysC s)])) : vbody Tryd.prog X call lf noFg Tryd.f58 (codeOf Tryd.f58) [AV.agg (sysC s), lro (List.length t) 1 (List.map st t), lro (List.length h) 1 (List.map st h)] [] 0 = some (AV.tup [AV.list LK.nil 0 0 [], bo false], [Ob.cells (sysC s)]) :=
  along_sound (ans := [(13, Ans.b false), (19, Ans.v (lro (List.length a) 1 (List.map st a))), (23, Ans.v (lro (List.length o) 1 (List.map st o))), (29, Ans.b true), (34, Ans.v (lro (List.length a2) 1 (List.map st a2))), (37, Ans.v (lro (List.length o2) 1 (List.map st o2))), (43, Ans.v (bo false))]) (by kernel_rfl) (And.intro h0 (And.intro h1 (And.intro h2 (And.intro h3 (And.intro h4 (And.intro h5 (And.intro h6 trivial)))))))
theorem rest_pfftt (s : NSys) (t : List ByteArray) (h : List ByteArray) (a : List ByteArray) (o : List ByteArray) (X : Ext) (call : Caller) (lf : Nat)
  (h0 : decide (w6 ((↑(List.length t) : Int) - (↑(List.length h) : Int)) < 0) = false)
  (h1 : slc Tryd.prog 22 [Ob.cells (sysC s)] true 0 (lro (List.length t) 1 (List.map st t)) none (some (i6 (↑(List.length h) : Int))) none = some (lro (List.length a) 1 (List.map st a), [Ob.cells (sysC s)]))
  (h2 : slc Tryd.prog 22 [Ob.cells (sysC s)] true 0 (lro (List.length t) 1 (List.map st t)) (some (i6 (↑(List.length h) : Int))) none none = some (lro (List.length o) 1 (List.map st o), [Ob.cells (sysC s)]))
  (h3 : NSys.sf s = false)
  (h4 : callv X call false 60 [lro (List.length a) 1 (List.map st a), lro (List.length h) 1 (List.map st h)] [Ob.cells (sysC s)] 0 = some (bo true, [Ob.cells (sysC s)]))
  (h5 : (w6 ((↑(List.length t) : Int) - (↑(List.length h) : Int)) == 0) = true)
  (h6 : vend1 [] 0 [Ob.cells (sysC s)] [lro (List.length o) 1 (List.map st o), bo true] = some (AV.tup [lro (List.length o) 1 (List.map st o), bo true], [Ob.cells (sysC s)])) : vbody Tryd.prog X call lf noFg Tryd.f58 (codeOf Tryd.f58) [AV.agg (sysC s), lro (List.length t) 1 (List.map st t), lro (List.length h) 1 (List.map st h)] [] 0 = some (AV.tup [lro (List.length o) 1 (List.map st o), bo true], [Ob.cells (sysC s)]) :=
  along_sound (ans := [(13, Ans.b false), (19, Ans.v (lro (List.length a) 1 (List.map st a))), (23, Ans.v (lro (List.length o) 1 (List.map st o))), (29, Ans.b false), (34, Ans.v (bo true)), (39, Ans.b true), (51, Ans.c (AV.tup [lro (List.length o) 1 (List.map st o), bo true]) [Ob.cells (sysC s)])]) (by kernel_rfl) (And.intro h0 (And.intro h1 (And.intro h2 (And.intro h3 (And.intro h4 (And.intro h5 (And.intro h6 trivial)))))))
theorem rest_pfftft (s : NSys) (t : List ByteArray) (h : List ByteArray) (a : List ByteArray) (o : List ByteArray) (X : Ext) (call : Caller) (lf : Nat)
  (h0 : decide (w6 ((↑(List.length t) : Int) - (↑(List.length h) : Int)) < 0) = false)
  (h1 : slc Tryd.prog 22 [Ob.cells (sysC s)] true 0 (lro (List.length t) 1 (List.map st t)) none (some (i6 (↑(List.length h) : Int))) none = some (lro (List.length a) 1 (List.map st a), [Ob.cells (sysC s)]))
  (h2 : slc Tryd.prog 22 [Ob.cells (sysC s)] true 0 (lro (List.length t) 1 (List.map st t)) (some (i6 (↑(List.length h) : Int))) none none = some (lro (List.length o) 1 (List.map st o), [Ob.cells (sysC s)]))
  (h3 : NSys.sf s = false)
  (h4 : callv X call false 60 [lro (List.length a) 1 (List.map st a), lro (List.length h) 1 (List.map st h)] [Ob.cells (sysC s)] 0 = some (bo true, [Ob.cells (sysC s)]))
  (h5 : (w6 ((↑(List.length t) : Int) - (↑(List.length h) : Int)) == 0) = false)
  (h6 : (empB (NSys.jo s)) = true)
  (h7 : vend1 [] 0 [Ob.cells (sysC s)] [lro (List.length o) 1 (List.map st o), bo true] = some (AV.tup [lro (List.length o) 1 (List.map st o), bo true], [Ob.cells (sysC s)])) : vbody Tryd.prog X call lf noFg Tryd.f58 (codeOf Tryd.f58) [AV.agg (sysC s), lro (List.length t) 1 (List.map st t), lro (List.length h) 1 (List.map st h)] [] 0 = some (AV.tup [lro (List.length o) 1 (List.map st o), bo true], [Ob.cells (sysC s)]) :=
  along_sound (ans := [(13, Ans.b false), (19, Ans.v (lro (List.length a) 1 (List.map st a))), (23, Ans.v (lro (List.length o) 1 (List.map st o))), (29, Ans.b false), (34, Ans.v (bo true)), (39, Ans.b false), (48, Ans.b true), (55, Ans.c (AV.tup [lro (List.length o) 1 (List.map st o), bo true]) [Ob.cells (sysC s)])]) (by kernel_rfl) (And.intro h0 (And.intro h1 (And.intro h2 (And.intro h3 (And.intro h4 (And.intro h5 (And.intro h6 (And.intro h7 trivial))))))))
theorem rest_pfftffftt (s : NSys) (t : List ByteArray) (h : List ByteArray) (a : List ByteArray) (o : List ByteArray) (u2 : List ByteArray) (ra : List AV) (x : ByteArray) (X : Ext) (call : Caller) (lf : Nat)
  (h0 : decide (w6 ((↑(List.length t) : Int) - (↑(List.length h) : Int)) < 0) = false)
  (h1 : slc Tryd.prog 22 [Ob.cells (sysC s)] true 0 (lro (List.length t) 1 (List.map st t)) none (some (i6 (↑(List.length h) : Int))) none = some (lro (List.length a) 1 (List.map st a), [Ob.cells (sysC s)]))
  (h2 : slc Tryd.prog 22 [Ob.cells (sysC s)] true 0 (lro (List.length t) 1 (List.map st t)) (some (i6 (↑(List.length h) : Int))) none none = some (lro (List.length o) 1 (List.map st o), [Ob.cells (sysC s)]))
  (h3 : NSys.sf s = false)
  (h4 : callv X call false 60 [lro (List.length a) 1 (List.map st a), lro (List.length h) 1 (List.map st h)] [Ob.cells (sysC s)] 0 = some (bo true, [Ob.cells (sysC s)]))
  (h5 : (w6 ((↑(List.length t) : Int) - (↑(List.length h) : Int)) == 0) = false)
  (h6 : (empB (NSys.jo s)) = false)
  (h7 : NSys.sf s = false)
  (h8 : slc Tryd.prog 22 [Ob.cells (sysC s)] true 0 (lro (List.length o) 1 (List.map st o)) (some (i6 1)) none none = some (lro (List.length u2) 1 (List.map st u2), [Ob.cells (sysC s)]))
  (h9 : decide (w6 ((↑(List.length t) : Int) - (↑(List.length h) : Int)) > 1) = true)
  (h10 : keep [Ob.cells (sysC s)] (indexAddrv Tryd.prog 22 [Ob.cells (sysC s)] (lro (List.length o) 1 (List.map st o)) (i6 0)) = some (AV.eaddr ra, [Ob.cells (sysC s)]))
  (h11 : keep [Ob.cells (sysC s)] (loadv Tryd.prog 9 [Ob.cells (sysC s)] (AV.eaddr ra)) = some (st x, [Ob.cells (sysC s)]))
  (h12 : (ByteArray.toList x == ByteArray.toList (NSys.jo s)) = true)
  (h13 : vend1 [] 0 [Ob.cells (sysC s)] [lro (List.length u2) 1 (List.map st u2), bo true] = some (AV.tup [lro (List.length u2) 1 (List.map st u2), bo true], [Ob.cells (sysC s)])) : vbody Tryd.prog X call lf noFg Tryd.f58 (codeOf Tryd.f58) [AV.agg (sysC s), lro (List.length t) 1 (List.map st t), lro (List.length h) 1 (List.map st h)] [] 0 = some (AV.tup [lro (List.length u2) 1 (List.map st u2), bo true], [Ob.cells (sysC s)]) :=
  along_sound (ans := [(13, Ans.b false), (19, Ans.v (lro (List.length a) 1 (List.map st a))), (23, Ans.v (lro (List.length o) 1 (List.map st o))), (29, Ans.b false), (34, Ans.v (bo true)), (39, Ans.b false), (48, Ans.b false), (54, Ans.b false), (58, Ans.v (lro (List.length u2) 1 (List.map st u2))), (60, Ans.b true), (65, Ans.v (AV.eaddr ra)), (67, Ans.v (st x)), (75, Ans.b true), (79, Ans.c (AV.tup [lro (List.length u2) 1 (List.map st u2), bo true]) [Ob.cells (sysC s)])]) (by kernel_rfl) (And.intro h0 (And.intro h1 (And.intro h2 (And.intro h3 (And.intro h4 (And.intro h5 (And.intro h6 (And.intro h7 (And.intro h8 (And.intro h9 (And.intro h10 (And.intro h11 (And.intro h12 (And.intro h13 trivial))))))))))))))
theorem rest_pfftffftf (s : NSys) (t : List ByteArray) (h : List ByteArray) (a : List ByteArray) (o : List ByteArray) (u2 : List ByteArray) (ra : List AV) (x : ByteArray) (X : Ext) (call : Caller) (lf : Nat)
  (h0 : decide (w6 ((↑(List.length t) : Int) - (↑(List.length h) : Int)) < 0) = false)
  (h1 : slc Tryd.prog 22 [Ob.cells (sysC s)] true 0 (lro (List.length t) 1 (List.map st t)) none (some (i6 (↑(List.length h) : Int))) none = some (lro (List.length a) 1 (List.map st a), [Ob.cells (sysC s)]))
  (h2 : slc Tryd.prog 22 [Ob.cells (sysC s)] true 0 (lro (List.length t) 1 (List.map st t)) (some (i6 (↑(List.length h) : Int))) none none = some (lro (List.length o) 1 (List.map st o), [Ob.cells (sysC s)]))
  (h3 : NSys.sf s = false)
  (h4 : callv X call false 60 [lro (List.length a) 1 (List.map st a), lro (List.length h) 1 (List.map st h)] [Ob.cells (sysC s)] 0 = some (bo true, [Ob.cells (sysC s)]))
  (h5 : (w6 ((↑(List.length t) : Int) - (↑(List.length h) : Int)) == 0) = false)
  (h6 : (empB (NSys.jo s)) = false)
  (h7 : NSys.sf s = false)
  (h8 : slc Tryd.prog 22 [Ob.cells (sysC s)] true 0 (lro (List.length o) 1 (List.map st o)) (some (i6 1)) none none = some (lro (List.length u2) 1 (List.map st u2), [Ob.cells (sysC s)]))
  (h9 : decide (w6 ((↑(List.length t) : Int) - (↑(List.length h) : Int)) > 1) = true)
  (h10 : keep [Ob.cells (sysC s)] (indexAddrv Tryd.prog 22 [Ob.cells (sysC s)] (lro (List.length o) 1 (List.map st o)) (i6 0)) = some (AV.eaddr ra, [Ob.cells (sysC s)]))
  (h11 : keep [Ob.cells (sysC s)] (loadv Tryd.prog 9 [Ob.cells (sysC s)] (AV.eaddr ra)) = some (st x, [Ob.cells (sysC s)]))
  (h12 : (ByteArray.toList x == ByteArray.toList (NSys.jo s)) = false)
  (h13 : vend1 [] 0 [Ob.cells (sysC s)] [lro (List.length u2) 1 (List.map st u2), bo false] = some (AV.tup [lro (List.length u2) 1 (List.map st u2), bo false], [Ob.cells (sysC s)])) : vbody Tryd.prog X call lf noFg Tryd.f58 (codeOf Tryd.f58) [AV.agg (sysC s), lro (List.length t) 1 (List.map st t), lro (List.length h) 1 (List.map st h)] [] 0 = some (AV.tup [lro (List.length u2) 1 (List.map st u2), bo false], [Ob.cells (sysC s)]) :=
  along_sound (ans := [(13, Ans.b false), (19, Ans.v (lro (List.length a) 1 (List.map st a))), (23, Ans.v (lro (List.length o) 1 (List.map st o))), (29, Ans.b false), (34, Ans.v (bo true)), (39, Ans.b false), (48, Ans.b false), (54, Ans.b false), (58, Ans.v (lro (List.length u2) 1 (List.map st u2))), (60, Ans.b true), (65, Ans.v (AV.eaddr ra)), (67, Ans.v (st x)), (75, Ans.b false), (79, Ans.c (AV.tup [lro (List.length u2) 1 (List.map st u2), bo false]) [Ob.cells (sysC s)])]) (by kernel_rfl) (And.intro h0 (And.intro h1 (And.intro h2 (And.intro h3 (And.intro h4 (And.intro h5 (And.intro h6 (And.intro h7 (And.intro h8 (And.intro h9 (And.intro h10 (And.intro h11 (And.intro h12 (And.intro h13 trivial))))))))))))))
theorem rest_pfftffff (s : NSys) (t : List ByteArray) (h : List ByteArray) (a : List ByteArray) (o : List ByteArray) (u2 : List ByteArray) (X : Ext) (call : Caller) (lf : Nat)
  (h0 : decide (w6 ((↑(List.length t) : Int) - (↑(List.length h) : Int)) < 0) = false)
  (h1 : slc Tryd.prog 22 [Ob.cells (sysC s)] true 0 (lro (List.length t) 1 (List.map st t)) none (some (i6 (↑(List.length h) : Int))) none = some (lro (List.length a) 1 (List.map st a), [Ob.cells (sysC s)]))
  (h2 : slc Tryd.prog 22 [Ob.cells (sysC s)] true 0 (lro (List.length t) 1 (List.map st t)) (some (i6 (↑(List.length h) : Int))) none none = some (lro (List.length o) 1 (List.map st o), [Ob.cells (sysC s)]))
  (h3 : NSys.sf s = false)
  (h4 : callv X call false 60 [lro (List.length a) 1 (List.map st a), lro (List.length h) 1 (List.map st h)] [Ob.cells (sysC s)] 0 = some (bo true, [Ob.cells (sysC s)]))
  (h5 : (w6 ((↑(List.length t) : Int) - (↑(List.length h) : Int)) == 0) = false)
  (h6 : (empB (NSys.jo s)) = false)
  (h7 : NSys.sf s = false)
  (h8 : slc Tryd.prog 22 [Ob.cells (sysC s)] true 0 (lro (List.length o) 1 (List.map st o)) (some (i6 1)) none none = some (lro (List.length u2) 1 (List.map st u2), [Ob.cells (sysC s)]))
  (h9 : decide (w6 ((↑(List.length t) : Int) - (↑(List.length h) : Int)) > 1) = false)
  (h10 : vend1 [] 0 [Ob.cells (sysC s)] [lro (List.length u2) 1 (List.map st u2), bo false] = some (AV.tup [lro (List.length u2) 1 (List.map st u2), bo false], [Ob.cells (sysC s)])) : vbody Tryd.prog X call lf noFg Tryd.f58 (codeOf Tryd.f58) [AV.agg (sysC s), lro (List.length t) 1 (List.map st t), lro (List.length h) 1 (List.map st h)] [] 0 = some (AV.tup [lro (List.length u2) 1 (List.map st u2), bo false], [Ob.cells (sysC s)]) :=
  along_sound (ans := [(13, Ans.b false), (19, Ans.v (lro (List.length a) 1 (List.map st a))), (23, Ans.v (lro (List.length o) 1 (List.map st o))), (29, Ans.b false), (34, Ans.v (bo true)), (39, Ans.b false), (48, Ans.b false), (54, Ans.b false), (58, Ans.v (lro (List.length u2) 1 (List.map st u2))), (60, Ans.b false), (72, Ans.c (AV.tup [lro (List.length u2) 1 (List.map st u2), bo false]) [Ob.cells (sysC s)])]) (by kernel_rfl) (And.intro h0 (And.intro h1 (And.intro h2 (And.intro h3 (And.intro h4 (And.intro h5 (And.intro h6 (And.intro h7 (And.intro h8 (And.intro h9 (And.intro h10 trivial)))))))))))
theorem rest_pfff (s : NSys) (t : List ByteArray) (h : List ByteArray) (a : List ByteArray) (o : List ByteArray) (X : Ext) (call : Caller) (lf : Nat)
  (h0 : decide (w6 ((↑(List.length t) : Int) - (↑(List.length h) : Int)) < 0) = false)
  (h1 : slc Tryd.prog 22 [Ob.cells (sysC s)] true 0 (lro (List.length t) 1 (List.map st t)) none (some (i6 (↑(List.length h) : Int))) none = some (lro (List.length a) 1 (List.map st a), [Ob.cells (sysC s)]))
  (h2 : slc Tryd.prog 22 [Ob.cells (sysC s)] true 0 (lro (List.length t) 1 (List.map st t)) (some (i6 (↑(List.length h) : Int))) none none = some (lro (List.length o) 1 (List.map st o), [Ob.cells (sysC s)]))
  (h3 : NSys.sf s = false)
  (h4 : callv X call false 60 [lro (List.length a) 1 (List.map st a), lro (List.length h) 1 (List.map st h)] [Ob.cells (sysC s)] 0 = some (bo false, [Ob.cells (sysC s)])) : vbody Tryd.prog X call lf noFg Tryd.f58 (codeOf Tryd.f58) [AV.agg (sysC s), lro (List.length t) 1 (List.map st t), lro (List.length h) 1 (List.map st h)] [] 0 = some (AV.tup [AV.list LK.nil 0 0 [], bo false], [Ob.cells (sysC s)]) :=
  along_sound (ans := [(13, Ans.b false), (19, Ans.v (lro (List.length a) 1 (List.map st a))), (23, Ans.v (lro (List.length o) 1 (List.map st o))), (29, Ans.b false), (34, Ans.v (bo false))]) (by kernel_rfl) (And.intro h0 (And.intro h1 (And.intro h2 (And.intro h3 (And.intro h4 trivial)))))


theorem slc_lst {σ : List Ob} {dr : Bool} {ro : Nat} {l : List ByteArray} {lo hi : Option AV} {i j : Nat} (hi' : boundv l.length l.length hi = some j) (hlo : boundv 0 j lo = some i) :
    slc Tryd.prog 22 σ dr ro (lst l) lo hi none = some (.list .ro (j - i) 1 ((((l.map st).take (j * 1)).drop (i * 1))), σ) := by
  have hb : byValue1 dr σ ro (lst l) = some (lst l, σ) := by
    unfold byValue1
    rw [if_pos (by simp [AV.owns, owns_strs])]
  have hs : slicev Tryd.prog 22 (lst l) lo hi none = some (.list .ro (j - i) 1 ((((l.map st).take (j * 1)).drop (i * 1)))) := by
    unfold slicev
    rw [Tryd.underlying22]
    have hm : boundv l.length l.length none = some l.length := rfl
    simp only [hm, hi', hlo]
    rw [if_pos ⟨.inr cells9.symm, info9, by simp⟩]
    simp
  unfold slc
  have hc : (if dr then none else cutOwn Tryd.prog 22 σ ro (lst l) lo hi none) = none := by
    cases dr <;> rfl
  rw [hc, hb]
  simp only [hs, keep]
theorem slc_take {σ : List Ob} {dr : Bool} {ro : Nat} {l : List ByteArray} {k : Int} {j : Nat} (hk : k = (j : Int)) (hj : j ≤ l.length) :
    slc Tryd.prog 22 σ dr ro (lst l) none (some (i6 k)) none = some (lst (l.take j), σ) := by
  subst hk
  rw [slc_lst (i := 0) (j := j) (by simp only [boundv]; rw [if_pos ⟨by omega, by omega⟩]; simp) rfl]
  simp [lst, List.map_take, Nat.min_eq_left hj]
theorem slc_drop {σ : List Ob} {dr : Bool} {ro : Nat} {l : List ByteArray} {k : Int} {j : Nat} (hk : k = (j : Int)) (hj : j ≤ l.length) :
    slc Tryd.prog 22 σ dr ro (lst l) (some (i6 k)) none none = some (lst (l.drop j), σ) := by
  subst hk
  rw [slc_lst (i := j) (j := l.length) rfl (by simp only [boundv]; rw [if_pos ⟨by omega, by omega⟩]; simp)]
  have e : (l.map st).take (l.length * 1) = l.map st := by rw [List.take_of_length_le]; simp
  rw [e]
  simp [lst, List.map_drop]
/-! ### Equal -/
abbrev D60 : List Nat := [25, 4, 24, 23, 22, 21, 20, 19, 18, 17, 16, 5, 15, 14]
theorem dead60 : (deadC (loopN Tryd.f60 0) ([], [])).2 = D60 := by kernel_rfl
theorem eq_spec (X : Ext) (call : Caller) (lf : Nat) {l m : List ByteArray} (hk : l.length ≤ 140737488355328) (hlf : l.length < lf) :
    vbody Tryd.prog X call lf noFg Tryd.f60 (codeOf Tryd.f60) [lst l, lst m] [] 0 = some (bo (textsL l m), []) := by
  cases hne : ((↑l.length : Int) != (↑m.length : Int)) with
  | true =>
    have : l.length ≠ m.length := by
      intro e
      rw [e] at hne
      simp at hne
    rw [eq_pt l.length m.length (l.map st) (m.map st) X call lf hne, textsL_len this]
  | false =>
    have hlen : l.length = m.length := by
      have : ((l.length : Int) = (m.length : Int)) := by simpa using hne
      omega
    have start : forget D60 (eqS2 l.length m.length (l.map st) (m.map st)) = eqS0 l.length m.length (l.map st) (m.map st) 0 := by kernel_rfl
    have at1 : ∀ i (hi : i < l.length), keep [] (indexAddrv Tryd.prog 22 [] (lst l) (i6 (↑i : Int))) = some (AV.eaddr ((l.map st).drop i), []) ∧ keep [] (loadv Tryd.prog 9 [] (AV.eaddr ((l.map st).drop i))) = some (st (l[i]'hi), []) :=
      fun i hi => idx_strs (List.getElem?_eq_getElem hi)
    have at2 : ∀ i (hi : i < m.length), keep [] (indexAddrv Tryd.prog 22 [] (lst m) (i6 (↑i : Int))) = some (AV.eaddr ((m.map st).drop i), []) ∧ keep [] (loadv Tryd.prog 9 [] (AV.eaddr ((m.map st).drop i))) = some (st (m[i]'hi), []) :=
      fun i hi => idx_strs (List.getElem?_eq_getElem hi)
    have round : ∀ i (hi : i < l.length), (!ByteArray.toList (l[i]'hi) == ByteArray.toList (m[i]'(hlen ▸ hi))) = false → ∃ S1, vexec Tryd.prog X call lf 0 noFg (loopN Tryd.f60 0) (eqS0 l.length m.length (l.map st) (m.map st) i) = some (.normal, S1) ∧ forget D60 S1 = eqS0 l.length m.length (l.map st) (m.map st) (i + 1) := by
      intro i hi he
      obtain ⟨q1, q2⟩ := at1 i hi
      obtain ⟨q3, q4⟩ := at2 i (hlen ▸ hi)
      refine ⟨_, eq_r0_tf l.length m.length (l.map st) (m.map st) _ _ (l[i]'hi) (m[i]'(hlen ▸ hi)) X call lf i (by simpa using hi) q1 q2 q3 q4 he, ?_⟩
      have e : w6 ((i : Int) + 1) = ((i + 1 : Nat) : Int) := wrap_small (by omega)
      unfold eqS3
      rw [e]
      show _ = _
      kernel_rfl
    rcases first_fail (p := fun i => ∀ hi : i < l.length, (!ByteArray.toList (l[i]'hi) == ByteArray.toList (m[i]'(hlen ▸ hi))) = false) l.length with hall | ⟨k, hk', hbad, hbefore⟩
    · have hloop := loop_run (P := Tryd.prog) (X := X) (call := call) (lf := lf) (ro := 0) (fg := noFg) dead60 (eqS0 l.length m.length (l.map st) (m.map st)) l.length hlf start (fun i hi => round i hi (hall i hi hi))
        (eq_r0_f l.length m.length (l.map st) (m.map st) X call lf l.length (by simp)) (by simp)
      rw [eq_pflf l.length m.length (l.map st) (m.map st) X call lf l.length hne hloop, textsL_all hlen]
      intro i x y hx hy
      obtain ⟨hi, rfl⟩ := List.getElem?_eq_some_iff.1 hx
      obtain ⟨hj, rfl⟩ := List.getElem?_eq_some_iff.1 hy
      have := hall i hi hi
      simpa using this
    · have hbt : (!ByteArray.toList (l[k]'hk') == ByteArray.toList (m[k]'(hlen ▸ hk'))) = true := by
        cases h : (!ByteArray.toList (l[k]'hk') == ByteArray.toList (m[k]'(hlen ▸ hk'))) with
        | true => rfl
        | false => exact absurd (fun _ => h) hbad
      obtain ⟨q1, q2⟩ := at1 k hk'
      obtain ⟨q3, q4⟩ := at2 k (hlen ▸ hk')
      have hloop := loop_run (P := Tryd.prog) (X := X) (call := call) (lf := lf) (ro := 0) (fg := noFg) dead60 (eqS0 l.length m.length (l.map st) (m.map st)) k (Nat.lt_trans hk' hlf) start (fun i hi => round i (Nat.lt_trans hi hk') (hbefore i hi (Nat.lt_trans hi hk')))
        (eq_r0_tt l.length m.length (l.map st) (m.map st) _ _ (l[k]'hk') (m[k]'(hlen ▸ hk')) X call lf k (by simpa using hk') q1 q2 q3 q4 hbt) (by simp)
      rw [eq_pfltt l.length m.length (l.map st) (m.map st) _ _ (l[k]'hk') (m[k]'(hlen ▸ hk')) X call lf k hne hloop,
        textsL_at k (List.getElem?_eq_getElem hk') (List.getElem?_eq_getElem (hlen ▸ hk')) (by simpa using hbt)]
/-! ### head -/
def headL (s : NSys) (q i : Int) : Option (List ByteArray) :=
  if q < 0 ∨ i < 0 then none else
  match s.digits[q.toNat]?, s.powers[i.toNat]? with
  | some d, some p => some (if q = 1 ∧ s.om = true then [p] else [d, p])
  | _, _ => none
theorem idx_one {S : List Ob} {l : List ByteArray} {i : Int} {w : ByteArray} (h0 : 0 ≤ i) (h : l[i.toNat]? = some w) :
    keep S (indexAddrv Tryd.prog 22 S (lro l.length 1 (l.map .str)) (i6 i)) = some (.eaddr ((l.map AV.str).drop i.toNat), S) := by
  have := (idx_strs (S := S) h).1
  rwa [Int.toNat_of_nonneg h0] at this
theorem load_one {S : List Ob} {l : List ByteArray} {i : Int} {w : ByteArray} (h : l[i.toNat]? = some w) :
    keep S (loadv Tryd.prog 9 S (.eaddr ((l.map AV.str).drop i.toNat))) = some (st w, S) := (idx_strs (S := S) h).2
theorem head_spec {s : NSys} {q i : Int} {l : List ByteArray} (h : headL s q i = some l) (X : Ext) (call : Caller) (lf : Nat) :
    vbody Tryd.prog X call lf noFg Tryd.f59 (codeOf Tryd.f59) [AV.agg (sysC s), i6 q, i6 i] [] 0 = some (.list .clip l.length 1 (l.map st), [Ob.cells (sysC s)]) := by
  unfold headL at h
  split at h
  · cases h
  rename_i h0
  have hq : 0 ≤ q := by omega
  have hi : 0 ≤ i := by omega
  split at h
  · rename_i d p hd hp
    simp only [Option.some.injEq] at h
    subst h
    by_cases h1 : q = 1
    · have e1 : (q == 1) = true := by simpa using h1
      cases h2 : s.om with
      | true =>
        rw [if_pos ⟨h1, rfl⟩]
        exact head_ptt s q i _ p X call lf e1 h2 (idx_one hi hp) (load_one hp)
      | false =>
        rw [if_neg (by simp)]
        exact head_ptf s q i _ _ d p X call lf e1 h2 (idx_one hq hd) (load_one hd) (idx_one hi hp) (load_one hp)
    · have e1 : (q == 1) = false := by simpa using h1
      rw [if_neg (fun e => h1 e.1)]
      exact head_pf s q i _ _ d p X call lf e1 (idx_one hq hd) (load_one hd) (idx_one hi hp) (load_one hp)
  · cases h
/-! ### rest -/
def eqAt (o : List ByteArray) (i : Nat) (w : ByteArray) : Bool := match o[i]? with
  | some x => x.toList == w.toList
  | none => false
def restP (s : NSys) (t h : List ByteArray) : Option (List ByteArray × Bool) :=
  if t.length < h.length then none else
  if s.sf then
    if textsL (t.drop (t.length - h.length)) h then
      if t.length - h.length = 0 ∨ empB s.jo = true then some (t.take (t.length - h.length), true)
      else some ((t.take (t.length - h.length)).take (t.length - h.length - 1), decide (1 < t.length - h.length) && eqAt (t.take (t.length - h.length)) (t.length - h.length - 1) s.jo)
    else none
  else
    if textsL (t.take h.length) h then
      if t.length - h.length = 0 ∨ empB s.jo = true then some (t.drop h.length, true)
      else some ((t.drop h.length).drop 1, decide (1 < t.length - h.length) && eqAt (t.drop h.length) 0 s.jo)
    else none
def restV (s : NSys) (t h : List ByteArray) : AV := match restP s t h with
  | none => .tup [.list .nil 0 0 [], bo false]
  | some (o, b) => .tup [lst o, bo b]
theorem end_two {l : List ByteArray} {b : Bool} {S σ0 : List Ob} {ro : Nat} : vend1 σ0 ro S [lst l, bo b] = some (.tup [lst l, bo b], S) := by
  have h : AV.thawAll S [lst l, bo b] = some [lst l, bo b] := by simp [AV.thawAll, AV.thaw, thaw_strs]
  unfold vend1
  rw [h]
  have h2 : AV.ownsAll [lst l, bo b] = [] := by simp [AV.ownsAll, AV.owns, owns_strs]
  rw [h2]
  simp only [freezeIds]
  unfold resOf
  split
  · rename_i e _
    cases e
  · rfl
theorem rest_spec {X : Ext} {call : Caller} {lf : Nat} (s : NSys) {t h : List ByteArray} (ht : t.length ≤ 140737488355328) (hh : h.length ≤ 140737488355328)
    (hE : ∀ (a b : List ByteArray) (σ : List Ob) (ro : Nat) (dr : Bool), a.length ≤ 140737488355328 → callv X call dr 60 [lst a, lst b] σ ro = some (bo (textsL a b), σ)) :
    vbody Tryd.prog X call lf noFg Tryd.f58 (codeOf Tryd.f58) [AV.agg (sysC s), lst t, lst h] [] 0 = some (restV s t h, [Ob.cells (sysC s)]) := by
  unfold restV restP
  by_cases hlt : t.length < h.length
  · rw [if_pos hlt]
    have e : w6 ((t.length : Int) - (h.length : Int)) = (t.length : Int) - (h.length : Int) := w6_id (by omega) (by omega)
    exact rest_pt s t h X call lf (by rw [e]; exact decide_eq_true (by omega))
  rw [if_neg hlt]
  have e : w6 ((t.length : Int) - (h.length : Int)) = ((t.length - h.length : Nat) : Int) := by
    rw [w6_id (by omega) (by omega)]; omega
  have g0 : decide (w6 ((t.length : Int) - (h.length : Int)) < 0) = false := by rw [e]; exact decide_eq_false (by omega)
  have g1 := slc_take (σ := [Ob.cells (sysC s)]) (dr := true) (ro := 0) (l := t) (k := (h.length : Int)) (j := h.length) rfl (by omega)
  have g2 := slc_drop (σ := [Ob.cells (sysC s)]) (dr := true) (ro := 0) (l := t) (k := (h.length : Int)) (j := h.length) rfl (by omega)
  have g4 := slc_drop (σ := [Ob.cells (sysC s)]) (dr := true) (ro := 0) (l := t) (j := t.length - h.length) e (by omega)
  have g5 := slc_take (σ := [Ob.cells (sysC s)]) (dr := true) (ro := 0) (l := t) (j := t.length - h.length) e (by omega)
  cases hsf : s.sf with
  | true =>
    simp only [if_true]
    have h6 := hE (t.drop (t.length - h.length)) h [Ob.cells (sysC s)] 0 false (by simp; omega)
    cases hq : textsL (t.drop (t.length - h.length)) h with
    | false =>
      rw [hq] at h6
      rw [if_neg (by decide)]
      exact rest_pftf s t h _ _ _ _ X call lf g0 g1 g2 hsf g4 g5 h6
    | true =>
      rw [hq] at h6
      rw [if_pos rfl]
      by_cases hn : t.length - h.length = 0
      · rw [if_pos (.inl hn)]
        exact rest_pfttt s t h _ _ _ _ X call lf g0 g1 g2 hsf g4 g5 h6 (by rw [e, hn]; rfl) end_two
      · have hn' : (w6 ((t.length : Int) - (h.length : Int)) == 0) = false := by rw [e]; simp; omega
        cases hj : empB s.jo with
        | true =>
          rw [if_pos (.inr rfl)]
          exact rest_pfttft s t h _ _ _ _ X call lf g0 g1 g2 hsf g4 g5 h6 hn' hj end_two
        | false =>
          rw [if_neg (by simp [hn])]
          have e1 : w6 (w6 ((t.length : Int) - (h.length : Int)) - 1) = ((t.length - h.length - 1 : Nat) : Int) := by
            rw [e, w6_id (by omega) (by omega)]; omega
          have hol : (t.take (t.length - h.length)).length = t.length - h.length := by simp
          have g10 := slc_take (σ := [Ob.cells (sysC s)]) (dr := true) (ro := 0) (l := t.take (t.length - h.length)) (j := t.length - h.length - 1) e1 (by omega)
          by_cases h1 : 1 < t.length - h.length
          · have d1 : decide (w6 ((t.length : Int) - (h.length : Int)) > 1) = true := by rw [e]; exact decide_eq_true (by omega)
            obtain ⟨x, hx⟩ : ∃ x, (t.take (t.length - h.length))[t.length - h.length - 1]? = some x := ⟨_, List.getElem?_eq_getElem (by omega)⟩
            have hi := idx_strs (S := [Ob.cells (sysC s)]) hx
            rw [decide_eq_true h1]
            unfold eqAt
            rw [hx]
            simp only [Bool.true_and]
            cases hxe : (x.toList == s.jo.toList) with
            | true => exact rest_pfttffttt s t h _ _ _ _ _ _ x X call lf g0 g1 g2 hsf g4 g5 h6 hn' hj hsf g10 d1 (by rw [e1]; exact hi.1) hi.2 hxe end_two
            | false => exact rest_pfttffttf s t h _ _ _ _ _ _ x X call lf g0 g1 g2 hsf g4 g5 h6 hn' hj hsf g10 d1 (by rw [e1]; exact hi.1) hi.2 hxe end_two
          · have d1 : decide (w6 ((t.length : Int) - (h.length : Int)) > 1) = false := by rw [e]; exact decide_eq_false (by omega)
            rw [decide_eq_false h1]
            exact rest_pfttfftf s t h _ _ _ _ _ X call lf g0 g1 g2 hsf g4 g5 h6 hn' hj hsf g10 d1 end_two
  | false =>
    simp only [Bool.false_eq_true, if_false]
    have h6 := hE (t.take h.length) h [Ob.cells (sysC s)] 0 false (by simp; omega)
    cases hq : textsL (t.take h.length) h with
    | false =>
      rw [hq] at h6
      rw [if_neg (by decide)]
      exact rest_pfff s t h _ _ X call lf g0 g1 g2 hsf h6
    | true =>
      rw [hq] at h6
      rw [if_pos rfl]
      by_cases hn : t.length - h.length = 0
      · rw [if_pos (.inl hn)]
        exact rest_pfftt s t h _ _ X call lf g0 g1 g2 hsf h6 (by rw [e, hn]; rfl) end_two
      · have hn' : (w6 ((t.length : Int) - (h.length : Int)) == 0) = false := by rw [e]; simp; omega
        cases hj : empB s.jo with
        | true =>
          rw [if_pos (.inr rfl)]
          exact rest_pfftft s t h _ _ X call lf g0 g1 g2 hsf h6 hn' hj end_two
        | false =>
          rw [if_neg (by simp [hn])]
          have hol : (t.drop h.length).length = t.length - h.length := by simp
          have g10 := slc_drop (σ := [Ob.cells (sysC s)]) (dr := true) (ro := 0) (l := t.drop h.length) (k := 1) (j := 1) rfl (by omega)
          by_cases h1 : 1 < t.length - h.length
          · have d1 : decide (w6 ((t.length : Int) - (h.length : Int)) > 1) = true := by rw [e]; exact decide_eq_true (by omega)
            obtain ⟨x, hx⟩ : ∃ x, (t.drop h.length)[0]? = some x := ⟨_, List.getElem?_eq_getElem (by omega)⟩
            have hi := idx_strs (S := [Ob.cells (sysC s)]) hx
            rw [decide_eq_true h1]
            unfold eqAt
            rw [hx]
            simp only [Bool.true_and]
            cases hxe : (x.toList == s.jo.toList) with
            | true => exact rest_pfftffftt s t h _ _ _ _ x X call lf g0 g1 g2 hsf h6 hn' hj hsf g10 d1 hi.1 hi.2 hxe end_two
            | false => exact rest_pfftffftf s t h _ _ _ _ x X call lf g0 g1 g2 hsf h6 hn' hj hsf g10 d1 hi.1 hi.2 hxe end_two
          · have d1 : decide (w6 ((t.length : Int) - (h.length : Int)) > 1) = false := by rw [e]; exact decide_eq_false (by omega)
            rw [decide_eq_false h1]
            exact rest_pfftffff s t h _ _ _ X call lf g0 g1 g2 hsf h6 hn' hj hsf g10 d1 end_two
end Go.Proofs.Num
end
/- Numeral: rows of numbers; what Parse looks for. -/
section
open Go Go.Vm Go.Proofs
namespace Go.Proofs.Num

/-! ### rows of numbers that grow -/
abbrev lsi (l : List Int) : AV := lro l.length 1 (l.map i6)
theorem owns_ints : ∀ (l : List Int), AV.ownsAll (l.map i6) = []
  | [] => rfl
  | x :: l => by simp [AV.ownsAll, AV.owns, owns_ints l]
theorem lt_ints (m : Nat) : ∀ (l : List Int), AV.ltAll m (l.map i6) = true
  | [] => rfl
  | x :: l => by simp [AV.ltAll, AV.lt, lt_ints m l]
theorem thaw_ints {σ : List Ob} : ∀ (l : List Int), AV.thawAll σ (l.map i6) = some (l.map i6)
  | [] => rfl
  | x :: l => by simp [AV.thawAll, AV.thaw, thaw_ints l]
theorem roAll_ints : ∀ (l : List Int), roAll (l.map i6) = l.map i6
  | [] => rfl
  | x :: l => by simp [roAll, roA, roAll_ints l]
theorem bytes3 : Tryd.prog.bytesOf 3 = 8 := by kernel_rfl
theorem zero3 : zerov Tryd.prog 3 = some (.int .i64 0) := by kernel_rfl
def rowI (l : List Int) : AV := if l = [] then .list .nil 0 0 [] else .own 1 l.length
def rowS (l : List Int) : List Ob := if l = [] then [] else [.arr l.length 1 (l.map i6)]
def rowV (l : List Int) : AV := if l = [] then .list .nil 0 0 [] else .list .fresh l.length 1 (l.map i6)
def rowE (l : List Int) : List Ob := if l = [] then [] else [.fro l.length 1 (l.map i6)]
theorem rowI_app {c : Ob} {l m : List Int} {k : LK} (hb : (l.length + m.length) * 9 ≤ 140737488355328) :
    appendv Tryd.prog 34 (c :: rowS l) 0 (rowI l) (.list k m.length 1 (m.map i6)) = some (rowI (l ++ m), c :: rowS (l ++ m)) := by
  have happ : appended (c :: rowS l) 1 (.list k m.length 1 (m.map i6)) = some (m.length, m.map i6) := by
    rw [appended_list]
    by_cases h : m.length = 0
    · have : m = [] := List.eq_nil_of_length_eq_zero h
      subst this
      rfl
    · rw [if_neg h]
  by_cases hl : l = []
  · subst hl
    unfold appendv
    rw [Tryd.underlying34]
    simp only [cells3, happ, zero3, bytes3]
    rw [if_pos ⟨owns_ints m, rfl⟩]
    simp only [rowI, if_true, Nat.zero_add, List.nil_append, rowS]
    rw [if_pos ⟨.inl trivial, .inl trivial, rfl, by simpa using hb⟩]
    by_cases hm : m = []
    · subst hm
      rfl
    · have : m.length ≠ 0 := fun e => hm (List.eq_nil_of_length_eq_zero e)
      rw [if_neg this, if_neg hm, if_neg hm]
      rfl
  · have hlm : l ++ m ≠ [] := by simp [hl]
    have hr : rowS l = [.arr l.length 1 (l.map i6)] := if_neg hl
    have hi : rowI l = .own 1 l.length := if_neg hl
    have hr2 : rowS (l ++ m) = [.arr (l ++ m).length 1 ((l ++ m).map i6)] := if_neg hlm
    have hi2 : rowI (l ++ m) = .own 1 (l ++ m).length := if_neg hlm
    rw [hr] at happ
    rw [hr, hi, hr2, hi2]
    by_cases hm : m = []
    · subst hm
      have := grow_none (P := Tryd.prog) (ro := 0) (id := 1) (n := l.length) (σ := [c, Ob.arr l.length 1 (l.map i6)]) (cs := l.map i6) (ys := []) (x := .list k 0 1 []) Tryd.underlying34 zero3 (by rw [cells3]; rfl) (by rw [cells3]; rfl) (Nat.zero_le _)
        (by rw [cells3]; exact happ) rfl (by rw [bytes3]; simpa using hb)
      simp only [List.append_nil]
      exact this
    · have hm0 : m.length ≠ 0 := fun e => hm (List.eq_nil_of_length_eq_zero e)
      have := grow_own (P := Tryd.prog) (ro := 0) (id := 1) (n := l.length) (σ := [c, Ob.arr l.length 1 (l.map i6)]) (cs := l.map i6) (ys := m.map i6) (m := m.length) (x := .list k m.length 1 (m.map i6)) Tryd.underlying34 zero3 (by rw [cells3]; rfl) (by rw [cells3]; rfl) (Nat.zero_le _)
        (by rw [cells3]; exact happ) (owns_ints m) hm0 (by rw [bytes3]; exact hb)
      rw [this, cells3]
      simp [setOb]
theorem rowI_end (c : Ob) (l : List Int) : vend1 [] 0 (c :: rowS l) [rowI l] = some (rowV l, c :: rowE l) := by
  by_cases hl : l = []
  · subst hl
    rfl
  · have hr : rowS l = [.arr l.length 1 (l.map i6)] := if_neg hl
    have hi : rowI l = .own 1 l.length := if_neg hl
    have hv : rowV l = .list .fresh l.length 1 (l.map i6) := if_neg hl
    have he : rowE l = [.fro l.length 1 (l.map i6)] := if_neg hl
    rw [hr, hi, hv, he]
    unfold vend1
    simp [AV.thawAll, AV.thaw, AV.ownsAll, AV.owns, freezeIds, freezeId, setOb, resOf, oneOf, freezeOb]
/-- Told by value. -/
theorem rowV_ro (l : List Int) : roA (rowV l) = lsi l := by
  unfold rowV
  split
  · rename_i h
    subst h
    rfl
  · simp only [roA, roAll_ints]
    have e : (if l.length = 0 then 1 else 1) = 1 := by split <;> rfl
    rw [e]
/-- A row that comes back, told by value. -/
theorem ro_call [Fixed] {f : FuncId} {vs : List AV} {σ : List Ob} {ro : Nat} {k : LK} {n z : Nat} {cs : List AV} {σ' : List Ob} (h : CallAt Tryd.prog f vs σ ro (.list k n z cs) σ') : CallAt Tryd.prog f vs σ ro (roA (.list k n z cs)) σ' := by
  refine ⟨h.1, fun C w us hσ hs hro hrep => Calls.mono (h.2 C w us hσ hs hro hrep) ?_⟩
  rintro e w' ⟨u, C', h1, h2, h3, h4, h5, h6⟩
  exact ⟨u, C', h1, h2, h3, h4, roA_rep C' w' _ _ h5, by simp [Fresh, roA]⟩
theorem rowV_call [Fixed] {f : FuncId} {vs : List AV} {σ : List Ob} {ro : Nat} {l : List Int} {σ' : List Ob} (h : CallAt Tryd.prog f vs σ ro (rowV l) σ') : CallAt Tryd.prog f vs σ ro (lsi l) σ' := by
  rw [← rowV_ro]
  unfold rowV at h ⊢
  split
  · rename_i e
    rw [if_pos e] at h
    exact ro_call h
  · rename_i e
    rw [if_neg e] at h
    exact ro_call h
theorem pure_rowV (l : List Int) : (rowV l).pure = true := by
  unfold rowV
  split
  · rfl
  · simp [AV.pure, AV.lt, lt_ints]
theorem lt_lsi (l : List Int) : AV.lt 0 (lsi l) = true := by simp [AV.lt, lt_ints]
/-! ### what is looked for -/
/-- The first i of a list of tries. -/
def fm (f : Nat → Option Int) (i : Nat) : List Int := (List.range i).filterMap f
theorem fm_some {f : Nat → Option Int} {i : Nat} {x : Int} (h : f i = some x) : fm f (i + 1) = fm f i ++ [x] := by
  simp [fm, List.range_succ, List.filterMap_append, h]
theorem fm_none {f : Nat → Option Int} {i : Nat} (h : f i = none) : fm f (i + 1) = fm f i := by
  simp [fm, List.range_succ, List.filterMap_append, h]
theorem fm_len (f : Nat → Option Int) (i : Nat) : (fm f i).length ≤ i := by
  have := List.length_filterMap_le f (List.range i)
  simpa [fm] using this
def headW (s : NSys) (q : Int) (k : Nat) : List ByteArray :=
  if q = 1 ∧ s.om = true then [s.powers.getD k ByteArray.empty] else [s.digits.getD q.toNat ByteArray.empty, s.powers.getD k ByteArray.empty]
theorem headL_eq {s : NSys} (hg : Good s) {q : Int} {k : Nat} (h0 : 0 ≤ q) (hq : q < s.base) (hk : k ≤ 2) : headL s q (k : Int) = some (headW s q k) := by
  have h1 : q.toNat < s.digits.length := by have := hg.dig; omega
  have h2 : k < s.powers.length := by have := hg.pow; omega
  unfold headL headW
  rw [if_neg (by omega)]
  simp only [Int.toNat_natCast]
  rw [List.getElem?_eq_getElem h1, List.getElem?_eq_getElem h2]
  simp [List.getD_eq_getElem?_getD, List.getElem?_eq_getElem h1, List.getElem?_eq_getElem h2]
theorem headW_len (s : NSys) (q : Int) (k : Nat) : (headW s q k).length ≤ 2 ∧ 0 < (headW s q k).length := by
  unfold headW
  split <;> simp
def eqW (x y : ByteArray) : Bool := x.toList == y.toList
def digF (s : NSys) (x : ByteArray) (d : Nat) : Option Int := if eqW (s.digits.getD d ByteArray.empty) x then some (d : Int) else none
def digQ (s : NSys) (t : List ByteArray) : List Int := match t with
  | [x] => fm (digF s x) s.base.toNat
  | _ => []
/-- One number that is said by subtraction. -/
def subF (s : NSys) (t : List ByteArray) (q p : Int) (m : Nat) : Option Int :=
  if eqW (s.digits.getD (m + 1) ByteArray.empty) (t.getD 0 ByteArray.empty) ∧ (q + 1) * p - ((m : Int) + 1) ≤ 9999 then some ((q + 1) * p - ((m : Int) + 1)) else none
def subC (s : NSys) (t : List ByteArray) (q : Int) (k : Nat) : Bool :=
  decide (t.length = 4) && (decide (s.sub ≠ 0) && (decide (q + 1 < s.base) && (eqAt t 1 s.le && textsL (t.drop 2) (headW s (q + 1) k))))
def subQ (s : NSys) (t : List ByteArray) (q p : Int) (k : Nat) : List Int := if subC s t q k then fm (subF s t q p) s.sub.toNat else []
def regF (s : NSys) (q p : Int) (r : Int) : Option Int := if 0 < r ∧ r < p ∧ q * p + r ≤ 9999 ∧ lessL s q p r = false then some (q * p + r) else none
def regQ (s : NSys) (N : List ByteArray → List Int) (t : List ByteArray) (q p : Int) (k : Nat) : List Int :=
  match restP s t (headW s q k) with
  | some (o, true) => if o = [] then [q * p] else (N o).filterMap (regF s q p)
  | _ => []
def oneQ (s : NSys) (N : List ByteArray → List Int) (t : List ByteArray) (k : Nat) (j : Nat) : List Int :=
  regQ s N t ((j : Int) + 1) (s.base ^ (k + 1)) k ++ subQ s t ((j : Int) + 1) (s.base ^ (k + 1)) k
def lvlQ (s : NSys) (N : List ByteArray → List Int) (t : List ByteArray) (k : Nat) (j : Nat) : List Int := (List.range j).flatMap (oneQ s N t k)
theorem lvlQ_succ (s : NSys) (N : List ByteArray → List Int) (t : List ByteArray) (k j : Nat) : lvlQ s N t k (j + 1) = lvlQ s N t k j ++ oneQ s N t k j := by
  simp [lvlQ, List.range_succ, List.flatMap_append]
def cntQ (s : NSys) (k : Nat) : Nat := min (s.base.toNat - 1) (9999 / s.base ^ (k + 1)).toNat
def numQ (s : NSys) : Nat → List ByteArray → List Int
  | 0, t => digQ s t
  | k + 1, t => numQ s k t ++ lvlQ s (numQ s k) t k (cntQ s k)
def bnd : Nat → Nat
  | 0 => 20
  | k + 1 => bnd k + 20 * (bnd k + 21)
theorem subQ_len {s : NSys} (hg : Good s) (t : List ByteArray) (q p : Int) (k : Nat) : (subQ s t q p k).length ≤ 20 := by
  unfold subQ
  split
  · have := fm_len (subF s t q p) s.sub.toNat
    have := hg.sub1
    have := hg.base
    omega
  · simp
theorem regQ_len {s : NSys} {N : List ByteArray → List Int} {B : Nat} (hN : ∀ t, (N t).length ≤ B) (t : List ByteArray) (q p : Int) (k : Nat) : (regQ s N t q p k).length ≤ B + 1 := by
  unfold regQ
  split
  · rename_i o _
    split
    · simp
    · have := List.length_filterMap_le (regF s q p) (N o)
      have := hN o
      omega
  · simp
theorem lvlQ_len {s : NSys} (hg : Good s) {N : List ByteArray → List Int} {B : Nat} (hN : ∀ t, (N t).length ≤ B) (t : List ByteArray) (k : Nat) : ∀ j, (lvlQ s N t k j).length ≤ j * (B + 21)
  | 0 => by simp [lvlQ]
  | j + 1 => by
    have ih := lvlQ_len hg hN t k j
    have h1 := regQ_len (s := s) hN t ((j : Int) + 1) (s.base ^ (k + 1)) k
    have h2 := subQ_len hg t ((j : Int) + 1) (s.base ^ (k + 1)) k
    rw [lvlQ_succ, List.length_append, oneQ, List.length_append, Nat.succ_mul]
    omega
theorem numQ_len {s : NSys} (hg : Good s) : ∀ (k : Nat) (t : List ByteArray), (numQ s k t).length ≤ bnd k
  | 0, t => by
    have hb := hg.base
    simp only [numQ, bnd, digQ]
    split
    · refine Nat.le_trans (fm_len _ _) (by omega)
    · simp
  | k + 1, t => by
    have ih := numQ_len hg k
    have hb := hg.base
    have h1 := ih t
    have h2 := lvlQ_len hg ih t k (cntQ s k)
    have h3 : cntQ s k ≤ 20 := by unfold cntQ; omega
    have h4 : cntQ s k * (bnd k + 21) ≤ 20 * (bnd k + 21) := Nat.mul_le_mul_right _ h3
    simp only [numQ, bnd, List.length_append]
    omega
theorem bnd_le {k : Nat} (h : k ≤ 3) : bnd k ≤ 1000000 := by
  have : k = 0 ∨ k = 1 ∨ k = 2 ∨ k = 3 := by omega
  rcases this with rfl | rfl | rfl | rfl <;> decide
end Go.Proofs.Num
end
/- Numeral: subtracted, walked. -/
section
open Go Go.Vm Go.Proofs
namespace Go.Proofs.Num
def subS0 (s : NSys) (t : List ByteArray) (hd : List ByteArray) (t2 : List ByteArray) (q : Int) (p : Int) (i : Int) (ra : List AV) (x : ByteArray) (o : Nat → AV) (S : Nat → List Ob) (i0 : Nat) : St :=
  stOf 86 [50, 51, 52, 53, 54, 55, 56, 57, 58, 59, 60, 61, 62, 63, 64, 65, 66, 67, 68, 69, 70, 71, 72, 73, 74, 75, 76, 77, 78, 79, 80, 81, 82, 83, 84] [(0, AV.agg (sysC s)), (1, lro (List.length t) 1 (List.map st t)), (2, i6 q), (3, i6 p), (4, i6 i), (5, AV.ref 0 0), (10, AV.list LK.nil 0 0 []), (11, o i0), (12, i6 ((↑i0 : Int) + 1)), (13, lro (List.length t) 1 (List.map st t)), (14, i6 (↑(List.length t) : Int)), (15, bo false), (16, bo false), (17, AV.ref 0 0), (18, AV.ref 0 5), (19, i6 (NSys.sub s)), (20, bo false), (21, bo false), (22, bo false), (23, i6 q), (24, i6 (w6 (q + 1))), (25, AV.ref 0 0), (26, AV.ref 0 0), (27, i6 (NSys.base s)), (28, bo false), (29, bo false), (30, bo false), (31, lro (List.length t) 1 (List.map st t)), (32, AV.eaddr ra), (33, st x), (34, AV.ref 0 0), (35, AV.ref 0 6), (36, st (NSys.le s)), (37, bo false), (38, bo false), (39, bo false), (40, lro (List.length t) 1 (List.map st t)), (41, lro (List.length t2) 1 (List.map st t2)), (42, AV.agg (sysC s)), (43, i6 q), (44, i6 (w6 (q + 1))), (45, i6 i), (46, lro (List.length hd) 1 (List.map st hd)), (47, bo true), (48, bo false), (49, bo false)] (Ob.cells (sysC s) :: S i0)
def subS1 (s : NSys) (t : List ByteArray) (hd : List ByteArray) (t2 : List ByteArray) (q : Int) (p : Int) (i : Int) (ra : List AV) (rb : List AV) (rc : List AV) (x : ByteArray) (y : ByteArray) (z : ByteArray) (o : Nat → AV) (oA : AV) (SA : List Ob) (i0 : Nat) : St :=
  stOf 86 [] [(0, AV.agg (sysC s)), (1, lro (List.length t) 1 (List.map st t)), (2, i6 q), (3, i6 p), (4, i6 i), (5, AV.ref 0 0), (10, AV.list LK.nil 0 0 []), (11, oA), (12, i6 (w6 ((↑i0 : Int) + 1 + 1))), (13, lro (List.length t) 1 (List.map st t)), (14, i6 (↑(List.length t) : Int)), (15, bo false), (16, bo false), (17, AV.ref 0 0), (18, AV.ref 0 5), (19, i6 (NSys.sub s)), (20, bo false), (21, bo false), (22, bo false), (23, i6 q), (24, i6 (w6 (q + 1))), (25, AV.ref 0 0), (26, AV.ref 0 0), (27, i6 (NSys.base s)), (28, bo false), (29, bo false), (30, bo false), (31, lro (List.length t) 1 (List.map st t)), (32, AV.eaddr ra), (33, st x), (34, AV.ref 0 0), (35, AV.ref 0 6), (36, st (NSys.le s)), (37, bo false), (38, bo false), (39, bo false), (40, lro (List.length t) 1 (List.map st t)), (41, lro (List.length t2) 1 (List.map st t2)), (42, AV.agg (sysC s)), (43, i6 q), (44, i6 (w6 (q + 1))), (45, i6 i), (46, lro (List.length hd) 1 (List.map st hd)), (47, bo true), (48, bo false), (49, bo false), (50, i6 ((↑i0 : Int) + 1)), (51, AV.ref 0 0), (52, AV.ref 0 5), (53, i6 (NSys.sub s)), (54, bo true), (55, i6 ((↑i0 : Int) + 1)), (56, i6 (w6 ((↑i0 : Int) + 1 + 1))), (57, AV.ref 0 0), (58, AV.ref 0 1), (59, lro (List.length (NSys.digits s)) 1 (List.map st (NSys.digits s))), (60, i6 ((↑i0 : Int) + 1)), (61, AV.eaddr rb), (62, st y), (63, lro (List.length t) 1 (List.map st t)), (64, AV.eaddr rc), (65, st z), (66, bo true), (67, bo true), (68, i6 q), (69, i6 (w6 (q + 1))), (70, i6 p), (71, i6 (w6 (w6 (q + 1) * p))), (72, i6 ((↑i0 : Int) + 1)), (73, i6 (w6 (w6 (w6 (q + 1) * p) - ((↑i0 : Int) + 1)))), (74, bo true), (75, bo true), (76, o i0), (77, i6 q), (78, i6 (w6 (q + 1))), (79, i6 p), (80, i6 (w6 (w6 (q + 1) * p))), (81, i6 ((↑i0 : Int) + 1)), (82, i6 (w6 (w6 (w6 (q + 1) * p) - ((↑i0 : Int) + 1)))), (83, AV.list LK.clip 1 1 [i6 (w6 (w6 (w6 (q + 1) * p) - ((↑i0 : Int) + 1)))]), (84, oA)] (Ob.cells (sysC s) :: SA)
def subS2 (s : NSys) (t : List ByteArray) (hd : List ByteArray) (t2 : List ByteArray) (q : Int) (p : Int) (i : Int) (ra : List AV) (rb : List AV) (rc : List AV) (x : ByteArray) (y : ByteArray) (z : ByteArray) (o : Nat → AV) (S : Nat → List Ob) (i0 : Nat) : St :=
  stOf 86 [76, 77, 78, 79, 80, 81, 82, 83, 84] [(0, AV.agg (sysC s)), (1, lro (List.length t) 1 (List.map st t)), (2, i6 q), (3, i6 p), (4, i6 i), (5, AV.ref 0 0), (10, AV.list LK.nil 0 0 []), (11, o i0), (12, i6 (w6 ((↑i0 : Int) + 1 + 1))), (13, lro (List.length t) 1 (List.map st t)), (14, i6 (↑(List.length t) : Int)), (15, bo false), (16, bo false), (17, AV.ref 0 0), (18, AV.ref 0 5), (19, i6 (NSys.sub s)), (20, bo false), (21, bo false), (22, bo false), (23, i6 q), (24, i6 (w6 (q + 1))), (25, AV.ref 0 0), (26, AV.ref 0 0), (27, i6 (NSys.base s)), (28, bo false), (29, bo false), (30, bo false), (31, lro (List.length t) 1 (List.map st t)), (32, AV.eaddr ra), (33, st x), (34, AV.ref 0 0), (35, AV.ref 0 6), (36, st (NSys.le s)), (37, bo false), (38, bo false), (39, bo false), (40, lro (List.length t) 1 (List.map st t)), (41, lro (List.length t2) 1 (List.map st t2)), (42, AV.agg (sysC s)), (43, i6 q), (44, i6 (w6 (q + 1))), (45, i6 i), (46, lro (List.length hd) 1 (List.map st hd)), (47, bo true), (48, bo false), (49, bo false), (50, i6 ((↑i0 : Int) + 1)), (51, AV.ref 0 0), (52, AV.ref 0 5), (53, i6 (NSys.sub s)), (54, bo true), (55, i6 ((↑i0 : Int) + 1)), (56, i6 (w6 ((↑i0 : Int) + 1 + 1))), (57, AV.ref 0 0), (58, AV.ref 0 1), (59, lro (List.length (NSys.digits s)) 1 (List.map st (NSys.digits s))), (60, i6 ((↑i0 : Int) + 1)), (61, AV.eaddr rb), (62, st y), (63, lro (List.length t) 1 (List.map st t)), (64, AV.eaddr rc), (65, st z), (66, bo true), (67, bo true), (68, i6 q), (69, i6 (w6 (q + 1))), (70, i6 p), (71, i6 (w6 (w6 (q + 1) * p))), (72, i6 ((↑i0 : Int) + 1)), (73, i6 (w6 (w6 (w6 (q + 1) * p) - ((↑i0 : Int) + 1)))), (74, bo false), (75, bo false)] (Ob.cells (sysC s) :: S i0)
def subS3 (s : NSys) (t : List ByteArray) (hd : List ByteArray) (t2 : List ByteArray) (q : Int) (p : Int) (i : Int) (ra : List AV) (rb : List AV) (rc : List AV) (x : ByteArray) (y : ByteArray) (z : ByteArray) (o : Nat → AV) (S : Nat → List Ob) (i0 : Nat) : St :=
  stOf 86 [76, 77, 78, 79, 80, 81, 82, 83, 84] [(0, AV.agg (sysC s)), (1, lro (List.length t) 1 (List.map st t)), (2, i6 q), (3, i6 p), (4, i6 i), (5, AV.ref 0 0), (10, AV.list LK.nil 0 0 []), (11, o i0), (12, i6 (w6 ((↑i0 : Int) + 1 + 1))), (13, lro (List.length t) 1 (List.map st t)), (14, i6 (↑(List.length t) : Int)), (15, bo false), (16, bo false), (17, AV.ref 0 0), (18, AV.ref 0 5), (19, i6 (NSys.sub s)), (20, bo false), (21, bo false), (22, bo false), (23, i6 q), (24, i6 (w6 (q + 1))), (25, AV.ref 0 0), (26, AV.ref 0 0), (27, i6 (NSys.base s)), (28, bo false), (29, bo false), (30, bo false), (31, lro (List.length t) 1 (List.map st t)), (32, AV.eaddr ra), (33, st x), (34, AV.ref 0 0), (35, AV.ref 0 6), (36, st (NSys.le s)), (37, bo false), (38, bo false), (39, bo false), (40, lro (List.length t) 1 (List.map st t)), (41, lro (List.length t2) 1 (List.map st t2)), (42, AV.agg (sysC s)), (43, i6 q), (44, i6 (w6 (q + 1))), (45, i6 i), (46, lro (List.length hd) 1 (List.map st hd)), (47, bo true), (48, bo false), (49, bo false), (50, i6 ((↑i0 : Int) + 1)), (51, AV.ref 0 0), (52, AV.ref 0 5), (53, i6 (NSys.sub s)), (54, bo true), (55, i6 ((↑i0 : Int) + 1)), (56, i6 (w6 ((↑i0 : Int) + 1 + 1))), (57, AV.ref 0 0), (58, AV.ref 0 1), (59, lro (List.length (NSys.digits s)) 1 (List.map st (NSys.digits s))), (60, i6 ((↑i0 : Int) + 1)), (61, AV.eaddr rb), (62, st y), (63, lro (List.length t) 1 (List.map st t)), (64, AV.eaddr rc), (65, st z), (66, bo false), (67, bo false), (75, bo false)] (Ob.cells (sysC s) :: S i0)
def subS4 (s : NSys) (t : List ByteArray) (hd : List ByteArray) (t2 : List ByteArray) (q : Int) (p : Int) (i : Int) (ra : List AV) (x : ByteArray) (o : Nat → AV) (S : Nat → List Ob) (i0 : Nat) : St :=
  stOf 86 [55, 56, 57, 58, 59, 60, 61, 62, 63, 64, 65, 66, 67, 68, 69, 70, 71, 72, 73, 74, 75, 76, 77, 78, 79, 80, 81, 82, 83, 84] [(0, AV.agg (sysC s)), (1, lro (List.length t) 1 (List.map st t)), (2, i6 q), (3, i6 p), (4, i6 i), (5, AV.ref 0 0), (10, AV.list LK.nil 0 0 []), (11, o i0), (12, i6 ((↑i0 : Int) + 1)), (13, lro (List.length t) 1 (List.map st t)), (14, i6 (↑(List.length t) : Int)), (15, bo false), (16, bo false), (17, AV.ref 0 0), (18, AV.ref 0 5), (19, i6 (NSys.sub s)), (20, bo false), (21, bo false), (22, bo false), (23, i6 q), (24, i6 (w6 (q + 1))), (25, AV.ref 0 0), (26, AV.ref 0 0), (27, i6 (NSys.base s)), (28, bo false), (29, bo false), (30, bo false), (31, lro (List.length t) 1 (List.map st t)), (32, AV.eaddr ra), (33, st x), (34, AV.ref 0 0), (35, AV.ref 0 6), (36, st (NSys.le s)), (37, bo false), (38, bo false), (39, bo false), (40, lro (List.length t) 1 (List.map st t)), (41, lro (List.length t2) 1 (List.map st t2)), (42, AV.agg (sysC s)), (43, i6 q), (44, i6 (w6 (q + 1))), (45, i6 i), (46, lro (List.length hd) 1 (List.map st hd)), (47, bo true), (48, bo false), (49, bo false), (50, i6 ((↑i0 : Int) + 1)), (51, AV.ref 0 0), (52, AV.ref 0 5), (53, i6 (NSys.sub s)), (54, bo false)] (Ob.cells (sysC s) :: S i0)
def subS5 (s : NSys) (t : List ByteArray) (hd : List ByteArray) (t2 : List ByteArray) (q : Int) (p : Int) (i : Int) (ra : List AV) (x : ByteArray) : St :=
  stOf 86 [] [(0, AV.agg (sysC s)), (1, lro (List.length t) 1 (List.map st t)), (2, i6 q), (3, i6 p), (4, i6 i), (5, AV.ref 0 0), (10, AV.list LK.nil 0 0 []), (11, AV.list LK.nil 0 0 []), (12, i6 1), (13, lro (List.length t) 1 (List.map st t)), (14, i6 (↑(List.length t) : Int)), (15, bo false), (16, bo false), (17, AV.ref 0 0), (18, AV.ref 0 5), (19, i6 (NSys.sub s)), (20, bo false), (21, bo false), (22, bo false), (23, i6 q), (24, i6 (w6 (q + 1))), (25, AV.ref 0 0), (26, AV.ref 0 0), (27, i6 (NSys.base s)), (28, bo false), (29, bo false), (30, bo false), (31, lro (List.length t) 1 (List.map st t)), (32, AV.eaddr ra), (33, st x), (34, AV.ref 0 0), (35, AV.ref 0 6), (36, st (NSys.le s)), (37, bo false), (38, bo false), (39, bo false), (40, lro (List.length t) 1 (List.map st t)), (41, lro (List.length t2) 1 (List.map st t2)), (42, AV.agg (sysC s)), (43, i6 q), (44, i6 (w6 (q + 1))), (45, i6 i), (46, lro (List.length hd) 1 (List.map st hd)), (47, bo true), (48, bo false), (49, bo false)] [Ob.cells (sysC s)]
theorem sub_pt (s : NSys) (t : List ByteArray) (q : Int) (p : Int) (i : Int) (X : Ext) (call : Caller) (lf : Nat)
  (h0 : ((↑(List.length t) : Int) != 4) = true) : vbody Tryd.prog X call lf noFg Tryd.f49 (codeOf Tryd.f49) [AV.agg (sysC s), lro (List.length t) 1 (List.map st t), i6 q, i6 p, i6 i] [] 0 = some (AV.list LK.nil 0 0 [], [Ob.cells (sysC s)]) :=
  along_sound (ans := [(6, Ans.b true)]) (by kernel_rfl) (And.intro h0 trivial)
theorem sub_pft (s : NSys) (t : List ByteArray) (q : Int) (p : Int) (i : Int) (X : Ext) (call : Caller) (lf : Nat)
  (h0 : ((↑(List.length t) : Int) != 4) = false)
  (h1 : (NSys.sub s == 0) = true) : vbody Tryd.prog X call lf noFg Tryd.f49 (codeOf Tryd.f49) [AV.agg (sysC s), lro (List.length t) 1 (List.map st t), i6 q, i6 p, i6 i] [] 0 = some (AV.list LK.nil 0 0 [], [Ob.cells (sysC s)]) :=
  along_sound (ans := [(6, Ans.b false), (15, Ans.b true)]) (by kernel_rfl) (And.intro h0 (And.intro h1 trivial))
theorem sub_pfft (s : NSys) (t : List ByteArray) (q : Int) (p : Int) (i : Int) (X : Ext) (call : Caller) (lf : Nat)
  (h0 : ((↑(List.length t) : Int) != 4) = false)
  (h1 : (NSys.sub s == 0) = false)
  (h2 : decide (w6 (q + 1) ≥ NSys.base s) = true) : vbody Tryd.prog X call lf noFg Tryd.f49 (codeOf Tryd.f49) [AV.agg (sysC s), lro (List.length t) 1 (List.map st t), i6 q, i6 p, i6 i] [] 0 = some (AV.list LK.nil 0 0 [], [Ob.cells (sysC s)]) :=
  along_sound (ans := [(6, Ans.b false), (15, Ans.b false), (29, Ans.b true)]) (by kernel_rfl) (And.intro h0 (And.intro h1 (And.intro h2 trivial)))
theorem sub_pffft (s : NSys) (t : List ByteArray) (q : Int) (p : Int) (i : Int) (ra : List AV) (x : ByteArray) (X : Ext) (call : Caller) (lf : Nat)
  (h0 : ((↑(List.length t) : Int) != 4) = false)
  (h1 : (NSys.sub s == 0) = false)
  (h2 : decide (w6 (q + 1) ≥ NSys.base s) = false)
  (h3 : keep [Ob.cells (sysC s)] (indexAddrv Tryd.prog 22 [Ob.cells (sysC s)] (lro (List.length t) 1 (List.map st t)) (i6 1)) = some (AV.eaddr ra, [Ob.cells (sysC s)]))
  (h4 : keep [Ob.cells (sysC s)] (loadv Tryd.prog 9 [Ob.cells (sysC s)] (AV.eaddr ra)) = some (st x, [Ob.cells (sysC s)]))
  (h5 : (!ByteArray.toList x == ByteArray.toList (NSys.le s)) = true) : vbody Tryd.prog X call lf noFg Tryd.f49 (codeOf Tryd.f49) [AV.agg (sysC s), lro (List.length t) 1 (List.map st t), i6 q, i6 p, i6 i] [] 0 = some (AV.list LK.nil 0 0 [], [Ob.cells (sysC s)]) :=
  along_sound (ans := [(6, Ans.b false), (15, Ans.b false), (29, Ans.b false), (35, Ans.v (AV.eaddr ra)), (37, Ans.v (st x)), (45, Ans.b true)]) (by kernel_rfl) (And.intro h0 (And.intro h1 (And.intro h2 (And.intro h3 (And.intro h4 (And.intro h5 trivial))))))
theorem sub_r0_ttt (s : NSys) (t : List ByteArray) (hd : List ByteArray) (t2 : List ByteArray) (q : Int) (p : Int) (i : Int) (ra : List AV) (rb : List AV) (rc : List AV) (x : ByteArray) (y : ByteArray) (z : ByteArray) (o : Nat → AV) (S : Nat → List Ob) (oA : AV) (SA : List Ob) (X : Ext) (call : Caller) (lf : Nat) (i0 : Nat)
  (h0 : decide ((↑i0 : Int) + 1 ≤ NSys.sub s) = true)
  (h1 : keep (Ob.cells (sysC s) :: S i0) (indexAddrv Tryd.prog 22 (Ob.cells (sysC s) :: S i0) (lro (List.length (NSys.digits s)) 1 (List.map st (NSys.digits s))) (i6 ((↑i0 : Int) + 1))) = some (AV.eaddr rb, Ob.cells (sysC s) :: S i0))
  (h2 : keep (Ob.cells (sysC s) :: S i0) (loadv Tryd.prog 9 (Ob.cells (sysC s) :: S i0) (AV.eaddr rb)) = some (st y, Ob.cells (sysC s) :: S i0))
  (h3 : keep (Ob.cells (sysC s) :: S i0) (indexAddrv Tryd.prog 22 (Ob.cells (sysC s) :: S i0) (lro (List.length t) 1 (List.map st t)) (i6 0)) = some (AV.eaddr rc, Ob.cells (sysC s) :: S i0))
  (h4 : keep (Ob.cells (sysC s) :: S i0) (loadv Tryd.prog 9 (Ob.cells (sysC s) :: S i0) (AV.eaddr rc)) = some (st z, Ob.cells (sysC s) :: S i0))
  (h5 : (ByteArray.toList y == ByteArray.toList z) = true)
  (h6 : decide (w6 (w6 (w6 (q + 1) * p) - ((↑i0 : Int) + 1)) ≤ 9999) = true)
  (h7 : appendv Tryd.prog 34 (Ob.cells (sysC s) :: S i0) 0 (o i0) (AV.list LK.clip 1 1 [i6 (w6 (w6 (w6 (q + 1) * p) - ((↑i0 : Int) + 1)))]) = some (oA, Ob.cells (sysC s) :: SA)) : vexec Tryd.prog X call lf 0 noFg (loopN Tryd.f49 0) (subS0 s t hd t2 q p i ra x o S i0) = some (Ex.normal, (subS1 s t hd t2 q p i ra rb rc x y z o oA SA i0)) :=
  around_sound (ans := [(5, Ans.b true), (12, Ans.v (AV.eaddr rb)), (13, Ans.v (st y)), (15, Ans.v (AV.eaddr rc)), (16, Ans.v (st z)), (17, Ans.b true), (32, Ans.b true), (44, Ans.c oA (Ob.cells (sysC s) :: SA))]) (by kernel_rfl) (And.intro h0 (And.intro h1 (And.intro h2 (And.intro h3 (And.intro h4 (And.intro h5 (And.intro h6 (And.intro h7 trivial))))))))
theorem sub_r0_ttf (s : NSys) (t : List ByteArray) (hd : List ByteArray) (t2 : List ByteArray) (q : Int) (p : Int) (i : Int) (ra : List AV) (rb : List AV) (rc : List AV) (x : ByteArray) (y : ByteArray) (z : ByteArray) (o : Nat → AV) (S : Nat → List Ob) (X : Ext) (call : Caller) (lf : Nat) (i0 : Nat)
  (h0 : decide ((↑i0 : Int) + 1 ≤ NSys.sub s) = true)
  (h1 : keep (Ob.cells (sysC s) :: S i0) (indexAddrv Tryd.prog 22 (Ob.cells (sysC s) :: S i0) (lro (List.length (NSys.digits s)) 1 (List.map st (NSys.digits s))) (i6 ((↑i0 : Int) + 1))) = some (AV.eaddr rb, Ob.cells (sysC s) :: S i0))
  (h2 : keep (Ob.cells (sysC s) :: S i0) (loadv Tryd.prog 9 (Ob.cells (sysC s) :: S i0) (AV.eaddr rb)) = some (st y, Ob.cells (sysC s) :: S i0))
  (h3 : keep (Ob.cells (sysC s) :: S i0) (indexAddrv Tryd.prog 22 (Ob.cells (sysC s) :: S i0) (lro (List.length t) 1 (List.map st t)) (i6 0)) = some (AV.eaddr rc, Ob.cells (sysC s) :: S i0))
  (h4 : keep (Ob.cells (sysC s) :: S i0) (loadv Tryd.prog 9 (Ob.cells (sysC s) :: S i0) (AV.eaddr rc)) = some (st z, Ob.cells (sysC s) :: S i0))
  (h5 : (ByteArray.toList y == ByteArray.toList z) = true)
  (h6 : decide (w6 (w6 (w6 (q + 1) * p) - ((↑i0 : Int) + 1)) ≤ 9999) = false) : vexec Tryd.prog X call lf 0 noFg (loopN Tryd.f49 0) (subS0 s t hd t2 q p i ra x o S i0) = some (Ex.normal, (subS2 s t hd t2 q p i ra rb rc x y z o S i0)) :=
  around_sound (ans := [(5, Ans.b true), (12, Ans.v (AV.eaddr rb)), (13, Ans.v (st y)), (15, Ans.v (AV.eaddr rc)), (16, Ans.v (st z)), (17, Ans.b true), (32, Ans.b false)]) (by kernel_rfl) (And.intro h0 (And.intro h1 (And.intro h2 (And.intro h3 (And.intro h4 (And.intro h5 (And.intro h6 trivial)))))))
theorem sub_r0_tf (s : NSys) (t : List ByteArray) (hd : List ByteArray) (t2 : List ByteArray) (q : Int) (p : Int) (i : Int) (ra : List AV) (rb : List AV) (rc : List AV) (x : ByteArray) (y : ByteArray) (z : ByteArray) (o : Nat → AV) (S : Nat → List Ob) (X : Ext) (call : Caller) (lf : Nat) (i0 : Nat)
  (h0 : decide ((↑i0 : Int) + 1 ≤ NSys.sub s) = true)
  (h1 : keep (Ob.cells (sysC s) :: S i0) (indexAddrv Tryd.prog 22 (Ob.cells (sysC s) :: S i0) (lro (List.length (NSys.digits s)) 1 (List.map st (NSys.digits s))) (i6 ((↑i0 : Int) + 1))) = some (AV.eaddr rb, Ob.cells (sysC s) :: S i0))
  (h2 : keep (Ob.cells (sysC s) :: S i0) (loadv Tryd.prog 9 (Ob.cells (sysC s) :: S i0) (AV.eaddr rb)) = some (st y, Ob.cells (sysC s) :: S i0))
  (h3 : keep (Ob.cells (sysC s) :: S i0) (indexAddrv Tryd.prog 22 (Ob.cells (sysC s) :: S i0) (lro (List.length t) 1 (List.map st t)) (i6 0)) = some (AV.eaddr rc, Ob.cells (sysC s) :: S i0))
  (h4 : keep (Ob.cells (sysC s) :: S i0) (loadv Tryd.prog 9 (Ob.cells (sysC s) :: S i0) (AV.eaddr rc)) = some (st z, Ob.cells (sysC s) :: S i0))
  (h5 : (ByteArray.toList y == ByteArray.toList z) = false) : vexec Tryd.prog X call lf 0 noFg (loopN Tryd.f49 0) (subS0 s t hd t2 q p i ra x o S i0) = some (Ex.normal, (subS3 s t hd t2 q p i ra rb rc x y z o S i0)) :=
  around_sound (ans := [(5, Ans.b true), (12, Ans.v (AV.eaddr rb)), (13, Ans.v (st y)), (15, Ans.v (AV.eaddr rc)), (16, Ans.v (st z)), (17, Ans.b false)]) (by kernel_rfl) (And.intro h0 (And.intro h1 (And.intro h2 (And.intro h3 (And.intro h4 (And.intro h5 trivial))))))
theorem sub_r0_f (s : NSys) (t : List ByteArray) (hd : List ByteArray) (t2 : List ByteArray) (q : Int) (p : Int) (i : Int) (ra : List AV) (x : ByteArray) (o : Nat → AV) (S : Nat → List Ob) (X : Ext) (call : Caller) (lf : Nat) (i0 : Nat)
  (h0 : decide ((↑i0 : Int) + 1 ≤ NSys.sub s) = false) : vexec Tryd.prog X call lf 0 noFg (loopN Tryd.f49 0) (subS0 s t hd t2 q p i ra x o S i0) = some (Ex.exit 0, (subS4 s t hd t2 q p i ra x o S i0)) :=
  around_sound (ans := [(5, Ans.b false)]) (by kernel_rfl) (And.intro h0 trivial)
theorem sub_pfffftlf (s : NSys) (t : List ByteArray) (hd : List ByteArray) (t2 : List ByteArray) (q : Int) (p : Int) (i : Int) (ra : List AV) (x : ByteArray) (o : Nat → AV) (S : Nat → List Ob) (r : AV) (Sr : List Ob) (X : Ext) (call : Caller) (lf : Nat) (i0 : Nat)
  (h0 : ((↑(List.length t) : Int) != 4) = false)
  (h1 : (NSys.sub s == 0) = false)
  (h2 : decide (w6 (q + 1) ≥ NSys.base s) = false)
  (h3 : keep [Ob.cells (sysC s)] (indexAddrv Tryd.prog 22 [Ob.cells (sysC s)] (lro (List.length t) 1 (List.map st t)) (i6 1)) = some (AV.eaddr ra, [Ob.cells (sysC s)]))
  (h4 : keep [Ob.cells (sysC s)] (loadv Tryd.prog 9 [Ob.cells (sysC s)] (AV.eaddr ra)) = some (st x, [Ob.cells (sysC s)]))
  (h5 : (!ByteArray.toList x == ByteArray.toList (NSys.le s)) = false)
  (h6 : slc Tryd.prog 22 [Ob.cells (sysC s)] true 0 (lro (List.length t) 1 (List.map st t)) (some (i6 2)) none none = some (lro (List.length t2) 1 (List.map st t2), [Ob.cells (sysC s)]))
  (h7 : callv X call true 59 [AV.agg (sysC s), i6 (w6 (q + 1)), i6 i] [Ob.cells (sysC s)] 0 = some (lro (List.length hd) 1 (List.map st hd), [Ob.cells (sysC s)]))
  (h8 : callv X call true 60 [lro (List.length t2) 1 (List.map st t2), lro (List.length hd) 1 (List.map st hd)] [Ob.cells (sysC s)] 0 = some (bo true, [Ob.cells (sysC s)]))
  (h9 : vexec Tryd.prog X call lf 0 noFg (Code.loop (loopN Tryd.f49 0)) (subS5 s t hd t2 q p i ra x) = some (Ex.exit 0, (subS4 s t hd t2 q p i ra x o S i0)))
  (h10 : vend1 [] 0 (Ob.cells (sysC s) :: S i0) [o i0] = some (r, Sr)) : vbody Tryd.prog X call lf noFg Tryd.f49 (codeOf Tryd.f49) [AV.agg (sysC s), lro (List.length t) 1 (List.map st t), i6 q, i6 p, i6 i] [] 0 = some (r, Sr) :=
  along_sound (ans := [(6, Ans.b false), (15, Ans.b false), (29, Ans.b false), (35, Ans.v (AV.eaddr ra)), (37, Ans.v (st x)), (45, Ans.b false), (51, Ans.v (lro (List.length t2) 1 (List.map st t2))), (61, Ans.v (lro (List.length hd) 1 (List.map st hd))), (63, Ans.v (bo true)), (72, Ans.l (Ex.exit 0) (subS4 s t hd t2 q p i ra x o S i0)), (76, Ans.c r Sr)]) (by kernel_rfl) (And.intro h0 (And.intro h1 (And.intro h2 (And.intro h3 (And.intro h4 (And.intro h5 (And.intro h6 (And.intro h7 (And.intro h8 (And.intro h9 (And.intro h10 trivial)))))))))))
theorem sub_pfffff (s : NSys) (t : List ByteArray) (hd : List ByteArray) (t2 : List ByteArray) (q : Int) (p : Int) (i : Int) (ra : List AV) (x : ByteArray) (X : Ext) (call : Caller) (lf : Nat)
  (h0 : ((↑(List.length t) : Int) != 4) = false)
  (h1 : (NSys.sub s == 0) = false)
  (h2 : decide (w6 (q + 1) ≥ NSys.base s) = false)
  (h3 : keep [Ob.cells (sysC s)] (indexAddrv Tryd.prog 22 [Ob.cells (sysC s)] (lro (List.length t) 1 (List.map st t)) (i6 1)) = some (AV.eaddr ra, [Ob.cells (sysC s)]))
  (h4 : keep [Ob.cells (sysC s)] (loadv Tryd.prog 9 [Ob.cells (sysC s)] (AV.eaddr ra)) = some (st x, [Ob.cells (sysC s)]))
  (h5 : (!ByteArray.toList x == ByteArray.toList (NSys.le s)) = false)
  (h6 : slc Tryd.prog 22 [Ob.cells (sysC s)] true 0 (lro (List.length t) 1 (List.map st t)) (some (i6 2)) none none = some (lro (List.length t2) 1 (List.map st t2), [Ob.cells (sysC s)]))
  (h7 : callv X call true 59 [AV.agg (sysC s), i6 (w6 (q + 1)), i6 i] [Ob.cells (sysC s)] 0 = some (lro (List.length hd) 1 (List.map st hd), [Ob.cells (sysC s)]))
  (h8 : callv X call true 60 [lro (List.length t2) 1 (List.map st t2), lro (List.length hd) 1 (List.map st hd)] [Ob.cells (sysC s)] 0 = some (bo false, [Ob.cells (sysC s)])) : vbody Tryd.prog X call lf noFg Tryd.f49 (codeOf Tryd.f49) [AV.agg (sysC s), lro (List.length t) 1 (List.map st t), i6 q, i6 p, i6 i] [] 0 = some (AV.list LK.nil 0 0 [], [Ob.cells (sysC s)]) :=
  along_sound (ans := [(6, Ans.b false), (15, Ans.b false), (29, Ans.b false), (35, Ans.v (AV.eaddr ra)), (37, Ans.v (st x)), (45, Ans.b false), (51, Ans.v (lro (List.length t2) 1 (List.map st t2))), (61, Ans.v (lro (List.length hd) 1 (List.map st hd))), (63, Ans.v (bo false))]) (by kernel_rfl) (And.intro h0 (And.intro h1 (And.intro h2 (And.intro h3 (And.intro h4 (And.intro h5 (And.intro h6 (And.intro h7 (And.intro h8 trivial)))))))))


/-! ### numbers by subtraction -/
theorem at_dig {S : List Ob} {s : NSys} (hg : Good s) {m : Nat} (h : (m : Int) < s.base) :
    keep S (indexAddrv Tryd.prog 22 S (lro s.digits.length 1 (s.digits.map st)) (i6 (m : Int))) = some (.eaddr ((s.digits.map st).drop m), S) ∧
    keep S (loadv Tryd.prog 9 S (.eaddr ((s.digits.map st).drop m))) = some (st (s.digits.getD m ByteArray.empty), S) := by
  have hm : m < s.digits.length := by have := hg.dig; omega
  have e : s.digits[m]? = some (s.digits.getD m ByteArray.empty) := by
    rw [List.getD_eq_getElem?_getD, List.getElem?_eq_getElem hm]
    rfl
  exact idx_strs e
theorem at_tok {S : List Ob} {t : List ByteArray} {m : Nat} (h : m < t.length) :
    keep S (indexAddrv Tryd.prog 22 S (lro t.length 1 (t.map st)) (i6 (m : Int))) = some (.eaddr ((t.map st).drop m), S) ∧
    keep S (loadv Tryd.prog 9 S (.eaddr ((t.map st).drop m))) = some (st (t.getD m ByteArray.empty), S) := by
  have e : t[m]? = some (t.getD m ByteArray.empty) := by
    rw [List.getD_eq_getElem?_getD, List.getElem?_eq_getElem h]
    rfl
  exact idx_strs e
theorem mul_small {q p : Int} (q0 : 0 ≤ q) (q1 : q ≤ 100) (p0 : 0 ≤ p) (p1 : p ≤ 10000) : 0 ≤ q * p ∧ q * p ≤ 1000000 := by
  have h1 : 0 ≤ q * p := Int.mul_nonneg q0 p0
  have h2 : q * p ≤ 100 * p := Int.mul_le_mul_of_nonneg_right q1 p0
  omega
abbrev D49 : List Nat := [56, 55, 84, 83, 82, 81, 80, 79, 78, 77, 76, 75, 74, 73, 72, 71, 70, 69, 68, 67, 66, 65, 64, 63, 62, 61, 60, 59, 58, 57, 54, 53, 52, 51, 50]
theorem dead49 : (deadC (loopN Tryd.f49 0) ([], [])).2 = D49 := by kernel_rfl
theorem sub_spec {X : Ext} {call : Caller} {lf : Nat} {s : NSys} (hg : Good s) {t : List ByteArray} {q : Int} {k : Nat} (hlf : 100 < lf) (hk : k ≤ 2) (q0 : 0 ≤ q) (q1 : q < s.base) (ht : t.length ≤ 140737488355328)
    (hE : ∀ (a b : List ByteArray) (σ : List Ob) (ro : Nat) (dr : Bool), a.length ≤ 140737488355328 → callv X call dr 60 [lst a, lst b] σ ro = some (bo (textsL a b), σ))
    (hH : ∀ (q : Int) (σ : List Ob) (ro : Nat) (dr : Bool), 0 ≤ q → q < s.base → callv X call dr 59 [AV.agg (sysC s), i6 q, i6 (k : Int)] σ ro = some (lst (headW s q k), σ)) :
    ∃ σ', vbody Tryd.prog X call lf noFg Tryd.f49 (codeOf Tryd.f49) [AV.agg (sysC s), lst t, i6 q, i6 (s.base ^ (k + 1)), i6 (k : Int)] [] 0 = some (rowV (subQ s t q (s.base ^ (k + 1)) k), σ') := by
  have hbase := hg.base
  obtain ⟨p0, p1⟩ := base_pow hg hk
  generalize s.base ^ (k + 1) = p at p0 p1 ⊢
  have hnil : rowV [] = AV.list LK.nil 0 0 [] := rfl
  unfold subQ subC
  by_cases h4 : t.length = 4
  case neg =>
    rw [decide_eq_false h4]
    exact ⟨_, sub_pt s t q p k X call lf (by simp; omega)⟩
  have e4 : ((t.length : Int) != 4) = false := by rw [h4]; rfl
  rw [decide_eq_true h4, Bool.true_and]
  by_cases h5 : s.sub = 0
  · rw [decide_eq_false (by simpa using h5), Bool.false_and]
    exact ⟨_, sub_pft s t q p k X call lf e4 (by rw [h5]; rfl)⟩
  have e5 : (s.sub == 0) = false := by simpa using h5
  rw [decide_eq_true h5, Bool.true_and]
  have eq1 : w6 (q + 1) = q + 1 := w6_id (by omega) (by omega)
  by_cases h6 : q + 1 < s.base
  case neg =>
    rw [decide_eq_false h6, Bool.false_and]
    exact ⟨_, sub_pfft s t q p k X call lf e4 e5 (by rw [eq1]; exact decide_eq_true (by omega))⟩
  have e6 : decide (w6 (q + 1) ≥ s.base) = false := by rw [eq1]; exact decide_eq_false (by omega)
  rw [decide_eq_true h6, Bool.true_and]
  obtain ⟨i1, i2⟩ := at_tok (S := [Ob.cells (sysC s)]) (t := t) (m := 1) (by omega)
  have he : eqAt t 1 s.le = ((t.getD 1 ByteArray.empty).toList == s.le.toList) := by
    unfold eqAt
    rw [List.getD_eq_getElem?_getD, List.getElem?_eq_getElem (by omega : 1 < t.length)]
    rfl
  rw [he]
  cases h7 : ((t.getD 1 ByteArray.empty).toList == s.le.toList) with
  | false =>
    exact ⟨_, sub_pffft s t q p k _ _ X call lf e4 e5 e6 i1 i2 (by rw [h7]; rfl)⟩
  | true =>
    rw [Bool.true_and]
    have e7 : (!(t.getD 1 ByteArray.empty).toList == s.le.toList) = false := by rw [h7]; rfl
    have g1 := slc_drop (σ := [Ob.cells (sysC s)]) (dr := true) (ro := 0) (l := t) (k := 2) (j := 2) rfl (by omega)
    have g2 := hH (w6 (q + 1)) [Ob.cells (sysC s)] 0 true (by omega) (by omega)
    have g3 := hE (t.drop 2) (headW s (w6 (q + 1)) k) [Ob.cells (sysC s)] 0 true (by simp; omega)
    cases h8 : textsL (t.drop 2) (headW s (q + 1) k) with
    | false =>
      rw [eq1, h8] at g3
      rw [eq1] at g2
      exact ⟨_, sub_pfffff s t _ _ q p k _ _ X call lf e4 e5 e6 i1 i2 e7 g1 (by rw [eq1]; exact g2) g3⟩
    | true =>
      rw [eq1, h8] at g3
      rw [eq1] at g2
      have hs1 := hg.sub1
      have hs0 := hg.sub0
      have hqp := mul_small (q := q + 1) (p := p) (by omega) (by omega) (by omega) (by omega)
      have eqp : w6 ((q + 1) * p) = (q + 1) * p := w6_id (by omega) (by omega)
      refine ⟨_, sub_pfffftlf s t _ _ q p k _ _ (fun i => rowI (fm (subF s t q p) i)) (fun i => rowS (fm (subF s t q p) i)) _ _ X call lf s.sub.toNat e4 e5 e6 i1 i2 e7 g1 (by rw [eq1]; exact g2) g3 ?_ (rowI_end _ _)⟩
      refine loop_run (P := Tryd.prog) (X := X) (call := call) (lf := lf) (ro := 0) (fg := noFg) dead49 (subS0 s t _ _ q p k _ _ (fun i => rowI (fm (subF s t q p) i)) (fun i => rowS (fm (subF s t q p) i))) s.sub.toNat (by omega) (by kernel_rfl) ?_ (sub_r0_f s t _ _ q p k _ _ _ _ X call lf s.sub.toNat (decide_eq_false (by omega))) (by simp)
      intro i hi
      have d0 : decide (((i : Int)) + 1 ≤ s.sub) = true := decide_eq_true (by omega)
      have ei : w6 ((i : Int) + 1 + 1) = ((i + 1 : Nat) : Int) + 1 := by rw [w6_id (by omega) (by omega)]; omega
      have ei1 : ((i + 1 : Nat) : Int) = (i : Int) + 1 := by omega
      obtain ⟨j1, j2⟩ := at_dig (S := Ob.cells (sysC s) :: rowS (fm (subF s t q p) i)) hg (m := i + 1) (by omega)
      obtain ⟨j3, j4⟩ := at_tok (S := Ob.cells (sysC s) :: rowS (fm (subF s t q p) i)) (t := t) (m := 0) (by omega)
      rw [ei1] at j1
      have eqd : w6 ((q + 1) * p - ((i : Int) + 1)) = (q + 1) * p - ((i : Int) + 1) := w6_id (by omega) (by omega)
      have eqd' : w6 (w6 (w6 (q + 1) * p) - ((i : Int) + 1)) = (q + 1) * p - ((i : Int) + 1) := by rw [eq1, eqp, eqd]
      cases h9 : ((s.digits.getD (i + 1) ByteArray.empty).toList == (t.getD 0 ByteArray.empty).toList) with
      | false =>
        refine ⟨_, sub_r0_tf s t _ _ q p k _ _ _ _ _ _ (fun i => rowI (fm (subF s t q p) i)) (fun i => rowS (fm (subF s t q p) i)) X call lf i d0 j1 j2 j3 j4 h9, ?_⟩
        have hn : subF s t q p i = none := by
          unfold subF eqW
          rw [h9, if_neg (by simp)]
        unfold subS3 subS0
        simp only [fm_none hn]
        rw [ei]
        show _ = _
        kernel_rfl
      | true =>
        by_cases hle : (q + 1) * p - ((i : Int) + 1) ≤ 9999
        · have hn : subF s t q p i = some ((q + 1) * p - ((i : Int) + 1)) := by
            unfold subF eqW
            rw [h9, if_pos ⟨rfl, hle⟩]
          have hl := fm_len (subF s t q p) i
          have happ := rowI_app (c := Ob.cells (sysC s)) (l := fm (subF s t q p) i) (m := [(q + 1) * p - ((i : Int) + 1)]) (k := .clip) (by simp only [List.length_cons, List.length_nil]; omega)
          rw [← fm_some hn] at happ
          refine ⟨_, sub_r0_ttt s t _ _ q p k _ _ _ _ _ _ (fun i => rowI (fm (subF s t q p) i)) (fun i => rowS (fm (subF s t q p) i)) (rowI (fm (subF s t q p) (i + 1))) (rowS (fm (subF s t q p) (i + 1))) X call lf i d0 j1 j2 j3 j4 h9 (by rw [eqd']; exact decide_eq_true hle) (by rw [eqd']; exact happ), ?_⟩
          unfold subS1 subS0
          rw [ei]
          show _ = _
          kernel_rfl
        · have hn : subF s t q p i = none := by
            unfold subF eqW
            rw [if_neg (fun h => hle h.2)]
          refine ⟨_, sub_r0_ttf s t _ _ q p k _ _ _ _ _ _ (fun i => rowI (fm (subF s t q p) i)) (fun i => rowS (fm (subF s t q p) i)) X call lf i d0 j1 j2 j3 j4 h9 (by rw [eqd']; exact decide_eq_false hle), ?_⟩
          unfold subS2 subS0
          simp only [fm_none hn]
          rw [ei]
          show _ = _
          kernel_rfl
end Go.Proofs.Num
end
/- Numeral: regular, walked. -/
section
open Go Go.Vm Go.Proofs
namespace Go.Proofs.Num
def regS6 (s : NSys) (t : List ByteArray) (hd : List ByteArray) (u : List ByteArray) (b : Bool) (q : Int) (p : Int) (i : Int) (ns : List Int) (o : Nat → AV) (S : Nat → List Ob) (i0 : Nat) : St :=
  stOf 78 [15, 41, 42, 43, 44, 45, 46, 47, 48, 49, 50, 51, 52, 53, 54, 55, 56, 57, 58, 59, 60, 61, 62, 63, 64, 65, 66, 67, 68, 69, 70, 71, 72, 73, 74, 75, 76] [(0, AV.agg (sysC s)), (1, lro (List.length t) 1 (List.map st t)), (2, i6 q), (3, i6 p), (4, i6 i), (5, AV.ref 0 0), (10, AV.list LK.nil 0 0 []), (11, lro (List.length u) 1 (List.map st u)), (12, bo true), (13, o i0), (16, AV.tup [lro (List.length u) 1 (List.map st u), bo b]), (17, AV.agg (sysC s)), (18, lro (List.length t) 1 (List.map st t)), (19, AV.agg (sysC s)), (20, i6 q), (21, i6 i), (22, lro (List.length hd) 1 (List.map st hd)), (23, AV.tup [lro (List.length u) 1 (List.map st u), bo b]), (24, lro (List.length u) 1 (List.map st u)), (25, bo true), (26, bo true), (27, bo false), (28, lro (List.length u) 1 (List.map st u)), (29, i6 (↑(List.length u) : Int)), (30, bo false), (35, AV.agg (sysC s)), (36, lro (List.length u) 1 (List.map st u)), (37, i6 i), (38, lro (List.length ns) 1 (List.map (AV.int IntKind.i64) ns)), (39, i6 (↑(List.length ns) : Int)), (40, i6 (↑i0 : Int))] (Ob.cells (sysC s) :: S i0)
def regS7 (s : NSys) (t : List ByteArray) (hd : List ByteArray) (u : List ByteArray) (b : Bool) (q : Int) (p : Int) (i : Int) (ns : List Int) (ra : List AV) (x : Int) (o : Nat → AV) (S : Nat → List Ob) (i0 : Nat) : St :=
  stOf 78 [68, 69, 70, 71, 72, 73, 74, 75] [(0, AV.agg (sysC s)), (1, lro (List.length t) 1 (List.map st t)), (2, i6 q), (3, i6 p), (4, i6 i), (5, AV.ref 0 0), (10, AV.list LK.nil 0 0 []), (11, lro (List.length u) 1 (List.map st u)), (12, bo true), (13, o i0), (15, i6 x), (16, AV.tup [lro (List.length u) 1 (List.map st u), bo b]), (17, AV.agg (sysC s)), (18, lro (List.length t) 1 (List.map st t)), (19, AV.agg (sysC s)), (20, i6 q), (21, i6 i), (22, lro (List.length hd) 1 (List.map st hd)), (23, AV.tup [lro (List.length u) 1 (List.map st u), bo b]), (24, lro (List.length u) 1 (List.map st u)), (25, bo true), (26, bo true), (27, bo false), (28, lro (List.length u) 1 (List.map st u)), (29, i6 (↑(List.length u) : Int)), (30, bo false), (35, AV.agg (sysC s)), (36, lro (List.length u) 1 (List.map st u)), (37, i6 i), (38, lro (List.length ns) 1 (List.map (AV.int IntKind.i64) ns)), (39, i6 (↑(List.length ns) : Int)), (40, i6 (w6 ((↑i0 : Int) + 1))), (41, bo true), (42, AV.eaddr ra), (43, i6 x), (44, i6 x), (45, bo true), (46, bo true), (47, i6 x), (48, i6 p), (49, bo true), (50, bo true), (51, bo true), (52, i6 q), (53, i6 p), (54, i6 (w6 (q * p))), (55, i6 x), (56, i6 (w6 (w6 (q * p) + x))), (57, bo true), (58, bo true), (59, bo true), (60, AV.ref 0 0), (61, AV.agg (sysC s)), (62, i6 q), (63, i6 p), (64, i6 x), (65, bo true), (66, bo false), (67, bo false), (76, i6 (w6 ((↑i0 : Int) + 1)))] (Ob.cells (sysC s) :: S i0)
def regS8 (s : NSys) (t : List ByteArray) (hd : List ByteArray) (u : List ByteArray) (b : Bool) (q : Int) (p : Int) (i : Int) (ns : List Int) (ra : List AV) (x : Int) (o : Nat → AV) (oA : AV) (SA : List Ob) (i0 : Nat) : St :=
  stOf 78 [] [(0, AV.agg (sysC s)), (1, lro (List.length t) 1 (List.map st t)), (2, i6 q), (3, i6 p), (4, i6 i), (5, AV.ref 0 0), (10, AV.list LK.nil 0 0 []), (11, lro (List.length u) 1 (List.map st u)), (12, bo true), (13, oA), (15, i6 x), (16, AV.tup [lro (List.length u) 1 (List.map st u), bo b]), (17, AV.agg (sysC s)), (18, lro (List.length t) 1 (List.map st t)), (19, AV.agg (sysC s)), (20, i6 q), (21, i6 i), (22, lro (List.length hd) 1 (List.map st hd)), (23, AV.tup [lro (List.length u) 1 (List.map st u), bo b]), (24, lro (List.length u) 1 (List.map st u)), (25, bo true), (26, bo true), (27, bo false), (28, lro (List.length u) 1 (List.map st u)), (29, i6 (↑(List.length u) : Int)), (30, bo false), (35, AV.agg (sysC s)), (36, lro (List.length u) 1 (List.map st u)), (37, i6 i), (38, lro (List.length ns) 1 (List.map (AV.int IntKind.i64) ns)), (39, i6 (↑(List.length ns) : Int)), (40, i6 (w6 ((↑i0 : Int) + 1))), (41, bo true), (42, AV.eaddr ra), (43, i6 x), (44, i6 x), (45, bo true), (46, bo true), (47, i6 x), (48, i6 p), (49, bo true), (50, bo true), (51, bo true), (52, i6 q), (53, i6 p), (54, i6 (w6 (q * p))), (55, i6 x), (56, i6 (w6 (w6 (q * p) + x))), (57, bo true), (58, bo true), (59, bo true), (60, AV.ref 0 0), (61, AV.agg (sysC s)), (62, i6 q), (63, i6 p), (64, i6 x), (65, bo false), (66, bo true), (67, bo true), (68, o i0), (69, i6 q), (70, i6 p), (71, i6 (w6 (q * p))), (72, i6 x), (73, i6 (w6 (w6 (q * p) + x))), (74, AV.list LK.clip 1 1 [i6 (w6 (w6 (q * p) + x))]), (75, oA), (76, i6 (w6 ((↑i0 : Int) + 1)))] (Ob.cells (sysC s) :: SA)
def regS9 (s : NSys) (t : List ByteArray) (hd : List ByteArray) (u : List ByteArray) (b : Bool) (q : Int) (p : Int) (i : Int) (ns : List Int) (ra : List AV) (x : Int) (o : Nat → AV) (S : Nat → List Ob) (i0 : Nat) : St :=
  stOf 78 [68, 69, 70, 71, 72, 73, 74, 75] [(0, AV.agg (sysC s)), (1, lro (List.length t) 1 (List.map st t)), (2, i6 q), (3, i6 p), (4, i6 i), (5, AV.ref 0 0), (10, AV.list LK.nil 0 0 []), (11, lro (List.length u) 1 (List.map st u)), (12, bo true), (13, o i0), (15, i6 x), (16, AV.tup [lro (List.length u) 1 (List.map st u), bo b]), (17, AV.agg (sysC s)), (18, lro (List.length t) 1 (List.map st t)), (19, AV.agg (sysC s)), (20, i6 q), (21, i6 i), (22, lro (List.length hd) 1 (List.map st hd)), (23, AV.tup [lro (List.length u) 1 (List.map st u), bo b]), (24, lro (List.length u) 1 (List.map st u)), (25, bo true), (26, bo true), (27, bo false), (28, lro (List.length u) 1 (List.map st u)), (29, i6 (↑(List.length u) : Int)), (30, bo false), (35, AV.agg (sysC s)), (36, lro (List.length u) 1 (List.map st u)), (37, i6 i), (38, lro (List.length ns) 1 (List.map (AV.int IntKind.i64) ns)), (39, i6 (↑(List.length ns) : Int)), (40, i6 (w6 ((↑i0 : Int) + 1))), (41, bo true), (42, AV.eaddr ra), (43, i6 x), (44, i6 x), (45, bo true), (46, bo true), (47, i6 x), (48, i6 p), (49, bo true), (50, bo true), (51, bo true), (52, i6 q), (53, i6 p), (54, i6 (w6 (q * p))), (55, i6 x), (56, i6 (w6 (w6 (q * p) + x))), (57, bo false), (58, bo false), (59, bo false), (67, bo false), (76, i6 (w6 ((↑i0 : Int) + 1)))] (Ob.cells (sysC s) :: S i0)
def regS10 (s : NSys) (t : List ByteArray) (hd : List ByteArray) (u : List ByteArray) (b : Bool) (q : Int) (p : Int) (i : Int) (ns : List Int) (ra : List AV) (x : Int) (o : Nat → AV) (S : Nat → List Ob) (i0 : Nat) : St :=
  stOf 78 [68, 69, 70, 71, 72, 73, 74, 75] [(0, AV.agg (sysC s)), (1, lro (List.length t) 1 (List.map st t)), (2, i6 q), (3, i6 p), (4, i6 i), (5, AV.ref 0 0), (10, AV.list LK.nil 0 0 []), (11, lro (List.length u) 1 (List.map st u)), (12, bo true), (13, o i0), (15, i6 x), (16, AV.tup [lro (List.length u) 1 (List.map st u), bo b]), (17, AV.agg (sysC s)), (18, lro (List.length t) 1 (List.map st t)), (19, AV.agg (sysC s)), (20, i6 q), (21, i6 i), (22, lro (List.length hd) 1 (List.map st hd)), (23, AV.tup [lro (List.length u) 1 (List.map st u), bo b]), (24, lro (List.length u) 1 (List.map st u)), (25, bo true), (26, bo true), (27, bo false), (28, lro (List.length u) 1 (List.map st u)), (29, i6 (↑(List.length u) : Int)), (30, bo false), (35, AV.agg (sysC s)), (36, lro (List.length u) 1 (List.map st u)), (37, i6 i), (38, lro (List.length ns) 1 (List.map (AV.int IntKind.i64) ns)), (39, i6 (↑(List.length ns) : Int)), (40, i6 (w6 ((↑i0 : Int) + 1))), (41, bo true), (42, AV.eaddr ra), (43, i6 x), (44, i6 x), (45, bo true), (46, bo true), (47, i6 x), (48, i6 p), (49, bo false), (50, bo false), (51, bo false), (58, bo false), (59, bo false), (67, bo false), (76, i6 (w6 ((↑i0 : Int) + 1)))] (Ob.cells (sysC s) :: S i0)
def regS11 (s : NSys) (t : List ByteArray) (hd : List ByteArray) (u : List ByteArray) (b : Bool) (q : Int) (p : Int) (i : Int) (ns : List Int) (ra : List AV) (x : Int) (o : Nat → AV) (S : Nat → List Ob) (i0 : Nat) : St :=
  stOf 78 [68, 69, 70, 71, 72, 73, 74, 75] [(0, AV.agg (sysC s)), (1, lro (List.length t) 1 (List.map st t)), (2, i6 q), (3, i6 p), (4, i6 i), (5, AV.ref 0 0), (10, AV.list LK.nil 0 0 []), (11, lro (List.length u) 1 (List.map st u)), (12, bo true), (13, o i0), (15, i6 x), (16, AV.tup [lro (List.length u) 1 (List.map st u), bo b]), (17, AV.agg (sysC s)), (18, lro (List.length t) 1 (List.map st t)), (19, AV.agg (sysC s)), (20, i6 q), (21, i6 i), (22, lro (List.length hd) 1 (List.map st hd)), (23, AV.tup [lro (List.length u) 1 (List.map st u), bo b]), (24, lro (List.length u) 1 (List.map st u)), (25, bo true), (26, bo true), (27, bo false), (28, lro (List.length u) 1 (List.map st u)), (29, i6 (↑(List.length u) : Int)), (30, bo false), (35, AV.agg (sysC s)), (36, lro (List.length u) 1 (List.map st u)), (37, i6 i), (38, lro (List.length ns) 1 (List.map (AV.int IntKind.i64) ns)), (39, i6 (↑(List.length ns) : Int)), (40, i6 (w6 ((↑i0 : Int) + 1))), (41, bo true), (42, AV.eaddr ra), (43, i6 x), (44, i6 x), (45, bo false), (46, bo false), (50, bo false), (51, bo false), (58, bo false), (59, bo false), (67, bo false), (76, i6 (w6 ((↑i0 : Int) + 1)))] (Ob.cells (sysC s) :: S i0)
def regS12 (s : NSys) (t : List ByteArray) (hd : List ByteArray) (u : List ByteArray) (b : Bool) (q : Int) (p : Int) (i : Int) (ns : List Int) (o : Nat → AV) (S : Nat → List Ob) (i0 : Nat) : St :=
  stOf 78 [15, 42, 43, 44, 45, 46, 47, 48, 49, 50, 51, 52, 53, 54, 55, 56, 57, 58, 59, 60, 61, 62, 63, 64, 65, 66, 67, 68, 69, 70, 71, 72, 73, 74, 75, 76] [(0, AV.agg (sysC s)), (1, lro (List.length t) 1 (List.map st t)), (2, i6 q), (3, i6 p), (4, i6 i), (5, AV.ref 0 0), (10, AV.list LK.nil 0 0 []), (11, lro (List.length u) 1 (List.map st u)), (12, bo true), (13, o i0), (16, AV.tup [lro (List.length u) 1 (List.map st u), bo b]), (17, AV.agg (sysC s)), (18, lro (List.length t) 1 (List.map st t)), (19, AV.agg (sysC s)), (20, i6 q), (21, i6 i), (22, lro (List.length hd) 1 (List.map st hd)), (23, AV.tup [lro (List.length u) 1 (List.map st u), bo b]), (24, lro (List.length u) 1 (List.map st u)), (25, bo true), (26, bo true), (27, bo false), (28, lro (List.length u) 1 (List.map st u)), (29, i6 (↑(List.length u) : Int)), (30, bo false), (35, AV.agg (sysC s)), (36, lro (List.length u) 1 (List.map st u)), (37, i6 i), (38, lro (List.length ns) 1 (List.map (AV.int IntKind.i64) ns)), (39, i6 (↑(List.length ns) : Int)), (40, i6 (↑i0 : Int)), (41, bo false)] (Ob.cells (sysC s) :: S i0)
def regS13 (s : NSys) (t : List ByteArray) (hd : List ByteArray) (u : List ByteArray) (b : Bool) (q : Int) (p : Int) (i : Int) (ns : List Int) : St :=
  stOf 78 [] [(0, AV.agg (sysC s)), (1, lro (List.length t) 1 (List.map st t)), (2, i6 q), (3, i6 p), (4, i6 i), (5, AV.ref 0 0), (10, AV.list LK.nil 0 0 []), (11, lro (List.length u) 1 (List.map st u)), (12, bo true), (13, AV.list LK.nil 0 0 []), (16, AV.tup [lro (List.length u) 1 (List.map st u), bo b]), (17, AV.agg (sysC s)), (18, lro (List.length t) 1 (List.map st t)), (19, AV.agg (sysC s)), (20, i6 q), (21, i6 i), (22, lro (List.length hd) 1 (List.map st hd)), (23, AV.tup [lro (List.length u) 1 (List.map st u), bo b]), (24, lro (List.length u) 1 (List.map st u)), (25, bo true), (26, bo true), (27, bo false), (28, lro (List.length u) 1 (List.map st u)), (29, i6 (↑(List.length u) : Int)), (30, bo false), (35, AV.agg (sysC s)), (36, lro (List.length u) 1 (List.map st u)), (37, i6 i), (38, lro (List.length ns) 1 (List.map (AV.int IntKind.i64) ns)), (39, i6 (↑(List.length ns) : Int)), (40, i6 0)] [Ob.cells (sysC s)]
theorem reg_ptt (s : NSys) (t : List ByteArray) (hd : List ByteArray) (u : List ByteArray) (b : Bool) (q : Int) (p : Int) (i : Int) (X : Ext) (call : Caller) (lf : Nat)
  (h0 : callv X call true 59 [AV.agg (sysC s), i6 q, i6 i] [Ob.cells (sysC s)] 0 = some (lro (List.length hd) 1 (List.map st hd), [Ob.cells (sysC s)]))
  (h1 : callv X call true 58 [AV.agg (sysC s), lro (List.length t) 1 (List.map st t), lro (List.length hd) 1 (List.map st hd)] [Ob.cells (sysC s)] 0 = some (AV.tup [lro (List.length u) 1 (List.map st u), bo b], [Ob.cells (sysC s)]))
  (h2 : b = true)
  (h3 : ((↑(List.length u) : Int) == 0) = true) : vbody Tryd.prog X call lf noFg Tryd.f48 (codeOf Tryd.f48) [AV.agg (sysC s), lro (List.length t) 1 (List.map st t), i6 q, i6 p, i6 i] [] 0 = some (AV.list LK.clip 1 1 [i6 (w6 (q * p))], [Ob.cells (sysC s)]) :=
  along_sound (ans := [(9, Ans.v (lro (List.length hd) 1 (List.map st hd))), (10, Ans.v (AV.tup [lro (List.length u) 1 (List.map st u), bo b])), (13, Ans.b true), (23, Ans.b true)]) (by kernel_rfl) (And.intro h0 (And.intro h1 (And.intro h2 (And.intro h3 trivial))))
theorem reg_r0_ttttt (s : NSys) (t : List ByteArray) (hd : List ByteArray) (u : List ByteArray) (b : Bool) (q : Int) (p : Int) (i : Int) (ns : List Int) (ra : List AV) (x : Int) (o : Nat → AV) (S : Nat → List Ob) (X : Ext) (call : Caller) (lf : Nat) (i0 : Nat)
  (h0 : decide ((↑i0 : Int) < (↑(List.length ns) : Int)) = true)
  (h1 : keep (Ob.cells (sysC s) :: S i0) (indexAddrv Tryd.prog 34 (Ob.cells (sysC s) :: S i0) (lro (List.length ns) 1 (List.map (AV.int IntKind.i64) ns)) (i6 (↑i0 : Int))) = some (AV.eaddr ra, Ob.cells (sysC s) :: S i0))
  (h2 : keep (Ob.cells (sysC s) :: S i0) (loadv Tryd.prog 3 (Ob.cells (sysC s) :: S i0) (AV.eaddr ra)) = some (i6 x, Ob.cells (sysC s) :: S i0))
  (h3 : decide (x > 0) = true)
  (h4 : decide (x < p) = true)
  (h5 : decide (w6 (w6 (q * p) + x) ≤ 9999) = true)
  (h6 : callv X call false 35 [AV.agg (sysC s), i6 q, i6 p, i6 x] (Ob.cells (sysC s) :: S i0) 0 = some (bo true, Ob.cells (sysC s) :: S i0)) : vexec Tryd.prog X call lf 0 noFg (loopN Tryd.f48 0) (regS6 s t hd u b q p i ns o S i0) = some (Ex.normal, (regS7 s t hd u b q p i ns ra x o S i0)) :=
  around_sound (ans := [(1, Ans.b true), (4, Ans.v (AV.eaddr ra)), (5, Ans.v (i6 x)), (9, Ans.b true), (16, Ans.b true), (30, Ans.b true), (44, Ans.v (bo true))]) (by kernel_rfl) (And.intro h0 (And.intro h1 (And.intro h2 (And.intro h3 (And.intro h4 (And.intro h5 (And.intro h6 trivial)))))))
theorem reg_r0_ttttf (s : NSys) (t : List ByteArray) (hd : List ByteArray) (u : List ByteArray) (b : Bool) (q : Int) (p : Int) (i : Int) (ns : List Int) (ra : List AV) (x : Int) (o : Nat → AV) (S : Nat → List Ob) (oA : AV) (SA : List Ob) (X : Ext) (call : Caller) (lf : Nat) (i0 : Nat)
  (h0 : decide ((↑i0 : Int) < (↑(List.length ns) : Int)) = true)
  (h1 : keep (Ob.cells (sysC s) :: S i0) (indexAddrv Tryd.prog 34 (Ob.cells (sysC s) :: S i0) (lro (List.length ns) 1 (List.map (AV.int IntKind.i64) ns)) (i6 (↑i0 : Int))) = some (AV.eaddr ra, Ob.cells (sysC s) :: S i0))
  (h2 : keep (Ob.cells (sysC s) :: S i0) (loadv Tryd.prog 3 (Ob.cells (sysC s) :: S i0) (AV.eaddr ra)) = some (i6 x, Ob.cells (sysC s) :: S i0))
  (h3 : decide (x > 0) = true)
  (h4 : decide (x < p) = true)
  (h5 : decide (w6 (w6 (q * p) + x) ≤ 9999) = true)
  (h6 : callv X call false 35 [AV.agg (sysC s), i6 q, i6 p, i6 x] (Ob.cells (sysC s) :: S i0) 0 = some (bo false, Ob.cells (sysC s) :: S i0))
  (h7 : appendv Tryd.prog 34 (Ob.cells (sysC s) :: S i0) 0 (o i0) (AV.list LK.clip 1 1 [i6 (w6 (w6 (q * p) + x))]) = some (oA, Ob.cells (sysC s) :: SA)) : vexec Tryd.prog X call lf 0 noFg (loopN Tryd.f48 0) (regS6 s t hd u b q p i ns o S i0) = some (Ex.normal, (regS8 s t hd u b q p i ns ra x o oA SA i0)) :=
  around_sound (ans := [(1, Ans.b true), (4, Ans.v (AV.eaddr ra)), (5, Ans.v (i6 x)), (9, Ans.b true), (16, Ans.b true), (30, Ans.b true), (44, Ans.v (bo false)), (57, Ans.c oA (Ob.cells (sysC s) :: SA))]) (by kernel_rfl) (And.intro h0 (And.intro h1 (And.intro h2 (And.intro h3 (And.intro h4 (And.intro h5 (And.intro h6 (And.intro h7 trivial))))))))
theorem reg_r0_tttf (s : NSys) (t : List ByteArray) (hd : List ByteArray) (u : List ByteArray) (b : Bool) (q : Int) (p : Int) (i : Int) (ns : List Int) (ra : List AV) (x : Int) (o : Nat → AV) (S : Nat → List Ob) (X : Ext) (call : Caller) (lf : Nat) (i0 : Nat)
  (h0 : decide ((↑i0 : Int) < (↑(List.length ns) : Int)) = true)
  (h1 : keep (Ob.cells (sysC s) :: S i0) (indexAddrv Tryd.prog 34 (Ob.cells (sysC s) :: S i0) (lro (List.length ns) 1 (List.map (AV.int IntKind.i64) ns)) (i6 (↑i0 : Int))) = some (AV.eaddr ra, Ob.cells (sysC s) :: S i0))
  (h2 : keep (Ob.cells (sysC s) :: S i0) (loadv Tryd.prog 3 (Ob.cells (sysC s) :: S i0) (AV.eaddr ra)) = some (i6 x, Ob.cells (sysC s) :: S i0))
  (h3 : decide (x > 0) = true)
  (h4 : decide (x < p) = true)
  (h5 : decide (w6 (w6 (q * p) + x) ≤ 9999) = false) : vexec Tryd.prog X call lf 0 noFg (loopN Tryd.f48 0) (regS6 s t hd u b q p i ns o S i0) = some (Ex.normal, (regS9 s t hd u b q p i ns ra x o S i0)) :=
  around_sound (ans := [(1, Ans.b true), (4, Ans.v (AV.eaddr ra)), (5, Ans.v (i6 x)), (9, Ans.b true), (16, Ans.b true), (30, Ans.b false)]) (by kernel_rfl) (And.intro h0 (And.intro h1 (And.intro h2 (And.intro h3 (And.intro h4 (And.intro h5 trivial))))))
theorem reg_r0_ttf (s : NSys) (t : List ByteArray) (hd : List ByteArray) (u : List ByteArray) (b : Bool) (q : Int) (p : Int) (i : Int) (ns : List Int) (ra : List AV) (x : Int) (o : Nat → AV) (S : Nat → List Ob) (X : Ext) (call : Caller) (lf : Nat) (i0 : Nat)
  (h0 : decide ((↑i0 : Int) < (↑(List.length ns) : Int)) = true)
  (h1 : keep (Ob.cells (sysC s) :: S i0) (indexAddrv Tryd.prog 34 (Ob.cells (sysC s) :: S i0) (lro (List.length ns) 1 (List.map (AV.int IntKind.i64) ns)) (i6 (↑i0 : Int))) = some (AV.eaddr ra, Ob.cells (sysC s) :: S i0))
  (h2 : keep (Ob.cells (sysC s) :: S i0) (loadv Tryd.prog 3 (Ob.cells (sysC s) :: S i0) (AV.eaddr ra)) = some (i6 x, Ob.cells (sysC s) :: S i0))
  (h3 : decide (x > 0) = true)
  (h4 : decide (x < p) = false) : vexec Tryd.prog X call lf 0 noFg (loopN Tryd.f48 0) (regS6 s t hd u b q p i ns o S i0) = some (Ex.normal, (regS10 s t hd u b q p i ns ra x o S i0)) :=
  around_sound (ans := [(1, Ans.b true), (4, Ans.v (AV.eaddr ra)), (5, Ans.v (i6 x)), (9, Ans.b true), (16, Ans.b false)]) (by kernel_rfl) (And.intro h0 (And.intro h1 (And.intro h2 (And.intro h3 (And.intro h4 trivial)))))
theorem reg_r0_tf (s : NSys) (t : List ByteArray) (hd : List ByteArray) (u : List ByteArray) (b : Bool) (q : Int) (p : Int) (i : Int) (ns : List Int) (ra : List AV) (x : Int) (o : Nat → AV) (S : Nat → List Ob) (X : Ext) (call : Caller) (lf : Nat) (i0 : Nat)
  (h0 : decide ((↑i0 : Int) < (↑(List.length ns) : Int)) = true)
  (h1 : keep (Ob.cells (sysC s) :: S i0) (indexAddrv Tryd.prog 34 (Ob.cells (sysC s) :: S i0) (lro (List.length ns) 1 (List.map (AV.int IntKind.i64) ns)) (i6 (↑i0 : Int))) = some (AV.eaddr ra, Ob.cells (sysC s) :: S i0))
  (h2 : keep (Ob.cells (sysC s) :: S i0) (loadv Tryd.prog 3 (Ob.cells (sysC s) :: S i0) (AV.eaddr ra)) = some (i6 x, Ob.cells (sysC s) :: S i0))
  (h3 : decide (x > 0) = false) : vexec Tryd.prog X call lf 0 noFg (loopN Tryd.f48 0) (regS6 s t hd u b q p i ns o S i0) = some (Ex.normal, (regS11 s t hd u b q p i ns ra x o S i0)) :=
  around_sound (ans := [(1, Ans.b true), (4, Ans.v (AV.eaddr ra)), (5, Ans.v (i6 x)), (9, Ans.b false)]) (by kernel_rfl) (And.intro h0 (And.intro h1 (And.intro h2 (And.intro h3 trivial))))
theorem reg_r0_f (s : NSys) (t : List ByteArray) (hd : List ByteArray) (u : List ByteArray) (b : Bool) (q : Int) (p : Int) (i : Int) (ns : List Int) (o : Nat → AV) (S : Nat → List Ob) (X : Ext) (call : Caller) (lf : Nat) (i0 : Nat)
  (h0 : decide ((↑i0 : Int) < (↑(List.length ns) : Int)) = false) : vexec Tryd.prog X call lf 0 noFg (loopN Tryd.f48 0) (regS6 s t hd u b q p i ns o S i0) = some (Ex.exit 0, (regS12 s t hd u b q p i ns o S i0)) :=
  around_sound (ans := [(1, Ans.b false)]) (by kernel_rfl) (And.intro h0 trivial)
theorem reg_ptflf (s : NSys) (t : List ByteArray) (hd : List ByteArray) (u : List ByteArray) (b : Bool) (q : Int) (p : Int) (i : Int) (ns : List Int) (o : Nat → AV) (S : Nat → List Ob) (r : AV) (Sr : List Ob) (X : Ext) (call : Caller) (lf : Nat) (i0 : Nat)
  (h0 : callv X call true 59 [AV.agg (sysC s), i6 q, i6 i] [Ob.cells (sysC s)] 0 = some (lro (List.length hd) 1 (List.map st hd), [Ob.cells (sysC s)]))
  (h1 : callv X call true 58 [AV.agg (sysC s), lro (List.length t) 1 (List.map st t), lro (List.length hd) 1 (List.map st hd)] [Ob.cells (sysC s)] 0 = some (AV.tup [lro (List.length u) 1 (List.map st u), bo b], [Ob.cells (sysC s)]))
  (h2 : b = true)
  (h3 : ((↑(List.length u) : Int) == 0) = false)
  (h4 : callv X call false 39 [AV.agg (sysC s), lro (List.length u) 1 (List.map st u), i6 i] [Ob.cells (sysC s)] 0 = some (lro (List.length ns) 1 (List.map (AV.int IntKind.i64) ns), [Ob.cells (sysC s)]))
  (h5 : vexec Tryd.prog X call lf 0 noFg (Code.loop (loopN Tryd.f48 0)) (regS13 s t hd u b q p i ns) = some (Ex.exit 0, (regS12 s t hd u b q p i ns o S i0)))
  (h6 : vend1 [] 0 (Ob.cells (sysC s) :: S i0) [o i0] = some (r, Sr)) : vbody Tryd.prog X call lf noFg Tryd.f48 (codeOf Tryd.f48) [AV.agg (sysC s), lro (List.length t) 1 (List.map st t), i6 q, i6 p, i6 i] [] 0 = some (r, Sr) :=
  along_sound (ans := [(9, Ans.v (lro (List.length hd) 1 (List.map st hd))), (10, Ans.v (AV.tup [lro (List.length u) 1 (List.map st u), bo b])), (13, Ans.b true), (23, Ans.b false), (31, Ans.v (lro (List.length ns) 1 (List.map (AV.int IntKind.i64) ns))), (34, Ans.l (Ex.exit 0) (regS12 s t hd u b q p i ns o S i0)), (38, Ans.c r Sr)]) (by kernel_rfl) (And.intro h0 (And.intro h1 (And.intro h2 (And.intro h3 (And.intro h4 (And.intro h5 (And.intro h6 trivial)))))))
theorem reg_pf (s : NSys) (t : List ByteArray) (hd : List ByteArray) (u : List ByteArray) (b : Bool) (q : Int) (p : Int) (i : Int) (X : Ext) (call : Caller) (lf : Nat)
  (h0 : callv X call true 59 [AV.agg (sysC s), i6 q, i6 i] [Ob.cells (sysC s)] 0 = some (lro (List.length hd) 1 (List.map st hd), [Ob.cells (sysC s)]))
  (h1 : callv X call true 58 [AV.agg (sysC s), lro (List.length t) 1 (List.map st t), lro (List.length hd) 1 (List.map st hd)] [Ob.cells (sysC s)] 0 = some (AV.tup [lro (List.length u) 1 (List.map st u), bo b], [Ob.cells (sysC s)]))
  (h2 : b = false) : vbody Tryd.prog X call lf noFg Tryd.f48 (codeOf Tryd.f48) [AV.agg (sysC s), lro (List.length t) 1 (List.map st t), i6 q, i6 p, i6 i] [] 0 = some (AV.list LK.nil 0 0 [], [Ob.cells (sysC s)]) :=
  along_sound (ans := [(9, Ans.v (lro (List.length hd) 1 (List.map st hd))), (10, Ans.v (AV.tup [lro (List.length u) 1 (List.map st u), bo b])), (13, Ans.b false)]) (by kernel_rfl) (And.intro h0 (And.intro h1 (And.intro h2 trivial)))
theorem regn_p (s : NSys) (t : List ByteArray) (hd : List ByteArray) (q : Int) (p : Int) (i : Int) (X : Ext) (call : Caller) (lf : Nat)
  (h0 : callv X call true 59 [AV.agg (sysC s), i6 q, i6 i] [Ob.cells (sysC s)] 0 = some (lro (List.length hd) 1 (List.map st hd), [Ob.cells (sysC s)]))
  (h1 : callv X call true 58 [AV.agg (sysC s), lro (List.length t) 1 (List.map st t), lro (List.length hd) 1 (List.map st hd)] [Ob.cells (sysC s)] 0 = some (AV.tup [AV.list LK.nil 0 0 [], bo false], [Ob.cells (sysC s)])) : vbody Tryd.prog X call lf noFg Tryd.f48 (codeOf Tryd.f48) [AV.agg (sysC s), lro (List.length t) 1 (List.map st t), i6 q, i6 p, i6 i] [] 0 = some (AV.list LK.nil 0 0 [], [Ob.cells (sysC s)]) :=
  along_sound (ans := [(9, Ans.v (lro (List.length hd) 1 (List.map st hd))), (10, Ans.v (AV.tup [AV.list LK.nil 0 0 [], bo false]))]) (by kernel_rfl) (And.intro h0 (And.intro h1 trivial))


/-! ### numbers without subtraction -/
abbrev D48 : List Nat := [76, 75, 74, 73, 72, 71, 70, 69, 68, 67, 66, 65, 64, 63, 62, 61, 60, 59, 58, 57, 56, 55, 54, 53, 52, 51, 50, 49, 48, 47, 46, 45, 44, 15, 43, 42, 41]
theorem dead48 : (deadC (loopN Tryd.f48 0) ([], [])).2 = D48 := by kernel_rfl
theorem take_fm {ns : List Int} {f : Int → Option Int} {i : Nat} {x : Int} (hx : ns[i]? = some x) :
    (ns.take (i + 1)).filterMap f = (ns.take i).filterMap f ++ (match f x with | some y => [y] | none => []) := by
  obtain ⟨hi, e⟩ := List.getElem?_eq_some_iff.1 hx
  subst e
  rw [List.take_add_one, List.getElem?_eq_getElem hi, List.filterMap_append]
  simp only [Option.toList, List.filterMap_cons, List.filterMap_nil]
  congr 1
  cases f ns[i] <;> rfl
theorem at_int {S : List Ob} {ns : List Int} {i : Nat} {x : Int} (h : ns[i]? = some x) :
    keep S (indexAddrv Tryd.prog 34 S (lro ns.length 1 (ns.map (AV.int IntKind.i64))) (i6 (i : Int))) = some (.eaddr ((ns.map i6).drop i), S) ∧
    keep S (loadv Tryd.prog 3 S (.eaddr ((ns.map i6).drop i))) = some (i6 x, S) := by
  obtain ⟨hi, e⟩ := List.getElem?_eq_some_iff.1 h
  exact ⟨at_list Tryd.underlying34 cells3 info3 hi, load_list Tryd.underlying3 rfl (by rw [List.getElem?_map, h]; rfl)⟩
theorem reg_spec {X : Ext} {call : Caller} {lf : Nat} {s : NSys} (hg : Good s) {t : List ByteArray} {q : Int} {k : Nat} {N : List ByteArray → List Int} (hk : k ≤ 2) (q0 : 0 ≤ q) (q1 : q < s.base) (ht : t.length ≤ 140737488355328)
    (hN : ∀ t, (N t).length ≤ 1000000) (hlf : 1000000 < lf)
    (hH : ∀ (q : Int) (σ : List Ob) (ro : Nat) (dr : Bool), 0 ≤ q → q < s.base → callv X call dr 59 [AV.agg (sysC s), i6 q, i6 (k : Int)] σ ro = some (lst (headW s q k), σ))
    (hR : ∀ (a b : List ByteArray) (σ : List Ob) (ro : Nat) (dr : Bool), a.length ≤ 140737488355328 → b.length ≤ 140737488355328 → callv X call dr 58 [AV.agg (sysC s), lst a, lst b] σ ro = some (restV s a b, σ))
    (hL : ∀ (q p r : Int) (σ : List Ob) (ro : Nat) (dr : Bool), callv X call dr 35 [AV.agg (sysC s), i6 q, i6 p, i6 r] σ ro = some (bo (lessL s q p r), σ))
    (hM : ∀ (u : List ByteArray) (σ : List Ob) (ro : Nat) (dr : Bool), u.length ≤ 140737488355328 → callv X call dr 39 [AV.agg (sysC s), lst u, i6 (k : Int)] σ ro = some (lsi (N u), σ)) :
    ∃ σ' r, vbody Tryd.prog X call lf noFg Tryd.f48 (codeOf Tryd.f48) [AV.agg (sysC s), lst t, i6 q, i6 (s.base ^ (k + 1)), i6 (k : Int)] [] 0 = some (r, σ') ∧ (r = rowV (regQ s N t q (s.base ^ (k + 1)) k) ∨ ∃ x, r = .list .clip 1 1 [i6 x] ∧ regQ s N t q (s.base ^ (k + 1)) k = [x]) := by
  have hbase := hg.base
  obtain ⟨p0, p1⟩ := base_pow hg hk
  generalize s.base ^ (k + 1) = p at p0 p1 ⊢
  have hnil : rowV [] = AV.list LK.nil 0 0 [] := rfl
  obtain ⟨l1, l2⟩ := headW_len s q k
  have h0 := hH q [Ob.cells (sysC s)] 0 true q0 q1
  have h1 := hR t (headW s q k) [Ob.cells (sysC s)] 0 true ht (by omega)
  have hqp := mul_small (q := q) (p := p) (by omega) (by omega) (by omega) (by omega)
  have eqp : w6 (q * p) = q * p := w6_id (by omega) (by omega)
  unfold regQ
  unfold restV at h1
  cases hr : restP s t (headW s q k) with
  | none =>
    rw [hr] at h1
    exact ⟨_, _, regn_p s t _ q p k X call lf h0 h1, .inl rfl⟩
  | some ob =>
    obtain ⟨o, b⟩ := ob
    rw [hr] at h1
    simp only at h1 ⊢
    cases b with
    | false => exact ⟨_, _, reg_pf s t _ o false q p k X call lf h0 h1 rfl, .inl rfl⟩
    | true =>
      simp only
      by_cases ho : o = []
      · subst ho
        rw [if_pos rfl]
        refine ⟨_, _, reg_ptt s t _ [] true q p k X call lf h0 h1 rfl rfl, .inr ⟨q * p, ?_, rfl⟩⟩
        rw [eqp]
      · rw [if_neg ho]
        have hol : o.length ≤ t.length := by
          unfold restP at hr
          split at hr
          · cases hr
          split at hr
          · split at hr
            · split at hr
              · simp only [Option.some.injEq, Prod.mk.injEq] at hr
                rw [← hr.1]; simp <;> omega
              · simp only [Option.some.injEq, Prod.mk.injEq] at hr
                rw [← hr.1]; simp <;> omega
            · cases hr
          · split at hr
            · split at hr
              · simp only [Option.some.injEq, Prod.mk.injEq] at hr
                rw [← hr.1]; simp
              · simp only [Option.some.injEq, Prod.mk.injEq] at hr
                rw [← hr.1]; simp <;> omega
            · cases hr
        have ho0 : ((o.length : Int) == 0) = false := by
          have : o.length ≠ 0 := fun e => ho (List.eq_nil_of_length_eq_zero e)
          simp; exact ho
        have h4 := hM o [Ob.cells (sysC s)] 0 false (by omega)
        have hlen := hN o
        generalize N o = ns at h4 hlen ⊢
        have e0 : ns.filterMap (regF s q p) = (ns.take ns.length).filterMap (regF s q p) := by rw [List.take_length]
        rw [e0]
        refine ⟨_, _, reg_ptflf s t _ o true q p k ns (fun i => rowI ((ns.take i).filterMap (regF s q p))) (fun i => rowS ((ns.take i).filterMap (regF s q p))) _ _ X call lf ns.length h0 h1 rfl ho0 h4 ?_ (rowI_end _ _), .inl rfl⟩
        refine loop_run (P := Tryd.prog) (X := X) (call := call) (lf := lf) (ro := 0) (fg := noFg) dead48 (regS6 s t _ o true q p k ns (fun i => rowI ((ns.take i).filterMap (regF s q p))) (fun i => rowS ((ns.take i).filterMap (regF s q p)))) ns.length (by omega) (by kernel_rfl) ?_ (reg_r0_f s t _ o true q p k ns _ _ X call lf ns.length (decide_eq_false (by omega))) (by simp)
        intro i hi
        have d0 : decide ((i : Int) < (ns.length : Int)) = true := decide_eq_true (by omega)
        have ei : w6 ((i : Int) + 1) = ((i + 1 : Nat) : Int) := by rw [w6_id (by omega) (by omega)]; omega
        have hx : ns[i]? = some ns[i] := List.getElem?_eq_getElem hi
        generalize ns[i] = x at hx
        obtain ⟨j1, j2⟩ := at_int (S := Ob.cells (sysC s) :: rowS ((ns.take i).filterMap (regF s q p))) hx
        have hstep := take_fm (f := regF s q p) hx
        by_cases c1 : x > 0
        case neg =>
          have hn : regF s q p x = none := by unfold regF; rw [if_neg (fun h => c1 h.1)]
          rw [hn] at hstep
          simp only [List.append_nil] at hstep
          refine ⟨_, reg_r0_tf s t _ o true q p k ns _ x (fun i => rowI ((ns.take i).filterMap (regF s q p))) (fun i => rowS ((ns.take i).filterMap (regF s q p))) X call lf i d0 j1 j2 (decide_eq_false c1), ?_⟩
          unfold regS11 regS6
          simp only [hstep]
          rw [ei]
          show _ = _
          kernel_rfl
        by_cases c2 : x < p
        case neg =>
          have hn : regF s q p x = none := by unfold regF; rw [if_neg (fun h => c2 h.2.1)]
          rw [hn] at hstep
          simp only [List.append_nil] at hstep
          refine ⟨_, reg_r0_ttf s t _ o true q p k ns _ x (fun i => rowI ((ns.take i).filterMap (regF s q p))) (fun i => rowS ((ns.take i).filterMap (regF s q p))) X call lf i d0 j1 j2 (decide_eq_true c1) (decide_eq_false c2), ?_⟩
          unfold regS10 regS6
          simp only [hstep]
          rw [ei]
          show _ = _
          kernel_rfl
        have e2 : w6 (w6 (q * p) + x) = q * p + x := by rw [eqp, w6_id (by omega) (by omega)]
        by_cases c3 : q * p + x ≤ 9999
        case neg =>
          have hn : regF s q p x = none := by unfold regF; rw [if_neg (fun h => c3 h.2.2.1)]
          rw [hn] at hstep
          simp only [List.append_nil] at hstep
          refine ⟨_, reg_r0_tttf s t _ o true q p k ns _ x (fun i => rowI ((ns.take i).filterMap (regF s q p))) (fun i => rowS ((ns.take i).filterMap (regF s q p))) X call lf i d0 j1 j2 (decide_eq_true c1) (decide_eq_true c2) (by rw [e2]; exact decide_eq_false c3), ?_⟩
          unfold regS9 regS6
          simp only [hstep]
          rw [ei]
          show _ = _
          kernel_rfl
        have h6 := hL q p x (Ob.cells (sysC s) :: rowS ((ns.take i).filterMap (regF s q p))) 0 false
        cases c4 : lessL s q p x with
        | true =>
          have hn : regF s q p x = none := by unfold regF; rw [if_neg (fun h => by rw [c4] at h; simp at h)]
          rw [hn] at hstep
          rw [c4] at h6
          simp only [List.append_nil] at hstep
          refine ⟨_, reg_r0_ttttt s t _ o true q p k ns _ x (fun i => rowI ((ns.take i).filterMap (regF s q p))) (fun i => rowS ((ns.take i).filterMap (regF s q p))) X call lf i d0 j1 j2 (decide_eq_true c1) (decide_eq_true c2) (by rw [e2]; exact decide_eq_true c3) h6, ?_⟩
          unfold regS7 regS6
          simp only [hstep]
          rw [ei]
          show _ = _
          kernel_rfl
        | false =>
          have hn : regF s q p x = some (q * p + x) := by unfold regF; rw [if_pos ⟨c1, c2, c3, c4⟩]
          rw [hn] at hstep
          rw [c4] at h6
          simp only at hstep
          have hl := List.length_filterMap_le (regF s q p) (ns.take i)
          have hl2 : (ns.take i).length ≤ ns.length := by simp; omega
          have happ := rowI_app (c := Ob.cells (sysC s)) (l := (ns.take i).filterMap (regF s q p)) (m := [q * p + x]) (k := .clip) (by simp only [List.length_cons, List.length_nil]; omega)
          rw [← hstep] at happ
          refine ⟨_, reg_r0_ttttf s t _ o true q p k ns _ x (fun i => rowI ((ns.take i).filterMap (regF s q p))) (fun i => rowS ((ns.take i).filterMap (regF s q p))) (rowI ((ns.take (i + 1)).filterMap (regF s q p))) (rowS ((ns.take (i + 1)).filterMap (regF s q p))) X call lf i d0 j1 j2 (decide_eq_true c1) (decide_eq_true c2) (by rw [e2]; exact decide_eq_true c3) h6 (by rw [e2]; exact happ), ?_⟩
          unfold regS8 regS6
          rw [ei]
          show _ = _
          kernel_rfl
end Go.Proofs.Num
end
