/- Part 7 of the texts of this claim: the evaluator, and what it says of the program's functions. -/
import Derived.Test.YtdkoncfpkhapjaaDoorXF
import Derived.Test.YtdkoncfpkhapjaaDoorXD
import Derived.Test.YtdkoncfpkhapjaaDoorXE
set_option linter.unusedSectionVars false
set_option linter.unusedVariables false
set_option linter.unusedSimpArgs false
set_option linter.constructorNameAsVariable false
/- Numeral: both vocabularies are the same list. -/
section
open Go Go.Vm Go.Proofs
namespace Go.Proofs.Num

theorem get_sortedB {l : List (List UInt8)} (h : l.Pairwise (· ≤ ·)) {i j : Nat} (hij : i ≤ j) (hj : j < l.length) : l.toArray[i]! ≤ l.toArray[j]! := by
  rw [getElem!_pos l.toArray i (by simp; omega), getElem!_pos l.toArray j (by simpa using hj)]
  simp only [List.getElem_toArray]
  by_cases e : i = j
  · subst e; exact List.le_refl _
  · exact List.pairwise_iff_getElem.1 h i j (by omega) hj (by omega)
theorem ltB_of {x y : List UInt8} (h : x ≤ y) (hne : x ≠ y) : x < y := by
  rcases Std.lt_trichotomy x y with h1 | h1 | h1
  · exact h1
  · exact absurd h1 hne
  · exact absurd h1 (List.not_lt.2 h)
theorem compactB_inv {l : List (List UInt8)} (h : l.Pairwise (· ≤ ·)) : ∀ m, m ≤ l.length → (Lib.compactUpTo l.toArray m).Pairwise (· < ·) ∧ (∀ x, x ∈ Lib.compactUpTo l.toArray m ↔ ∃ j, j < m ∧ l.toArray[j]! = x)
  | 0, _ => by simp [Lib.compactUpTo]
  | m + 1, hm => by
    obtain ⟨ih1, ih2⟩ := compactB_inv h m (by omega)
    rw [Lib.compactUpTo_succ]
    cases hk : Lib.keeps l.toArray m with
    | true =>
      simp only [if_true]
      refine ⟨List.pairwise_append.2 ⟨ih1, by simp, ?_⟩, ?_⟩
      · intro a ha b hb
        simp only [List.mem_singleton] at hb
        subst hb
        obtain ⟨j, hj, rfl⟩ := (ih2 a).1 ha
        simp only [Lib.keeps, decide_eq_true_eq] at hk
        rcases hk with e | e
        · omega
        · have h1 := get_sortedB h (show j ≤ m - 1 by omega) (by omega)
          have h2 := ltB_of (get_sortedB h (show m - 1 ≤ m by omega) (by omega)) (fun e' => e e'.symm)
          exact Std.lt_of_le_of_lt h1 h2
      · intro x
        rw [List.mem_append, ih2]
        constructor
        · rintro (⟨j, hj, e⟩ | e)
          · exact ⟨j, by omega, e⟩
          · simp only [List.mem_singleton] at e
            exact ⟨m, by omega, e.symm⟩
        · rintro ⟨j, hj, e⟩
          by_cases hjm : j < m
          · exact .inl ⟨j, hjm, e⟩
          · have : j = m := by omega
            subst this
            exact .inr (by simp [e])
    | false =>
      simp only [Bool.false_eq_true, if_false, List.append_nil]
      refine ⟨ih1, fun x => ?_⟩
      rw [ih2]
      simp only [Lib.keeps, decide_eq_false_iff_not, not_or, ne_eq, Decidable.not_not] at hk
      constructor
      · rintro ⟨j, hj, e⟩
        exact ⟨j, by omega, e⟩
      · rintro ⟨j, hj, e⟩
        by_cases hjm : j < m
        · exact ⟨j, hjm, e⟩
        · have : j = m := by omega
          subst this
          exact ⟨j - 1, by omega, by rw [← hk.2]; exact e⟩
theorem vocP_spec (s : NSys) : (vocP s).Pairwise ltW ∧ ∀ x, x ∈ vocP s ↔ x ∈ vocL s := by
  have hs : (((vocL s).map (·.data.toList)).mergeSort leB).Pairwise (· ≤ ·) := by
    have := List.pairwise_mergeSort (le := leB) (fun a b c h1 h2 => by simp only [leB, decide_eq_true_eq] at *; exact List.le_trans h1 h2) (fun a b => by simp only [leB, Bool.or_eq_true, decide_eq_true_eq]; exact List.le_total a b) ((vocL s).map (·.data.toList))
    exact this.imp (fun h => by simpa [leB] using h)
  obtain ⟨h1, h2⟩ := compactB_inv hs _ (Nat.le_refl _)
  have hm : ∀ b, b ∈ Lib.compact (((vocL s).map (·.data.toList)).mergeSort leB) ↔ b ∈ (vocL s).map (·.data.toList) := by
    intro b
    unfold Lib.compact
    have hp : b ∈ ((vocL s).map (·.data.toList)).mergeSort leB ↔ b ∈ (vocL s).map (·.data.toList) := (List.mergeSort_perm _ _).mem_iff
    rw [← hp, h2, List.mem_iff_getElem]
    constructor
    · rintro ⟨j, hj, e⟩
      rw [getElem!_pos _ j (by simpa using hj)] at e
      exact ⟨j, hj, by simpa using e⟩
    · rintro ⟨j, hj, e⟩
      exact ⟨j, hj, by rw [getElem!_pos _ j (by simpa using hj)]; simpa using e⟩
  refine ⟨?_, fun x => ?_⟩
  · unfold vocP
    refine List.pairwise_map.2 ?_
    exact h1.imp fun h => by simpa [ltW, mkB] using h
  · unfold vocP
    rw [List.mem_map]
    constructor
    · rintro ⟨b, hb, rfl⟩
      obtain ⟨y, hy, rfl⟩ := List.mem_map.1 ((hm b).1 hb)
      rw [mkB_data]; exact hy
    · intro hx
      exact ⟨x.data.toList, (hm _).2 (List.mem_map.2 ⟨x, hx, rfl⟩), mkB_data x⟩
theorem eq_sortedW : ∀ {l m : List ByteArray}, l.Pairwise ltW → m.Pairwise ltW → (∀ x, x ∈ l ↔ x ∈ m) → l = m
  | [], [], _, _, _ => rfl
  | [], y :: m, _, _, h => by have := (h y).2 (by simp); simp at this
  | x :: l, [], _, _, h => by have := (h x).1 (by simp); simp at this
  | x :: l, y :: m, hl, hm, h => by
    rw [List.pairwise_cons] at hl hm
    have e : x = y := by
      have h1 := (h x).1 (by simp)
      have h2 := (h y).2 (by simp)
      rcases List.mem_cons.1 h1 with e | h1
      · exact e
      · rcases List.mem_cons.1 h2 with e | h2
        · exact e.symm
        · exact absurd (ltW_trans (hl.1 y h2) (hm.1 x h1)) (ltW_irrefl x)
    subst e
    refine congrArg (x :: ·) (eq_sortedW hl.2 hm.2 fun z => ?_)
    constructor
    · intro hz
      rcases List.mem_cons.1 ((h z).1 (List.mem_cons_of_mem _ hz)) with e | h1
      · subst e; exact absurd (hl.1 z hz) (ltW_irrefl z)
      · exact h1
    · intro hz
      rcases List.mem_cons.1 ((h z).2 (List.mem_cons_of_mem _ hz)) with e | h1
      · subst e; exact absurd (hm.1 z hz) (ltW_irrefl z)
      · exact h1
theorem vocA_mem {s : NSys} (hv : validL s = true) (x : ByteArray) : (x ∈ vocA s ∧ empB x = false) ↔ x ∈ vocL s := by
  have hne : ∀ w ∈ vocL s, empB w = false := fun w hw => by
    have ht := voc_tok hv w hw
    simp only [tokB, Bool.and_eq_true, Bool.not_eq_true'] at ht
    exact ht.1.2
  constructor
  · rintro ⟨h, he⟩
    simp only [vocA, List.append_assoc, List.mem_append, List.mem_cons, List.not_mem_nil, or_false] at h
    simp only [vocL, List.append_assoc, List.mem_append]
    rcases h with h | h | rfl | rfl
    · exact .inl h
    · exact .inr (.inl h)
    · refine .inr (.inr (.inl ?_))
      unfold joinWords
      rw [if_neg (by rw [he]; decide)]
      simp
    · refine .inr (.inr (.inr ?_))
      rw [if_neg (by rw [he]; decide)]
      simp
  · intro h
    refine ⟨?_, hne x h⟩
    simp only [vocL, List.append_assoc, List.mem_append] at h
    simp only [vocA, List.append_assoc, List.mem_append, List.mem_cons, List.not_mem_nil, or_false]
    rcases h with h | h | h | h
    · exact .inl h
    · exact .inr (.inl h)
    · unfold joinWords at h
      split at h
      · simp at h
      · simp only [List.mem_singleton] at h
        exact .inr (.inr (.inl h))
    · split at h
      · simp at h
      · simp only [List.mem_singleton] at h
        exact .inr (.inr (.inr h))
/-- The two vocabularies are one. -/
theorem voc_eq {s : NSys} (hv : validL s = true) : vocI (vocA s) (vocA s).length = vocP s := by
  obtain ⟨h1, h2⟩ := vocI_spec (vocA s) (vocA s).length (Nat.le_refl _)
  obtain ⟨k1, k2⟩ := vocP_spec s
  refine eq_sortedW h1 k1 fun x => ?_
  rw [h2, k2, List.take_length, vocA_mem hv]
end Go.Proofs.Num
end
/- Numeral: the law of Vocabulary. -/
section
open Go Go.Vm Go.Proofs
namespace Go.Proofs.Num
def lvS0 (s : NSys) (n : Int) (c : Int) (v : List ByteArray) (l : List ByteArray) (fo : Nat → Bool) (i0 : Nat) (i1 : Nat) : St :=
  stOf 64 [4, 34, 35, 36, 37, 38, 39, 40, 41, 42, 43, 44, 45, 46, 47, 48, 49, 50, 51, 52, 53, 54, 55] [(0, AV.agg (sysC s)), (1, AV.int IntKind.u16 n), (2, AV.ref 0 0), (5, lro (List.length v) 1 (List.map st v)), (6, lro (List.length l) 1 (List.map st l)), (7, i6 c), (8, i6 (↑i0 : Int)), (9, bo (fo i1)), (10, i6 (↑i1 : Int)), (11, AV.agg (sysC s)), (12, bo true), (13, bo false), (15, AV.agg (sysC s)), (16, lro (List.length v) 1 (List.map st v)), (17, lro (List.length v) 1 (List.map st v)), (18, AV.agg (sysC s)), (19, lro (List.length v) 1 (List.map st v)), (20, bo true), (21, bo false), (22, AV.tup [lro (List.length l) 1 (List.map st l), i6 c]), (23, AV.agg (sysC s)), (24, AV.int IntKind.u16 n), (25, i6 (w6 n)), (26, i6 (Int.tmod (w6 n) 10000)), (27, AV.tup [lro (List.length l) 1 (List.map st l), i6 c]), (28, lro (List.length l) 1 (List.map st l)), (29, i6 c), (30, i6 (↑i0 : Int)), (31, lro (List.length l) 1 (List.map st l)), (32, i6 (↑(List.length l) : Int)), (33, bo true)] [Ob.cells (sysC s)]
def lvS1 (s : NSys) (n : Int) (c : Int) (v : List ByteArray) (l : List ByteArray) (i0 : Nat) (i1 : Nat) : St :=
  stOf 64 [4, 34, 35, 54, 55] [(0, AV.agg (sysC s)), (1, AV.int IntKind.u16 n), (2, AV.ref 0 0), (5, lro (List.length v) 1 (List.map st v)), (6, lro (List.length l) 1 (List.map st l)), (7, i6 c), (8, i6 (↑i0 : Int)), (9, bo true), (10, i6 (w6 ((↑i1 : Int) + 1))), (11, AV.agg (sysC s)), (12, bo true), (13, bo false), (15, AV.agg (sysC s)), (16, lro (List.length v) 1 (List.map st v)), (17, lro (List.length v) 1 (List.map st v)), (18, AV.agg (sysC s)), (19, lro (List.length v) 1 (List.map st v)), (20, bo true), (21, bo false), (22, AV.tup [lro (List.length l) 1 (List.map st l), i6 c]), (23, AV.agg (sysC s)), (24, AV.int IntKind.u16 n), (25, i6 (w6 n)), (26, i6 (Int.tmod (w6 n) 10000)), (27, AV.tup [lro (List.length l) 1 (List.map st l), i6 c]), (28, lro (List.length l) 1 (List.map st l)), (29, i6 c), (30, i6 (↑i0 : Int)), (31, lro (List.length l) 1 (List.map st l)), (32, i6 (↑(List.length l) : Int)), (33, bo true), (36, i6 (↑i1 : Int)), (37, lro (List.length v) 1 (List.map st v)), (38, i6 (↑(List.length v) : Int)), (39, bo true), (40, i6 (↑i1 : Int)), (41, i6 (w6 ((↑i1 : Int) + 1))), (42, bo true), (43, bo true), (53, bo true)] [Ob.cells (sysC s)]
def lvS2 (s : NSys) (n : Int) (c : Int) (v : List ByteArray) (l : List ByteArray) (ra : List AV) (rb : List AV) (x : ByteArray) (y : ByteArray) (i0 : Nat) (i1 : Nat) : St :=
  stOf 64 [4, 34, 35, 54, 55] [(0, AV.agg (sysC s)), (1, AV.int IntKind.u16 n), (2, AV.ref 0 0), (5, lro (List.length v) 1 (List.map st v)), (6, lro (List.length l) 1 (List.map st l)), (7, i6 c), (8, i6 (↑i0 : Int)), (9, bo true), (10, i6 (w6 ((↑i1 : Int) + 1))), (11, AV.agg (sysC s)), (12, bo true), (13, bo false), (15, AV.agg (sysC s)), (16, lro (List.length v) 1 (List.map st v)), (17, lro (List.length v) 1 (List.map st v)), (18, AV.agg (sysC s)), (19, lro (List.length v) 1 (List.map st v)), (20, bo true), (21, bo false), (22, AV.tup [lro (List.length l) 1 (List.map st l), i6 c]), (23, AV.agg (sysC s)), (24, AV.int IntKind.u16 n), (25, i6 (w6 n)), (26, i6 (Int.tmod (w6 n) 10000)), (27, AV.tup [lro (List.length l) 1 (List.map st l), i6 c]), (28, lro (List.length l) 1 (List.map st l)), (29, i6 c), (30, i6 (↑i0 : Int)), (31, lro (List.length l) 1 (List.map st l)), (32, i6 (↑(List.length l) : Int)), (33, bo true), (36, i6 (↑i1 : Int)), (37, lro (List.length v) 1 (List.map st v)), (38, i6 (↑(List.length v) : Int)), (39, bo true), (40, i6 (↑i1 : Int)), (41, i6 (w6 ((↑i1 : Int) + 1))), (42, bo false), (43, bo false), (44, lro (List.length v) 1 (List.map st v)), (45, i6 (↑i1 : Int)), (46, AV.eaddr ra), (47, st x), (48, lro (List.length l) 1 (List.map st l)), (49, i6 (↑i0 : Int)), (50, AV.eaddr rb), (51, st y), (52, bo true), (53, bo true)] [Ob.cells (sysC s)]
def lvS3 (s : NSys) (n : Int) (c : Int) (v : List ByteArray) (l : List ByteArray) (ra : List AV) (rb : List AV) (x : ByteArray) (y : ByteArray) (i0 : Nat) (i1 : Nat) : St :=
  stOf 64 [4, 34, 35, 54, 55] [(0, AV.agg (sysC s)), (1, AV.int IntKind.u16 n), (2, AV.ref 0 0), (5, lro (List.length v) 1 (List.map st v)), (6, lro (List.length l) 1 (List.map st l)), (7, i6 c), (8, i6 (↑i0 : Int)), (9, bo false), (10, i6 (w6 ((↑i1 : Int) + 1))), (11, AV.agg (sysC s)), (12, bo true), (13, bo false), (15, AV.agg (sysC s)), (16, lro (List.length v) 1 (List.map st v)), (17, lro (List.length v) 1 (List.map st v)), (18, AV.agg (sysC s)), (19, lro (List.length v) 1 (List.map st v)), (20, bo true), (21, bo false), (22, AV.tup [lro (List.length l) 1 (List.map st l), i6 c]), (23, AV.agg (sysC s)), (24, AV.int IntKind.u16 n), (25, i6 (w6 n)), (26, i6 (Int.tmod (w6 n) 10000)), (27, AV.tup [lro (List.length l) 1 (List.map st l), i6 c]), (28, lro (List.length l) 1 (List.map st l)), (29, i6 c), (30, i6 (↑i0 : Int)), (31, lro (List.length l) 1 (List.map st l)), (32, i6 (↑(List.length l) : Int)), (33, bo true), (36, i6 (↑i1 : Int)), (37, lro (List.length v) 1 (List.map st v)), (38, i6 (↑(List.length v) : Int)), (39, bo true), (40, i6 (↑i1 : Int)), (41, i6 (w6 ((↑i1 : Int) + 1))), (42, bo false), (43, bo false), (44, lro (List.length v) 1 (List.map st v)), (45, i6 (↑i1 : Int)), (46, AV.eaddr ra), (47, st x), (48, lro (List.length l) 1 (List.map st l)), (49, i6 (↑i0 : Int)), (50, AV.eaddr rb), (51, st y), (52, bo false), (53, bo false)] [Ob.cells (sysC s)]
def lvS4 (s : NSys) (n : Int) (c : Int) (v : List ByteArray) (l : List ByteArray) (fo : Nat → Bool) (i0 : Nat) (i1 : Nat) : St :=
  stOf 64 [4, 34, 35, 40, 41, 42, 43, 44, 45, 46, 47, 48, 49, 50, 51, 52, 53, 54, 55] [(0, AV.agg (sysC s)), (1, AV.int IntKind.u16 n), (2, AV.ref 0 0), (5, lro (List.length v) 1 (List.map st v)), (6, lro (List.length l) 1 (List.map st l)), (7, i6 c), (8, i6 (↑i0 : Int)), (9, bo (fo i1)), (10, i6 (↑i1 : Int)), (11, AV.agg (sysC s)), (12, bo true), (13, bo false), (15, AV.agg (sysC s)), (16, lro (List.length v) 1 (List.map st v)), (17, lro (List.length v) 1 (List.map st v)), (18, AV.agg (sysC s)), (19, lro (List.length v) 1 (List.map st v)), (20, bo true), (21, bo false), (22, AV.tup [lro (List.length l) 1 (List.map st l), i6 c]), (23, AV.agg (sysC s)), (24, AV.int IntKind.u16 n), (25, i6 (w6 n)), (26, i6 (Int.tmod (w6 n) 10000)), (27, AV.tup [lro (List.length l) 1 (List.map st l), i6 c]), (28, lro (List.length l) 1 (List.map st l)), (29, i6 c), (30, i6 (↑i0 : Int)), (31, lro (List.length l) 1 (List.map st l)), (32, i6 (↑(List.length l) : Int)), (33, bo true), (36, i6 (↑i1 : Int)), (37, lro (List.length v) 1 (List.map st v)), (38, i6 (↑(List.length v) : Int)), (39, bo false)] [Ob.cells (sysC s)]
def lvS5 (s : NSys) (n : Int) (c : Int) (v : List ByteArray) (l : List ByteArray) (i0 : Nat) : St :=
  stOf 64 [4, 34, 35, 36, 37, 38, 39, 40, 41, 42, 43, 44, 45, 46, 47, 48, 49, 50, 51, 52, 53, 54, 55] [(0, AV.agg (sysC s)), (1, AV.int IntKind.u16 n), (2, AV.ref 0 0), (5, lro (List.length v) 1 (List.map st v)), (6, lro (List.length l) 1 (List.map st l)), (7, i6 c), (8, i6 (↑i0 : Int)), (9, bo false), (10, i6 0), (11, AV.agg (sysC s)), (12, bo true), (13, bo false), (15, AV.agg (sysC s)), (16, lro (List.length v) 1 (List.map st v)), (17, lro (List.length v) 1 (List.map st v)), (18, AV.agg (sysC s)), (19, lro (List.length v) 1 (List.map st v)), (20, bo true), (21, bo false), (22, AV.tup [lro (List.length l) 1 (List.map st l), i6 c]), (23, AV.agg (sysC s)), (24, AV.int IntKind.u16 n), (25, i6 (w6 n)), (26, i6 (Int.tmod (w6 n) 10000)), (27, AV.tup [lro (List.length l) 1 (List.map st l), i6 c]), (28, lro (List.length l) 1 (List.map st l)), (29, i6 c), (30, i6 (↑i0 : Int)), (31, lro (List.length l) 1 (List.map st l)), (32, i6 (↑(List.length l) : Int)), (33, bo true)] [Ob.cells (sysC s)]
def lvS6 (s : NSys) (n : Int) (c : Int) (v : List ByteArray) (l : List ByteArray) (i0 : Nat) : St :=
  stOf 64 [4, 9, 10, 30, 31, 32, 33, 34, 35, 36, 37, 38, 39, 40, 41, 42, 43, 44, 45, 46, 47, 48, 49, 50, 51, 52, 53, 54, 55] [(0, AV.agg (sysC s)), (1, AV.int IntKind.u16 n), (2, AV.ref 0 0), (5, lro (List.length v) 1 (List.map st v)), (6, lro (List.length l) 1 (List.map st l)), (7, i6 c), (8, i6 (↑i0 : Int)), (11, AV.agg (sysC s)), (12, bo true), (13, bo false), (15, AV.agg (sysC s)), (16, lro (List.length v) 1 (List.map st v)), (17, lro (List.length v) 1 (List.map st v)), (18, AV.agg (sysC s)), (19, lro (List.length v) 1 (List.map st v)), (20, bo true), (21, bo false), (22, AV.tup [lro (List.length l) 1 (List.map st l), i6 c]), (23, AV.agg (sysC s)), (24, AV.int IntKind.u16 n), (25, i6 (w6 n)), (26, i6 (Int.tmod (w6 n) 10000)), (27, AV.tup [lro (List.length l) 1 (List.map st l), i6 c]), (28, lro (List.length l) 1 (List.map st l)), (29, i6 c)] [Ob.cells (sysC s)]
def lvS7 (s : NSys) (n : Int) (c : Int) (v : List ByteArray) (l : List ByteArray) (fo : Nat → Bool) (i0 : Nat) (i1 : Nat) : St :=
  stOf 64 [4, 40, 41, 42, 43, 44, 45, 46, 47, 48, 49, 50, 51, 52, 53] [(0, AV.agg (sysC s)), (1, AV.int IntKind.u16 n), (2, AV.ref 0 0), (5, lro (List.length v) 1 (List.map st v)), (6, lro (List.length l) 1 (List.map st l)), (7, i6 c), (8, i6 (w6 ((↑i0 : Int) + 1))), (9, bo (fo i1)), (10, i6 (↑i1 : Int)), (11, AV.agg (sysC s)), (12, bo true), (13, bo false), (15, AV.agg (sysC s)), (16, lro (List.length v) 1 (List.map st v)), (17, lro (List.length v) 1 (List.map st v)), (18, AV.agg (sysC s)), (19, lro (List.length v) 1 (List.map st v)), (20, bo true), (21, bo false), (22, AV.tup [lro (List.length l) 1 (List.map st l), i6 c]), (23, AV.agg (sysC s)), (24, AV.int IntKind.u16 n), (25, i6 (w6 n)), (26, i6 (Int.tmod (w6 n) 10000)), (27, AV.tup [lro (List.length l) 1 (List.map st l), i6 c]), (28, lro (List.length l) 1 (List.map st l)), (29, i6 c), (30, i6 (↑i0 : Int)), (31, lro (List.length l) 1 (List.map st l)), (32, i6 (↑(List.length l) : Int)), (33, bo true), (34, i6 (↑i0 : Int)), (35, i6 (w6 ((↑i0 : Int) + 1))), (36, i6 (↑i1 : Int)), (37, lro (List.length v) 1 (List.map st v)), (38, i6 (↑(List.length v) : Int)), (39, bo false), (54, bo true), (55, bo false)] [Ob.cells (sysC s)]
def lvS8 (s : NSys) (n : Int) (c : Int) (v : List ByteArray) (l : List ByteArray) (fo : Nat → Bool) (i0 : Nat) (i1 : Nat) : St :=
  stOf 64 [34, 35, 40, 41, 42, 43, 44, 45, 46, 47, 48, 49, 50, 51, 52, 53] [(0, AV.agg (sysC s)), (1, AV.int IntKind.u16 n), (2, AV.ref 0 0), (4, bo false), (5, lro (List.length v) 1 (List.map st v)), (6, lro (List.length l) 1 (List.map st l)), (7, i6 c), (8, i6 (↑i0 : Int)), (9, bo (fo i1)), (10, i6 (↑i1 : Int)), (11, AV.agg (sysC s)), (12, bo true), (13, bo false), (15, AV.agg (sysC s)), (16, lro (List.length v) 1 (List.map st v)), (17, lro (List.length v) 1 (List.map st v)), (18, AV.agg (sysC s)), (19, lro (List.length v) 1 (List.map st v)), (20, bo true), (21, bo false), (22, AV.tup [lro (List.length l) 1 (List.map st l), i6 c]), (23, AV.agg (sysC s)), (24, AV.int IntKind.u16 n), (25, i6 (w6 n)), (26, i6 (Int.tmod (w6 n) 10000)), (27, AV.tup [lro (List.length l) 1 (List.map st l), i6 c]), (28, lro (List.length l) 1 (List.map st l)), (29, i6 c), (30, i6 (↑i0 : Int)), (31, lro (List.length l) 1 (List.map st l)), (32, i6 (↑(List.length l) : Int)), (33, bo true), (36, i6 (↑i1 : Int)), (37, lro (List.length v) 1 (List.map st v)), (38, i6 (↑(List.length v) : Int)), (39, bo false), (54, bo false), (55, bo true)] [Ob.cells (sysC s)]
def lvS9 (s : NSys) (n : Int) (c : Int) (v : List ByteArray) (l : List ByteArray) : St :=
  stOf 64 [] [(0, AV.agg (sysC s)), (1, AV.int IntKind.u16 n), (2, AV.ref 0 0), (4, bo false), (5, lro (List.length v) 1 (List.map st v)), (6, lro (List.length l) 1 (List.map st l)), (7, i6 c), (8, i6 0), (11, AV.agg (sysC s)), (12, bo true), (13, bo false), (15, AV.agg (sysC s)), (16, lro (List.length v) 1 (List.map st v)), (17, lro (List.length v) 1 (List.map st v)), (18, AV.agg (sysC s)), (19, lro (List.length v) 1 (List.map st v)), (20, bo true), (21, bo false), (22, AV.tup [lro (List.length l) 1 (List.map st l), i6 c]), (23, AV.agg (sysC s)), (24, AV.int IntKind.u16 n), (25, i6 (w6 n)), (26, i6 (Int.tmod (w6 n) 10000)), (27, AV.tup [lro (List.length l) 1 (List.map st l), i6 c]), (28, lro (List.length l) 1 (List.map st l)), (29, i6 c)] [Ob.cells (sysC s)]
def lvS10 (s : NSys) (n : Int) (c : Int) (v : List ByteArray) (l : List ByteArray) (i0 : Nat) : St :=
  stOf 64 [4, 9, 10, 34, 35, 36, 37, 38, 39, 40, 41, 42, 43, 44, 45, 46, 47, 48, 49, 50, 51, 52, 53, 54, 55] [(0, AV.agg (sysC s)), (1, AV.int IntKind.u16 n), (2, AV.ref 0 0), (5, lro (List.length v) 1 (List.map st v)), (6, lro (List.length l) 1 (List.map st l)), (7, i6 c), (8, i6 (↑i0 : Int)), (11, AV.agg (sysC s)), (12, bo true), (13, bo false), (15, AV.agg (sysC s)), (16, lro (List.length v) 1 (List.map st v)), (17, lro (List.length v) 1 (List.map st v)), (18, AV.agg (sysC s)), (19, lro (List.length v) 1 (List.map st v)), (20, bo true), (21, bo false), (22, AV.tup [lro (List.length l) 1 (List.map st l), i6 c]), (23, AV.agg (sysC s)), (24, AV.int IntKind.u16 n), (25, i6 (w6 n)), (26, i6 (Int.tmod (w6 n) 10000)), (27, AV.tup [lro (List.length l) 1 (List.map st l), i6 c]), (28, lro (List.length l) 1 (List.map st l)), (29, i6 c), (30, i6 (↑i0 : Int)), (31, lro (List.length l) 1 (List.map st l)), (32, i6 (↑(List.length l) : Int)), (33, bo false)] [Ob.cells (sysC s)]
theorem rvi_p (s : NSys) (X : Ext) (call : Caller) (lf : Nat)
  (h0 : callv X call false 14 [AV.agg (sysC s)] [Ob.cells (sysC s)] 0 = some (bo false, [Ob.cells (sysC s)])) : vbody Tryd.prog X call lf noFg Tryd.f27 (codeOf Tryd.f27) [AV.agg (sysC s)] [] 0 = some (AV.list LK.clip 0 1 [], [Ob.cells (sysC s)]) :=
  along_sound (ans := [(8, Ans.v (bo false))]) (by kernel_rfl) (And.intro h0 trivial)
theorem lva_p (s : NSys) (n : Int) (X : Ext) (call : Caller) (lf : Nat)
  (h0 : callv X call false 13 [AV.agg (sysC s)] [Ob.cells (sysC s)] 0 = some (bo false, [Ob.cells (sysC s)]))
  (h1 : callv X call false 15 [] [Ob.cells (sysC s)] 0 = some (bo true, [Ob.cells (sysC s)])) : vbody Tryd.prog X call lf noFg Tryd.f9 (codeOf Tryd.f9) [AV.agg (sysC s), AV.int IntKind.u16 n] [] 0 = some (bo true, [Ob.cells (sysC s)]) :=
  along_sound (ans := [(5, Ans.v (bo false)), (9, Ans.v (bo true))]) (by kernel_rfl) (And.intro h0 (And.intro h1 trivial))
theorem lvo_r1_tt (s : NSys) (n : Int) (c : Int) (v : List ByteArray) (l : List ByteArray) (fo : Nat → Bool) (X : Ext) (call : Caller) (lf : Nat) (i0 : Nat) (i1 : Nat)
  (h0 : decide ((↑i1 : Int) < (↑(List.length v) : Int)) = true)
  (h1 : fo i1 = true) : vexec Tryd.prog X call lf 0 noFg (loopN Tryd.f9 1) (lvS0 s n c v l fo i0 i1) = some (Ex.normal, (lvS1 s n c v l i0 i1)) :=
  around_sound (ans := [(4, Ans.b true), (7, Ans.b true)]) (by kernel_rfl) (And.intro h0 (And.intro h1 trivial))
theorem lvo_r1_tft (s : NSys) (n : Int) (c : Int) (v : List ByteArray) (l : List ByteArray) (ra : List AV) (rb : List AV) (x : ByteArray) (y : ByteArray) (fo : Nat → Bool) (X : Ext) (call : Caller) (lf : Nat) (i0 : Nat) (i1 : Nat)
  (h0 : decide ((↑i1 : Int) < (↑(List.length v) : Int)) = true)
  (h1 : fo i1 = false)
  (h2 : keep [Ob.cells (sysC s)] (indexAddrv Tryd.prog 22 [Ob.cells (sysC s)] (lro (List.length v) 1 (List.map st v)) (i6 (↑i1 : Int))) = some (AV.eaddr ra, [Ob.cells (sysC s)]))
  (h3 : keep [Ob.cells (sysC s)] (loadv Tryd.prog 9 [Ob.cells (sysC s)] (AV.eaddr ra)) = some (st x, [Ob.cells (sysC s)]))
  (h4 : keep [Ob.cells (sysC s)] (indexAddrv Tryd.prog 22 [Ob.cells (sysC s)] (lro (List.length l) 1 (List.map st l)) (i6 (↑i0 : Int))) = some (AV.eaddr rb, [Ob.cells (sysC s)]))
  (h5 : keep [Ob.cells (sysC s)] (loadv Tryd.prog 9 [Ob.cells (sysC s)] (AV.eaddr rb)) = some (st y, [Ob.cells (sysC s)]))
  (h6 : (ByteArray.toList x == ByteArray.toList y) = true) : vexec Tryd.prog X call lf 0 noFg (loopN Tryd.f9 1) (lvS0 s n c v l fo i0 i1) = some (Ex.normal, (lvS2 s n c v l ra rb x y i0 i1)) :=
  around_sound (ans := [(4, Ans.b true), (7, Ans.b false), (14, Ans.v (AV.eaddr ra)), (16, Ans.v (st x)), (22, Ans.v (AV.eaddr rb)), (24, Ans.v (st y)), (26, Ans.b true)]) (by kernel_rfl) (And.intro h0 (And.intro h1 (And.intro h2 (And.intro h3 (And.intro h4 (And.intro h5 (And.intro h6 trivial)))))))
theorem lvo_r1_tff (s : NSys) (n : Int) (c : Int) (v : List ByteArray) (l : List ByteArray) (ra : List AV) (rb : List AV) (x : ByteArray) (y : ByteArray) (fo : Nat → Bool) (X : Ext) (call : Caller) (lf : Nat) (i0 : Nat) (i1 : Nat)
  (h0 : decide ((↑i1 : Int) < (↑(List.length v) : Int)) = true)
  (h1 : fo i1 = false)
  (h2 : keep [Ob.cells (sysC s)] (indexAddrv Tryd.prog 22 [Ob.cells (sysC s)] (lro (List.length v) 1 (List.map st v)) (i6 (↑i1 : Int))) = some (AV.eaddr ra, [Ob.cells (sysC s)]))
  (h3 : keep [Ob.cells (sysC s)] (loadv Tryd.prog 9 [Ob.cells (sysC s)] (AV.eaddr ra)) = some (st x, [Ob.cells (sysC s)]))
  (h4 : keep [Ob.cells (sysC s)] (indexAddrv Tryd.prog 22 [Ob.cells (sysC s)] (lro (List.length l) 1 (List.map st l)) (i6 (↑i0 : Int))) = some (AV.eaddr rb, [Ob.cells (sysC s)]))
  (h5 : keep [Ob.cells (sysC s)] (loadv Tryd.prog 9 [Ob.cells (sysC s)] (AV.eaddr rb)) = some (st y, [Ob.cells (sysC s)]))
  (h6 : (ByteArray.toList x == ByteArray.toList y) = false) : vexec Tryd.prog X call lf 0 noFg (loopN Tryd.f9 1) (lvS0 s n c v l fo i0 i1) = some (Ex.normal, (lvS3 s n c v l ra rb x y i0 i1)) :=
  around_sound (ans := [(4, Ans.b true), (7, Ans.b false), (14, Ans.v (AV.eaddr ra)), (16, Ans.v (st x)), (22, Ans.v (AV.eaddr rb)), (24, Ans.v (st y)), (26, Ans.b false)]) (by kernel_rfl) (And.intro h0 (And.intro h1 (And.intro h2 (And.intro h3 (And.intro h4 (And.intro h5 (And.intro h6 trivial)))))))
theorem lvo_r1_f (s : NSys) (n : Int) (c : Int) (v : List ByteArray) (l : List ByteArray) (fo : Nat → Bool) (X : Ext) (call : Caller) (lf : Nat) (i0 : Nat) (i1 : Nat)
  (h0 : decide ((↑i1 : Int) < (↑(List.length v) : Int)) = false) : vexec Tryd.prog X call lf 0 noFg (loopN Tryd.f9 1) (lvS0 s n c v l fo i0 i1) = some (Ex.exit 2, (lvS4 s n c v l fo i0 i1)) :=
  around_sound (ans := [(4, Ans.b false)]) (by kernel_rfl) (And.intro h0 trivial)
theorem lvo_r0_tlft (s : NSys) (n : Int) (c : Int) (v : List ByteArray) (l : List ByteArray) (fo : Nat → Bool) (X : Ext) (call : Caller) (lf : Nat) (i0 : Nat) (i1 : Nat)
  (h0 : decide ((↑i0 : Int) < (↑(List.length l) : Int)) = true)
  (h1 : vexec Tryd.prog X call lf 0 noFg (Code.loop (loopN Tryd.f9 1)) (lvS5 s n c v l i0) = some (Ex.exit 2, (lvS4 s n c v l fo i0 i1)))
  (h2 : fo i1 = true) : vexec Tryd.prog X call lf 0 noFg (loopN Tryd.f9 0) (lvS6 s n c v l i0) = some (Ex.normal, (lvS7 s n c v l fo i0 i1)) :=
  around_sound (ans := [(4, Ans.b true), (10, Ans.l (Ex.exit 2) (lvS4 s n c v l fo i0 i1)), (12, Ans.b true)]) (by kernel_rfl) (And.intro h0 (And.intro h1 (And.intro h2 trivial)))
theorem lvo_r0_f (s : NSys) (n : Int) (c : Int) (v : List ByteArray) (l : List ByteArray) (X : Ext) (call : Caller) (lf : Nat) (i0 : Nat)
  (h0 : decide ((↑i0 : Int) < (↑(List.length l) : Int)) = false) : vexec Tryd.prog X call lf 0 noFg (loopN Tryd.f9 0) (lvS6 s n c v l i0) = some (Ex.exit 0, (lvS10 s n c v l i0)) :=
  around_sound (ans := [(4, Ans.b false)]) (by kernel_rfl) (And.intro h0 trivial)
theorem lvo_plftt (s : NSys) (n : Int) (c : Int) (v : List ByteArray) (l : List ByteArray) (X : Ext) (call : Caller) (lf : Nat) (i0 : Nat)
  (h0 : callv X call false 13 [AV.agg (sysC s)] [Ob.cells (sysC s)] 0 = some (bo true, [Ob.cells (sysC s)]))
  (h1 : callv X call false 26 [AV.agg (sysC s)] [Ob.cells (sysC s)] 0 = some (lro (List.length v) 1 (List.map st v), [Ob.cells (sysC s)]))
  (h2 : callv X call false 27 [AV.agg (sysC s)] [Ob.cells (sysC s)] 0 = some (lro (List.length v) 1 (List.map st v), [Ob.cells (sysC s)]))
  (h3 : callv X call false 17 [lro (List.length v) 1 (List.map st v), lro (List.length v) 1 (List.map st v)] [Ob.cells (sysC s)] 0 = some (bo true, [Ob.cells (sysC s)]))
  (h4 : callv X call false 16 [AV.agg (sysC s), i6 (Int.tmod (w6 n) 10000)] [Ob.cells (sysC s)] 0 = some (AV.tup [lro (List.length l) 1 (List.map st l), i6 c], [Ob.cells (sysC s)]))
  (h5 : vexec Tryd.prog X call lf 0 noFg (Code.loop (loopN Tryd.f9 0)) (lvS9 s n c v l) = some (Ex.exit 0, (lvS10 s n c v l i0)))
  (h6 : callv X call false 15 [] [Ob.cells (sysC s)] 0 = some (bo true, [Ob.cells (sysC s)]))
  (h7 : (c == 0) = true)
  (h8 : callv X call false 14 [AV.agg (sysC s)] [Ob.cells (sysC s)] 0 = some (bo true, [Ob.cells (sysC s)])) : vbody Tryd.prog X call lf noFg Tryd.f9 (codeOf Tryd.f9) [AV.agg (sysC s), AV.int IntKind.u16 n] [] 0 = some (bo true, [Ob.cells (sysC s)]) :=
  along_sound (ans := [(5, Ans.v (bo true)), (10, Ans.v (lro (List.length v) 1 (List.map st v))), (15, Ans.v (lro (List.length v) 1 (List.map st v))), (16, Ans.v (bo true)), (24, Ans.v (AV.tup [lro (List.length l) 1 (List.map st l), i6 c])), (32, Ans.l (Ex.exit 0) (lvS10 s n c v l i0)), (34, Ans.v (bo true)), (39, Ans.b true), (43, Ans.v (bo true))]) (by kernel_rfl) (And.intro h0 (And.intro h1 (And.intro h2 (And.intro h3 (And.intro h4 (And.intro h5 (And.intro h6 (And.intro h7 (And.intro h8 trivial)))))))))
theorem lvo_plfff (s : NSys) (n : Int) (c : Int) (v : List ByteArray) (l : List ByteArray) (X : Ext) (call : Caller) (lf : Nat) (i0 : Nat)
  (h0 : callv X call false 13 [AV.agg (sysC s)] [Ob.cells (sysC s)] 0 = some (bo true, [Ob.cells (sysC s)]))
  (h1 : callv X call false 26 [AV.agg (sysC s)] [Ob.cells (sysC s)] 0 = some (lro (List.length v) 1 (List.map st v), [Ob.cells (sysC s)]))
  (h2 : callv X call false 27 [AV.agg (sysC s)] [Ob.cells (sysC s)] 0 = some (lro (List.length v) 1 (List.map st v), [Ob.cells (sysC s)]))
  (h3 : callv X call false 17 [lro (List.length v) 1 (List.map st v), lro (List.length v) 1 (List.map st v)] [Ob.cells (sysC s)] 0 = some (bo true, [Ob.cells (sysC s)]))
  (h4 : callv X call false 16 [AV.agg (sysC s), i6 (Int.tmod (w6 n) 10000)] [Ob.cells (sysC s)] 0 = some (AV.tup [lro (List.length l) 1 (List.map st l), i6 c], [Ob.cells (sysC s)]))
  (h5 : vexec Tryd.prog X call lf 0 noFg (Code.loop (loopN Tryd.f9 0)) (lvS9 s n c v l) = some (Ex.exit 0, (lvS10 s n c v l i0)))
  (h6 : callv X call false 15 [] [Ob.cells (sysC s)] 0 = some (bo true, [Ob.cells (sysC s)]))
  (h7 : (c == 0) = false)
  (h8 : callv X call false 14 [AV.agg (sysC s)] [Ob.cells (sysC s)] 0 = some (bo false, [Ob.cells (sysC s)])) : vbody Tryd.prog X call lf noFg Tryd.f9 (codeOf Tryd.f9) [AV.agg (sysC s), AV.int IntKind.u16 n] [] 0 = some (bo true, [Ob.cells (sysC s)]) :=
  along_sound (ans := [(5, Ans.v (bo true)), (10, Ans.v (lro (List.length v) 1 (List.map st v))), (15, Ans.v (lro (List.length v) 1 (List.map st v))), (16, Ans.v (bo true)), (24, Ans.v (AV.tup [lro (List.length l) 1 (List.map st l), i6 c])), (32, Ans.l (Ex.exit 0) (lvS10 s n c v l i0)), (34, Ans.v (bo true)), (39, Ans.b false), (43, Ans.v (bo false))]) (by kernel_rfl) (And.intro h0 (And.intro h1 (And.intro h2 (And.intro h3 (And.intro h4 (And.intro h5 (And.intro h6 (And.intro h7 (And.intro h8 trivial)))))))))


/-! ### Vocabulary's law -/
def vocR (s : NSys) : List ByteArray := if validL s then vocP s else []
def vocS : List AV → Option AV
  | [.agg cs] => match sysO cs with
    | some s => if okS s = true then some (lst (vocR s)) else none
    | none => none
  | _ => none
def T21a : Vm.Spec := addS T14 26 fun vs => vocS (roAll vs)
def T21 : Vm.Spec := addS T21a 27 fun vs => vocS (roAll vs)
theorem at21a {f : FuncId} (h : f ≠ 26) {vs : List AV} {r : AV} (h13 : T13 f vs = some r) : T21a f vs = some r := by
  unfold T21a addS
  rw [if_neg h]
  exact has14.at_ f vs r h13
theorem at21 {f : FuncId} (h : f ≠ 26) (h' : f ≠ 27) {vs : List AV} {r : AV} (h13 : T13 f vs = some r) : T21 f vs = some r := by
  unfold T21 addS
  rw [if_neg h']
  exact at21a h h13
theorem vocP_len (s : NSys) : (vocP s).length ≤ s.digits.length + s.powers.length + 2 := by
  unfold vocP
  rw [List.length_map]
  have h1 := compact_le (((vocL s).map (·.data.toList)).mergeSort leB)
  rw [List.length_mergeSort, List.length_map] at h1
  have h2 : (vocL s).length ≤ s.digits.length + s.powers.length + 2 := by
    unfold vocL joinWords
    simp only [List.length_append]
    split <;> split <;> simp
  omega
theorem T21_ok [Fixed] (hX : ∀ l, ExtOk Tryd.prog (X15 l)) (hY : ∀ l, ExtOk Tryd.prog (X16 l)) : SpecOk Tryd.prog T21 := by
  have h14 := T14_ok hX
  have ha : SpecOk Tryd.prog T21a := by
    refine h14.addRo ?_
    intro vs r h
    unfold vocS at h
    split at h
    · split at h
      · rename_i s hs
        split at h
        · rename_i hk
          simp only [Option.some.injEq] at h
          subst h
          rw [sysO_eq hs]
          cases hv : validL s with
          | true =>
            have e : vocR s = vocP s := by unfold vocR; rw [if_pos hv]
            rw [e]
            obtain ⟨σ', hrun⟩ := voc_spec (T := T14) hk hv (fun _ => rfl) (fun _ => rfl) (fun _ => rfl)
            exact isS_call (.inl ⟨_, rfl⟩) (run_at (hY [36]) h14 rfl Tryd.func26 rfl (by simp [AV.pure, AV.lt, lt_strs]) hrun)
          | false =>
            have e : vocR s = [] := by unfold vocR; rw [if_neg (by rw [hv]; decide)]
            rw [e]
            have h22 : callv (X16 []) (callerOf T14) false 22 [AV.agg (sysC s)] [Ob.cells (sysC s)] 0 = some (bo false, [Ob.cells (sysC s)]) := by
              refine call16 (r := bo false) rfl rfl rfl (lt_sys s) ?_ rfl rfl
              show validS (roAll [AV.agg (sysC s)]) = _
              rw [roAll_sys]; simp only [validS, sysO_sysC, hk, hv, if_true]
            exact isS_call (.inr ⟨rfl, _, _, _, rfl⟩) (run_at (hY []) h14 rfl Tryd.func26 rfl rfl (novoc_p s (X16 []) (callerOf T14) 1 h22))
        · cases h
      · cases h
    · cases h
  refine ha.addRo ?_
  intro vs r h
  unfold vocS at h
  split at h
  · split at h
    · rename_i s hs
      split at h
      · rename_i hk
        simp only [Option.some.injEq] at h
        subst h
        rw [sysO_eq hs]
        have h14' : ∀ σ, callv (X15 []) (callerOf T21a) false 14 [AV.agg (sysC s)] σ 0 = some (bo (validL s), σ) := by
          intro σ
          refine call_T (r := bo (validL s)) rfl rfl (lt_sys s) ?_ rfl rfl
          show validS (roAll [AV.agg (sysC s)]) = _
          rw [roAll_sys]; simp only [validS, sysO_sysC, hk, if_true]
        cases hv : validL s with
        | true =>
          have e : vocR s = vocP s := by unfold vocR; rw [if_pos hv]
          rw [hv] at h14'
          obtain ⟨σ', hrun⟩ := rvoc_spec (X := X15 []) (call := callerOf T21a) (lf := 100002) hv (by omega) h14' (by
            intro a b l m σ ha hb hl hlen
            refine call_T (r := lst (l ++ m)) rfl rfl hl ?_ (lt_lst _) rfl
            show rjoinS [a, b] = _
            simp only [rjoinS, isSO_of ha, isSO_of hb]
            rw [if_pos (by omega)])
          rw [e, ← voc_eq hv]
          exact run_at (hX []) ha rfl Tryd.func27 rfl (lt_lst _) hrun
        | false =>
          have e : vocR s = [] := by unfold vocR; rw [if_neg (by rw [hv]; decide)]
          rw [e]
          rw [hv] at h14'
          exact isS_call (.inr ⟨rfl, _, _, _, rfl⟩) (run_at (hX []) ha rfl Tryd.func27 rfl rfl (rvi_p s (X15 []) (callerOf T21a) 1 (h14' _)))
      · cases h
    · cases h
  · cases h
section
variable {s : NSys} {dr : Bool} {σ : List Ob} {ro : Nat}
theorem u_small : callv (X15 []) (callerOf T21) dr 13 [AV.agg (sysC s)] σ ro = some (bo (smallL s), σ) := callv_at (fun _ _ h => at21 (by decide) (by decide) h) (lt_sys s) rfl c_small
theorem u_rvalid (hk : okS s = true) : callv (X15 []) (callerOf T21) dr 14 [AV.agg (sysC s)] σ ro = some (bo (validL s), σ) := by
  refine call_T (r := bo (validL s)) rfl rfl (lt_sys s) ?_ rfl rfl
  show validS (roAll [AV.agg (sysC s)]) = _
  rw [roAll_sys]; simp only [validS, sysO_sysC, hk, if_true]
theorem u_awake : callv (X15 []) (callerOf T21) dr 15 [] σ ro = some (bo true, σ) := callv_at (fun _ _ h => at21 (by decide) (by decide) h) rfl rfl c_awake
theorem u_words (hk : okS s = true) {n c : Int} {ws : List ByteArray} (hw : wordsO s n = some (ws, c)) : callv (X15 []) (callerOf T21) dr 16 [AV.agg (sysC s), i6 n] σ ro = some (.tup [lst ws, i6 c], σ) := callv_at (fun _ _ h => at21 (by decide) (by decide) h) (lt_sysn s n) rfl (c_words hk hw)
theorem u_texts {l m : List ByteArray} (hl : l.length ≤ 140737488355328) : callv (X15 []) (callerOf T21) dr 17 [lst l, lst m] σ ro = some (bo (textsL l m), σ) := callv_at (fun _ _ h => at21 (by decide) (by decide) h) (lt_two (lt_lst l) (lt_lst m)) rfl (c_texts hl)
theorem u_voc (hk : okS s = true) : callv (X15 []) (callerOf T21) dr 26 [AV.agg (sysC s)] σ ro = some (lst (vocR s), σ) := by
  refine call_T (r := lst (vocR s)) rfl rfl (lt_sys s) ?_ (lt_lst _) rfl
  show vocS (roAll [AV.agg (sysC s)]) = _
  rw [roAll_sys]; simp only [vocS, sysO_sysC, hk, if_true]
theorem u_rvoc (hk : okS s = true) : callv (X15 []) (callerOf T21) dr 27 [AV.agg (sysC s)] σ ro = some (lst (vocR s), σ) := by
  refine call_T (r := lst (vocR s)) rfl rfl (lt_sys s) ?_ (lt_lst _) rfl
  show vocS (roAll [AV.agg (sysC s)]) = _
  rw [roAll_sys]; simp only [vocS, sysO_sysC, hk, if_true]
end
abbrev D9a : List Nat := [35, 34, 4, 55, 54, 41, 40, 53, 52, 51, 50, 49, 48, 47, 46, 45, 44, 43, 42, 39, 38, 37, 36, 10, 9, 33, 32, 31, 30]
abbrev D9b : List Nat := [41, 40, 53, 52, 51, 50, 49, 48, 47, 46, 45, 44, 43, 42, 39, 38, 37, 36]
theorem dead9a : (deadC (loopN Tryd.f9 0) ([], [])).2 = D9a := by kernel_rfl
theorem dead9b : (deadC (loopN Tryd.f9 1) ([], [])).2 = D9b := by kernel_rfl
def anyV (v : List ByteArray) (y : ByteArray) (k : Nat) : Bool := (v.take k).any fun w => w.toList == y.toList
theorem anyV_succ {v : List ByteArray} {y : ByteArray} {k : Nat} (h : k < v.length) : anyV v y (k + 1) = (anyV v y k || (v[k].toList == y.toList)) := by
  unfold anyV
  rw [List.take_add_one, List.getElem?_eq_getElem h, List.any_append]
  simp only [Option.toList, List.any_cons, List.any_nil, Bool.or_false]
theorem anyV_mem {v : List ByteArray} {y : ByteArray} (h : y ∈ v) : anyV v y v.length = true := by
  unfold anyV
  rw [List.take_length, List.any_eq_true]
  exact ⟨y, h, by simp⟩
theorem lv_inner {s : NSys} {n c : Int} {v l : List ByteArray} {X : Ext} {call : Caller} {lf i : Nat} (hv : v.length ≤ 100000) (hl : l.length ≤ big) (hlf : v.length < lf) (hi : i < l.length) :
    vexec Tryd.prog X call lf 0 noFg (Code.loop (loopN Tryd.f9 1)) (lvS5 s n c v l i) = some (Ex.exit 2, lvS4 s n c v l (anyV v l[i]) i v.length) := by
  refine loop_run (P := Tryd.prog) (X := X) (call := call) (lf := lf) (ro := 0) (fg := noFg) dead9b (fun k => lvS0 s n c v l (anyV v l[i]) i k) v.length hlf ?_ ?_ (lvo_r1_f s n c v l _ X call lf i v.length (decide_eq_false (by omega))) (by simp)
  · show forget D9b (lvS5 s n c v l i) = lvS0 s n c v l (anyV v l[i]) i 0
    show _ = _
    kernel_rfl
  · intro k hk
    have e : w6 ((k : Int) + 1) = ((k + 1 : Nat) : Int) := wrap_small (by omega)
    cases hf : anyV v l[i] k with
    | true =>
      refine ⟨_, lvo_r1_tt s n c v l _ X call lf i k (decide_eq_true (by omega)) hf, ?_⟩
      have h1 : anyV v l[i] (k + 1) = true := by rw [anyV_succ hk, hf]; rfl
      unfold lvS1
      rw [e]
      show _ = lvS0 s n c v l (anyV v l[i]) i (k + 1)
      unfold lvS0
      rw [h1]
      show _ = _
      kernel_rfl
    | false =>
      cases hq : (v[k].toList == l[i].toList) with
      | true =>
        refine ⟨_, lvo_r1_tft s n c v l _ _ _ _ _ X call lf i k (decide_eq_true (by omega)) hf (at_list Tryd.underlying22 cells9 info9 hk) (load_list Tryd.underlying9 rfl (at_strs hk)) (at_list Tryd.underlying22 cells9 info9 hi) (load_list Tryd.underlying9 rfl (at_strs hi)) hq, ?_⟩
        have h1 : anyV v l[i] (k + 1) = true := by rw [anyV_succ hk, hf, hq]; rfl
        unfold lvS2
        rw [e]
        show _ = lvS0 s n c v l (anyV v l[i]) i (k + 1)
        unfold lvS0
        rw [h1]
        show _ = _
        kernel_rfl
      | false =>
        refine ⟨_, lvo_r1_tff s n c v l _ _ _ _ _ X call lf i k (decide_eq_true (by omega)) hf (at_list Tryd.underlying22 cells9 info9 hk) (load_list Tryd.underlying9 rfl (at_strs hk)) (at_list Tryd.underlying22 cells9 info9 hi) (load_list Tryd.underlying9 rfl (at_strs hi)) hq, ?_⟩
        have h1 : anyV v l[i] (k + 1) = false := by rw [anyV_succ hk, hf, hq]; rfl
        unfold lvS3
        rw [e]
        show _ = lvS0 s n c v l (anyV v l[i]) i (k + 1)
        unfold lvS0
        rw [h1]
        show _ = _
        kernel_rfl
theorem lv_outer {s : NSys} {n c : Int} {v l : List ByteArray} {X : Ext} {call : Caller} {lf : Nat} (hv : v.length ≤ 100000) (hl : l.length ≤ big) (hlf : v.length < lf) (hlf' : l.length < lf) (hm : ∀ w ∈ l, w ∈ v) :
    vexec Tryd.prog X call lf 0 noFg (Code.loop (loopN Tryd.f9 0)) (lvS9 s n c v l) = some (Ex.exit 0, lvS10 s n c v l l.length) := by
  refine loop_run (P := Tryd.prog) (X := X) (call := call) (lf := lf) (ro := 0) (fg := noFg) dead9a (fun i => lvS6 s n c v l i) l.length hlf' ?_ ?_ (lvo_r0_f s n c v l X call lf l.length (decide_eq_false (by omega))) (by simp)
  · show forget D9a (lvS9 s n c v l) = lvS6 s n c v l 0
    show _ = _
    kernel_rfl
  · intro i hi
    have e : w6 ((i : Int) + 1) = ((i + 1 : Nat) : Int) := wrap_small (by have : l.length ≤ 140737488355328 := hl; omega)
    refine ⟨_, lvo_r0_tlft s n c v l _ X call lf i v.length (decide_eq_true (by omega)) (lv_inner hv hl hlf hi) (anyV_mem (hm _ (List.getElem_mem hi))), ?_⟩
    unfold lvS7
    rw [e]
    show _ = lvS6 s n c v l (i + 1)
    unfold lvS6
    show _ = _
    kernel_rfl
/-- NumeralVocabulary: true. -/
theorem law_voc [Fixed] (hX : ∀ l, ExtOk Tryd.prog (X15 l)) (hY : ∀ l, ExtOk Tryd.prog (X16 l)) {s : NSys} (hk : okS s = true) {n : Int} (n0 : 0 ≤ n) (n1 : n ≤ 65535) : CallAt Tryd.prog 9 [AV.agg (sysC s), .int .u16 n] [] 0 (bo true) [] := by
  have run : ∀ {σ' : List Ob}, vbody Tryd.prog (X15 []) (callerOf T21) 140737488355330 noFg Tryd.f9 (codeOf Tryd.f9) [AV.agg (sysC s), .int .u16 n] [] 0 = some (bo true, σ') → CallAt Tryd.prog 9 [AV.agg (sysC s), .int .u16 n] [] 0 (bo true) [] :=
    fun h => run_at (hX []) (T21_ok hX hY) rfl Tryd.func9 rfl rfl h
  have hs := u_small (s := s) (dr := false) (σ := [Ob.cells (sysC s)]) (ro := 0)
  cases hsm : smallL s with
  | false =>
    rw [hsm] at hs
    exact run (lva_p s n (X15 []) (callerOf T21) _ hs u_awake)
  | true =>
    rw [hsm] at hs
    have hvl : (vocR s).length ≤ 100000 := by
      unfold vocR
      split
      · rename_i hv
        have hg := good_of hv
        have := hg.base
        have := hg.dig
        have := hg.pow
        have := vocP_len s
        omega
      · simp
    have hwn : w6 n = n := w6_id (by omega) (by omega)
    have hk0 : 0 ≤ (w6 n).tmod 10000 ∧ (w6 n).tmod 10000 ≤ 9999 := by
      rw [hwn, Int.tmod_eq_emod_of_nonneg n0]
      omega
    have ht := u_texts (dr := false) (σ := [Ob.cells (sysC s)]) (ro := 0) (l := vocR s) (m := vocR s) (by omega)
    have et : textsL (vocR s) (vocR s) = true := textsL_iff.2 rfl
    rw [et] at ht
    have h14 := u_rvalid (s := s) (dr := true) (σ := [Ob.cells (sysC s)]) (ro := 0) hk
    have h14' := u_rvalid (s := s) (dr := false) (σ := [Ob.cells (sysC s)]) (ro := 0) hk
    cases hva : validL s with
    | true =>
      rw [hva] at h14 h14'
      obtain ⟨l, hl, hw⟩ := words_some hva hk0.1 hk0.2
      have hll := say6_len hl
      have hll' : l.length ≤ 140737488355328 := hll
      have hm : ∀ w ∈ l, w ∈ vocR s := by
        intro w hww
        unfold vocR
        rw [if_pos hva, (vocP_spec s).2]
        exact say_voc hva hk0.1 hk0.2 hl w hww
      exact run (lvo_plftt s n 0 (vocR s) l (X15 []) (callerOf T21) _ l.length hs (u_voc hk) (u_rvoc hk) ht (u_words hk hw) (lv_outer hvl hll (by omega) (by omega) hm) u_awake rfl h14')
    | false =>
      rw [hva] at h14 h14'
      have hw : wordsO s ((w6 n).tmod 10000) = some ([], 1) := by unfold wordsO; rw [if_pos (.inl hva)]
      exact run (lvo_plfff s n 1 (vocR s) [] (X15 []) (callerOf T21) _ 0 hs (u_voc hk) (u_rvoc hk) ht (u_words hk hw) (lv_outer hvl (by simp [big]) (by omega) (by simp) (by simp)) u_awake rfl h14')
end Go.Proofs.Num
end
