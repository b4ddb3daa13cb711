/- Part 3 of the texts of this claim: the evaluator, and what it says of the program's functions. -/
import Derived.Test.YtdkoncfpkhapjaaDoorXB
import Derived.Test.YtdkoncfpkhapjaaDoorProg
import Derived.Lib.ValidLaws
set_option linter.unusedSectionVars false
set_option linter.unusedVariables false
set_option linter.unusedSimpArgs false
set_option linter.constructorNameAsVariable false
/- Numeral: a system, as data. -/
section
open Go Go.Vm
namespace Go.Proofs.Num
abbrev i6 (n : Int) : AV := .int .i64 n
abbrev lro (n sz : Nat) (cs : List AV) : AV := .list .ro n sz cs
abbrev bo (b : Bool) : AV := .bool b
abbrev st (s : ByteArray) : AV := .str s
abbrev w6 (n : Int) : Int := IntKind.i64.wrap n
structure NSys where
  base : Int
  digits : List ByteArray
  powers : List ByteArray
  sf : Bool
  jo : ByteArray
  sub : Int
  le : ByteArray
  om : Bool
def sysC (s : NSys) : List AV := [.int .i64 s.base, .list .ro s.digits.length 1 (s.digits.map .str), .list .ro s.powers.length 1 (s.powers.map .str), .bool s.sf, .str s.jo, .int .i64 s.sub, .str s.le, .bool s.om]
def empB (s : ByteArray) : Bool := s.toList == (ByteArray.mk #[]).toList
end Go.Proofs.Num
end
/- Numeral: what a token is. -/
section
open Go Go.Vm Go.Proofs
namespace Go.Proofs.Num
theorem tok_r0_tt (s : ByteArray) (c : Int) (X : Ext) (call : Caller) (lf : Nat) (i0 : Nat)
    (h0 : decide ((↑i0 : Int) < (↑(ByteArray.size s) : Int)) = true)
    (h1 : keep [] (indexv Tryd.prog 9 (AV.str s) (AV.int IntKind.i64 (↑i0 : Int))) = some (AV.int IntKind.u8 c, []))
    (h2 : decide (c ≤ 32) = true) :
    vexec Tryd.prog X call lf 0 noFg (loopN Tryd.f43 0)
    (stOf 20 [2, 3, 7, 8, 9, 10, 11, 12, 13]
      [(0, AV.str s), (4, AV.str s), (5, AV.int IntKind.i64 (↑(ByteArray.size s) : Int)),
        (6, AV.int IntKind.i64 (↑i0 : Int))]
      []) =
  some
    (Ex.ret,
      stOf 20 [13]
        [(0, AV.str s), (2, AV.bool false), (3, AV.int IntKind.i64 (↑i0 : Int)), (4, AV.str s),
          (5, AV.int IntKind.i64 (↑(ByteArray.size s) : Int)), (6, AV.int IntKind.i64 (↑i0 : Int)), (7, AV.bool true),
          (8, AV.int IntKind.i64 (↑i0 : Int)), (9, AV.str s), (10, AV.int IntKind.i64 (↑i0 : Int)),
          (11, AV.int IntKind.u8 c), (12, AV.bool true)]
        []) :=
  around_sound (ans := [(1, Ans.b true),
 (9, Ans.v (AV.int IntKind.u8 c)),
 (10, Ans.b true)]) (by kernel_rfl) (And.intro h0 (And.intro h1 (And.intro h2 trivial)))
theorem tok_pltt (s : ByteArray) (c : Int) (X : Ext) (call : Caller) (lf : Nat) (i0 : Nat)
    (h0 : vexec Tryd.prog X call lf 0 noFg (Code.loop (loopN Tryd.f43 0))
    (stOf 20 []
      [(0, AV.str s), (2, AV.bool false), (4, AV.str s), (5, AV.int IntKind.i64 (↑(ByteArray.size s) : Int)),
        (6, AV.int IntKind.i64 0)]
      []) =
  some
    (Ex.ret,
      stOf 20 [13]
        [(0, AV.str s), (2, AV.bool false), (3, AV.int IntKind.i64 (↑i0 : Int)), (4, AV.str s),
          (5, AV.int IntKind.i64 (↑(ByteArray.size s) : Int)), (6, AV.int IntKind.i64 (↑i0 : Int)), (7, AV.bool true),
          (8, AV.int IntKind.i64 (↑i0 : Int)), (9, AV.str s), (10, AV.int IntKind.i64 (↑i0 : Int)),
          (11, AV.int IntKind.u8 c), (12, AV.bool true)]
        [])) :
    vbody Tryd.prog X call lf noFg Tryd.f43 (codeOf Tryd.f43) [AV.str s] [] 0 = some (AV.bool false, []) :=
  along_sound (ans := [(6, Ans.l Ex.ret
   (stOf 20 [13]
     [(0, AV.str s), (2, AV.bool false), (3, AV.int IntKind.i64 (↑i0 : Int)), (4, AV.str s),
       (5, AV.int IntKind.i64 (↑(ByteArray.size s) : Int)), (6, AV.int IntKind.i64 (↑i0 : Int)), (7, AV.bool true),
       (8, AV.int IntKind.i64 (↑i0 : Int)), (9, AV.str s), (10, AV.int IntKind.i64 (↑i0 : Int)),
       (11, AV.int IntKind.u8 c), (12, AV.bool true)]
     []))]) (by kernel_rfl) (And.intro h0 trivial)
theorem tok_r0_tf (s : ByteArray) (c : Int) (X : Ext) (call : Caller) (lf : Nat) (i0 : Nat)
    (h0 : decide ((↑i0 : Int) < (↑(ByteArray.size s) : Int)) = true)
    (h1 : keep [] (indexv Tryd.prog 9 (AV.str s) (AV.int IntKind.i64 (↑i0 : Int))) = some (AV.int IntKind.u8 c, []))
    (h2 : decide (c ≤ 32) = false) :
    vexec Tryd.prog X call lf 0 noFg (loopN Tryd.f43 0)
    (stOf 20 [2, 3, 7, 8, 9, 10, 11, 12, 13]
      [(0, AV.str s), (4, AV.str s), (5, AV.int IntKind.i64 (↑(ByteArray.size s) : Int)),
        (6, AV.int IntKind.i64 (↑i0 : Int))]
      []) =
  some
    (Ex.normal,
      stOf 20 [2]
        [(0, AV.str s), (3, AV.int IntKind.i64 (↑i0 : Int)), (4, AV.str s),
          (5, AV.int IntKind.i64 (↑(ByteArray.size s) : Int)),
          (6, AV.int IntKind.i64 (IntKind.wrap IntKind.i64 ((↑i0 : Int) + 1))), (7, AV.bool true),
          (8, AV.int IntKind.i64 (↑i0 : Int)), (9, AV.str s), (10, AV.int IntKind.i64 (↑i0 : Int)),
          (11, AV.int IntKind.u8 c), (12, AV.bool false),
          (13, AV.int IntKind.i64 (IntKind.wrap IntKind.i64 ((↑i0 : Int) + 1)))]
        []) :=
  around_sound (ans := [(1, Ans.b true),
 (9, Ans.v (AV.int IntKind.u8 c)),
 (10, Ans.b false)]) (by kernel_rfl) (And.intro h0 (And.intro h1 (And.intro h2 trivial)))
/- forgotten: stOf 20 [2, 3, 7, 8, 9, 10, 11, 12, 13]
  [(0, AV.str s), (4, AV.str s), (5, AV.int IntKind.i64 (↑(ByteArray.size s) : Int)),
    (6, AV.int IntKind.i64 (IntKind.wrap IntKind.i64 ((↑i0 : Int) + 1)))]
  [] -/
theorem tok_r0_f (s : ByteArray) (X : Ext) (call : Caller) (lf : Nat) (i0 : Nat)
    (h0 : decide ((↑i0 : Int) < (↑(ByteArray.size s) : Int)) = false) :
    vexec Tryd.prog X call lf 0 noFg (loopN Tryd.f43 0)
    (stOf 20 [2, 3, 7, 8, 9, 10, 11, 12, 13]
      [(0, AV.str s), (4, AV.str s), (5, AV.int IntKind.i64 (↑(ByteArray.size s) : Int)),
        (6, AV.int IntKind.i64 (↑i0 : Int))]
      []) =
  some
    (Ex.exit 0,
      stOf 20 [2, 3, 8, 9, 10, 11, 12, 13]
        [(0, AV.str s), (4, AV.str s), (5, AV.int IntKind.i64 (↑(ByteArray.size s) : Int)),
          (6, AV.int IntKind.i64 (↑i0 : Int)), (7, AV.bool false)]
        []) :=
  around_sound (ans := [(1, Ans.b false)]) (by kernel_rfl) (And.intro h0 trivial)
theorem tok_plftt (s : ByteArray) (X : Ext) (call : Caller) (lf : Nat) (i0 : Nat)
    (h0 : vexec Tryd.prog X call lf 0 noFg (Code.loop (loopN Tryd.f43 0))
    (stOf 20 []
      [(0, AV.str s), (2, AV.bool false), (4, AV.str s), (5, AV.int IntKind.i64 (↑(ByteArray.size s) : Int)),
        (6, AV.int IntKind.i64 0)]
      []) =
  some
    (Ex.exit 0,
      stOf 20 [2, 3, 8, 9, 10, 11, 12, 13]
        [(0, AV.str s), (4, AV.str s), (5, AV.int IntKind.i64 (↑(ByteArray.size s) : Int)),
          (6, AV.int IntKind.i64 (↑i0 : Int)), (7, AV.bool false)]
        []))
    (h1 : (!ByteArray.toList s == ByteArray.toList (ByteArray.mk #[])) = true)
    (h2 : callv X call false 47 [AV.str s] [] 0 = some (AV.bool true, [])) :
    vbody Tryd.prog X call lf noFg Tryd.f43 (codeOf Tryd.f43) [AV.str s] [] 0 = some (AV.bool true, []) :=
  along_sound (ans := [(6, Ans.l (Ex.exit 0)
   (stOf 20 [2, 3, 8, 9, 10, 11, 12, 13]
     [(0, AV.str s), (4, AV.str s), (5, AV.int IntKind.i64 (↑(ByteArray.size s) : Int)),
       (6, AV.int IntKind.i64 (↑i0 : Int)), (7, AV.bool false)]
     [])),
 (9, Ans.b true),
 (14, Ans.v (AV.bool true))]) (by kernel_rfl) (And.intro h0 (And.intro h1 (And.intro h2 trivial)))
theorem tok_plftf (s : ByteArray) (X : Ext) (call : Caller) (lf : Nat) (i0 : Nat)
    (h0 : vexec Tryd.prog X call lf 0 noFg (Code.loop (loopN Tryd.f43 0))
    (stOf 20 []
      [(0, AV.str s), (2, AV.bool false), (4, AV.str s), (5, AV.int IntKind.i64 (↑(ByteArray.size s) : Int)),
        (6, AV.int IntKind.i64 0)]
      []) =
  some
    (Ex.exit 0,
      stOf 20 [2, 3, 8, 9, 10, 11, 12, 13]
        [(0, AV.str s), (4, AV.str s), (5, AV.int IntKind.i64 (↑(ByteArray.size s) : Int)),
          (6, AV.int IntKind.i64 (↑i0 : Int)), (7, AV.bool false)]
        []))
    (h1 : (!ByteArray.toList s == ByteArray.toList (ByteArray.mk #[])) = true)
    (h2 : callv X call false 47 [AV.str s] [] 0 = some (AV.bool false, [])) :
    vbody Tryd.prog X call lf noFg Tryd.f43 (codeOf Tryd.f43) [AV.str s] [] 0 = some (AV.bool false, []) :=
  along_sound (ans := [(6, Ans.l (Ex.exit 0)
   (stOf 20 [2, 3, 8, 9, 10, 11, 12, 13]
     [(0, AV.str s), (4, AV.str s), (5, AV.int IntKind.i64 (↑(ByteArray.size s) : Int)),
       (6, AV.int IntKind.i64 (↑i0 : Int)), (7, AV.bool false)]
     [])),
 (9, Ans.b true),
 (14, Ans.v (AV.bool false))]) (by kernel_rfl) (And.intro h0 (And.intro h1 (And.intro h2 trivial)))
theorem tok_plff (s : ByteArray) (X : Ext) (call : Caller) (lf : Nat) (i0 : Nat)
    (h0 : vexec Tryd.prog X call lf 0 noFg (Code.loop (loopN Tryd.f43 0))
    (stOf 20 []
      [(0, AV.str s), (2, AV.bool false), (4, AV.str s), (5, AV.int IntKind.i64 (↑(ByteArray.size s) : Int)),
        (6, AV.int IntKind.i64 0)]
      []) =
  some
    (Ex.exit 0,
      stOf 20 [2, 3, 8, 9, 10, 11, 12, 13]
        [(0, AV.str s), (4, AV.str s), (5, AV.int IntKind.i64 (↑(ByteArray.size s) : Int)),
          (6, AV.int IntKind.i64 (↑i0 : Int)), (7, AV.bool false)]
        []))
    (h1 : (!ByteArray.toList s == ByteArray.toList (ByteArray.mk #[])) = false) :
    vbody Tryd.prog X call lf noFg Tryd.f43 (codeOf Tryd.f43) [AV.str s] [] 0 = some (AV.bool false, []) :=
  along_sound (ans := [(6, Ans.l (Ex.exit 0)
   (stOf 20 [2, 3, 8, 9, 10, 11, 12, 13]
     [(0, AV.str s), (4, AV.str s), (5, AV.int IntKind.i64 (↑(ByteArray.size s) : Int)),
       (6, AV.int IntKind.i64 (↑i0 : Int)), (7, AV.bool false)]
     [])),
 (9, Ans.b false)]) (by kernel_rfl) (And.intro h0 (And.intro h1 trivial))

def bytes (s : ByteArray) : List UInt8 := s.data.toList
def bigB (l : List UInt8) : Bool := l.all fun b => Nat.blt 32 b.toNat
def tokB (s : ByteArray) : Bool := bigB (bytes s) && !(s.toList == (ByteArray.mk #[]).toList) && Lib.validD (bytes s)

theorem wrap_small {n : Nat} (h : n < 9223372036854775807) : IntKind.wrap IntKind.i64 ((n : Int) + 1) = ((n + 1 : Nat) : Int) := by
  rw [IntKind.wrap_i64]
  omega
def tokF (s : ByteArray) (i : Nat) : St := stOf 20 [2, 3, 7, 8, 9, 10, 11, 12, 13]
      [(0, AV.str s), (4, AV.str s), (5, AV.int IntKind.i64 (↑(ByteArray.size s) : Int)),
        (6, AV.int IntKind.i64 (↑i : Int))] []
theorem index_byte {P : Program} {t : TypeId} {s : ByteArray} {i : Nat} (hu : P.underlying t = some .string) (hi : i < s.size) :
    keep [] (indexv P t (AV.str s) (AV.int IntKind.i64 (↑i : Int))) = some (AV.int IntKind.u8 ((s.data[i]'hi).toNat : Int), []) := by
  unfold indexv
  rw [hu]
  have h0 : (0 : Int) ≤ (i : Int) := by omega
  simp only [h0, if_true, Int.toNat_natCast]
  rw [Array.getElem?_eq_getElem hi]
  rfl
theorem tok_round {X : Ext} {call : Caller} {lf : Nat} {s : ByteArray} (hs : s.size ≤ 140737488355328) {i : Nat} (hi : i < s.size) (hb : 32 < (s.data[i]'hi).toNat) :
    ∃ S1, vexec Tryd.prog X call lf 0 noFg (loopN Tryd.f43 0) (tokF s i) = some (.normal, S1) ∧ forget [13, 2, 12, 11, 10, 9, 3, 8, 7] S1 = tokF s (i + 1) := by
  refine ⟨_, tok_r0_tf s ((s.data[i]'hi).toNat : Int) X call lf i (by simpa using hi) (index_byte Tryd.underlying9 hi) (by simp; omega), ?_⟩
  rw [wrap_small (by omega)]
  kernel_rfl
theorem dead43 : (deadC (loopN Tryd.f43 0) ([], [])).2 = [13, 2, 12, 11, 10, 9, 3, 8, 7] := by kernel_rfl
theorem bigB_iff {s : ByteArray} : bigB (bytes s) = true ↔ ∀ i (hi : i < s.size), 32 < (s.data[i]'hi).toNat := by
  unfold bigB bytes
  rw [List.all_eq_true]
  constructor
  · intro h i hi
    have := h (s.data[i]'hi) (by simp)
    simpa using this
  · intro h b hb
    obtain ⟨i, hi, rfl⟩ := List.getElem_of_mem hb
    have := h i (by simpa using hi)
    simpa using this
/-- The first index that fails. -/
theorem first_fail {p : Nat → Prop} [DecidablePred p] : ∀ n, (∀ i, i < n → p i) ∨ ∃ k, k < n ∧ ¬ p k ∧ ∀ i, i < k → p i
  | 0 => .inl fun i h => absurd h (by omega)
  | n + 1 => by
    rcases first_fail (p := p) n with h | ⟨k, h1, h2, h3⟩
    · by_cases hp : p n
      · left
        intro i hi
        rcases Nat.lt_succ_iff_lt_or_eq.1 hi with hi | rfl
        · exact h i hi
        · exact hp
      · exact .inr ⟨n, by omega, hp, h⟩
    · exact .inr ⟨k, by omega, h2, h3⟩
theorem tok_spec (X : Ext) (call : Caller) {s : ByteArray} (hs : s.size ≤ 140737488355328) (hv : callv X call false 47 [AV.str s] [] 0 = some (AV.bool (Lib.validD (bytes s)), [])) :
    ∃ σ', vbody Tryd.prog X call (s.size + 1) noFg Tryd.f43 (codeOf Tryd.f43) [AV.str s] [] 0 = some (.bool (tokB s), σ') := by
  have start : forget [13, 2, 12, 11, 10, 9, 3, 8, 7] (stOf 20 []
      [(0, AV.str s), (2, AV.bool false), (4, AV.str s), (5, AV.int IntKind.i64 (↑(ByteArray.size s) : Int)),
        (6, AV.int IntKind.i64 0)] []) = tokF s 0 := by kernel_rfl
  rcases first_fail (p := fun i => ∀ hi : i < s.size, 32 < (s.data[i]'hi).toNat) s.size with hall | ⟨k, hk, hbad, hbefore⟩
  · have hbig : bigB (bytes s) = true := bigB_iff.2 fun i hi => hall i hi hi
    have hloop := loop_run (P := Tryd.prog) (X := X) (call := call) (lf := s.size + 1) (ro := 0) dead43 (tokF s) s.size (by omega) start (fun i hi => tok_round hs hi (hall i hi hi))
      (tok_r0_f s X call (s.size + 1) s.size (by simp)) (by simp)
    by_cases he : (!ByteArray.toList s == ByteArray.toList (ByteArray.mk #[])) = true
    · cases hvv : Lib.validD (bytes s) with
      | true =>
        rw [hvv] at hv
        refine ⟨[], ?_⟩
        have := tok_plftt s X call (s.size + 1) s.size hloop he hv
        rw [this]
        simp only [tokB, hbig, he, hvv, Bool.and_self]
      | false =>
        rw [hvv] at hv
        refine ⟨[], ?_⟩
        have := tok_plftf s X call (s.size + 1) s.size hloop he hv
        rw [this]
        simp only [tokB, hbig, he, hvv, Bool.and_false]
    · have he' : (!ByteArray.toList s == ByteArray.toList (ByteArray.mk #[])) = false := by simpa using he
      refine ⟨[], ?_⟩
      have := tok_plff s X call (s.size + 1) s.size hloop he'
      rw [this]
      simp only [tokB, hbig, he', Bool.and_false, Bool.false_and]
  · have hb : ¬ 32 < (s.data[k]'hk).toNat := fun h => hbad fun _ => h
    have h32 : ((s.data[k]'hk).toNat : Int) ≤ 32 := by
      have := hb
      clear hbad hbefore
      omega
    have hbig : bigB (bytes s) = false := by
      cases h : bigB (bytes s) with
      | false => rfl
      | true => exact absurd (bigB_iff.1 h k hk) hb
    have hloop := loop_run (P := Tryd.prog) (X := X) (call := call) (lf := s.size + 1) (ro := 0) dead43 (tokF s) k (Nat.lt_succ_of_lt hk) start (fun i hi => tok_round hs (Nat.lt_trans hi hk) (hbefore i hi (Nat.lt_trans hi hk)))
      (tok_r0_tt s ((s.data[k]'hk).toNat : Int) X call (s.size + 1) k (by simpa using hk) (index_byte Tryd.underlying9 hk) (by simpa using h32)) (by simp)
    refine ⟨[], ?_⟩
    have := tok_pltt s ((s.data[k]'hk).toNat : Int) X call (s.size + 1) k hloop
    rw [this]
    simp only [tokB, hbig, Bool.false_and]
end Go.Proofs.Num
end
/- Numeral: slices.Grow of nil and slices.Concat at []string, walked. -/
section
open Go Go.Vm Go.Proofs
namespace Go.Proofs.Num
theorem grow_pt (n : Nat) (z : List AV) (X : Ext) (call : Caller) (lf : Nat)
    (h0 : decide (IntKind.wrap IntKind.i64 ((↑n : Int) - 0) > 0) = true)
    (h1 : appendZv Tryd.prog 22 3 [] (AV.list LK.nil 0 0 [])
    (AV.int IntKind.i64 (IntKind.wrap IntKind.i64 ((↑n : Int) - 0))) =
  some (AV.own 0 n, [Ob.arr n 1 z]))
    (h2 : slc Tryd.prog 22 [Ob.arr n 1 z] false 0 (AV.own 0 n) none (some (AV.int IntKind.i64 0)) none =
  some (AV.own 1 0, [Ob.gone, Ob.arr 0 1 []])) :
    vbody Tryd.prog X call lf noFg Tryd.f52 (codeOf Tryd.f52) [AV.list LK.nil 0 0 [], AV.int IntKind.i64 (↑n : Int)] []
    0 =
  some (AV.list LK.fresh 0 1 [], [Ob.gone, Ob.fro 0 1 []]) :=
  along_sound (ans := [(17, Ans.b true),
 (25, Ans.c (AV.own 0 n) [Ob.arr n 1 z]),
 (28, Ans.c (AV.own 1 0)
   [Ob.gone, Ob.arr 0 1 []])]) (by kernel_rfl) (And.intro h0 (And.intro h1 (And.intro h2 trivial)))
theorem grow_pf (n : Nat) (X : Ext) (call : Caller) (lf : Nat)
    (h0 : decide (IntKind.wrap IntKind.i64 ((↑n : Int) - 0) > 0) = false) :
    vbody Tryd.prog X call lf noFg Tryd.f52 (codeOf Tryd.f52) [AV.list LK.nil 0 0 [], AV.int IntKind.i64 (↑n : Int)] []
    0 =
  some (AV.list LK.nil 0 0 [], []) :=
  along_sound (ans := [(17, Ans.b false)]) (by kernel_rfl) (And.intro h0 trivial)

theorem cat_r0_tf (k : Nat) (ls : List
  AV) (rest : List AV) (tot : Nat → Nat) (m : Nat) (xs : List AV) (X : Ext) (call : Caller) (lf : Nat) (i0 : Nat)
    (h0 : decide ((↑i0 : Int) < (↑k : Int)) = true)
    (h1 : keep [] (indexAddrv Tryd.prog 66 [] (AV.list LK.clip k 1 ls) (AV.int IntKind.i64 (↑i0 : Int))) =
  some (AV.eaddr rest, []))
    (h2 : keep [] (loadv Tryd.prog 22 [] (AV.eaddr rest)) = some (AV.list LK.ro m 1 xs, []))
    (h3 : decide (IntKind.wrap IntKind.i64 ((↑(tot i0) : Int) + (↑m : Int)) < 0) = false) :
    vexec Tryd.prog X call lf 0 noFg (loopN Tryd.f42 0)
    (stOf 36 [5, 12, 13, 14, 15, 16, 17, 18, 19, 20, 21, 22]
      [(0, AV.list LK.clip k 1 ls), (2, AV.list LK.nil 0 0 []), (3, AV.int IntKind.i64 (↑(tot i0) : Int)),
        (9, AV.list LK.clip k 1 ls), (10, AV.int IntKind.i64 (↑k : Int)), (11, AV.int IntKind.i64 (↑i0 : Int))]
      []) =
  some
    (Ex.normal,
      stOf 36 [21]
        [(0, AV.list LK.clip k 1 ls), (2, AV.list LK.nil 0 0 []),
          (3, AV.int IntKind.i64 (IntKind.wrap IntKind.i64 ((↑(tot i0) : Int) + (↑m : Int)))),
          (5, AV.list LK.ro m 1 xs), (9, AV.list LK.clip k 1 ls), (10, AV.int IntKind.i64 (↑k : Int)),
          (11, AV.int IntKind.i64 (IntKind.wrap IntKind.i64 ((↑i0 : Int) + 1))), (12, AV.bool true),
          (13, AV.eaddr rest), (14, AV.list LK.ro m 1 xs), (15, AV.int IntKind.i64 (↑(tot i0) : Int)),
          (16, AV.list LK.ro m 1 xs), (17, AV.int IntKind.i64 (↑m : Int)),
          (18, AV.int IntKind.i64 (IntKind.wrap IntKind.i64 ((↑(tot i0) : Int) + (↑m : Int)))),
          (19, AV.int IntKind.i64 (IntKind.wrap IntKind.i64 ((↑(tot i0) : Int) + (↑m : Int)))), (20, AV.bool false),
          (22, AV.int IntKind.i64 (IntKind.wrap IntKind.i64 ((↑i0 : Int) + 1)))]
        []) :=
  around_sound (ans := [(1, Ans.b true),
 (4, Ans.v (AV.eaddr rest)),
 (5, Ans.v (AV.list LK.ro m 1 xs)),
 (15, Ans.b false)]) (by kernel_rfl) (And.intro h0 (And.intro h1 (And.intro h2 (And.intro h3 trivial))))
/- forgotten: stOf 36 [5, 12, 13, 14, 15, 16, 17, 18, 19, 20, 21, 22]
  [(0, AV.list LK.clip k 1 ls), (2, AV.list LK.nil 0 0 []),
    (3, AV.int IntKind.i64 (IntKind.wrap IntKind.i64 ((↑(tot i0) : Int) + (↑m : Int)))), (9, AV.list LK.clip k 1 ls),
    (10, AV.int IntKind.i64 (↑k : Int)), (11, AV.int IntKind.i64 (IntKind.wrap IntKind.i64 ((↑i0 : Int) + 1)))]
  [] -/
theorem cat_r0_f (k : Nat) (ls : List AV) (tot : Nat → Nat) (X : Ext) (call : Caller) (lf : Nat) (i0 : Nat)
    (h0 : decide ((↑i0 : Int) < (↑k : Int)) = false) :
    vexec Tryd.prog X call lf 0 noFg (loopN Tryd.f42 0)
    (stOf 36 [5, 12, 13, 14, 15, 16, 17, 18, 19, 20, 21, 22]
      [(0, AV.list LK.clip k 1 ls), (2, AV.list LK.nil 0 0 []), (3, AV.int IntKind.i64 (↑(tot i0) : Int)),
        (9, AV.list LK.clip k 1 ls), (10, AV.int IntKind.i64 (↑k : Int)), (11, AV.int IntKind.i64 (↑i0 : Int))]
      []) =
  some
    (Ex.exit 0,
      stOf 36 [5, 13, 14, 15, 16, 17, 18, 19, 20, 21, 22]
        [(0, AV.list LK.clip k 1 ls), (2, AV.list LK.nil 0 0 []), (3, AV.int IntKind.i64 (↑(tot i0) : Int)),
          (9, AV.list LK.clip k 1 ls), (10, AV.int IntKind.i64 (↑k : Int)), (11, AV.int IntKind.i64 (↑i0 : Int)),
          (12, AV.bool false)]
        []) :=
  around_sound (ans := [(1, Ans.b false)]) (by kernel_rfl) (And.intro h0 trivial)
theorem cat_r1_t (k : Nat) (t' : Nat) (ls : List
  AV) (rest : List
  AV) (c' : List
  AV) (tot : Nat →
  Nat) (cells : Nat → List AV) (m : Nat) (xs : List AV) (X : Ext) (call : Caller) (lf : Nat) (i0 : Nat) (i1 : Nat)
    (h0 : decide ((↑i1 : Int) < (↑k : Int)) = true)
    (h1 : keep [Ob.arr (tot i1) 1 (cells i1)]
    (indexAddrv Tryd.prog 66 [Ob.arr (tot i1) 1 (cells i1)] (AV.list LK.clip k 1 ls) (AV.int IntKind.i64 (↑i1 : Int))) =
  some (AV.eaddr rest, [Ob.arr (tot i1) 1 (cells i1)]))
    (h2 : keep [Ob.arr (tot i1) 1 (cells i1)] (loadv Tryd.prog 22 [Ob.arr (tot i1) 1 (cells i1)] (AV.eaddr rest)) =
  some (AV.list LK.ro m 1 xs, [Ob.arr (tot i1) 1 (cells i1)]))
    (h3 : appendv Tryd.prog 22 [Ob.arr (tot i1) 1 (cells i1)] 0 (AV.own 0 (tot i1)) (AV.list LK.ro m 1 xs) =
  some (AV.own 0 t', [Ob.arr t' 1 c'])) :
    vexec Tryd.prog X call lf 0 noFg (loopN Tryd.f42 1)
    (stOf 36 [5, 8, 13, 14, 15, 16, 17, 18, 19, 20, 21, 22, 28, 29, 30, 31, 32, 33, 34]
      [(0, AV.list LK.clip k 1 ls), (2, AV.list LK.nil 0 0 []), (3, AV.int IntKind.i64 (↑(tot i0) : Int)),
        (6, AV.own 0 (tot i1)), (9, AV.list LK.clip k 1 ls), (10, AV.int IntKind.i64 (↑k : Int)),
        (11, AV.int IntKind.i64 (↑i0 : Int)), (12, AV.bool false), (23, AV.int IntKind.i64 (↑(tot i0) : Int)),
        (24, AV.own 0 0), (25, AV.list LK.clip k 1 ls), (26, AV.int IntKind.i64 (↑k : Int)),
        (27, AV.int IntKind.i64 (↑i1 : Int))]
      [Ob.arr (tot i1) 1 (cells i1)]) =
  some
    (Ex.normal,
      stOf 36 [5, 13, 14, 15, 16, 17, 18, 19, 20, 21, 22]
        [(0, AV.list LK.clip k 1 ls), (2, AV.list LK.nil 0 0 []), (3, AV.int IntKind.i64 (↑(tot i0) : Int)),
          (6, AV.own 0 t'), (8, AV.list LK.ro m 1 xs), (9, AV.list LK.clip k 1 ls), (10, AV.int IntKind.i64 (↑k : Int)),
          (11, AV.int IntKind.i64 (↑i0 : Int)), (12, AV.bool false), (23, AV.int IntKind.i64 (↑(tot i0) : Int)),
          (24, AV.own 0 0), (25, AV.list LK.clip k 1 ls), (26, AV.int IntKind.i64 (↑k : Int)),
          (27, AV.int IntKind.i64 (IntKind.wrap IntKind.i64 ((↑i1 : Int) + 1))), (28, AV.bool true),
          (29, AV.eaddr rest), (30, AV.list LK.ro m 1 xs), (31, AV.own 0 (tot i1)), (32, AV.list LK.ro m 1 xs),
          (33, AV.own 0 t'), (34, AV.int IntKind.i64 (IntKind.wrap IntKind.i64 ((↑i1 : Int) + 1)))]
        [Ob.arr t' 1 c']) :=
  around_sound (ans := [(1, Ans.b true),
 (4, Ans.v (AV.eaddr rest)),
 (5, Ans.v (AV.list LK.ro m 1 xs)),
 (10, Ans.c (AV.own 0 t')
   [Ob.arr t' 1 c'])]) (by kernel_rfl) (And.intro h0 (And.intro h1 (And.intro h2 (And.intro h3 trivial))))
/- forgotten: stOf 36 [5, 8, 13, 14, 15, 16, 17, 18, 19, 20, 21, 22, 28, 29, 30, 31, 32, 33, 34]
  [(0, AV.list LK.clip k 1 ls), (2, AV.list LK.nil 0 0 []), (3, AV.int IntKind.i64 (↑(tot i0) : Int)), (6, AV.own 0 t'),
    (9, AV.list LK.clip k 1 ls), (10, AV.int IntKind.i64 (↑k : Int)), (11, AV.int IntKind.i64 (↑i0 : Int)),
    (12, AV.bool false), (23, AV.int IntKind.i64 (↑(tot i0) : Int)), (24, AV.own 0 0), (25, AV.list LK.clip k 1 ls),
    (26, AV.int IntKind.i64 (↑k : Int)), (27, AV.int IntKind.i64 (IntKind.wrap IntKind.i64 ((↑i1 : Int) + 1)))]
  [Ob.arr t' 1 c'] -/
theorem cat_r1_f (k : Nat) (ls : List
  AV) (tot : Nat → Nat) (cells : Nat → List AV) (X : Ext) (call : Caller) (lf : Nat) (i0 : Nat) (i1 : Nat)
    (h0 : decide ((↑i1 : Int) < (↑k : Int)) = false) :
    vexec Tryd.prog X call lf 0 noFg (loopN Tryd.f42 1)
    (stOf 36 [5, 8, 13, 14, 15, 16, 17, 18, 19, 20, 21, 22, 28, 29, 30, 31, 32, 33, 34]
      [(0, AV.list LK.clip k 1 ls), (2, AV.list LK.nil 0 0 []), (3, AV.int IntKind.i64 (↑(tot i0) : Int)),
        (6, AV.own 0 (tot i1)), (9, AV.list LK.clip k 1 ls), (10, AV.int IntKind.i64 (↑k : Int)),
        (11, AV.int IntKind.i64 (↑i0 : Int)), (12, AV.bool false), (23, AV.int IntKind.i64 (↑(tot i0) : Int)),
        (24, AV.own 0 0), (25, AV.list LK.clip k 1 ls), (26, AV.int IntKind.i64 (↑k : Int)),
        (27, AV.int IntKind.i64 (↑i1 : Int))]
      [Ob.arr (tot i1) 1 (cells i1)]) =
  some
    (Ex.exit 2,
      stOf 36 [5, 8, 13, 14, 15, 16, 17, 18, 19, 20, 21, 22, 29, 30, 31, 32, 33, 34]
        [(0, AV.list LK.clip k 1 ls), (2, AV.list LK.nil 0 0 []), (3, AV.int IntKind.i64 (↑(tot i0) : Int)),
          (6, AV.own 0 (tot i1)), (9, AV.list LK.clip k 1 ls), (10, AV.int IntKind.i64 (↑k : Int)),
          (11, AV.int IntKind.i64 (↑i0 : Int)), (12, AV.bool false), (23, AV.int IntKind.i64 (↑(tot i0) : Int)),
          (24, AV.own 0 0), (25, AV.list LK.clip k 1 ls), (26, AV.int IntKind.i64 (↑k : Int)),
          (27, AV.int IntKind.i64 (↑i1 : Int)), (28, AV.bool false)]
        [Ob.arr (tot i1) 1 (cells i1)]) :=
  around_sound (ans := [(1, Ans.b false)]) (by kernel_rfl) (And.intro h0 trivial)
theorem cat_plflf (k : Nat) (t' : Nat) (ls : List
  AV) (c' : List
  AV) (tot : Nat → Nat) (cells : Nat → List AV) (X : Ext) (call : Caller) (lf : Nat) (i0 : Nat) (i1 : Nat)
    (h0 : vexec Tryd.prog X call lf 0 noFg (Code.loop (loopN Tryd.f42 0))
    (stOf 36 []
      [(0, AV.list LK.clip k 1 ls), (2, AV.list LK.nil 0 0 []), (3, AV.int IntKind.i64 0), (9, AV.list LK.clip k 1 ls),
        (10, AV.int IntKind.i64 (↑k : Int)), (11, AV.int IntKind.i64 0)]
      []) =
  some
    (Ex.exit 0,
      stOf 36 [5, 13, 14, 15, 16, 17, 18, 19, 20, 21, 22]
        [(0, AV.list LK.clip k 1 ls), (2, AV.list LK.nil 0 0 []), (3, AV.int IntKind.i64 (↑(tot i0) : Int)),
          (9, AV.list LK.clip k 1 ls), (10, AV.int IntKind.i64 (↑k : Int)), (11, AV.int IntKind.i64 (↑i0 : Int)),
          (12, AV.bool false)]
        []))
    (h1 : callv X call false 52 [AV.list LK.nil 0 0 [], AV.int IntKind.i64 (↑(tot i0) : Int)] [] 0 =
  some (AV.own 0 0, [Ob.arr 0 1 []]))
    (h2 : vexec Tryd.prog X call lf 0 noFg (Code.loop (loopN Tryd.f42 1))
    (stOf 36 [5, 13, 14, 15, 16, 17, 18, 19, 20, 21, 22]
      [(0, AV.list LK.clip k 1 ls), (2, AV.list LK.nil 0 0 []), (3, AV.int IntKind.i64 (↑(tot i0) : Int)),
        (6, AV.own 0 0), (9, AV.list LK.clip k 1 ls), (10, AV.int IntKind.i64 (↑k : Int)),
        (11, AV.int IntKind.i64 (↑i0 : Int)), (12, AV.bool false), (23, AV.int IntKind.i64 (↑(tot i0) : Int)),
        (24, AV.own 0 0), (25, AV.list LK.clip k 1 ls), (26, AV.int IntKind.i64 (↑k : Int)), (27, AV.int IntKind.i64 0)]
      [Ob.arr 0 1 []]) =
  some
    (Ex.exit 2,
      stOf 36 [5, 8, 13, 14, 15, 16, 17, 18, 19, 20, 21, 22, 29, 30, 31, 32, 33, 34]
        [(0, AV.list LK.clip k 1 ls), (2, AV.list LK.nil 0 0 []), (3, AV.int IntKind.i64 (↑(tot i0) : Int)),
          (6, AV.own 0 (tot i1)), (9, AV.list LK.clip k 1 ls), (10, AV.int IntKind.i64 (↑k : Int)),
          (11, AV.int IntKind.i64 (↑i0 : Int)), (12, AV.bool false), (23, AV.int IntKind.i64 (↑(tot i0) : Int)),
          (24, AV.own 0 0), (25, AV.list LK.clip k 1 ls), (26, AV.int IntKind.i64 (↑k : Int)),
          (27, AV.int IntKind.i64 (↑i1 : Int)), (28, AV.bool false)]
        [Ob.arr (tot i1) 1 (cells i1)]))
    (h3 : vend1 [] 0 [Ob.arr (tot i1) 1 (cells i1)] [AV.own 0 (tot i1)] =
  some (AV.list LK.fresh t' 1 c', [Ob.fro t' 1 c'])) :
    vbody Tryd.prog X call lf noFg Tryd.f42 (codeOf Tryd.f42) [AV.list LK.clip k 1 ls] [] 0 =
  some (AV.list LK.fresh t' 1 c', [Ob.fro t' 1 c']) :=
  along_sound (ans := [(8, Ans.l (Ex.exit 0)
   (stOf 36 [5, 13, 14, 15, 16, 17, 18, 19, 20, 21, 22]
     [(0, AV.list LK.clip k 1 ls), (2, AV.list LK.nil 0 0 []), (3, AV.int IntKind.i64 (↑(tot i0) : Int)),
       (9, AV.list LK.clip k 1 ls), (10, AV.int IntKind.i64 (↑k : Int)), (11, AV.int IntKind.i64 (↑i0 : Int)),
       (12, AV.bool false)]
     [])),
 (11, Ans.c (AV.own 0 0) [Ob.arr 0 1 []]),
 (17, Ans.l (Ex.exit 2)
   (stOf 36 [5, 8, 13, 14, 15, 16, 17, 18, 19, 20, 21, 22, 29, 30, 31, 32, 33, 34]
     [(0, AV.list LK.clip k 1 ls), (2, AV.list LK.nil 0 0 []), (3, AV.int IntKind.i64 (↑(tot i0) : Int)),
       (6, AV.own 0 (tot i1)), (9, AV.list LK.clip k 1 ls), (10, AV.int IntKind.i64 (↑k : Int)),
       (11, AV.int IntKind.i64 (↑i0 : Int)), (12, AV.bool false), (23, AV.int IntKind.i64 (↑(tot i0) : Int)),
       (24, AV.own 0 0), (25, AV.list LK.clip k 1 ls), (26, AV.int IntKind.i64 (↑k : Int)),
       (27, AV.int IntKind.i64 (↑i1 : Int)), (28, AV.bool false)]
     [Ob.arr (tot i1) 1 (cells i1)])),
 (21, Ans.c (AV.list LK.fresh t' 1 c')
   [Ob.fro t' 1 c'])]) (by kernel_rfl) (And.intro h0 (And.intro h1 (And.intro h2 (And.intro h3 trivial))))

theorem wrap_id {x : Int} (h0 : -9223372036854775808 ≤ x) (h1 : x ≤ 9223372036854775807) : IntKind.wrap IntKind.i64 x = x := by
  rw [IntKind.wrap_i64]
  omega
theorem cells9 : Tryd.prog.cellsOf 9 = 1 := by kernel_rfl
theorem bytes9 : Tryd.prog.bytesOf 9 = 16 := by kernel_rfl
theorem info9 : (Tryd.prog.info? 9).isSome = true := by kernel_rfl
theorem zero9 : zerov Tryd.prog 9 = some (.str (ByteArray.mk #[])) := by kernel_rfl
theorem cells22 : Tryd.prog.cellsOf 22 = 1 := by kernel_rfl
theorem info22 : (Tryd.prog.info? 22).isSome = true := by kernel_rfl
def zeros (n : Nat) : List AV := replv n [.str (ByteArray.mk #[])]
/-- Grow(nil, n): an empty row with room. -/
theorem grow_spec (X : Ext) (call : Caller) (lf n : Nat) (hn : 0 < n) (hb : n * 17 ≤ 140737488355328) :
    vbody Tryd.prog X call lf noFg Tryd.f52 (codeOf Tryd.f52) [AV.list LK.nil 0 0 [], AV.int IntKind.i64 (n : Int)] [] 0 = some (AV.list LK.fresh 0 1 [], [Ob.gone, Ob.fro 0 1 []]) := by
  have hw : IntKind.wrap IntKind.i64 ((n : Int) - 0) = (n : Int) := by rw [Int.sub_zero]; exact wrap_id (by omega) (by omega)
  refine grow_pt n (zeros n) X call lf (by rw [hw]; simpa using hn) ?_ ?_
  · rw [hw]
    unfold appendZv
    rw [Tryd.underlying22, Tryd.underlying3]
    simp only [bytes9, zero9, cells9]
    rw [if_pos ⟨by omega, by simpa using hb⟩, if_pos (show (AV.str (ByteArray.mk #[])).cells.length = 1 from rfl), if_neg (by omega)]
    simp [zeros, AV.cells]
  · unfold slc cutOwn
    simp only [Bool.false_eq_true, if_false, Tryd.underlying22, List.getElem?_cons_zero]
    rw [if_pos ⟨trivial, trivial, Nat.zero_le _, info9⟩]
    rfl
def lensum : List (List ByteArray) → Nat
  | [] => 0
  | l :: ls => l.length + lensum ls
def joinL : List (List ByteArray) → List ByteArray
  | [] => []
  | l :: ls => l ++ joinL ls
theorem lensum_take : ∀ (ls : List (List ByteArray)) (i : Nat) (l : List ByteArray), ls[i]? = some l → lensum (ls.take (i + 1)) = lensum (ls.take i) + l.length
  | [], i, l, h => by simp at h
  | x :: ls, 0, l, h => by simp at h; subst h; simp [lensum]
  | x :: ls, i + 1, l, h => by
    simp only [List.getElem?_cons_succ] at h
    simp only [List.take_succ_cons, lensum]
    have := lensum_take ls i l h
    omega
theorem joinL_take : ∀ (ls : List (List ByteArray)) (i : Nat) (l : List ByteArray), ls[i]? = some l → joinL (ls.take (i + 1)) = joinL (ls.take i) ++ l
  | [], i, l, h => by simp at h
  | x :: ls, 0, l, h => by simp at h; subst h; simp [joinL]
  | x :: ls, i + 1, l, h => by
    simp only [List.getElem?_cons_succ] at h
    simp only [List.take_succ_cons, joinL, List.append_assoc]
    rw [joinL_take ls i l h]
theorem joinL_length : ∀ (ls : List (List ByteArray)), (joinL ls).length = lensum ls
  | [] => rfl
  | l :: ls => by simp [joinL, lensum, joinL_length ls]
theorem lensum_le (ls : List (List ByteArray)) (i : Nat) : lensum (ls.take i) ≤ lensum ls := by
  have : ∀ (ls : List (List ByteArray)) (i : Nat), lensum (ls.take i) ≤ lensum ls := by
    intro ls
    induction ls with
    | nil => intro i; simp [lensum]
    | cons l ls ih =>
      intro i
      cases i with
      | zero => simp [lensum]
      | succ i => simp only [List.take_succ_cons, lensum]; have := ih i; omega
  exact this ls i
def catF (ls : List (List ByteArray)) (i : Nat) : St :=
    (stOf 36 [5, 12, 13, 14, 15, 16, 17, 18, 19, 20, 21, 22]
      [(0, AV.list LK.clip ls.length 1 (ls.map strs)), (2, AV.list LK.nil 0 0 []), (3, AV.int IntKind.i64 (↑(lensum (ls.take i)) : Int)),
        (9, AV.list LK.clip ls.length 1 (ls.map strs)), (10, AV.int IntKind.i64 (↑ls.length : Int)), (11, AV.int IntKind.i64 (↑i : Int))]
      [])
theorem dead42a : (deadC (loopN Tryd.f42 0) ([], [])).2 = [22, 21, 20, 19, 18, 17, 16, 15, 5, 14, 13, 12] := by kernel_rfl
theorem dead42b : (deadC (loopN Tryd.f42 1) ([], [])).2 = [34, 33, 32, 31, 8, 30, 29, 28] := by kernel_rfl
theorem wrap_add {a b : Nat} (h : a + b ≤ 9223372036854775807) : IntKind.wrap IntKind.i64 ((a : Int) + (b : Int)) = ((a + b : Nat) : Int) := by
  rw [wrap_id (by omega) (by omega)]
  omega
theorem cat_round {X : Ext} {call : Caller} {lf : Nat} {ls : List (List ByteArray)} (hb : lensum ls * 17 ≤ 140737488355328) (hk : ls.length ≤ 140737488355328) {i : Nat} (hi : i < ls.length) :
    ∃ S1, vexec Tryd.prog X call lf 0 noFg (loopN Tryd.f42 0) (catF ls i) = some (.normal, S1) ∧ forget [22, 21, 20, 19, 18, 17, 16, 15, 5, 14, 13, 12] S1 = catF ls (i + 1) := by
  have hl : ls[i]? = some ls[i] := List.getElem?_eq_getElem hi
  have hs := lensum_take ls i _ hl
  have hle := lensum_le ls (i + 1)
  refine ⟨_, cat_r0_tf ls.length (ls.map strs) ((ls.map strs).drop i) (fun i => lensum (ls.take i)) ls[i].length (ls[i].map .str) X call lf i (by simpa using hi) (at_list Tryd.underlying66 cells22 info22 hi)
    (load_list Tryd.underlying22 rfl (by simp [strs, hi])) ?_, ?_⟩
  · rw [wrap_add (by omega)]
    simp
    omega
  · rw [wrap_add (by omega), wrap_small (by omega), ← hs]
    kernel_rfl
def catG (ls : List (List ByteArray)) (i : Nat) : St :=
    (stOf 36 [5, 8, 13, 14, 15, 16, 17, 18, 19, 20, 21, 22, 28, 29, 30, 31, 32, 33, 34]
      [(0, AV.list LK.clip ls.length 1 (ls.map strs)), (2, AV.list LK.nil 0 0 []), (3, AV.int IntKind.i64 (↑(lensum (ls.take ls.length)) : Int)),
        (6, AV.own 0 (lensum (ls.take i))), (9, AV.list LK.clip ls.length 1 (ls.map strs)), (10, AV.int IntKind.i64 (↑ls.length : Int)),
        (11, AV.int IntKind.i64 (↑ls.length : Int)), (12, AV.bool false), (23, AV.int IntKind.i64 (↑(lensum (ls.take ls.length)) : Int)),
        (24, AV.own 0 0), (25, AV.list LK.clip ls.length 1 (ls.map strs)), (26, AV.int IntKind.i64 (↑ls.length : Int)),
        (27, AV.int IntKind.i64 (↑i : Int))]
      [Ob.arr (lensum (ls.take i)) 1 ((joinL (ls.take i)).map .str)])
theorem cat_round2 {X : Ext} {call : Caller} {lf : Nat} {ls : List (List ByteArray)} (hb : lensum ls * 17 ≤ 140737488355328) (hk : ls.length ≤ 140737488355328) {i : Nat} (hi : i < ls.length) :
    ∃ S1, vexec Tryd.prog X call lf 0 noFg (loopN Tryd.f42 1) (catG ls i) = some (.normal, S1) ∧ forget [34, 33, 32, 31, 8, 30, 29, 28] S1 = catG ls (i + 1) := by
  have hl : ls[i]? = some ls[i] := List.getElem?_eq_getElem hi
  have hs := lensum_take ls i _ hl
  have hj := joinL_take ls i _ hl
  have hle := lensum_le ls (i + 1)
  refine ⟨_, cat_r1_t ls.length (lensum (ls.take (i + 1))) (ls.map strs) ((ls.map strs).drop i) ((joinL (ls.take (i + 1))).map .str) (fun i => lensum (ls.take i)) (fun i => (joinL (ls.take i)).map .str) ls[i].length (ls[i].map .str) X call lf ls.length i (by simpa using hi) (at_list Tryd.underlying66 cells22 info22 hi)
    (load_list Tryd.underlying22 rfl (by simp [strs, hi])) ?_, ?_⟩
  · by_cases h0 : ls[i].length = 0
    · have he : ls[i] = [] := List.eq_nil_of_length_eq_zero h0
      have := grow_none (P := Tryd.prog) (ro := 0) (id := 0) (n := lensum (ls.take i)) (σ := [Ob.arr (lensum (ls.take i)) 1 ((joinL (ls.take i)).map .str)]) (cs := (joinL (ls.take i)).map .str) (ys := []) (x := AV.list LK.ro ls[i].length 1 (ls[i].map .str)) Tryd.underlying22 zero9 (by rw [cells9]; rfl) (by rw [cells9]; rfl) (Nat.le_refl _)
        (by rw [cells9, appended_list, h0]; simp) rfl (by rw [bytes9]; omega)
      rw [this, hs, hj, he]
      simp
    · have := grow_own (P := Tryd.prog) (ro := 0) (id := 0) (n := lensum (ls.take i)) (σ := [Ob.arr (lensum (ls.take i)) 1 ((joinL (ls.take i)).map .str)]) (cs := (joinL (ls.take i)).map .str) (ys := ls[i].map .str) (m := ls[i].length) (x := AV.list LK.ro ls[i].length 1 (ls[i].map .str)) Tryd.underlying22 zero9 (by rw [cells9]; rfl) (by rw [cells9]; rfl) (Nat.le_refl _)
        (by rw [cells9, appended_list]; simp [h0]) (owns_strs _) h0 (by rw [bytes9]; omega)
      rw [this, hs, hj, cells9]
      simp [setOb]
  · rw [wrap_small (by omega)]
    kernel_rfl
theorem cat_spec (X : Ext) (call : Caller) (ls : List (List ByteArray)) (hb : lensum ls * 17 ≤ 140737488355328) (hk : ls.length ≤ 140737488355328)
    (hc : callv X call false 52 [AV.list LK.nil 0 0 [], AV.int IntKind.i64 (↑(lensum ls) : Int)] [] 0 = some (AV.own 0 0, [Ob.arr 0 1 []])) :
    vbody Tryd.prog X call (ls.length + 1) noFg Tryd.f42 (codeOf Tryd.f42) [AV.list LK.clip ls.length 1 (ls.map strs)] [] 0 =
      some (AV.list LK.fresh (joinL ls).length 1 ((joinL ls).map .str), [Ob.fro (joinL ls).length 1 ((joinL ls).map .str)]) := by
  have hall : ls.take ls.length = ls := List.take_length
  have h1 := loop_run (P := Tryd.prog) (X := X) (call := call) (lf := ls.length + 1) (ro := 0) dead42a (catF ls) ls.length (Nat.lt_succ_self _) (S := stOf 36 []
      [(0, AV.list LK.clip ls.length 1 (ls.map strs)), (2, AV.list LK.nil 0 0 []), (3, AV.int IntKind.i64 0), (9, AV.list LK.clip ls.length 1 (ls.map strs)),
        (10, AV.int IntKind.i64 (↑ls.length : Int)), (11, AV.int IntKind.i64 0)] []) (by kernel_rfl) (fun i hi => cat_round hb hk hi)
    (cat_r0_f ls.length (ls.map strs) (fun i => lensum (ls.take i)) X call (ls.length + 1) ls.length (by simp)) (by simp)
  have h2 := loop_run (P := Tryd.prog) (X := X) (call := call) (lf := ls.length + 1) (ro := 0) dead42b (catG ls) ls.length (Nat.lt_succ_self _) (S := (stOf 36 [5, 13, 14, 15, 16, 17, 18, 19, 20, 21, 22]
      [(0, AV.list LK.clip ls.length 1 (ls.map strs)), (2, AV.list LK.nil 0 0 []), (3, AV.int IntKind.i64 (↑(lensum (ls.take ls.length)) : Int)),
        (6, AV.own 0 0), (9, AV.list LK.clip ls.length 1 (ls.map strs)), (10, AV.int IntKind.i64 (↑ls.length : Int)), (11, AV.int IntKind.i64 (↑ls.length : Int)),
        (12, AV.bool false), (23, AV.int IntKind.i64 (↑(lensum (ls.take ls.length)) : Int)), (24, AV.own 0 0), (25, AV.list LK.clip ls.length 1 (ls.map strs)),
        (26, AV.int IntKind.i64 (↑ls.length : Int)), (27, AV.int IntKind.i64 0)]
      [Ob.arr 0 1 []])) (by kernel_rfl) (fun i hi => cat_round2 hb hk hi)
    (cat_r1_f ls.length (ls.map strs) (fun i => lensum (ls.take i)) (fun i => (joinL (ls.take i)).map .str) X call (ls.length + 1) ls.length ls.length (by simp)) (by simp)
  refine cat_plflf ls.length (joinL ls).length (ls.map strs) ((joinL ls).map .str) (fun i => lensum (ls.take i)) (fun i => (joinL (ls.take i)).map .str) X call (ls.length + 1) ls.length ls.length h1 ?_ h2 ?_
  · simp only [hall]; exact hc
  · simp only [hall]
    rw [← joinL_length]
    exact end_row
end Go.Proofs.Num
end
/- Numeral: the paths of Valid, and what it answers. -/
section
open Go Go.Vm Go.Proofs
namespace Go.Proofs.Num
def fg22 : Nat → List Nat
  | 1 => [5, 6, 7, 8, 9, 10, 11, 12, 13, 14, 15, 16, 17, 18, 19, 20, 21, 22, 23, 24, 25]
  | 3 => [27, 28, 29, 30, 31]
  | 9 => [42, 43, 44, 45, 46, 47, 48, 49, 50, 51, 52, 53, 54, 55, 56, 57, 58, 59, 60]
  | 11 => [62, 63, 64, 65, 66, 67, 68, 69, 70, 71, 72, 73, 74, 75, 76, 77, 78, 79, 80, 81, 82]
  | _ => []
theorem valid_g1_tt (s : NSys) (X : Ext) (call : Caller) (lf : Nat)
  (h0 : (NSys.base s != 10) = true)
  (h1 : (NSys.base s != 20) = true) : vexec Tryd.prog X call lf 0 fg22 (regN Tryd.f22 1) (stOf 83 [] [(0, AV.agg (sysC s)), (1, AV.ref 0 0), (2, bo false)] [Ob.cells (sysC s)]) = some (Ex.normal, stOf 83 [5, 6, 7, 8, 9, 10, 11, 12, 13, 14, 15, 16, 17, 18, 19, 20, 21, 22, 23, 24, 25] [(0, AV.agg (sysC s)), (1, AV.ref 0 0), (2, bo false), (26, bo true)] [Ob.cells (sysC s)]) :=
  around_sound (ans := [(3, Ans.b true), (10, Ans.b true)]) (by kernel_rfl) (And.intro h0 (And.intro h1 trivial))
theorem valid_g1_tft (s : NSys) (X : Ext) (call : Caller) (lf : Nat)
  (h0 : (NSys.base s != 10) = true)
  (h1 : (NSys.base s != 20) = false)
  (h2 : ((↑(List.length (NSys.digits s)) : Int) != NSys.base s) = true) : vexec Tryd.prog X call lf 0 fg22 (regN Tryd.f22 1) (stOf 83 [] [(0, AV.agg (sysC s)), (1, AV.ref 0 0), (2, bo false)] [Ob.cells (sysC s)]) = some (Ex.normal, stOf 83 [5, 6, 7, 8, 9, 10, 11, 12, 13, 14, 15, 16, 17, 18, 19, 20, 21, 22, 23, 24, 25] [(0, AV.agg (sysC s)), (1, AV.ref 0 0), (2, bo false), (26, bo true)] [Ob.cells (sysC s)]) :=
  around_sound (ans := [(3, Ans.b true), (10, Ans.b false), (24, Ans.b true)]) (by kernel_rfl) (And.intro h0 (And.intro h1 (And.intro h2 trivial)))
theorem valid_g1_tfft (s : NSys) (X : Ext) (call : Caller) (lf : Nat)
  (h0 : (NSys.base s != 10) = true)
  (h1 : (NSys.base s != 20) = false)
  (h2 : ((↑(List.length (NSys.digits s)) : Int) != NSys.base s) = false)
  (h3 : ((↑(List.length (NSys.powers s)) : Int) != 3) = true) : vexec Tryd.prog X call lf 0 fg22 (regN Tryd.f22 1) (stOf 83 [] [(0, AV.agg (sysC s)), (1, AV.ref 0 0), (2, bo false)] [Ob.cells (sysC s)]) = some (Ex.normal, stOf 83 [5, 6, 7, 8, 9, 10, 11, 12, 13, 14, 15, 16, 17, 18, 19, 20, 21, 22, 23, 24, 25] [(0, AV.agg (sysC s)), (1, AV.ref 0 0), (2, bo false), (26, bo true)] [Ob.cells (sysC s)]) :=
  around_sound (ans := [(3, Ans.b true), (10, Ans.b false), (24, Ans.b false), (34, Ans.b true)]) (by kernel_rfl) (And.intro h0 (And.intro h1 (And.intro h2 (And.intro h3 trivial))))
theorem valid_g1_tfff (s : NSys) (X : Ext) (call : Caller) (lf : Nat)
  (h0 : (NSys.base s != 10) = true)
  (h1 : (NSys.base s != 20) = false)
  (h2 : ((↑(List.length (NSys.digits s)) : Int) != NSys.base s) = false)
  (h3 : ((↑(List.length (NSys.powers s)) : Int) != 3) = false) : vexec Tryd.prog X call lf 0 fg22 (regN Tryd.f22 1) (stOf 83 [] [(0, AV.agg (sysC s)), (1, AV.ref 0 0), (2, bo false)] [Ob.cells (sysC s)]) = some (Ex.normal, stOf 83 [5, 6, 7, 8, 9, 10, 11, 12, 13, 14, 15, 16, 17, 18, 19, 20, 21, 22, 23, 24, 25] [(0, AV.agg (sysC s)), (1, AV.ref 0 0), (2, bo false), (26, bo false)] [Ob.cells (sysC s)]) :=
  around_sound (ans := [(3, Ans.b true), (10, Ans.b false), (24, Ans.b false), (34, Ans.b false)]) (by kernel_rfl) (And.intro h0 (And.intro h1 (And.intro h2 (And.intro h3 trivial))))
theorem valid_g1_ft (s : NSys) (X : Ext) (call : Caller) (lf : Nat)
  (h0 : (NSys.base s != 10) = false)
  (h1 : ((↑(List.length (NSys.digits s)) : Int) != NSys.base s) = true) : vexec Tryd.prog X call lf 0 fg22 (regN Tryd.f22 1) (stOf 83 [] [(0, AV.agg (sysC s)), (1, AV.ref 0 0), (2, bo false)] [Ob.cells (sysC s)]) = some (Ex.normal, stOf 83 [5, 6, 7, 8, 9, 10, 11, 12, 13, 14, 15, 16, 17, 18, 19, 20, 21, 22, 23, 24, 25] [(0, AV.agg (sysC s)), (1, AV.ref 0 0), (2, bo false), (26, bo true)] [Ob.cells (sysC s)]) :=
  around_sound (ans := [(3, Ans.b false), (21, Ans.b true)]) (by kernel_rfl) (And.intro h0 (And.intro h1 trivial))
theorem valid_g1_fft (s : NSys) (X : Ext) (call : Caller) (lf : Nat)
  (h0 : (NSys.base s != 10) = false)
  (h1 : ((↑(List.length (NSys.digits s)) : Int) != NSys.base s) = false)
  (h2 : ((↑(List.length (NSys.powers s)) : Int) != 3) = true) : vexec Tryd.prog X call lf 0 fg22 (regN Tryd.f22 1) (stOf 83 [] [(0, AV.agg (sysC s)), (1, AV.ref 0 0), (2, bo false)] [Ob.cells (sysC s)]) = some (Ex.normal, stOf 83 [5, 6, 7, 8, 9, 10, 11, 12, 13, 14, 15, 16, 17, 18, 19, 20, 21, 22, 23, 24, 25] [(0, AV.agg (sysC s)), (1, AV.ref 0 0), (2, bo false), (26, bo true)] [Ob.cells (sysC s)]) :=
  around_sound (ans := [(3, Ans.b false), (21, Ans.b false), (31, Ans.b true)]) (by kernel_rfl) (And.intro h0 (And.intro h1 (And.intro h2 trivial)))
theorem valid_g1_fff (s : NSys) (X : Ext) (call : Caller) (lf : Nat)
  (h0 : (NSys.base s != 10) = false)
  (h1 : ((↑(List.length (NSys.digits s)) : Int) != NSys.base s) = false)
  (h2 : ((↑(List.length (NSys.powers s)) : Int) != 3) = false) : vexec Tryd.prog X call lf 0 fg22 (regN Tryd.f22 1) (stOf 83 [] [(0, AV.agg (sysC s)), (1, AV.ref 0 0), (2, bo false)] [Ob.cells (sysC s)]) = some (Ex.normal, stOf 83 [5, 6, 7, 8, 9, 10, 11, 12, 13, 14, 15, 16, 17, 18, 19, 20, 21, 22, 23, 24, 25] [(0, AV.agg (sysC s)), (1, AV.ref 0 0), (2, bo false), (26, bo false)] [Ob.cells (sysC s)]) :=
  around_sound (ans := [(3, Ans.b false), (21, Ans.b false), (31, Ans.b false)]) (by kernel_rfl) (And.intro h0 (And.intro h1 (And.intro h2 trivial)))
theorem valid_pt (s : NSys) (b1 : Bool) (X : Ext) (call : Caller) (lf : Nat)
  (h0 : vexec Tryd.prog X call lf 0 fg22 (regN Tryd.f22 1) (stOf 83 [] [(0, AV.agg (sysC s)), (1, AV.ref 0 0), (2, bo false)] [Ob.cells (sysC s)]) = some (Ex.normal, stOf 83 [5, 6, 7, 8, 9, 10, 11, 12, 13, 14, 15, 16, 17, 18, 19, 20, 21, 22, 23, 24, 25] [(0, AV.agg (sysC s)), (1, AV.ref 0 0), (2, bo false), (26, bo b1)] [Ob.cells (sysC s)]))
  (h1 : b1 = true) : vbody Tryd.prog X call lf fg22 Tryd.f22 (codeOf Tryd.f22) [AV.agg (sysC s)] [] 0 = some (bo false, [Ob.cells (sysC s)]) :=
  along_sound (ans := [(3, Ans.l Ex.normal (stOf 83 [5, 6, 7, 8, 9, 10, 11, 12, 13, 14, 15, 16, 17, 18, 19, 20, 21, 22, 23, 24, 25] [(0, AV.agg (sysC s)), (1, AV.ref 0 0), (2, bo false), (26, bo b1)] [Ob.cells (sysC s)])), (4, Ans.b true)]) (by kernel_rfl) (And.intro h0 (And.intro h1 trivial))
theorem valid_r0_tt (s : NSys) (m : Nat) (cs : List AV) (rest : List AV) (b1 : Bool) (w : ByteArray) (X : Ext) (call : Caller) (lf : Nat) (i0 : Nat)
  (h0 : decide ((↑i0 : Int) < (↑m : Int)) = true)
  (h1 : keep [Ob.cells (sysC s)] (indexAddrv Tryd.prog 22 [Ob.cells (sysC s)] (lro m 1 cs) (i6 (↑i0 : Int))) = some (AV.eaddr rest, [Ob.cells (sysC s)]))
  (h2 : keep [Ob.cells (sysC s)] (loadv Tryd.prog 9 [Ob.cells (sysC s)] (AV.eaddr rest)) = some (st w, [Ob.cells (sysC s)]))
  (h3 : callv X call false 43 [st w] [Ob.cells (sysC s)] 0 = some (bo true, [Ob.cells (sysC s)])) : vexec Tryd.prog X call lf 0 fg22 (loopN Tryd.f22 0) (stOf 83 [2, 4, 5, 6, 7, 8, 9, 10, 11, 12, 13, 14, 15, 16, 17, 18, 19, 20, 21, 22, 23, 24, 25, 27, 28, 29, 30, 31, 35, 36, 37, 38, 39, 40, 41] [(0, AV.agg (sysC s)), (1, AV.ref 0 0), (26, bo b1), (32, lro m 1 cs), (33, i6 (↑m : Int)), (34, i6 (↑i0 : Int))] [Ob.cells (sysC s)]) = some (Ex.normal, stOf 83 [2, 5, 6, 7, 8, 9, 10, 11, 12, 13, 14, 15, 16, 17, 18, 19, 20, 21, 22, 23, 24, 25, 27, 28, 29, 30, 31] [(0, AV.agg (sysC s)), (1, AV.ref 0 0), (4, st w), (26, bo b1), (32, lro m 1 cs), (33, i6 (↑m : Int)), (34, i6 (w6 ((↑i0 : Int) + 1))), (35, bo true), (36, AV.eaddr rest), (37, st w), (38, st w), (39, bo true), (40, bo false), (41, i6 (w6 ((↑i0 : Int) + 1)))] [Ob.cells (sysC s)]) :=
  around_sound (ans := [(1, Ans.b true), (4, Ans.v (AV.eaddr rest)), (5, Ans.v (st w)), (9, Ans.v (bo true))]) (by kernel_rfl) (And.intro h0 (And.intro h1 (And.intro h2 (And.intro h3 trivial))))
theorem valid_r0_tf (s : NSys) (m : Nat) (cs : List AV) (rest : List AV) (b1 : Bool) (w : ByteArray) (X : Ext) (call : Caller) (lf : Nat) (i0 : Nat)
  (h0 : decide ((↑i0 : Int) < (↑m : Int)) = true)
  (h1 : keep [Ob.cells (sysC s)] (indexAddrv Tryd.prog 22 [Ob.cells (sysC s)] (lro m 1 cs) (i6 (↑i0 : Int))) = some (AV.eaddr rest, [Ob.cells (sysC s)]))
  (h2 : keep [Ob.cells (sysC s)] (loadv Tryd.prog 9 [Ob.cells (sysC s)] (AV.eaddr rest)) = some (st w, [Ob.cells (sysC s)]))
  (h3 : callv X call false 43 [st w] [Ob.cells (sysC s)] 0 = some (bo false, [Ob.cells (sysC s)])) : vexec Tryd.prog X call lf 0 fg22 (loopN Tryd.f22 0) (stOf 83 [2, 4, 5, 6, 7, 8, 9, 10, 11, 12, 13, 14, 15, 16, 17, 18, 19, 20, 21, 22, 23, 24, 25, 27, 28, 29, 30, 31, 35, 36, 37, 38, 39, 40, 41] [(0, AV.agg (sysC s)), (1, AV.ref 0 0), (26, bo b1), (32, lro m 1 cs), (33, i6 (↑m : Int)), (34, i6 (↑i0 : Int))] [Ob.cells (sysC s)]) = some (Ex.ret, stOf 83 [5, 6, 7, 8, 9, 10, 11, 12, 13, 14, 15, 16, 17, 18, 19, 20, 21, 22, 23, 24, 25, 27, 28, 29, 30, 31, 41] [(0, AV.agg (sysC s)), (1, AV.ref 0 0), (2, bo false), (4, st w), (26, bo b1), (32, lro m 1 cs), (33, i6 (↑m : Int)), (34, i6 (↑i0 : Int)), (35, bo true), (36, AV.eaddr rest), (37, st w), (38, st w), (39, bo false), (40, bo true)] [Ob.cells (sysC s)]) :=
  around_sound (ans := [(1, Ans.b true), (4, Ans.v (AV.eaddr rest)), (5, Ans.v (st w)), (9, Ans.v (bo false))]) (by kernel_rfl) (And.intro h0 (And.intro h1 (And.intro h2 (And.intro h3 trivial))))
theorem valid_pfltf (s : NSys) (m : Nat) (cs : List AV) (rest : List AV) (b1 : Bool) (w : ByteArray) (X : Ext) (call : Caller) (lf : Nat) (i0 : Nat)
  (h0 : vexec Tryd.prog X call lf 0 fg22 (regN Tryd.f22 1) (stOf 83 [] [(0, AV.agg (sysC s)), (1, AV.ref 0 0), (2, bo false)] [Ob.cells (sysC s)]) = some (Ex.normal, stOf 83 [5, 6, 7, 8, 9, 10, 11, 12, 13, 14, 15, 16, 17, 18, 19, 20, 21, 22, 23, 24, 25] [(0, AV.agg (sysC s)), (1, AV.ref 0 0), (2, bo false), (26, bo b1)] [Ob.cells (sysC s)]))
  (h1 : b1 = false)
  (h2 : bsl Tryd.prog 66 2 [Ob.cells (sysC s)] false 0 [(0, lro (List.length (NSys.digits s)) 1 (List.map st (NSys.digits s))), (1, lro (List.length (NSys.powers s)) 1 (List.map st (NSys.powers s)))] = some (AV.list LK.clip 2 1 [lro (List.length (NSys.digits s)) 1 (List.map st (NSys.digits s)), lro (List.length (NSys.powers s)) 1 (List.map st (NSys.powers s))], [Ob.cells (sysC s)]))
  (h3 : callv X call false 42 [AV.list LK.clip 2 1 [lro (List.length (NSys.digits s)) 1 (List.map st (NSys.digits s)), lro (List.length (NSys.powers s)) 1 (List.map st (NSys.powers s))]] [Ob.cells (sysC s)] 0 = some (lro m 1 cs, [Ob.cells (sysC s)]))
  (h4 : vexec Tryd.prog X call lf 0 fg22 (Code.loop (loopN Tryd.f22 0)) (stOf 83 [5, 6, 7, 8, 9, 10, 11, 12, 13, 14, 15, 16, 17, 18, 19, 20, 21, 22, 23, 24, 25, 27, 28, 29, 30, 31] [(0, AV.agg (sysC s)), (1, AV.ref 0 0), (2, bo false), (26, bo b1), (32, lro m 1 cs), (33, i6 (↑m : Int)), (34, i6 0)] [Ob.cells (sysC s)]) = some (Ex.ret, stOf 83 [5, 6, 7, 8, 9, 10, 11, 12, 13, 14, 15, 16, 17, 18, 19, 20, 21, 22, 23, 24, 25, 27, 28, 29, 30, 31, 41] [(0, AV.agg (sysC s)), (1, AV.ref 0 0), (2, bo false), (4, st w), (26, bo b1), (32, lro m 1 cs), (33, i6 (↑m : Int)), (34, i6 (↑i0 : Int)), (35, bo true), (36, AV.eaddr rest), (37, st w), (38, st w), (39, bo false), (40, bo true)] [Ob.cells (sysC s)])) : vbody Tryd.prog X call lf fg22 Tryd.f22 (codeOf Tryd.f22) [AV.agg (sysC s)] [] 0 = some (bo false, [Ob.cells (sysC s)]) :=
  along_sound (ans := [(3, Ans.l Ex.normal (stOf 83 [5, 6, 7, 8, 9, 10, 11, 12, 13, 14, 15, 16, 17, 18, 19, 20, 21, 22, 23, 24, 25] [(0, AV.agg (sysC s)), (1, AV.ref 0 0), (2, bo false), (26, bo b1)] [Ob.cells (sysC s)])), (4, Ans.b false), (10, Ans.v (AV.list LK.clip 2 1 [lro (List.length (NSys.digits s)) 1 (List.map st (NSys.digits s)), lro (List.length (NSys.powers s)) 1 (List.map st (NSys.powers s))])), (11, Ans.v (lro m 1 cs)), (14, Ans.l Ex.ret (stOf 83 [5, 6, 7, 8, 9, 10, 11, 12, 13, 14, 15, 16, 17, 18, 19, 20, 21, 22, 23, 24, 25, 27, 28, 29, 30, 31, 41] [(0, AV.agg (sysC s)), (1, AV.ref 0 0), (2, bo false), (4, st w), (26, bo b1), (32, lro m 1 cs), (33, i6 (↑m : Int)), (34, i6 (↑i0 : Int)), (35, bo true), (36, AV.eaddr rest), (37, st w), (38, st w), (39, bo false), (40, bo true)] [Ob.cells (sysC s)]))]) (by kernel_rfl) (And.intro h0 (And.intro h1 (And.intro h2 (And.intro h3 (And.intro h4 trivial)))))
theorem valid_r0_f (s : NSys) (m : Nat) (cs : List AV) (b1 : Bool) (X : Ext) (call : Caller) (lf : Nat) (i0 : Nat)
  (h0 : decide ((↑i0 : Int) < (↑m : Int)) = false) : vexec Tryd.prog X call lf 0 fg22 (loopN Tryd.f22 0) (stOf 83 [2, 4, 5, 6, 7, 8, 9, 10, 11, 12, 13, 14, 15, 16, 17, 18, 19, 20, 21, 22, 23, 24, 25, 27, 28, 29, 30, 31, 35, 36, 37, 38, 39, 40, 41] [(0, AV.agg (sysC s)), (1, AV.ref 0 0), (26, bo b1), (32, lro m 1 cs), (33, i6 (↑m : Int)), (34, i6 (↑i0 : Int))] [Ob.cells (sysC s)]) = some (Ex.exit 0, stOf 83 [2, 4, 5, 6, 7, 8, 9, 10, 11, 12, 13, 14, 15, 16, 17, 18, 19, 20, 21, 22, 23, 24, 25, 27, 28, 29, 30, 31, 36, 37, 38, 39, 40, 41] [(0, AV.agg (sysC s)), (1, AV.ref 0 0), (26, bo b1), (32, lro m 1 cs), (33, i6 (↑m : Int)), (34, i6 (↑i0 : Int)), (35, bo false)] [Ob.cells (sysC s)]) :=
  around_sound (ans := [(1, Ans.b false)]) (by kernel_rfl) (And.intro h0 trivial)
theorem valid_g9_tttt (s : NSys) (m : Nat) (cs : List AV) (b1 : Bool) (X : Ext) (call : Caller) (lf : Nat) (i0 : Nat)
  (h0 : (!empB (NSys.jo s)) = true)
  (h1 : callv X call false 43 [st (NSys.jo s)] [Ob.cells (sysC s)] 0 = some (bo true, [Ob.cells (sysC s)]))
  (h2 : (!empB (NSys.le s)) = true)
  (h3 : callv X call false 43 [st (NSys.le s)] [Ob.cells (sysC s)] 0 = some (bo true, [Ob.cells (sysC s)])) : vexec Tryd.prog X call lf 0 fg22 (regN Tryd.f22 9) (stOf 83 [2, 4, 5, 6, 7, 8, 9, 10, 11, 12, 13, 14, 15, 16, 17, 18, 19, 20, 21, 22, 23, 24, 25, 27, 28, 29, 30, 31, 36, 37, 38, 39, 40, 41] [(0, AV.agg (sysC s)), (1, AV.ref 0 0), (26, bo b1), (32, lro m 1 cs), (33, i6 (↑m : Int)), (34, i6 (↑i0 : Int)), (35, bo false)] [Ob.cells (sysC s)]) = some (Ex.normal, stOf 83 [2, 4, 5, 6, 7, 8, 9, 10, 11, 12, 13, 14, 15, 16, 17, 18, 19, 20, 21, 22, 23, 24, 25, 27, 28, 29, 30, 31, 36, 37, 38, 39, 40, 41, 42, 43, 44, 45, 46, 47, 48, 49, 50, 51, 52, 53, 54, 55, 56, 57, 58, 59, 60] [(0, AV.agg (sysC s)), (1, AV.ref 0 0), (26, bo b1), (32, lro m 1 cs), (33, i6 (↑m : Int)), (34, i6 (↑i0 : Int)), (35, bo false), (61, bo false)] [Ob.cells (sysC s)]) :=
  around_sound (ans := [(3, Ans.b true), (10, Ans.v (bo true)), (20, Ans.b true), (28, Ans.v (bo true))]) (by kernel_rfl) (And.intro h0 (And.intro h1 (And.intro h2 (And.intro h3 trivial))))
theorem valid_g9_tttf (s : NSys) (m : Nat) (cs : List AV) (b1 : Bool) (X : Ext) (call : Caller) (lf : Nat) (i0 : Nat)
  (h0 : (!empB (NSys.jo s)) = true)
  (h1 : callv X call false 43 [st (NSys.jo s)] [Ob.cells (sysC s)] 0 = some (bo true, [Ob.cells (sysC s)]))
  (h2 : (!empB (NSys.le s)) = true)
  (h3 : callv X call false 43 [st (NSys.le s)] [Ob.cells (sysC s)] 0 = some (bo false, [Ob.cells (sysC s)])) : vexec Tryd.prog X call lf 0 fg22 (regN Tryd.f22 9) (stOf 83 [2, 4, 5, 6, 7, 8, 9, 10, 11, 12, 13, 14, 15, 16, 17, 18, 19, 20, 21, 22, 23, 24, 25, 27, 28, 29, 30, 31, 36, 37, 38, 39, 40, 41] [(0, AV.agg (sysC s)), (1, AV.ref 0 0), (26, bo b1), (32, lro m 1 cs), (33, i6 (↑m : Int)), (34, i6 (↑i0 : Int)), (35, bo false)] [Ob.cells (sysC s)]) = some (Ex.normal, stOf 83 [2, 4, 5, 6, 7, 8, 9, 10, 11, 12, 13, 14, 15, 16, 17, 18, 19, 20, 21, 22, 23, 24, 25, 27, 28, 29, 30, 31, 36, 37, 38, 39, 40, 41, 42, 43, 44, 45, 46, 47, 48, 49, 50, 51, 52, 53, 54, 55, 56, 57, 58, 59, 60] [(0, AV.agg (sysC s)), (1, AV.ref 0 0), (26, bo b1), (32, lro m 1 cs), (33, i6 (↑m : Int)), (34, i6 (↑i0 : Int)), (35, bo false), (61, bo true)] [Ob.cells (sysC s)]) :=
  around_sound (ans := [(3, Ans.b true), (10, Ans.v (bo true)), (20, Ans.b true), (28, Ans.v (bo false))]) (by kernel_rfl) (And.intro h0 (And.intro h1 (And.intro h2 (And.intro h3 trivial))))
theorem valid_g9_ttf (s : NSys) (m : Nat) (cs : List AV) (b1 : Bool) (X : Ext) (call : Caller) (lf : Nat) (i0 : Nat)
  (h0 : (!empB (NSys.jo s)) = true)
  (h1 : callv X call false 43 [st (NSys.jo s)] [Ob.cells (sysC s)] 0 = some (bo true, [Ob.cells (sysC s)]))
  (h2 : (!empB (NSys.le s)) = false) : vexec Tryd.prog X call lf 0 fg22 (regN Tryd.f22 9) (stOf 83 [2, 4, 5, 6, 7, 8, 9, 10, 11, 12, 13, 14, 15, 16, 17, 18, 19, 20, 21, 22, 23, 24, 25, 27, 28, 29, 30, 31, 36, 37, 38, 39, 40, 41] [(0, AV.agg (sysC s)), (1, AV.ref 0 0), (26, bo b1), (32, lro m 1 cs), (33, i6 (↑m : Int)), (34, i6 (↑i0 : Int)), (35, bo false)] [Ob.cells (sysC s)]) = some (Ex.normal, stOf 83 [2, 4, 5, 6, 7, 8, 9, 10, 11, 12, 13, 14, 15, 16, 17, 18, 19, 20, 21, 22, 23, 24, 25, 27, 28, 29, 30, 31, 36, 37, 38, 39, 40, 41, 42, 43, 44, 45, 46, 47, 48, 49, 50, 51, 52, 53, 54, 55, 56, 57, 58, 59, 60] [(0, AV.agg (sysC s)), (1, AV.ref 0 0), (26, bo b1), (32, lro m 1 cs), (33, i6 (↑m : Int)), (34, i6 (↑i0 : Int)), (35, bo false), (61, bo false)] [Ob.cells (sysC s)]) :=
  around_sound (ans := [(3, Ans.b true), (10, Ans.v (bo true)), (20, Ans.b false)]) (by kernel_rfl) (And.intro h0 (And.intro h1 (And.intro h2 trivial)))
theorem valid_g9_tf (s : NSys) (m : Nat) (cs : List AV) (b1 : Bool) (X : Ext) (call : Caller) (lf : Nat) (i0 : Nat)
  (h0 : (!empB (NSys.jo s)) = true)
  (h1 : callv X call false 43 [st (NSys.jo s)] [Ob.cells (sysC s)] 0 = some (bo false, [Ob.cells (sysC s)])) : vexec Tryd.prog X call lf 0 fg22 (regN Tryd.f22 9) (stOf 83 [2, 4, 5, 6, 7, 8, 9, 10, 11, 12, 13, 14, 15, 16, 17, 18, 19, 20, 21, 22, 23, 24, 25, 27, 28, 29, 30, 31, 36, 37, 38, 39, 40, 41] [(0, AV.agg (sysC s)), (1, AV.ref 0 0), (26, bo b1), (32, lro m 1 cs), (33, i6 (↑m : Int)), (34, i6 (↑i0 : Int)), (35, bo false)] [Ob.cells (sysC s)]) = some (Ex.normal, stOf 83 [2, 4, 5, 6, 7, 8, 9, 10, 11, 12, 13, 14, 15, 16, 17, 18, 19, 20, 21, 22, 23, 24, 25, 27, 28, 29, 30, 31, 36, 37, 38, 39, 40, 41, 42, 43, 44, 45, 46, 47, 48, 49, 50, 51, 52, 53, 54, 55, 56, 57, 58, 59, 60] [(0, AV.agg (sysC s)), (1, AV.ref 0 0), (26, bo b1), (32, lro m 1 cs), (33, i6 (↑m : Int)), (34, i6 (↑i0 : Int)), (35, bo false), (61, bo true)] [Ob.cells (sysC s)]) :=
  around_sound (ans := [(3, Ans.b true), (10, Ans.v (bo false))]) (by kernel_rfl) (And.intro h0 (And.intro h1 trivial))
theorem valid_g9_ftt (s : NSys) (m : Nat) (cs : List AV) (b1 : Bool) (X : Ext) (call : Caller) (lf : Nat) (i0 : Nat)
  (h0 : (!empB (NSys.jo s)) = false)
  (h1 : (!empB (NSys.le s)) = true)
  (h2 : callv X call false 43 [st (NSys.le s)] [Ob.cells (sysC s)] 0 = some (bo true, [Ob.cells (sysC s)])) : vexec Tryd.prog X call lf 0 fg22 (regN Tryd.f22 9) (stOf 83 [2, 4, 5, 6, 7, 8, 9, 10, 11, 12, 13, 14, 15, 16, 17, 18, 19, 20, 21, 22, 23, 24, 25, 27, 28, 29, 30, 31, 36, 37, 38, 39, 40, 41] [(0, AV.agg (sysC s)), (1, AV.ref 0 0), (26, bo b1), (32, lro m 1 cs), (33, i6 (↑m : Int)), (34, i6 (↑i0 : Int)), (35, bo false)] [Ob.cells (sysC s)]) = some (Ex.normal, stOf 83 [2, 4, 5, 6, 7, 8, 9, 10, 11, 12, 13, 14, 15, 16, 17, 18, 19, 20, 21, 22, 23, 24, 25, 27, 28, 29, 30, 31, 36, 37, 38, 39, 40, 41, 42, 43, 44, 45, 46, 47, 48, 49, 50, 51, 52, 53, 54, 55, 56, 57, 58, 59, 60] [(0, AV.agg (sysC s)), (1, AV.ref 0 0), (26, bo b1), (32, lro m 1 cs), (33, i6 (↑m : Int)), (34, i6 (↑i0 : Int)), (35, bo false), (61, bo false)] [Ob.cells (sysC s)]) :=
  around_sound (ans := [(3, Ans.b false), (16, Ans.b true), (24, Ans.v (bo true))]) (by kernel_rfl) (And.intro h0 (And.intro h1 (And.intro h2 trivial)))
theorem valid_g9_ftf (s : NSys) (m : Nat) (cs : List AV) (b1 : Bool) (X : Ext) (call : Caller) (lf : Nat) (i0 : Nat)
  (h0 : (!empB (NSys.jo s)) = false)
  (h1 : (!empB (NSys.le s)) = true)
  (h2 : callv X call false 43 [st (NSys.le s)] [Ob.cells (sysC s)] 0 = some (bo false, [Ob.cells (sysC s)])) : vexec Tryd.prog X call lf 0 fg22 (regN Tryd.f22 9) (stOf 83 [2, 4, 5, 6, 7, 8, 9, 10, 11, 12, 13, 14, 15, 16, 17, 18, 19, 20, 21, 22, 23, 24, 25, 27, 28, 29, 30, 31, 36, 37, 38, 39, 40, 41] [(0, AV.agg (sysC s)), (1, AV.ref 0 0), (26, bo b1), (32, lro m 1 cs), (33, i6 (↑m : Int)), (34, i6 (↑i0 : Int)), (35, bo false)] [Ob.cells (sysC s)]) = some (Ex.normal, stOf 83 [2, 4, 5, 6, 7, 8, 9, 10, 11, 12, 13, 14, 15, 16, 17, 18, 19, 20, 21, 22, 23, 24, 25, 27, 28, 29, 30, 31, 36, 37, 38, 39, 40, 41, 42, 43, 44, 45, 46, 47, 48, 49, 50, 51, 52, 53, 54, 55, 56, 57, 58, 59, 60] [(0, AV.agg (sysC s)), (1, AV.ref 0 0), (26, bo b1), (32, lro m 1 cs), (33, i6 (↑m : Int)), (34, i6 (↑i0 : Int)), (35, bo false), (61, bo true)] [Ob.cells (sysC s)]) :=
  around_sound (ans := [(3, Ans.b false), (16, Ans.b true), (24, Ans.v (bo false))]) (by kernel_rfl) (And.intro h0 (And.intro h1 (And.intro h2 trivial)))
theorem valid_g9_ff (s : NSys) (m : Nat) (cs : List AV) (b1 : Bool) (X : Ext) (call : Caller) (lf : Nat) (i0 : Nat)
  (h0 : (!empB (NSys.jo s)) = false)
  (h1 : (!empB (NSys.le s)) = false) : vexec Tryd.prog X call lf 0 fg22 (regN Tryd.f22 9) (stOf 83 [2, 4, 5, 6, 7, 8, 9, 10, 11, 12, 13, 14, 15, 16, 17, 18, 19, 20, 21, 22, 23, 24, 25, 27, 28, 29, 30, 31, 36, 37, 38, 39, 40, 41] [(0, AV.agg (sysC s)), (1, AV.ref 0 0), (26, bo b1), (32, lro m 1 cs), (33, i6 (↑m : Int)), (34, i6 (↑i0 : Int)), (35, bo false)] [Ob.cells (sysC s)]) = some (Ex.normal, stOf 83 [2, 4, 5, 6, 7, 8, 9, 10, 11, 12, 13, 14, 15, 16, 17, 18, 19, 20, 21, 22, 23, 24, 25, 27, 28, 29, 30, 31, 36, 37, 38, 39, 40, 41, 42, 43, 44, 45, 46, 47, 48, 49, 50, 51, 52, 53, 54, 55, 56, 57, 58, 59, 60] [(0, AV.agg (sysC s)), (1, AV.ref 0 0), (26, bo b1), (32, lro m 1 cs), (33, i6 (↑m : Int)), (34, i6 (↑i0 : Int)), (35, bo false), (61, bo false)] [Ob.cells (sysC s)]) :=
  around_sound (ans := [(3, Ans.b false), (16, Ans.b false)]) (by kernel_rfl) (And.intro h0 (And.intro h1 trivial))
theorem valid_pflft (s : NSys) (m : Nat) (cs : List AV) (b1 : Bool) (b2 : Bool) (X : Ext) (call : Caller) (lf : Nat) (i0 : Nat)
  (h0 : vexec Tryd.prog X call lf 0 fg22 (regN Tryd.f22 1) (stOf 83 [] [(0, AV.agg (sysC s)), (1, AV.ref 0 0), (2, bo false)] [Ob.cells (sysC s)]) = some (Ex.normal, stOf 83 [5, 6, 7, 8, 9, 10, 11, 12, 13, 14, 15, 16, 17, 18, 19, 20, 21, 22, 23, 24, 25] [(0, AV.agg (sysC s)), (1, AV.ref 0 0), (2, bo false), (26, bo b1)] [Ob.cells (sysC s)]))
  (h1 : b1 = false)
  (h2 : bsl Tryd.prog 66 2 [Ob.cells (sysC s)] false 0 [(0, lro (List.length (NSys.digits s)) 1 (List.map st (NSys.digits s))), (1, lro (List.length (NSys.powers s)) 1 (List.map st (NSys.powers s)))] = some (AV.list LK.clip 2 1 [lro (List.length (NSys.digits s)) 1 (List.map st (NSys.digits s)), lro (List.length (NSys.powers s)) 1 (List.map st (NSys.powers s))], [Ob.cells (sysC s)]))
  (h3 : callv X call false 42 [AV.list LK.clip 2 1 [lro (List.length (NSys.digits s)) 1 (List.map st (NSys.digits s)), lro (List.length (NSys.powers s)) 1 (List.map st (NSys.powers s))]] [Ob.cells (sysC s)] 0 = some (lro m 1 cs, [Ob.cells (sysC s)]))
  (h4 : vexec Tryd.prog X call lf 0 fg22 (Code.loop (loopN Tryd.f22 0)) (stOf 83 [5, 6, 7, 8, 9, 10, 11, 12, 13, 14, 15, 16, 17, 18, 19, 20, 21, 22, 23, 24, 25, 27, 28, 29, 30, 31] [(0, AV.agg (sysC s)), (1, AV.ref 0 0), (2, bo false), (26, bo b1), (32, lro m 1 cs), (33, i6 (↑m : Int)), (34, i6 0)] [Ob.cells (sysC s)]) = some (Ex.exit 0, stOf 83 [2, 4, 5, 6, 7, 8, 9, 10, 11, 12, 13, 14, 15, 16, 17, 18, 19, 20, 21, 22, 23, 24, 25, 27, 28, 29, 30, 31, 36, 37, 38, 39, 40, 41] [(0, AV.agg (sysC s)), (1, AV.ref 0 0), (26, bo b1), (32, lro m 1 cs), (33, i6 (↑m : Int)), (34, i6 (↑i0 : Int)), (35, bo false)] [Ob.cells (sysC s)]))
  (h5 : vexec Tryd.prog X call lf 0 fg22 (regN Tryd.f22 9) (stOf 83 [2, 4, 5, 6, 7, 8, 9, 10, 11, 12, 13, 14, 15, 16, 17, 18, 19, 20, 21, 22, 23, 24, 25, 27, 28, 29, 30, 31, 36, 37, 38, 39, 40, 41] [(0, AV.agg (sysC s)), (1, AV.ref 0 0), (26, bo b1), (32, lro m 1 cs), (33, i6 (↑m : Int)), (34, i6 (↑i0 : Int)), (35, bo false)] [Ob.cells (sysC s)]) = some (Ex.normal, stOf 83 [2, 4, 5, 6, 7, 8, 9, 10, 11, 12, 13, 14, 15, 16, 17, 18, 19, 20, 21, 22, 23, 24, 25, 27, 28, 29, 30, 31, 36, 37, 38, 39, 40, 41, 42, 43, 44, 45, 46, 47, 48, 49, 50, 51, 52, 53, 54, 55, 56, 57, 58, 59, 60] [(0, AV.agg (sysC s)), (1, AV.ref 0 0), (26, bo b1), (32, lro m 1 cs), (33, i6 (↑m : Int)), (34, i6 (↑i0 : Int)), (35, bo false), (61, bo b2)] [Ob.cells (sysC s)]))
  (h6 : b2 = true) : vbody Tryd.prog X call lf fg22 Tryd.f22 (codeOf Tryd.f22) [AV.agg (sysC s)] [] 0 = some (bo false, [Ob.cells (sysC s)]) :=
  along_sound (ans := [(3, Ans.l Ex.normal (stOf 83 [5, 6, 7, 8, 9, 10, 11, 12, 13, 14, 15, 16, 17, 18, 19, 20, 21, 22, 23, 24, 25] [(0, AV.agg (sysC s)), (1, AV.ref 0 0), (2, bo false), (26, bo b1)] [Ob.cells (sysC s)])), (4, Ans.b false), (10, Ans.v (AV.list LK.clip 2 1 [lro (List.length (NSys.digits s)) 1 (List.map st (NSys.digits s)), lro (List.length (NSys.powers s)) 1 (List.map st (NSys.powers s))])), (11, Ans.v (lro m 1 cs)), (14, Ans.l (Ex.exit 0) (stOf 83 [2, 4, 5, 6, 7, 8, 9, 10, 11, 12, 13, 14, 15, 16, 17, 18, 19, 20, 21, 22, 23, 24, 25, 27, 28, 29, 30, 31, 36, 37, 38, 39, 40, 41] [(0, AV.agg (sysC s)), (1, AV.ref 0 0), (26, bo b1), (32, lro m 1 cs), (33, i6 (↑m : Int)), (34, i6 (↑i0 : Int)), (35, bo false)] [Ob.cells (sysC s)])), (15, Ans.l Ex.normal (stOf 83 [2, 4, 5, 6, 7, 8, 9, 10, 11, 12, 13, 14, 15, 16, 17, 18, 19, 20, 21, 22, 23, 24, 25, 27, 28, 29, 30, 31, 36, 37, 38, 39, 40, 41, 42, 43, 44, 45, 46, 47, 48, 49, 50, 51, 52, 53, 54, 55, 56, 57, 58, 59, 60] [(0, AV.agg (sysC s)), (1, AV.ref 0 0), (26, bo b1), (32, lro m 1 cs), (33, i6 (↑m : Int)), (34, i6 (↑i0 : Int)), (35, bo false), (61, bo b2)] [Ob.cells (sysC s)])), (16, Ans.b true)]) (by kernel_rfl) (And.intro h0 (And.intro h1 (And.intro h2 (And.intro h3 (And.intro h4 (And.intro h5 (And.intro h6 trivial)))))))
theorem valid_g11_ttt (s : NSys) (m : Nat) (cs : List AV) (b1 : Bool) (b2 : Bool) (X : Ext) (call : Caller) (lf : Nat) (i0 : Nat)
  (h0 : decide (NSys.sub s ≥ 0) = true)
  (h1 : decide (NSys.sub s < w6 (Int.tdiv (NSys.base s) 2)) = true)
  (h2 : (NSys.sub s == 0) = true) : vexec Tryd.prog X call lf 0 fg22 (regN Tryd.f22 11) (stOf 83 [2, 4, 5, 6, 7, 8, 9, 10, 11, 12, 13, 14, 15, 16, 17, 18, 19, 20, 21, 22, 23, 24, 25, 27, 28, 29, 30, 31, 36, 37, 38, 39, 40, 41, 42, 43, 44, 45, 46, 47, 48, 49, 50, 51, 52, 53, 54, 55, 56, 57, 58, 59, 60] [(0, AV.agg (sysC s)), (1, AV.ref 0 0), (26, bo b1), (32, lro m 1 cs), (33, i6 (↑m : Int)), (34, i6 (↑i0 : Int)), (35, bo false), (61, bo b2)] [Ob.cells (sysC s)]) = some (Ex.normal, stOf 83 [4, 5, 6, 7, 8, 9, 10, 11, 12, 13, 14, 15, 16, 17, 18, 19, 20, 21, 22, 23, 24, 25, 27, 28, 29, 30, 31, 36, 37, 38, 39, 40, 41, 42, 43, 44, 45, 46, 47, 48, 49, 50, 51, 52, 53, 54, 55, 56, 57, 58, 59, 60, 62, 63, 64, 65, 66, 67, 68, 69, 70, 71, 72, 73, 74, 75, 76, 77, 78, 79, 80, 81, 82] [(0, AV.agg (sysC s)), (1, AV.ref 0 0), (2, bo true), (26, bo b1), (32, lro m 1 cs), (33, i6 (↑m : Int)), (34, i6 (↑i0 : Int)), (35, bo false), (61, bo b2)] [Ob.cells (sysC s)]) :=
  around_sound (ans := [(3, Ans.b true), (16, Ans.b true), (24, Ans.b true)]) (by kernel_rfl) (And.intro h0 (And.intro h1 (And.intro h2 trivial)))
theorem valid_g11_ttft (s : NSys) (m : Nat) (cs : List AV) (b1 : Bool) (b2 : Bool) (X : Ext) (call : Caller) (lf : Nat) (i0 : Nat)
  (h0 : decide (NSys.sub s ≥ 0) = true)
  (h1 : decide (NSys.sub s < w6 (Int.tdiv (NSys.base s) 2)) = true)
  (h2 : (NSys.sub s == 0) = false)
  (h3 : (!empB (NSys.le s)) = true) : vexec Tryd.prog X call lf 0 fg22 (regN Tryd.f22 11) (stOf 83 [2, 4, 5, 6, 7, 8, 9, 10, 11, 12, 13, 14, 15, 16, 17, 18, 19, 20, 21, 22, 23, 24, 25, 27, 28, 29, 30, 31, 36, 37, 38, 39, 40, 41, 42, 43, 44, 45, 46, 47, 48, 49, 50, 51, 52, 53, 54, 55, 56, 57, 58, 59, 60] [(0, AV.agg (sysC s)), (1, AV.ref 0 0), (26, bo b1), (32, lro m 1 cs), (33, i6 (↑m : Int)), (34, i6 (↑i0 : Int)), (35, bo false), (61, bo b2)] [Ob.cells (sysC s)]) = some (Ex.normal, stOf 83 [4, 5, 6, 7, 8, 9, 10, 11, 12, 13, 14, 15, 16, 17, 18, 19, 20, 21, 22, 23, 24, 25, 27, 28, 29, 30, 31, 36, 37, 38, 39, 40, 41, 42, 43, 44, 45, 46, 47, 48, 49, 50, 51, 52, 53, 54, 55, 56, 57, 58, 59, 60, 62, 63, 64, 65, 66, 67, 68, 69, 70, 71, 72, 73, 74, 75, 76, 77, 78, 79, 80, 81, 82] [(0, AV.agg (sysC s)), (1, AV.ref 0 0), (2, bo true), (26, bo b1), (32, lro m 1 cs), (33, i6 (↑m : Int)), (34, i6 (↑i0 : Int)), (35, bo false), (61, bo b2)] [Ob.cells (sysC s)]) :=
  around_sound (ans := [(3, Ans.b true), (16, Ans.b true), (24, Ans.b false), (32, Ans.b true)]) (by kernel_rfl) (And.intro h0 (And.intro h1 (And.intro h2 (And.intro h3 trivial))))
theorem valid_g11_ttff (s : NSys) (m : Nat) (cs : List AV) (b1 : Bool) (b2 : Bool) (X : Ext) (call : Caller) (lf : Nat) (i0 : Nat)
  (h0 : decide (NSys.sub s ≥ 0) = true)
  (h1 : decide (NSys.sub s < w6 (Int.tdiv (NSys.base s) 2)) = true)
  (h2 : (NSys.sub s == 0) = false)
  (h3 : (!empB (NSys.le s)) = false) : vexec Tryd.prog X call lf 0 fg22 (regN Tryd.f22 11) (stOf 83 [2, 4, 5, 6, 7, 8, 9, 10, 11, 12, 13, 14, 15, 16, 17, 18, 19, 20, 21, 22, 23, 24, 25, 27, 28, 29, 30, 31, 36, 37, 38, 39, 40, 41, 42, 43, 44, 45, 46, 47, 48, 49, 50, 51, 52, 53, 54, 55, 56, 57, 58, 59, 60] [(0, AV.agg (sysC s)), (1, AV.ref 0 0), (26, bo b1), (32, lro m 1 cs), (33, i6 (↑m : Int)), (34, i6 (↑i0 : Int)), (35, bo false), (61, bo b2)] [Ob.cells (sysC s)]) = some (Ex.normal, stOf 83 [4, 5, 6, 7, 8, 9, 10, 11, 12, 13, 14, 15, 16, 17, 18, 19, 20, 21, 22, 23, 24, 25, 27, 28, 29, 30, 31, 36, 37, 38, 39, 40, 41, 42, 43, 44, 45, 46, 47, 48, 49, 50, 51, 52, 53, 54, 55, 56, 57, 58, 59, 60, 62, 63, 64, 65, 66, 67, 68, 69, 70, 71, 72, 73, 74, 75, 76, 77, 78, 79, 80, 81, 82] [(0, AV.agg (sysC s)), (1, AV.ref 0 0), (2, bo false), (26, bo b1), (32, lro m 1 cs), (33, i6 (↑m : Int)), (34, i6 (↑i0 : Int)), (35, bo false), (61, bo b2)] [Ob.cells (sysC s)]) :=
  around_sound (ans := [(3, Ans.b true), (16, Ans.b true), (24, Ans.b false), (32, Ans.b false)]) (by kernel_rfl) (And.intro h0 (And.intro h1 (And.intro h2 (And.intro h3 trivial))))
theorem valid_g11_tf (s : NSys) (m : Nat) (cs : List AV) (b1 : Bool) (b2 : Bool) (X : Ext) (call : Caller) (lf : Nat) (i0 : Nat)
  (h0 : decide (NSys.sub s ≥ 0) = true)
  (h1 : decide (NSys.sub s < w6 (Int.tdiv (NSys.base s) 2)) = false) : vexec Tryd.prog X call lf 0 fg22 (regN Tryd.f22 11) (stOf 83 [2, 4, 5, 6, 7, 8, 9, 10, 11, 12, 13, 14, 15, 16, 17, 18, 19, 20, 21, 22, 23, 24, 25, 27, 28, 29, 30, 31, 36, 37, 38, 39, 40, 41, 42, 43, 44, 45, 46, 47, 48, 49, 50, 51, 52, 53, 54, 55, 56, 57, 58, 59, 60] [(0, AV.agg (sysC s)), (1, AV.ref 0 0), (26, bo b1), (32, lro m 1 cs), (33, i6 (↑m : Int)), (34, i6 (↑i0 : Int)), (35, bo false), (61, bo b2)] [Ob.cells (sysC s)]) = some (Ex.normal, stOf 83 [4, 5, 6, 7, 8, 9, 10, 11, 12, 13, 14, 15, 16, 17, 18, 19, 20, 21, 22, 23, 24, 25, 27, 28, 29, 30, 31, 36, 37, 38, 39, 40, 41, 42, 43, 44, 45, 46, 47, 48, 49, 50, 51, 52, 53, 54, 55, 56, 57, 58, 59, 60, 62, 63, 64, 65, 66, 67, 68, 69, 70, 71, 72, 73, 74, 75, 76, 77, 78, 79, 80, 81, 82] [(0, AV.agg (sysC s)), (1, AV.ref 0 0), (2, bo false), (26, bo b1), (32, lro m 1 cs), (33, i6 (↑m : Int)), (34, i6 (↑i0 : Int)), (35, bo false), (61, bo b2)] [Ob.cells (sysC s)]) :=
  around_sound (ans := [(3, Ans.b true), (16, Ans.b false)]) (by kernel_rfl) (And.intro h0 (And.intro h1 trivial))
theorem valid_g11_f (s : NSys) (m : Nat) (cs : List AV) (b1 : Bool) (b2 : Bool) (X : Ext) (call : Caller) (lf : Nat) (i0 : Nat)
  (h0 : decide (NSys.sub s ≥ 0) = false) : vexec Tryd.prog X call lf 0 fg22 (regN Tryd.f22 11) (stOf 83 [2, 4, 5, 6, 7, 8, 9, 10, 11, 12, 13, 14, 15, 16, 17, 18, 19, 20, 21, 22, 23, 24, 25, 27, 28, 29, 30, 31, 36, 37, 38, 39, 40, 41, 42, 43, 44, 45, 46, 47, 48, 49, 50, 51, 52, 53, 54, 55, 56, 57, 58, 59, 60] [(0, AV.agg (sysC s)), (1, AV.ref 0 0), (26, bo b1), (32, lro m 1 cs), (33, i6 (↑m : Int)), (34, i6 (↑i0 : Int)), (35, bo false), (61, bo b2)] [Ob.cells (sysC s)]) = some (Ex.normal, stOf 83 [4, 5, 6, 7, 8, 9, 10, 11, 12, 13, 14, 15, 16, 17, 18, 19, 20, 21, 22, 23, 24, 25, 27, 28, 29, 30, 31, 36, 37, 38, 39, 40, 41, 42, 43, 44, 45, 46, 47, 48, 49, 50, 51, 52, 53, 54, 55, 56, 57, 58, 59, 60, 62, 63, 64, 65, 66, 67, 68, 69, 70, 71, 72, 73, 74, 75, 76, 77, 78, 79, 80, 81, 82] [(0, AV.agg (sysC s)), (1, AV.ref 0 0), (2, bo false), (26, bo b1), (32, lro m 1 cs), (33, i6 (↑m : Int)), (34, i6 (↑i0 : Int)), (35, bo false), (61, bo b2)] [Ob.cells (sysC s)]) :=
  around_sound (ans := [(3, Ans.b false)]) (by kernel_rfl) (And.intro h0 trivial)
theorem valid_pflff (s : NSys) (m : Nat) (cs : List AV) (b1 : Bool) (b2 : Bool) (b3 : Bool) (X : Ext) (call : Caller) (lf : Nat) (i0 : Nat)
  (h0 : vexec Tryd.prog X call lf 0 fg22 (regN Tryd.f22 1) (stOf 83 [] [(0, AV.agg (sysC s)), (1, AV.ref 0 0), (2, bo false)] [Ob.cells (sysC s)]) = some (Ex.normal, stOf 83 [5, 6, 7, 8, 9, 10, 11, 12, 13, 14, 15, 16, 17, 18, 19, 20, 21, 22, 23, 24, 25] [(0, AV.agg (sysC s)), (1, AV.ref 0 0), (2, bo false), (26, bo b1)] [Ob.cells (sysC s)]))
  (h1 : b1 = false)
  (h2 : bsl Tryd.prog 66 2 [Ob.cells (sysC s)] false 0 [(0, lro (List.length (NSys.digits s)) 1 (List.map st (NSys.digits s))), (1, lro (List.length (NSys.powers s)) 1 (List.map st (NSys.powers s)))] = some (AV.list LK.clip 2 1 [lro (List.length (NSys.digits s)) 1 (List.map st (NSys.digits s)), lro (List.length (NSys.powers s)) 1 (List.map st (NSys.powers s))], [Ob.cells (sysC s)]))
  (h3 : callv X call false 42 [AV.list LK.clip 2 1 [lro (List.length (NSys.digits s)) 1 (List.map st (NSys.digits s)), lro (List.length (NSys.powers s)) 1 (List.map st (NSys.powers s))]] [Ob.cells (sysC s)] 0 = some (lro m 1 cs, [Ob.cells (sysC s)]))
  (h4 : vexec Tryd.prog X call lf 0 fg22 (Code.loop (loopN Tryd.f22 0)) (stOf 83 [5, 6, 7, 8, 9, 10, 11, 12, 13, 14, 15, 16, 17, 18, 19, 20, 21, 22, 23, 24, 25, 27, 28, 29, 30, 31] [(0, AV.agg (sysC s)), (1, AV.ref 0 0), (2, bo false), (26, bo b1), (32, lro m 1 cs), (33, i6 (↑m : Int)), (34, i6 0)] [Ob.cells (sysC s)]) = some (Ex.exit 0, stOf 83 [2, 4, 5, 6, 7, 8, 9, 10, 11, 12, 13, 14, 15, 16, 17, 18, 19, 20, 21, 22, 23, 24, 25, 27, 28, 29, 30, 31, 36, 37, 38, 39, 40, 41] [(0, AV.agg (sysC s)), (1, AV.ref 0 0), (26, bo b1), (32, lro m 1 cs), (33, i6 (↑m : Int)), (34, i6 (↑i0 : Int)), (35, bo false)] [Ob.cells (sysC s)]))
  (h5 : vexec Tryd.prog X call lf 0 fg22 (regN Tryd.f22 9) (stOf 83 [2, 4, 5, 6, 7, 8, 9, 10, 11, 12, 13, 14, 15, 16, 17, 18, 19, 20, 21, 22, 23, 24, 25, 27, 28, 29, 30, 31, 36, 37, 38, 39, 40, 41] [(0, AV.agg (sysC s)), (1, AV.ref 0 0), (26, bo b1), (32, lro m 1 cs), (33, i6 (↑m : Int)), (34, i6 (↑i0 : Int)), (35, bo false)] [Ob.cells (sysC s)]) = some (Ex.normal, stOf 83 [2, 4, 5, 6, 7, 8, 9, 10, 11, 12, 13, 14, 15, 16, 17, 18, 19, 20, 21, 22, 23, 24, 25, 27, 28, 29, 30, 31, 36, 37, 38, 39, 40, 41, 42, 43, 44, 45, 46, 47, 48, 49, 50, 51, 52, 53, 54, 55, 56, 57, 58, 59, 60] [(0, AV.agg (sysC s)), (1, AV.ref 0 0), (26, bo b1), (32, lro m 1 cs), (33, i6 (↑m : Int)), (34, i6 (↑i0 : Int)), (35, bo false), (61, bo b2)] [Ob.cells (sysC s)]))
  (h6 : b2 = false)
  (h7 : vexec Tryd.prog X call lf 0 fg22 (regN Tryd.f22 11) (stOf 83 [2, 4, 5, 6, 7, 8, 9, 10, 11, 12, 13, 14, 15, 16, 17, 18, 19, 20, 21, 22, 23, 24, 25, 27, 28, 29, 30, 31, 36, 37, 38, 39, 40, 41, 42, 43, 44, 45, 46, 47, 48, 49, 50, 51, 52, 53, 54, 55, 56, 57, 58, 59, 60] [(0, AV.agg (sysC s)), (1, AV.ref 0 0), (26, bo b1), (32, lro m 1 cs), (33, i6 (↑m : Int)), (34, i6 (↑i0 : Int)), (35, bo false), (61, bo b2)] [Ob.cells (sysC s)]) = some (Ex.normal, stOf 83 [4, 5, 6, 7, 8, 9, 10, 11, 12, 13, 14, 15, 16, 17, 18, 19, 20, 21, 22, 23, 24, 25, 27, 28, 29, 30, 31, 36, 37, 38, 39, 40, 41, 42, 43, 44, 45, 46, 47, 48, 49, 50, 51, 52, 53, 54, 55, 56, 57, 58, 59, 60, 62, 63, 64, 65, 66, 67, 68, 69, 70, 71, 72, 73, 74, 75, 76, 77, 78, 79, 80, 81, 82] [(0, AV.agg (sysC s)), (1, AV.ref 0 0), (2, bo b3), (26, bo b1), (32, lro m 1 cs), (33, i6 (↑m : Int)), (34, i6 (↑i0 : Int)), (35, bo false), (61, bo b2)] [Ob.cells (sysC s)])) : vbody Tryd.prog X call lf fg22 Tryd.f22 (codeOf Tryd.f22) [AV.agg (sysC s)] [] 0 = some (bo b3, [Ob.cells (sysC s)]) :=
  along_sound (ans := [(3, Ans.l Ex.normal (stOf 83 [5, 6, 7, 8, 9, 10, 11, 12, 13, 14, 15, 16, 17, 18, 19, 20, 21, 22, 23, 24, 25] [(0, AV.agg (sysC s)), (1, AV.ref 0 0), (2, bo false), (26, bo b1)] [Ob.cells (sysC s)])), (4, Ans.b false), (10, Ans.v (AV.list LK.clip 2 1 [lro (List.length (NSys.digits s)) 1 (List.map st (NSys.digits s)), lro (List.length (NSys.powers s)) 1 (List.map st (NSys.powers s))])), (11, Ans.v (lro m 1 cs)), (14, Ans.l (Ex.exit 0) (stOf 83 [2, 4, 5, 6, 7, 8, 9, 10, 11, 12, 13, 14, 15, 16, 17, 18, 19, 20, 21, 22, 23, 24, 25, 27, 28, 29, 30, 31, 36, 37, 38, 39, 40, 41] [(0, AV.agg (sysC s)), (1, AV.ref 0 0), (26, bo b1), (32, lro m 1 cs), (33, i6 (↑m : Int)), (34, i6 (↑i0 : Int)), (35, bo false)] [Ob.cells (sysC s)])), (15, Ans.l Ex.normal (stOf 83 [2, 4, 5, 6, 7, 8, 9, 10, 11, 12, 13, 14, 15, 16, 17, 18, 19, 20, 21, 22, 23, 24, 25, 27, 28, 29, 30, 31, 36, 37, 38, 39, 40, 41, 42, 43, 44, 45, 46, 47, 48, 49, 50, 51, 52, 53, 54, 55, 56, 57, 58, 59, 60] [(0, AV.agg (sysC s)), (1, AV.ref 0 0), (26, bo b1), (32, lro m 1 cs), (33, i6 (↑m : Int)), (34, i6 (↑i0 : Int)), (35, bo false), (61, bo b2)] [Ob.cells (sysC s)])), (16, Ans.b false), (17, Ans.l Ex.normal (stOf 83 [4, 5, 6, 7, 8, 9, 10, 11, 12, 13, 14, 15, 16, 17, 18, 19, 20, 21, 22, 23, 24, 25, 27, 28, 29, 30, 31, 36, 37, 38, 39, 40, 41, 42, 43, 44, 45, 46, 47, 48, 49, 50, 51, 52, 53, 54, 55, 56, 57, 58, 59, 60, 62, 63, 64, 65, 66, 67, 68, 69, 70, 71, 72, 73, 74, 75, 76, 77, 78, 79, 80, 81, 82] [(0, AV.agg (sysC s)), (1, AV.ref 0 0), (2, bo b3), (26, bo b1), (32, lro m 1 cs), (33, i6 (↑m : Int)), (34, i6 (↑i0 : Int)), (35, bo false), (61, bo b2)] [Ob.cells (sysC s)]))]) (by kernel_rfl) (And.intro h0 (And.intro h1 (And.intro h2 (And.intro h3 (And.intro h4 (And.intro h5 (And.intro h6 (And.intro h7 trivial))))))))

def bad1 (s : NSys) : Bool := (s.base != 10 && s.base != 20) || ((↑(List.length s.digits) : Int) != s.base || (↑(List.length s.powers) : Int) != 3)
def bad2 (s : NSys) : Bool := (!empB s.jo && !tokB s.jo) || (!empB s.le && !tokB s.le)
def good3 (s : NSys) : Bool := decide (s.sub ≥ 0) && (decide (s.sub < w6 (s.base.tdiv 2)) && (s.sub == 0 || !empB s.le))
theorem g1_spec (s : NSys) (X : Ext) (call : Caller) (lf : Nat) :
    vexec Tryd.prog X call lf 0 fg22 (regN Tryd.f22 1) (stOf 83 [] [(0, AV.agg (sysC s)), (1, AV.ref 0 0), (2, bo false)] [Ob.cells (sysC s)]) =
      some (Ex.normal, stOf 83 [5, 6, 7, 8, 9, 10, 11, 12, 13, 14, 15, 16, 17, 18, 19, 20, 21, 22, 23, 24, 25] [(0, AV.agg (sysC s)), (1, AV.ref 0 0), (2, bo false), (26, bo (bad1 s))] [Ob.cells (sysC s)]) := by
  unfold bad1
  cases h0 : (s.base != 10) <;> cases h1 : (s.base != 20) <;> cases h2 : ((↑(List.length s.digits) : Int) != s.base) <;> cases h3 : ((↑(List.length s.powers) : Int) != 3) <;> first
    | exact valid_g1_tt s X call lf h0 h1
    | exact valid_g1_tft s X call lf h0 h1 h2
    | exact valid_g1_tfft s X call lf h0 h1 h2 h3
    | exact valid_g1_tfff s X call lf h0 h1 h2 h3
    | exact valid_g1_ft s X call lf h0 h2
    | exact valid_g1_fft s X call lf h0 h2 h3
    | exact valid_g1_fff s X call lf h0 h2 h3

/-- The callee isToken, ahead of a store. -/
def TokCall (X : Ext) (call : Caller) (σ : List Ob) (w : ByteArray) : Prop := callv X call false 43 [st w] σ 0 = some (bo (tokB w), σ)
theorem g9_spec (s : NSys) (m : Nat) (cs : List AV) (b1 : Bool) (X : Ext) (call : Caller) (lf : Nat) (i0 : Nat) (hj : TokCall X call [Ob.cells (sysC s)] s.jo) (hl : TokCall X call [Ob.cells (sysC s)] s.le) :
    vexec Tryd.prog X call lf 0 fg22 (regN Tryd.f22 9) (stOf 83 [2, 4, 5, 6, 7, 8, 9, 10, 11, 12, 13, 14, 15, 16, 17, 18, 19, 20, 21, 22, 23, 24, 25, 27, 28, 29, 30, 31, 36, 37, 38, 39, 40, 41] [(0, AV.agg (sysC s)), (1, AV.ref 0 0), (26, bo b1), (32, lro m 1 cs), (33, i6 (↑m : Int)), (34, i6 (↑i0 : Int)), (35, bo false)] [Ob.cells (sysC s)]) = some (Ex.normal, (stOf 83 [2, 4, 5, 6, 7, 8, 9, 10, 11, 12, 13, 14, 15, 16, 17, 18, 19, 20, 21, 22, 23, 24, 25, 27, 28, 29, 30, 31, 36, 37, 38, 39, 40, 41, 42, 43, 44, 45, 46, 47, 48, 49, 50, 51, 52, 53, 54, 55, 56, 57, 58, 59, 60] [(0, AV.agg (sysC s)), (1, AV.ref 0 0), (26, bo b1), (32, lro m 1 cs), (33, i6 (↑m : Int)), (34, i6 (↑i0 : Int)), (35, bo false), (61, bo (bad2 s))] [Ob.cells (sysC s)])) := by
  unfold TokCall at hj hl
  unfold bad2
  cases h0 : empB s.jo <;> cases h1 : tokB s.jo <;> cases h2 : empB s.le <;> cases h3 : tokB s.le <;> rw [h1] at hj <;> rw [h3] at hl <;> first
    | exact valid_g9_tttt s m cs b1 X call lf i0 (by rw [h0]; rfl) hj (by rw [h2]; rfl) hl
    | exact valid_g9_tttf s m cs b1 X call lf i0 (by rw [h0]; rfl) hj (by rw [h2]; rfl) hl
    | exact valid_g9_ttf s m cs b1 X call lf i0 (by rw [h0]; rfl) hj (by rw [h2]; rfl)
    | exact valid_g9_tf s m cs b1 X call lf i0 (by rw [h0]; rfl) hj
    | exact valid_g9_ftt s m cs b1 X call lf i0 (by rw [h0]; rfl) (by rw [h2]; rfl) hl
    | exact valid_g9_ftf s m cs b1 X call lf i0 (by rw [h0]; rfl) (by rw [h2]; rfl) hl
    | exact valid_g9_ff s m cs b1 X call lf i0 (by rw [h0]; rfl) (by rw [h2]; rfl)
theorem g11_spec (s : NSys) (m : Nat) (cs : List AV) (b1 b2 : Bool) (X : Ext) (call : Caller) (lf : Nat) (i0 : Nat) :
    vexec Tryd.prog X call lf 0 fg22 (regN Tryd.f22 11) (stOf 83 [2, 4, 5, 6, 7, 8, 9, 10, 11, 12, 13, 14, 15, 16, 17, 18, 19, 20, 21, 22, 23, 24, 25, 27, 28, 29, 30, 31, 36, 37, 38, 39, 40, 41, 42, 43, 44, 45, 46, 47, 48, 49, 50, 51, 52, 53, 54, 55, 56, 57, 58, 59, 60] [(0, AV.agg (sysC s)), (1, AV.ref 0 0), (26, bo b1), (32, lro m 1 cs), (33, i6 (↑m : Int)), (34, i6 (↑i0 : Int)), (35, bo false), (61, bo b2)] [Ob.cells (sysC s)]) = some (Ex.normal, (stOf 83 [4, 5, 6, 7, 8, 9, 10, 11, 12, 13, 14, 15, 16, 17, 18, 19, 20, 21, 22, 23, 24, 25, 27, 28, 29, 30, 31, 36, 37, 38, 39, 40, 41, 42, 43, 44, 45, 46, 47, 48, 49, 50, 51, 52, 53, 54, 55, 56, 57, 58, 59, 60, 62, 63, 64, 65, 66, 67, 68, 69, 70, 71, 72, 73, 74, 75, 76, 77, 78, 79, 80, 81, 82] [(0, AV.agg (sysC s)), (1, AV.ref 0 0), (2, bo (good3 s)), (26, bo b1), (32, lro m 1 cs), (33, i6 (↑m : Int)), (34, i6 (↑i0 : Int)), (35, bo false), (61, bo b2)] [Ob.cells (sysC s)])) := by
  unfold good3
  cases h0 : decide (s.sub ≥ 0) <;> cases h1 : decide (s.sub < w6 (s.base.tdiv 2)) <;> cases h2 : (s.sub == 0) <;> cases h3 : empB s.le <;> first
    | exact valid_g11_ttt s m cs b1 b2 X call lf i0 h0 h1 h2
    | exact valid_g11_ttft s m cs b1 b2 X call lf i0 h0 h1 h2 (by rw [h3]; rfl)
    | exact valid_g11_ttff s m cs b1 b2 X call lf i0 h0 h1 h2 (by rw [h3]; rfl)
    | exact valid_g11_tf s m cs b1 b2 X call lf i0 h0 h1
    | exact valid_g11_f s m cs b1 b2 X call lf i0 h0

def vWords (s : NSys) : List ByteArray := s.digits ++ s.powers
def validL (s : NSys) : Bool := !bad1 s && ((vWords s).all tokB && (!bad2 s && good3 s))
theorem bsl_two (s : NSys) : bsl Tryd.prog 66 2 [Ob.cells (sysC s)] false 0 [(0, lro (List.length (NSys.digits s)) 1 (List.map st (NSys.digits s))), (1, lro (List.length (NSys.powers s)) 1 (List.map st (NSys.powers s)))] = some (AV.list LK.clip 2 1 [lro (List.length (NSys.digits s)) 1 (List.map st (NSys.digits s)), lro (List.length (NSys.powers s)) 1 (List.map st (NSys.powers s))], [Ob.cells (sysC s)]) := by
  have h : byValue false [Ob.cells (sysC s)] 0 [(0, lro (List.length (NSys.digits s)) 1 (List.map st (NSys.digits s))), (1, lro (List.length (NSys.powers s)) 1 (List.map st (NSys.powers s)))] = some ([(0, lro (List.length (NSys.digits s)) 1 (List.map st (NSys.digits s))), (1, lro (List.length (NSys.powers s)) 1 (List.map st (NSys.powers s)))], [Ob.cells (sysC s)]) := by
    unfold byValue
    rw [if_pos]
    have e1 : AV.ownsAll (List.map st s.digits) = [] := owns_strs s.digits
    have e2 : AV.ownsAll (List.map st s.powers) = [] := owns_strs s.powers
    simp [AV.ownsAll, AV.owns, e1, e2]
  unfold bsl
  rw [h]
  show _ = _
  kernel_rfl
def vF (s : NSys) (i : Nat) : St := (stOf 83 [2, 4, 5, 6, 7, 8, 9, 10, 11, 12, 13, 14, 15, 16, 17, 18, 19, 20, 21, 22, 23, 24, 25, 27, 28, 29, 30, 31, 35, 36, 37, 38, 39, 40, 41] [(0, AV.agg (sysC s)), (1, AV.ref 0 0), (26, bo (bad1 s)), (32, lro (vWords s).length 1 ((vWords s).map st)), (33, i6 (↑(vWords s).length : Int)), (34, i6 (↑i : Int))] [Ob.cells (sysC s)])
theorem dead22 : (deadC (loopN Tryd.f22 0) ([], [])).2 = [41, 2, 40, 39, 38, 4, 37, 36, 35] := by kernel_rfl
theorem at_words {s : NSys} {i : Nat} (hi : i < (vWords s).length) : ((vWords s).map st)[i]? = some (st ((vWords s)[i])) := by simp [hi]
theorem valid_round {s : NSys} {X : Ext} {call : Caller} {lf : Nat} {i : Nat} (hk : (vWords s).length ≤ 140737488355328) (hi : i < (vWords s).length) (ht : TokCall X call [Ob.cells (sysC s)] (vWords s)[i]) (hb : tokB (vWords s)[i] = true) :
    ∃ S1, vexec Tryd.prog X call lf 0 fg22 (loopN Tryd.f22 0) (vF s i) = some (.normal, S1) ∧ forget [41, 2, 40, 39, 38, 4, 37, 36, 35] S1 = vF s (i + 1) := by
  unfold TokCall at ht
  rw [hb] at ht
  refine ⟨_, valid_r0_tt s (vWords s).length ((vWords s).map st) (((vWords s).map st).drop i) (bad1 s) (vWords s)[i] X call lf i (by simpa using hi) (at_list Tryd.underlying22 cells9 info9 hi)
    (load_list Tryd.underlying9 rfl (at_words hi)) ht, ?_⟩
  have e : w6 ((i : Int) + 1) = ((i + 1 : Nat) : Int) := wrap_small (by omega)
  rw [e]
  show _ = _
  kernel_rfl
theorem valid_spec (s : NSys) (X : Ext) (call : Caller) (hk : (vWords s).length ≤ 140737488355328) (ht : ∀ w, w ∈ vWords s ∨ w = s.jo ∨ w = s.le → TokCall X call [Ob.cells (sysC s)] w)
    (hc : bad1 s = false → callv X call false 42 [AV.list LK.clip 2 1 [lro (List.length (NSys.digits s)) 1 (List.map st (NSys.digits s)), lro (List.length (NSys.powers s)) 1 (List.map st (NSys.powers s))]] [Ob.cells (sysC s)] 0 = some (lro (vWords s).length 1 ((vWords s).map st), [Ob.cells (sysC s)])) :
    vbody Tryd.prog X call ((vWords s).length + 1) fg22 Tryd.f22 (codeOf Tryd.f22) [AV.agg (sysC s)] [] 0 = some (bo (validL s), [Ob.cells (sysC s)]) := by
  cases h1 : bad1 s with
  | true =>
    have := valid_pt s (bad1 s) X call ((vWords s).length + 1) (g1_spec s X call _) h1
    rw [this]
    simp [validL, h1]
  | false =>
    have start : forget [41, 2, 40, 39, 38, 4, 37, 36, 35] (stOf 83 [5, 6, 7, 8, 9, 10, 11, 12, 13, 14, 15, 16, 17, 18, 19, 20, 21, 22, 23, 24, 25, 27, 28, 29, 30, 31] [(0, AV.agg (sysC s)), (1, AV.ref 0 0), (2, bo false), (26, bo (bad1 s)), (32, lro (vWords s).length 1 ((vWords s).map st)), (33, i6 (↑(vWords s).length : Int)), (34, i6 0)] [Ob.cells (sysC s)]) = vF s 0 := by kernel_rfl
    rcases first_fail (p := fun i => ∀ hi : i < (vWords s).length, tokB ((vWords s)[i]'hi) = true) (vWords s).length with hall | ⟨k, hk', hbad, hbefore⟩
    · have hall' : (vWords s).all tokB = true := by
        rw [List.all_eq_true]
        intro w hw
        obtain ⟨i, hi, rfl⟩ := List.getElem_of_mem hw
        exact hall i hi hi
      have hloop := loop_run (P := Tryd.prog) (X := X) (call := call) (lf := (vWords s).length + 1) (ro := 0) (fg := fg22) dead22 (vF s) (vWords s).length (Nat.lt_succ_self _) start
        (fun i hi => valid_round hk hi (ht _ (.inl (List.getElem_mem hi))) (hall i hi hi))
        (valid_r0_f s (vWords s).length ((vWords s).map st) (bad1 s) X call ((vWords s).length + 1) (vWords s).length (by simp)) (by simp)
      cases h2 : bad2 s with
      | true =>
        have := valid_pflft s (vWords s).length ((vWords s).map st) (bad1 s) (bad2 s) X call ((vWords s).length + 1) (vWords s).length (g1_spec s X call _) h1 (bsl_two s) (hc h1) hloop
          (g9_spec s _ _ _ X call _ _ (ht _ (.inr (.inl rfl))) (ht _ (.inr (.inr rfl)))) h2
        rw [this]
        simp [validL, h2]
      | false =>
        have := valid_pflff s (vWords s).length ((vWords s).map st) (bad1 s) (bad2 s) (good3 s) X call ((vWords s).length + 1) (vWords s).length (g1_spec s X call _) h1 (bsl_two s) (hc h1) hloop
          (g9_spec s _ _ _ X call _ _ (ht _ (.inr (.inl rfl))) (ht _ (.inr (.inr rfl)))) h2 (g11_spec s _ _ _ _ X call _ _)
        rw [this]
        simp [validL, h1, h2, hall']
    · have hb : tokB ((vWords s)[k]'hk') = false := by
        cases h : tokB ((vWords s)[k]'hk') with
        | false => rfl
        | true => exact absurd (fun _ => h) hbad
      have hall' : (vWords s).all tokB = false := by
        cases h : (vWords s).all tokB with
        | false => rfl
        | true =>
          rw [List.all_eq_true] at h
          rw [h _ (List.getElem_mem hk')] at hb
          cases hb
      have htk := ht _ (.inl (List.getElem_mem hk'))
      unfold TokCall at htk
      rw [hb] at htk
      have hloop := loop_run (P := Tryd.prog) (X := X) (call := call) (lf := (vWords s).length + 1) (ro := 0) (fg := fg22) dead22 (vF s) k (Nat.lt_succ_of_lt hk') start
        (fun i hi => valid_round hk (Nat.lt_trans hi hk') (ht _ (.inl (List.getElem_mem _))) (hbefore i hi (Nat.lt_trans hi hk')))
        (valid_r0_tf s (vWords s).length ((vWords s).map st) (((vWords s).map st).drop k) (bad1 s) ((vWords s)[k]'hk') X call ((vWords s).length + 1) k (by simpa using hk') (at_list Tryd.underlying22 cells9 info9 hk')
          (load_list Tryd.underlying9 rfl (at_words hk')) htk) (by simp)
      have := valid_pfltf s (vWords s).length ((vWords s).map st) (((vWords s).map st).drop k) (bad1 s) ((vWords s)[k]'hk') X call ((vWords s).length + 1) k (g1_spec s X call _) h1 (bsl_two s) (hc h1) hloop
      rw [this]
      simp [validL, hall']
end Go.Proofs.Num
end
/- Numeral: the reference's tokens; small; Greatest. -/
section
open Go Go.Vm Go.Proofs
namespace Go.Proofs.Num
theorem rtok_r0_tt (s : ByteArray) (c : Int) (X : Ext) (call : Caller) (lf : Nat) (i0 : Nat)
  (h0 : decide ((↑i0 : Int) < (↑(ByteArray.size s) : Int)) = true)
  (h1 : keep [] (indexv Tryd.prog 9 (st s) (i6 (↑i0 : Int))) = some (AV.int IntKind.u8 c, []))
  (h2 : decide (c ≤ 32) = true) : vexec Tryd.prog X call lf 0 noFg (loopN Tryd.f31 0) (stOf 20 [2, 4, 5, 6, 7, 8, 9, 10, 11, 12, 13] [(0, st s), (3, i6 (↑i0 : Int))] []) = some (Ex.ret, stOf 20 [8, 9] [(0, st s), (2, bo false), (3, i6 (↑i0 : Int)), (4, i6 (↑i0 : Int)), (5, st s), (6, i6 (↑(ByteArray.size s) : Int)), (7, bo true), (10, st s), (11, i6 (↑i0 : Int)), (12, AV.int IntKind.u8 c), (13, bo true)] []) :=
  around_sound (ans := [(4, Ans.b true), (9, Ans.v (AV.int IntKind.u8 c)), (10, Ans.b true)]) (by kernel_rfl) (And.intro h0 (And.intro h1 (And.intro h2 trivial)))
theorem rtok_pltt (s : ByteArray) (c : Int) (X : Ext) (call : Caller) (lf : Nat) (i0 : Nat)
  (h0 : vexec Tryd.prog X call lf 0 noFg (Code.loop (loopN Tryd.f31 0)) (stOf 20 [] [(0, st s), (2, bo false), (3, i6 0)] []) = some (Ex.ret, stOf 20 [8, 9] [(0, st s), (2, bo false), (3, i6 (↑i0 : Int)), (4, i6 (↑i0 : Int)), (5, st s), (6, i6 (↑(ByteArray.size s) : Int)), (7, bo true), (10, st s), (11, i6 (↑i0 : Int)), (12, AV.int IntKind.u8 c), (13, bo true)] [])) : vbody Tryd.prog X call lf noFg Tryd.f31 (codeOf Tryd.f31) [st s] [] 0 = some (bo false, []) :=
  along_sound (ans := [(4, Ans.l Ex.ret (stOf 20 [8, 9] [(0, st s), (2, bo false), (3, i6 (↑i0 : Int)), (4, i6 (↑i0 : Int)), (5, st s), (6, i6 (↑(ByteArray.size s) : Int)), (7, bo true), (10, st s), (11, i6 (↑i0 : Int)), (12, AV.int IntKind.u8 c), (13, bo true)] []))]) (by kernel_rfl) (And.intro h0 trivial)
theorem rtok_r0_tf (s : ByteArray) (c : Int) (X : Ext) (call : Caller) (lf : Nat) (i0 : Nat)
  (h0 : decide ((↑i0 : Int) < (↑(ByteArray.size s) : Int)) = true)
  (h1 : keep [] (indexv Tryd.prog 9 (st s) (i6 (↑i0 : Int))) = some (AV.int IntKind.u8 c, []))
  (h2 : decide (c ≤ 32) = false) : vexec Tryd.prog X call lf 0 noFg (loopN Tryd.f31 0) (stOf 20 [2, 4, 5, 6, 7, 8, 9, 10, 11, 12, 13] [(0, st s), (3, i6 (↑i0 : Int))] []) = some (Ex.normal, stOf 20 [2] [(0, st s), (3, i6 (w6 ((↑i0 : Int) + 1))), (4, i6 (↑i0 : Int)), (5, st s), (6, i6 (↑(ByteArray.size s) : Int)), (7, bo true), (8, i6 (↑i0 : Int)), (9, i6 (w6 ((↑i0 : Int) + 1))), (10, st s), (11, i6 (↑i0 : Int)), (12, AV.int IntKind.u8 c), (13, bo false)] []) :=
  around_sound (ans := [(4, Ans.b true), (9, Ans.v (AV.int IntKind.u8 c)), (10, Ans.b false)]) (by kernel_rfl) (And.intro h0 (And.intro h1 (And.intro h2 trivial)))
theorem rtok_r0_f (s : ByteArray) (X : Ext) (call : Caller) (lf : Nat) (i0 : Nat)
  (h0 : decide ((↑i0 : Int) < (↑(ByteArray.size s) : Int)) = false) : vexec Tryd.prog X call lf 0 noFg (loopN Tryd.f31 0) (stOf 20 [2, 4, 5, 6, 7, 8, 9, 10, 11, 12, 13] [(0, st s), (3, i6 (↑i0 : Int))] []) = some (Ex.exit 0, stOf 20 [2, 8, 9, 10, 11, 12, 13] [(0, st s), (3, i6 (↑i0 : Int)), (4, i6 (↑i0 : Int)), (5, st s), (6, i6 (↑(ByteArray.size s) : Int)), (7, bo false)] []) :=
  around_sound (ans := [(4, Ans.b false)]) (by kernel_rfl) (And.intro h0 trivial)
theorem rtok_plftt (s : ByteArray) (X : Ext) (call : Caller) (lf : Nat) (i0 : Nat)
  (h0 : vexec Tryd.prog X call lf 0 noFg (Code.loop (loopN Tryd.f31 0)) (stOf 20 [] [(0, st s), (2, bo false), (3, i6 0)] []) = some (Ex.exit 0, stOf 20 [2, 8, 9, 10, 11, 12, 13] [(0, st s), (3, i6 (↑i0 : Int)), (4, i6 (↑i0 : Int)), (5, st s), (6, i6 (↑(ByteArray.size s) : Int)), (7, bo false)] []))
  (h1 : (!ByteArray.toList s == ByteArray.toList (ByteArray.mk #[])) = true)
  (h2 : callv X call false 47 [st s] [] 0 = some (bo true, [])) : vbody Tryd.prog X call lf noFg Tryd.f31 (codeOf Tryd.f31) [st s] [] 0 = some (bo true, []) :=
  along_sound (ans := [(4, Ans.l (Ex.exit 0) (stOf 20 [2, 8, 9, 10, 11, 12, 13] [(0, st s), (3, i6 (↑i0 : Int)), (4, i6 (↑i0 : Int)), (5, st s), (6, i6 (↑(ByteArray.size s) : Int)), (7, bo false)] [])), (7, Ans.b true), (12, Ans.v (bo true))]) (by kernel_rfl) (And.intro h0 (And.intro h1 (And.intro h2 trivial)))
theorem rtok_plftf (s : ByteArray) (X : Ext) (call : Caller) (lf : Nat) (i0 : Nat)
  (h0 : vexec Tryd.prog X call lf 0 noFg (Code.loop (loopN Tryd.f31 0)) (stOf 20 [] [(0, st s), (2, bo false), (3, i6 0)] []) = some (Ex.exit 0, stOf 20 [2, 8, 9, 10, 11, 12, 13] [(0, st s), (3, i6 (↑i0 : Int)), (4, i6 (↑i0 : Int)), (5, st s), (6, i6 (↑(ByteArray.size s) : Int)), (7, bo false)] []))
  (h1 : (!ByteArray.toList s == ByteArray.toList (ByteArray.mk #[])) = true)
  (h2 : callv X call false 47 [st s] [] 0 = some (bo false, [])) : vbody Tryd.prog X call lf noFg Tryd.f31 (codeOf Tryd.f31) [st s] [] 0 = some (bo false, []) :=
  along_sound (ans := [(4, Ans.l (Ex.exit 0) (stOf 20 [2, 8, 9, 10, 11, 12, 13] [(0, st s), (3, i6 (↑i0 : Int)), (4, i6 (↑i0 : Int)), (5, st s), (6, i6 (↑(ByteArray.size s) : Int)), (7, bo false)] [])), (7, Ans.b true), (12, Ans.v (bo false))]) (by kernel_rfl) (And.intro h0 (And.intro h1 (And.intro h2 trivial)))
theorem rtok_plff (s : ByteArray) (X : Ext) (call : Caller) (lf : Nat) (i0 : Nat)
  (h0 : vexec Tryd.prog X call lf 0 noFg (Code.loop (loopN Tryd.f31 0)) (stOf 20 [] [(0, st s), (2, bo false), (3, i6 0)] []) = some (Ex.exit 0, stOf 20 [2, 8, 9, 10, 11, 12, 13] [(0, st s), (3, i6 (↑i0 : Int)), (4, i6 (↑i0 : Int)), (5, st s), (6, i6 (↑(ByteArray.size s) : Int)), (7, bo false)] []))
  (h1 : (!ByteArray.toList s == ByteArray.toList (ByteArray.mk #[])) = false) : vbody Tryd.prog X call lf noFg Tryd.f31 (codeOf Tryd.f31) [st s] [] 0 = some (bo false, []) :=
  along_sound (ans := [(4, Ans.l (Ex.exit 0) (stOf 20 [2, 8, 9, 10, 11, 12, 13] [(0, st s), (3, i6 (↑i0 : Int)), (4, i6 (↑i0 : Int)), (5, st s), (6, i6 (↑(ByteArray.size s) : Int)), (7, bo false)] [])), (7, Ans.b false)]) (by kernel_rfl) (And.intro h0 (And.intro h1 trivial))
theorem small_ptt (s : NSys) (X : Ext) (call : Caller) (lf : Nat)
  (h0 : decide ((↑(List.length (NSys.digits s)) : Int) ≤ 40) = true)
  (h1 : decide ((↑(List.length (NSys.powers s)) : Int) ≤ 10) = true) : vbody Tryd.prog X call lf noFg Tryd.f13 (codeOf Tryd.f13) [AV.agg (sysC s)] [] 0 = some (bo true, [Ob.cells (sysC s)]) :=
  along_sound (ans := [(7, Ans.b true), (16, Ans.b true)]) (by kernel_rfl) (And.intro h0 (And.intro h1 trivial))
theorem small_ptf (s : NSys) (X : Ext) (call : Caller) (lf : Nat)
  (h0 : decide ((↑(List.length (NSys.digits s)) : Int) ≤ 40) = true)
  (h1 : decide ((↑(List.length (NSys.powers s)) : Int) ≤ 10) = false) : vbody Tryd.prog X call lf noFg Tryd.f13 (codeOf Tryd.f13) [AV.agg (sysC s)] [] 0 = some (bo false, [Ob.cells (sysC s)]) :=
  along_sound (ans := [(7, Ans.b true), (16, Ans.b false)]) (by kernel_rfl) (And.intro h0 (And.intro h1 trivial))
theorem small_pf (s : NSys) (X : Ext) (call : Caller) (lf : Nat)
  (h0 : decide ((↑(List.length (NSys.digits s)) : Int) ≤ 40) = false) : vbody Tryd.prog X call lf noFg Tryd.f13 (codeOf Tryd.f13) [AV.agg (sysC s)] [] 0 = some (bo false, [Ob.cells (sysC s)]) :=
  along_sound (ans := [(7, Ans.b false)]) (by kernel_rfl) (And.intro h0 trivial)
theorem great_pt (s : NSys) (X : Ext) (call : Caller) (lf : Nat)
  (h0 : callv X call false 22 [AV.agg (sysC s)] [Ob.cells (sysC s)] 0 = some (bo true, [Ob.cells (sysC s)])) : vbody Tryd.prog X call lf noFg Tryd.f30 (codeOf Tryd.f30) [AV.agg (sysC s)] [] 0 = some (i6 9999, [Ob.cells (sysC s)]) :=
  along_sound (ans := [(5, Ans.v (bo true))]) (by kernel_rfl) (And.intro h0 trivial)
theorem great_pf (s : NSys) (X : Ext) (call : Caller) (lf : Nat)
  (h0 : callv X call false 22 [AV.agg (sysC s)] [Ob.cells (sysC s)] 0 = some (bo false, [Ob.cells (sysC s)])) : vbody Tryd.prog X call lf noFg Tryd.f30 (codeOf Tryd.f30) [AV.agg (sysC s)] [] 0 = some (i6 (-1), [Ob.cells (sysC s)]) :=
  along_sound (ans := [(5, Ans.v (bo false))]) (by kernel_rfl) (And.intro h0 trivial)


def rtokF (s : ByteArray) (i : Nat) : St := (stOf 20 [2, 4, 5, 6, 7, 8, 9, 10, 11, 12, 13] [(0, st s), (3, i6 (↑i : Int))] [])
abbrev D31 : List Nat := [9, 8, 2, 13, 12, 11, 10, 7, 6, 5, 4]
theorem dead31 : (deadC (loopN Tryd.f31 0) ([], [])).2 = D31 := by kernel_rfl
theorem rtok_round {X : Ext} {call : Caller} {lf : Nat} {s : ByteArray} (hs : s.size ≤ 140737488355328) {i : Nat} (hi : i < s.size) (hb : 32 < (s.data[i]'hi).toNat) :
    ∃ S1, vexec Tryd.prog X call lf 0 noFg (loopN Tryd.f31 0) (rtokF s i) = some (.normal, S1) ∧ forget D31 S1 = rtokF s (i + 1) := by
  refine ⟨_, rtok_r0_tf s ((s.data[i]'hi).toNat : Int) X call lf i (by simpa using hi) (index_byte Tryd.underlying9 hi) (by simp; omega), ?_⟩
  have e : w6 ((i : Int) + 1) = ((i + 1 : Nat) : Int) := wrap_small (by omega)
  rw [e]
  show _ = _
  kernel_rfl
theorem rtok_spec (X : Ext) (call : Caller) {s : ByteArray} (hs : s.size ≤ 140737488355328) (hv : callv X call false 47 [AV.str s] [] 0 = some (AV.bool (Lib.validD (bytes s)), [])) :
    vbody Tryd.prog X call (s.size + 1) noFg Tryd.f31 (codeOf Tryd.f31) [AV.str s] [] 0 = some (.bool (tokB s), []) := by
  have start : forget D31 (stOf 20 [] [(0, st s), (2, bo false), (3, i6 0)] []) = rtokF s 0 := by kernel_rfl
  rcases first_fail (p := fun i => ∀ hi : i < s.size, 32 < (s.data[i]'hi).toNat) s.size with hall | ⟨k, hk, hbad, hbefore⟩
  · have hbig : bigB (bytes s) = true := bigB_iff.2 fun i hi => hall i hi hi
    have hloop := loop_run (P := Tryd.prog) (X := X) (call := call) (lf := s.size + 1) (ro := 0) (fg := noFg) dead31 (rtokF s) s.size (Nat.lt_succ_self _) start (fun i hi => rtok_round hs hi (hall i hi hi))
      (rtok_r0_f s X call (s.size + 1) s.size (by simp)) (by simp)
    by_cases he : (!ByteArray.toList s == ByteArray.toList (ByteArray.mk #[])) = true
    · cases hvv : Lib.validD (bytes s) with
      | true =>
        rw [hvv] at hv
        have := rtok_plftt s X call (s.size + 1) s.size hloop he hv
        rw [this]
        simp only [tokB, hbig, he, hvv, Bool.and_self]
      | false =>
        rw [hvv] at hv
        have := rtok_plftf s X call (s.size + 1) s.size hloop he hv
        rw [this]
        simp only [tokB, hbig, he, hvv, Bool.and_false]
    · have he' : (!ByteArray.toList s == ByteArray.toList (ByteArray.mk #[])) = false := by simpa using he
      have := rtok_plff s X call (s.size + 1) s.size hloop he'
      rw [this]
      simp only [tokB, hbig, he', Bool.and_false, Bool.false_and]
  · have hb : ¬ 32 < (s.data[k]'hk).toNat := fun h => hbad fun _ => h
    have h32 : ((s.data[k]'hk).toNat : Int) ≤ 32 := by
      have := hb
      clear hbad hbefore
      omega
    have hbig : bigB (bytes s) = false := by
      cases h : bigB (bytes s) with
      | false => rfl
      | true => exact absurd (bigB_iff.1 h k hk) hb
    have hloop := loop_run (P := Tryd.prog) (X := X) (call := call) (lf := s.size + 1) (ro := 0) (fg := noFg) dead31 (rtokF s) k (Nat.lt_succ_of_lt hk) start (fun i hi => rtok_round hs (Nat.lt_trans hi hk) (hbefore i hi (Nat.lt_trans hi hk)))
      (rtok_r0_tt s ((s.data[k]'hk).toNat : Int) X call (s.size + 1) k (by simpa using hk) (index_byte Tryd.underlying9 hk) (by simpa using h32)) (by simp)
    have := rtok_pltt s ((s.data[k]'hk).toNat : Int) X call (s.size + 1) k hloop
    rw [this]
    simp only [tokB, hbig, Bool.false_and]
def smallL (s : NSys) : Bool := decide ((↑(List.length s.digits) : Int) ≤ 40) && decide ((↑(List.length s.powers) : Int) ≤ 10)
theorem small_spec (s : NSys) (X : Ext) (call : Caller) (lf : Nat) : vbody Tryd.prog X call lf noFg Tryd.f13 (codeOf Tryd.f13) [AV.agg (sysC s)] [] 0 = some (bo (smallL s), [Ob.cells (sysC s)]) := by
  unfold smallL
  cases h0 : decide ((↑(List.length s.digits) : Int) ≤ 40) <;> cases h1 : decide ((↑(List.length s.powers) : Int) ≤ 10) <;> first
    | exact small_ptt s X call lf h0 h1
    | exact small_ptf s X call lf h0 h1
    | exact small_pf s X call lf h0
theorem great_spec (s : NSys) (X : Ext) (call : Caller) (lf : Nat) (b : Bool) (h : callv X call false 22 [AV.agg (sysC s)] [Ob.cells (sysC s)] 0 = some (bo b, [Ob.cells (sysC s)])) :
    vbody Tryd.prog X call lf noFg Tryd.f30 (codeOf Tryd.f30) [AV.agg (sysC s)] [] 0 = some (i6 (if b then 9999 else -1), [Ob.cells (sysC s)]) := by
  cases b with
  | true => exact great_pt s X call lf h
  | false => exact great_pf s X call lf h
end Go.Proofs.Num
end
/- Numeral: the reference's Valid: paths. -/
section
open Go Go.Vm Go.Proofs
namespace Go.Proofs.Num
def fg14 : Nat → List Nat
  | 1 => [5, 6, 7, 8, 9, 10, 11, 12, 13, 14, 15, 16, 17, 18, 19, 20, 21, 22, 23, 24, 25, 26, 27, 28, 29, 30, 31, 32, 33, 34, 35, 36, 37, 38, 39, 40, 41, 42, 43, 44, 45, 46, 47]
  | 13 => [77, 78, 79, 80, 81, 82, 83, 84, 85, 86, 87, 88, 89, 90, 91, 92, 93, 94, 95, 96, 97, 98]
  | _ => []

theorem rval_g1_tt (s : NSys) (X : Ext) (call : Caller) (lf : Nat)
  (h0 : (NSys.base s != 10) = true)
  (h1 : (NSys.base s != 20) = true) : vexec Tryd.prog X call lf 0 fg14 (regN Tryd.f14 1) (stOf 99 [] [(0, AV.agg (sysC s)), (1, AV.ref 0 0), (2, bo false)] [Ob.cells (sysC s)]) = some (Ex.normal, stOf 99 [5, 6, 7, 8, 9, 10, 11, 12, 13, 14, 15, 16, 17, 18, 19, 20, 21, 22, 23, 24, 25, 26, 27, 28, 29, 30, 31, 32, 33, 34, 35, 36, 37, 38, 39, 40, 41, 42, 43, 44, 45, 46, 47] [(0, AV.agg (sysC s)), (1, AV.ref 0 0), (2, bo false), (48, bo true)] [Ob.cells (sysC s)]) :=
  around_sound (ans := [(3, Ans.b true), (10, Ans.b true)]) (by kernel_rfl) (And.intro h0 (And.intro h1 trivial))
theorem rval_g1_tft (s : NSys) (X : Ext) (call : Caller) (lf : Nat)
  (h0 : (NSys.base s != 10) = true)
  (h1 : (NSys.base s != 20) = false)
  (h2 : ((↑(List.length (NSys.digits s)) : Int) != NSys.base s) = true) : vexec Tryd.prog X call lf 0 fg14 (regN Tryd.f14 1) (stOf 99 [] [(0, AV.agg (sysC s)), (1, AV.ref 0 0), (2, bo false)] [Ob.cells (sysC s)]) = some (Ex.normal, stOf 99 [5, 6, 7, 8, 9, 10, 11, 12, 13, 14, 15, 16, 17, 18, 19, 20, 21, 22, 23, 24, 25, 26, 27, 28, 29, 30, 31, 32, 33, 34, 35, 36, 37, 38, 39, 40, 41, 42, 43, 44, 45, 46, 47] [(0, AV.agg (sysC s)), (1, AV.ref 0 0), (2, bo false), (48, bo true)] [Ob.cells (sysC s)]) :=
  around_sound (ans := [(3, Ans.b true), (10, Ans.b false), (24, Ans.b true)]) (by kernel_rfl) (And.intro h0 (And.intro h1 (And.intro h2 trivial)))
theorem rval_g1_tfft (s : NSys) (X : Ext) (call : Caller) (lf : Nat)
  (h0 : (NSys.base s != 10) = true)
  (h1 : (NSys.base s != 20) = false)
  (h2 : ((↑(List.length (NSys.digits s)) : Int) != NSys.base s) = false)
  (h3 : ((↑(List.length (NSys.powers s)) : Int) != 3) = true) : vexec Tryd.prog X call lf 0 fg14 (regN Tryd.f14 1) (stOf 99 [] [(0, AV.agg (sysC s)), (1, AV.ref 0 0), (2, bo false)] [Ob.cells (sysC s)]) = some (Ex.normal, stOf 99 [5, 6, 7, 8, 9, 10, 11, 12, 13, 14, 15, 16, 17, 18, 19, 20, 21, 22, 23, 24, 25, 26, 27, 28, 29, 30, 31, 32, 33, 34, 35, 36, 37, 38, 39, 40, 41, 42, 43, 44, 45, 46, 47] [(0, AV.agg (sysC s)), (1, AV.ref 0 0), (2, bo false), (48, bo true)] [Ob.cells (sysC s)]) :=
  around_sound (ans := [(3, Ans.b true), (10, Ans.b false), (24, Ans.b false), (34, Ans.b true)]) (by kernel_rfl) (And.intro h0 (And.intro h1 (And.intro h2 (And.intro h3 trivial))))
theorem rval_g1_tffftttt (s : NSys) (X : Ext) (call : Caller) (lf : Nat)
  (h0 : (NSys.base s != 10) = true)
  (h1 : (NSys.base s != 20) = false)
  (h2 : ((↑(List.length (NSys.digits s)) : Int) != NSys.base s) = false)
  (h3 : ((↑(List.length (NSys.powers s)) : Int) != 3) = false)
  (h4 : (!empB (NSys.jo s)) = true)
  (h5 : callv X call false 31 [st (NSys.jo s)] [Ob.cells (sysC s)] 0 = some (bo true, [Ob.cells (sysC s)]))
  (h6 : (!empB (NSys.le s)) = true)
  (h7 : callv X call false 31 [st (NSys.le s)] [Ob.cells (sysC s)] 0 = some (bo true, [Ob.cells (sysC s)])) : vexec Tryd.prog X call lf 0 fg14 (regN Tryd.f14 1) (stOf 99 [] [(0, AV.agg (sysC s)), (1, AV.ref 0 0), (2, bo false)] [Ob.cells (sysC s)]) = some (Ex.normal, stOf 99 [5, 6, 7, 8, 9, 10, 11, 12, 13, 14, 15, 16, 17, 18, 19, 20, 21, 22, 23, 24, 25, 26, 27, 28, 29, 30, 31, 32, 33, 34, 35, 36, 37, 38, 39, 40, 41, 42, 43, 44, 45, 46, 47] [(0, AV.agg (sysC s)), (1, AV.ref 0 0), (2, bo false), (48, bo false)] [Ob.cells (sysC s)]) :=
  around_sound (ans := [(3, Ans.b true), (10, Ans.b false), (24, Ans.b false), (34, Ans.b false), (42, Ans.b true), (50, Ans.v (bo true)), (62, Ans.b true), (70, Ans.v (bo true))]) (by kernel_rfl) (And.intro h0 (And.intro h1 (And.intro h2 (And.intro h3 (And.intro h4 (And.intro h5 (And.intro h6 (And.intro h7 trivial))))))))
theorem rval_g1_tffftttf (s : NSys) (X : Ext) (call : Caller) (lf : Nat)
  (h0 : (NSys.base s != 10) = true)
  (h1 : (NSys.base s != 20) = false)
  (h2 : ((↑(List.length (NSys.digits s)) : Int) != NSys.base s) = false)
  (h3 : ((↑(List.length (NSys.powers s)) : Int) != 3) = false)
  (h4 : (!empB (NSys.jo s)) = true)
  (h5 : callv X call false 31 [st (NSys.jo s)] [Ob.cells (sysC s)] 0 = some (bo true, [Ob.cells (sysC s)]))
  (h6 : (!empB (NSys.le s)) = true)
  (h7 : callv X call false 31 [st (NSys.le s)] [Ob.cells (sysC s)] 0 = some (bo false, [Ob.cells (sysC s)])) : vexec Tryd.prog X call lf 0 fg14 (regN Tryd.f14 1) (stOf 99 [] [(0, AV.agg (sysC s)), (1, AV.ref 0 0), (2, bo false)] [Ob.cells (sysC s)]) = some (Ex.normal, stOf 99 [5, 6, 7, 8, 9, 10, 11, 12, 13, 14, 15, 16, 17, 18, 19, 20, 21, 22, 23, 24, 25, 26, 27, 28, 29, 30, 31, 32, 33, 34, 35, 36, 37, 38, 39, 40, 41, 42, 43, 44, 45, 46, 47] [(0, AV.agg (sysC s)), (1, AV.ref 0 0), (2, bo false), (48, bo true)] [Ob.cells (sysC s)]) :=
  around_sound (ans := [(3, Ans.b true), (10, Ans.b false), (24, Ans.b false), (34, Ans.b false), (42, Ans.b true), (50, Ans.v (bo true)), (62, Ans.b true), (70, Ans.v (bo false))]) (by kernel_rfl) (And.intro h0 (And.intro h1 (And.intro h2 (And.intro h3 (And.intro h4 (And.intro h5 (And.intro h6 (And.intro h7 trivial))))))))
theorem rval_g1_tfffttf (s : NSys) (X : Ext) (call : Caller) (lf : Nat)
  (h0 : (NSys.base s != 10) = true)
  (h1 : (NSys.base s != 20) = false)
  (h2 : ((↑(List.length (NSys.digits s)) : Int) != NSys.base s) = false)
  (h3 : ((↑(List.length (NSys.powers s)) : Int) != 3) = false)
  (h4 : (!empB (NSys.jo s)) = true)
  (h5 : callv X call false 31 [st (NSys.jo s)] [Ob.cells (sysC s)] 0 = some (bo true, [Ob.cells (sysC s)]))
  (h6 : (!empB (NSys.le s)) = false) : vexec Tryd.prog X call lf 0 fg14 (regN Tryd.f14 1) (stOf 99 [] [(0, AV.agg (sysC s)), (1, AV.ref 0 0), (2, bo false)] [Ob.cells (sysC s)]) = some (Ex.normal, stOf 99 [5, 6, 7, 8, 9, 10, 11, 12, 13, 14, 15, 16, 17, 18, 19, 20, 21, 22, 23, 24, 25, 26, 27, 28, 29, 30, 31, 32, 33, 34, 35, 36, 37, 38, 39, 40, 41, 42, 43, 44, 45, 46, 47] [(0, AV.agg (sysC s)), (1, AV.ref 0 0), (2, bo false), (48, bo false)] [Ob.cells (sysC s)]) :=
  around_sound (ans := [(3, Ans.b true), (10, Ans.b false), (24, Ans.b false), (34, Ans.b false), (42, Ans.b true), (50, Ans.v (bo true)), (62, Ans.b false)]) (by kernel_rfl) (And.intro h0 (And.intro h1 (And.intro h2 (And.intro h3 (And.intro h4 (And.intro h5 (And.intro h6 trivial)))))))
theorem rval_g1_tffftf (s : NSys) (X : Ext) (call : Caller) (lf : Nat)
  (h0 : (NSys.base s != 10) = true)
  (h1 : (NSys.base s != 20) = false)
  (h2 : ((↑(List.length (NSys.digits s)) : Int) != NSys.base s) = false)
  (h3 : ((↑(List.length (NSys.powers s)) : Int) != 3) = false)
  (h4 : (!empB (NSys.jo s)) = true)
  (h5 : callv X call false 31 [st (NSys.jo s)] [Ob.cells (sysC s)] 0 = some (bo false, [Ob.cells (sysC s)])) : vexec Tryd.prog X call lf 0 fg14 (regN Tryd.f14 1) (stOf 99 [] [(0, AV.agg (sysC s)), (1, AV.ref 0 0), (2, bo false)] [Ob.cells (sysC s)]) = some (Ex.normal, stOf 99 [5, 6, 7, 8, 9, 10, 11, 12, 13, 14, 15, 16, 17, 18, 19, 20, 21, 22, 23, 24, 25, 26, 27, 28, 29, 30, 31, 32, 33, 34, 35, 36, 37, 38, 39, 40, 41, 42, 43, 44, 45, 46, 47] [(0, AV.agg (sysC s)), (1, AV.ref 0 0), (2, bo false), (48, bo true)] [Ob.cells (sysC s)]) :=
  around_sound (ans := [(3, Ans.b true), (10, Ans.b false), (24, Ans.b false), (34, Ans.b false), (42, Ans.b true), (50, Ans.v (bo false))]) (by kernel_rfl) (And.intro h0 (And.intro h1 (And.intro h2 (And.intro h3 (And.intro h4 (And.intro h5 trivial))))))
theorem rval_g1_tfffftt (s : NSys) (X : Ext) (call : Caller) (lf : Nat)
  (h0 : (NSys.base s != 10) = true)
  (h1 : (NSys.base s != 20) = false)
  (h2 : ((↑(List.length (NSys.digits s)) : Int) != NSys.base s) = false)
  (h3 : ((↑(List.length (NSys.powers s)) : Int) != 3) = false)
  (h4 : (!empB (NSys.jo s)) = false)
  (h5 : (!empB (NSys.le s)) = true)
  (h6 : callv X call false 31 [st (NSys.le s)] [Ob.cells (sysC s)] 0 = some (bo true, [Ob.cells (sysC s)])) : vexec Tryd.prog X call lf 0 fg14 (regN Tryd.f14 1) (stOf 99 [] [(0, AV.agg (sysC s)), (1, AV.ref 0 0), (2, bo false)] [Ob.cells (sysC s)]) = some (Ex.normal, stOf 99 [5, 6, 7, 8, 9, 10, 11, 12, 13, 14, 15, 16, 17, 18, 19, 20, 21, 22, 23, 24, 25, 26, 27, 28, 29, 30, 31, 32, 33, 34, 35, 36, 37, 38, 39, 40, 41, 42, 43, 44, 45, 46, 47] [(0, AV.agg (sysC s)), (1, AV.ref 0 0), (2, bo false), (48, bo false)] [Ob.cells (sysC s)]) :=
  around_sound (ans := [(3, Ans.b true), (10, Ans.b false), (24, Ans.b false), (34, Ans.b false), (42, Ans.b false), (58, Ans.b true), (66, Ans.v (bo true))]) (by kernel_rfl) (And.intro h0 (And.intro h1 (And.intro h2 (And.intro h3 (And.intro h4 (And.intro h5 (And.intro h6 trivial)))))))
theorem rval_g1_tfffftf (s : NSys) (X : Ext) (call : Caller) (lf : Nat)
  (h0 : (NSys.base s != 10) = true)
  (h1 : (NSys.base s != 20) = false)
  (h2 : ((↑(List.length (NSys.digits s)) : Int) != NSys.base s) = false)
  (h3 : ((↑(List.length (NSys.powers s)) : Int) != 3) = false)
  (h4 : (!empB (NSys.jo s)) = false)
  (h5 : (!empB (NSys.le s)) = true)
  (h6 : callv X call false 31 [st (NSys.le s)] [Ob.cells (sysC s)] 0 = some (bo false, [Ob.cells (sysC s)])) : vexec Tryd.prog X call lf 0 fg14 (regN Tryd.f14 1) (stOf 99 [] [(0, AV.agg (sysC s)), (1, AV.ref 0 0), (2, bo false)] [Ob.cells (sysC s)]) = some (Ex.normal, stOf 99 [5, 6, 7, 8, 9, 10, 11, 12, 13, 14, 15, 16, 17, 18, 19, 20, 21, 22, 23, 24, 25, 26, 27, 28, 29, 30, 31, 32, 33, 34, 35, 36, 37, 38, 39, 40, 41, 42, 43, 44, 45, 46, 47] [(0, AV.agg (sysC s)), (1, AV.ref 0 0), (2, bo false), (48, bo true)] [Ob.cells (sysC s)]) :=
  around_sound (ans := [(3, Ans.b true), (10, Ans.b false), (24, Ans.b false), (34, Ans.b false), (42, Ans.b false), (58, Ans.b true), (66, Ans.v (bo false))]) (by kernel_rfl) (And.intro h0 (And.intro h1 (And.intro h2 (And.intro h3 (And.intro h4 (And.intro h5 (And.intro h6 trivial)))))))
theorem rval_g1_tfffff (s : NSys) (X : Ext) (call : Caller) (lf : Nat)
  (h0 : (NSys.base s != 10) = true)
  (h1 : (NSys.base s != 20) = false)
  (h2 : ((↑(List.length (NSys.digits s)) : Int) != NSys.base s) = false)
  (h3 : ((↑(List.length (NSys.powers s)) : Int) != 3) = false)
  (h4 : (!empB (NSys.jo s)) = false)
  (h5 : (!empB (NSys.le s)) = false) : vexec Tryd.prog X call lf 0 fg14 (regN Tryd.f14 1) (stOf 99 [] [(0, AV.agg (sysC s)), (1, AV.ref 0 0), (2, bo false)] [Ob.cells (sysC s)]) = some (Ex.normal, stOf 99 [5, 6, 7, 8, 9, 10, 11, 12, 13, 14, 15, 16, 17, 18, 19, 20, 21, 22, 23, 24, 25, 26, 27, 28, 29, 30, 31, 32, 33, 34, 35, 36, 37, 38, 39, 40, 41, 42, 43, 44, 45, 46, 47] [(0, AV.agg (sysC s)), (1, AV.ref 0 0), (2, bo false), (48, bo false)] [Ob.cells (sysC s)]) :=
  around_sound (ans := [(3, Ans.b true), (10, Ans.b false), (24, Ans.b false), (34, Ans.b false), (42, Ans.b false), (58, Ans.b false)]) (by kernel_rfl) (And.intro h0 (And.intro h1 (And.intro h2 (And.intro h3 (And.intro h4 (And.intro h5 trivial))))))
theorem rval_g1_ft (s : NSys) (X : Ext) (call : Caller) (lf : Nat)
  (h0 : (NSys.base s != 10) = false)
  (h1 : ((↑(List.length (NSys.digits s)) : Int) != NSys.base s) = true) : vexec Tryd.prog X call lf 0 fg14 (regN Tryd.f14 1) (stOf 99 [] [(0, AV.agg (sysC s)), (1, AV.ref 0 0), (2, bo false)] [Ob.cells (sysC s)]) = some (Ex.normal, stOf 99 [5, 6, 7, 8, 9, 10, 11, 12, 13, 14, 15, 16, 17, 18, 19, 20, 21, 22, 23, 24, 25, 26, 27, 28, 29, 30, 31, 32, 33, 34, 35, 36, 37, 38, 39, 40, 41, 42, 43, 44, 45, 46, 47] [(0, AV.agg (sysC s)), (1, AV.ref 0 0), (2, bo false), (48, bo true)] [Ob.cells (sysC s)]) :=
  around_sound (ans := [(3, Ans.b false), (21, Ans.b true)]) (by kernel_rfl) (And.intro h0 (And.intro h1 trivial))
theorem rval_g1_fft (s : NSys) (X : Ext) (call : Caller) (lf : Nat)
  (h0 : (NSys.base s != 10) = false)
  (h1 : ((↑(List.length (NSys.digits s)) : Int) != NSys.base s) = false)
  (h2 : ((↑(List.length (NSys.powers s)) : Int) != 3) = true) : vexec Tryd.prog X call lf 0 fg14 (regN Tryd.f14 1) (stOf 99 [] [(0, AV.agg (sysC s)), (1, AV.ref 0 0), (2, bo false)] [Ob.cells (sysC s)]) = some (Ex.normal, stOf 99 [5, 6, 7, 8, 9, 10, 11, 12, 13, 14, 15, 16, 17, 18, 19, 20, 21, 22, 23, 24, 25, 26, 27, 28, 29, 30, 31, 32, 33, 34, 35, 36, 37, 38, 39, 40, 41, 42, 43, 44, 45, 46, 47] [(0, AV.agg (sysC s)), (1, AV.ref 0 0), (2, bo false), (48, bo true)] [Ob.cells (sysC s)]) :=
  around_sound (ans := [(3, Ans.b false), (21, Ans.b false), (31, Ans.b true)]) (by kernel_rfl) (And.intro h0 (And.intro h1 (And.intro h2 trivial)))
theorem rval_g1_ffftttt (s : NSys) (X : Ext) (call : Caller) (lf : Nat)
  (h0 : (NSys.base s != 10) = false)
  (h1 : ((↑(List.length (NSys.digits s)) : Int) != NSys.base s) = false)
  (h2 : ((↑(List.length (NSys.powers s)) : Int) != 3) = false)
  (h3 : (!empB (NSys.jo s)) = true)
  (h4 : callv X call false 31 [st (NSys.jo s)] [Ob.cells (sysC s)] 0 = some (bo true, [Ob.cells (sysC s)]))
  (h5 : (!empB (NSys.le s)) = true)
  (h6 : callv X call false 31 [st (NSys.le s)] [Ob.cells (sysC s)] 0 = some (bo true, [Ob.cells (sysC s)])) : vexec Tryd.prog X call lf 0 fg14 (regN Tryd.f14 1) (stOf 99 [] [(0, AV.agg (sysC s)), (1, AV.ref 0 0), (2, bo false)] [Ob.cells (sysC s)]) = some (Ex.normal, stOf 99 [5, 6, 7, 8, 9, 10, 11, 12, 13, 14, 15, 16, 17, 18, 19, 20, 21, 22, 23, 24, 25, 26, 27, 28, 29, 30, 31, 32, 33, 34, 35, 36, 37, 38, 39, 40, 41, 42, 43, 44, 45, 46, 47] [(0, AV.agg (sysC s)), (1, AV.ref 0 0), (2, bo false), (48, bo false)] [Ob.cells (sysC s)]) :=
  around_sound (ans := [(3, Ans.b false), (21, Ans.b false), (31, Ans.b false), (39, Ans.b true), (47, Ans.v (bo true)), (59, Ans.b true), (67, Ans.v (bo true))]) (by kernel_rfl) (And.intro h0 (And.intro h1 (And.intro h2 (And.intro h3 (And.intro h4 (And.intro h5 (And.intro h6 trivial)))))))
theorem rval_g1_ffftttf (s : NSys) (X : Ext) (call : Caller) (lf : Nat)
  (h0 : (NSys.base s != 10) = false)
  (h1 : ((↑(List.length (NSys.digits s)) : Int) != NSys.base s) = false)
  (h2 : ((↑(List.length (NSys.powers s)) : Int) != 3) = false)
  (h3 : (!empB (NSys.jo s)) = true)
  (h4 : callv X call false 31 [st (NSys.jo s)] [Ob.cells (sysC s)] 0 = some (bo true, [Ob.cells (sysC s)]))
  (h5 : (!empB (NSys.le s)) = true)
  (h6 : callv X call false 31 [st (NSys.le s)] [Ob.cells (sysC s)] 0 = some (bo false, [Ob.cells (sysC s)])) : vexec Tryd.prog X call lf 0 fg14 (regN Tryd.f14 1) (stOf 99 [] [(0, AV.agg (sysC s)), (1, AV.ref 0 0), (2, bo false)] [Ob.cells (sysC s)]) = some (Ex.normal, stOf 99 [5, 6, 7, 8, 9, 10, 11, 12, 13, 14, 15, 16, 17, 18, 19, 20, 21, 22, 23, 24, 25, 26, 27, 28, 29, 30, 31, 32, 33, 34, 35, 36, 37, 38, 39, 40, 41, 42, 43, 44, 45, 46, 47] [(0, AV.agg (sysC s)), (1, AV.ref 0 0), (2, bo false), (48, bo true)] [Ob.cells (sysC s)]) :=
  around_sound (ans := [(3, Ans.b false), (21, Ans.b false), (31, Ans.b false), (39, Ans.b true), (47, Ans.v (bo true)), (59, Ans.b true), (67, Ans.v (bo false))]) (by kernel_rfl) (And.intro h0 (And.intro h1 (And.intro h2 (And.intro h3 (And.intro h4 (And.intro h5 (And.intro h6 trivial)))))))
theorem rval_g1_fffttf (s : NSys) (X : Ext) (call : Caller) (lf : Nat)
  (h0 : (NSys.base s != 10) = false)
  (h1 : ((↑(List.length (NSys.digits s)) : Int) != NSys.base s) = false)
  (h2 : ((↑(List.length (NSys.powers s)) : Int) != 3) = false)
  (h3 : (!empB (NSys.jo s)) = true)
  (h4 : callv X call false 31 [st (NSys.jo s)] [Ob.cells (sysC s)] 0 = some (bo true, [Ob.cells (sysC s)]))
  (h5 : (!empB (NSys.le s)) = false) : vexec Tryd.prog X call lf 0 fg14 (regN Tryd.f14 1) (stOf 99 [] [(0, AV.agg (sysC s)), (1, AV.ref 0 0), (2, bo false)] [Ob.cells (sysC s)]) = some (Ex.normal, stOf 99 [5, 6, 7, 8, 9, 10, 11, 12, 13, 14, 15, 16, 17, 18, 19, 20, 21, 22, 23, 24, 25, 26, 27, 28, 29, 30, 31, 32, 33, 34, 35, 36, 37, 38, 39, 40, 41, 42, 43, 44, 45, 46, 47] [(0, AV.agg (sysC s)), (1, AV.ref 0 0), (2, bo false), (48, bo false)] [Ob.cells (sysC s)]) :=
  around_sound (ans := [(3, Ans.b false), (21, Ans.b false), (31, Ans.b false), (39, Ans.b true), (47, Ans.v (bo true)), (59, Ans.b false)]) (by kernel_rfl) (And.intro h0 (And.intro h1 (And.intro h2 (And.intro h3 (And.intro h4 (And.intro h5 trivial))))))
theorem rval_g1_ffftf (s : NSys) (X : Ext) (call : Caller) (lf : Nat)
  (h0 : (NSys.base s != 10) = false)
  (h1 : ((↑(List.length (NSys.digits s)) : Int) != NSys.base s) = false)
  (h2 : ((↑(List.length (NSys.powers s)) : Int) != 3) = false)
  (h3 : (!empB (NSys.jo s)) = true)
  (h4 : callv X call false 31 [st (NSys.jo s)] [Ob.cells (sysC s)] 0 = some (bo false, [Ob.cells (sysC s)])) : vexec Tryd.prog X call lf 0 fg14 (regN Tryd.f14 1) (stOf 99 [] [(0, AV.agg (sysC s)), (1, AV.ref 0 0), (2, bo false)] [Ob.cells (sysC s)]) = some (Ex.normal, stOf 99 [5, 6, 7, 8, 9, 10, 11, 12, 13, 14, 15, 16, 17, 18, 19, 20, 21, 22, 23, 24, 25, 26, 27, 28, 29, 30, 31, 32, 33, 34, 35, 36, 37, 38, 39, 40, 41, 42, 43, 44, 45, 46, 47] [(0, AV.agg (sysC s)), (1, AV.ref 0 0), (2, bo false), (48, bo true)] [Ob.cells (sysC s)]) :=
  around_sound (ans := [(3, Ans.b false), (21, Ans.b false), (31, Ans.b false), (39, Ans.b true), (47, Ans.v (bo false))]) (by kernel_rfl) (And.intro h0 (And.intro h1 (And.intro h2 (And.intro h3 (And.intro h4 trivial)))))
theorem rval_g1_fffftt (s : NSys) (X : Ext) (call : Caller) (lf : Nat)
  (h0 : (NSys.base s != 10) = false)
  (h1 : ((↑(List.length (NSys.digits s)) : Int) != NSys.base s) = false)
  (h2 : ((↑(List.length (NSys.powers s)) : Int) != 3) = false)
  (h3 : (!empB (NSys.jo s)) = false)
  (h4 : (!empB (NSys.le s)) = true)
  (h5 : callv X call false 31 [st (NSys.le s)] [Ob.cells (sysC s)] 0 = some (bo true, [Ob.cells (sysC s)])) : vexec Tryd.prog X call lf 0 fg14 (regN Tryd.f14 1) (stOf 99 [] [(0, AV.agg (sysC s)), (1, AV.ref 0 0), (2, bo false)] [Ob.cells (sysC s)]) = some (Ex.normal, stOf 99 [5, 6, 7, 8, 9, 10, 11, 12, 13, 14, 15, 16, 17, 18, 19, 20, 21, 22, 23, 24, 25, 26, 27, 28, 29, 30, 31, 32, 33, 34, 35, 36, 37, 38, 39, 40, 41, 42, 43, 44, 45, 46, 47] [(0, AV.agg (sysC s)), (1, AV.ref 0 0), (2, bo false), (48, bo false)] [Ob.cells (sysC s)]) :=
  around_sound (ans := [(3, Ans.b false), (21, Ans.b false), (31, Ans.b false), (39, Ans.b false), (55, Ans.b true), (63, Ans.v (bo true))]) (by kernel_rfl) (And.intro h0 (And.intro h1 (And.intro h2 (And.intro h3 (And.intro h4 (And.intro h5 trivial))))))
theorem rval_g1_fffftf (s : NSys) (X : Ext) (call : Caller) (lf : Nat)
  (h0 : (NSys.base s != 10) = false)
  (h1 : ((↑(List.length (NSys.digits s)) : Int) != NSys.base s) = false)
  (h2 : ((↑(List.length (NSys.powers s)) : Int) != 3) = false)
  (h3 : (!empB (NSys.jo s)) = false)
  (h4 : (!empB (NSys.le s)) = true)
  (h5 : callv X call false 31 [st (NSys.le s)] [Ob.cells (sysC s)] 0 = some (bo false, [Ob.cells (sysC s)])) : vexec Tryd.prog X call lf 0 fg14 (regN Tryd.f14 1) (stOf 99 [] [(0, AV.agg (sysC s)), (1, AV.ref 0 0), (2, bo false)] [Ob.cells (sysC s)]) = some (Ex.normal, stOf 99 [5, 6, 7, 8, 9, 10, 11, 12, 13, 14, 15, 16, 17, 18, 19, 20, 21, 22, 23, 24, 25, 26, 27, 28, 29, 30, 31, 32, 33, 34, 35, 36, 37, 38, 39, 40, 41, 42, 43, 44, 45, 46, 47] [(0, AV.agg (sysC s)), (1, AV.ref 0 0), (2, bo false), (48, bo true)] [Ob.cells (sysC s)]) :=
  around_sound (ans := [(3, Ans.b false), (21, Ans.b false), (31, Ans.b false), (39, Ans.b false), (55, Ans.b true), (63, Ans.v (bo false))]) (by kernel_rfl) (And.intro h0 (And.intro h1 (And.intro h2 (And.intro h3 (And.intro h4 (And.intro h5 trivial))))))
theorem rval_g1_fffff (s : NSys) (X : Ext) (call : Caller) (lf : Nat)
  (h0 : (NSys.base s != 10) = false)
  (h1 : ((↑(List.length (NSys.digits s)) : Int) != NSys.base s) = false)
  (h2 : ((↑(List.length (NSys.powers s)) : Int) != 3) = false)
  (h3 : (!empB (NSys.jo s)) = false)
  (h4 : (!empB (NSys.le s)) = false) : vexec Tryd.prog X call lf 0 fg14 (regN Tryd.f14 1) (stOf 99 [] [(0, AV.agg (sysC s)), (1, AV.ref 0 0), (2, bo false)] [Ob.cells (sysC s)]) = some (Ex.normal, stOf 99 [5, 6, 7, 8, 9, 10, 11, 12, 13, 14, 15, 16, 17, 18, 19, 20, 21, 22, 23, 24, 25, 26, 27, 28, 29, 30, 31, 32, 33, 34, 35, 36, 37, 38, 39, 40, 41, 42, 43, 44, 45, 46, 47] [(0, AV.agg (sysC s)), (1, AV.ref 0 0), (2, bo false), (48, bo false)] [Ob.cells (sysC s)]) :=
  around_sound (ans := [(3, Ans.b false), (21, Ans.b false), (31, Ans.b false), (39, Ans.b false), (55, Ans.b false)]) (by kernel_rfl) (And.intro h0 (And.intro h1 (And.intro h2 (And.intro h3 (And.intro h4 trivial)))))
theorem rval_pt (s : NSys) (b1 : Bool) (X : Ext) (call : Caller) (lf : Nat)
  (h0 : vexec Tryd.prog X call lf 0 fg14 (regN Tryd.f14 1) (stOf 99 [] [(0, AV.agg (sysC s)), (1, AV.ref 0 0), (2, bo false)] [Ob.cells (sysC s)]) = some (Ex.normal, stOf 99 [5, 6, 7, 8, 9, 10, 11, 12, 13, 14, 15, 16, 17, 18, 19, 20, 21, 22, 23, 24, 25, 26, 27, 28, 29, 30, 31, 32, 33, 34, 35, 36, 37, 38, 39, 40, 41, 42, 43, 44, 45, 46, 47] [(0, AV.agg (sysC s)), (1, AV.ref 0 0), (2, bo false), (48, bo b1)] [Ob.cells (sysC s)]))
  (h1 : b1 = true) : vbody Tryd.prog X call lf fg14 Tryd.f14 (codeOf Tryd.f14) [AV.agg (sysC s)] [] 0 = some (bo false, [Ob.cells (sysC s)]) :=
  along_sound (ans := [(3, Ans.l Ex.normal (stOf 99 [5, 6, 7, 8, 9, 10, 11, 12, 13, 14, 15, 16, 17, 18, 19, 20, 21, 22, 23, 24, 25, 26, 27, 28, 29, 30, 31, 32, 33, 34, 35, 36, 37, 38, 39, 40, 41, 42, 43, 44, 45, 46, 47] [(0, AV.agg (sysC s)), (1, AV.ref 0 0), (2, bo false), (48, bo b1)] [Ob.cells (sysC s)])), (4, Ans.b true)]) (by kernel_rfl) (And.intro h0 (And.intro h1 trivial))
theorem rval_r0_tt (s : NSys) (rest : List AV) (b1 : Bool) (w : ByteArray) (X : Ext) (call : Caller) (lf : Nat) (i0 : Nat)
  (h0 : decide ((↑i0 : Int) < (↑(List.length (NSys.digits s)) : Int)) = true)
  (h1 : keep [Ob.cells (sysC s)] (indexAddrv Tryd.prog 22 [Ob.cells (sysC s)] (lro (List.length (NSys.digits s)) 1 (List.map st (NSys.digits s))) (i6 (↑i0 : Int))) = some (AV.eaddr rest, [Ob.cells (sysC s)]))
  (h2 : keep [Ob.cells (sysC s)] (loadv Tryd.prog 9 [Ob.cells (sysC s)] (AV.eaddr rest)) = some (st w, [Ob.cells (sysC s)]))
  (h3 : callv X call false 31 [st w] [Ob.cells (sysC s)] 0 = some (bo true, [Ob.cells (sysC s)])) : vexec Tryd.prog X call lf 0 fg14 (loopN Tryd.f14 0) (stOf 99 [2, 5, 6, 7, 8, 9, 10, 11, 12, 13, 14, 15, 16, 17, 18, 19, 20, 21, 22, 23, 24, 25, 26, 27, 28, 29, 30, 31, 32, 33, 34, 35, 36, 37, 38, 39, 40, 41, 42, 43, 44, 45, 46, 47, 49, 50, 51, 52, 53, 54, 55, 56, 57, 58, 59, 60, 61, 62] [(0, AV.agg (sysC s)), (1, AV.ref 0 0), (3, i6 (↑i0 : Int)), (48, bo b1)] [Ob.cells (sysC s)]) = some (Ex.normal, stOf 99 [2, 5, 6, 7, 8, 9, 10, 11, 12, 13, 14, 15, 16, 17, 18, 19, 20, 21, 22, 23, 24, 25, 26, 27, 28, 29, 30, 31, 32, 33, 34, 35, 36, 37, 38, 39, 40, 41, 42, 43, 44, 45, 46, 47] [(0, AV.agg (sysC s)), (1, AV.ref 0 0), (3, i6 (w6 ((↑i0 : Int) + 1))), (48, bo b1), (49, i6 (↑i0 : Int)), (50, AV.ref 0 1), (51, lro (List.length (NSys.digits s)) 1 (List.map st (NSys.digits s))), (52, i6 (↑(List.length (NSys.digits s)) : Int)), (53, bo true), (54, i6 (↑i0 : Int)), (55, i6 (w6 ((↑i0 : Int) + 1))), (56, AV.ref 0 1), (57, lro (List.length (NSys.digits s)) 1 (List.map st (NSys.digits s))), (58, i6 (↑i0 : Int)), (59, AV.eaddr rest), (60, st w), (61, bo true), (62, bo false)] [Ob.cells (sysC s)]) :=
  around_sound (ans := [(5, Ans.b true), (11, Ans.v (AV.eaddr rest)), (12, Ans.v (st w)), (13, Ans.v (bo true))]) (by kernel_rfl) (And.intro h0 (And.intro h1 (And.intro h2 (And.intro h3 trivial))))
theorem rval_r0_tf (s : NSys) (rest : List AV) (b1 : Bool) (w : ByteArray) (X : Ext) (call : Caller) (lf : Nat) (i0 : Nat)
  (h0 : decide ((↑i0 : Int) < (↑(List.length (NSys.digits s)) : Int)) = true)
  (h1 : keep [Ob.cells (sysC s)] (indexAddrv Tryd.prog 22 [Ob.cells (sysC s)] (lro (List.length (NSys.digits s)) 1 (List.map st (NSys.digits s))) (i6 (↑i0 : Int))) = some (AV.eaddr rest, [Ob.cells (sysC s)]))
  (h2 : keep [Ob.cells (sysC s)] (loadv Tryd.prog 9 [Ob.cells (sysC s)] (AV.eaddr rest)) = some (st w, [Ob.cells (sysC s)]))
  (h3 : callv X call false 31 [st w] [Ob.cells (sysC s)] 0 = some (bo false, [Ob.cells (sysC s)])) : vexec Tryd.prog X call lf 0 fg14 (loopN Tryd.f14 0) (stOf 99 [2, 5, 6, 7, 8, 9, 10, 11, 12, 13, 14, 15, 16, 17, 18, 19, 20, 21, 22, 23, 24, 25, 26, 27, 28, 29, 30, 31, 32, 33, 34, 35, 36, 37, 38, 39, 40, 41, 42, 43, 44, 45, 46, 47, 49, 50, 51, 52, 53, 54, 55, 56, 57, 58, 59, 60, 61, 62] [(0, AV.agg (sysC s)), (1, AV.ref 0 0), (3, i6 (↑i0 : Int)), (48, bo b1)] [Ob.cells (sysC s)]) = some (Ex.ret, stOf 99 [5, 6, 7, 8, 9, 10, 11, 12, 13, 14, 15, 16, 17, 18, 19, 20, 21, 22, 23, 24, 25, 26, 27, 28, 29, 30, 31, 32, 33, 34, 35, 36, 37, 38, 39, 40, 41, 42, 43, 44, 45, 46, 47, 54, 55] [(0, AV.agg (sysC s)), (1, AV.ref 0 0), (2, bo false), (3, i6 (↑i0 : Int)), (48, bo b1), (49, i6 (↑i0 : Int)), (50, AV.ref 0 1), (51, lro (List.length (NSys.digits s)) 1 (List.map st (NSys.digits s))), (52, i6 (↑(List.length (NSys.digits s)) : Int)), (53, bo true), (56, AV.ref 0 1), (57, lro (List.length (NSys.digits s)) 1 (List.map st (NSys.digits s))), (58, i6 (↑i0 : Int)), (59, AV.eaddr rest), (60, st w), (61, bo false), (62, bo true)] [Ob.cells (sysC s)]) :=
  around_sound (ans := [(5, Ans.b true), (11, Ans.v (AV.eaddr rest)), (12, Ans.v (st w)), (13, Ans.v (bo false))]) (by kernel_rfl) (And.intro h0 (And.intro h1 (And.intro h2 (And.intro h3 trivial))))
theorem rval_pfltf (s : NSys) (rest : List AV) (b1 : Bool) (w : ByteArray) (X : Ext) (call : Caller) (lf : Nat) (i0 : Nat)
  (h0 : vexec Tryd.prog X call lf 0 fg14 (regN Tryd.f14 1) (stOf 99 [] [(0, AV.agg (sysC s)), (1, AV.ref 0 0), (2, bo false)] [Ob.cells (sysC s)]) = some (Ex.normal, stOf 99 [5, 6, 7, 8, 9, 10, 11, 12, 13, 14, 15, 16, 17, 18, 19, 20, 21, 22, 23, 24, 25, 26, 27, 28, 29, 30, 31, 32, 33, 34, 35, 36, 37, 38, 39, 40, 41, 42, 43, 44, 45, 46, 47] [(0, AV.agg (sysC s)), (1, AV.ref 0 0), (2, bo false), (48, bo b1)] [Ob.cells (sysC s)]))
  (h1 : b1 = false)
  (h2 : vexec Tryd.prog X call lf 0 fg14 (Code.loop (loopN Tryd.f14 0)) (stOf 99 [5, 6, 7, 8, 9, 10, 11, 12, 13, 14, 15, 16, 17, 18, 19, 20, 21, 22, 23, 24, 25, 26, 27, 28, 29, 30, 31, 32, 33, 34, 35, 36, 37, 38, 39, 40, 41, 42, 43, 44, 45, 46, 47] [(0, AV.agg (sysC s)), (1, AV.ref 0 0), (2, bo false), (3, i6 0), (48, bo b1)] [Ob.cells (sysC s)]) = some (Ex.ret, stOf 99 [5, 6, 7, 8, 9, 10, 11, 12, 13, 14, 15, 16, 17, 18, 19, 20, 21, 22, 23, 24, 25, 26, 27, 28, 29, 30, 31, 32, 33, 34, 35, 36, 37, 38, 39, 40, 41, 42, 43, 44, 45, 46, 47, 54, 55] [(0, AV.agg (sysC s)), (1, AV.ref 0 0), (2, bo false), (3, i6 (↑i0 : Int)), (48, bo b1), (49, i6 (↑i0 : Int)), (50, AV.ref 0 1), (51, lro (List.length (NSys.digits s)) 1 (List.map st (NSys.digits s))), (52, i6 (↑(List.length (NSys.digits s)) : Int)), (53, bo true), (56, AV.ref 0 1), (57, lro (List.length (NSys.digits s)) 1 (List.map st (NSys.digits s))), (58, i6 (↑i0 : Int)), (59, AV.eaddr rest), (60, st w), (61, bo false), (62, bo true)] [Ob.cells (sysC s)])) : vbody Tryd.prog X call lf fg14 Tryd.f14 (codeOf Tryd.f14) [AV.agg (sysC s)] [] 0 = some (bo false, [Ob.cells (sysC s)]) :=
  along_sound (ans := [(3, Ans.l Ex.normal (stOf 99 [5, 6, 7, 8, 9, 10, 11, 12, 13, 14, 15, 16, 17, 18, 19, 20, 21, 22, 23, 24, 25, 26, 27, 28, 29, 30, 31, 32, 33, 34, 35, 36, 37, 38, 39, 40, 41, 42, 43, 44, 45, 46, 47] [(0, AV.agg (sysC s)), (1, AV.ref 0 0), (2, bo false), (48, bo b1)] [Ob.cells (sysC s)])), (4, Ans.b false), (7, Ans.l Ex.ret (stOf 99 [5, 6, 7, 8, 9, 10, 11, 12, 13, 14, 15, 16, 17, 18, 19, 20, 21, 22, 23, 24, 25, 26, 27, 28, 29, 30, 31, 32, 33, 34, 35, 36, 37, 38, 39, 40, 41, 42, 43, 44, 45, 46, 47, 54, 55] [(0, AV.agg (sysC s)), (1, AV.ref 0 0), (2, bo false), (3, i6 (↑i0 : Int)), (48, bo b1), (49, i6 (↑i0 : Int)), (50, AV.ref 0 1), (51, lro (List.length (NSys.digits s)) 1 (List.map st (NSys.digits s))), (52, i6 (↑(List.length (NSys.digits s)) : Int)), (53, bo true), (56, AV.ref 0 1), (57, lro (List.length (NSys.digits s)) 1 (List.map st (NSys.digits s))), (58, i6 (↑i0 : Int)), (59, AV.eaddr rest), (60, st w), (61, bo false), (62, bo true)] [Ob.cells (sysC s)]))]) (by kernel_rfl) (And.intro h0 (And.intro h1 (And.intro h2 trivial)))
theorem rval_r0_f (s : NSys) (b1 : Bool) (X : Ext) (call : Caller) (lf : Nat) (i0 : Nat)
  (h0 : decide ((↑i0 : Int) < (↑(List.length (NSys.digits s)) : Int)) = false) : vexec Tryd.prog X call lf 0 fg14 (loopN Tryd.f14 0) (stOf 99 [2, 5, 6, 7, 8, 9, 10, 11, 12, 13, 14, 15, 16, 17, 18, 19, 20, 21, 22, 23, 24, 25, 26, 27, 28, 29, 30, 31, 32, 33, 34, 35, 36, 37, 38, 39, 40, 41, 42, 43, 44, 45, 46, 47, 49, 50, 51, 52, 53, 54, 55, 56, 57, 58, 59, 60, 61, 62] [(0, AV.agg (sysC s)), (1, AV.ref 0 0), (3, i6 (↑i0 : Int)), (48, bo b1)] [Ob.cells (sysC s)]) = some (Ex.exit 0, stOf 99 [2, 5, 6, 7, 8, 9, 10, 11, 12, 13, 14, 15, 16, 17, 18, 19, 20, 21, 22, 23, 24, 25, 26, 27, 28, 29, 30, 31, 32, 33, 34, 35, 36, 37, 38, 39, 40, 41, 42, 43, 44, 45, 46, 47, 54, 55, 56, 57, 58, 59, 60, 61, 62] [(0, AV.agg (sysC s)), (1, AV.ref 0 0), (3, i6 (↑i0 : Int)), (48, bo b1), (49, i6 (↑i0 : Int)), (50, AV.ref 0 1), (51, lro (List.length (NSys.digits s)) 1 (List.map st (NSys.digits s))), (52, i6 (↑(List.length (NSys.digits s)) : Int)), (53, bo false)] [Ob.cells (sysC s)]) :=
  around_sound (ans := [(5, Ans.b false)]) (by kernel_rfl) (And.intro h0 trivial)
theorem rval_r1_tt (s : NSys) (rest : List AV) (b1 : Bool) (w : ByteArray) (X : Ext) (call : Caller) (lf : Nat) (i0 : Nat) (i1 : Nat)
  (h0 : decide ((↑i1 : Int) < (↑(List.length (NSys.powers s)) : Int)) = true)
  (h1 : keep [Ob.cells (sysC s)] (indexAddrv Tryd.prog 22 [Ob.cells (sysC s)] (lro (List.length (NSys.powers s)) 1 (List.map st (NSys.powers s))) (i6 (↑i1 : Int))) = some (AV.eaddr rest, [Ob.cells (sysC s)]))
  (h2 : keep [Ob.cells (sysC s)] (loadv Tryd.prog 9 [Ob.cells (sysC s)] (AV.eaddr rest)) = some (st w, [Ob.cells (sysC s)]))
  (h3 : callv X call false 31 [st w] [Ob.cells (sysC s)] 0 = some (bo true, [Ob.cells (sysC s)])) : vexec Tryd.prog X call lf 0 fg14 (loopN Tryd.f14 1) (stOf 99 [2, 5, 6, 7, 8, 9, 10, 11, 12, 13, 14, 15, 16, 17, 18, 19, 20, 21, 22, 23, 24, 25, 26, 27, 28, 29, 30, 31, 32, 33, 34, 35, 36, 37, 38, 39, 40, 41, 42, 43, 44, 45, 46, 47, 54, 55, 56, 57, 58, 59, 60, 61, 62, 63, 64, 65, 66, 67, 68, 69, 70, 71, 72, 73, 74, 75, 76] [(0, AV.agg (sysC s)), (1, AV.ref 0 0), (3, i6 (↑i0 : Int)), (4, i6 (↑i1 : Int)), (48, bo b1), (49, i6 (↑i0 : Int)), (50, AV.ref 0 1), (51, lro (List.length (NSys.digits s)) 1 (List.map st (NSys.digits s))), (52, i6 (↑(List.length (NSys.digits s)) : Int)), (53, bo false)] [Ob.cells (sysC s)]) = some (Ex.normal, stOf 99 [2, 5, 6, 7, 8, 9, 10, 11, 12, 13, 14, 15, 16, 17, 18, 19, 20, 21, 22, 23, 24, 25, 26, 27, 28, 29, 30, 31, 32, 33, 34, 35, 36, 37, 38, 39, 40, 41, 42, 43, 44, 45, 46, 47, 54, 55, 56, 57, 58, 59, 60, 61, 62] [(0, AV.agg (sysC s)), (1, AV.ref 0 0), (3, i6 (↑i0 : Int)), (4, i6 (w6 ((↑i1 : Int) + 1))), (48, bo b1), (49, i6 (↑i0 : Int)), (50, AV.ref 0 1), (51, lro (List.length (NSys.digits s)) 1 (List.map st (NSys.digits s))), (52, i6 (↑(List.length (NSys.digits s)) : Int)), (53, bo false), (63, i6 (↑i1 : Int)), (64, AV.ref 0 2), (65, lro (List.length (NSys.powers s)) 1 (List.map st (NSys.powers s))), (66, i6 (↑(List.length (NSys.powers s)) : Int)), (67, bo true), (68, i6 (↑i1 : Int)), (69, i6 (w6 ((↑i1 : Int) + 1))), (70, AV.ref 0 2), (71, lro (List.length (NSys.powers s)) 1 (List.map st (NSys.powers s))), (72, i6 (↑i1 : Int)), (73, AV.eaddr rest), (74, st w), (75, bo true), (76, bo false)] [Ob.cells (sysC s)]) :=
  around_sound (ans := [(5, Ans.b true), (11, Ans.v (AV.eaddr rest)), (12, Ans.v (st w)), (13, Ans.v (bo true))]) (by kernel_rfl) (And.intro h0 (And.intro h1 (And.intro h2 (And.intro h3 trivial))))
theorem rval_r1_tf (s : NSys) (rest : List AV) (b1 : Bool) (w : ByteArray) (X : Ext) (call : Caller) (lf : Nat) (i0 : Nat) (i1 : Nat)
  (h0 : decide ((↑i1 : Int) < (↑(List.length (NSys.powers s)) : Int)) = true)
  (h1 : keep [Ob.cells (sysC s)] (indexAddrv Tryd.prog 22 [Ob.cells (sysC s)] (lro (List.length (NSys.powers s)) 1 (List.map st (NSys.powers s))) (i6 (↑i1 : Int))) = some (AV.eaddr rest, [Ob.cells (sysC s)]))
  (h2 : keep [Ob.cells (sysC s)] (loadv Tryd.prog 9 [Ob.cells (sysC s)] (AV.eaddr rest)) = some (st w, [Ob.cells (sysC s)]))
  (h3 : callv X call false 31 [st w] [Ob.cells (sysC s)] 0 = some (bo false, [Ob.cells (sysC s)])) : vexec Tryd.prog X call lf 0 fg14 (loopN Tryd.f14 1) (stOf 99 [2, 5, 6, 7, 8, 9, 10, 11, 12, 13, 14, 15, 16, 17, 18, 19, 20, 21, 22, 23, 24, 25, 26, 27, 28, 29, 30, 31, 32, 33, 34, 35, 36, 37, 38, 39, 40, 41, 42, 43, 44, 45, 46, 47, 54, 55, 56, 57, 58, 59, 60, 61, 62, 63, 64, 65, 66, 67, 68, 69, 70, 71, 72, 73, 74, 75, 76] [(0, AV.agg (sysC s)), (1, AV.ref 0 0), (3, i6 (↑i0 : Int)), (4, i6 (↑i1 : Int)), (48, bo b1), (49, i6 (↑i0 : Int)), (50, AV.ref 0 1), (51, lro (List.length (NSys.digits s)) 1 (List.map st (NSys.digits s))), (52, i6 (↑(List.length (NSys.digits s)) : Int)), (53, bo false)] [Ob.cells (sysC s)]) = some (Ex.ret, stOf 99 [5, 6, 7, 8, 9, 10, 11, 12, 13, 14, 15, 16, 17, 18, 19, 20, 21, 22, 23, 24, 25, 26, 27, 28, 29, 30, 31, 32, 33, 34, 35, 36, 37, 38, 39, 40, 41, 42, 43, 44, 45, 46, 47, 54, 55, 56, 57, 58, 59, 60, 61, 62, 68, 69] [(0, AV.agg (sysC s)), (1, AV.ref 0 0), (2, bo false), (3, i6 (↑i0 : Int)), (4, i6 (↑i1 : Int)), (48, bo b1), (49, i6 (↑i0 : Int)), (50, AV.ref 0 1), (51, lro (List.length (NSys.digits s)) 1 (List.map st (NSys.digits s))), (52, i6 (↑(List.length (NSys.digits s)) : Int)), (53, bo false), (63, i6 (↑i1 : Int)), (64, AV.ref 0 2), (65, lro (List.length (NSys.powers s)) 1 (List.map st (NSys.powers s))), (66, i6 (↑(List.length (NSys.powers s)) : Int)), (67, bo true), (70, AV.ref 0 2), (71, lro (List.length (NSys.powers s)) 1 (List.map st (NSys.powers s))), (72, i6 (↑i1 : Int)), (73, AV.eaddr rest), (74, st w), (75, bo false), (76, bo true)] [Ob.cells (sysC s)]) :=
  around_sound (ans := [(5, Ans.b true), (11, Ans.v (AV.eaddr rest)), (12, Ans.v (st w)), (13, Ans.v (bo false))]) (by kernel_rfl) (And.intro h0 (And.intro h1 (And.intro h2 (And.intro h3 trivial))))
theorem rval_pflfltf (s : NSys) (rest : List AV) (b1 : Bool) (w : ByteArray) (X : Ext) (call : Caller) (lf : Nat) (i0 : Nat) (i1 : Nat)
  (h0 : vexec Tryd.prog X call lf 0 fg14 (regN Tryd.f14 1) (stOf 99 [] [(0, AV.agg (sysC s)), (1, AV.ref 0 0), (2, bo false)] [Ob.cells (sysC s)]) = some (Ex.normal, stOf 99 [5, 6, 7, 8, 9, 10, 11, 12, 13, 14, 15, 16, 17, 18, 19, 20, 21, 22, 23, 24, 25, 26, 27, 28, 29, 30, 31, 32, 33, 34, 35, 36, 37, 38, 39, 40, 41, 42, 43, 44, 45, 46, 47] [(0, AV.agg (sysC s)), (1, AV.ref 0 0), (2, bo false), (48, bo b1)] [Ob.cells (sysC s)]))
  (h1 : b1 = false)
  (h2 : vexec Tryd.prog X call lf 0 fg14 (Code.loop (loopN Tryd.f14 0)) (stOf 99 [5, 6, 7, 8, 9, 10, 11, 12, 13, 14, 15, 16, 17, 18, 19, 20, 21, 22, 23, 24, 25, 26, 27, 28, 29, 30, 31, 32, 33, 34, 35, 36, 37, 38, 39, 40, 41, 42, 43, 44, 45, 46, 47] [(0, AV.agg (sysC s)), (1, AV.ref 0 0), (2, bo false), (3, i6 0), (48, bo b1)] [Ob.cells (sysC s)]) = some (Ex.exit 0, stOf 99 [2, 5, 6, 7, 8, 9, 10, 11, 12, 13, 14, 15, 16, 17, 18, 19, 20, 21, 22, 23, 24, 25, 26, 27, 28, 29, 30, 31, 32, 33, 34, 35, 36, 37, 38, 39, 40, 41, 42, 43, 44, 45, 46, 47, 54, 55, 56, 57, 58, 59, 60, 61, 62] [(0, AV.agg (sysC s)), (1, AV.ref 0 0), (3, i6 (↑i0 : Int)), (48, bo b1), (49, i6 (↑i0 : Int)), (50, AV.ref 0 1), (51, lro (List.length (NSys.digits s)) 1 (List.map st (NSys.digits s))), (52, i6 (↑(List.length (NSys.digits s)) : Int)), (53, bo false)] [Ob.cells (sysC s)]))
  (h3 : vexec Tryd.prog X call lf 0 fg14 (Code.loop (loopN Tryd.f14 1)) (stOf 99 [2, 5, 6, 7, 8, 9, 10, 11, 12, 13, 14, 15, 16, 17, 18, 19, 20, 21, 22, 23, 24, 25, 26, 27, 28, 29, 30, 31, 32, 33, 34, 35, 36, 37, 38, 39, 40, 41, 42, 43, 44, 45, 46, 47, 54, 55, 56, 57, 58, 59, 60, 61, 62] [(0, AV.agg (sysC s)), (1, AV.ref 0 0), (3, i6 (↑i0 : Int)), (4, i6 0), (48, bo b1), (49, i6 (↑i0 : Int)), (50, AV.ref 0 1), (51, lro (List.length (NSys.digits s)) 1 (List.map st (NSys.digits s))), (52, i6 (↑(List.length (NSys.digits s)) : Int)), (53, bo false)] [Ob.cells (sysC s)]) = some (Ex.ret, stOf 99 [5, 6, 7, 8, 9, 10, 11, 12, 13, 14, 15, 16, 17, 18, 19, 20, 21, 22, 23, 24, 25, 26, 27, 28, 29, 30, 31, 32, 33, 34, 35, 36, 37, 38, 39, 40, 41, 42, 43, 44, 45, 46, 47, 54, 55, 56, 57, 58, 59, 60, 61, 62, 68, 69] [(0, AV.agg (sysC s)), (1, AV.ref 0 0), (2, bo false), (3, i6 (↑i0 : Int)), (4, i6 (↑i1 : Int)), (48, bo b1), (49, i6 (↑i0 : Int)), (50, AV.ref 0 1), (51, lro (List.length (NSys.digits s)) 1 (List.map st (NSys.digits s))), (52, i6 (↑(List.length (NSys.digits s)) : Int)), (53, bo false), (63, i6 (↑i1 : Int)), (64, AV.ref 0 2), (65, lro (List.length (NSys.powers s)) 1 (List.map st (NSys.powers s))), (66, i6 (↑(List.length (NSys.powers s)) : Int)), (67, bo true), (70, AV.ref 0 2), (71, lro (List.length (NSys.powers s)) 1 (List.map st (NSys.powers s))), (72, i6 (↑i1 : Int)), (73, AV.eaddr rest), (74, st w), (75, bo false), (76, bo true)] [Ob.cells (sysC s)])) : vbody Tryd.prog X call lf fg14 Tryd.f14 (codeOf Tryd.f14) [AV.agg (sysC s)] [] 0 = some (bo false, [Ob.cells (sysC s)]) :=
  along_sound (ans := [(3, Ans.l Ex.normal (stOf 99 [5, 6, 7, 8, 9, 10, 11, 12, 13, 14, 15, 16, 17, 18, 19, 20, 21, 22, 23, 24, 25, 26, 27, 28, 29, 30, 31, 32, 33, 34, 35, 36, 37, 38, 39, 40, 41, 42, 43, 44, 45, 46, 47] [(0, AV.agg (sysC s)), (1, AV.ref 0 0), (2, bo false), (48, bo b1)] [Ob.cells (sysC s)])), (4, Ans.b false), (7, Ans.l (Ex.exit 0) (stOf 99 [2, 5, 6, 7, 8, 9, 10, 11, 12, 13, 14, 15, 16, 17, 18, 19, 20, 21, 22, 23, 24, 25, 26, 27, 28, 29, 30, 31, 32, 33, 34, 35, 36, 37, 38, 39, 40, 41, 42, 43, 44, 45, 46, 47, 54, 55, 56, 57, 58, 59, 60, 61, 62] [(0, AV.agg (sysC s)), (1, AV.ref 0 0), (3, i6 (↑i0 : Int)), (48, bo b1), (49, i6 (↑i0 : Int)), (50, AV.ref 0 1), (51, lro (List.length (NSys.digits s)) 1 (List.map st (NSys.digits s))), (52, i6 (↑(List.length (NSys.digits s)) : Int)), (53, bo false)] [Ob.cells (sysC s)])), (10, Ans.l Ex.ret (stOf 99 [5, 6, 7, 8, 9, 10, 11, 12, 13, 14, 15, 16, 17, 18, 19, 20, 21, 22, 23, 24, 25, 26, 27, 28, 29, 30, 31, 32, 33, 34, 35, 36, 37, 38, 39, 40, 41, 42, 43, 44, 45, 46, 47, 54, 55, 56, 57, 58, 59, 60, 61, 62, 68, 69] [(0, AV.agg (sysC s)), (1, AV.ref 0 0), (2, bo false), (3, i6 (↑i0 : Int)), (4, i6 (↑i1 : Int)), (48, bo b1), (49, i6 (↑i0 : Int)), (50, AV.ref 0 1), (51, lro (List.length (NSys.digits s)) 1 (List.map st (NSys.digits s))), (52, i6 (↑(List.length (NSys.digits s)) : Int)), (53, bo false), (63, i6 (↑i1 : Int)), (64, AV.ref 0 2), (65, lro (List.length (NSys.powers s)) 1 (List.map st (NSys.powers s))), (66, i6 (↑(List.length (NSys.powers s)) : Int)), (67, bo true), (70, AV.ref 0 2), (71, lro (List.length (NSys.powers s)) 1 (List.map st (NSys.powers s))), (72, i6 (↑i1 : Int)), (73, AV.eaddr rest), (74, st w), (75, bo false), (76, bo true)] [Ob.cells (sysC s)]))]) (by kernel_rfl) (And.intro h0 (And.intro h1 (And.intro h2 (And.intro h3 trivial))))
theorem rval_r1_f (s : NSys) (b1 : Bool) (X : Ext) (call : Caller) (lf : Nat) (i0 : Nat) (i1 : Nat)
  (h0 : decide ((↑i1 : Int) < (↑(List.length (NSys.powers s)) : Int)) = false) : vexec Tryd.prog X call lf 0 fg14 (loopN Tryd.f14 1) (stOf 99 [2, 5, 6, 7, 8, 9, 10, 11, 12, 13, 14, 15, 16, 17, 18, 19, 20, 21, 22, 23, 24, 25, 26, 27, 28, 29, 30, 31, 32, 33, 34, 35, 36, 37, 38, 39, 40, 41, 42, 43, 44, 45, 46, 47, 54, 55, 56, 57, 58, 59, 60, 61, 62, 63, 64, 65, 66, 67, 68, 69, 70, 71, 72, 73, 74, 75, 76] [(0, AV.agg (sysC s)), (1, AV.ref 0 0), (3, i6 (↑i0 : Int)), (4, i6 (↑i1 : Int)), (48, bo b1), (49, i6 (↑i0 : Int)), (50, AV.ref 0 1), (51, lro (List.length (NSys.digits s)) 1 (List.map st (NSys.digits s))), (52, i6 (↑(List.length (NSys.digits s)) : Int)), (53, bo false)] [Ob.cells (sysC s)]) = some (Ex.exit 2, stOf 99 [2, 5, 6, 7, 8, 9, 10, 11, 12, 13, 14, 15, 16, 17, 18, 19, 20, 21, 22, 23, 24, 25, 26, 27, 28, 29, 30, 31, 32, 33, 34, 35, 36, 37, 38, 39, 40, 41, 42, 43, 44, 45, 46, 47, 54, 55, 56, 57, 58, 59, 60, 61, 62, 68, 69, 70, 71, 72, 73, 74, 75, 76] [(0, AV.agg (sysC s)), (1, AV.ref 0 0), (3, i6 (↑i0 : Int)), (4, i6 (↑i1 : Int)), (48, bo b1), (49, i6 (↑i0 : Int)), (50, AV.ref 0 1), (51, lro (List.length (NSys.digits s)) 1 (List.map st (NSys.digits s))), (52, i6 (↑(List.length (NSys.digits s)) : Int)), (53, bo false), (63, i6 (↑i1 : Int)), (64, AV.ref 0 2), (65, lro (List.length (NSys.powers s)) 1 (List.map st (NSys.powers s))), (66, i6 (↑(List.length (NSys.powers s)) : Int)), (67, bo false)] [Ob.cells (sysC s)]) :=
  around_sound (ans := [(5, Ans.b false)]) (by kernel_rfl) (And.intro h0 trivial)
theorem rval_g13_ttt (s : NSys) (b1 : Bool) (X : Ext) (call : Caller) (lf : Nat) (i0 : Nat) (i1 : Nat)
  (h0 : decide (NSys.sub s ≥ 0) = true)
  (h1 : decide (NSys.sub s ≤ w6 (w6 (Int.tdiv (NSys.base s) 2) - 1)) = true)
  (h2 : (NSys.sub s == 0) = true) : vexec Tryd.prog X call lf 0 fg14 (regN Tryd.f14 13) (stOf 99 [2, 5, 6, 7, 8, 9, 10, 11, 12, 13, 14, 15, 16, 17, 18, 19, 20, 21, 22, 23, 24, 25, 26, 27, 28, 29, 30, 31, 32, 33, 34, 35, 36, 37, 38, 39, 40, 41, 42, 43, 44, 45, 46, 47, 54, 55, 56, 57, 58, 59, 60, 61, 62, 68, 69, 70, 71, 72, 73, 74, 75, 76] [(0, AV.agg (sysC s)), (1, AV.ref 0 0), (3, i6 (↑i0 : Int)), (4, i6 (↑i1 : Int)), (48, bo b1), (49, i6 (↑i0 : Int)), (50, AV.ref 0 1), (51, lro (List.length (NSys.digits s)) 1 (List.map st (NSys.digits s))), (52, i6 (↑(List.length (NSys.digits s)) : Int)), (53, bo false), (63, i6 (↑i1 : Int)), (64, AV.ref 0 2), (65, lro (List.length (NSys.powers s)) 1 (List.map st (NSys.powers s))), (66, i6 (↑(List.length (NSys.powers s)) : Int)), (67, bo false)] [Ob.cells (sysC s)]) = some (Ex.normal, stOf 99 [5, 6, 7, 8, 9, 10, 11, 12, 13, 14, 15, 16, 17, 18, 19, 20, 21, 22, 23, 24, 25, 26, 27, 28, 29, 30, 31, 32, 33, 34, 35, 36, 37, 38, 39, 40, 41, 42, 43, 44, 45, 46, 47, 54, 55, 56, 57, 58, 59, 60, 61, 62, 68, 69, 70, 71, 72, 73, 74, 75, 76, 77, 78, 79, 80, 81, 82, 83, 84, 85, 86, 87, 88, 89, 90, 91, 92, 93, 94, 95, 96, 97, 98] [(0, AV.agg (sysC s)), (1, AV.ref 0 0), (2, bo true), (3, i6 (↑i0 : Int)), (4, i6 (↑i1 : Int)), (48, bo b1), (49, i6 (↑i0 : Int)), (50, AV.ref 0 1), (51, lro (List.length (NSys.digits s)) 1 (List.map st (NSys.digits s))), (52, i6 (↑(List.length (NSys.digits s)) : Int)), (53, bo false), (63, i6 (↑i1 : Int)), (64, AV.ref 0 2), (65, lro (List.length (NSys.powers s)) 1 (List.map st (NSys.powers s))), (66, i6 (↑(List.length (NSys.powers s)) : Int)), (67, bo false)] [Ob.cells (sysC s)]) :=
  around_sound (ans := [(3, Ans.b true), (18, Ans.b true), (26, Ans.b true)]) (by kernel_rfl) (And.intro h0 (And.intro h1 (And.intro h2 trivial)))
theorem rval_g13_ttft (s : NSys) (b1 : Bool) (X : Ext) (call : Caller) (lf : Nat) (i0 : Nat) (i1 : Nat)
  (h0 : decide (NSys.sub s ≥ 0) = true)
  (h1 : decide (NSys.sub s ≤ w6 (w6 (Int.tdiv (NSys.base s) 2) - 1)) = true)
  (h2 : (NSys.sub s == 0) = false)
  (h3 : (!empB (NSys.le s)) = true) : vexec Tryd.prog X call lf 0 fg14 (regN Tryd.f14 13) (stOf 99 [2, 5, 6, 7, 8, 9, 10, 11, 12, 13, 14, 15, 16, 17, 18, 19, 20, 21, 22, 23, 24, 25, 26, 27, 28, 29, 30, 31, 32, 33, 34, 35, 36, 37, 38, 39, 40, 41, 42, 43, 44, 45, 46, 47, 54, 55, 56, 57, 58, 59, 60, 61, 62, 68, 69, 70, 71, 72, 73, 74, 75, 76] [(0, AV.agg (sysC s)), (1, AV.ref 0 0), (3, i6 (↑i0 : Int)), (4, i6 (↑i1 : Int)), (48, bo b1), (49, i6 (↑i0 : Int)), (50, AV.ref 0 1), (51, lro (List.length (NSys.digits s)) 1 (List.map st (NSys.digits s))), (52, i6 (↑(List.length (NSys.digits s)) : Int)), (53, bo false), (63, i6 (↑i1 : Int)), (64, AV.ref 0 2), (65, lro (List.length (NSys.powers s)) 1 (List.map st (NSys.powers s))), (66, i6 (↑(List.length (NSys.powers s)) : Int)), (67, bo false)] [Ob.cells (sysC s)]) = some (Ex.normal, stOf 99 [5, 6, 7, 8, 9, 10, 11, 12, 13, 14, 15, 16, 17, 18, 19, 20, 21, 22, 23, 24, 25, 26, 27, 28, 29, 30, 31, 32, 33, 34, 35, 36, 37, 38, 39, 40, 41, 42, 43, 44, 45, 46, 47, 54, 55, 56, 57, 58, 59, 60, 61, 62, 68, 69, 70, 71, 72, 73, 74, 75, 76, 77, 78, 79, 80, 81, 82, 83, 84, 85, 86, 87, 88, 89, 90, 91, 92, 93, 94, 95, 96, 97, 98] [(0, AV.agg (sysC s)), (1, AV.ref 0 0), (2, bo true), (3, i6 (↑i0 : Int)), (4, i6 (↑i1 : Int)), (48, bo b1), (49, i6 (↑i0 : Int)), (50, AV.ref 0 1), (51, lro (List.length (NSys.digits s)) 1 (List.map st (NSys.digits s))), (52, i6 (↑(List.length (NSys.digits s)) : Int)), (53, bo false), (63, i6 (↑i1 : Int)), (64, AV.ref 0 2), (65, lro (List.length (NSys.powers s)) 1 (List.map st (NSys.powers s))), (66, i6 (↑(List.length (NSys.powers s)) : Int)), (67, bo false)] [Ob.cells (sysC s)]) :=
  around_sound (ans := [(3, Ans.b true), (18, Ans.b true), (26, Ans.b false), (34, Ans.b true)]) (by kernel_rfl) (And.intro h0 (And.intro h1 (And.intro h2 (And.intro h3 trivial))))
theorem rval_g13_ttff (s : NSys) (b1 : Bool) (X : Ext) (call : Caller) (lf : Nat) (i0 : Nat) (i1 : Nat)
  (h0 : decide (NSys.sub s ≥ 0) = true)
  (h1 : decide (NSys.sub s ≤ w6 (w6 (Int.tdiv (NSys.base s) 2) - 1)) = true)
  (h2 : (NSys.sub s == 0) = false)
  (h3 : (!empB (NSys.le s)) = false) : vexec Tryd.prog X call lf 0 fg14 (regN Tryd.f14 13) (stOf 99 [2, 5, 6, 7, 8, 9, 10, 11, 12, 13, 14, 15, 16, 17, 18, 19, 20, 21, 22, 23, 24, 25, 26, 27, 28, 29, 30, 31, 32, 33, 34, 35, 36, 37, 38, 39, 40, 41, 42, 43, 44, 45, 46, 47, 54, 55, 56, 57, 58, 59, 60, 61, 62, 68, 69, 70, 71, 72, 73, 74, 75, 76] [(0, AV.agg (sysC s)), (1, AV.ref 0 0), (3, i6 (↑i0 : Int)), (4, i6 (↑i1 : Int)), (48, bo b1), (49, i6 (↑i0 : Int)), (50, AV.ref 0 1), (51, lro (List.length (NSys.digits s)) 1 (List.map st (NSys.digits s))), (52, i6 (↑(List.length (NSys.digits s)) : Int)), (53, bo false), (63, i6 (↑i1 : Int)), (64, AV.ref 0 2), (65, lro (List.length (NSys.powers s)) 1 (List.map st (NSys.powers s))), (66, i6 (↑(List.length (NSys.powers s)) : Int)), (67, bo false)] [Ob.cells (sysC s)]) = some (Ex.normal, stOf 99 [5, 6, 7, 8, 9, 10, 11, 12, 13, 14, 15, 16, 17, 18, 19, 20, 21, 22, 23, 24, 25, 26, 27, 28, 29, 30, 31, 32, 33, 34, 35, 36, 37, 38, 39, 40, 41, 42, 43, 44, 45, 46, 47, 54, 55, 56, 57, 58, 59, 60, 61, 62, 68, 69, 70, 71, 72, 73, 74, 75, 76, 77, 78, 79, 80, 81, 82, 83, 84, 85, 86, 87, 88, 89, 90, 91, 92, 93, 94, 95, 96, 97, 98] [(0, AV.agg (sysC s)), (1, AV.ref 0 0), (2, bo false), (3, i6 (↑i0 : Int)), (4, i6 (↑i1 : Int)), (48, bo b1), (49, i6 (↑i0 : Int)), (50, AV.ref 0 1), (51, lro (List.length (NSys.digits s)) 1 (List.map st (NSys.digits s))), (52, i6 (↑(List.length (NSys.digits s)) : Int)), (53, bo false), (63, i6 (↑i1 : Int)), (64, AV.ref 0 2), (65, lro (List.length (NSys.powers s)) 1 (List.map st (NSys.powers s))), (66, i6 (↑(List.length (NSys.powers s)) : Int)), (67, bo false)] [Ob.cells (sysC s)]) :=
  around_sound (ans := [(3, Ans.b true), (18, Ans.b true), (26, Ans.b false), (34, Ans.b false)]) (by kernel_rfl) (And.intro h0 (And.intro h1 (And.intro h2 (And.intro h3 trivial))))
theorem rval_g13_tf (s : NSys) (b1 : Bool) (X : Ext) (call : Caller) (lf : Nat) (i0 : Nat) (i1 : Nat)
  (h0 : decide (NSys.sub s ≥ 0) = true)
  (h1 : decide (NSys.sub s ≤ w6 (w6 (Int.tdiv (NSys.base s) 2) - 1)) = false) : vexec Tryd.prog X call lf 0 fg14 (regN Tryd.f14 13) (stOf 99 [2, 5, 6, 7, 8, 9, 10, 11, 12, 13, 14, 15, 16, 17, 18, 19, 20, 21, 22, 23, 24, 25, 26, 27, 28, 29, 30, 31, 32, 33, 34, 35, 36, 37, 38, 39, 40, 41, 42, 43, 44, 45, 46, 47, 54, 55, 56, 57, 58, 59, 60, 61, 62, 68, 69, 70, 71, 72, 73, 74, 75, 76] [(0, AV.agg (sysC s)), (1, AV.ref 0 0), (3, i6 (↑i0 : Int)), (4, i6 (↑i1 : Int)), (48, bo b1), (49, i6 (↑i0 : Int)), (50, AV.ref 0 1), (51, lro (List.length (NSys.digits s)) 1 (List.map st (NSys.digits s))), (52, i6 (↑(List.length (NSys.digits s)) : Int)), (53, bo false), (63, i6 (↑i1 : Int)), (64, AV.ref 0 2), (65, lro (List.length (NSys.powers s)) 1 (List.map st (NSys.powers s))), (66, i6 (↑(List.length (NSys.powers s)) : Int)), (67, bo false)] [Ob.cells (sysC s)]) = some (Ex.normal, stOf 99 [5, 6, 7, 8, 9, 10, 11, 12, 13, 14, 15, 16, 17, 18, 19, 20, 21, 22, 23, 24, 25, 26, 27, 28, 29, 30, 31, 32, 33, 34, 35, 36, 37, 38, 39, 40, 41, 42, 43, 44, 45, 46, 47, 54, 55, 56, 57, 58, 59, 60, 61, 62, 68, 69, 70, 71, 72, 73, 74, 75, 76, 77, 78, 79, 80, 81, 82, 83, 84, 85, 86, 87, 88, 89, 90, 91, 92, 93, 94, 95, 96, 97, 98] [(0, AV.agg (sysC s)), (1, AV.ref 0 0), (2, bo false), (3, i6 (↑i0 : Int)), (4, i6 (↑i1 : Int)), (48, bo b1), (49, i6 (↑i0 : Int)), (50, AV.ref 0 1), (51, lro (List.length (NSys.digits s)) 1 (List.map st (NSys.digits s))), (52, i6 (↑(List.length (NSys.digits s)) : Int)), (53, bo false), (63, i6 (↑i1 : Int)), (64, AV.ref 0 2), (65, lro (List.length (NSys.powers s)) 1 (List.map st (NSys.powers s))), (66, i6 (↑(List.length (NSys.powers s)) : Int)), (67, bo false)] [Ob.cells (sysC s)]) :=
  around_sound (ans := [(3, Ans.b true), (18, Ans.b false)]) (by kernel_rfl) (And.intro h0 (And.intro h1 trivial))
theorem rval_g13_f (s : NSys) (b1 : Bool) (X : Ext) (call : Caller) (lf : Nat) (i0 : Nat) (i1 : Nat)
  (h0 : decide (NSys.sub s ≥ 0) = false) : vexec Tryd.prog X call lf 0 fg14 (regN Tryd.f14 13) (stOf 99 [2, 5, 6, 7, 8, 9, 10, 11, 12, 13, 14, 15, 16, 17, 18, 19, 20, 21, 22, 23, 24, 25, 26, 27, 28, 29, 30, 31, 32, 33, 34, 35, 36, 37, 38, 39, 40, 41, 42, 43, 44, 45, 46, 47, 54, 55, 56, 57, 58, 59, 60, 61, 62, 68, 69, 70, 71, 72, 73, 74, 75, 76] [(0, AV.agg (sysC s)), (1, AV.ref 0 0), (3, i6 (↑i0 : Int)), (4, i6 (↑i1 : Int)), (48, bo b1), (49, i6 (↑i0 : Int)), (50, AV.ref 0 1), (51, lro (List.length (NSys.digits s)) 1 (List.map st (NSys.digits s))), (52, i6 (↑(List.length (NSys.digits s)) : Int)), (53, bo false), (63, i6 (↑i1 : Int)), (64, AV.ref 0 2), (65, lro (List.length (NSys.powers s)) 1 (List.map st (NSys.powers s))), (66, i6 (↑(List.length (NSys.powers s)) : Int)), (67, bo false)] [Ob.cells (sysC s)]) = some (Ex.normal, stOf 99 [5, 6, 7, 8, 9, 10, 11, 12, 13, 14, 15, 16, 17, 18, 19, 20, 21, 22, 23, 24, 25, 26, 27, 28, 29, 30, 31, 32, 33, 34, 35, 36, 37, 38, 39, 40, 41, 42, 43, 44, 45, 46, 47, 54, 55, 56, 57, 58, 59, 60, 61, 62, 68, 69, 70, 71, 72, 73, 74, 75, 76, 77, 78, 79, 80, 81, 82, 83, 84, 85, 86, 87, 88, 89, 90, 91, 92, 93, 94, 95, 96, 97, 98] [(0, AV.agg (sysC s)), (1, AV.ref 0 0), (2, bo false), (3, i6 (↑i0 : Int)), (4, i6 (↑i1 : Int)), (48, bo b1), (49, i6 (↑i0 : Int)), (50, AV.ref 0 1), (51, lro (List.length (NSys.digits s)) 1 (List.map st (NSys.digits s))), (52, i6 (↑(List.length (NSys.digits s)) : Int)), (53, bo false), (63, i6 (↑i1 : Int)), (64, AV.ref 0 2), (65, lro (List.length (NSys.powers s)) 1 (List.map st (NSys.powers s))), (66, i6 (↑(List.length (NSys.powers s)) : Int)), (67, bo false)] [Ob.cells (sysC s)]) :=
  around_sound (ans := [(3, Ans.b false)]) (by kernel_rfl) (And.intro h0 trivial)
theorem rval_pflflf (s : NSys) (b1 : Bool) (b3 : Bool) (X : Ext) (call : Caller) (lf : Nat) (i0 : Nat) (i1 : Nat)
  (h0 : vexec Tryd.prog X call lf 0 fg14 (regN Tryd.f14 1) (stOf 99 [] [(0, AV.agg (sysC s)), (1, AV.ref 0 0), (2, bo false)] [Ob.cells (sysC s)]) = some (Ex.normal, stOf 99 [5, 6, 7, 8, 9, 10, 11, 12, 13, 14, 15, 16, 17, 18, 19, 20, 21, 22, 23, 24, 25, 26, 27, 28, 29, 30, 31, 32, 33, 34, 35, 36, 37, 38, 39, 40, 41, 42, 43, 44, 45, 46, 47] [(0, AV.agg (sysC s)), (1, AV.ref 0 0), (2, bo false), (48, bo b1)] [Ob.cells (sysC s)]))
  (h1 : b1 = false)
  (h2 : vexec Tryd.prog X call lf 0 fg14 (Code.loop (loopN Tryd.f14 0)) (stOf 99 [5, 6, 7, 8, 9, 10, 11, 12, 13, 14, 15, 16, 17, 18, 19, 20, 21, 22, 23, 24, 25, 26, 27, 28, 29, 30, 31, 32, 33, 34, 35, 36, 37, 38, 39, 40, 41, 42, 43, 44, 45, 46, 47] [(0, AV.agg (sysC s)), (1, AV.ref 0 0), (2, bo false), (3, i6 0), (48, bo b1)] [Ob.cells (sysC s)]) = some (Ex.exit 0, stOf 99 [2, 5, 6, 7, 8, 9, 10, 11, 12, 13, 14, 15, 16, 17, 18, 19, 20, 21, 22, 23, 24, 25, 26, 27, 28, 29, 30, 31, 32, 33, 34, 35, 36, 37, 38, 39, 40, 41, 42, 43, 44, 45, 46, 47, 54, 55, 56, 57, 58, 59, 60, 61, 62] [(0, AV.agg (sysC s)), (1, AV.ref 0 0), (3, i6 (↑i0 : Int)), (48, bo b1), (49, i6 (↑i0 : Int)), (50, AV.ref 0 1), (51, lro (List.length (NSys.digits s)) 1 (List.map st (NSys.digits s))), (52, i6 (↑(List.length (NSys.digits s)) : Int)), (53, bo false)] [Ob.cells (sysC s)]))
  (h3 : vexec Tryd.prog X call lf 0 fg14 (Code.loop (loopN Tryd.f14 1)) (stOf 99 [2, 5, 6, 7, 8, 9, 10, 11, 12, 13, 14, 15, 16, 17, 18, 19, 20, 21, 22, 23, 24, 25, 26, 27, 28, 29, 30, 31, 32, 33, 34, 35, 36, 37, 38, 39, 40, 41, 42, 43, 44, 45, 46, 47, 54, 55, 56, 57, 58, 59, 60, 61, 62] [(0, AV.agg (sysC s)), (1, AV.ref 0 0), (3, i6 (↑i0 : Int)), (4, i6 0), (48, bo b1), (49, i6 (↑i0 : Int)), (50, AV.ref 0 1), (51, lro (List.length (NSys.digits s)) 1 (List.map st (NSys.digits s))), (52, i6 (↑(List.length (NSys.digits s)) : Int)), (53, bo false)] [Ob.cells (sysC s)]) = some (Ex.exit 2, stOf 99 [2, 5, 6, 7, 8, 9, 10, 11, 12, 13, 14, 15, 16, 17, 18, 19, 20, 21, 22, 23, 24, 25, 26, 27, 28, 29, 30, 31, 32, 33, 34, 35, 36, 37, 38, 39, 40, 41, 42, 43, 44, 45, 46, 47, 54, 55, 56, 57, 58, 59, 60, 61, 62, 68, 69, 70, 71, 72, 73, 74, 75, 76] [(0, AV.agg (sysC s)), (1, AV.ref 0 0), (3, i6 (↑i0 : Int)), (4, i6 (↑i1 : Int)), (48, bo b1), (49, i6 (↑i0 : Int)), (50, AV.ref 0 1), (51, lro (List.length (NSys.digits s)) 1 (List.map st (NSys.digits s))), (52, i6 (↑(List.length (NSys.digits s)) : Int)), (53, bo false), (63, i6 (↑i1 : Int)), (64, AV.ref 0 2), (65, lro (List.length (NSys.powers s)) 1 (List.map st (NSys.powers s))), (66, i6 (↑(List.length (NSys.powers s)) : Int)), (67, bo false)] [Ob.cells (sysC s)]))
  (h4 : vexec Tryd.prog X call lf 0 fg14 (regN Tryd.f14 13) (stOf 99 [2, 5, 6, 7, 8, 9, 10, 11, 12, 13, 14, 15, 16, 17, 18, 19, 20, 21, 22, 23, 24, 25, 26, 27, 28, 29, 30, 31, 32, 33, 34, 35, 36, 37, 38, 39, 40, 41, 42, 43, 44, 45, 46, 47, 54, 55, 56, 57, 58, 59, 60, 61, 62, 68, 69, 70, 71, 72, 73, 74, 75, 76] [(0, AV.agg (sysC s)), (1, AV.ref 0 0), (3, i6 (↑i0 : Int)), (4, i6 (↑i1 : Int)), (48, bo b1), (49, i6 (↑i0 : Int)), (50, AV.ref 0 1), (51, lro (List.length (NSys.digits s)) 1 (List.map st (NSys.digits s))), (52, i6 (↑(List.length (NSys.digits s)) : Int)), (53, bo false), (63, i6 (↑i1 : Int)), (64, AV.ref 0 2), (65, lro (List.length (NSys.powers s)) 1 (List.map st (NSys.powers s))), (66, i6 (↑(List.length (NSys.powers s)) : Int)), (67, bo false)] [Ob.cells (sysC s)]) = some (Ex.normal, stOf 99 [5, 6, 7, 8, 9, 10, 11, 12, 13, 14, 15, 16, 17, 18, 19, 20, 21, 22, 23, 24, 25, 26, 27, 28, 29, 30, 31, 32, 33, 34, 35, 36, 37, 38, 39, 40, 41, 42, 43, 44, 45, 46, 47, 54, 55, 56, 57, 58, 59, 60, 61, 62, 68, 69, 70, 71, 72, 73, 74, 75, 76, 77, 78, 79, 80, 81, 82, 83, 84, 85, 86, 87, 88, 89, 90, 91, 92, 93, 94, 95, 96, 97, 98] [(0, AV.agg (sysC s)), (1, AV.ref 0 0), (2, bo b3), (3, i6 (↑i0 : Int)), (4, i6 (↑i1 : Int)), (48, bo b1), (49, i6 (↑i0 : Int)), (50, AV.ref 0 1), (51, lro (List.length (NSys.digits s)) 1 (List.map st (NSys.digits s))), (52, i6 (↑(List.length (NSys.digits s)) : Int)), (53, bo false), (63, i6 (↑i1 : Int)), (64, AV.ref 0 2), (65, lro (List.length (NSys.powers s)) 1 (List.map st (NSys.powers s))), (66, i6 (↑(List.length (NSys.powers s)) : Int)), (67, bo false)] [Ob.cells (sysC s)])) : vbody Tryd.prog X call lf fg14 Tryd.f14 (codeOf Tryd.f14) [AV.agg (sysC s)] [] 0 = some (bo b3, [Ob.cells (sysC s)]) :=
  along_sound (ans := [(3, Ans.l Ex.normal (stOf 99 [5, 6, 7, 8, 9, 10, 11, 12, 13, 14, 15, 16, 17, 18, 19, 20, 21, 22, 23, 24, 25, 26, 27, 28, 29, 30, 31, 32, 33, 34, 35, 36, 37, 38, 39, 40, 41, 42, 43, 44, 45, 46, 47] [(0, AV.agg (sysC s)), (1, AV.ref 0 0), (2, bo false), (48, bo b1)] [Ob.cells (sysC s)])), (4, Ans.b false), (7, Ans.l (Ex.exit 0) (stOf 99 [2, 5, 6, 7, 8, 9, 10, 11, 12, 13, 14, 15, 16, 17, 18, 19, 20, 21, 22, 23, 24, 25, 26, 27, 28, 29, 30, 31, 32, 33, 34, 35, 36, 37, 38, 39, 40, 41, 42, 43, 44, 45, 46, 47, 54, 55, 56, 57, 58, 59, 60, 61, 62] [(0, AV.agg (sysC s)), (1, AV.ref 0 0), (3, i6 (↑i0 : Int)), (48, bo b1), (49, i6 (↑i0 : Int)), (50, AV.ref 0 1), (51, lro (List.length (NSys.digits s)) 1 (List.map st (NSys.digits s))), (52, i6 (↑(List.length (NSys.digits s)) : Int)), (53, bo false)] [Ob.cells (sysC s)])), (10, Ans.l (Ex.exit 2) (stOf 99 [2, 5, 6, 7, 8, 9, 10, 11, 12, 13, 14, 15, 16, 17, 18, 19, 20, 21, 22, 23, 24, 25, 26, 27, 28, 29, 30, 31, 32, 33, 34, 35, 36, 37, 38, 39, 40, 41, 42, 43, 44, 45, 46, 47, 54, 55, 56, 57, 58, 59, 60, 61, 62, 68, 69, 70, 71, 72, 73, 74, 75, 76] [(0, AV.agg (sysC s)), (1, AV.ref 0 0), (3, i6 (↑i0 : Int)), (4, i6 (↑i1 : Int)), (48, bo b1), (49, i6 (↑i0 : Int)), (50, AV.ref 0 1), (51, lro (List.length (NSys.digits s)) 1 (List.map st (NSys.digits s))), (52, i6 (↑(List.length (NSys.digits s)) : Int)), (53, bo false), (63, i6 (↑i1 : Int)), (64, AV.ref 0 2), (65, lro (List.length (NSys.powers s)) 1 (List.map st (NSys.powers s))), (66, i6 (↑(List.length (NSys.powers s)) : Int)), (67, bo false)] [Ob.cells (sysC s)])), (11, Ans.l Ex.normal (stOf 99 [5, 6, 7, 8, 9, 10, 11, 12, 13, 14, 15, 16, 17, 18, 19, 20, 21, 22, 23, 24, 25, 26, 27, 28, 29, 30, 31, 32, 33, 34, 35, 36, 37, 38, 39, 40, 41, 42, 43, 44, 45, 46, 47, 54, 55, 56, 57, 58, 59, 60, 61, 62, 68, 69, 70, 71, 72, 73, 74, 75, 76, 77, 78, 79, 80, 81, 82, 83, 84, 85, 86, 87, 88, 89, 90, 91, 92, 93, 94, 95, 96, 97, 98] [(0, AV.agg (sysC s)), (1, AV.ref 0 0), (2, bo b3), (3, i6 (↑i0 : Int)), (4, i6 (↑i1 : Int)), (48, bo b1), (49, i6 (↑i0 : Int)), (50, AV.ref 0 1), (51, lro (List.length (NSys.digits s)) 1 (List.map st (NSys.digits s))), (52, i6 (↑(List.length (NSys.digits s)) : Int)), (53, bo false), (63, i6 (↑i1 : Int)), (64, AV.ref 0 2), (65, lro (List.length (NSys.powers s)) 1 (List.map st (NSys.powers s))), (66, i6 (↑(List.length (NSys.powers s)) : Int)), (67, bo false)] [Ob.cells (sysC s)]))]) (by kernel_rfl) (And.intro h0 (And.intro h1 (And.intro h2 (And.intro h3 (And.intro h4 trivial)))))


def RTokCall (X : Ext) (call : Caller) (σ : List Ob) (w : ByteArray) : Prop := callv X call false 31 [st w] σ 0 = some (bo (tokB w), σ)
def rgood3 (s : NSys) : Bool := decide (s.sub ≥ 0) && (decide (s.sub ≤ w6 (w6 (s.base.tdiv 2) - 1)) && (s.sub == 0 || !empB s.le))
abbrev F14a : List Nat := [5, 6, 7, 8, 9, 10, 11, 12, 13, 14, 15, 16, 17, 18, 19, 20, 21, 22, 23, 24, 25, 26, 27, 28, 29, 30, 31, 32, 33, 34, 35, 36, 37, 38, 39, 40, 41, 42, 43, 44, 45, 46, 47]
theorem rg1_spec (s : NSys) (X : Ext) (call : Caller) (lf : Nat) (hj : RTokCall X call [Ob.cells (sysC s)] s.jo) (hl : RTokCall X call [Ob.cells (sysC s)] s.le) :
    vexec Tryd.prog X call lf 0 fg14 (regN Tryd.f14 1) (stOf 99 [] [(0, AV.agg (sysC s)), (1, AV.ref 0 0), (2, bo false)] [Ob.cells (sysC s)]) =
      some (Ex.normal, stOf 99 F14a [(0, AV.agg (sysC s)), (1, AV.ref 0 0), (2, bo false), (48, bo (bad1 s || bad2 s))] [Ob.cells (sysC s)]) := by
  unfold RTokCall at hj hl
  unfold bad1 bad2
  cases h2 : ((↑(List.length s.digits) : Int) != s.base) <;> cases h3 : ((↑(List.length s.powers) : Int) != 3) <;> cases h0 : (s.base != 10) <;> cases h1 : (s.base != 20) <;> first
    | exact rval_g1_tt s X call lf h0 h1
    | exact rval_g1_tft s X call lf h0 h1 h2
    | exact rval_g1_tfft s X call lf h0 h1 h2 h3
    | exact rval_g1_ft s X call lf h0 h2
    | exact rval_g1_fft s X call lf h0 h2 h3
    | (cases h4 : empB s.jo <;> cases h5 : tokB s.jo <;> cases h6 : empB s.le <;> cases h7 : tokB s.le <;> rw [h5] at hj <;> rw [h7] at hl <;> first
        | exact rval_g1_tffftttt s X call lf h0 h1 h2 h3 (by rw [h4]; rfl) hj (by rw [h6]; rfl) hl
        | exact rval_g1_tffftttf s X call lf h0 h1 h2 h3 (by rw [h4]; rfl) hj (by rw [h6]; rfl) hl
        | exact rval_g1_tfffttf s X call lf h0 h1 h2 h3 (by rw [h4]; rfl) hj (by rw [h6]; rfl)
        | exact rval_g1_tffftf s X call lf h0 h1 h2 h3 (by rw [h4]; rfl) hj
        | exact rval_g1_tfffftt s X call lf h0 h1 h2 h3 (by rw [h4]; rfl) (by rw [h6]; rfl) hl
        | exact rval_g1_tfffftf s X call lf h0 h1 h2 h3 (by rw [h4]; rfl) (by rw [h6]; rfl) hl
        | exact rval_g1_tfffff s X call lf h0 h1 h2 h3 (by rw [h4]; rfl) (by rw [h6]; rfl)
        | exact rval_g1_ffftttt s X call lf h0 h2 h3 (by rw [h4]; rfl) hj (by rw [h6]; rfl) hl
        | exact rval_g1_ffftttf s X call lf h0 h2 h3 (by rw [h4]; rfl) hj (by rw [h6]; rfl) hl
        | exact rval_g1_fffttf s X call lf h0 h2 h3 (by rw [h4]; rfl) hj (by rw [h6]; rfl)
        | exact rval_g1_ffftf s X call lf h0 h2 h3 (by rw [h4]; rfl) hj
        | exact rval_g1_fffftt s X call lf h0 h2 h3 (by rw [h4]; rfl) (by rw [h6]; rfl) hl
        | exact rval_g1_fffftf s X call lf h0 h2 h3 (by rw [h4]; rfl) (by rw [h6]; rfl) hl
        | exact rval_g1_fffff s X call lf h0 h2 h3 (by rw [h4]; rfl) (by rw [h6]; rfl))
end Go.Proofs.Num
end
/- Numeral: the reference's Valid. -/
section
open Go Go.Vm Go.Proofs
namespace Go.Proofs.Num

abbrev D14a : List Nat := [55, 54, 2, 62, 61, 60, 59, 58, 57, 56, 53, 52, 51, 50, 49]
abbrev D14b : List Nat := [69, 68, 2, 76, 75, 74, 73, 72, 71, 70, 67, 66, 65, 64, 63]
theorem dead14a : (deadC (loopN Tryd.f14 0) ([], [])).2 = D14a := by kernel_rfl
theorem dead14b : (deadC (loopN Tryd.f14 1) ([], [])).2 = D14b := by kernel_rfl
def rF0 (s : NSys) (i : Nat) : St := (stOf 99 [2, 5, 6, 7, 8, 9, 10, 11, 12, 13, 14, 15, 16, 17, 18, 19, 20, 21, 22, 23, 24, 25, 26, 27, 28, 29, 30, 31, 32, 33, 34, 35, 36, 37, 38, 39, 40, 41, 42, 43, 44, 45, 46, 47, 49, 50, 51, 52, 53, 54, 55, 56, 57, 58, 59, 60, 61, 62] [(0, AV.agg (sysC s)), (1, AV.ref 0 0), (3, i6 (↑i : Int)), (48, bo (bad1 s || bad2 s))] [Ob.cells (sysC s)])
def rF1 (s : NSys) (i : Nat) : St := (stOf 99 [2, 5, 6, 7, 8, 9, 10, 11, 12, 13, 14, 15, 16, 17, 18, 19, 20, 21, 22, 23, 24, 25, 26, 27, 28, 29, 30, 31, 32, 33, 34, 35, 36, 37, 38, 39, 40, 41, 42, 43, 44, 45, 46, 47, 54, 55, 56, 57, 58, 59, 60, 61, 62, 63, 64, 65, 66, 67, 68, 69, 70, 71, 72, 73, 74, 75, 76] [(0, AV.agg (sysC s)), (1, AV.ref 0 0), (3, i6 (↑(List.length (NSys.digits s)) : Int)), (4, i6 (↑i : Int)), (48, bo (bad1 s || bad2 s)), (49, i6 (↑(List.length (NSys.digits s)) : Int)), (50, AV.ref 0 1), (51, lro (List.length (NSys.digits s)) 1 (List.map st (NSys.digits s))), (52, i6 (↑(List.length (NSys.digits s)) : Int)), (53, bo false)] [Ob.cells (sysC s)])
theorem at_strs {l : List ByteArray} {i : Nat} (hi : i < l.length) : (List.map st l)[i]? = some (st (l[i])) := by simp [hi]
theorem rval_round0 {s : NSys} {X : Ext} {call : Caller} {lf : Nat} {i : Nat} (hk : s.digits.length ≤ 140737488355328) (hi : i < s.digits.length) (ht : RTokCall X call [Ob.cells (sysC s)] s.digits[i]) (hb : tokB s.digits[i] = true) :
    ∃ S1, vexec Tryd.prog X call lf 0 fg14 (loopN Tryd.f14 0) (rF0 s i) = some (.normal, S1) ∧ forget D14a S1 = rF0 s (i + 1) := by
  unfold RTokCall at ht
  rw [hb] at ht
  refine ⟨_, rval_r0_tt s ((List.map st s.digits).drop i) (bad1 s || bad2 s) s.digits[i] X call lf i (by simpa using hi) (at_list Tryd.underlying22 cells9 info9 hi)
    (load_list Tryd.underlying9 rfl (at_strs hi)) ht, ?_⟩
  have e : w6 ((i : Int) + 1) = ((i + 1 : Nat) : Int) := wrap_small (by omega)
  rw [e]
  show _ = _
  kernel_rfl
theorem rval_round1 {s : NSys} {X : Ext} {call : Caller} {lf : Nat} {i : Nat} (hk : s.powers.length ≤ 140737488355328) (hi : i < s.powers.length) (ht : RTokCall X call [Ob.cells (sysC s)] s.powers[i]) (hb : tokB s.powers[i] = true) :
    ∃ S1, vexec Tryd.prog X call lf 0 fg14 (loopN Tryd.f14 1) (rF1 s i) = some (.normal, S1) ∧ forget D14b S1 = rF1 s (i + 1) := by
  unfold RTokCall at ht
  rw [hb] at ht
  refine ⟨_, rval_r1_tt s ((List.map st s.powers).drop i) (bad1 s || bad2 s) s.powers[i] X call lf s.digits.length i (by simpa using hi) (at_list Tryd.underlying22 cells9 info9 hi)
    (load_list Tryd.underlying9 rfl (at_strs hi)) ht, ?_⟩
  have e : w6 ((i : Int) + 1) = ((i + 1 : Nat) : Int) := wrap_small (by omega)
  rw [e]
  show _ = _
  kernel_rfl
theorem rg13_spec (s : NSys) (b1 : Bool) (X : Ext) (call : Caller) (lf : Nat) (i0 i1 : Nat) :
    vexec Tryd.prog X call lf 0 fg14 (regN Tryd.f14 13) (stOf 99 [2, 5, 6, 7, 8, 9, 10, 11, 12, 13, 14, 15, 16, 17, 18, 19, 20, 21, 22, 23, 24, 25, 26, 27, 28, 29, 30, 31, 32, 33, 34, 35, 36, 37, 38, 39, 40, 41, 42, 43, 44, 45, 46, 47, 54, 55, 56, 57, 58, 59, 60, 61, 62, 68, 69, 70, 71, 72, 73, 74, 75, 76] [(0, AV.agg (sysC s)), (1, AV.ref 0 0), (3, i6 (↑i0 : Int)), (4, i6 (↑i1 : Int)), (48, bo b1), (49, i6 (↑i0 : Int)), (50, AV.ref 0 1), (51, lro (List.length (NSys.digits s)) 1 (List.map st (NSys.digits s))), (52, i6 (↑(List.length (NSys.digits s)) : Int)), (53, bo false), (63, i6 (↑i1 : Int)), (64, AV.ref 0 2), (65, lro (List.length (NSys.powers s)) 1 (List.map st (NSys.powers s))), (66, i6 (↑(List.length (NSys.powers s)) : Int)), (67, bo false)] [Ob.cells (sysC s)]) = some (Ex.normal, (stOf 99 [5, 6, 7, 8, 9, 10, 11, 12, 13, 14, 15, 16, 17, 18, 19, 20, 21, 22, 23, 24, 25, 26, 27, 28, 29, 30, 31, 32, 33, 34, 35, 36, 37, 38, 39, 40, 41, 42, 43, 44, 45, 46, 47, 54, 55, 56, 57, 58, 59, 60, 61, 62, 68, 69, 70, 71, 72, 73, 74, 75, 76, 77, 78, 79, 80, 81, 82, 83, 84, 85, 86, 87, 88, 89, 90, 91, 92, 93, 94, 95, 96, 97, 98] [(0, AV.agg (sysC s)), (1, AV.ref 0 0), (2, bo (rgood3 s)), (3, i6 (↑i0 : Int)), (4, i6 (↑i1 : Int)), (48, bo b1), (49, i6 (↑i0 : Int)), (50, AV.ref 0 1), (51, lro (List.length (NSys.digits s)) 1 (List.map st (NSys.digits s))), (52, i6 (↑(List.length (NSys.digits s)) : Int)), (53, bo false), (63, i6 (↑i1 : Int)), (64, AV.ref 0 2), (65, lro (List.length (NSys.powers s)) 1 (List.map st (NSys.powers s))), (66, i6 (↑(List.length (NSys.powers s)) : Int)), (67, bo false)] [Ob.cells (sysC s)])) := by
  unfold rgood3
  cases h0 : decide (s.sub ≥ 0) with
  | false => exact rval_g13_f s b1 X call lf i0 i1 h0
  | true =>
    cases h1 : decide (s.sub ≤ w6 (w6 (s.base.tdiv 2) - 1)) with
    | false => exact rval_g13_tf s b1 X call lf i0 i1 h0 h1
    | true =>
      cases h2 : (s.sub == 0) with
      | true => exact rval_g13_ttt s b1 X call lf i0 i1 h0 h1 h2
      | false =>
        cases h3 : empB s.le with
        | false => exact rval_g13_ttft s b1 X call lf i0 i1 h0 h1 h2 (by rw [h3]; rfl)
        | true => exact rval_g13_ttff s b1 X call lf i0 i1 h0 h1 h2 (by rw [h3]; rfl)
def rvalidL (s : NSys) : Bool := !(bad1 s || bad2 s) && (s.digits.all tokB && (s.powers.all tokB && rgood3 s))
/-- All are tokens, or there is a first that is none. -/
theorem all_or (l : List ByteArray) : (l.all tokB = true ∧ ∀ i (hi : i < l.length), tokB (l[i]'hi) = true) ∨ (l.all tokB = false ∧ ∃ k, ∃ hk : k < l.length, tokB (l[k]'hk) = false ∧ ∀ i (hi : i < k), tokB (l[i]'(Nat.lt_trans hi hk)) = true) := by
  rcases first_fail (p := fun i => ∀ hi : i < l.length, tokB (l[i]'hi) = true) l.length with hall | ⟨k, hk, hbad, hbefore⟩
  · refine .inl ⟨?_, fun i hi => hall i hi hi⟩
    rw [List.all_eq_true]
    intro w hw
    obtain ⟨i, hi, rfl⟩ := List.getElem_of_mem hw
    exact hall i hi hi
  · have hb : tokB (l[k]'hk) = false := by
      cases h : tokB (l[k]'hk) with
      | false => rfl
      | true => exact absurd (fun _ => h) hbad
    refine .inr ⟨?_, k, hk, hb, fun i hi => hbefore i hi (Nat.lt_trans hi hk)⟩
    cases h : l.all tokB with
    | false => rfl
    | true =>
      rw [List.all_eq_true] at h
      rw [h _ (List.getElem_mem hk)] at hb
      cases hb
theorem rval_spec (s : NSys) (X : Ext) (call : Caller) (lf : Nat) (hd : s.digits.length ≤ 140737488355328) (hp : s.powers.length ≤ 140737488355328) (hld : s.digits.length < lf) (hlp : s.powers.length < lf)
    (ht : ∀ w, w ∈ s.digits ∨ w ∈ s.powers ∨ w = s.jo ∨ w = s.le → RTokCall X call [Ob.cells (sysC s)] w) :
    vbody Tryd.prog X call lf fg14 Tryd.f14 (codeOf Tryd.f14) [AV.agg (sysC s)] [] 0 = some (bo (rvalidL s), [Ob.cells (sysC s)]) := by
  have hg1 := rg1_spec s X call lf (ht _ (.inr (.inr (.inl rfl)))) (ht _ (.inr (.inr (.inr rfl))))
  cases h1 : (bad1 s || bad2 s) with
  | true =>
    rw [rval_pt s (bad1 s || bad2 s) X call lf hg1 h1]
    simp only [rvalidL, h1, Bool.not_true, Bool.false_and]
  | false =>
    have start0 : forget D14a (stOf 99 [5, 6, 7, 8, 9, 10, 11, 12, 13, 14, 15, 16, 17, 18, 19, 20, 21, 22, 23, 24, 25, 26, 27, 28, 29, 30, 31, 32, 33, 34, 35, 36, 37, 38, 39, 40, 41, 42, 43, 44, 45, 46, 47] [(0, AV.agg (sysC s)), (1, AV.ref 0 0), (2, bo false), (3, i6 0), (48, bo (bad1 s || bad2 s))] [Ob.cells (sysC s)]) = rF0 s 0 := by kernel_rfl
    have start1 : forget D14b (stOf 99 [2, 5, 6, 7, 8, 9, 10, 11, 12, 13, 14, 15, 16, 17, 18, 19, 20, 21, 22, 23, 24, 25, 26, 27, 28, 29, 30, 31, 32, 33, 34, 35, 36, 37, 38, 39, 40, 41, 42, 43, 44, 45, 46, 47, 54, 55, 56, 57, 58, 59, 60, 61, 62] [(0, AV.agg (sysC s)), (1, AV.ref 0 0), (3, i6 (↑(List.length (NSys.digits s)) : Int)), (4, i6 0), (48, bo (bad1 s || bad2 s)), (49, i6 (↑(List.length (NSys.digits s)) : Int)), (50, AV.ref 0 1), (51, lro (List.length (NSys.digits s)) 1 (List.map st (NSys.digits s))), (52, i6 (↑(List.length (NSys.digits s)) : Int)), (53, bo false)] [Ob.cells (sysC s)]) = rF1 s 0 := by kernel_rfl
    rcases all_or s.digits with ⟨hall, hr⟩ | ⟨hall, k, hk, hb, hbefore⟩
    · have hloop0 := loop_run (P := Tryd.prog) (X := X) (call := call) (lf := lf) (ro := 0) (fg := fg14) dead14a (rF0 s) s.digits.length hld start0
        (fun i hi => rval_round0 hd hi (ht _ (.inl (List.getElem_mem hi))) (hr i hi)) (rval_r0_f s (bad1 s || bad2 s) X call lf s.digits.length (by simp)) (by simp)
      rcases all_or s.powers with ⟨hall2, hr2⟩ | ⟨hall2, k, hk, hb, hbefore⟩
      · have hloop1 := loop_run (P := Tryd.prog) (X := X) (call := call) (lf := lf) (ro := 0) (fg := fg14) dead14b (rF1 s) s.powers.length hlp start1
          (fun i hi => rval_round1 hp hi (ht _ (.inr (.inl (List.getElem_mem hi)))) (hr2 i hi)) (rval_r1_f s (bad1 s || bad2 s) X call lf s.digits.length s.powers.length (by simp)) (by simp)
        rw [rval_pflflf s (bad1 s || bad2 s) (rgood3 s) X call lf s.digits.length s.powers.length hg1 h1 hloop0 hloop1 (rg13_spec s _ X call lf _ _)]
        simp only [rvalidL, h1, hall, hall2, Bool.not_false, Bool.true_and]
      · have htk := ht _ (.inr (.inl (List.getElem_mem hk)))
        unfold RTokCall at htk
        rw [hb] at htk
        have hloop1 := loop_run (P := Tryd.prog) (X := X) (call := call) (lf := lf) (ro := 0) (fg := fg14) dead14b (rF1 s) k (Nat.lt_trans hk hlp) start1
          (fun i hi => rval_round1 hp (Nat.lt_trans hi hk) (ht _ (.inr (.inl (List.getElem_mem _)))) (hbefore i hi))
          (rval_r1_tf s ((List.map st s.powers).drop k) (bad1 s || bad2 s) (s.powers[k]'hk) X call lf s.digits.length k (by simpa using hk) (at_list Tryd.underlying22 cells9 info9 hk) (load_list Tryd.underlying9 rfl (at_strs hk)) htk) (by simp)
        rw [rval_pflfltf s ((List.map st s.powers).drop k) (bad1 s || bad2 s) (s.powers[k]'hk) X call lf s.digits.length k hg1 h1 hloop0 hloop1]
        simp only [rvalidL, hall2, Bool.false_and, Bool.and_false]
    · have htk := ht _ (.inl (List.getElem_mem hk))
      unfold RTokCall at htk
      rw [hb] at htk
      have hloop0 := loop_run (P := Tryd.prog) (X := X) (call := call) (lf := lf) (ro := 0) (fg := fg14) dead14a (rF0 s) k (Nat.lt_trans hk hld) start0
        (fun i hi => rval_round0 hd (Nat.lt_trans hi hk) (ht _ (.inl (List.getElem_mem _))) (hbefore i hi))
        (rval_r0_tf s ((List.map st s.digits).drop k) (bad1 s || bad2 s) (s.digits[k]'hk) X call lf k (by simpa using hk) (at_list Tryd.underlying22 cells9 info9 hk) (load_list Tryd.underlying9 rfl (at_strs hk)) htk) (by simp)
      rw [rval_pfltf s ((List.map st s.digits).drop k) (bad1 s || bad2 s) (s.digits[k]'hk) X call lf k hg1 h1 hloop0]
      simp only [rvalidL, hall, Bool.false_and, Bool.and_false]
end Go.Proofs.Num
end
/- Numeral: Valid is what the reference's Valid is. -/
section
open Go Go.Vm Go.Proofs
namespace Go.Proofs.Num
theorem good_eq {s : NSys} (h : bad1 s = false) : good3 s = rgood3 s := by
  have hb : s.base = 10 ∨ s.base = 20 := by
    unfold bad1 at h
    simp only [Bool.or_eq_false_iff, Bool.and_eq_false_iff, bne_eq_false_iff_eq] at h
    exact h.1
  unfold good3 rgood3
  have e : decide (s.sub < w6 (s.base.tdiv 2)) = decide (s.sub ≤ w6 (w6 (s.base.tdiv 2) - 1)) := by
    rcases hb with hb | hb
    · rw [hb]
      have e1 : w6 (Int.tdiv 10 2) = 5 := by kernel_rfl
      have e2 : w6 (5 - 1) = 4 := by kernel_rfl
      rw [e1, e2, decide_eq_decide]
      omega
    · rw [hb]
      have e1 : w6 (Int.tdiv 20 2) = 10 := by kernel_rfl
      have e2 : w6 (10 - 1) = 9 := by kernel_rfl
      rw [e1, e2, decide_eq_decide]
      omega
  rw [e]
/-- Both ask the same of a system. -/
theorem valid_eq (s : NSys) : validL s = rvalidL s := by
  unfold validL rvalidL vWords
  cases h1 : bad1 s with
  | true => simp
  | false =>
    rw [good_eq h1, List.all_append]
    cases bad2 s <;> cases s.digits.all tokB <;> cases s.powers.all tokB <;> rfl
end Go.Proofs.Num
end
/- Numeral: collect, joiner. -/
section
open Go Go.Vm Go.Proofs
namespace Go.Proofs.Num
theorem coll_r0_t (k : Nat) (p : AV) (ls : List AV) (rest : List AV) (o : Nat → AV) (σs : Nat → List Ob) (o' : AV) (σ' : List Ob) (X : Ext) (call : Caller) (lf : Nat) (i0 : Nat)
  (h0 : decide ((↑i0 : Int) < (↑k : Int)) = true)
  (h1 : keep (σs i0) (indexAddrv Tryd.prog 66 (σs i0) (AV.list LK.clip k 1 ls) (i6 (↑i0 : Int))) = some (AV.eaddr rest, σs i0))
  (h2 : keep (σs i0) (loadv Tryd.prog 22 (σs i0) (AV.eaddr rest)) = some (p, σs i0))
  (h3 : appendv Tryd.prog 22 (σs i0) 0 (o i0) p = some (o', σ')) : vexec Tryd.prog X call lf 0 noFg (loopN Tryd.f36 0) (stOf 17 [5, 9, 10, 11, 12, 13, 14, 15] [(0, AV.list LK.clip k 1 ls), (2, AV.list LK.nil 0 0 []), (3, o i0), (6, AV.list LK.clip k 1 ls), (7, i6 (↑k : Int)), (8, i6 (↑i0 : Int))] (σs i0)) = some (Ex.normal, stOf 17 [] [(0, AV.list LK.clip k 1 ls), (2, AV.list LK.nil 0 0 []), (3, o'), (5, p), (6, AV.list LK.clip k 1 ls), (7, i6 (↑k : Int)), (8, i6 (w6 ((↑i0 : Int) + 1))), (9, bo true), (10, AV.eaddr rest), (11, p), (12, o i0), (13, p), (14, o'), (15, i6 (w6 ((↑i0 : Int) + 1)))] σ') :=
  around_sound (ans := [(1, Ans.b true), (4, Ans.v (AV.eaddr rest)), (5, Ans.v p), (10, Ans.c o' σ')]) (by kernel_rfl) (And.intro h0 (And.intro h1 (And.intro h2 (And.intro h3 trivial))))
theorem coll_r0_f (k : Nat) (ls : List AV) (o : Nat → AV) (σs : Nat → List Ob) (X : Ext) (call : Caller) (lf : Nat) (i0 : Nat)
  (h0 : decide ((↑i0 : Int) < (↑k : Int)) = false) : vexec Tryd.prog X call lf 0 noFg (loopN Tryd.f36 0) (stOf 17 [5, 9, 10, 11, 12, 13, 14, 15] [(0, AV.list LK.clip k 1 ls), (2, AV.list LK.nil 0 0 []), (3, o i0), (6, AV.list LK.clip k 1 ls), (7, i6 (↑k : Int)), (8, i6 (↑i0 : Int))] (σs i0)) = some (Ex.exit 0, stOf 17 [5, 10, 11, 12, 13, 14, 15] [(0, AV.list LK.clip k 1 ls), (2, AV.list LK.nil 0 0 []), (3, o i0), (6, AV.list LK.clip k 1 ls), (7, i6 (↑k : Int)), (8, i6 (↑i0 : Int)), (9, bo false)] (σs i0)) :=
  around_sound (ans := [(1, Ans.b false)]) (by kernel_rfl) (And.intro h0 trivial)
theorem coll_plf (k : Nat) (ls : List AV) (o : Nat → AV) (σs : Nat → List Ob) (r : AV) (σr : List Ob) (X : Ext) (call : Caller) (lf : Nat) (i0 : Nat)
  (h0 : vexec Tryd.prog X call lf 0 noFg (Code.loop (loopN Tryd.f36 0)) (stOf 17 [] [(0, AV.list LK.clip k 1 ls), (2, AV.list LK.nil 0 0 []), (3, AV.list LK.nil 0 0 []), (6, AV.list LK.clip k 1 ls), (7, i6 (↑k : Int)), (8, i6 0)] []) = some (Ex.exit 0, stOf 17 [5, 10, 11, 12, 13, 14, 15] [(0, AV.list LK.clip k 1 ls), (2, AV.list LK.nil 0 0 []), (3, o i0), (6, AV.list LK.clip k 1 ls), (7, i6 (↑k : Int)), (8, i6 (↑i0 : Int)), (9, bo false)] (σs i0)))
  (h1 : vend1 [] 0 (σs i0) [o i0] = some (r, σr)) : vbody Tryd.prog X call lf noFg Tryd.f36 (codeOf Tryd.f36) [AV.list LK.clip k 1 ls] [] 0 = some (r, σr) :=
  along_sound (ans := [(8, Ans.l (Ex.exit 0) (stOf 17 [5, 10, 11, 12, 13, 14, 15] [(0, AV.list LK.clip k 1 ls), (2, AV.list LK.nil 0 0 []), (3, o i0), (6, AV.list LK.clip k 1 ls), (7, i6 (↑k : Int)), (8, i6 (↑i0 : Int)), (9, bo false)] (σs i0))), (12, Ans.c r σr)]) (by kernel_rfl) (And.intro h0 (And.intro h1 trivial))
theorem joiner_pt (s : NSys) (X : Ext) (call : Caller) (lf : Nat)
  (h0 : (empB (NSys.jo s)) = true) : vbody Tryd.prog X call lf noFg Tryd.f37 (codeOf Tryd.f37) [AV.agg (sysC s)] [] 0 = some (AV.list LK.nil 0 0 [], [Ob.cells (sysC s)]) :=
  along_sound (ans := [(6, Ans.b true)]) (by kernel_rfl) (And.intro h0 trivial)
theorem joiner_pf (s : NSys) (X : Ext) (call : Caller) (lf : Nat)
  (h0 : (empB (NSys.jo s)) = false) : vbody Tryd.prog X call lf noFg Tryd.f37 (codeOf Tryd.f37) [AV.agg (sysC s)] [] 0 = some (AV.list LK.clip 1 1 [st (NSys.jo s)], [Ob.cells (sysC s)]) :=
  along_sound (ans := [(6, Ans.b false)]) (by kernel_rfl) (And.intro h0 trivial)


/-- A list of strings, whatever is known of the room behind it. -/
def IsS (p : AV) (l : List ByteArray) : Prop := (∃ k, p = .list k l.length 1 (l.map .str)) ∨ (l = [] ∧ ∃ k sz cs, p = .list k 0 sz cs)
theorem appended_isS {σ : List Ob} {p : AV} {l : List ByteArray} (h : IsS p l) : appended σ 1 p = some (l.length, l.map .str) := by
  rcases h with ⟨k, rfl⟩ | ⟨rfl, k, sz, cs, rfl⟩
  · rw [appended_list]
    by_cases h : l.length = 0
    · have : l = [] := List.eq_nil_of_length_eq_zero h
      subst this
      rfl
    · rw [if_neg h]
  · simp [appended]
theorem grow_first {σ : List Ob} {p : AV} {l : List ByteArray} (h : IsS p l) (h0 : l ≠ []) (hb : l.length * 17 ≤ 140737488355328) :
    appendv Tryd.prog 22 σ 0 (.list .nil 0 0 []) p = some (.own σ.length l.length, σ ++ [.arr l.length 1 (l.map .str)]) := by
  have hm : l.length ≠ 0 := fun e => h0 (List.eq_nil_of_length_eq_zero e)
  unfold appendv
  rw [Tryd.underlying22]
  simp only [cells9, appended_isS h, zero9, bytes9]
  rw [if_pos ⟨owns_strs l, rfl⟩]
  simp only [Nat.zero_add, List.nil_append]
  rw [if_pos ⟨.inl trivial, .inl trivial, rfl, hb⟩, if_neg hm]
def collO (ls : List (List ByteArray)) (i : Nat) : AV := if i = 0 then .list .nil 0 0 [] else .own 0 (lensum (ls.take i))
def collS (ls : List (List ByteArray)) (i : Nat) : List Ob := if i = 0 then [] else [.arr (lensum (ls.take i)) 1 ((joinL (ls.take i)).map .str)]
abbrev D36 : List Nat := [15, 14, 13, 12, 5, 11, 10, 9]
theorem dead36 : (deadC (loopN Tryd.f36 0) ([], [])).2 = D36 := by kernel_rfl
def collF (ps : List AV) (ls : List (List ByteArray)) (i : Nat) : St :=
  (stOf 17 [5, 9, 10, 11, 12, 13, 14, 15] [(0, AV.list LK.clip ls.length 1 ps), (2, AV.list LK.nil 0 0 []), (3, collO ls i), (6, AV.list LK.clip ls.length 1 ps), (7, i6 (↑ls.length : Int)), (8, i6 (↑i : Int))] (collS ls i))
theorem coll_grow {ls : List (List ByteArray)} (hb : lensum ls * 17 ≤ 140737488355328) (hfirst : ∀ l, ls[0]? = some l → l ≠ []) {i : Nat} {p : AV} {l : List ByteArray} (hl : ls[i]? = some l) (hp : IsS p l) :
    appendv Tryd.prog 22 (collS ls i) 0 (collO ls i) p = some (collO ls (i + 1), collS ls (i + 1)) := by
  have hs := lensum_take ls i l hl
  have hj := joinL_take ls i l hl
  have hle := lensum_le ls (i + 1)
  unfold collS collO
  rw [if_neg (Nat.succ_ne_zero i), if_neg (Nat.succ_ne_zero i)]
  by_cases h0 : i = 0
  · subst h0
    rw [if_pos rfl, if_pos rfl, grow_first hp (hfirst l hl) (by simp only [List.take_zero, lensum, Nat.zero_add] at hs hle; omega), hs, hj]
    simp [lensum, joinL]
  · rw [if_neg h0, if_neg h0]
    by_cases hz : l.length = 0
    · have he : l = [] := List.eq_nil_of_length_eq_zero hz
      have := grow_none (P := Tryd.prog) (ro := 0) (id := 0) (n := lensum (ls.take i)) (σ := [Ob.arr (lensum (ls.take i)) 1 ((joinL (ls.take i)).map .str)]) (cs := (joinL (ls.take i)).map .str) (ys := l.map .str) (x := p) Tryd.underlying22 zero9 (by rw [cells9]; rfl) (by rw [cells9]; rfl) (Nat.le_refl _)
        (by rw [cells9, appended_isS hp, hz]) (owns_strs l) (by rw [bytes9]; omega)
      rw [this, hs, hj, he]
      simp
    · have := grow_own (P := Tryd.prog) (ro := 0) (id := 0) (n := lensum (ls.take i)) (σ := [Ob.arr (lensum (ls.take i)) 1 ((joinL (ls.take i)).map .str)]) (cs := (joinL (ls.take i)).map .str) (ys := l.map .str) (m := l.length) (x := p) Tryd.underlying22 zero9 (by rw [cells9]; rfl) (by rw [cells9]; rfl) (Nat.le_refl _)
        (by rw [cells9, appended_isS hp]) (owns_strs _) hz (by rw [bytes9]; omega)
      rw [this, hs, hj, cells9]
      simp [setOb]
theorem coll_round {X : Ext} {call : Caller} {lf : Nat} {ps : List AV} {ls : List (List ByteArray)} (hb : lensum ls * 17 ≤ 140737488355328) (hk : ls.length ≤ 140737488355328) (hfirst : ∀ l, ls[0]? = some l → l ≠ [])
    (hps : ∀ (i : Nat) (l : List ByteArray), ls[i]? = some l → ∃ p, ps[i]? = some p ∧ IsS p l) {i : Nat} (hi : i < ls.length) :
    ∃ S1, vexec Tryd.prog X call lf 0 noFg (loopN Tryd.f36 0) (collF ps ls i) = some (.normal, S1) ∧ forget D36 S1 = collF ps ls (i + 1) := by
  have hl : ls[i]? = some ls[i] := List.getElem?_eq_getElem hi
  obtain ⟨p, hp, hpl⟩ := hps i _ hl
  refine ⟨_, coll_r0_t ls.length p ps (ps.drop i) (collO ls) (collS ls) _ _ X call lf i (by simpa using hi) (at_list Tryd.underlying66 cells22 info22 hi) (load_list Tryd.underlying22 rfl hp) (coll_grow hb hfirst hl hpl), ?_⟩
  have e : w6 ((i : Int) + 1) = ((i + 1 : Nat) : Int) := wrap_small (by omega)
  rw [e]
  show _ = _
  kernel_rfl
/-- collect: all the tokens of the parts, in a new row. -/
theorem coll_spec (X : Ext) (call : Caller) (lf : Nat) {ps : List AV} {ls : List (List ByteArray)} (hb : lensum ls * 17 ≤ 140737488355328) (hk : ls.length ≤ 140737488355328) (hlf : ls.length < lf) (hpos : 0 < ls.length) (hfirst : ∀ l, ls[0]? = some l → l ≠ [])
    (hps : ∀ (i : Nat) (l : List ByteArray), ls[i]? = some l → ∃ p, ps[i]? = some p ∧ IsS p l) :
    vbody Tryd.prog X call lf noFg Tryd.f36 (codeOf Tryd.f36) [AV.list LK.clip ls.length 1 ps] [] 0 = some (.list .fresh (joinL ls).length 1 ((joinL ls).map .str), [.fro (joinL ls).length 1 ((joinL ls).map .str)]) := by
  have hloop := loop_run (P := Tryd.prog) (X := X) (call := call) (lf := lf) (ro := 0) (fg := noFg) dead36 (collF ps ls) ls.length hlf (S := (stOf 17 [] [(0, AV.list LK.clip ls.length 1 ps), (2, AV.list LK.nil 0 0 []), (3, AV.list LK.nil 0 0 []), (6, AV.list LK.clip ls.length 1 ps), (7, i6 (↑ls.length : Int)), (8, i6 0)] [])) (by kernel_rfl)
    (fun i hi => coll_round hb hk hfirst hps hi) (coll_r0_f ls.length ps (collO ls) (collS ls) X call lf ls.length (by simp)) (by simp)
  refine coll_plf ls.length ps (collO ls) (collS ls) _ _ X call lf ls.length hloop ?_
  unfold collO collS
  rw [if_neg (by omega), if_neg (by omega), List.take_length, ← joinL_length]
  exact end_row
/-- joiner: none, or the one word. -/
def joinWords (s : NSys) : List ByteArray := if empB s.jo then [] else [s.jo]
theorem joiner_spec (s : NSys) (X : Ext) (call : Caller) (lf : Nat) : ∃ r, vbody Tryd.prog X call lf noFg Tryd.f37 (codeOf Tryd.f37) [AV.agg (sysC s)] [] 0 = some (r, [Ob.cells (sysC s)]) ∧ IsS r (joinWords s) ∧ r.pure = true := by
  unfold joinWords
  cases h : empB s.jo with
  | true => exact ⟨_, joiner_pt s X call lf h, .inr ⟨rfl, _, _, _, rfl⟩, rfl⟩
  | false => exact ⟨_, joiner_pf s X call lf h, .inl ⟨_, rfl⟩, rfl⟩
end Go.Proofs.Num
end
/- Numeral: less, power. -/
section
open Go Go.Vm Go.Proofs
namespace Go.Proofs.Num
theorem less_pttt (s : NSys) (q : Int) (p : Int) (r : Int) (X : Ext) (call : Caller) (lf : Nat)
  (h0 : decide (NSys.sub s > 0) = true)
  (h1 : decide (r ≥ w6 (p - NSys.sub s)) = true)
  (h2 : decide (w6 (q + 1) < NSys.base s) = true) : vbody Tryd.prog X call lf noFg Tryd.f35 (codeOf Tryd.f35) [AV.agg (sysC s), i6 q, i6 p, i6 r] [] 0 = some (bo true, [Ob.cells (sysC s)]) :=
  along_sound (ans := [(6, Ans.b true), (19, Ans.b true), (31, Ans.b true)]) (by kernel_rfl) (And.intro h0 (And.intro h1 (And.intro h2 trivial)))
theorem less_pttf (s : NSys) (q : Int) (p : Int) (r : Int) (X : Ext) (call : Caller) (lf : Nat)
  (h0 : decide (NSys.sub s > 0) = true)
  (h1 : decide (r ≥ w6 (p - NSys.sub s)) = true)
  (h2 : decide (w6 (q + 1) < NSys.base s) = false) : vbody Tryd.prog X call lf noFg Tryd.f35 (codeOf Tryd.f35) [AV.agg (sysC s), i6 q, i6 p, i6 r] [] 0 = some (bo false, [Ob.cells (sysC s)]) :=
  along_sound (ans := [(6, Ans.b true), (19, Ans.b true), (31, Ans.b false)]) (by kernel_rfl) (And.intro h0 (And.intro h1 (And.intro h2 trivial)))
theorem less_ptf (s : NSys) (q : Int) (p : Int) (r : Int) (X : Ext) (call : Caller) (lf : Nat)
  (h0 : decide (NSys.sub s > 0) = true)
  (h1 : decide (r ≥ w6 (p - NSys.sub s)) = false) : vbody Tryd.prog X call lf noFg Tryd.f35 (codeOf Tryd.f35) [AV.agg (sysC s), i6 q, i6 p, i6 r] [] 0 = some (bo false, [Ob.cells (sysC s)]) :=
  along_sound (ans := [(6, Ans.b true), (19, Ans.b false)]) (by kernel_rfl) (And.intro h0 (And.intro h1 trivial))
theorem less_pf (s : NSys) (q : Int) (p : Int) (r : Int) (X : Ext) (call : Caller) (lf : Nat)
  (h0 : decide (NSys.sub s > 0) = false) : vbody Tryd.prog X call lf noFg Tryd.f35 (codeOf Tryd.f35) [AV.agg (sysC s), i6 q, i6 p, i6 r] [] 0 = some (bo false, [Ob.cells (sysC s)]) :=
  along_sound (ans := [(6, Ans.b false)]) (by kernel_rfl) (And.intro h0 trivial)
theorem power_r0_tt (s : NSys) (n : Int) (P : Nat → Int) (X : Ext) (call : Caller) (lf : Nat) (i0 : Nat)
  (h0 : decide ((↑i0 : Int) < 2) = true)
  (h1 : decide (w6 (P i0 * NSys.base s) > n) = true) : vexec Tryd.prog X call lf 0 noFg (loopN Tryd.f34 0) (stOf 27 [4, 5, 7, 11, 12, 13, 14, 15, 16, 17, 18, 19, 20, 21, 22, 23, 24, 25] [(0, AV.agg (sysC s)), (1, i6 n), (2, AV.ref 0 0), (6, i6 (P i0)), (8, AV.ref 0 0), (9, i6 (NSys.base s)), (10, i6 (↑i0 : Int))] [Ob.cells (sysC s)]) = some (Ex.ret, stOf 27 [21, 22, 23, 24, 25] [(0, AV.agg (sysC s)), (1, i6 n), (2, AV.ref 0 0), (4, i6 (P i0)), (5, i6 (↑i0 : Int)), (6, i6 (P i0)), (7, i6 (↑i0 : Int)), (8, AV.ref 0 0), (9, i6 (NSys.base s)), (10, i6 (↑i0 : Int)), (11, bo true), (12, i6 (↑i0 : Int)), (13, i6 (P i0)), (14, AV.ref 0 0), (15, i6 (NSys.base s)), (16, i6 (w6 (P i0 * NSys.base s))), (17, i6 n), (18, bo true), (19, i6 (P i0)), (20, i6 (↑i0 : Int))] [Ob.cells (sysC s)]) :=
  around_sound (ans := [(1, Ans.b true), (12, Ans.b true)]) (by kernel_rfl) (And.intro h0 (And.intro h1 trivial))
theorem power_pltt (s : NSys) (n : Int) (P : Nat → Int) (X : Ext) (call : Caller) (lf : Nat) (i0 : Nat)
  (h0 : vexec Tryd.prog X call lf 0 noFg (Code.loop (loopN Tryd.f34 0)) (stOf 27 [] [(0, AV.agg (sysC s)), (1, i6 n), (2, AV.ref 0 0), (4, i6 0), (5, i6 0), (6, i6 (NSys.base s)), (8, AV.ref 0 0), (9, i6 (NSys.base s)), (10, i6 0)] [Ob.cells (sysC s)]) = some (Ex.ret, stOf 27 [21, 22, 23, 24, 25] [(0, AV.agg (sysC s)), (1, i6 n), (2, AV.ref 0 0), (4, i6 (P i0)), (5, i6 (↑i0 : Int)), (6, i6 (P i0)), (7, i6 (↑i0 : Int)), (8, AV.ref 0 0), (9, i6 (NSys.base s)), (10, i6 (↑i0 : Int)), (11, bo true), (12, i6 (↑i0 : Int)), (13, i6 (P i0)), (14, AV.ref 0 0), (15, i6 (NSys.base s)), (16, i6 (w6 (P i0 * NSys.base s))), (17, i6 n), (18, bo true), (19, i6 (P i0)), (20, i6 (↑i0 : Int))] [Ob.cells (sysC s)])) : vbody Tryd.prog X call lf noFg Tryd.f34 (codeOf Tryd.f34) [AV.agg (sysC s), i6 n] [] 0 = some (AV.tup [i6 (P i0), i6 (↑i0 : Int)], [Ob.cells (sysC s)]) :=
  along_sound (ans := [(10, Ans.l Ex.ret (stOf 27 [21, 22, 23, 24, 25] [(0, AV.agg (sysC s)), (1, i6 n), (2, AV.ref 0 0), (4, i6 (P i0)), (5, i6 (↑i0 : Int)), (6, i6 (P i0)), (7, i6 (↑i0 : Int)), (8, AV.ref 0 0), (9, i6 (NSys.base s)), (10, i6 (↑i0 : Int)), (11, bo true), (12, i6 (↑i0 : Int)), (13, i6 (P i0)), (14, AV.ref 0 0), (15, i6 (NSys.base s)), (16, i6 (w6 (P i0 * NSys.base s))), (17, i6 n), (18, bo true), (19, i6 (P i0)), (20, i6 (↑i0 : Int))] [Ob.cells (sysC s)]))]) (by kernel_rfl) (And.intro h0 trivial)
theorem power_r0_tf (s : NSys) (n : Int) (P : Nat → Int) (X : Ext) (call : Caller) (lf : Nat) (i0 : Nat)
  (h0 : decide ((↑i0 : Int) < 2) = true)
  (h1 : decide (w6 (P i0 * NSys.base s) > n) = false) : vexec Tryd.prog X call lf 0 noFg (loopN Tryd.f34 0) (stOf 27 [4, 5, 7, 11, 12, 13, 14, 15, 16, 17, 18, 19, 20, 21, 22, 23, 24, 25] [(0, AV.agg (sysC s)), (1, i6 n), (2, AV.ref 0 0), (6, i6 (P i0)), (8, AV.ref 0 0), (9, i6 (NSys.base s)), (10, i6 (↑i0 : Int))] [Ob.cells (sysC s)]) = some (Ex.normal, stOf 27 [4, 5, 19, 20] [(0, AV.agg (sysC s)), (1, i6 n), (2, AV.ref 0 0), (6, i6 (w6 (P i0 * NSys.base s))), (7, i6 (↑i0 : Int)), (8, AV.ref 0 0), (9, i6 (NSys.base s)), (10, i6 (w6 ((↑i0 : Int) + 1))), (11, bo true), (12, i6 (↑i0 : Int)), (13, i6 (P i0)), (14, AV.ref 0 0), (15, i6 (NSys.base s)), (16, i6 (w6 (P i0 * NSys.base s))), (17, i6 n), (18, bo false), (21, i6 (P i0)), (22, AV.ref 0 0), (23, i6 (NSys.base s)), (24, i6 (w6 (P i0 * NSys.base s))), (25, i6 (w6 ((↑i0 : Int) + 1)))] [Ob.cells (sysC s)]) :=
  around_sound (ans := [(1, Ans.b true), (12, Ans.b false)]) (by kernel_rfl) (And.intro h0 (And.intro h1 trivial))
theorem power_r0_f (s : NSys) (n : Int) (P : Nat → Int) (X : Ext) (call : Caller) (lf : Nat) (i0 : Nat)
  (h0 : decide ((↑i0 : Int) < 2) = false) : vexec Tryd.prog X call lf 0 noFg (loopN Tryd.f34 0) (stOf 27 [4, 5, 7, 11, 12, 13, 14, 15, 16, 17, 18, 19, 20, 21, 22, 23, 24, 25] [(0, AV.agg (sysC s)), (1, i6 n), (2, AV.ref 0 0), (6, i6 (P i0)), (8, AV.ref 0 0), (9, i6 (NSys.base s)), (10, i6 (↑i0 : Int))] [Ob.cells (sysC s)]) = some (Ex.exit 0, stOf 27 [4, 5, 7, 12, 13, 14, 15, 16, 17, 18, 19, 20, 21, 22, 23, 24, 25] [(0, AV.agg (sysC s)), (1, i6 n), (2, AV.ref 0 0), (6, i6 (P i0)), (8, AV.ref 0 0), (9, i6 (NSys.base s)), (10, i6 (↑i0 : Int)), (11, bo false)] [Ob.cells (sysC s)]) :=
  around_sound (ans := [(1, Ans.b false)]) (by kernel_rfl) (And.intro h0 trivial)
theorem power_plf (s : NSys) (n : Int) (P : Nat → Int) (X : Ext) (call : Caller) (lf : Nat) (i0 : Nat)
  (h0 : vexec Tryd.prog X call lf 0 noFg (Code.loop (loopN Tryd.f34 0)) (stOf 27 [] [(0, AV.agg (sysC s)), (1, i6 n), (2, AV.ref 0 0), (4, i6 0), (5, i6 0), (6, i6 (NSys.base s)), (8, AV.ref 0 0), (9, i6 (NSys.base s)), (10, i6 0)] [Ob.cells (sysC s)]) = some (Ex.exit 0, stOf 27 [4, 5, 7, 12, 13, 14, 15, 16, 17, 18, 19, 20, 21, 22, 23, 24, 25] [(0, AV.agg (sysC s)), (1, i6 n), (2, AV.ref 0 0), (6, i6 (P i0)), (8, AV.ref 0 0), (9, i6 (NSys.base s)), (10, i6 (↑i0 : Int)), (11, bo false)] [Ob.cells (sysC s)])) : vbody Tryd.prog X call lf noFg Tryd.f34 (codeOf Tryd.f34) [AV.agg (sysC s), i6 n] [] 0 = some (AV.tup [i6 (P i0), i6 2], [Ob.cells (sysC s)]) :=
  along_sound (ans := [(10, Ans.l (Ex.exit 0) (stOf 27 [4, 5, 7, 12, 13, 14, 15, 16, 17, 18, 19, 20, 21, 22, 23, 24, 25] [(0, AV.agg (sysC s)), (1, i6 n), (2, AV.ref 0 0), (6, i6 (P i0)), (8, AV.ref 0 0), (9, i6 (NSys.base s)), (10, i6 (↑i0 : Int)), (11, bo false)] [Ob.cells (sysC s)]))]) (by kernel_rfl) (And.intro h0 trivial)


/-- less: is a number said by subtraction? -/
def lessL (s : NSys) (q p r : Int) : Bool := decide (s.sub > 0) && (decide (r ≥ w6 (p - s.sub)) && decide (w6 (q + 1) < s.base))
theorem less_spec (s : NSys) (q p r : Int) (X : Ext) (call : Caller) (lf : Nat) : vbody Tryd.prog X call lf noFg Tryd.f35 (codeOf Tryd.f35) [AV.agg (sysC s), i6 q, i6 p, i6 r] [] 0 = some (bo (lessL s q p r), [Ob.cells (sysC s)]) := by
  unfold lessL
  cases h0 : decide (s.sub > 0) with
  | false => exact less_pf s q p r X call lf h0
  | true =>
    cases h1 : decide (r ≥ w6 (p - s.sub)) with
    | false => exact less_ptf s q p r X call lf h0 h1
    | true =>
      cases h2 : decide (w6 (q + 1) < s.base) with
      | false => exact less_pttf s q p r X call lf h0 h1 h2
      | true => exact less_pttt s q p r X call lf h0 h1 h2
def powK (s : NSys) (n : Int) : Nat := if s.base ^ 2 > n then 0 else if s.base ^ 3 > n then 1 else 2
abbrev D34 : List Nat := [25, 24, 23, 22, 21, 5, 4, 20, 19, 18, 17, 16, 15, 14, 13, 7, 12, 11]
theorem dead34 : (deadC (loopN Tryd.f34 0) ([], [])).2 = D34 := by kernel_rfl
def powF (s : NSys) (n : Int) (i : Nat) : St := (stOf 27 [4, 5, 7, 11, 12, 13, 14, 15, 16, 17, 18, 19, 20, 21, 22, 23, 24, 25] [(0, AV.agg (sysC s)), (1, i6 n), (2, AV.ref 0 0), (6, i6 (s.base ^ (i + 1))), (8, AV.ref 0 0), (9, i6 (NSys.base s)), (10, i6 (↑i : Int))] [Ob.cells (sysC s)])
theorem pow_mul {s : NSys} (hb : s.base = 10 ∨ s.base = 20) {i : Nat} (hi : i < 2) : w6 (s.base ^ (i + 1) * s.base) = s.base ^ (i + 2) := by
  have h : i = 0 ∨ i = 1 := by omega
  rcases hb with hb | hb <;> rcases h with rfl | rfl <;> rw [hb] <;> (show _ = _) <;> kernel_rfl
theorem pow_round {s : NSys} {n : Int} {X : Ext} {call : Caller} {lf : Nat} (hb : s.base = 10 ∨ s.base = 20) {i : Nat} (hi : i < 2) (hn : ¬ s.base ^ (i + 2) > n) :
    ∃ S1, vexec Tryd.prog X call lf 0 noFg (loopN Tryd.f34 0) (powF s n i) = some (.normal, S1) ∧ forget D34 S1 = powF s n (i + 1) := by
  refine ⟨_, power_r0_tf s n (fun i => s.base ^ (i + 1)) X call lf i (by simp; omega) (by simp only [pow_mul hb hi]; exact decide_eq_false hn), ?_⟩
  have e : w6 ((i : Int) + 1) = ((i + 1 : Nat) : Int) := wrap_small (by omega)
  simp only [pow_mul hb hi, e]
  show _ = _
  kernel_rfl
theorem power_spec (s : NSys) (n : Int) (X : Ext) (call : Caller) (lf : Nat) (hlf : 2 < lf) (hb : s.base = 10 ∨ s.base = 20) :
    vbody Tryd.prog X call lf noFg Tryd.f34 (codeOf Tryd.f34) [AV.agg (sysC s), i6 n] [] 0 = some (AV.tup [i6 (s.base ^ (powK s n + 1)), i6 (powK s n)], [Ob.cells (sysC s)]) := by
  have start : forget D34 (stOf 27 [] [(0, AV.agg (sysC s)), (1, i6 n), (2, AV.ref 0 0), (4, i6 0), (5, i6 0), (6, i6 (NSys.base s)), (8, AV.ref 0 0), (9, i6 (NSys.base s)), (10, i6 0)] [Ob.cells (sysC s)]) = powF s n 0 := by
    have e : s.base ^ (0 + 1) = s.base := by rw [Nat.zero_add]; exact Int.pow_one _
    unfold powF
    rw [e]
    show _ = _
    kernel_rfl
  unfold powK
  by_cases h2 : s.base ^ 2 > n
  · rw [if_pos h2]
    exact power_pltt s n (fun i => s.base ^ (i + 1)) X call lf 0 (loop_run (P := Tryd.prog) (X := X) (call := call) (lf := lf) (ro := 0) (fg := noFg) dead34 (powF s n) 0 (by omega) start (fun i hi => absurd hi (by omega))
      (power_r0_tt s n (fun i => s.base ^ (i + 1)) X call lf 0 (by simp) (by simp only [pow_mul hb (show 0 < 2 by omega)]; exact decide_eq_true h2)) (by simp))
  · rw [if_neg h2]
    by_cases h3 : s.base ^ 3 > n
    · rw [if_pos h3]
      exact power_pltt s n (fun i => s.base ^ (i + 1)) X call lf 1 (loop_run (P := Tryd.prog) (X := X) (call := call) (lf := lf) (ro := 0) (fg := noFg) dead34 (powF s n) 1 (by omega) start
        (fun i hi => by
          have : i = 0 := by omega
          subst this
          exact pow_round hb (by omega) h2)
        (power_r0_tt s n (fun i => s.base ^ (i + 1)) X call lf 1 (by simp) (by simp only [pow_mul hb (show 1 < 2 by omega)]; exact decide_eq_true h3)) (by simp))
    · rw [if_neg h3]
      exact power_plf s n (fun i => s.base ^ (i + 1)) X call lf 2 (loop_run (P := Tryd.prog) (X := X) (call := call) (lf := lf) (ro := 0) (fg := noFg) dead34 (powF s n) 2 (by omega) start
        (fun i hi => by
          have : i = 0 ∨ i = 1 := by omega
          rcases this with rfl | rfl
          · exact pow_round hb (by omega) h2
          · exact pow_round hb (by omega) h3)
        (power_r0_f s n (fun i => s.base ^ (i + 1)) X call lf 2 (by simp)) (by simp))
end Go.Proofs.Num
end
/- Numeral: Texts, Ints. -/
section
open Go Go.Vm Go.Proofs
namespace Go.Proofs.Num
theorem texts_pt (ka : LK) (kb : LK) (na : Nat) (nb : Nat) (sa : Nat) (sb : Nat) (a : List AV) (b : List AV) (X : Ext) (call : Caller) (lf : Nat)
  (h0 : ((↑na : Int) != (↑nb : Int)) = true) : vbody Tryd.prog X call lf noFg Tryd.f17 (codeOf Tryd.f17) [AV.list ka na sa a, AV.list kb nb sb b] [] 0 = some (bo false, []) :=
  along_sound (ans := [(7, Ans.b true)]) (by kernel_rfl) (And.intro h0 trivial)
theorem texts_r0_tt (ka : LK) (kb : LK) (na : Nat) (nb : Nat) (sa : Nat) (sb : Nat) (a : List AV) (b : List AV) (ra : List AV) (rb : List AV) (x : ByteArray) (y : ByteArray) (X : Ext) (call : Caller) (lf : Nat) (i0 : Nat)
  (h0 : decide ((↑i0 : Int) < (↑na : Int)) = true)
  (h1 : keep [] (indexAddrv Tryd.prog 22 [] (AV.list ka na sa a) (i6 (↑i0 : Int))) = some (AV.eaddr ra, []))
  (h2 : keep [] (loadv Tryd.prog 9 [] (AV.eaddr ra)) = some (st x, []))
  (h3 : keep [] (indexAddrv Tryd.prog 22 [] (AV.list kb nb sb b) (i6 (↑i0 : Int))) = some (AV.eaddr rb, []))
  (h4 : keep [] (loadv Tryd.prog 9 [] (AV.eaddr rb)) = some (st y, []))
  (h5 : (!ByteArray.toList x == ByteArray.toList y) = true) : vexec Tryd.prog X call lf 0 noFg (loopN Tryd.f17 0) (stOf 26 [4, 11, 12, 13, 14, 15, 16, 17, 18, 19, 20, 21, 22, 23, 24, 25] [(0, AV.list ka na sa a), (1, AV.list kb nb sb b), (5, i6 (↑i0 : Int)), (6, AV.list ka na sa a), (7, i6 (↑na : Int)), (8, AV.list kb nb sb b), (9, i6 (↑nb : Int)), (10, bo false)] []) = some (Ex.ret, stOf 26 [15, 16] [(0, AV.list ka na sa a), (1, AV.list kb nb sb b), (4, bo false), (5, i6 (↑i0 : Int)), (6, AV.list ka na sa a), (7, i6 (↑na : Int)), (8, AV.list kb nb sb b), (9, i6 (↑nb : Int)), (10, bo false), (11, i6 (↑i0 : Int)), (12, AV.list ka na sa a), (13, i6 (↑na : Int)), (14, bo true), (17, AV.list ka na sa a), (18, i6 (↑i0 : Int)), (19, AV.eaddr ra), (20, st x), (21, AV.list kb nb sb b), (22, i6 (↑i0 : Int)), (23, AV.eaddr rb), (24, st y), (25, bo true)] []) :=
  around_sound (ans := [(4, Ans.b true), (9, Ans.v (AV.eaddr ra)), (10, Ans.v (st x)), (13, Ans.v (AV.eaddr rb)), (14, Ans.v (st y)), (15, Ans.b true)]) (by kernel_rfl) (And.intro h0 (And.intro h1 (And.intro h2 (And.intro h3 (And.intro h4 (And.intro h5 trivial))))))
theorem texts_pfltt (ka : LK) (kb : LK) (na : Nat) (nb : Nat) (sa : Nat) (sb : Nat) (a : List AV) (b : List AV) (ra : List AV) (rb : List AV) (x : ByteArray) (y : ByteArray) (X : Ext) (call : Caller) (lf : Nat) (i0 : Nat)
  (h0 : ((↑na : Int) != (↑nb : Int)) = false)
  (h1 : vexec Tryd.prog X call lf 0 noFg (Code.loop (loopN Tryd.f17 0)) (stOf 26 [] [(0, AV.list ka na sa a), (1, AV.list kb nb sb b), (4, bo false), (5, i6 0), (6, AV.list ka na sa a), (7, i6 (↑na : Int)), (8, AV.list kb nb sb b), (9, i6 (↑nb : Int)), (10, bo false)] []) = some (Ex.ret, stOf 26 [15, 16] [(0, AV.list ka na sa a), (1, AV.list kb nb sb b), (4, bo false), (5, i6 (↑i0 : Int)), (6, AV.list ka na sa a), (7, i6 (↑na : Int)), (8, AV.list kb nb sb b), (9, i6 (↑nb : Int)), (10, bo false), (11, i6 (↑i0 : Int)), (12, AV.list ka na sa a), (13, i6 (↑na : Int)), (14, bo true), (17, AV.list ka na sa a), (18, i6 (↑i0 : Int)), (19, AV.eaddr ra), (20, st x), (21, AV.list kb nb sb b), (22, i6 (↑i0 : Int)), (23, AV.eaddr rb), (24, st y), (25, bo true)] [])) : vbody Tryd.prog X call lf noFg Tryd.f17 (codeOf Tryd.f17) [AV.list ka na sa a, AV.list kb nb sb b] [] 0 = some (bo false, []) :=
  along_sound (ans := [(7, Ans.b false), (11, Ans.l Ex.ret (stOf 26 [15, 16] [(0, AV.list ka na sa a), (1, AV.list kb nb sb b), (4, bo false), (5, i6 (↑i0 : Int)), (6, AV.list ka na sa a), (7, i6 (↑na : Int)), (8, AV.list kb nb sb b), (9, i6 (↑nb : Int)), (10, bo false), (11, i6 (↑i0 : Int)), (12, AV.list ka na sa a), (13, i6 (↑na : Int)), (14, bo true), (17, AV.list ka na sa a), (18, i6 (↑i0 : Int)), (19, AV.eaddr ra), (20, st x), (21, AV.list kb nb sb b), (22, i6 (↑i0 : Int)), (23, AV.eaddr rb), (24, st y), (25, bo true)] []))]) (by kernel_rfl) (And.intro h0 (And.intro h1 trivial))
theorem texts_r0_tf (ka : LK) (kb : LK) (na : Nat) (nb : Nat) (sa : Nat) (sb : Nat) (a : List AV) (b : List AV) (ra : List AV) (rb : List AV) (x : ByteArray) (y : ByteArray) (X : Ext) (call : Caller) (lf : Nat) (i0 : Nat)
  (h0 : decide ((↑i0 : Int) < (↑na : Int)) = true)
  (h1 : keep [] (indexAddrv Tryd.prog 22 [] (AV.list ka na sa a) (i6 (↑i0 : Int))) = some (AV.eaddr ra, []))
  (h2 : keep [] (loadv Tryd.prog 9 [] (AV.eaddr ra)) = some (st x, []))
  (h3 : keep [] (indexAddrv Tryd.prog 22 [] (AV.list kb nb sb b) (i6 (↑i0 : Int))) = some (AV.eaddr rb, []))
  (h4 : keep [] (loadv Tryd.prog 9 [] (AV.eaddr rb)) = some (st y, []))
  (h5 : (!ByteArray.toList x == ByteArray.toList y) = false) : vexec Tryd.prog X call lf 0 noFg (loopN Tryd.f17 0) (stOf 26 [4, 11, 12, 13, 14, 15, 16, 17, 18, 19, 20, 21, 22, 23, 24, 25] [(0, AV.list ka na sa a), (1, AV.list kb nb sb b), (5, i6 (↑i0 : Int)), (6, AV.list ka na sa a), (7, i6 (↑na : Int)), (8, AV.list kb nb sb b), (9, i6 (↑nb : Int)), (10, bo false)] []) = some (Ex.normal, stOf 26 [4] [(0, AV.list ka na sa a), (1, AV.list kb nb sb b), (5, i6 (w6 ((↑i0 : Int) + 1))), (6, AV.list ka na sa a), (7, i6 (↑na : Int)), (8, AV.list kb nb sb b), (9, i6 (↑nb : Int)), (10, bo false), (11, i6 (↑i0 : Int)), (12, AV.list ka na sa a), (13, i6 (↑na : Int)), (14, bo true), (15, i6 (↑i0 : Int)), (16, i6 (w6 ((↑i0 : Int) + 1))), (17, AV.list ka na sa a), (18, i6 (↑i0 : Int)), (19, AV.eaddr ra), (20, st x), (21, AV.list kb nb sb b), (22, i6 (↑i0 : Int)), (23, AV.eaddr rb), (24, st y), (25, bo false)] []) :=
  around_sound (ans := [(4, Ans.b true), (9, Ans.v (AV.eaddr ra)), (10, Ans.v (st x)), (13, Ans.v (AV.eaddr rb)), (14, Ans.v (st y)), (15, Ans.b false)]) (by kernel_rfl) (And.intro h0 (And.intro h1 (And.intro h2 (And.intro h3 (And.intro h4 (And.intro h5 trivial))))))
theorem texts_r0_f (ka : LK) (kb : LK) (na : Nat) (nb : Nat) (sa : Nat) (sb : Nat) (a : List AV) (b : List AV) (X : Ext) (call : Caller) (lf : Nat) (i0 : Nat)
  (h0 : decide ((↑i0 : Int) < (↑na : Int)) = false) : vexec Tryd.prog X call lf 0 noFg (loopN Tryd.f17 0) (stOf 26 [4, 11, 12, 13, 14, 15, 16, 17, 18, 19, 20, 21, 22, 23, 24, 25] [(0, AV.list ka na sa a), (1, AV.list kb nb sb b), (5, i6 (↑i0 : Int)), (6, AV.list ka na sa a), (7, i6 (↑na : Int)), (8, AV.list kb nb sb b), (9, i6 (↑nb : Int)), (10, bo false)] []) = some (Ex.exit 0, stOf 26 [4, 15, 16, 17, 18, 19, 20, 21, 22, 23, 24, 25] [(0, AV.list ka na sa a), (1, AV.list kb nb sb b), (5, i6 (↑i0 : Int)), (6, AV.list ka na sa a), (7, i6 (↑na : Int)), (8, AV.list kb nb sb b), (9, i6 (↑nb : Int)), (10, bo false), (11, i6 (↑i0 : Int)), (12, AV.list ka na sa a), (13, i6 (↑na : Int)), (14, bo false)] []) :=
  around_sound (ans := [(4, Ans.b false)]) (by kernel_rfl) (And.intro h0 trivial)
theorem texts_pflf (ka : LK) (kb : LK) (na : Nat) (nb : Nat) (sa : Nat) (sb : Nat) (a : List AV) (b : List AV) (X : Ext) (call : Caller) (lf : Nat) (i0 : Nat)
  (h0 : ((↑na : Int) != (↑nb : Int)) = false)
  (h1 : vexec Tryd.prog X call lf 0 noFg (Code.loop (loopN Tryd.f17 0)) (stOf 26 [] [(0, AV.list ka na sa a), (1, AV.list kb nb sb b), (4, bo false), (5, i6 0), (6, AV.list ka na sa a), (7, i6 (↑na : Int)), (8, AV.list kb nb sb b), (9, i6 (↑nb : Int)), (10, bo false)] []) = some (Ex.exit 0, stOf 26 [4, 15, 16, 17, 18, 19, 20, 21, 22, 23, 24, 25] [(0, AV.list ka na sa a), (1, AV.list kb nb sb b), (5, i6 (↑i0 : Int)), (6, AV.list ka na sa a), (7, i6 (↑na : Int)), (8, AV.list kb nb sb b), (9, i6 (↑nb : Int)), (10, bo false), (11, i6 (↑i0 : Int)), (12, AV.list ka na sa a), (13, i6 (↑na : Int)), (14, bo false)] [])) : vbody Tryd.prog X call lf noFg Tryd.f17 (codeOf Tryd.f17) [AV.list ka na sa a, AV.list kb nb sb b] [] 0 = some (bo true, []) :=
  along_sound (ans := [(7, Ans.b false), (11, Ans.l (Ex.exit 0) (stOf 26 [4, 15, 16, 17, 18, 19, 20, 21, 22, 23, 24, 25] [(0, AV.list ka na sa a), (1, AV.list kb nb sb b), (5, i6 (↑i0 : Int)), (6, AV.list ka na sa a), (7, i6 (↑na : Int)), (8, AV.list kb nb sb b), (9, i6 (↑nb : Int)), (10, bo false), (11, i6 (↑i0 : Int)), (12, AV.list ka na sa a), (13, i6 (↑na : Int)), (14, bo false)] []))]) (by kernel_rfl) (And.intro h0 (And.intro h1 trivial))
theorem ints_pt (ka : LK) (kb : LK) (na : Nat) (nb : Nat) (sa : Nat) (sb : Nat) (a : List AV) (b : List AV) (X : Ext) (call : Caller) (lf : Nat)
  (h0 : ((↑na : Int) != (↑nb : Int)) = true) : vbody Tryd.prog X call lf noFg Tryd.f19 (codeOf Tryd.f19) [AV.list ka na sa a, AV.list kb nb sb b] [] 0 = some (bo false, []) :=
  along_sound (ans := [(7, Ans.b true)]) (by kernel_rfl) (And.intro h0 trivial)
theorem ints_r0_tt (ka : LK) (kb : LK) (na : Nat) (nb : Nat) (sa : Nat) (sb : Nat) (a : List AV) (b : List AV) (ra : List AV) (rb : List AV) (x : Int) (y : Int) (X : Ext) (call : Caller) (lf : Nat) (i0 : Nat)
  (h0 : decide ((↑i0 : Int) < (↑na : Int)) = true)
  (h1 : keep [] (indexAddrv Tryd.prog 34 [] (AV.list ka na sa a) (i6 (↑i0 : Int))) = some (AV.eaddr ra, []))
  (h2 : keep [] (loadv Tryd.prog 3 [] (AV.eaddr ra)) = some (i6 x, []))
  (h3 : keep [] (indexAddrv Tryd.prog 34 [] (AV.list kb nb sb b) (i6 (↑i0 : Int))) = some (AV.eaddr rb, []))
  (h4 : keep [] (loadv Tryd.prog 3 [] (AV.eaddr rb)) = some (i6 y, []))
  (h5 : (x != y) = true) : vexec Tryd.prog X call lf 0 noFg (loopN Tryd.f19 0) (stOf 26 [4, 11, 12, 13, 14, 15, 16, 17, 18, 19, 20, 21, 22, 23, 24, 25] [(0, AV.list ka na sa a), (1, AV.list kb nb sb b), (5, i6 (↑i0 : Int)), (6, AV.list ka na sa a), (7, i6 (↑na : Int)), (8, AV.list kb nb sb b), (9, i6 (↑nb : Int)), (10, bo false)] []) = some (Ex.ret, stOf 26 [15, 16] [(0, AV.list ka na sa a), (1, AV.list kb nb sb b), (4, bo false), (5, i6 (↑i0 : Int)), (6, AV.list ka na sa a), (7, i6 (↑na : Int)), (8, AV.list kb nb sb b), (9, i6 (↑nb : Int)), (10, bo false), (11, i6 (↑i0 : Int)), (12, AV.list ka na sa a), (13, i6 (↑na : Int)), (14, bo true), (17, AV.list ka na sa a), (18, i6 (↑i0 : Int)), (19, AV.eaddr ra), (20, i6 x), (21, AV.list kb nb sb b), (22, i6 (↑i0 : Int)), (23, AV.eaddr rb), (24, i6 y), (25, bo true)] []) :=
  around_sound (ans := [(4, Ans.b true), (9, Ans.v (AV.eaddr ra)), (10, Ans.v (i6 x)), (13, Ans.v (AV.eaddr rb)), (14, Ans.v (i6 y)), (15, Ans.b true)]) (by kernel_rfl) (And.intro h0 (And.intro h1 (And.intro h2 (And.intro h3 (And.intro h4 (And.intro h5 trivial))))))
theorem ints_pfltt (ka : LK) (kb : LK) (na : Nat) (nb : Nat) (sa : Nat) (sb : Nat) (a : List AV) (b : List AV) (ra : List AV) (rb : List AV) (x : Int) (y : Int) (X : Ext) (call : Caller) (lf : Nat) (i0 : Nat)
  (h0 : ((↑na : Int) != (↑nb : Int)) = false)
  (h1 : vexec Tryd.prog X call lf 0 noFg (Code.loop (loopN Tryd.f19 0)) (stOf 26 [] [(0, AV.list ka na sa a), (1, AV.list kb nb sb b), (4, bo false), (5, i6 0), (6, AV.list ka na sa a), (7, i6 (↑na : Int)), (8, AV.list kb nb sb b), (9, i6 (↑nb : Int)), (10, bo false)] []) = some (Ex.ret, stOf 26 [15, 16] [(0, AV.list ka na sa a), (1, AV.list kb nb sb b), (4, bo false), (5, i6 (↑i0 : Int)), (6, AV.list ka na sa a), (7, i6 (↑na : Int)), (8, AV.list kb nb sb b), (9, i6 (↑nb : Int)), (10, bo false), (11, i6 (↑i0 : Int)), (12, AV.list ka na sa a), (13, i6 (↑na : Int)), (14, bo true), (17, AV.list ka na sa a), (18, i6 (↑i0 : Int)), (19, AV.eaddr ra), (20, i6 x), (21, AV.list kb nb sb b), (22, i6 (↑i0 : Int)), (23, AV.eaddr rb), (24, i6 y), (25, bo true)] [])) : vbody Tryd.prog X call lf noFg Tryd.f19 (codeOf Tryd.f19) [AV.list ka na sa a, AV.list kb nb sb b] [] 0 = some (bo false, []) :=
  along_sound (ans := [(7, Ans.b false), (11, Ans.l Ex.ret (stOf 26 [15, 16] [(0, AV.list ka na sa a), (1, AV.list kb nb sb b), (4, bo false), (5, i6 (↑i0 : Int)), (6, AV.list ka na sa a), (7, i6 (↑na : Int)), (8, AV.list kb nb sb b), (9, i6 (↑nb : Int)), (10, bo false), (11, i6 (↑i0 : Int)), (12, AV.list ka na sa a), (13, i6 (↑na : Int)), (14, bo true), (17, AV.list ka na sa a), (18, i6 (↑i0 : Int)), (19, AV.eaddr ra), (20, i6 x), (21, AV.list kb nb sb b), (22, i6 (↑i0 : Int)), (23, AV.eaddr rb), (24, i6 y), (25, bo true)] []))]) (by kernel_rfl) (And.intro h0 (And.intro h1 trivial))
theorem ints_r0_tf (ka : LK) (kb : LK) (na : Nat) (nb : Nat) (sa : Nat) (sb : Nat) (a : List AV) (b : List AV) (ra : List AV) (rb : List AV) (x : Int) (y : Int) (X : Ext) (call : Caller) (lf : Nat) (i0 : Nat)
  (h0 : decide ((↑i0 : Int) < (↑na : Int)) = true)
  (h1 : keep [] (indexAddrv Tryd.prog 34 [] (AV.list ka na sa a) (i6 (↑i0 : Int))) = some (AV.eaddr ra, []))
  (h2 : keep [] (loadv Tryd.prog 3 [] (AV.eaddr ra)) = some (i6 x, []))
  (h3 : keep [] (indexAddrv Tryd.prog 34 [] (AV.list kb nb sb b) (i6 (↑i0 : Int))) = some (AV.eaddr rb, []))
  (h4 : keep [] (loadv Tryd.prog 3 [] (AV.eaddr rb)) = some (i6 y, []))
  (h5 : (x != y) = false) : vexec Tryd.prog X call lf 0 noFg (loopN Tryd.f19 0) (stOf 26 [4, 11, 12, 13, 14, 15, 16, 17, 18, 19, 20, 21, 22, 23, 24, 25] [(0, AV.list ka na sa a), (1, AV.list kb nb sb b), (5, i6 (↑i0 : Int)), (6, AV.list ka na sa a), (7, i6 (↑na : Int)), (8, AV.list kb nb sb b), (9, i6 (↑nb : Int)), (10, bo false)] []) = some (Ex.normal, stOf 26 [4] [(0, AV.list ka na sa a), (1, AV.list kb nb sb b), (5, i6 (w6 ((↑i0 : Int) + 1))), (6, AV.list ka na sa a), (7, i6 (↑na : Int)), (8, AV.list kb nb sb b), (9, i6 (↑nb : Int)), (10, bo false), (11, i6 (↑i0 : Int)), (12, AV.list ka na sa a), (13, i6 (↑na : Int)), (14, bo true), (15, i6 (↑i0 : Int)), (16, i6 (w6 ((↑i0 : Int) + 1))), (17, AV.list ka na sa a), (18, i6 (↑i0 : Int)), (19, AV.eaddr ra), (20, i6 x), (21, AV.list kb nb sb b), (22, i6 (↑i0 : Int)), (23, AV.eaddr rb), (24, i6 y), (25, bo false)] []) :=
  around_sound (ans := [(4, Ans.b true), (9, Ans.v (AV.eaddr ra)), (10, Ans.v (i6 x)), (13, Ans.v (AV.eaddr rb)), (14, Ans.v (i6 y)), (15, Ans.b false)]) (by kernel_rfl) (And.intro h0 (And.intro h1 (And.intro h2 (And.intro h3 (And.intro h4 (And.intro h5 trivial))))))
theorem ints_r0_f (ka : LK) (kb : LK) (na : Nat) (nb : Nat) (sa : Nat) (sb : Nat) (a : List AV) (b : List AV) (X : Ext) (call : Caller) (lf : Nat) (i0 : Nat)
  (h0 : decide ((↑i0 : Int) < (↑na : Int)) = false) : vexec Tryd.prog X call lf 0 noFg (loopN Tryd.f19 0) (stOf 26 [4, 11, 12, 13, 14, 15, 16, 17, 18, 19, 20, 21, 22, 23, 24, 25] [(0, AV.list ka na sa a), (1, AV.list kb nb sb b), (5, i6 (↑i0 : Int)), (6, AV.list ka na sa a), (7, i6 (↑na : Int)), (8, AV.list kb nb sb b), (9, i6 (↑nb : Int)), (10, bo false)] []) = some (Ex.exit 0, stOf 26 [4, 15, 16, 17, 18, 19, 20, 21, 22, 23, 24, 25] [(0, AV.list ka na sa a), (1, AV.list kb nb sb b), (5, i6 (↑i0 : Int)), (6, AV.list ka na sa a), (7, i6 (↑na : Int)), (8, AV.list kb nb sb b), (9, i6 (↑nb : Int)), (10, bo false), (11, i6 (↑i0 : Int)), (12, AV.list ka na sa a), (13, i6 (↑na : Int)), (14, bo false)] []) :=
  around_sound (ans := [(4, Ans.b false)]) (by kernel_rfl) (And.intro h0 trivial)
theorem ints_pflf (ka : LK) (kb : LK) (na : Nat) (nb : Nat) (sa : Nat) (sb : Nat) (a : List AV) (b : List AV) (X : Ext) (call : Caller) (lf : Nat) (i0 : Nat)
  (h0 : ((↑na : Int) != (↑nb : Int)) = false)
  (h1 : vexec Tryd.prog X call lf 0 noFg (Code.loop (loopN Tryd.f19 0)) (stOf 26 [] [(0, AV.list ka na sa a), (1, AV.list kb nb sb b), (4, bo false), (5, i6 0), (6, AV.list ka na sa a), (7, i6 (↑na : Int)), (8, AV.list kb nb sb b), (9, i6 (↑nb : Int)), (10, bo false)] []) = some (Ex.exit 0, stOf 26 [4, 15, 16, 17, 18, 19, 20, 21, 22, 23, 24, 25] [(0, AV.list ka na sa a), (1, AV.list kb nb sb b), (5, i6 (↑i0 : Int)), (6, AV.list ka na sa a), (7, i6 (↑na : Int)), (8, AV.list kb nb sb b), (9, i6 (↑nb : Int)), (10, bo false), (11, i6 (↑i0 : Int)), (12, AV.list ka na sa a), (13, i6 (↑na : Int)), (14, bo false)] [])) : vbody Tryd.prog X call lf noFg Tryd.f19 (codeOf Tryd.f19) [AV.list ka na sa a, AV.list kb nb sb b] [] 0 = some (bo true, []) :=
  along_sound (ans := [(7, Ans.b false), (11, Ans.l (Ex.exit 0) (stOf 26 [4, 15, 16, 17, 18, 19, 20, 21, 22, 23, 24, 25] [(0, AV.list ka na sa a), (1, AV.list kb nb sb b), (5, i6 (↑i0 : Int)), (6, AV.list ka na sa a), (7, i6 (↑na : Int)), (8, AV.list kb nb sb b), (9, i6 (↑nb : Int)), (10, bo false), (11, i6 (↑i0 : Int)), (12, AV.list ka na sa a), (13, i6 (↑na : Int)), (14, bo false)] []))]) (by kernel_rfl) (And.intro h0 (And.intro h1 trivial))


def textsL : List ByteArray → List ByteArray → Bool
  | [], [] => true
  | x :: l, y :: m => (x.toList == y.toList) && textsL l m
  | _, _ => false
theorem textsL_len : ∀ {l m : List ByteArray}, l.length ≠ m.length → textsL l m = false
  | [], [], h => absurd rfl h
  | x :: l, y :: m, h => by simp only [textsL, textsL_len (l := l) (m := m) (by simpa using h), Bool.and_false]
  | [], _ :: _, _ => rfl
  | _ :: _, [], _ => rfl
theorem textsL_all : ∀ {l m : List ByteArray}, l.length = m.length → (∀ (i : Nat) (x y : ByteArray), l[i]? = some x → m[i]? = some y → (x.toList == y.toList) = true) → textsL l m = true
  | [], [], _, _ => rfl
  | x :: l, y :: m, h, k => by
    simp only [textsL, k 0 x y rfl rfl, Bool.true_and]
    exact textsL_all (by simpa using h) fun i a b ha hb => k (i + 1) a b ha hb
  | [], _ :: _, h, _ => by simp at h
  | _ :: _, [], h, _ => by simp at h
theorem textsL_at : ∀ {l m : List ByteArray} (i : Nat) {x y : ByteArray}, l[i]? = some x → m[i]? = some y → (x.toList == y.toList) = false → textsL l m = false
  | a :: l, b :: m, 0, x, y, h, k, e => by
    simp only [List.getElem?_cons_zero, Option.some.injEq] at h k
    subst h; subst k
    simp only [textsL, e, Bool.false_and]
  | a :: l, b :: m, i + 1, x, y, h, k, e => by
    simp only [textsL, textsL_at (l := l) (m := m) i h k e, Bool.and_false]
  | [], _, _, _, _, h, _, _ => by simp at h
  | _ :: _, [], _, _, _, _, h, _ => by simp at h
abbrev D17 : List Nat := [16, 15, 4, 25, 24, 23, 22, 21, 20, 19, 18, 17, 14, 13, 12, 11]
theorem dead17 : (deadC (loopN Tryd.f17 0) ([], [])).2 = D17 := by kernel_rfl
def textsF (ka kb : LK) (na nb sa sb : Nat) (a b : List AV) (i : Nat) : St := (stOf 26 [4, 11, 12, 13, 14, 15, 16, 17, 18, 19, 20, 21, 22, 23, 24, 25] [(0, AV.list ka na sa a), (1, AV.list kb nb sb b), (5, i6 (↑i : Int)), (6, AV.list ka na sa a), (7, i6 (↑na : Int)), (8, AV.list kb nb sb b), (9, i6 (↑nb : Int)), (10, bo false)] [])
theorem texts_spec (X : Ext) (call : Caller) (lf : Nat) (ka kb : LK) (sa sb : Nat) {l m : List ByteArray} {a b : List AV} (hk : l.length ≤ 140737488355328) (hlf : l.length < lf) (ha : 0 < l.length → sa = 1 ∧ a = l.map st) (hb : 0 < m.length → sb = 1 ∧ b = m.map st) :
    vbody Tryd.prog X call lf noFg Tryd.f17 (codeOf Tryd.f17) [AV.list ka l.length sa a, AV.list kb m.length sb b] [] 0 = some (bo (textsL l m), []) := by
  cases hne : ((↑l.length : Int) != (↑m.length : Int)) with
  | true =>
    have : l.length ≠ m.length := by
      intro e
      rw [e] at hne
      simp at hne
    rw [texts_pt ka kb l.length m.length sa sb a b X call lf hne, textsL_len this]
  | false =>
    have hlen : l.length = m.length := by
      have : ((l.length : Int) = (m.length : Int)) := by simpa using hne
      omega
    have start : forget D17 (stOf 26 [] [(0, AV.list ka l.length sa a), (1, AV.list kb m.length sb b), (4, bo false), (5, i6 0), (6, AV.list ka l.length sa a), (7, i6 (↑l.length : Int)), (8, AV.list kb m.length sb b), (9, i6 (↑m.length : Int)), (10, bo false)] []) = textsF ka kb l.length m.length sa sb a b 0 := by kernel_rfl
    have at1 : ∀ i (hi : i < l.length), keep [] (indexAddrv Tryd.prog 22 [] (AV.list ka l.length sa a) (i6 (↑i : Int))) = some (AV.eaddr (a.drop i), []) ∧ keep [] (loadv Tryd.prog 9 [] (AV.eaddr (a.drop i))) = some (st (l[i]'hi), []) := by
      intro i hi
      obtain ⟨rfl, rfl⟩ := ha (by omega)
      exact ⟨at_list Tryd.underlying22 cells9 info9 hi, load_list Tryd.underlying9 rfl (by simp [hi])⟩
    have at2 : ∀ i (hi : i < m.length), keep [] (indexAddrv Tryd.prog 22 [] (AV.list kb m.length sb b) (i6 (↑i : Int))) = some (AV.eaddr (b.drop i), []) ∧ keep [] (loadv Tryd.prog 9 [] (AV.eaddr (b.drop i))) = some (st (m[i]'hi), []) := by
      intro i hi
      obtain ⟨rfl, rfl⟩ := hb (by omega)
      exact ⟨at_list Tryd.underlying22 cells9 info9 hi, load_list Tryd.underlying9 rfl (by simp [hi])⟩
    have round : ∀ i (hi : i < l.length), (!ByteArray.toList (l[i]'hi) == ByteArray.toList (m[i]'(hlen ▸ hi))) = false → ∃ S1, vexec Tryd.prog X call lf 0 noFg (loopN Tryd.f17 0) (textsF ka kb l.length m.length sa sb a b i) = some (.normal, S1) ∧ forget D17 S1 = textsF ka kb l.length m.length sa sb a b (i + 1) := by
      intro i hi he
      obtain ⟨q1, q2⟩ := at1 i hi
      obtain ⟨q3, q4⟩ := at2 i (hlen ▸ hi)
      refine ⟨_, texts_r0_tf ka kb l.length m.length sa sb a b (a.drop i) (b.drop i) (l[i]'hi) (m[i]'(hlen ▸ hi)) X call lf i (by simpa using hi) q1 q2 q3 q4 he, ?_⟩
      have e : w6 ((i : Int) + 1) = ((i + 1 : Nat) : Int) := wrap_small (by omega)
      rw [e]
      show _ = _
      kernel_rfl
    rcases first_fail (p := fun i => ∀ hi : i < l.length, (!ByteArray.toList (l[i]'hi) == ByteArray.toList (m[i]'(hlen ▸ hi))) = false) l.length with hall | ⟨k, hk', hbad, hbefore⟩
    · have hloop := loop_run (P := Tryd.prog) (X := X) (call := call) (lf := lf) (ro := 0) (fg := noFg) dead17 (textsF ka kb l.length m.length sa sb a b) l.length hlf start (fun i hi => round i hi (hall i hi hi))
        (texts_r0_f ka kb l.length m.length sa sb a b X call lf l.length (by simp)) (by simp)
      rw [texts_pflf ka kb l.length m.length sa sb a b X call lf l.length hne hloop, textsL_all hlen]
      intro i x y hx hy
      obtain ⟨hi, rfl⟩ := List.getElem?_eq_some_iff.1 hx
      obtain ⟨hj, rfl⟩ := List.getElem?_eq_some_iff.1 hy
      have := hall i hi hi
      simpa using this
    · have hbt : (!ByteArray.toList (l[k]'hk') == ByteArray.toList (m[k]'(hlen ▸ hk'))) = true := by
        cases h : (!ByteArray.toList (l[k]'hk') == ByteArray.toList (m[k]'(hlen ▸ hk'))) with
        | true => rfl
        | false => exact absurd (fun _ => h) hbad
      obtain ⟨q1, q2⟩ := at1 k hk'
      obtain ⟨q3, q4⟩ := at2 k (hlen ▸ hk')
      have hloop := loop_run (P := Tryd.prog) (X := X) (call := call) (lf := lf) (ro := 0) (fg := noFg) dead17 (textsF ka kb l.length m.length sa sb a b) k (Nat.lt_trans hk' hlf) start (fun i hi => round i (Nat.lt_trans hi hk') (hbefore i hi (Nat.lt_trans hi hk')))
        (texts_r0_tt ka kb l.length m.length sa sb a b (a.drop k) (b.drop k) (l[k]'hk') (m[k]'(hlen ▸ hk')) X call lf k (by simpa using hk') q1 q2 q3 q4 hbt) (by simp)
      rw [texts_pfltt ka kb l.length m.length sa sb a b (a.drop k) (b.drop k) (l[k]'hk') (m[k]'(hlen ▸ hk')) X call lf k hne hloop,
        textsL_at k (List.getElem?_eq_getElem hk') (List.getElem?_eq_getElem (hlen ▸ hk')) (by simpa using hbt)]

theorem cells3 : Tryd.prog.cellsOf 3 = 1 := by kernel_rfl
theorem info3 : (Tryd.prog.info? 3).isSome = true := by kernel_rfl

def intsL : List Int → List Int → Bool
  | [], [] => true
  | x :: l, y :: m => (x == y) && intsL l m
  | _, _ => false
theorem intsL_len : ∀ {l m : List Int}, l.length ≠ m.length → intsL l m = false
  | [], [], h => absurd rfl h
  | x :: l, y :: m, h => by simp only [intsL, intsL_len (l := l) (m := m) (by simpa using h), Bool.and_false]
  | [], _ :: _, _ => rfl
  | _ :: _, [], _ => rfl
theorem intsL_all : ∀ {l m : List Int}, l.length = m.length → (∀ (i : Nat) (x y : Int), l[i]? = some x → m[i]? = some y → (x == y) = true) → intsL l m = true
  | [], [], _, _ => rfl
  | x :: l, y :: m, h, k => by
    simp only [intsL, k 0 x y rfl rfl, Bool.true_and]
    exact intsL_all (by simpa using h) fun i a b ha hb => k (i + 1) a b ha hb
  | [], _ :: _, h, _ => by simp at h
  | _ :: _, [], h, _ => by simp at h
theorem intsL_at : ∀ {l m : List Int} (i : Nat) {x y : Int}, l[i]? = some x → m[i]? = some y → (x == y) = false → intsL l m = false
  | a :: l, b :: m, 0, x, y, h, k, e => by
    simp only [List.getElem?_cons_zero, Option.some.injEq] at h k
    subst h; subst k
    simp only [intsL, e, Bool.false_and]
  | a :: l, b :: m, i + 1, x, y, h, k, e => by
    simp only [intsL, intsL_at (l := l) (m := m) i h k e, Bool.and_false]
  | [], _, _, _, _, h, _, _ => by simp at h
  | _ :: _, [], _, _, _, _, h, _ => by simp at h
abbrev D19 : List Nat := [16, 15, 4, 25, 24, 23, 22, 21, 20, 19, 18, 17, 14, 13, 12, 11]
theorem dead19 : (deadC (loopN Tryd.f19 0) ([], [])).2 = D19 := by kernel_rfl
def intsF (ka kb : LK) (na nb sa sb : Nat) (a b : List AV) (i : Nat) : St := (stOf 26 [4, 11, 12, 13, 14, 15, 16, 17, 18, 19, 20, 21, 22, 23, 24, 25] [(0, AV.list ka na sa a), (1, AV.list kb nb sb b), (5, i6 (↑i : Int)), (6, AV.list ka na sa a), (7, i6 (↑na : Int)), (8, AV.list kb nb sb b), (9, i6 (↑nb : Int)), (10, bo false)] [])
theorem ints_spec (X : Ext) (call : Caller) (lf : Nat) (ka kb : LK) (sa sb : Nat) {l m : List Int} {a b : List AV} (hk : l.length ≤ 140737488355328) (hlf : l.length < lf) (ha : 0 < l.length → sa = 1 ∧ a = l.map i6) (hb : 0 < m.length → sb = 1 ∧ b = m.map i6) :
    vbody Tryd.prog X call lf noFg Tryd.f19 (codeOf Tryd.f19) [AV.list ka l.length sa a, AV.list kb m.length sb b] [] 0 = some (bo (intsL l m), []) := by
  cases hne : ((↑l.length : Int) != (↑m.length : Int)) with
  | true =>
    have : l.length ≠ m.length := by
      intro e
      rw [e] at hne
      simp at hne
    rw [ints_pt ka kb l.length m.length sa sb a b X call lf hne, intsL_len this]
  | false =>
    have hlen : l.length = m.length := by
      have : ((l.length : Int) = (m.length : Int)) := by simpa using hne
      omega
    have start : forget D19 (stOf 26 [] [(0, AV.list ka l.length sa a), (1, AV.list kb m.length sb b), (4, bo false), (5, i6 0), (6, AV.list ka l.length sa a), (7, i6 (↑l.length : Int)), (8, AV.list kb m.length sb b), (9, i6 (↑m.length : Int)), (10, bo false)] []) = intsF ka kb l.length m.length sa sb a b 0 := by kernel_rfl
    have at1 : ∀ i (hi : i < l.length), keep [] (indexAddrv Tryd.prog 34 [] (AV.list ka l.length sa a) (i6 (↑i : Int))) = some (AV.eaddr (a.drop i), []) ∧ keep [] (loadv Tryd.prog 3 [] (AV.eaddr (a.drop i))) = some (i6 (l[i]'hi), []) := by
      intro i hi
      obtain ⟨rfl, rfl⟩ := ha (by omega)
      exact ⟨at_list Tryd.underlying34 cells3 info3 hi, load_list Tryd.underlying3 rfl (by simp [hi])⟩
    have at2 : ∀ i (hi : i < m.length), keep [] (indexAddrv Tryd.prog 34 [] (AV.list kb m.length sb b) (i6 (↑i : Int))) = some (AV.eaddr (b.drop i), []) ∧ keep [] (loadv Tryd.prog 3 [] (AV.eaddr (b.drop i))) = some (i6 (m[i]'hi), []) := by
      intro i hi
      obtain ⟨rfl, rfl⟩ := hb (by omega)
      exact ⟨at_list Tryd.underlying34 cells3 info3 hi, load_list Tryd.underlying3 rfl (by simp [hi])⟩
    have round : ∀ i (hi : i < l.length), ((l[i]'hi) != (m[i]'(hlen ▸ hi))) = false → ∃ S1, vexec Tryd.prog X call lf 0 noFg (loopN Tryd.f19 0) (intsF ka kb l.length m.length sa sb a b i) = some (.normal, S1) ∧ forget D19 S1 = intsF ka kb l.length m.length sa sb a b (i + 1) := by
      intro i hi he
      obtain ⟨q1, q2⟩ := at1 i hi
      obtain ⟨q3, q4⟩ := at2 i (hlen ▸ hi)
      refine ⟨_, ints_r0_tf ka kb l.length m.length sa sb a b (a.drop i) (b.drop i) (l[i]'hi) (m[i]'(hlen ▸ hi)) X call lf i (by simpa using hi) q1 q2 q3 q4 he, ?_⟩
      have e : w6 ((i : Int) + 1) = ((i + 1 : Nat) : Int) := wrap_small (by omega)
      rw [e]
      show _ = _
      kernel_rfl
    rcases first_fail (p := fun i => ∀ hi : i < l.length, ((l[i]'hi) != (m[i]'(hlen ▸ hi))) = false) l.length with hall | ⟨k, hk', hbad, hbefore⟩
    · have hloop := loop_run (P := Tryd.prog) (X := X) (call := call) (lf := lf) (ro := 0) (fg := noFg) dead19 (intsF ka kb l.length m.length sa sb a b) l.length hlf start (fun i hi => round i hi (hall i hi hi))
        (ints_r0_f ka kb l.length m.length sa sb a b X call lf l.length (by simp)) (by simp)
      rw [ints_pflf ka kb l.length m.length sa sb a b X call lf l.length hne hloop, intsL_all hlen]
      intro i x y hx hy
      obtain ⟨hi, rfl⟩ := List.getElem?_eq_some_iff.1 hx
      obtain ⟨hj, rfl⟩ := List.getElem?_eq_some_iff.1 hy
      have := hall i hi hi
      simpa using this
    · have hbt : ((l[k]'hk') != (m[k]'(hlen ▸ hk'))) = true := by
        cases h : ((l[k]'hk') != (m[k]'(hlen ▸ hk'))) with
        | true => rfl
        | false => exact absurd (fun _ => h) hbad
      obtain ⟨q1, q2⟩ := at1 k hk'
      obtain ⟨q3, q4⟩ := at2 k (hlen ▸ hk')
      have hloop := loop_run (P := Tryd.prog) (X := X) (call := call) (lf := lf) (ro := 0) (fg := noFg) dead19 (intsF ka kb l.length m.length sa sb a b) k (Nat.lt_trans hk' hlf) start (fun i hi => round i (Nat.lt_trans hi hk') (hbefore i hi (Nat.lt_trans hi hk')))
        (ints_r0_tt ka kb l.length m.length sa sb a b (a.drop k) (b.drop k) (l[k]'hk') (m[k]'(hlen ▸ hk')) X call lf k (by simpa using hk') q1 q2 q3 q4 hbt) (by simp)
      rw [ints_pfltt ka kb l.length m.length sa sb a b (a.drop k) (b.drop k) (l[k]'hk') (m[k]'(hlen ▸ hk')) X call lf k hne hloop,
        intsL_at k (List.getElem?_eq_getElem hk') (List.getElem?_eq_getElem (hlen ▸ hk')) (by simpa using hbt)]
end Go.Proofs.Num
end
/- Numeral: english; the paths of Words. -/
section
open Go Go.Vm Go.Proofs
namespace Go.Proofs.Num
theorem english_p (X : Ext) (call : Caller) (lf : Nat) : vbody Tryd.prog X call lf noFg Tryd.f32 (codeOf Tryd.f32) [] [] 0 = some (AV.agg [i6 10, AV.list LK.clip 10 1 [st (ByteArray.mk #[122, 101, 114, 111]), st (ByteArray.mk #[111, 110, 101]), st (ByteArray.mk #[116, 119, 111]), st (ByteArray.mk #[116, 104, 114, 101, 101]), st (ByteArray.mk #[102, 111, 117, 114]), st (ByteArray.mk #[102, 105, 118, 101]), st (ByteArray.mk #[115, 105, 120]), st (ByteArray.mk #[115, 101, 118, 101, 110]), st (ByteArray.mk #[101, 105, 103, 104, 116]), st (ByteArray.mk #[110, 105, 110, 101])], AV.list LK.clip 3 1 [st (ByteArray.mk #[116, 101, 110]), st (ByteArray.mk #[104, 117, 110, 100, 114, 101, 100]), st (ByteArray.mk #[116, 104, 111, 117, 115, 97, 110, 100])], bo false, st (ByteArray.mk #[97, 110, 100]), i6 2, st (ByteArray.mk #[102, 114, 111, 109]), bo false], [Ob.cells [i6 10, AV.list LK.clip 10 1 [st (ByteArray.mk #[122, 101, 114, 111]), st (ByteArray.mk #[111, 110, 101]), st (ByteArray.mk #[116, 119, 111]), st (ByteArray.mk #[116, 104, 114, 101, 101]), st (ByteArray.mk #[102, 111, 117, 114]), st (ByteArray.mk #[102, 105, 118, 101]), st (ByteArray.mk #[115, 105, 120]), st (ByteArray.mk #[115, 101, 118, 101, 110]), st (ByteArray.mk #[101, 105, 103, 104, 116]), st (ByteArray.mk #[110, 105, 110, 101])], AV.list LK.clip 3 1 [st (ByteArray.mk #[116, 101, 110]), st (ByteArray.mk #[104, 117, 110, 100, 114, 101, 100]), st (ByteArray.mk #[116, 104, 111, 117, 115, 97, 110, 100])], bo false, st (ByteArray.mk #[97, 110, 100]), i6 2, st (ByteArray.mk #[102, 114, 111, 109]), bo false]]) :=
  along_sound (ans := []) (by kernel_rfl) trivial
theorem words_ptt (s : NSys) (n : Int) (X : Ext) (call : Caller) (lf : Nat)
  (h0 : callv X call false 22 [AV.agg (sysC s)] [Ob.cells (sysC s)] 0 = some (bo true, [Ob.cells (sysC s)]))
  (h1 : decide (n < 0) = true) : vbody Tryd.prog X call lf noFg Tryd.f16 (codeOf Tryd.f16) [AV.agg (sysC s), i6 n] [] 0 = some (AV.tup [AV.list LK.nil 0 0 [], i6 1], [Ob.cells (sysC s)]) :=
  along_sound (ans := [(6, Ans.v (bo true)), (12, Ans.b true)]) (by kernel_rfl) (And.intro h0 (And.intro h1 trivial))
theorem words_ptft (s : NSys) (n : Int) (X : Ext) (call : Caller) (lf : Nat)
  (h0 : callv X call false 22 [AV.agg (sysC s)] [Ob.cells (sysC s)] 0 = some (bo true, [Ob.cells (sysC s)]))
  (h1 : decide (n < 0) = false)
  (h2 : decide (n > 9999) = true) : vbody Tryd.prog X call lf noFg Tryd.f16 (codeOf Tryd.f16) [AV.agg (sysC s), i6 n] [] 0 = some (AV.tup [AV.list LK.nil 0 0 [], i6 2], [Ob.cells (sysC s)]) :=
  along_sound (ans := [(6, Ans.v (bo true)), (12, Ans.b false), (17, Ans.b true)]) (by kernel_rfl) (And.intro h0 (And.intro h1 (And.intro h2 trivial)))
theorem words_ptff (s : NSys) (n : Int) (n' : Nat) (cs : List AV) (X : Ext) (call : Caller) (lf : Nat)
  (h0 : callv X call false 22 [AV.agg (sysC s)] [Ob.cells (sysC s)] 0 = some (bo true, [Ob.cells (sysC s)]))
  (h1 : decide (n < 0) = false)
  (h2 : decide (n > 9999) = false)
  (h3 : callv X call false 33 [i6 n, AV.ref 0 0, AV.ref 1 0] [Ob.cells (sysC s), Ob.cells [AV.clo 33 [AV.ref 0 0, AV.ref 1 0]]] 0 = some (lro n' 1 cs, [Ob.cells (sysC s), Ob.cells [AV.clo 33 [AV.ref 0 0, AV.ref 1 0]]]))
  (h4 : vend1 [] 0 [Ob.cells (sysC s), Ob.cells [AV.clo 33 [AV.ref 0 0, AV.ref 1 0]]] [lro n' 1 cs, i6 0] = some (AV.tup [lro n' 1 cs, i6 0], [Ob.cells (sysC s), Ob.cells [AV.clo 33 [AV.ref 0 0, AV.ref 1 0]]])) : vbody Tryd.prog X call lf noFg Tryd.f16 (codeOf Tryd.f16) [AV.agg (sysC s), i6 n] [] 0 = some (AV.tup [lro n' 1 cs, i6 0], [Ob.cells (sysC s), Ob.cells [AV.clo 33 [AV.ref 0 0, AV.ref 1 0]]]) :=
  along_sound (ans := [(6, Ans.v (bo true)), (12, Ans.b false), (17, Ans.b false), (27, Ans.v (lro n' 1 cs)), (30, Ans.c (AV.tup [lro n' 1 cs, i6 0]) [Ob.cells (sysC s), Ob.cells [AV.clo 33 [AV.ref 0 0, AV.ref 1 0]]])]) (by kernel_rfl) (And.intro h0 (And.intro h1 (And.intro h2 (And.intro h3 (And.intro h4 trivial)))))
theorem words_pf (s : NSys) (n : Int) (X : Ext) (call : Caller) (lf : Nat)
  (h0 : callv X call false 22 [AV.agg (sysC s)] [Ob.cells (sysC s)] 0 = some (bo false, [Ob.cells (sysC s)])) : vbody Tryd.prog X call lf noFg Tryd.f16 (codeOf Tryd.f16) [AV.agg (sysC s), i6 n] [] 0 = some (AV.tup [AV.list LK.nil 0 0 [], i6 1], [Ob.cells (sysC s)]) :=
  along_sound (ans := [(6, Ans.v (bo false))]) (by kernel_rfl) (And.intro h0 trivial)


end Go.Proofs.Num
end
