/- Part 7 of the texts of this claim: the evaluator, and what it says of the program's functions. -/
import Derived.Test.YtdkoncfpkhapjaaDoorXF
import Derived.Test.YtdkoncfpkhapjaaDoorXD
import Derived.JoinedCond
set_option linter.unusedSectionVars false
set_option linter.unusedVariables false
set_option linter.unusedSimpArgs false
set_option linter.constructorNameAsVariable false
/- Numeral: Clash and its specification, walked. -/
section
open Go Go.Vm Go.Proofs
namespace Go.Proofs.Num
def clS0 (s : NSys) (n : Int) (es : Nat → List (AV × AV)) (i0 : Nat) : St :=
  stOf 45 [4, 5, 6, 8, 9, 10, 11, 12, 13, 22, 23, 24, 25, 26, 27, 28, 29, 30, 31, 32, 33, 34, 35, 36, 37, 38, 39, 40, 41, 42, 43, 44] [(0, AV.agg (sysC s)), (1, i6 n), (2, AV.ref 0 0), (7, AV.map 1), (14, AV.agg (sysC s)), (15, bo true), (16, bo false), (17, AV.map 1), (18, i6 n), (19, i6 (if false = true then if n < 9999 then 9999 else n else if 9999 < n then 9999 else n)), (20, i6 (w6 ((if false = true then if n < 9999 then 9999 else n else if 9999 < n then 9999 else n) + 1))), (21, i6 (↑i0 : Int))] [Ob.cells (sysC s), Ob.mapo (es i0)]
def clS1 (s : NSys) (n : Int) (a : Int) (l : List ByteArray) (key : ByteArray) (ok : Bool) (es : Nat → List (AV × AV)) (i0 : Nat) : St :=
  stOf 45 [41, 42, 43, 44] [(0, AV.agg (sysC s)), (1, i6 n), (2, AV.ref 0 0), (4, i6 a), (5, i6 (↑i0 : Int)), (6, bo true), (7, AV.map 1), (8, i6 (↑i0 : Int)), (9, lro (List.length l) 1 (List.map st l)), (10, i6 0), (11, st key), (12, i6 a), (13, bo true), (14, AV.agg (sysC s)), (15, bo true), (16, bo false), (17, AV.map 1), (18, i6 n), (19, i6 (if false = true then if n < 9999 then 9999 else n else if 9999 < n then 9999 else n)), (20, i6 (w6 ((if false = true then if n < 9999 then 9999 else n else if 9999 < n then 9999 else n) + 1))), (21, i6 (↑i0 : Int)), (22, bo true), (23, i6 (↑i0 : Int)), (24, AV.tup [lro (List.length l) 1 (List.map st l), i6 0]), (25, AV.agg (sysC s)), (26, i6 (↑i0 : Int)), (27, AV.tup [lro (List.length l) 1 (List.map st l), i6 0]), (28, lro (List.length l) 1 (List.map st l)), (29, i6 0), (30, lro (List.length l) 1 (List.map st l)), (31, st key), (32, AV.tup [i6 a, bo ok]), (33, AV.map 1), (34, st key), (35, AV.tup [i6 a, bo ok]), (36, i6 a), (37, bo true), (38, bo true), (39, i6 a), (40, i6 (↑i0 : Int))] [Ob.cells (sysC s), Ob.mapo (es i0)]
def clS2 (s : NSys) (n : Int) : St :=
  stOf 45 [] [(0, AV.agg (sysC s)), (1, i6 n), (2, AV.ref 0 0), (4, i6 0), (5, i6 0), (6, bo false), (7, AV.map 1), (14, AV.agg (sysC s)), (15, bo true), (16, bo false), (17, AV.map 1), (18, i6 n), (19, i6 (if false = true then if n < 9999 then 9999 else n else if 9999 < n then 9999 else n)), (20, i6 (w6 ((if false = true then if n < 9999 then 9999 else n else if 9999 < n then 9999 else n) + 1))), (21, i6 0)] [Ob.cells (sysC s), Ob.mapo []]
def clS3 (s : NSys) (n : Int) (a : Int) (l : List ByteArray) (key : ByteArray) (ok : Bool) (es2 : List (AV × AV)) (i0 : Nat) : St :=
  stOf 45 [4, 5, 6, 39, 40] [(0, AV.agg (sysC s)), (1, i6 n), (2, AV.ref 0 0), (7, AV.map 1), (8, i6 (↑i0 : Int)), (9, lro (List.length l) 1 (List.map st l)), (10, i6 0), (11, st key), (12, i6 a), (13, bo false), (14, AV.agg (sysC s)), (15, bo true), (16, bo false), (17, AV.map 1), (18, i6 n), (19, i6 (if false = true then if n < 9999 then 9999 else n else if 9999 < n then 9999 else n)), (20, i6 (w6 ((if false = true then if n < 9999 then 9999 else n else if 9999 < n then 9999 else n) + 1))), (21, i6 (w6 ((↑i0 : Int) + 1))), (22, bo true), (23, i6 (↑i0 : Int)), (24, AV.tup [lro (List.length l) 1 (List.map st l), i6 0]), (25, AV.agg (sysC s)), (26, i6 (↑i0 : Int)), (27, AV.tup [lro (List.length l) 1 (List.map st l), i6 0]), (28, lro (List.length l) 1 (List.map st l)), (29, i6 0), (30, lro (List.length l) 1 (List.map st l)), (31, st key), (32, AV.tup [i6 a, bo ok]), (33, AV.map 1), (34, st key), (35, AV.tup [i6 a, bo ok]), (36, i6 a), (37, bo false), (38, bo false), (41, AV.map 1), (42, st key), (43, i6 (↑i0 : Int)), (44, i6 (w6 ((↑i0 : Int) + 1)))] [Ob.cells (sysC s), Ob.mapo es2]
def clS4 (s : NSys) (n : Int) (es : Nat → List (AV × AV)) (i0 : Nat) : St :=
  stOf 45 [4, 5, 6, 8, 9, 10, 11, 12, 13, 23, 24, 25, 26, 27, 28, 29, 30, 31, 32, 33, 34, 35, 36, 37, 38, 39, 40, 41, 42, 43, 44] [(0, AV.agg (sysC s)), (1, i6 n), (2, AV.ref 0 0), (7, AV.map 1), (14, AV.agg (sysC s)), (15, bo true), (16, bo false), (17, AV.map 1), (18, i6 n), (19, i6 (if false = true then if n < 9999 then 9999 else n else if 9999 < n then 9999 else n)), (20, i6 (w6 ((if false = true then if n < 9999 then 9999 else n else if 9999 < n then 9999 else n) + 1))), (21, i6 (↑i0 : Int)), (22, bo false)] [Ob.cells (sysC s), Ob.mapo (es i0)]
def rclS5 (s : NSys) (n : Int) (m : Int) (i0 : Nat) (i1 : Nat) : St :=
  stOf 33 [4, 5, 6, 17, 18, 19, 20, 21, 22, 23, 24, 25, 26, 27, 28, 29, 30, 31, 32] [(0, AV.agg (sysC s)), (1, i6 n), (2, AV.ref 0 0), (7, i6 (↑i0 : Int)), (8, i6 (↑i1 : Int)), (9, i6 (↑i0 : Int)), (10, i6 n), (11, i6 m), (12, bo true), (13, bo true), (14, AV.agg (sysC s)), (15, bo true), (16, bo true)] [Ob.cells (sysC s)]
def rclS6 (s : NSys) (n : Int) (m : Int) (l : List ByteArray) (l2 : List ByteArray) (i0 : Nat) (i1 : Nat) : St :=
  stOf 33 [17, 18, 22, 23] [(0, AV.agg (sysC s)), (1, i6 n), (2, AV.ref 0 0), (4, i6 (↑i1 : Int)), (5, i6 (↑i0 : Int)), (6, bo true), (7, i6 (↑i0 : Int)), (8, i6 (↑i1 : Int)), (9, i6 (↑i0 : Int)), (10, i6 n), (11, i6 m), (12, bo true), (13, bo true), (14, AV.agg (sysC s)), (15, bo true), (16, bo true), (19, i6 (↑i1 : Int)), (20, i6 (↑i0 : Int)), (21, bo true), (24, AV.agg (sysC s)), (25, i6 (↑i1 : Int)), (26, lro (List.length l) 1 (List.map st l)), (27, AV.agg (sysC s)), (28, i6 (↑i0 : Int)), (29, lro (List.length l2) 1 (List.map st l2)), (30, bo true), (31, i6 (↑i1 : Int)), (32, i6 (↑i0 : Int))] [Ob.cells (sysC s)]
def rclS7 (s : NSys) (n : Int) (m : Int) (i0 : Nat) : St :=
  stOf 33 [4, 5, 6, 17, 18, 19, 20, 21, 22, 23, 24, 25, 26, 27, 28, 29, 30, 31, 32] [(0, AV.agg (sysC s)), (1, i6 n), (2, AV.ref 0 0), (7, i6 (↑i0 : Int)), (8, i6 0), (9, i6 (↑i0 : Int)), (10, i6 n), (11, i6 m), (12, bo true), (13, bo true), (14, AV.agg (sysC s)), (15, bo true), (16, bo true)] [Ob.cells (sysC s)]
def rclS8 (s : NSys) (n : Int) (i0 : Nat) : St :=
  stOf 33 [4, 5, 6, 8, 9, 10, 11, 12, 13, 14, 15, 16, 17, 18, 19, 20, 21, 22, 23, 24, 25, 26, 27, 28, 29, 30, 31, 32] [(0, AV.agg (sysC s)), (1, i6 n), (2, AV.ref 0 0), (7, i6 (↑i0 : Int))] [Ob.cells (sysC s)]
def rclS9 (s : NSys) (n : Int) : St :=
  stOf 33 [] [(0, AV.agg (sysC s)), (1, i6 n), (2, AV.ref 0 0), (4, i6 0), (5, i6 0), (6, bo false), (7, i6 0)] [Ob.cells (sysC s)]
def rclS10 (s : NSys) (n : Int) (m : Int) (l : List ByteArray) (l2 : List ByteArray) (i0 : Nat) (i1 : Nat) : St :=
  stOf 33 [4, 5, 6, 17, 18, 31, 32] [(0, AV.agg (sysC s)), (1, i6 n), (2, AV.ref 0 0), (7, i6 (↑i0 : Int)), (8, i6 (w6 ((↑i1 : Int) + 1))), (9, i6 (↑i0 : Int)), (10, i6 n), (11, i6 m), (12, bo true), (13, bo true), (14, AV.agg (sysC s)), (15, bo true), (16, bo true), (19, i6 (↑i1 : Int)), (20, i6 (↑i0 : Int)), (21, bo true), (22, i6 (↑i1 : Int)), (23, i6 (w6 ((↑i1 : Int) + 1))), (24, AV.agg (sysC s)), (25, i6 (↑i1 : Int)), (26, lro (List.length l) 1 (List.map st l)), (27, AV.agg (sysC s)), (28, i6 (↑i0 : Int)), (29, lro (List.length l2) 1 (List.map st l2)), (30, bo false)] [Ob.cells (sysC s)]
def rclS11 (s : NSys) (n : Int) (m : Int) (i0 : Nat) (i1 : Nat) : St :=
  stOf 33 [4, 5, 6, 17, 18, 22, 23, 24, 25, 26, 27, 28, 29, 30, 31, 32] [(0, AV.agg (sysC s)), (1, i6 n), (2, AV.ref 0 0), (7, i6 (↑i0 : Int)), (8, i6 (↑i1 : Int)), (9, i6 (↑i0 : Int)), (10, i6 n), (11, i6 m), (12, bo true), (13, bo true), (14, AV.agg (sysC s)), (15, bo true), (16, bo true), (19, i6 (↑i1 : Int)), (20, i6 (↑i0 : Int)), (21, bo false)] [Ob.cells (sysC s)]
def rclS12 (s : NSys) (n : Int) (m : Int) (i0 : Nat) (i1 : Nat) : St :=
  stOf 33 [4, 5, 6, 22, 23, 24, 25, 26, 27, 28, 29, 30, 31, 32] [(0, AV.agg (sysC s)), (1, i6 n), (2, AV.ref 0 0), (7, i6 (w6 ((↑i0 : Int) + 1))), (8, i6 (↑i1 : Int)), (9, i6 (↑i0 : Int)), (10, i6 n), (11, i6 m), (12, bo true), (13, bo true), (14, AV.agg (sysC s)), (15, bo true), (16, bo true), (17, i6 (↑i0 : Int)), (18, i6 (w6 ((↑i0 : Int) + 1))), (19, i6 (↑i1 : Int)), (20, i6 (↑i0 : Int)), (21, bo false)] [Ob.cells (sysC s)]
def rclS13 (s : NSys) (n : Int) (m : Int) (i0 : Nat) : St :=
  stOf 33 [4, 5, 6, 8, 17, 18, 19, 20, 21, 22, 23, 24, 25, 26, 27, 28, 29, 30, 31, 32] [(0, AV.agg (sysC s)), (1, i6 n), (2, AV.ref 0 0), (7, i6 (↑i0 : Int)), (9, i6 (↑i0 : Int)), (10, i6 n), (11, i6 m), (12, bo false), (13, bo false), (16, bo false)] [Ob.cells (sysC s)]
def rcnS14 (s : NSys) (n : Int) (m : Int) (i0 : Nat) : St :=
  stOf 33 [4, 5, 6, 8, 17, 18, 19, 20, 21, 22, 23, 24, 25, 26, 27, 28, 29, 30, 31, 32] [(0, AV.agg (sysC s)), (1, i6 n), (2, AV.ref 0 0), (7, i6 (↑i0 : Int)), (9, i6 (↑i0 : Int)), (10, i6 n), (11, i6 m), (12, bo true), (13, bo true), (14, AV.agg (sysC s)), (15, bo false), (16, bo false)] [Ob.cells (sysC s)]
theorem cl_r0_tt (s : NSys) (n : Int) (a : Int) (l : List ByteArray) (key : ByteArray) (ok : Bool) (es : Nat → List (AV × AV)) (X : Ext) (call : Caller) (lf : Nat) (i0 : Nat)
  (h0 : decide ((↑i0 : Int) < w6 ((if false = true then if n < 9999 then 9999 else n else if 9999 < n then 9999 else n) + 1)) = true)
  (h1 : callv X call false 16 [AV.agg (sysC s), i6 (↑i0 : Int)] [Ob.cells (sysC s), Ob.mapo (es i0)] 0 = some (AV.tup [lro (List.length l) 1 (List.map st l), i6 0], [Ob.cells (sysC s), Ob.mapo (es i0)]))
  (h2 : callv X call false 46 [lro (List.length l) 1 (List.map st l), st (ByteArray.mk #[32])] [Ob.cells (sysC s), Ob.mapo (es i0)] 0 = some (st key, [Ob.cells (sysC s), Ob.mapo (es i0)]))
  (h3 : keep [Ob.cells (sysC s), Ob.mapo (es i0)] (lookupv Tryd.prog 63 [Ob.cells (sysC s), Ob.mapo (es i0)] (AV.map 1) (st key) true) = some (AV.tup [i6 a, bo ok], [Ob.cells (sysC s), Ob.mapo (es i0)]))
  (h4 : ok = true) : vexec Tryd.prog X call lf 0 noFg (loopN Tryd.f28 0) (clS0 s n es i0) = some (Ex.ret, (clS1 s n a l key ok es i0)) :=
  around_sound (ans := [(1, Ans.b true), (9, Ans.v (AV.tup [lro (List.length l) 1 (List.map st l), i6 0])), (17, Ans.v (st key)), (22, Ans.v (AV.tup [i6 a, bo ok])), (25, Ans.b true)]) (by kernel_rfl) (And.intro h0 (And.intro h1 (And.intro h2 (And.intro h3 (And.intro h4 trivial)))))
theorem cl_pltt (s : NSys) (n : Int) (a : Int) (l : List ByteArray) (key : ByteArray) (ok : Bool) (es : Nat → List (AV × AV)) (X : Ext) (call : Caller) (lf : Nat) (i0 : Nat)
  (h0 : callv X call false 22 [AV.agg (sysC s)] [Ob.cells (sysC s)] 0 = some (bo true, [Ob.cells (sysC s)]))
  (h1 : vexec Tryd.prog X call lf 0 noFg (Code.loop (loopN Tryd.f28 0)) (clS2 s n) = some (Ex.ret, (clS1 s n a l key ok es i0))) : vbody Tryd.prog X call lf noFg Tryd.f28 (codeOf Tryd.f28) [AV.agg (sysC s), i6 n] [] 0 = some (AV.tup [i6 a, i6 (↑i0 : Int), bo true], [Ob.cells (sysC s), Ob.mapo (es i0)]) :=
  along_sound (ans := [(7, Ans.v (bo true)), (18, Ans.l Ex.ret (clS1 s n a l key ok es i0))]) (by kernel_rfl) (And.intro h0 (And.intro h1 trivial))
theorem cl_r0_tf (s : NSys) (n : Int) (a : Int) (l : List ByteArray) (key : ByteArray) (ok : Bool) (es : Nat → List (AV × AV)) (es2 : List (AV × AV)) (X : Ext) (call : Caller) (lf : Nat) (i0 : Nat)
  (h0 : decide ((↑i0 : Int) < w6 ((if false = true then if n < 9999 then 9999 else n else if 9999 < n then 9999 else n) + 1)) = true)
  (h1 : callv X call false 16 [AV.agg (sysC s), i6 (↑i0 : Int)] [Ob.cells (sysC s), Ob.mapo (es i0)] 0 = some (AV.tup [lro (List.length l) 1 (List.map st l), i6 0], [Ob.cells (sysC s), Ob.mapo (es i0)]))
  (h2 : callv X call false 46 [lro (List.length l) 1 (List.map st l), st (ByteArray.mk #[32])] [Ob.cells (sysC s), Ob.mapo (es i0)] 0 = some (st key, [Ob.cells (sysC s), Ob.mapo (es i0)]))
  (h3 : keep [Ob.cells (sysC s), Ob.mapo (es i0)] (lookupv Tryd.prog 63 [Ob.cells (sysC s), Ob.mapo (es i0)] (AV.map 1) (st key) true) = some (AV.tup [i6 a, bo ok], [Ob.cells (sysC s), Ob.mapo (es i0)]))
  (h4 : ok = false)
  (h5 : unit1 (mapUpdatev Tryd.prog 63 [Ob.cells (sysC s), Ob.mapo (es i0)] 0 (AV.map 1) (st key) (i6 (↑i0 : Int))) = some (AV.undef, [Ob.cells (sysC s), Ob.mapo es2])) : vexec Tryd.prog X call lf 0 noFg (loopN Tryd.f28 0) (clS0 s n es i0) = some (Ex.normal, (clS3 s n a l key ok es2 i0)) :=
  around_sound (ans := [(1, Ans.b true), (9, Ans.v (AV.tup [lro (List.length l) 1 (List.map st l), i6 0])), (17, Ans.v (st key)), (22, Ans.v (AV.tup [i6 a, bo ok])), (25, Ans.b false), (35, Ans.c AV.undef [Ob.cells (sysC s), Ob.mapo es2])]) (by kernel_rfl) (And.intro h0 (And.intro h1 (And.intro h2 (And.intro h3 (And.intro h4 (And.intro h5 trivial))))))
theorem cl_r0_f (s : NSys) (n : Int) (es : Nat → List (AV × AV)) (X : Ext) (call : Caller) (lf : Nat) (i0 : Nat)
  (h0 : decide ((↑i0 : Int) < w6 ((if false = true then if n < 9999 then 9999 else n else if 9999 < n then 9999 else n) + 1)) = false) : vexec Tryd.prog X call lf 0 noFg (loopN Tryd.f28 0) (clS0 s n es i0) = some (Ex.exit 0, (clS4 s n es i0)) :=
  around_sound (ans := [(1, Ans.b false)]) (by kernel_rfl) (And.intro h0 trivial)
theorem cl_plf (s : NSys) (n : Int) (es : Nat → List (AV × AV)) (X : Ext) (call : Caller) (lf : Nat) (i0 : Nat)
  (h0 : callv X call false 22 [AV.agg (sysC s)] [Ob.cells (sysC s)] 0 = some (bo true, [Ob.cells (sysC s)]))
  (h1 : vexec Tryd.prog X call lf 0 noFg (Code.loop (loopN Tryd.f28 0)) (clS2 s n) = some (Ex.exit 0, (clS4 s n es i0))) : vbody Tryd.prog X call lf noFg Tryd.f28 (codeOf Tryd.f28) [AV.agg (sysC s), i6 n] [] 0 = some (AV.tup [i6 0, i6 0, bo false], [Ob.cells (sysC s), Ob.mapo (es i0)]) :=
  along_sound (ans := [(7, Ans.v (bo true)), (18, Ans.l (Ex.exit 0) (clS4 s n es i0))]) (by kernel_rfl) (And.intro h0 (And.intro h1 trivial))
theorem rcl_r1_tt (s : NSys) (n : Int) (m : Int) (l : List ByteArray) (l2 : List ByteArray) (X : Ext) (call : Caller) (lf : Nat) (i0 : Nat) (i1 : Nat)
  (h0 : decide ((↑i1 : Int) < (↑i0 : Int)) = true)
  (h1 : callv X call true 18 [AV.agg (sysC s), i6 (↑i1 : Int)] [Ob.cells (sysC s)] 0 = some (lro (List.length l) 1 (List.map st l), [Ob.cells (sysC s)]))
  (h2 : callv X call true 18 [AV.agg (sysC s), i6 (↑i0 : Int)] [Ob.cells (sysC s)] 0 = some (lro (List.length l2) 1 (List.map st l2), [Ob.cells (sysC s)]))
  (h3 : callv X call true 17 [lro (List.length l) 1 (List.map st l), lro (List.length l2) 1 (List.map st l2)] [Ob.cells (sysC s)] 0 = some (bo true, [Ob.cells (sysC s)])) : vexec Tryd.prog X call lf 0 noFg (loopN Tryd.f29 1) (rclS5 s n m i0 i1) = some (Ex.ret, (rclS6 s n m l l2 i0 i1)) :=
  around_sound (ans := [(3, Ans.b true), (8, Ans.v (lro (List.length l) 1 (List.map st l))), (11, Ans.v (lro (List.length l2) 1 (List.map st l2))), (12, Ans.v (bo true))]) (by kernel_rfl) (And.intro h0 (And.intro h1 (And.intro h2 (And.intro h3 trivial))))
theorem rcl_r0_tltt (s : NSys) (n : Int) (m : Int) (l : List ByteArray) (l2 : List ByteArray) (X : Ext) (call : Caller) (lf : Nat) (i0 : Nat) (i1 : Nat)
  (h0 : callv X call false 25 [i6 n] [Ob.cells (sysC s)] 0 = some (i6 m, [Ob.cells (sysC s)]))
  (h1 : decide ((↑i0 : Int) ≤ m) = true)
  (h2 : callv X call false 14 [AV.agg (sysC s)] [Ob.cells (sysC s)] 0 = some (bo true, [Ob.cells (sysC s)]))
  (h3 : vexec Tryd.prog X call lf 0 noFg (Code.loop (loopN Tryd.f29 1)) (rclS7 s n m i0) = some (Ex.ret, (rclS6 s n m l l2 i0 i1))) : vexec Tryd.prog X call lf 0 noFg (loopN Tryd.f29 0) (rclS8 s n i0) = some (Ex.ret, (rclS6 s n m l l2 i0 i1)) :=
  around_sound (ans := [(3, Ans.v (i6 m)), (4, Ans.b true), (9, Ans.v (bo true)), (14, Ans.l Ex.ret (rclS6 s n m l l2 i0 i1))]) (by kernel_rfl) (And.intro h0 (And.intro h1 (And.intro h2 (And.intro h3 trivial))))
theorem rcl_pltltt (s : NSys) (n : Int) (m : Int) (l : List ByteArray) (l2 : List ByteArray) (X : Ext) (call : Caller) (lf : Nat) (i0 : Nat) (i1 : Nat)
  (h0 : vexec Tryd.prog X call lf 0 noFg (Code.loop (loopN Tryd.f29 0)) (rclS9 s n) = some (Ex.ret, (rclS6 s n m l l2 i0 i1))) : vbody Tryd.prog X call lf noFg Tryd.f29 (codeOf Tryd.f29) [AV.agg (sysC s), i6 n] [] 0 = some (AV.tup [i6 (↑i1 : Int), i6 (↑i0 : Int), bo true], [Ob.cells (sysC s)]) :=
  along_sound (ans := [(7, Ans.l Ex.ret (rclS6 s n m l l2 i0 i1))]) (by kernel_rfl) (And.intro h0 trivial)
theorem rcl_r1_tf (s : NSys) (n : Int) (m : Int) (l : List ByteArray) (l2 : List ByteArray) (X : Ext) (call : Caller) (lf : Nat) (i0 : Nat) (i1 : Nat)
  (h0 : decide ((↑i1 : Int) < (↑i0 : Int)) = true)
  (h1 : callv X call true 18 [AV.agg (sysC s), i6 (↑i1 : Int)] [Ob.cells (sysC s)] 0 = some (lro (List.length l) 1 (List.map st l), [Ob.cells (sysC s)]))
  (h2 : callv X call true 18 [AV.agg (sysC s), i6 (↑i0 : Int)] [Ob.cells (sysC s)] 0 = some (lro (List.length l2) 1 (List.map st l2), [Ob.cells (sysC s)]))
  (h3 : callv X call true 17 [lro (List.length l) 1 (List.map st l), lro (List.length l2) 1 (List.map st l2)] [Ob.cells (sysC s)] 0 = some (bo false, [Ob.cells (sysC s)])) : vexec Tryd.prog X call lf 0 noFg (loopN Tryd.f29 1) (rclS5 s n m i0 i1) = some (Ex.normal, (rclS10 s n m l l2 i0 i1)) :=
  around_sound (ans := [(3, Ans.b true), (8, Ans.v (lro (List.length l) 1 (List.map st l))), (11, Ans.v (lro (List.length l2) 1 (List.map st l2))), (12, Ans.v (bo false))]) (by kernel_rfl) (And.intro h0 (And.intro h1 (And.intro h2 (And.intro h3 trivial))))
theorem rcl_r1_f (s : NSys) (n : Int) (m : Int) (X : Ext) (call : Caller) (lf : Nat) (i0 : Nat) (i1 : Nat)
  (h0 : decide ((↑i1 : Int) < (↑i0 : Int)) = false) : vexec Tryd.prog X call lf 0 noFg (loopN Tryd.f29 1) (rclS5 s n m i0 i1) = some (Ex.exit 2, (rclS11 s n m i0 i1)) :=
  around_sound (ans := [(3, Ans.b false)]) (by kernel_rfl) (And.intro h0 trivial)
theorem rcl_r0_tlf (s : NSys) (n : Int) (m : Int) (X : Ext) (call : Caller) (lf : Nat) (i0 : Nat) (i1 : Nat)
  (h0 : callv X call false 25 [i6 n] [Ob.cells (sysC s)] 0 = some (i6 m, [Ob.cells (sysC s)]))
  (h1 : decide ((↑i0 : Int) ≤ m) = true)
  (h2 : callv X call false 14 [AV.agg (sysC s)] [Ob.cells (sysC s)] 0 = some (bo true, [Ob.cells (sysC s)]))
  (h3 : vexec Tryd.prog X call lf 0 noFg (Code.loop (loopN Tryd.f29 1)) (rclS7 s n m i0) = some (Ex.exit 2, (rclS11 s n m i0 i1))) : vexec Tryd.prog X call lf 0 noFg (loopN Tryd.f29 0) (rclS8 s n i0) = some (Ex.normal, (rclS12 s n m i0 i1)) :=
  around_sound (ans := [(3, Ans.v (i6 m)), (4, Ans.b true), (9, Ans.v (bo true)), (14, Ans.l (Ex.exit 2) (rclS11 s n m i0 i1))]) (by kernel_rfl) (And.intro h0 (And.intro h1 (And.intro h2 (And.intro h3 trivial))))
theorem rcl_r0_f (s : NSys) (n : Int) (m : Int) (X : Ext) (call : Caller) (lf : Nat) (i0 : Nat)
  (h0 : callv X call false 25 [i6 n] [Ob.cells (sysC s)] 0 = some (i6 m, [Ob.cells (sysC s)]))
  (h1 : decide ((↑i0 : Int) ≤ m) = false) : vexec Tryd.prog X call lf 0 noFg (loopN Tryd.f29 0) (rclS8 s n i0) = some (Ex.exit 0, (rclS13 s n m i0)) :=
  around_sound (ans := [(3, Ans.v (i6 m)), (4, Ans.b false)]) (by kernel_rfl) (And.intro h0 (And.intro h1 trivial))
theorem rcl_plf (s : NSys) (n : Int) (m : Int) (X : Ext) (call : Caller) (lf : Nat) (i0 : Nat)
  (h0 : vexec Tryd.prog X call lf 0 noFg (Code.loop (loopN Tryd.f29 0)) (rclS9 s n) = some (Ex.exit 0, (rclS13 s n m i0))) : vbody Tryd.prog X call lf noFg Tryd.f29 (codeOf Tryd.f29) [AV.agg (sysC s), i6 n] [] 0 = some (AV.tup [i6 0, i6 0, bo false], [Ob.cells (sysC s)]) :=
  along_sound (ans := [(7, Ans.l (Ex.exit 0) (rclS13 s n m i0))]) (by kernel_rfl) (And.intro h0 trivial)
theorem rcn_r0_t (s : NSys) (n : Int) (m : Int) (X : Ext) (call : Caller) (lf : Nat) (i0 : Nat)
  (h0 : callv X call false 25 [i6 n] [Ob.cells (sysC s)] 0 = some (i6 m, [Ob.cells (sysC s)]))
  (h1 : decide ((↑i0 : Int) ≤ m) = true)
  (h2 : callv X call false 14 [AV.agg (sysC s)] [Ob.cells (sysC s)] 0 = some (bo false, [Ob.cells (sysC s)])) : vexec Tryd.prog X call lf 0 noFg (loopN Tryd.f29 0) (rclS8 s n i0) = some (Ex.exit 0, (rcnS14 s n m i0)) :=
  around_sound (ans := [(3, Ans.v (i6 m)), (4, Ans.b true), (9, Ans.v (bo false))]) (by kernel_rfl) (And.intro h0 (And.intro h1 (And.intro h2 trivial)))
theorem rcn_plt (s : NSys) (n : Int) (m : Int) (X : Ext) (call : Caller) (lf : Nat) (i0 : Nat)
  (h0 : vexec Tryd.prog X call lf 0 noFg (Code.loop (loopN Tryd.f29 0)) (rclS9 s n) = some (Ex.exit 0, (rcnS14 s n m i0))) : vbody Tryd.prog X call lf noFg Tryd.f29 (codeOf Tryd.f29) [AV.agg (sysC s), i6 n] [] 0 = some (AV.tup [i6 0, i6 0, bo false], [Ob.cells (sysC s)]) :=
  along_sound (ans := [(7, Ans.l (Ex.exit 0) (rcnS14 s n m i0))]) (by kernel_rfl) (And.intro h0 trivial)
theorem rcn_r0_f (s : NSys) (n : Int) (m : Int) (X : Ext) (call : Caller) (lf : Nat) (i0 : Nat)
  (h0 : callv X call false 25 [i6 n] [Ob.cells (sysC s)] 0 = some (i6 m, [Ob.cells (sysC s)]))
  (h1 : decide ((↑i0 : Int) ≤ m) = false) : vexec Tryd.prog X call lf 0 noFg (loopN Tryd.f29 0) (rclS8 s n i0) = some (Ex.exit 0, (rclS13 s n m i0)) :=
  around_sound (ans := [(3, Ans.v (i6 m)), (4, Ans.b false)]) (by kernel_rfl) (And.intro h0 (And.intro h1 trivial))
theorem rcn_plf (s : NSys) (n : Int) (m : Int) (X : Ext) (call : Caller) (lf : Nat) (i0 : Nat)
  (h0 : vexec Tryd.prog X call lf 0 noFg (Code.loop (loopN Tryd.f29 0)) (rclS9 s n) = some (Ex.exit 0, (rclS13 s n m i0))) : vbody Tryd.prog X call lf noFg Tryd.f29 (codeOf Tryd.f29) [AV.agg (sysC s), i6 n] [] 0 = some (AV.tup [i6 0, i6 0, bo false], [Ob.cells (sysC s)]) :=
  along_sound (ans := [(7, Ans.l (Ex.exit 0) (rclS13 s n m i0))]) (by kernel_rfl) (And.intro h0 trivial)
theorem lca_p (s : NSys) (n : Int) (X : Ext) (call : Caller) (lf : Nat)
  (h0 : callv X call false 13 [AV.agg (sysC s)] [Ob.cells (sysC s)] 0 = some (bo false, [Ob.cells (sysC s)]))
  (h1 : callv X call false 15 [] [Ob.cells (sysC s)] 0 = some (bo true, [Ob.cells (sysC s)])) : vbody Tryd.prog X call lf noFg Tryd.f10 (codeOf Tryd.f10) [AV.agg (sysC s), i6 n] [] 0 = some (bo true, [Ob.cells (sysC s)]) :=
  along_sound (ans := [(5, Ans.v (bo false)), (13, Ans.v (bo true))]) (by kernel_rfl) (And.intro h0 (And.intro h1 trivial))
theorem lcb_pt (s : NSys) (n : Int) (X : Ext) (call : Caller) (lf : Nat)
  (h0 : callv X call false 13 [AV.agg (sysC s)] [Ob.cells (sysC s)] 0 = some (bo true, [Ob.cells (sysC s)]))
  (h1 : decide (n > 150) = true)
  (h2 : callv X call false 15 [] [Ob.cells (sysC s)] 0 = some (bo true, [Ob.cells (sysC s)])) : vbody Tryd.prog X call lf noFg Tryd.f10 (codeOf Tryd.f10) [AV.agg (sysC s), i6 n] [] 0 = some (bo true, [Ob.cells (sysC s)]) :=
  along_sound (ans := [(5, Ans.v (bo true)), (11, Ans.b true), (15, Ans.v (bo true))]) (by kernel_rfl) (And.intro h0 (And.intro h1 (And.intro h2 trivial)))
theorem lcc_pt (s : NSys) (n : Int) (X : Ext) (call : Caller) (lf : Nat)
  (h0 : callv X call false 13 [AV.agg (sysC s)] [Ob.cells (sysC s)] 0 = some (bo true, [Ob.cells (sysC s)]))
  (h1 : decide (n > 150) = true)
  (h2 : callv X call false 15 [] [Ob.cells (sysC s)] 0 = some (bo true, [Ob.cells (sysC s)])) : vbody Tryd.prog X call lf noFg Tryd.f10 (codeOf Tryd.f10) [AV.agg (sysC s), i6 n] [] 0 = some (bo true, [Ob.cells (sysC s)]) :=
  along_sound (ans := [(5, Ans.v (bo true)), (11, Ans.b true), (15, Ans.v (bo true))]) (by kernel_rfl) (And.intro h0 (And.intro h1 (And.intro h2 trivial)))
theorem lcc_pftt (s : NSys) (n : Int) (a : Int) (b : Int) (X : Ext) (call : Caller) (lf : Nat)
  (h0 : callv X call false 13 [AV.agg (sysC s)] [Ob.cells (sysC s)] 0 = some (bo true, [Ob.cells (sysC s)]))
  (h1 : decide (n > 150) = false)
  (h2 : callv X call false 28 [AV.agg (sysC s), i6 n] [Ob.cells (sysC s)] 0 = some (AV.tup [i6 a, i6 b, bo true], [Ob.cells (sysC s)]))
  (h3 : callv X call false 29 [AV.agg (sysC s), i6 n] [Ob.cells (sysC s)] 0 = some (AV.tup [i6 a, i6 b, bo true], [Ob.cells (sysC s)]))
  (h4 : callv X call false 15 [] [Ob.cells (sysC s)] 0 = some (bo true, [Ob.cells (sysC s)]))
  (h5 : (a == a) = true)
  (h6 : (b == b) = true) : vbody Tryd.prog X call lf noFg Tryd.f10 (codeOf Tryd.f10) [AV.agg (sysC s), i6 n] [] 0 = some (bo true, [Ob.cells (sysC s)]) :=
  along_sound (ans := [(5, Ans.v (bo true)), (11, Ans.b false), (17, Ans.v (AV.tup [i6 a, i6 b, bo true])), (28, Ans.v (AV.tup [i6 a, i6 b, bo true])), (37, Ans.v (bo true)), (44, Ans.b true), (52, Ans.b true)]) (by kernel_rfl) (And.intro h0 (And.intro h1 (And.intro h2 (And.intro h3 (And.intro h4 (And.intro h5 (And.intro h6 trivial)))))))
theorem lcc_pftf (s : NSys) (n : Int) (a : Int) (b : Int) (X : Ext) (call : Caller) (lf : Nat)
  (h0 : callv X call false 13 [AV.agg (sysC s)] [Ob.cells (sysC s)] 0 = some (bo true, [Ob.cells (sysC s)]))
  (h1 : decide (n > 150) = false)
  (h2 : callv X call false 28 [AV.agg (sysC s), i6 n] [Ob.cells (sysC s)] 0 = some (AV.tup [i6 a, i6 b, bo true], [Ob.cells (sysC s)]))
  (h3 : callv X call false 29 [AV.agg (sysC s), i6 n] [Ob.cells (sysC s)] 0 = some (AV.tup [i6 a, i6 b, bo true], [Ob.cells (sysC s)]))
  (h4 : callv X call false 15 [] [Ob.cells (sysC s)] 0 = some (bo true, [Ob.cells (sysC s)]))
  (h5 : (a == a) = true)
  (h6 : (b == b) = false) : vbody Tryd.prog X call lf noFg Tryd.f10 (codeOf Tryd.f10) [AV.agg (sysC s), i6 n] [] 0 = some (bo false, [Ob.cells (sysC s)]) :=
  along_sound (ans := [(5, Ans.v (bo true)), (11, Ans.b false), (17, Ans.v (AV.tup [i6 a, i6 b, bo true])), (28, Ans.v (AV.tup [i6 a, i6 b, bo true])), (37, Ans.v (bo true)), (44, Ans.b true), (52, Ans.b false)]) (by kernel_rfl) (And.intro h0 (And.intro h1 (And.intro h2 (And.intro h3 (And.intro h4 (And.intro h5 (And.intro h6 trivial)))))))
theorem lcc_pff (s : NSys) (n : Int) (a : Int) (b : Int) (X : Ext) (call : Caller) (lf : Nat)
  (h0 : callv X call false 13 [AV.agg (sysC s)] [Ob.cells (sysC s)] 0 = some (bo true, [Ob.cells (sysC s)]))
  (h1 : decide (n > 150) = false)
  (h2 : callv X call false 28 [AV.agg (sysC s), i6 n] [Ob.cells (sysC s)] 0 = some (AV.tup [i6 a, i6 b, bo true], [Ob.cells (sysC s)]))
  (h3 : callv X call false 29 [AV.agg (sysC s), i6 n] [Ob.cells (sysC s)] 0 = some (AV.tup [i6 a, i6 b, bo true], [Ob.cells (sysC s)]))
  (h4 : callv X call false 15 [] [Ob.cells (sysC s)] 0 = some (bo true, [Ob.cells (sysC s)]))
  (h5 : (a == a) = false) : vbody Tryd.prog X call lf noFg Tryd.f10 (codeOf Tryd.f10) [AV.agg (sysC s), i6 n] [] 0 = some (bo false, [Ob.cells (sysC s)]) :=
  along_sound (ans := [(5, Ans.v (bo true)), (11, Ans.b false), (17, Ans.v (AV.tup [i6 a, i6 b, bo true])), (28, Ans.v (AV.tup [i6 a, i6 b, bo true])), (37, Ans.v (bo true)), (44, Ans.b false)]) (by kernel_rfl) (And.intro h0 (And.intro h1 (And.intro h2 (And.intro h3 (And.intro h4 (And.intro h5 trivial))))))
theorem lcd_pt (s : NSys) (n : Int) (X : Ext) (call : Caller) (lf : Nat)
  (h0 : callv X call false 13 [AV.agg (sysC s)] [Ob.cells (sysC s)] 0 = some (bo true, [Ob.cells (sysC s)]))
  (h1 : decide (n > 150) = true)
  (h2 : callv X call false 15 [] [Ob.cells (sysC s)] 0 = some (bo true, [Ob.cells (sysC s)])) : vbody Tryd.prog X call lf noFg Tryd.f10 (codeOf Tryd.f10) [AV.agg (sysC s), i6 n] [] 0 = some (bo true, [Ob.cells (sysC s)]) :=
  along_sound (ans := [(5, Ans.v (bo true)), (11, Ans.b true), (15, Ans.v (bo true))]) (by kernel_rfl) (And.intro h0 (And.intro h1 (And.intro h2 trivial)))
theorem lcd_pftt (s : NSys) (n : Int) (a : Int) (b : Int) (X : Ext) (call : Caller) (lf : Nat)
  (h0 : callv X call false 13 [AV.agg (sysC s)] [Ob.cells (sysC s)] 0 = some (bo true, [Ob.cells (sysC s)]))
  (h1 : decide (n > 150) = false)
  (h2 : callv X call false 28 [AV.agg (sysC s), i6 n] [Ob.cells (sysC s)] 0 = some (AV.tup [i6 a, i6 b, bo false], [Ob.cells (sysC s)]))
  (h3 : callv X call false 29 [AV.agg (sysC s), i6 n] [Ob.cells (sysC s)] 0 = some (AV.tup [i6 a, i6 b, bo false], [Ob.cells (sysC s)]))
  (h4 : callv X call false 15 [] [Ob.cells (sysC s)] 0 = some (bo true, [Ob.cells (sysC s)]))
  (h5 : (a == a) = true)
  (h6 : (b == b) = true) : vbody Tryd.prog X call lf noFg Tryd.f10 (codeOf Tryd.f10) [AV.agg (sysC s), i6 n] [] 0 = some (bo true, [Ob.cells (sysC s)]) :=
  along_sound (ans := [(5, Ans.v (bo true)), (11, Ans.b false), (17, Ans.v (AV.tup [i6 a, i6 b, bo false])), (28, Ans.v (AV.tup [i6 a, i6 b, bo false])), (37, Ans.v (bo true)), (44, Ans.b true), (52, Ans.b true)]) (by kernel_rfl) (And.intro h0 (And.intro h1 (And.intro h2 (And.intro h3 (And.intro h4 (And.intro h5 (And.intro h6 trivial)))))))
theorem lcd_pftf (s : NSys) (n : Int) (a : Int) (b : Int) (X : Ext) (call : Caller) (lf : Nat)
  (h0 : callv X call false 13 [AV.agg (sysC s)] [Ob.cells (sysC s)] 0 = some (bo true, [Ob.cells (sysC s)]))
  (h1 : decide (n > 150) = false)
  (h2 : callv X call false 28 [AV.agg (sysC s), i6 n] [Ob.cells (sysC s)] 0 = some (AV.tup [i6 a, i6 b, bo false], [Ob.cells (sysC s)]))
  (h3 : callv X call false 29 [AV.agg (sysC s), i6 n] [Ob.cells (sysC s)] 0 = some (AV.tup [i6 a, i6 b, bo false], [Ob.cells (sysC s)]))
  (h4 : callv X call false 15 [] [Ob.cells (sysC s)] 0 = some (bo true, [Ob.cells (sysC s)]))
  (h5 : (a == a) = true)
  (h6 : (b == b) = false) : vbody Tryd.prog X call lf noFg Tryd.f10 (codeOf Tryd.f10) [AV.agg (sysC s), i6 n] [] 0 = some (bo false, [Ob.cells (sysC s)]) :=
  along_sound (ans := [(5, Ans.v (bo true)), (11, Ans.b false), (17, Ans.v (AV.tup [i6 a, i6 b, bo false])), (28, Ans.v (AV.tup [i6 a, i6 b, bo false])), (37, Ans.v (bo true)), (44, Ans.b true), (52, Ans.b false)]) (by kernel_rfl) (And.intro h0 (And.intro h1 (And.intro h2 (And.intro h3 (And.intro h4 (And.intro h5 (And.intro h6 trivial)))))))
theorem lcd_pff (s : NSys) (n : Int) (a : Int) (b : Int) (X : Ext) (call : Caller) (lf : Nat)
  (h0 : callv X call false 13 [AV.agg (sysC s)] [Ob.cells (sysC s)] 0 = some (bo true, [Ob.cells (sysC s)]))
  (h1 : decide (n > 150) = false)
  (h2 : callv X call false 28 [AV.agg (sysC s), i6 n] [Ob.cells (sysC s)] 0 = some (AV.tup [i6 a, i6 b, bo false], [Ob.cells (sysC s)]))
  (h3 : callv X call false 29 [AV.agg (sysC s), i6 n] [Ob.cells (sysC s)] 0 = some (AV.tup [i6 a, i6 b, bo false], [Ob.cells (sysC s)]))
  (h4 : callv X call false 15 [] [Ob.cells (sysC s)] 0 = some (bo true, [Ob.cells (sysC s)]))
  (h5 : (a == a) = false) : vbody Tryd.prog X call lf noFg Tryd.f10 (codeOf Tryd.f10) [AV.agg (sysC s), i6 n] [] 0 = some (bo false, [Ob.cells (sysC s)]) :=
  along_sound (ans := [(5, Ans.v (bo true)), (11, Ans.b false), (17, Ans.v (AV.tup [i6 a, i6 b, bo false])), (28, Ans.v (AV.tup [i6 a, i6 b, bo false])), (37, Ans.v (bo true)), (44, Ans.b false)]) (by kernel_rfl) (And.intro h0 (And.intro h1 (And.intro h2 (And.intro h3 (And.intro h4 (And.intro h5 trivial))))))


/-! ### clashes -/
def sameB (s : NSys) (a n : Nat) : Bool := decide (sayO s 6 (a : Int) = sayO s 6 (n : Int))
def clashAt (s : NSys) (n : Nat) : Option Nat := (List.range n).find? fun a => sameB s a n
def clashUp (s : NSys) : Nat → Option (Nat × Nat)
  | 0 => none
  | n + 1 => match clashUp s n with
    | some r => some r
    | none => (clashAt s n).map fun a => (a, n)
def clashV : Option (Nat × Nat) → AV
  | none => .tup [i6 0, i6 0, bo false]
  | some (a, b) => .tup [i6 (a : Int), i6 (b : Int), bo true]
theorem clashUp_none {s : NSys} : ∀ {n : Nat}, (∀ i, i < n → clashAt s i = none) → clashUp s n = none
  | 0, _ => rfl
  | n + 1, h => by
    have h1 := clashUp_none (n := n) fun i hi => h i (by omega)
    simp only [clashUp, h1, h n (by omega), Option.map_none]
theorem clashUp_some {s : NSys} {k a : Nat} (hk : clashAt s k = some a) (hb : ∀ i, i < k → clashAt s i = none) : ∀ {n : Nat}, k < n → clashUp s n = some (a, k)
  | 0, h => absurd h (by omega)
  | n + 1, h => by
    by_cases e : n = k
    · subst e
      have h1 := clashUp_none hb
      simp only [clashUp, h1, hk, Option.map_some]
    · have h1 := clashUp_some hk hb (n := n) (by omega)
      simp only [clashUp, h1]
def sp : ByteArray := ByteArray.mk #[32]
def wordsD (s : NSys) (n : Nat) : List ByteArray := (sayO s 6 (n : Int)).getD []
def keyOf (s : NSys) (n : Nat) : ByteArray := ⟨(joinB (wordsD s n) sp).toArray⟩
def esOf (s : NSys) (i : Nat) : List (AV × AV) := (List.range i).map fun j => (AV.str (keyOf s j), i6 (j : Int))
def uS (s : NSys) : Bool := (vocL s).all fun w => Nat.ble w.size 8589934592
section
variable {s : NSys}
theorem key_same (hv : validL s = true) {a n : Nat} (ha : a ≤ 9999) (hn : n ≤ 9999) : (keyOf s a = keyOf s n) ↔ sameB s a n = true := by
  have hg := good_of hv
  obtain ⟨l, hl⟩ := say_all9 hg (n := (a : Int)) (by omega) (by omega)
  obtain ⟨m, hm⟩ := say_all9 hg (n := (n : Int)) (by omega) (by omega)
  have e1 : wordsD s a = l := by unfold wordsD; rw [hl]; rfl
  have e2 : wordsD s n = m := by unfold wordsD; rw [hm]; rfl
  unfold keyOf sameB
  rw [e1, e2, hl, hm]
  simp only [Option.some.injEq, decide_eq_true_eq]
  constructor
  · intro h
    have h2 : (joinB l sp).toArray = (joinB m sp).toArray := by simpa using h
    have h3 : joinB l sp = joinB m sp := by simpa using h2
    exact join_inj rfl (sayO_len s 6 _ l hl).1 (sayO_len s 6 _ m hm).1 (fun w hw => voc_tok hv w (say_voc hv (by omega) (by omega) hl w hw)) (fun w hw => voc_tok hv w (say_voc hv (by omega) (by omega) hm w hw)) h3
  · intro h; rw [h]
theorem look_es (k : ByteArray) : ∀ (js : List Nat), lookupEs (AV.str k) (js.map fun j => (AV.str (keyOf s j), i6 (j : Int))) = some ((js.find? fun j => decide (k = keyOf s j)).map fun j : Nat => i6 (j : Int))
  | [] => rfl
  | j :: js => by
    simp only [List.map_cons, lookupEs, List.find?_cons]
    by_cases h : k = keyOf s j
    · rw [if_pos h, decide_eq_true h]; rfl
    · rw [if_neg h, decide_eq_false h, look_es k js]
theorem put_es (k : ByteArray) (v : AV) : ∀ (js : List Nat), (∀ j ∈ js, k ≠ keyOf s j) → putEs (AV.str k) v (js.map fun j => (AV.str (keyOf s j), i6 (j : Int))) = some ((js.map fun j => (AV.str (keyOf s j), i6 (j : Int))) ++ [(AV.str k, v)])
  | [], _ => rfl
  | j :: js, h => by
    simp only [List.map_cons, putEs, lookupEs]
    rw [if_neg (h j (by simp)), put_es k v js (fun x hx => h x (List.mem_cons_of_mem _ hx))]
    rfl
theorem find_congr {p q : Nat → Bool} : ∀ {l : List Nat}, (∀ x ∈ l, p x = q x) → l.find? p = l.find? q
  | [], _ => rfl
  | x :: l, h => by
    simp only [List.find?_cons, h x (by simp), find_congr (l := l) fun y hy => h y (List.mem_cons_of_mem _ hy)]
theorem find_key (hv : validL s = true) {n : Nat} (hn : n ≤ 9999) : ((List.range n).find? fun j => decide (keyOf s n = keyOf s j)) = clashAt s n := by
  unfold clashAt
  apply find_congr
  intro j hj
  have hjn := List.mem_range.1 hj
  have := key_same hv (a := j) (n := n) (by omega) hn
  by_cases h : keyOf s n = keyOf s j
  · rw [decide_eq_true h, (this.1 h.symm)]
  · rw [decide_eq_false h]
    cases hs : sameB s j n with
    | false => rfl
    | true => exact absurd (this.2 hs).symm h
theorem look_at_es (hv : validL s = true) {n : Nat} (hn : n ≤ 9999) (c : Ob) : keep [c, Ob.mapo (esOf s n)] (lookupv Tryd.prog 63 [c, Ob.mapo (esOf s n)] (AV.map 1) (st (keyOf s n)) true) =
    some (match clashAt s n with | some a => AV.tup [i6 (a : Int), bo true] | none => AV.tup [i6 0, bo false], [c, Ob.mapo (esOf s n)]) := by
  have h : lookupv Tryd.prog 63 [c, Ob.mapo (esOf s n)] (AV.map 1) (st (keyOf s n)) true = some (match clashAt s n with | some a => AV.tup [i6 (a : Int), bo true] | none => AV.tup [i6 0, bo false]) := by
    unfold lookupv
    rw [Tryd.underlying63]
    simp only [Tryd.underlying9, entriesOf, List.getElem?_cons_succ, List.getElem?_cons_zero, isKey, if_true]
    unfold esOf
    rw [look_es, find_key hv hn]
    cases clashAt s n with
    | none => simp only [Option.map_none, zero3, if_true]
    | some a => simp only [Option.map_some, if_true]
  rw [h]
  rfl
theorem put_at_es (hv : validL s = true) {n : Nat} (hn : n ≤ 9999) (hc : clashAt s n = none) (c : Ob) : unit1 (mapUpdatev Tryd.prog 63 [c, Ob.mapo (esOf s n)] 0 (AV.map 1) (st (keyOf s n)) (i6 (n : Int))) = some (AV.undef, [c, Ob.mapo (esOf s (n + 1))]) := by
  have h : mapUpdatev Tryd.prog 63 [c, Ob.mapo (esOf s n)] 0 (AV.map 1) (st (keyOf s n)) (i6 (n : Int)) = some [c, Ob.mapo (esOf s (n + 1))] := by
    unfold mapUpdatev
    rw [Tryd.underlying63]
    simp only [Tryd.underlying9, List.getElem?_cons_succ, List.getElem?_cons_zero, isKey]
    rw [if_pos ⟨trivial, Nat.zero_le _⟩]
    unfold esOf
    rw [put_es]
    · simp [List.range_succ, setOb]
    · intro j hj e
      have hjn := List.mem_range.1 hj
      have h1 := (List.find?_range_eq_none.1 hc) j hjn
      have h2 := (key_same hv (a := j) (n := n) (by omega) hn).1 e.symm
      rw [h2] at h1
      simp at h1
  rw [h]
  rfl
theorem key_len (hv : validL s = true) (hu : uS s = true) {n : Nat} (hn : n ≤ 9999) : (wordsD s n).length ≤ big ∧ (joinB (wordsD s n) sp).length ≤ big := by
  obtain ⟨l, hl⟩ := say_all9 (good_of hv) (n := (n : Int)) (by omega) (by omega)
  have e1 : wordsD s n = l := by unfold wordsD; rw [hl]; rfl
  rw [e1]
  have h1 := (sayO_len s 6 _ l hl).2
  have h2 := joinB_len (l := l) (sep := sp) rfl (B := 8589934592) (fun w hw => Nat.le_of_ble_eq_true (List.all_eq_true.1 hu w (say_voc hv (by omega) (by omega) hl w hw)))
  have h3 : l.length * (8589934592 + 1) ≤ 192 * (8589934592 + 1) := Nat.mul_le_mul_right _ (by omega)
  have h4 : big = 140737488355328 := rfl
  omega
theorem join_call {call : Caller} {L : List Nat} {l : List ByteArray} {σ : List Ob} (h1 : l.length ≤ big) (h2 : (joinB l sp).length ≤ big) : callv (X16 L) call false 46 [lst l, st (ByteArray.mk #[32])] σ 0 = some (st ⟨(joinB l sp).toArray⟩, σ) := by
  have g1 : (X16 L).pureFn 46 = some joinFn := rfl
  have g2 : joinFn [lst l, st (ByteArray.mk #[32])] = some (st ⟨(joinB l sp).toArray⟩) := by
    simp only [joinFn, isSO_of (is_lst l)]
    exact if_pos ⟨h1, h2⟩
  unfold callv
  rw [g1]
  simp [AV.ltAll, AV.lt, lt_strs, AV.thawAll, AV.thaw, thaw_strs, AV.ownsAll, AV.owns, owns_strs, freezeIds, g2]
/-! ### Clash -/
abbrev D28 : List Nat := [44, 43, 42, 41, 6, 5, 4, 40, 39, 38, 13, 12, 37, 36, 32, 35, 34, 33, 11, 31, 30, 10, 9, 29, 28, 24, 27, 26, 25, 8, 23, 22]
theorem dead28 : (deadC (loopN Tryd.f28 0) ([], [])).2 = D28 := by kernel_rfl
theorem min_lim (n : Int) : (if false = true then if n < 9999 then 9999 else n else if 9999 < n then 9999 else n) = limO n := by
  unfold limO
  rw [if_neg (by decide)]
theorem lim_cnt {n : Int} (hn : -9223372036854775808 ≤ n) : w6 (limO n + 1) = limO n + 1 ∧ limO n ≤ 9999 := by
  have h : limO n ≤ 9999 ∧ -9223372036854775808 ≤ limO n := by unfold limO; split <;> omega
  exact ⟨w6_id (by omega) (by omega), h.1⟩
theorem clash_spec {X : Ext} {call : Caller} {lf : Nat} (hv : validL s = true) (hu : uS s = true) (hlf : 10001 < lf) {n : Int} (hn : -9223372036854775808 ≤ n)
    (h22 : ∀ σ, callv X call false 22 [AV.agg (sysC s)] σ 0 = some (bo true, σ))
    (h16 : ∀ (n : Int) (l : List ByteArray) σ, wordsO s n = some (l, 0) → callv X call false 16 [AV.agg (sysC s), i6 n] σ 0 = some (.tup [lst l, i6 0], σ))
    (h46 : ∀ (l : List ByteArray) (σ : List Ob), l.length ≤ big → (joinB l sp).length ≤ big → callv X call false 46 [lst l, st (ByteArray.mk #[32])] σ 0 = some (st ⟨(joinB l sp).toArray⟩, σ)) :
    ∃ σ', vbody Tryd.prog X call lf noFg Tryd.f28 (codeOf Tryd.f28) [AV.agg (sysC s), i6 n] [] 0 = some (clashV (clashUp s (limO n + 1).toNat), σ') := by
  obtain ⟨w1, w2⟩ := lim_cnt hn
  have lt_iff : ∀ i : Nat, decide ((i : Int) < w6 ((if false = true then if n < 9999 then 9999 else n else if 9999 < n then 9999 else n) + 1)) = decide (i < (limO n + 1).toNat) := by
    intro i
    rw [min_lim, w1]
    by_cases h : i < (limO n + 1).toNat
    · rw [decide_eq_true h]; exact decide_eq_true (by omega)
    · rw [decide_eq_false h]; exact decide_eq_false (by omega)
  have hN : (limO n + 1).toNat ≤ 10000 := by omega
  generalize (limO n + 1).toNat = N at lt_iff hN ⊢
  have words : ∀ i : Nat, i ≤ 9999 → wordsO s (i : Int) = some (wordsD s i, 0) := by
    intro i hi
    obtain ⟨l, hl⟩ := say_all9 (good_of hv) (n := (i : Int)) (by omega) (by omega)
    have e1 : wordsD s i = l := by unfold wordsD; rw [hl]; rfl
    rw [e1]
    exact words_of hv (by omega) (by omega) hl
  have start : forget D28 (clS2 s n) = clS0 s n (esOf s) 0 := by kernel_rfl
  have round : ∀ i, i < N → clashAt s i = none → ∃ S1, vexec Tryd.prog X call lf 0 noFg (loopN Tryd.f28 0) (clS0 s n (esOf s) i) = some (.normal, S1) ∧ forget D28 S1 = clS0 s n (esOf s) (i + 1) := by
    intro i hi hc
    have ei : w6 ((i : Int) + 1) = ((i + 1 : Nat) : Int) := by rw [w6_id (by omega) (by omega)]; omega
    obtain ⟨k1, k2⟩ := key_len hv hu (n := i) (by omega)
    have hlook := look_at_es hv (n := i) (by omega) (Ob.cells (sysC s))
    rw [hc] at hlook
    refine ⟨_, cl_r0_tf s n 0 (wordsD s i) (keyOf s i) false (esOf s) (esOf s (i + 1)) X call lf i (by rw [lt_iff]; exact decide_eq_true hi) (h16 _ _ _ (words i (by omega))) (h46 _ _ k1 k2) hlook rfl (put_at_es hv (by omega) hc _), ?_⟩
    unfold clS3 clS0
    rw [ei]
    show _ = _
    kernel_rfl
  rcases first_fail (p := fun i => clashAt s i = none) N with hall | ⟨k, hk, hbad, hbefore⟩
  · have hloop := loop_run (P := Tryd.prog) (X := X) (call := call) (lf := lf) (ro := 0) (fg := noFg) dead28 (clS0 s n (esOf s)) N (by omega) start (fun i hi => round i hi (hall i hi)) (cl_r0_f s n (esOf s) X call lf N (by rw [lt_iff]; exact decide_eq_false (by omega))) (by simp)
    rw [clashUp_none hall]
    exact ⟨_, cl_plf s n (esOf s) X call lf N (h22 _) hloop⟩
  · obtain ⟨a, ha⟩ : ∃ a, clashAt s k = some a := by
      cases h : clashAt s k with
      | none => exact absurd h hbad
      | some a => exact ⟨a, rfl⟩
    obtain ⟨k1, k2⟩ := key_len hv hu (n := k) (by omega)
    have hlook := look_at_es hv (n := k) (by omega) (Ob.cells (sysC s))
    rw [ha] at hlook
    have hloop := loop_run (P := Tryd.prog) (X := X) (call := call) (lf := lf) (ro := 0) (fg := noFg) dead28 (clS0 s n (esOf s)) k (by omega) start (fun i hi => round i (by omega) (hbefore i hi))
      (cl_r0_tt s n a (wordsD s k) (keyOf s k) true (esOf s) X call lf k (by rw [lt_iff]; exact decide_eq_true hk) (h16 _ _ _ (words k (by omega))) (h46 _ _ k1 k2) hlook rfl) (by simp)
    rw [clashUp_some ha hbefore hk]
    exact ⟨_, cl_pltt s n a (wordsD s k) (keyOf s k) true (esOf s) X call lf k (h22 _) hloop⟩
/-! ### the specification's Clash -/
abbrev D29 : List Nat := [18, 17, 23, 22, 6, 5, 4, 32, 31, 30, 29, 28, 27, 26, 25, 24, 21, 20, 19, 8, 16, 15, 14, 13, 12, 11, 10, 9]
theorem dead29 : (deadC (loopN Tryd.f29 0) ([], [])).2 = D29 := by kernel_rfl
abbrev D29b : List Nat := [23, 22, 6, 5, 4, 32, 31, 30, 29, 28, 27, 26, 25, 24, 21, 20, 19]
theorem dead29b : (deadC (loopN Tryd.f29 1) ([], [])).2 = D29b := by kernel_rfl
theorem rclash_spec {X : Ext} {call : Caller} {lf : Nat} (hv : validL s = true) (hlf : 10001 < lf) {n : Int}
    (h25 : ∀ σ, callv X call false 25 [i6 n] σ 0 = some (i6 (limO n), σ))
    (h14 : ∀ σ, callv X call false 14 [AV.agg (sysC s)] σ 0 = some (bo true, σ))
    (h18 : ∀ (n : Int) (l : List ByteArray) σ, sayO s 6 n = some l → callv X call true 18 [AV.agg (sysC s), i6 n] σ 0 = some (lst l, σ))
    (h17 : ∀ (l m : List ByteArray) σ, l.length ≤ big → callv X call true 17 [lst l, lst m] σ 0 = some (bo (textsL l m), σ)) :
    ∃ σ', vbody Tryd.prog X call lf noFg Tryd.f29 (codeOf Tryd.f29) [AV.agg (sysC s), i6 n] [] 0 = some (clashV (clashUp s (limO n + 1).toNat), σ') := by
  have hg := good_of hv
  have w2 : limO n ≤ 9999 := by unfold limO; split <;> omega
  have le_iff : ∀ i : Nat, decide ((i : Int) ≤ limO n) = decide (i < (limO n + 1).toNat) := by
    intro i
    by_cases h : i < (limO n + 1).toNat
    · rw [decide_eq_true h]; exact decide_eq_true (by omega)
    · rw [decide_eq_false h]; exact decide_eq_false (by omega)
  have hN : (limO n + 1).toNat ≤ 10000 := by omega
  generalize (limO n + 1).toNat = N at le_iff hN ⊢
  generalize limO n = m at h25 le_iff
  have tex : ∀ j i : Nat, j ≤ 9999 → i ≤ 9999 → ∃ l l2, sayO s 6 (j : Int) = some l ∧ sayO s 6 (i : Int) = some l2 ∧ l.length ≤ big ∧ textsL l l2 = sameB s j i := by
    intro j i hj hi
    obtain ⟨l, hl⟩ := say_all9 hg (n := (j : Int)) (by omega) (by omega)
    obtain ⟨l2, hl2⟩ := say_all9 hg (n := (i : Int)) (by omega) (by omega)
    refine ⟨l, l2, hl, hl2, say6_len hl, ?_⟩
    unfold sameB
    rw [hl, hl2, Bool.eq_iff_iff, textsL_iff]
    simp
  have start : forget D29 (rclS9 s n) = rclS8 s n 0 := by kernel_rfl
  have inner_start : ∀ i, forget D29b (rclS7 s n m i) = rclS5 s n m i 0 := fun i => by kernel_rfl
  have inner_round : ∀ i, i < N → ∀ j, j < i → sameB s j i = false → ∃ S1, vexec Tryd.prog X call lf 0 noFg (loopN Tryd.f29 1) (rclS5 s n m i j) = some (.normal, S1) ∧ forget D29b S1 = rclS5 s n m i (j + 1) := by
    intro i hi j hj hs
    obtain ⟨l, l2, e1, e2, e3, e4⟩ := tex j i (by omega) (by omega)
    have ht := h17 l l2 [Ob.cells (sysC s)] e3
    rw [e4, hs] at ht
    have ej : w6 ((j : Int) + 1) = ((j + 1 : Nat) : Int) := by rw [w6_id (by omega) (by omega)]; omega
    refine ⟨_, rcl_r1_tf s n m l l2 X call lf i j (decide_eq_true (by omega)) (h18 _ _ _ e1) (h18 _ _ _ e2) ht, ?_⟩
    unfold rclS10 rclS5
    rw [ej]
    show _ = _
    kernel_rfl
  have round : ∀ i, i < N → clashAt s i = none → ∃ S1, vexec Tryd.prog X call lf 0 noFg (loopN Tryd.f29 0) (rclS8 s n i) = some (.normal, S1) ∧ forget D29 S1 = rclS8 s n (i + 1) := by
    intro i hi hc
    have hno := List.find?_range_eq_none.1 hc
    have ei : w6 ((i : Int) + 1) = ((i + 1 : Nat) : Int) := by rw [w6_id (by omega) (by omega)]; omega
    have hloop := loop_run (P := Tryd.prog) (X := X) (call := call) (lf := lf) (ro := 0) (fg := noFg) dead29b (rclS5 s n m i) i (by omega) (inner_start i) (fun j hj => inner_round i hi j hj (by simpa using hno j hj)) (rcl_r1_f s n m X call lf i i (decide_eq_false (by omega))) (by simp)
    refine ⟨_, rcl_r0_tlf s n m X call lf i i (h25 _) (by rw [le_iff]; exact decide_eq_true hi) (h14 _) hloop, ?_⟩
    unfold rclS12 rclS8
    rw [ei]
    show _ = _
    kernel_rfl
  rcases first_fail (p := fun i => clashAt s i = none) N with hall | ⟨k, hk, hbad, hbefore⟩
  · have hloop := loop_run (P := Tryd.prog) (X := X) (call := call) (lf := lf) (ro := 0) (fg := noFg) dead29 (rclS8 s n) N (by omega) start (fun i hi => round i hi (hall i hi)) (rcl_r0_f s n m X call lf N (h25 _) (by rw [le_iff]; exact decide_eq_false (by omega))) (by simp)
    rw [clashUp_none hall]
    exact ⟨_, rcl_plf s n m X call lf N hloop⟩
  · obtain ⟨a, ha⟩ : ∃ a, clashAt s k = some a := by
      cases h : clashAt s k with
      | none => exact absurd h hbad
      | some a => exact ⟨a, rfl⟩
    obtain ⟨a1, a2, a3⟩ := List.find?_range_eq_some.1 ha
    have hak := List.mem_range.1 a2
    obtain ⟨l, l2, e1, e2, e3, e4⟩ := tex a k (by omega) (by omega)
    have ht := h17 l l2 [Ob.cells (sysC s)] e3
    rw [e4, a1] at ht
    have hin := loop_run (P := Tryd.prog) (X := X) (call := call) (lf := lf) (ro := 0) (fg := noFg) dead29b (rclS5 s n m k) a (by omega) (inner_start k) (fun j hj => inner_round k hk j (by omega) (by simpa using a3 j hj)) (rcl_r1_tt s n m l l2 X call lf k a (decide_eq_true (by omega)) (h18 _ _ _ e1) (h18 _ _ _ e2) ht) (by simp)
    have hloop := loop_run (P := Tryd.prog) (X := X) (call := call) (lf := lf) (ro := 0) (fg := noFg) dead29 (rclS8 s n) k (by omega) start (fun i hi => round i (by omega) (hbefore i hi))
      (rcl_r0_tltt s n m l l2 X call lf k a (h25 _) (by rw [le_iff]; exact decide_eq_true hk) (h14 _) hin) (by simp)
    rw [clashUp_some ha hbefore hk]
    exact ⟨_, rcl_pltltt s n m l l2 X call lf k a hloop⟩
theorem rclashn_spec {X : Ext} {call : Caller} {lf : Nat} (hlf : 0 < lf) {n : Int}
    (h25 : ∀ σ, callv X call false 25 [i6 n] σ 0 = some (i6 (limO n), σ))
    (h14 : ∀ σ, callv X call false 14 [AV.agg (sysC s)] σ 0 = some (bo false, σ)) :
    ∃ σ', vbody Tryd.prog X call lf noFg Tryd.f29 (codeOf Tryd.f29) [AV.agg (sysC s), i6 n] [] 0 = some (clashV none, σ') := by
  have start : forget D29 (rclS9 s n) = rclS8 s n 0 := by kernel_rfl
  cases hd : decide (((0 : Nat) : Int) ≤ limO n) with
  | true => exact ⟨_, rcn_plt s n (limO n) X call lf 0 (loop_run (P := Tryd.prog) (X := X) (call := call) (lf := lf) (ro := 0) (fg := noFg) dead29 (rclS8 s n) 0 hlf start (fun i hi => absurd hi (by omega)) (rcn_r0_t s n (limO n) X call lf 0 (h25 _) hd (h14 _)) (by simp))⟩
  | false => exact ⟨_, rcn_plf s n (limO n) X call lf 0 (loop_run (P := Tryd.prog) (X := X) (call := call) (lf := lf) (ro := 0) (fg := noFg) dead29 (rclS8 s n) 0 hlf start (fun i hi => absurd hi (by omega)) (rcn_r0_f s n (limO n) X call lf 0 (h25 _) hd) (by simp))⟩
end
end Go.Proofs.Num
end
/- Numeral: laws of clashes and of one reading. -/
section
open Go Go.Vm Go.Proofs
namespace Go.Proofs.Num
def lucS0 (s : NSys) (L : Int) (n : Int) (a : Int) (b : Int) (l : List ByteArray) (ps : List Int) (C : Nat → Int) (i0 : Nat) : St :=
  stOf 116 [56, 57, 58, 59, 60, 61, 62, 63, 64, 65, 66, 67, 68, 69] [(0, AV.agg (sysC s)), (1, AV.int IntKind.u16 L), (2, AV.int IntKind.u16 n), (3, AV.ref 0 0), (6, bo false), (7, i6 9999), (8, i6 (Int.tmod (w6 n) 10000)), (9, i6 a), (10, i6 b), (11, bo true), (12, lro (List.length l) 1 (List.map st l)), (13, i6 0), (14, lro (List.length ps) 1 (List.map (AV.int IntKind.i64) ps)), (15, i6 (C i0)), (16, i6 (↑i0 : Int)), (21, AV.agg (sysC s)), (22, bo true), (23, bo false), (24, bo false), (25, AV.agg (sysC s)), (26, bo true), (27, bo false), (28, bo false), (30, AV.int IntKind.u16 L), (31, i6 (w6 L)), (32, i6 (w6 L)), (33, bo true), (34, AV.int IntKind.u16 n), (35, i6 (w6 n)), (36, i6 9999), (37, i6 10000), (38, i6 (Int.tmod (w6 n) 10000)), (39, AV.tup [i6 a, i6 b, bo true]), (40, AV.agg (sysC s)), (41, AV.int IntKind.u16 L), (42, i6 (w6 L)), (43, AV.tup [i6 a, i6 b, bo true]), (44, i6 a), (45, i6 b), (46, bo true), (47, AV.tup [lro (List.length l) 1 (List.map st l), i6 0]), (48, AV.agg (sysC s)), (49, i6 (Int.tmod (w6 n) 10000)), (50, AV.tup [lro (List.length l) 1 (List.map st l), i6 0]), (51, lro (List.length l) 1 (List.map st l)), (52, i6 0), (53, AV.agg (sysC s)), (54, lro (List.length l) 1 (List.map st l)), (55, lro (List.length ps) 1 (List.map (AV.int IntKind.i64) ps))] [Ob.cells (sysC s)]
def lucS1 (s : NSys) (L : Int) (n : Int) (a : Int) (b : Int) (x : Int) (l : List ByteArray) (ps : List Int) (C : Nat → Int) (ra : List AV) (i0 : Nat) : St :=
  stOf 116 [] [(0, AV.agg (sysC s)), (1, AV.int IntKind.u16 L), (2, AV.int IntKind.u16 n), (3, AV.ref 0 0), (6, bo false), (7, i6 9999), (8, i6 (Int.tmod (w6 n) 10000)), (9, i6 a), (10, i6 b), (11, bo true), (12, lro (List.length l) 1 (List.map st l)), (13, i6 0), (14, lro (List.length ps) 1 (List.map (AV.int IntKind.i64) ps)), (15, i6 (w6 (C i0 + 1))), (16, i6 (w6 ((↑i0 : Int) + 1))), (21, AV.agg (sysC s)), (22, bo true), (23, bo false), (24, bo false), (25, AV.agg (sysC s)), (26, bo true), (27, bo false), (28, bo false), (30, AV.int IntKind.u16 L), (31, i6 (w6 L)), (32, i6 (w6 L)), (33, bo true), (34, AV.int IntKind.u16 n), (35, i6 (w6 n)), (36, i6 9999), (37, i6 10000), (38, i6 (Int.tmod (w6 n) 10000)), (39, AV.tup [i6 a, i6 b, bo true]), (40, AV.agg (sysC s)), (41, AV.int IntKind.u16 L), (42, i6 (w6 L)), (43, AV.tup [i6 a, i6 b, bo true]), (44, i6 a), (45, i6 b), (46, bo true), (47, AV.tup [lro (List.length l) 1 (List.map st l), i6 0]), (48, AV.agg (sysC s)), (49, i6 (Int.tmod (w6 n) 10000)), (50, AV.tup [lro (List.length l) 1 (List.map st l), i6 0]), (51, lro (List.length l) 1 (List.map st l)), (52, i6 0), (53, AV.agg (sysC s)), (54, lro (List.length l) 1 (List.map st l)), (55, lro (List.length ps) 1 (List.map (AV.int IntKind.i64) ps)), (56, i6 (↑i0 : Int)), (57, lro (List.length ps) 1 (List.map (AV.int IntKind.i64) ps)), (58, i6 (↑(List.length ps) : Int)), (59, bo true), (60, i6 (↑i0 : Int)), (61, i6 (w6 ((↑i0 : Int) + 1))), (62, lro (List.length ps) 1 (List.map (AV.int IntKind.i64) ps)), (63, i6 (↑i0 : Int)), (64, AV.eaddr ra), (65, i6 x), (66, i6 9999), (67, bo true), (68, i6 (C i0)), (69, i6 (w6 (C i0 + 1)))] [Ob.cells (sysC s)]
def lucS2 (s : NSys) (L : Int) (n : Int) (a : Int) (b : Int) (x : Int) (l : List ByteArray) (ps : List Int) (C : Nat → Int) (ra : List AV) (i0 : Nat) : St :=
  stOf 116 [68, 69] [(0, AV.agg (sysC s)), (1, AV.int IntKind.u16 L), (2, AV.int IntKind.u16 n), (3, AV.ref 0 0), (6, bo false), (7, i6 9999), (8, i6 (Int.tmod (w6 n) 10000)), (9, i6 a), (10, i6 b), (11, bo true), (12, lro (List.length l) 1 (List.map st l)), (13, i6 0), (14, lro (List.length ps) 1 (List.map (AV.int IntKind.i64) ps)), (15, i6 (C i0)), (16, i6 (w6 ((↑i0 : Int) + 1))), (21, AV.agg (sysC s)), (22, bo true), (23, bo false), (24, bo false), (25, AV.agg (sysC s)), (26, bo true), (27, bo false), (28, bo false), (30, AV.int IntKind.u16 L), (31, i6 (w6 L)), (32, i6 (w6 L)), (33, bo true), (34, AV.int IntKind.u16 n), (35, i6 (w6 n)), (36, i6 9999), (37, i6 10000), (38, i6 (Int.tmod (w6 n) 10000)), (39, AV.tup [i6 a, i6 b, bo true]), (40, AV.agg (sysC s)), (41, AV.int IntKind.u16 L), (42, i6 (w6 L)), (43, AV.tup [i6 a, i6 b, bo true]), (44, i6 a), (45, i6 b), (46, bo true), (47, AV.tup [lro (List.length l) 1 (List.map st l), i6 0]), (48, AV.agg (sysC s)), (49, i6 (Int.tmod (w6 n) 10000)), (50, AV.tup [lro (List.length l) 1 (List.map st l), i6 0]), (51, lro (List.length l) 1 (List.map st l)), (52, i6 0), (53, AV.agg (sysC s)), (54, lro (List.length l) 1 (List.map st l)), (55, lro (List.length ps) 1 (List.map (AV.int IntKind.i64) ps)), (56, i6 (↑i0 : Int)), (57, lro (List.length ps) 1 (List.map (AV.int IntKind.i64) ps)), (58, i6 (↑(List.length ps) : Int)), (59, bo true), (60, i6 (↑i0 : Int)), (61, i6 (w6 ((↑i0 : Int) + 1))), (62, lro (List.length ps) 1 (List.map (AV.int IntKind.i64) ps)), (63, i6 (↑i0 : Int)), (64, AV.eaddr ra), (65, i6 x), (66, i6 9999), (67, bo false)] [Ob.cells (sysC s)]
def lucS3 (s : NSys) (L : Int) (n : Int) (a : Int) (b : Int) (l : List ByteArray) (ps : List Int) (C : Nat → Int) (i0 : Nat) : St :=
  stOf 116 [60, 61, 62, 63, 64, 65, 66, 67, 68, 69] [(0, AV.agg (sysC s)), (1, AV.int IntKind.u16 L), (2, AV.int IntKind.u16 n), (3, AV.ref 0 0), (6, bo false), (7, i6 9999), (8, i6 (Int.tmod (w6 n) 10000)), (9, i6 a), (10, i6 b), (11, bo true), (12, lro (List.length l) 1 (List.map st l)), (13, i6 0), (14, lro (List.length ps) 1 (List.map (AV.int IntKind.i64) ps)), (15, i6 (C i0)), (16, i6 (↑i0 : Int)), (21, AV.agg (sysC s)), (22, bo true), (23, bo false), (24, bo false), (25, AV.agg (sysC s)), (26, bo true), (27, bo false), (28, bo false), (30, AV.int IntKind.u16 L), (31, i6 (w6 L)), (32, i6 (w6 L)), (33, bo true), (34, AV.int IntKind.u16 n), (35, i6 (w6 n)), (36, i6 9999), (37, i6 10000), (38, i6 (Int.tmod (w6 n) 10000)), (39, AV.tup [i6 a, i6 b, bo true]), (40, AV.agg (sysC s)), (41, AV.int IntKind.u16 L), (42, i6 (w6 L)), (43, AV.tup [i6 a, i6 b, bo true]), (44, i6 a), (45, i6 b), (46, bo true), (47, AV.tup [lro (List.length l) 1 (List.map st l), i6 0]), (48, AV.agg (sysC s)), (49, i6 (Int.tmod (w6 n) 10000)), (50, AV.tup [lro (List.length l) 1 (List.map st l), i6 0]), (51, lro (List.length l) 1 (List.map st l)), (52, i6 0), (53, AV.agg (sysC s)), (54, lro (List.length l) 1 (List.map st l)), (55, lro (List.length ps) 1 (List.map (AV.int IntKind.i64) ps)), (56, i6 (↑i0 : Int)), (57, lro (List.length ps) 1 (List.map (AV.int IntKind.i64) ps)), (58, i6 (↑(List.length ps) : Int)), (59, bo false)] [Ob.cells (sysC s)]
def lucS4 (s : NSys) (L : Int) (n : Int) (a : Int) (b : Int) (l : List ByteArray) (ps : List Int) : St :=
  stOf 116 [] [(0, AV.agg (sysC s)), (1, AV.int IntKind.u16 L), (2, AV.int IntKind.u16 n), (3, AV.ref 0 0), (6, bo false), (7, i6 9999), (8, i6 (Int.tmod (w6 n) 10000)), (9, i6 a), (10, i6 b), (11, bo true), (12, lro (List.length l) 1 (List.map st l)), (13, i6 0), (14, lro (List.length ps) 1 (List.map (AV.int IntKind.i64) ps)), (15, i6 0), (16, i6 0), (21, AV.agg (sysC s)), (22, bo true), (23, bo false), (24, bo false), (25, AV.agg (sysC s)), (26, bo true), (27, bo false), (28, bo false), (30, AV.int IntKind.u16 L), (31, i6 (w6 L)), (32, i6 (w6 L)), (33, bo true), (34, AV.int IntKind.u16 n), (35, i6 (w6 n)), (36, i6 9999), (37, i6 10000), (38, i6 (Int.tmod (w6 n) 10000)), (39, AV.tup [i6 a, i6 b, bo true]), (40, AV.agg (sysC s)), (41, AV.int IntKind.u16 L), (42, i6 (w6 L)), (43, AV.tup [i6 a, i6 b, bo true]), (44, i6 a), (45, i6 b), (46, bo true), (47, AV.tup [lro (List.length l) 1 (List.map st l), i6 0]), (48, AV.agg (sysC s)), (49, i6 (Int.tmod (w6 n) 10000)), (50, AV.tup [lro (List.length l) 1 (List.map st l), i6 0]), (51, lro (List.length l) 1 (List.map st l)), (52, i6 0), (53, AV.agg (sysC s)), (54, lro (List.length l) 1 (List.map st l)), (55, lro (List.length ps) 1 (List.map (AV.int IntKind.i64) ps))] [Ob.cells (sysC s)]
def lucS5 (s : NSys) (L : Int) (n : Int) (k : Int) (a : Int) (b : Int) (l : List ByteArray) (ps : List Int) (C : Nat → Int) (i0 : Nat) : St :=
  stOf 116 [56, 57, 58, 59, 60, 61, 62, 63, 64, 65, 66, 67, 68, 69] [(0, AV.agg (sysC s)), (1, AV.int IntKind.u16 L), (2, AV.int IntKind.u16 n), (3, AV.ref 0 0), (6, bo false), (7, i6 (w6 L)), (8, i6 k), (9, i6 a), (10, i6 b), (11, bo true), (12, lro (List.length l) 1 (List.map st l)), (13, i6 0), (14, lro (List.length ps) 1 (List.map (AV.int IntKind.i64) ps)), (15, i6 (C i0)), (16, i6 (↑i0 : Int)), (21, AV.agg (sysC s)), (22, bo true), (23, bo false), (24, bo false), (25, AV.agg (sysC s)), (26, bo true), (27, bo false), (28, bo false), (30, AV.int IntKind.u16 L), (31, i6 (w6 L)), (32, i6 (w6 L)), (33, bo false), (34, AV.int IntKind.u16 n), (35, i6 (w6 n)), (36, i6 (w6 L)), (37, i6 (w6 (w6 L + 1))), (38, i6 k), (39, AV.tup [i6 a, i6 b, bo true]), (40, AV.agg (sysC s)), (41, AV.int IntKind.u16 L), (42, i6 (w6 L)), (43, AV.tup [i6 a, i6 b, bo true]), (44, i6 a), (45, i6 b), (46, bo true), (47, AV.tup [lro (List.length l) 1 (List.map st l), i6 0]), (48, AV.agg (sysC s)), (49, i6 k), (50, AV.tup [lro (List.length l) 1 (List.map st l), i6 0]), (51, lro (List.length l) 1 (List.map st l)), (52, i6 0), (53, AV.agg (sysC s)), (54, lro (List.length l) 1 (List.map st l)), (55, lro (List.length ps) 1 (List.map (AV.int IntKind.i64) ps))] [Ob.cells (sysC s)]
def lucS6 (s : NSys) (L : Int) (n : Int) (k : Int) (a : Int) (b : Int) (x : Int) (l : List ByteArray) (ps : List Int) (C : Nat → Int) (ra : List AV) (i0 : Nat) : St :=
  stOf 116 [] [(0, AV.agg (sysC s)), (1, AV.int IntKind.u16 L), (2, AV.int IntKind.u16 n), (3, AV.ref 0 0), (6, bo false), (7, i6 (w6 L)), (8, i6 k), (9, i6 a), (10, i6 b), (11, bo true), (12, lro (List.length l) 1 (List.map st l)), (13, i6 0), (14, lro (List.length ps) 1 (List.map (AV.int IntKind.i64) ps)), (15, i6 (w6 (C i0 + 1))), (16, i6 (w6 ((↑i0 : Int) + 1))), (21, AV.agg (sysC s)), (22, bo true), (23, bo false), (24, bo false), (25, AV.agg (sysC s)), (26, bo true), (27, bo false), (28, bo false), (30, AV.int IntKind.u16 L), (31, i6 (w6 L)), (32, i6 (w6 L)), (33, bo false), (34, AV.int IntKind.u16 n), (35, i6 (w6 n)), (36, i6 (w6 L)), (37, i6 (w6 (w6 L + 1))), (38, i6 k), (39, AV.tup [i6 a, i6 b, bo true]), (40, AV.agg (sysC s)), (41, AV.int IntKind.u16 L), (42, i6 (w6 L)), (43, AV.tup [i6 a, i6 b, bo true]), (44, i6 a), (45, i6 b), (46, bo true), (47, AV.tup [lro (List.length l) 1 (List.map st l), i6 0]), (48, AV.agg (sysC s)), (49, i6 k), (50, AV.tup [lro (List.length l) 1 (List.map st l), i6 0]), (51, lro (List.length l) 1 (List.map st l)), (52, i6 0), (53, AV.agg (sysC s)), (54, lro (List.length l) 1 (List.map st l)), (55, lro (List.length ps) 1 (List.map (AV.int IntKind.i64) ps)), (56, i6 (↑i0 : Int)), (57, lro (List.length ps) 1 (List.map (AV.int IntKind.i64) ps)), (58, i6 (↑(List.length ps) : Int)), (59, bo true), (60, i6 (↑i0 : Int)), (61, i6 (w6 ((↑i0 : Int) + 1))), (62, lro (List.length ps) 1 (List.map (AV.int IntKind.i64) ps)), (63, i6 (↑i0 : Int)), (64, AV.eaddr ra), (65, i6 x), (66, i6 (w6 L)), (67, bo true), (68, i6 (C i0)), (69, i6 (w6 (C i0 + 1)))] [Ob.cells (sysC s)]
def lucS7 (s : NSys) (L : Int) (n : Int) (k : Int) (a : Int) (b : Int) (x : Int) (l : List ByteArray) (ps : List Int) (C : Nat → Int) (ra : List AV) (i0 : Nat) : St :=
  stOf 116 [68, 69] [(0, AV.agg (sysC s)), (1, AV.int IntKind.u16 L), (2, AV.int IntKind.u16 n), (3, AV.ref 0 0), (6, bo false), (7, i6 (w6 L)), (8, i6 k), (9, i6 a), (10, i6 b), (11, bo true), (12, lro (List.length l) 1 (List.map st l)), (13, i6 0), (14, lro (List.length ps) 1 (List.map (AV.int IntKind.i64) ps)), (15, i6 (C i0)), (16, i6 (w6 ((↑i0 : Int) + 1))), (21, AV.agg (sysC s)), (22, bo true), (23, bo false), (24, bo false), (25, AV.agg (sysC s)), (26, bo true), (27, bo false), (28, bo false), (30, AV.int IntKind.u16 L), (31, i6 (w6 L)), (32, i6 (w6 L)), (33, bo false), (34, AV.int IntKind.u16 n), (35, i6 (w6 n)), (36, i6 (w6 L)), (37, i6 (w6 (w6 L + 1))), (38, i6 k), (39, AV.tup [i6 a, i6 b, bo true]), (40, AV.agg (sysC s)), (41, AV.int IntKind.u16 L), (42, i6 (w6 L)), (43, AV.tup [i6 a, i6 b, bo true]), (44, i6 a), (45, i6 b), (46, bo true), (47, AV.tup [lro (List.length l) 1 (List.map st l), i6 0]), (48, AV.agg (sysC s)), (49, i6 k), (50, AV.tup [lro (List.length l) 1 (List.map st l), i6 0]), (51, lro (List.length l) 1 (List.map st l)), (52, i6 0), (53, AV.agg (sysC s)), (54, lro (List.length l) 1 (List.map st l)), (55, lro (List.length ps) 1 (List.map (AV.int IntKind.i64) ps)), (56, i6 (↑i0 : Int)), (57, lro (List.length ps) 1 (List.map (AV.int IntKind.i64) ps)), (58, i6 (↑(List.length ps) : Int)), (59, bo true), (60, i6 (↑i0 : Int)), (61, i6 (w6 ((↑i0 : Int) + 1))), (62, lro (List.length ps) 1 (List.map (AV.int IntKind.i64) ps)), (63, i6 (↑i0 : Int)), (64, AV.eaddr ra), (65, i6 x), (66, i6 (w6 L)), (67, bo false)] [Ob.cells (sysC s)]
def lucS8 (s : NSys) (L : Int) (n : Int) (k : Int) (a : Int) (b : Int) (l : List ByteArray) (ps : List Int) (C : Nat → Int) (i0 : Nat) : St :=
  stOf 116 [60, 61, 62, 63, 64, 65, 66, 67, 68, 69] [(0, AV.agg (sysC s)), (1, AV.int IntKind.u16 L), (2, AV.int IntKind.u16 n), (3, AV.ref 0 0), (6, bo false), (7, i6 (w6 L)), (8, i6 k), (9, i6 a), (10, i6 b), (11, bo true), (12, lro (List.length l) 1 (List.map st l)), (13, i6 0), (14, lro (List.length ps) 1 (List.map (AV.int IntKind.i64) ps)), (15, i6 (C i0)), (16, i6 (↑i0 : Int)), (21, AV.agg (sysC s)), (22, bo true), (23, bo false), (24, bo false), (25, AV.agg (sysC s)), (26, bo true), (27, bo false), (28, bo false), (30, AV.int IntKind.u16 L), (31, i6 (w6 L)), (32, i6 (w6 L)), (33, bo false), (34, AV.int IntKind.u16 n), (35, i6 (w6 n)), (36, i6 (w6 L)), (37, i6 (w6 (w6 L + 1))), (38, i6 k), (39, AV.tup [i6 a, i6 b, bo true]), (40, AV.agg (sysC s)), (41, AV.int IntKind.u16 L), (42, i6 (w6 L)), (43, AV.tup [i6 a, i6 b, bo true]), (44, i6 a), (45, i6 b), (46, bo true), (47, AV.tup [lro (List.length l) 1 (List.map st l), i6 0]), (48, AV.agg (sysC s)), (49, i6 k), (50, AV.tup [lro (List.length l) 1 (List.map st l), i6 0]), (51, lro (List.length l) 1 (List.map st l)), (52, i6 0), (53, AV.agg (sysC s)), (54, lro (List.length l) 1 (List.map st l)), (55, lro (List.length ps) 1 (List.map (AV.int IntKind.i64) ps)), (56, i6 (↑i0 : Int)), (57, lro (List.length ps) 1 (List.map (AV.int IntKind.i64) ps)), (58, i6 (↑(List.length ps) : Int)), (59, bo false)] [Ob.cells (sysC s)]
def lucS9 (s : NSys) (L : Int) (n : Int) (k : Int) (a : Int) (b : Int) (l : List ByteArray) (ps : List Int) : St :=
  stOf 116 [] [(0, AV.agg (sysC s)), (1, AV.int IntKind.u16 L), (2, AV.int IntKind.u16 n), (3, AV.ref 0 0), (6, bo false), (7, i6 (w6 L)), (8, i6 k), (9, i6 a), (10, i6 b), (11, bo true), (12, lro (List.length l) 1 (List.map st l)), (13, i6 0), (14, lro (List.length ps) 1 (List.map (AV.int IntKind.i64) ps)), (15, i6 0), (16, i6 0), (21, AV.agg (sysC s)), (22, bo true), (23, bo false), (24, bo false), (25, AV.agg (sysC s)), (26, bo true), (27, bo false), (28, bo false), (30, AV.int IntKind.u16 L), (31, i6 (w6 L)), (32, i6 (w6 L)), (33, bo false), (34, AV.int IntKind.u16 n), (35, i6 (w6 n)), (36, i6 (w6 L)), (37, i6 (w6 (w6 L + 1))), (38, i6 k), (39, AV.tup [i6 a, i6 b, bo true]), (40, AV.agg (sysC s)), (41, AV.int IntKind.u16 L), (42, i6 (w6 L)), (43, AV.tup [i6 a, i6 b, bo true]), (44, i6 a), (45, i6 b), (46, bo true), (47, AV.tup [lro (List.length l) 1 (List.map st l), i6 0]), (48, AV.agg (sysC s)), (49, i6 k), (50, AV.tup [lro (List.length l) 1 (List.map st l), i6 0]), (51, lro (List.length l) 1 (List.map st l)), (52, i6 0), (53, AV.agg (sysC s)), (54, lro (List.length l) 1 (List.map st l)), (55, lro (List.length ps) 1 (List.map (AV.int IntKind.i64) ps))] [Ob.cells (sysC s)]
def ludS10 (s : NSys) (L : Int) (n : Int) (l : List ByteArray) (ps : List Int) (C : Nat → Int) (i0 : Nat) : St :=
  stOf 116 [56, 57, 58, 59, 60, 61, 62, 63, 64, 65, 66, 67, 68, 69] [(0, AV.agg (sysC s)), (1, AV.int IntKind.u16 L), (2, AV.int IntKind.u16 n), (3, AV.ref 0 0), (6, bo false), (7, i6 9999), (8, i6 (Int.tmod (w6 n) 10000)), (9, i6 0), (10, i6 0), (11, bo false), (12, lro (List.length l) 1 (List.map st l)), (13, i6 0), (14, lro (List.length ps) 1 (List.map (AV.int IntKind.i64) ps)), (15, i6 (C i0)), (16, i6 (↑i0 : Int)), (21, AV.agg (sysC s)), (22, bo true), (23, bo false), (24, bo false), (25, AV.agg (sysC s)), (26, bo true), (27, bo false), (28, bo false), (30, AV.int IntKind.u16 L), (31, i6 (w6 L)), (32, i6 (w6 L)), (33, bo true), (34, AV.int IntKind.u16 n), (35, i6 (w6 n)), (36, i6 9999), (37, i6 10000), (38, i6 (Int.tmod (w6 n) 10000)), (39, AV.tup [i6 0, i6 0, bo false]), (40, AV.agg (sysC s)), (41, AV.int IntKind.u16 L), (42, i6 (w6 L)), (43, AV.tup [i6 0, i6 0, bo false]), (44, i6 0), (45, i6 0), (46, bo false), (47, AV.tup [lro (List.length l) 1 (List.map st l), i6 0]), (48, AV.agg (sysC s)), (49, i6 (Int.tmod (w6 n) 10000)), (50, AV.tup [lro (List.length l) 1 (List.map st l), i6 0]), (51, lro (List.length l) 1 (List.map st l)), (52, i6 0), (53, AV.agg (sysC s)), (54, lro (List.length l) 1 (List.map st l)), (55, lro (List.length ps) 1 (List.map (AV.int IntKind.i64) ps))] [Ob.cells (sysC s)]
def ludS11 (s : NSys) (L : Int) (n : Int) (x : Int) (l : List ByteArray) (ps : List Int) (C : Nat → Int) (ra : List AV) (i0 : Nat) : St :=
  stOf 116 [] [(0, AV.agg (sysC s)), (1, AV.int IntKind.u16 L), (2, AV.int IntKind.u16 n), (3, AV.ref 0 0), (6, bo false), (7, i6 9999), (8, i6 (Int.tmod (w6 n) 10000)), (9, i6 0), (10, i6 0), (11, bo false), (12, lro (List.length l) 1 (List.map st l)), (13, i6 0), (14, lro (List.length ps) 1 (List.map (AV.int IntKind.i64) ps)), (15, i6 (w6 (C i0 + 1))), (16, i6 (w6 ((↑i0 : Int) + 1))), (21, AV.agg (sysC s)), (22, bo true), (23, bo false), (24, bo false), (25, AV.agg (sysC s)), (26, bo true), (27, bo false), (28, bo false), (30, AV.int IntKind.u16 L), (31, i6 (w6 L)), (32, i6 (w6 L)), (33, bo true), (34, AV.int IntKind.u16 n), (35, i6 (w6 n)), (36, i6 9999), (37, i6 10000), (38, i6 (Int.tmod (w6 n) 10000)), (39, AV.tup [i6 0, i6 0, bo false]), (40, AV.agg (sysC s)), (41, AV.int IntKind.u16 L), (42, i6 (w6 L)), (43, AV.tup [i6 0, i6 0, bo false]), (44, i6 0), (45, i6 0), (46, bo false), (47, AV.tup [lro (List.length l) 1 (List.map st l), i6 0]), (48, AV.agg (sysC s)), (49, i6 (Int.tmod (w6 n) 10000)), (50, AV.tup [lro (List.length l) 1 (List.map st l), i6 0]), (51, lro (List.length l) 1 (List.map st l)), (52, i6 0), (53, AV.agg (sysC s)), (54, lro (List.length l) 1 (List.map st l)), (55, lro (List.length ps) 1 (List.map (AV.int IntKind.i64) ps)), (56, i6 (↑i0 : Int)), (57, lro (List.length ps) 1 (List.map (AV.int IntKind.i64) ps)), (58, i6 (↑(List.length ps) : Int)), (59, bo true), (60, i6 (↑i0 : Int)), (61, i6 (w6 ((↑i0 : Int) + 1))), (62, lro (List.length ps) 1 (List.map (AV.int IntKind.i64) ps)), (63, i6 (↑i0 : Int)), (64, AV.eaddr ra), (65, i6 x), (66, i6 9999), (67, bo true), (68, i6 (C i0)), (69, i6 (w6 (C i0 + 1)))] [Ob.cells (sysC s)]
def ludS12 (s : NSys) (L : Int) (n : Int) (x : Int) (l : List ByteArray) (ps : List Int) (C : Nat → Int) (ra : List AV) (i0 : Nat) : St :=
  stOf 116 [68, 69] [(0, AV.agg (sysC s)), (1, AV.int IntKind.u16 L), (2, AV.int IntKind.u16 n), (3, AV.ref 0 0), (6, bo false), (7, i6 9999), (8, i6 (Int.tmod (w6 n) 10000)), (9, i6 0), (10, i6 0), (11, bo false), (12, lro (List.length l) 1 (List.map st l)), (13, i6 0), (14, lro (List.length ps) 1 (List.map (AV.int IntKind.i64) ps)), (15, i6 (C i0)), (16, i6 (w6 ((↑i0 : Int) + 1))), (21, AV.agg (sysC s)), (22, bo true), (23, bo false), (24, bo false), (25, AV.agg (sysC s)), (26, bo true), (27, bo false), (28, bo false), (30, AV.int IntKind.u16 L), (31, i6 (w6 L)), (32, i6 (w6 L)), (33, bo true), (34, AV.int IntKind.u16 n), (35, i6 (w6 n)), (36, i6 9999), (37, i6 10000), (38, i6 (Int.tmod (w6 n) 10000)), (39, AV.tup [i6 0, i6 0, bo false]), (40, AV.agg (sysC s)), (41, AV.int IntKind.u16 L), (42, i6 (w6 L)), (43, AV.tup [i6 0, i6 0, bo false]), (44, i6 0), (45, i6 0), (46, bo false), (47, AV.tup [lro (List.length l) 1 (List.map st l), i6 0]), (48, AV.agg (sysC s)), (49, i6 (Int.tmod (w6 n) 10000)), (50, AV.tup [lro (List.length l) 1 (List.map st l), i6 0]), (51, lro (List.length l) 1 (List.map st l)), (52, i6 0), (53, AV.agg (sysC s)), (54, lro (List.length l) 1 (List.map st l)), (55, lro (List.length ps) 1 (List.map (AV.int IntKind.i64) ps)), (56, i6 (↑i0 : Int)), (57, lro (List.length ps) 1 (List.map (AV.int IntKind.i64) ps)), (58, i6 (↑(List.length ps) : Int)), (59, bo true), (60, i6 (↑i0 : Int)), (61, i6 (w6 ((↑i0 : Int) + 1))), (62, lro (List.length ps) 1 (List.map (AV.int IntKind.i64) ps)), (63, i6 (↑i0 : Int)), (64, AV.eaddr ra), (65, i6 x), (66, i6 9999), (67, bo false)] [Ob.cells (sysC s)]
def ludS13 (s : NSys) (L : Int) (n : Int) (l : List ByteArray) (ps : List Int) (C : Nat → Int) (i0 : Nat) : St :=
  stOf 116 [60, 61, 62, 63, 64, 65, 66, 67, 68, 69] [(0, AV.agg (sysC s)), (1, AV.int IntKind.u16 L), (2, AV.int IntKind.u16 n), (3, AV.ref 0 0), (6, bo false), (7, i6 9999), (8, i6 (Int.tmod (w6 n) 10000)), (9, i6 0), (10, i6 0), (11, bo false), (12, lro (List.length l) 1 (List.map st l)), (13, i6 0), (14, lro (List.length ps) 1 (List.map (AV.int IntKind.i64) ps)), (15, i6 (C i0)), (16, i6 (↑i0 : Int)), (21, AV.agg (sysC s)), (22, bo true), (23, bo false), (24, bo false), (25, AV.agg (sysC s)), (26, bo true), (27, bo false), (28, bo false), (30, AV.int IntKind.u16 L), (31, i6 (w6 L)), (32, i6 (w6 L)), (33, bo true), (34, AV.int IntKind.u16 n), (35, i6 (w6 n)), (36, i6 9999), (37, i6 10000), (38, i6 (Int.tmod (w6 n) 10000)), (39, AV.tup [i6 0, i6 0, bo false]), (40, AV.agg (sysC s)), (41, AV.int IntKind.u16 L), (42, i6 (w6 L)), (43, AV.tup [i6 0, i6 0, bo false]), (44, i6 0), (45, i6 0), (46, bo false), (47, AV.tup [lro (List.length l) 1 (List.map st l), i6 0]), (48, AV.agg (sysC s)), (49, i6 (Int.tmod (w6 n) 10000)), (50, AV.tup [lro (List.length l) 1 (List.map st l), i6 0]), (51, lro (List.length l) 1 (List.map st l)), (52, i6 0), (53, AV.agg (sysC s)), (54, lro (List.length l) 1 (List.map st l)), (55, lro (List.length ps) 1 (List.map (AV.int IntKind.i64) ps)), (56, i6 (↑i0 : Int)), (57, lro (List.length ps) 1 (List.map (AV.int IntKind.i64) ps)), (58, i6 (↑(List.length ps) : Int)), (59, bo false)] [Ob.cells (sysC s)]
def ludS14 (s : NSys) (L : Int) (n : Int) (l : List ByteArray) (ps : List Int) : St :=
  stOf 116 [] [(0, AV.agg (sysC s)), (1, AV.int IntKind.u16 L), (2, AV.int IntKind.u16 n), (3, AV.ref 0 0), (6, bo false), (7, i6 9999), (8, i6 (Int.tmod (w6 n) 10000)), (9, i6 0), (10, i6 0), (11, bo false), (12, lro (List.length l) 1 (List.map st l)), (13, i6 0), (14, lro (List.length ps) 1 (List.map (AV.int IntKind.i64) ps)), (15, i6 0), (16, i6 0), (21, AV.agg (sysC s)), (22, bo true), (23, bo false), (24, bo false), (25, AV.agg (sysC s)), (26, bo true), (27, bo false), (28, bo false), (30, AV.int IntKind.u16 L), (31, i6 (w6 L)), (32, i6 (w6 L)), (33, bo true), (34, AV.int IntKind.u16 n), (35, i6 (w6 n)), (36, i6 9999), (37, i6 10000), (38, i6 (Int.tmod (w6 n) 10000)), (39, AV.tup [i6 0, i6 0, bo false]), (40, AV.agg (sysC s)), (41, AV.int IntKind.u16 L), (42, i6 (w6 L)), (43, AV.tup [i6 0, i6 0, bo false]), (44, i6 0), (45, i6 0), (46, bo false), (47, AV.tup [lro (List.length l) 1 (List.map st l), i6 0]), (48, AV.agg (sysC s)), (49, i6 (Int.tmod (w6 n) 10000)), (50, AV.tup [lro (List.length l) 1 (List.map st l), i6 0]), (51, lro (List.length l) 1 (List.map st l)), (52, i6 0), (53, AV.agg (sysC s)), (54, lro (List.length l) 1 (List.map st l)), (55, lro (List.length ps) 1 (List.map (AV.int IntKind.i64) ps))] [Ob.cells (sysC s)]
def ludS15 (s : NSys) (L : Int) (n : Int) (k : Int) (l : List ByteArray) (ps : List Int) (C : Nat → Int) (i0 : Nat) : St :=
  stOf 116 [56, 57, 58, 59, 60, 61, 62, 63, 64, 65, 66, 67, 68, 69] [(0, AV.agg (sysC s)), (1, AV.int IntKind.u16 L), (2, AV.int IntKind.u16 n), (3, AV.ref 0 0), (6, bo false), (7, i6 (w6 L)), (8, i6 k), (9, i6 0), (10, i6 0), (11, bo false), (12, lro (List.length l) 1 (List.map st l)), (13, i6 0), (14, lro (List.length ps) 1 (List.map (AV.int IntKind.i64) ps)), (15, i6 (C i0)), (16, i6 (↑i0 : Int)), (21, AV.agg (sysC s)), (22, bo true), (23, bo false), (24, bo false), (25, AV.agg (sysC s)), (26, bo true), (27, bo false), (28, bo false), (30, AV.int IntKind.u16 L), (31, i6 (w6 L)), (32, i6 (w6 L)), (33, bo false), (34, AV.int IntKind.u16 n), (35, i6 (w6 n)), (36, i6 (w6 L)), (37, i6 (w6 (w6 L + 1))), (38, i6 k), (39, AV.tup [i6 0, i6 0, bo false]), (40, AV.agg (sysC s)), (41, AV.int IntKind.u16 L), (42, i6 (w6 L)), (43, AV.tup [i6 0, i6 0, bo false]), (44, i6 0), (45, i6 0), (46, bo false), (47, AV.tup [lro (List.length l) 1 (List.map st l), i6 0]), (48, AV.agg (sysC s)), (49, i6 k), (50, AV.tup [lro (List.length l) 1 (List.map st l), i6 0]), (51, lro (List.length l) 1 (List.map st l)), (52, i6 0), (53, AV.agg (sysC s)), (54, lro (List.length l) 1 (List.map st l)), (55, lro (List.length ps) 1 (List.map (AV.int IntKind.i64) ps))] [Ob.cells (sysC s)]
def ludS16 (s : NSys) (L : Int) (n : Int) (k : Int) (x : Int) (l : List ByteArray) (ps : List Int) (C : Nat → Int) (ra : List AV) (i0 : Nat) : St :=
  stOf 116 [] [(0, AV.agg (sysC s)), (1, AV.int IntKind.u16 L), (2, AV.int IntKind.u16 n), (3, AV.ref 0 0), (6, bo false), (7, i6 (w6 L)), (8, i6 k), (9, i6 0), (10, i6 0), (11, bo false), (12, lro (List.length l) 1 (List.map st l)), (13, i6 0), (14, lro (List.length ps) 1 (List.map (AV.int IntKind.i64) ps)), (15, i6 (w6 (C i0 + 1))), (16, i6 (w6 ((↑i0 : Int) + 1))), (21, AV.agg (sysC s)), (22, bo true), (23, bo false), (24, bo false), (25, AV.agg (sysC s)), (26, bo true), (27, bo false), (28, bo false), (30, AV.int IntKind.u16 L), (31, i6 (w6 L)), (32, i6 (w6 L)), (33, bo false), (34, AV.int IntKind.u16 n), (35, i6 (w6 n)), (36, i6 (w6 L)), (37, i6 (w6 (w6 L + 1))), (38, i6 k), (39, AV.tup [i6 0, i6 0, bo false]), (40, AV.agg (sysC s)), (41, AV.int IntKind.u16 L), (42, i6 (w6 L)), (43, AV.tup [i6 0, i6 0, bo false]), (44, i6 0), (45, i6 0), (46, bo false), (47, AV.tup [lro (List.length l) 1 (List.map st l), i6 0]), (48, AV.agg (sysC s)), (49, i6 k), (50, AV.tup [lro (List.length l) 1 (List.map st l), i6 0]), (51, lro (List.length l) 1 (List.map st l)), (52, i6 0), (53, AV.agg (sysC s)), (54, lro (List.length l) 1 (List.map st l)), (55, lro (List.length ps) 1 (List.map (AV.int IntKind.i64) ps)), (56, i6 (↑i0 : Int)), (57, lro (List.length ps) 1 (List.map (AV.int IntKind.i64) ps)), (58, i6 (↑(List.length ps) : Int)), (59, bo true), (60, i6 (↑i0 : Int)), (61, i6 (w6 ((↑i0 : Int) + 1))), (62, lro (List.length ps) 1 (List.map (AV.int IntKind.i64) ps)), (63, i6 (↑i0 : Int)), (64, AV.eaddr ra), (65, i6 x), (66, i6 (w6 L)), (67, bo true), (68, i6 (C i0)), (69, i6 (w6 (C i0 + 1)))] [Ob.cells (sysC s)]
def ludS17 (s : NSys) (L : Int) (n : Int) (k : Int) (x : Int) (l : List ByteArray) (ps : List Int) (C : Nat → Int) (ra : List AV) (i0 : Nat) : St :=
  stOf 116 [68, 69] [(0, AV.agg (sysC s)), (1, AV.int IntKind.u16 L), (2, AV.int IntKind.u16 n), (3, AV.ref 0 0), (6, bo false), (7, i6 (w6 L)), (8, i6 k), (9, i6 0), (10, i6 0), (11, bo false), (12, lro (List.length l) 1 (List.map st l)), (13, i6 0), (14, lro (List.length ps) 1 (List.map (AV.int IntKind.i64) ps)), (15, i6 (C i0)), (16, i6 (w6 ((↑i0 : Int) + 1))), (21, AV.agg (sysC s)), (22, bo true), (23, bo false), (24, bo false), (25, AV.agg (sysC s)), (26, bo true), (27, bo false), (28, bo false), (30, AV.int IntKind.u16 L), (31, i6 (w6 L)), (32, i6 (w6 L)), (33, bo false), (34, AV.int IntKind.u16 n), (35, i6 (w6 n)), (36, i6 (w6 L)), (37, i6 (w6 (w6 L + 1))), (38, i6 k), (39, AV.tup [i6 0, i6 0, bo false]), (40, AV.agg (sysC s)), (41, AV.int IntKind.u16 L), (42, i6 (w6 L)), (43, AV.tup [i6 0, i6 0, bo false]), (44, i6 0), (45, i6 0), (46, bo false), (47, AV.tup [lro (List.length l) 1 (List.map st l), i6 0]), (48, AV.agg (sysC s)), (49, i6 k), (50, AV.tup [lro (List.length l) 1 (List.map st l), i6 0]), (51, lro (List.length l) 1 (List.map st l)), (52, i6 0), (53, AV.agg (sysC s)), (54, lro (List.length l) 1 (List.map st l)), (55, lro (List.length ps) 1 (List.map (AV.int IntKind.i64) ps)), (56, i6 (↑i0 : Int)), (57, lro (List.length ps) 1 (List.map (AV.int IntKind.i64) ps)), (58, i6 (↑(List.length ps) : Int)), (59, bo true), (60, i6 (↑i0 : Int)), (61, i6 (w6 ((↑i0 : Int) + 1))), (62, lro (List.length ps) 1 (List.map (AV.int IntKind.i64) ps)), (63, i6 (↑i0 : Int)), (64, AV.eaddr ra), (65, i6 x), (66, i6 (w6 L)), (67, bo false)] [Ob.cells (sysC s)]
def ludS18 (s : NSys) (L : Int) (n : Int) (k : Int) (l : List ByteArray) (ps : List Int) (C : Nat → Int) (i0 : Nat) : St :=
  stOf 116 [60, 61, 62, 63, 64, 65, 66, 67, 68, 69] [(0, AV.agg (sysC s)), (1, AV.int IntKind.u16 L), (2, AV.int IntKind.u16 n), (3, AV.ref 0 0), (6, bo false), (7, i6 (w6 L)), (8, i6 k), (9, i6 0), (10, i6 0), (11, bo false), (12, lro (List.length l) 1 (List.map st l)), (13, i6 0), (14, lro (List.length ps) 1 (List.map (AV.int IntKind.i64) ps)), (15, i6 (C i0)), (16, i6 (↑i0 : Int)), (21, AV.agg (sysC s)), (22, bo true), (23, bo false), (24, bo false), (25, AV.agg (sysC s)), (26, bo true), (27, bo false), (28, bo false), (30, AV.int IntKind.u16 L), (31, i6 (w6 L)), (32, i6 (w6 L)), (33, bo false), (34, AV.int IntKind.u16 n), (35, i6 (w6 n)), (36, i6 (w6 L)), (37, i6 (w6 (w6 L + 1))), (38, i6 k), (39, AV.tup [i6 0, i6 0, bo false]), (40, AV.agg (sysC s)), (41, AV.int IntKind.u16 L), (42, i6 (w6 L)), (43, AV.tup [i6 0, i6 0, bo false]), (44, i6 0), (45, i6 0), (46, bo false), (47, AV.tup [lro (List.length l) 1 (List.map st l), i6 0]), (48, AV.agg (sysC s)), (49, i6 k), (50, AV.tup [lro (List.length l) 1 (List.map st l), i6 0]), (51, lro (List.length l) 1 (List.map st l)), (52, i6 0), (53, AV.agg (sysC s)), (54, lro (List.length l) 1 (List.map st l)), (55, lro (List.length ps) 1 (List.map (AV.int IntKind.i64) ps)), (56, i6 (↑i0 : Int)), (57, lro (List.length ps) 1 (List.map (AV.int IntKind.i64) ps)), (58, i6 (↑(List.length ps) : Int)), (59, bo false)] [Ob.cells (sysC s)]
def ludS19 (s : NSys) (L : Int) (n : Int) (k : Int) (l : List ByteArray) (ps : List Int) : St :=
  stOf 116 [] [(0, AV.agg (sysC s)), (1, AV.int IntKind.u16 L), (2, AV.int IntKind.u16 n), (3, AV.ref 0 0), (6, bo false), (7, i6 (w6 L)), (8, i6 k), (9, i6 0), (10, i6 0), (11, bo false), (12, lro (List.length l) 1 (List.map st l)), (13, i6 0), (14, lro (List.length ps) 1 (List.map (AV.int IntKind.i64) ps)), (15, i6 0), (16, i6 0), (21, AV.agg (sysC s)), (22, bo true), (23, bo false), (24, bo false), (25, AV.agg (sysC s)), (26, bo true), (27, bo false), (28, bo false), (30, AV.int IntKind.u16 L), (31, i6 (w6 L)), (32, i6 (w6 L)), (33, bo false), (34, AV.int IntKind.u16 n), (35, i6 (w6 n)), (36, i6 (w6 L)), (37, i6 (w6 (w6 L + 1))), (38, i6 k), (39, AV.tup [i6 0, i6 0, bo false]), (40, AV.agg (sysC s)), (41, AV.int IntKind.u16 L), (42, i6 (w6 L)), (43, AV.tup [i6 0, i6 0, bo false]), (44, i6 0), (45, i6 0), (46, bo false), (47, AV.tup [lro (List.length l) 1 (List.map st l), i6 0]), (48, AV.agg (sysC s)), (49, i6 k), (50, AV.tup [lro (List.length l) 1 (List.map st l), i6 0]), (51, lro (List.length l) 1 (List.map st l)), (52, i6 0), (53, AV.agg (sysC s)), (54, lro (List.length l) 1 (List.map st l)), (55, lro (List.length ps) 1 (List.map (AV.int IntKind.i64) ps))] [Ob.cells (sysC s)]
theorem lua_p (s : NSys) (L : Int) (n : Int) (X : Ext) (call : Caller) (lf : Nat)
  (h0 : callv X call false 13 [AV.agg (sysC s)] [Ob.cells (sysC s)] 0 = some (bo false, [Ob.cells (sysC s)]))
  (h1 : callv X call false 15 [] [Ob.cells (sysC s)] 0 = some (bo true, [Ob.cells (sysC s)])) : vbody Tryd.prog X call lf noFg Tryd.f11 (codeOf Tryd.f11) [AV.agg (sysC s), AV.int IntKind.u16 L, AV.int IntKind.u16 n] [] 0 = some (bo true, [Ob.cells (sysC s)]) :=
  along_sound (ans := [(5, Ans.v (bo false)), (14, Ans.v (bo true))]) (by kernel_rfl) (And.intro h0 (And.intro h1 trivial))
theorem lub_p (s : NSys) (L : Int) (n : Int) (X : Ext) (call : Caller) (lf : Nat)
  (h0 : callv X call false 13 [AV.agg (sysC s)] [Ob.cells (sysC s)] 0 = some (bo true, [Ob.cells (sysC s)]))
  (h1 : callv X call false 22 [AV.agg (sysC s)] [Ob.cells (sysC s)] 0 = some (bo false, [Ob.cells (sysC s)]))
  (h2 : callv X call false 15 [] [Ob.cells (sysC s)] 0 = some (bo true, [Ob.cells (sysC s)])) : vbody Tryd.prog X call lf noFg Tryd.f11 (codeOf Tryd.f11) [AV.agg (sysC s), AV.int IntKind.u16 L, AV.int IntKind.u16 n] [] 0 = some (bo true, [Ob.cells (sysC s)]) :=
  along_sound (ans := [(5, Ans.v (bo true)), (11, Ans.v (bo false)), (17, Ans.v (bo true))]) (by kernel_rfl) (And.intro h0 (And.intro h1 (And.intro h2 trivial)))
theorem luc_r0_tt (s : NSys) (L : Int) (n : Int) (a : Int) (b : Int) (x : Int) (l : List ByteArray) (ps : List Int) (C : Nat → Int) (ra : List AV) (X : Ext) (call : Caller) (lf : Nat) (i0 : Nat)
  (h0 : decide ((↑i0 : Int) < (↑(List.length ps) : Int)) = true)
  (h1 : keep [Ob.cells (sysC s)] (indexAddrv Tryd.prog 34 [Ob.cells (sysC s)] (lro (List.length ps) 1 (List.map (AV.int IntKind.i64) ps)) (i6 (↑i0 : Int))) = some (AV.eaddr ra, [Ob.cells (sysC s)]))
  (h2 : keep [Ob.cells (sysC s)] (loadv Tryd.prog 3 [Ob.cells (sysC s)] (AV.eaddr ra)) = some (i6 x, [Ob.cells (sysC s)]))
  (h3 : decide (x ≤ 9999) = true) : vexec Tryd.prog X call lf 0 noFg (loopN Tryd.f11 0) (lucS0 s L n a b l ps C i0) = some (Ex.normal, (lucS1 s L n a b x l ps C ra i0)) :=
  around_sound (ans := [(4, Ans.b true), (9, Ans.v (AV.eaddr ra)), (10, Ans.v (i6 x)), (12, Ans.b true)]) (by kernel_rfl) (And.intro h0 (And.intro h1 (And.intro h2 (And.intro h3 trivial))))
theorem luc_r0_tf (s : NSys) (L : Int) (n : Int) (a : Int) (b : Int) (x : Int) (l : List ByteArray) (ps : List Int) (C : Nat → Int) (ra : List AV) (X : Ext) (call : Caller) (lf : Nat) (i0 : Nat)
  (h0 : decide ((↑i0 : Int) < (↑(List.length ps) : Int)) = true)
  (h1 : keep [Ob.cells (sysC s)] (indexAddrv Tryd.prog 34 [Ob.cells (sysC s)] (lro (List.length ps) 1 (List.map (AV.int IntKind.i64) ps)) (i6 (↑i0 : Int))) = some (AV.eaddr ra, [Ob.cells (sysC s)]))
  (h2 : keep [Ob.cells (sysC s)] (loadv Tryd.prog 3 [Ob.cells (sysC s)] (AV.eaddr ra)) = some (i6 x, [Ob.cells (sysC s)]))
  (h3 : decide (x ≤ 9999) = false) : vexec Tryd.prog X call lf 0 noFg (loopN Tryd.f11 0) (lucS0 s L n a b l ps C i0) = some (Ex.normal, (lucS2 s L n a b x l ps C ra i0)) :=
  around_sound (ans := [(4, Ans.b true), (9, Ans.v (AV.eaddr ra)), (10, Ans.v (i6 x)), (12, Ans.b false)]) (by kernel_rfl) (And.intro h0 (And.intro h1 (And.intro h2 (And.intro h3 trivial))))
theorem luc_r0_f (s : NSys) (L : Int) (n : Int) (a : Int) (b : Int) (l : List ByteArray) (ps : List Int) (C : Nat → Int) (X : Ext) (call : Caller) (lf : Nat) (i0 : Nat)
  (h0 : decide ((↑i0 : Int) < (↑(List.length ps) : Int)) = false) : vexec Tryd.prog X call lf 0 noFg (loopN Tryd.f11 0) (lucS0 s L n a b l ps C i0) = some (Ex.exit 0, (lucS3 s L n a b l ps C i0)) :=
  around_sound (ans := [(4, Ans.b false)]) (by kernel_rfl) (And.intro h0 trivial)
theorem luc_ptlftt (s : NSys) (L : Int) (n : Int) (a : Int) (b : Int) (l : List ByteArray) (x1 : List ByteArray) (x2 : List ByteArray) (ps : List Int) (C : Nat → Int) (X : Ext) (call : Caller) (lf : Nat) (i0 : Nat)
  (h0 : callv X call false 13 [AV.agg (sysC s)] [Ob.cells (sysC s)] 0 = some (bo true, [Ob.cells (sysC s)]))
  (h1 : callv X call false 22 [AV.agg (sysC s)] [Ob.cells (sysC s)] 0 = some (bo true, [Ob.cells (sysC s)]))
  (h2 : decide (w6 L > 9999) = true)
  (h3 : callv X call false 28 [AV.agg (sysC s), i6 (w6 L)] [Ob.cells (sysC s)] 0 = some (AV.tup [i6 a, i6 b, bo true], [Ob.cells (sysC s)]))
  (h4 : callv X call false 16 [AV.agg (sysC s), i6 (Int.tmod (w6 n) 10000)] [Ob.cells (sysC s)] 0 = some (AV.tup [lro (List.length l) 1 (List.map st l), i6 0], [Ob.cells (sysC s)]))
  (h5 : callv X call false 20 [AV.agg (sysC s), lro (List.length l) 1 (List.map st l)] [Ob.cells (sysC s)] 0 = some (lro (List.length ps) 1 (List.map (AV.int IntKind.i64) ps), [Ob.cells (sysC s)]))
  (h6 : vexec Tryd.prog X call lf 0 noFg (Code.loop (loopN Tryd.f11 0)) (lucS4 s L n a b l ps) = some (Ex.exit 0, (lucS3 s L n a b l ps C i0)))
  (h7 : callv X call false 16 [AV.agg (sysC s), i6 a] [Ob.cells (sysC s)] 0 = some (AV.tup [lro (List.length x1) 1 (List.map st x1), i6 0], [Ob.cells (sysC s)]))
  (h8 : callv X call false 16 [AV.agg (sysC s), i6 b] [Ob.cells (sysC s)] 0 = some (AV.tup [lro (List.length x2) 1 (List.map st x2), i6 0], [Ob.cells (sysC s)]))
  (h9 : callv X call false 15 [] [Ob.cells (sysC s)] 0 = some (bo true, [Ob.cells (sysC s)]))
  (h10 : decide (a < b) = true)
  (h11 : decide (b ≤ 9999) = true)
  (h12 : callv X call false 17 [lro (List.length x1) 1 (List.map st x1), lro (List.length x2) 1 (List.map st x2)] [Ob.cells (sysC s)] 0 = some (bo true, [Ob.cells (sysC s)])) : vbody Tryd.prog X call lf noFg Tryd.f11 (codeOf Tryd.f11) [AV.agg (sysC s), AV.int IntKind.u16 L, AV.int IntKind.u16 n] [] 0 = some (bo true, [Ob.cells (sysC s)]) :=
  along_sound (ans := [(5, Ans.v (bo true)), (11, Ans.v (bo true)), (22, Ans.b true), (37, Ans.v (AV.tup [i6 a, i6 b, bo true])), (48, Ans.v (AV.tup [lro (List.length l) 1 (List.map st l), i6 0])), (57, Ans.v (lro (List.length ps) 1 (List.map (AV.int IntKind.i64) ps))), (63, Ans.l (Ex.exit 0) (lucS3 s L n a b l ps C i0)), (70, Ans.v (AV.tup [lro (List.length x1) 1 (List.map st x1), i6 0])), (79, Ans.v (AV.tup [lro (List.length x2) 1 (List.map st x2), i6 0])), (86, Ans.v (bo true)), (105, Ans.b true), (113, Ans.b true), (121, Ans.v (bo true))]) (by kernel_rfl) (And.intro h0 (And.intro h1 (And.intro h2 (And.intro h3 (And.intro h4 (And.intro h5 (And.intro h6 (And.intro h7 (And.intro h8 (And.intro h9 (And.intro h10 (And.intro h11 (And.intro h12 trivial)))))))))))))
theorem luc_r0_ttb (s : NSys) (L : Int) (n : Int) (k : Int) (a : Int) (b : Int) (x : Int) (l : List ByteArray) (ps : List Int) (C : Nat → Int) (ra : List AV) (X : Ext) (call : Caller) (lf : Nat) (i0 : Nat)
  (h0 : decide ((↑i0 : Int) < (↑(List.length ps) : Int)) = true)
  (h1 : keep [Ob.cells (sysC s)] (indexAddrv Tryd.prog 34 [Ob.cells (sysC s)] (lro (List.length ps) 1 (List.map (AV.int IntKind.i64) ps)) (i6 (↑i0 : Int))) = some (AV.eaddr ra, [Ob.cells (sysC s)]))
  (h2 : keep [Ob.cells (sysC s)] (loadv Tryd.prog 3 [Ob.cells (sysC s)] (AV.eaddr ra)) = some (i6 x, [Ob.cells (sysC s)]))
  (h3 : decide (x ≤ w6 L) = true) : vexec Tryd.prog X call lf 0 noFg (loopN Tryd.f11 0) (lucS5 s L n k a b l ps C i0) = some (Ex.normal, (lucS6 s L n k a b x l ps C ra i0)) :=
  around_sound (ans := [(4, Ans.b true), (9, Ans.v (AV.eaddr ra)), (10, Ans.v (i6 x)), (12, Ans.b true)]) (by kernel_rfl) (And.intro h0 (And.intro h1 (And.intro h2 (And.intro h3 trivial))))
theorem luc_r0_tfb (s : NSys) (L : Int) (n : Int) (k : Int) (a : Int) (b : Int) (x : Int) (l : List ByteArray) (ps : List Int) (C : Nat → Int) (ra : List AV) (X : Ext) (call : Caller) (lf : Nat) (i0 : Nat)
  (h0 : decide ((↑i0 : Int) < (↑(List.length ps) : Int)) = true)
  (h1 : keep [Ob.cells (sysC s)] (indexAddrv Tryd.prog 34 [Ob.cells (sysC s)] (lro (List.length ps) 1 (List.map (AV.int IntKind.i64) ps)) (i6 (↑i0 : Int))) = some (AV.eaddr ra, [Ob.cells (sysC s)]))
  (h2 : keep [Ob.cells (sysC s)] (loadv Tryd.prog 3 [Ob.cells (sysC s)] (AV.eaddr ra)) = some (i6 x, [Ob.cells (sysC s)]))
  (h3 : decide (x ≤ w6 L) = false) : vexec Tryd.prog X call lf 0 noFg (loopN Tryd.f11 0) (lucS5 s L n k a b l ps C i0) = some (Ex.normal, (lucS7 s L n k a b x l ps C ra i0)) :=
  around_sound (ans := [(4, Ans.b true), (9, Ans.v (AV.eaddr ra)), (10, Ans.v (i6 x)), (12, Ans.b false)]) (by kernel_rfl) (And.intro h0 (And.intro h1 (And.intro h2 (And.intro h3 trivial))))
theorem luc_r0_fb (s : NSys) (L : Int) (n : Int) (k : Int) (a : Int) (b : Int) (l : List ByteArray) (ps : List Int) (C : Nat → Int) (X : Ext) (call : Caller) (lf : Nat) (i0 : Nat)
  (h0 : decide ((↑i0 : Int) < (↑(List.length ps) : Int)) = false) : vexec Tryd.prog X call lf 0 noFg (loopN Tryd.f11 0) (lucS5 s L n k a b l ps C i0) = some (Ex.exit 0, (lucS8 s L n k a b l ps C i0)) :=
  around_sound (ans := [(4, Ans.b false)]) (by kernel_rfl) (And.intro h0 trivial)
theorem luc_pflftt (s : NSys) (L : Int) (n : Int) (k : Int) (a : Int) (b : Int) (l : List ByteArray) (x1 : List ByteArray) (x2 : List ByteArray) (ps : List Int) (C : Nat → Int) (X : Ext) (call : Caller) (lf : Nat) (i0 : Nat)
  (h0 : callv X call false 13 [AV.agg (sysC s)] [Ob.cells (sysC s)] 0 = some (bo true, [Ob.cells (sysC s)]))
  (h1 : callv X call false 22 [AV.agg (sysC s)] [Ob.cells (sysC s)] 0 = some (bo true, [Ob.cells (sysC s)]))
  (h2 : decide (w6 L > 9999) = false)
  (h3 : keep [Ob.cells (sysC s)] (binv Tryd.prog BinOp.rem 3 (i6 (w6 n)) (i6 (w6 (w6 L + 1)))) = some (i6 k, [Ob.cells (sysC s)]))
  (h4 : callv X call false 28 [AV.agg (sysC s), i6 (w6 L)] [Ob.cells (sysC s)] 0 = some (AV.tup [i6 a, i6 b, bo true], [Ob.cells (sysC s)]))
  (h5 : callv X call false 16 [AV.agg (sysC s), i6 k] [Ob.cells (sysC s)] 0 = some (AV.tup [lro (List.length l) 1 (List.map st l), i6 0], [Ob.cells (sysC s)]))
  (h6 : callv X call false 20 [AV.agg (sysC s), lro (List.length l) 1 (List.map st l)] [Ob.cells (sysC s)] 0 = some (lro (List.length ps) 1 (List.map (AV.int IntKind.i64) ps), [Ob.cells (sysC s)]))
  (h7 : vexec Tryd.prog X call lf 0 noFg (Code.loop (loopN Tryd.f11 0)) (lucS9 s L n k a b l ps) = some (Ex.exit 0, (lucS8 s L n k a b l ps C i0)))
  (h8 : callv X call false 16 [AV.agg (sysC s), i6 a] [Ob.cells (sysC s)] 0 = some (AV.tup [lro (List.length x1) 1 (List.map st x1), i6 0], [Ob.cells (sysC s)]))
  (h9 : callv X call false 16 [AV.agg (sysC s), i6 b] [Ob.cells (sysC s)] 0 = some (AV.tup [lro (List.length x2) 1 (List.map st x2), i6 0], [Ob.cells (sysC s)]))
  (h10 : callv X call false 15 [] [Ob.cells (sysC s)] 0 = some (bo true, [Ob.cells (sysC s)]))
  (h11 : decide (a < b) = true)
  (h12 : decide (b ≤ w6 L) = true)
  (h13 : callv X call false 17 [lro (List.length x1) 1 (List.map st x1), lro (List.length x2) 1 (List.map st x2)] [Ob.cells (sysC s)] 0 = some (bo true, [Ob.cells (sysC s)])) : vbody Tryd.prog X call lf noFg Tryd.f11 (codeOf Tryd.f11) [AV.agg (sysC s), AV.int IntKind.u16 L, AV.int IntKind.u16 n] [] 0 = some (bo true, [Ob.cells (sysC s)]) :=
  along_sound (ans := [(5, Ans.v (bo true)), (11, Ans.v (bo true)), (22, Ans.b false), (29, Ans.v (i6 k)), (35, Ans.v (AV.tup [i6 a, i6 b, bo true])), (46, Ans.v (AV.tup [lro (List.length l) 1 (List.map st l), i6 0])), (55, Ans.v (lro (List.length ps) 1 (List.map (AV.int IntKind.i64) ps))), (61, Ans.l (Ex.exit 0) (lucS8 s L n k a b l ps C i0)), (68, Ans.v (AV.tup [lro (List.length x1) 1 (List.map st x1), i6 0])), (77, Ans.v (AV.tup [lro (List.length x2) 1 (List.map st x2), i6 0])), (84, Ans.v (bo true)), (103, Ans.b true), (111, Ans.b true), (119, Ans.v (bo true))]) (by kernel_rfl) (And.intro h0 (And.intro h1 (And.intro h2 (And.intro h3 (And.intro h4 (And.intro h5 (And.intro h6 (And.intro h7 (And.intro h8 (And.intro h9 (And.intro h10 (And.intro h11 (And.intro h12 (And.intro h13 trivial))))))))))))))
theorem lud_r0_tt (s : NSys) (L : Int) (n : Int) (x : Int) (l : List ByteArray) (ps : List Int) (C : Nat → Int) (ra : List AV) (X : Ext) (call : Caller) (lf : Nat) (i0 : Nat)
  (h0 : decide ((↑i0 : Int) < (↑(List.length ps) : Int)) = true)
  (h1 : keep [Ob.cells (sysC s)] (indexAddrv Tryd.prog 34 [Ob.cells (sysC s)] (lro (List.length ps) 1 (List.map (AV.int IntKind.i64) ps)) (i6 (↑i0 : Int))) = some (AV.eaddr ra, [Ob.cells (sysC s)]))
  (h2 : keep [Ob.cells (sysC s)] (loadv Tryd.prog 3 [Ob.cells (sysC s)] (AV.eaddr ra)) = some (i6 x, [Ob.cells (sysC s)]))
  (h3 : decide (x ≤ 9999) = true) : vexec Tryd.prog X call lf 0 noFg (loopN Tryd.f11 0) (ludS10 s L n l ps C i0) = some (Ex.normal, (ludS11 s L n x l ps C ra i0)) :=
  around_sound (ans := [(4, Ans.b true), (9, Ans.v (AV.eaddr ra)), (10, Ans.v (i6 x)), (12, Ans.b true)]) (by kernel_rfl) (And.intro h0 (And.intro h1 (And.intro h2 (And.intro h3 trivial))))
theorem lud_r0_tf (s : NSys) (L : Int) (n : Int) (x : Int) (l : List ByteArray) (ps : List Int) (C : Nat → Int) (ra : List AV) (X : Ext) (call : Caller) (lf : Nat) (i0 : Nat)
  (h0 : decide ((↑i0 : Int) < (↑(List.length ps) : Int)) = true)
  (h1 : keep [Ob.cells (sysC s)] (indexAddrv Tryd.prog 34 [Ob.cells (sysC s)] (lro (List.length ps) 1 (List.map (AV.int IntKind.i64) ps)) (i6 (↑i0 : Int))) = some (AV.eaddr ra, [Ob.cells (sysC s)]))
  (h2 : keep [Ob.cells (sysC s)] (loadv Tryd.prog 3 [Ob.cells (sysC s)] (AV.eaddr ra)) = some (i6 x, [Ob.cells (sysC s)]))
  (h3 : decide (x ≤ 9999) = false) : vexec Tryd.prog X call lf 0 noFg (loopN Tryd.f11 0) (ludS10 s L n l ps C i0) = some (Ex.normal, (ludS12 s L n x l ps C ra i0)) :=
  around_sound (ans := [(4, Ans.b true), (9, Ans.v (AV.eaddr ra)), (10, Ans.v (i6 x)), (12, Ans.b false)]) (by kernel_rfl) (And.intro h0 (And.intro h1 (And.intro h2 (And.intro h3 trivial))))
theorem lud_r0_f (s : NSys) (L : Int) (n : Int) (l : List ByteArray) (ps : List Int) (C : Nat → Int) (X : Ext) (call : Caller) (lf : Nat) (i0 : Nat)
  (h0 : decide ((↑i0 : Int) < (↑(List.length ps) : Int)) = false) : vexec Tryd.prog X call lf 0 noFg (loopN Tryd.f11 0) (ludS10 s L n l ps C i0) = some (Ex.exit 0, (ludS13 s L n l ps C i0)) :=
  around_sound (ans := [(4, Ans.b false)]) (by kernel_rfl) (And.intro h0 trivial)
theorem lud_ptlft (s : NSys) (L : Int) (n : Int) (l : List ByteArray) (ps : List Int) (C : Nat → Int) (X : Ext) (call : Caller) (lf : Nat) (i0 : Nat)
  (h0 : callv X call false 13 [AV.agg (sysC s)] [Ob.cells (sysC s)] 0 = some (bo true, [Ob.cells (sysC s)]))
  (h1 : callv X call false 22 [AV.agg (sysC s)] [Ob.cells (sysC s)] 0 = some (bo true, [Ob.cells (sysC s)]))
  (h2 : decide (w6 L > 9999) = true)
  (h3 : callv X call false 28 [AV.agg (sysC s), i6 (w6 L)] [Ob.cells (sysC s)] 0 = some (AV.tup [i6 0, i6 0, bo false], [Ob.cells (sysC s)]))
  (h4 : callv X call false 16 [AV.agg (sysC s), i6 (Int.tmod (w6 n) 10000)] [Ob.cells (sysC s)] 0 = some (AV.tup [lro (List.length l) 1 (List.map st l), i6 0], [Ob.cells (sysC s)]))
  (h5 : callv X call false 20 [AV.agg (sysC s), lro (List.length l) 1 (List.map st l)] [Ob.cells (sysC s)] 0 = some (lro (List.length ps) 1 (List.map (AV.int IntKind.i64) ps), [Ob.cells (sysC s)]))
  (h6 : vexec Tryd.prog X call lf 0 noFg (Code.loop (loopN Tryd.f11 0)) (ludS14 s L n l ps) = some (Ex.exit 0, (ludS13 s L n l ps C i0)))
  (h7 : callv X call false 15 [] [Ob.cells (sysC s)] 0 = some (bo true, [Ob.cells (sysC s)]))
  (h8 : (C i0 == 1) = true) : vbody Tryd.prog X call lf noFg Tryd.f11 (codeOf Tryd.f11) [AV.agg (sysC s), AV.int IntKind.u16 L, AV.int IntKind.u16 n] [] 0 = some (bo true, [Ob.cells (sysC s)]) :=
  along_sound (ans := [(5, Ans.v (bo true)), (11, Ans.v (bo true)), (22, Ans.b true), (37, Ans.v (AV.tup [i6 0, i6 0, bo false])), (48, Ans.v (AV.tup [lro (List.length l) 1 (List.map st l), i6 0])), (57, Ans.v (lro (List.length ps) 1 (List.map (AV.int IntKind.i64) ps))), (63, Ans.l (Ex.exit 0) (ludS13 s L n l ps C i0)), (68, Ans.v (bo true)), (79, Ans.b true)]) (by kernel_rfl) (And.intro h0 (And.intro h1 (And.intro h2 (And.intro h3 (And.intro h4 (And.intro h5 (And.intro h6 (And.intro h7 (And.intro h8 trivial)))))))))
theorem lud_r0_ttb (s : NSys) (L : Int) (n : Int) (k : Int) (x : Int) (l : List ByteArray) (ps : List Int) (C : Nat → Int) (ra : List AV) (X : Ext) (call : Caller) (lf : Nat) (i0 : Nat)
  (h0 : decide ((↑i0 : Int) < (↑(List.length ps) : Int)) = true)
  (h1 : keep [Ob.cells (sysC s)] (indexAddrv Tryd.prog 34 [Ob.cells (sysC s)] (lro (List.length ps) 1 (List.map (AV.int IntKind.i64) ps)) (i6 (↑i0 : Int))) = some (AV.eaddr ra, [Ob.cells (sysC s)]))
  (h2 : keep [Ob.cells (sysC s)] (loadv Tryd.prog 3 [Ob.cells (sysC s)] (AV.eaddr ra)) = some (i6 x, [Ob.cells (sysC s)]))
  (h3 : decide (x ≤ w6 L) = true) : vexec Tryd.prog X call lf 0 noFg (loopN Tryd.f11 0) (ludS15 s L n k l ps C i0) = some (Ex.normal, (ludS16 s L n k x l ps C ra i0)) :=
  around_sound (ans := [(4, Ans.b true), (9, Ans.v (AV.eaddr ra)), (10, Ans.v (i6 x)), (12, Ans.b true)]) (by kernel_rfl) (And.intro h0 (And.intro h1 (And.intro h2 (And.intro h3 trivial))))
theorem lud_r0_tfb (s : NSys) (L : Int) (n : Int) (k : Int) (x : Int) (l : List ByteArray) (ps : List Int) (C : Nat → Int) (ra : List AV) (X : Ext) (call : Caller) (lf : Nat) (i0 : Nat)
  (h0 : decide ((↑i0 : Int) < (↑(List.length ps) : Int)) = true)
  (h1 : keep [Ob.cells (sysC s)] (indexAddrv Tryd.prog 34 [Ob.cells (sysC s)] (lro (List.length ps) 1 (List.map (AV.int IntKind.i64) ps)) (i6 (↑i0 : Int))) = some (AV.eaddr ra, [Ob.cells (sysC s)]))
  (h2 : keep [Ob.cells (sysC s)] (loadv Tryd.prog 3 [Ob.cells (sysC s)] (AV.eaddr ra)) = some (i6 x, [Ob.cells (sysC s)]))
  (h3 : decide (x ≤ w6 L) = false) : vexec Tryd.prog X call lf 0 noFg (loopN Tryd.f11 0) (ludS15 s L n k l ps C i0) = some (Ex.normal, (ludS17 s L n k x l ps C ra i0)) :=
  around_sound (ans := [(4, Ans.b true), (9, Ans.v (AV.eaddr ra)), (10, Ans.v (i6 x)), (12, Ans.b false)]) (by kernel_rfl) (And.intro h0 (And.intro h1 (And.intro h2 (And.intro h3 trivial))))
theorem lud_r0_fb (s : NSys) (L : Int) (n : Int) (k : Int) (l : List ByteArray) (ps : List Int) (C : Nat → Int) (X : Ext) (call : Caller) (lf : Nat) (i0 : Nat)
  (h0 : decide ((↑i0 : Int) < (↑(List.length ps) : Int)) = false) : vexec Tryd.prog X call lf 0 noFg (loopN Tryd.f11 0) (ludS15 s L n k l ps C i0) = some (Ex.exit 0, (ludS18 s L n k l ps C i0)) :=
  around_sound (ans := [(4, Ans.b false)]) (by kernel_rfl) (And.intro h0 trivial)
theorem lud_pflft (s : NSys) (L : Int) (n : Int) (k : Int) (l : List ByteArray) (ps : List Int) (C : Nat → Int) (X : Ext) (call : Caller) (lf : Nat) (i0 : Nat)
  (h0 : callv X call false 13 [AV.agg (sysC s)] [Ob.cells (sysC s)] 0 = some (bo true, [Ob.cells (sysC s)]))
  (h1 : callv X call false 22 [AV.agg (sysC s)] [Ob.cells (sysC s)] 0 = some (bo true, [Ob.cells (sysC s)]))
  (h2 : decide (w6 L > 9999) = false)
  (h3 : keep [Ob.cells (sysC s)] (binv Tryd.prog BinOp.rem 3 (i6 (w6 n)) (i6 (w6 (w6 L + 1)))) = some (i6 k, [Ob.cells (sysC s)]))
  (h4 : callv X call false 28 [AV.agg (sysC s), i6 (w6 L)] [Ob.cells (sysC s)] 0 = some (AV.tup [i6 0, i6 0, bo false], [Ob.cells (sysC s)]))
  (h5 : callv X call false 16 [AV.agg (sysC s), i6 k] [Ob.cells (sysC s)] 0 = some (AV.tup [lro (List.length l) 1 (List.map st l), i6 0], [Ob.cells (sysC s)]))
  (h6 : callv X call false 20 [AV.agg (sysC s), lro (List.length l) 1 (List.map st l)] [Ob.cells (sysC s)] 0 = some (lro (List.length ps) 1 (List.map (AV.int IntKind.i64) ps), [Ob.cells (sysC s)]))
  (h7 : vexec Tryd.prog X call lf 0 noFg (Code.loop (loopN Tryd.f11 0)) (ludS19 s L n k l ps) = some (Ex.exit 0, (ludS18 s L n k l ps C i0)))
  (h8 : callv X call false 15 [] [Ob.cells (sysC s)] 0 = some (bo true, [Ob.cells (sysC s)]))
  (h9 : (C i0 == 1) = true) : vbody Tryd.prog X call lf noFg Tryd.f11 (codeOf Tryd.f11) [AV.agg (sysC s), AV.int IntKind.u16 L, AV.int IntKind.u16 n] [] 0 = some (bo true, [Ob.cells (sysC s)]) :=
  along_sound (ans := [(5, Ans.v (bo true)), (11, Ans.v (bo true)), (22, Ans.b false), (29, Ans.v (i6 k)), (35, Ans.v (AV.tup [i6 0, i6 0, bo false])), (46, Ans.v (AV.tup [lro (List.length l) 1 (List.map st l), i6 0])), (55, Ans.v (lro (List.length ps) 1 (List.map (AV.int IntKind.i64) ps))), (61, Ans.l (Ex.exit 0) (ludS18 s L n k l ps C i0)), (66, Ans.v (bo true)), (77, Ans.b true)]) (by kernel_rfl) (And.intro h0 (And.intro h1 (And.intro h2 (And.intro h3 (And.intro h4 (And.intro h5 (And.intro h6 (And.intro h7 (And.intro h8 (And.intro h9 trivial))))))))))


/-! ### laws of Clash -/
def clashR (s : NSys) (n : Int) : Option (Nat × Nat) := if validL s then clashUp s (limO n + 1).toNat else none
def clashP : List AV → Option AV
  | [.agg cs, .int .i64 n] => match sysO cs with
    | some s => if okS s = true ∧ uS s = true ∧ -9223372036854775808 ≤ n then some (clashV (clashR s n)) else none
    | none => none
  | _ => none
def T20a : Vm.Spec := addS T19 28 fun vs => clashP (roAll vs)
def T20 : Vm.Spec := addS T20a 29 fun vs => clashP (roAll vs)
theorem pure_clashV (r : Option (Nat × Nat)) : (clashV r).pure = true := by cases r <;> rfl
theorem unfr_clashV (r : Option (Nat × Nat)) : unfr (clashV r) = clashV r := by cases r <;> rfl
theorem T20_ok [Fixed] (hX : ∀ l, ExtOk Tryd.prog (X15 l)) (hY : ∀ l, ExtOk Tryd.prog (X16 l)) : SpecOk Tryd.prog T20 := by
  have h19 := T19_ok hX hY
  have ha : SpecOk Tryd.prog T20a := by
    refine h19.addRo ?_
    intro vs r h
    unfold clashP at h
    split at h
    · rename_i n
      split at h
      · rename_i s hs
        split at h
        · rename_i hc
          obtain ⟨hk, hu, hn⟩ := hc
          simp only [Option.some.injEq] at h
          subst h
          rw [sysO_eq hs]
          have h22 : ∀ σ, callv (X16 []) (callerOf T19) false 22 [AV.agg (sysC s)] σ 0 = some (bo (validL s), σ) := by
            intro σ
            refine call16 (r := bo (validL s)) rfl rfl rfl (lt_sys s) ?_ rfl rfl
            show validS (roAll [AV.agg (sysC s)]) = _
            rw [roAll_sys]; simp only [validS, sysO_sysC, hk, if_true]
          cases hv : validL s with
          | true =>
            have e : clashR s n = clashUp s (limO n + 1).toNat := by unfold clashR; rw [if_pos hv]
            rw [e]
            rw [hv] at h22
            obtain ⟨σ', hrun⟩ := clash_spec (X := X16 []) (call := callerOf T19) (lf := 10002) hv hu (by omega) hn h22
              (fun m l σ hw => by
                have h19w : T19 16 [AV.agg (sysC s), i6 m] = some (.tup [lst l, i6 0]) := by
                  show wordsS (roAll [AV.agg (sysC s), i6 m]) = _
                  rw [ro_sysn]; simp only [wordsS, sysO_sysC, hk, if_true, hw]
                exact call16 (r := .tup [lst l, i6 0]) rfl rfl rfl (lt_sysn s m) h19w (by simp [AV.pure, AV.lt, AV.ltAll, lt_strs]) rfl)
              (fun l σ h1 h2 => join_call h1 h2)
            exact run_at (hY []) h19 rfl Tryd.func28 rfl (pure_clashV _) hrun
          | false =>
            have e : clashR s n = none := by unfold clashR; rw [if_neg (by rw [hv]; decide)]
            rw [e]
            rw [hv] at h22
            exact run_at (hY []) h19 rfl Tryd.func28 rfl rfl (noclash_p s n (X16 []) (callerOf T19) 1 (h22 _))
        · cases h
      · cases h
    · cases h
  refine ha.addRo ?_
  intro vs r h
  unfold clashP at h
  split at h
  · rename_i n
    split at h
    · rename_i s hs
      split at h
      · rename_i hc
        obtain ⟨hk, hu, hn⟩ := hc
        simp only [Option.some.injEq] at h
        subst h
        rw [sysO_eq hs]
        have h14 : ∀ σ, callv (X15 []) (callerOf T20a) false 14 [AV.agg (sysC s)] σ 0 = some (bo (validL s), σ) := by
          intro σ
          refine call_T (r := bo (validL s)) rfl rfl (lt_sys s) ?_ rfl rfl
          show validS (roAll [AV.agg (sysC s)]) = _
          rw [roAll_sys]; simp only [validS, sysO_sysC, hk, if_true]
        have h25 : ∀ σ, callv (X15 []) (callerOf T20a) false 25 [i6 n] σ 0 = some (i6 (limO n), σ) := fun σ => call_T (r := i6 (limO n)) rfl rfl rfl rfl rfl rfl
        cases hv : validL s with
        | true =>
          have e : clashR s n = clashUp s (limO n + 1).toNat := by unfold clashR; rw [if_pos hv]
          rw [e]
          rw [hv] at h14
          obtain ⟨σ', hrun⟩ := rclash_spec (X := X15 []) (call := callerOf T20a) (lf := 10002) hv (by omega) h25 h14
            (fun m l σ hl => by
              refine call_T (r := lst l) rfl rfl (lt_sysn s m) ?_ (lt_lst l) rfl
              show rwordsS 6 (roAll [AV.agg (sysC s), i6 m]) = _
              rw [ro_sysn]; simp only [rwordsS, sysO_sysC, hl]; rw [if_pos (good_of hv).base])
            (fun l m σ hl => by
              refine call_T (r := bo (textsL l m)) rfl rfl (lt_two (lt_lst l) (lt_lst m)) ?_ rfl rfl
              show textsS [lst l, lst m] = _
              simp only [textsS, isSO_of (is_lst l), isSO_of (is_lst m), hl, if_true])
          exact run_at (hX []) ha rfl Tryd.func29 rfl (pure_clashV _) hrun
        | false =>
          have e : clashR s n = none := by unfold clashR; rw [if_neg (by rw [hv]; decide)]
          rw [e]
          rw [hv] at h14
          obtain ⟨σ', hrun⟩ := rclashn_spec (X := X15 []) (call := callerOf T20a) (lf := 1) (s := s) (by omega) h25 h14
          exact run_at (hX []) ha rfl Tryd.func29 rfl rfl hrun
      · cases h
    · cases h
  · cases h
theorem at20 {f : FuncId} (h20 : f ≠ 20) (h21 : f ≠ 21) (h19 : f ≠ 19) (h28 : f ≠ 28) (h29 : f ≠ 29) {vs : List AV} {r : AV} (h : T13 f vs = some r) : T20 f vs = some r := by
  have h19 := at19 h20 h21 h19 h
  unfold T20 T20a addS
  rw [if_neg h29, if_neg h28]
  exact h19
section
variable {s : NSys} {dr : Bool} {σ : List Ob} {ro : Nat}
theorem g_small : callv (X15 []) (callerOf T20) dr 13 [AV.agg (sysC s)] σ ro = some (bo (smallL s), σ) := callv_at (fun _ _ h => at20 (by decide) (by decide) (by decide) (by decide) (by decide) h) (lt_sys s) rfl c_small
theorem g_valid (hk : okS s = true) : callv (X15 []) (callerOf T20) dr 22 [AV.agg (sysC s)] σ ro = some (bo (validL s), σ) := callv_at (fun _ _ h => at20 (by decide) (by decide) (by decide) (by decide) (by decide) h) (lt_sys s) rfl (c_valid hk)
theorem g_awake : callv (X15 []) (callerOf T20) dr 15 [] σ ro = some (bo true, σ) := callv_at (fun _ _ h => at20 (by decide) (by decide) (by decide) (by decide) (by decide) h) rfl rfl c_awake
theorem g_words (hk : okS s = true) {n c : Int} {ws : List ByteArray} (hw : wordsO s n = some (ws, c)) : callv (X15 []) (callerOf T20) dr 16 [AV.agg (sysC s), i6 n] σ ro = some (.tup [lst ws, i6 c], σ) := callv_at (fun _ _ h => at20 (by decide) (by decide) (by decide) (by decide) (by decide) h) (lt_sysn s n) rfl (c_words hk hw)
theorem g_texts {l m : List ByteArray} (hl : l.length ≤ 140737488355328) : callv (X15 []) (callerOf T20) dr 17 [lst l, lst m] σ ro = some (bo (textsL l m), σ) := callv_at (fun _ _ h => at20 (by decide) (by decide) (by decide) (by decide) (by decide) h) (lt_two (lt_lst l) (lt_lst m)) rfl (c_texts hl)
theorem g_parse (hk : okS s = true) {t : List ByteArray} (ht : t.length ≤ big) : callv (X15 []) (callerOf T20) dr 20 [AV.agg (sysC s), lst t] σ ro = some (lsi (parseA s t), σ) := by
  refine call_T (r := lsi (parseA s t)) rfl rfl (by simp [AV.ltAll, AV.lt, lt_sysC, lt_strs]) ?_ (lt_lsi _) rfl
  show parseQ (roAll [AV.agg (sysC s), lst t]) = _
  rw [roAll_pt]
  simp only [parseQ, sysO_sysC, strsX_lst]
  rw [if_pos ⟨hk, ht⟩]
theorem g_clash (hk : okS s = true) (hu : uS s = true) {n : Int} (hn : -9223372036854775808 ≤ n) : callv (X15 []) (callerOf T20) dr 28 [AV.agg (sysC s), i6 n] σ ro = some (clashV (clashR s n), σ) := by
  refine call_T (r := clashV (clashR s n)) rfl rfl (lt_sysn s n) ?_ (pure_clashV _) (unfr_clashV _)
  show clashP (roAll [AV.agg (sysC s), i6 n]) = _
  rw [ro_sysn]
  simp only [clashP, sysO_sysC]
  rw [if_pos ⟨hk, hu, hn⟩]
theorem g_rclash (hk : okS s = true) (hu : uS s = true) {n : Int} (hn : -9223372036854775808 ≤ n) : callv (X15 []) (callerOf T20) dr 29 [AV.agg (sysC s), i6 n] σ ro = some (clashV (clashR s n), σ) := by
  refine call_T (r := clashV (clashR s n)) rfl rfl (lt_sysn s n) ?_ (pure_clashV _) (unfr_clashV _)
  show clashP (roAll [AV.agg (sysC s), i6 n]) = _
  rw [ro_sysn]
  simp only [clashP, sysO_sysC]
  rw [if_pos ⟨hk, hu, hn⟩]
end
/-- NumeralClash, of words that a machine bears. -/
theorem law_clash [Fixed] (hX : ∀ l, ExtOk Tryd.prog (X15 l)) (hY : ∀ l, ExtOk Tryd.prog (X16 l)) {s : NSys} (hk : okS s = true) (hu : uS s = true) {n : Int} (n0 : -9223372036854775808 ≤ n) : CallAt Tryd.prog 10 [AV.agg (sysC s), i6 n] [] 0 (bo true) [] := by
  have run : ∀ {σ' : List Ob}, vbody Tryd.prog (X15 []) (callerOf T20) 1 noFg Tryd.f10 (codeOf Tryd.f10) [AV.agg (sysC s), i6 n] [] 0 = some (bo true, σ') → CallAt Tryd.prog 10 [AV.agg (sysC s), i6 n] [] 0 (bo true) [] :=
    fun h => run_at (hX []) (T20_ok hX hY) rfl Tryd.func10 rfl rfl h
  have hs := g_small (s := s) (dr := false) (σ := [Ob.cells (sysC s)]) (ro := 0)
  cases hsm : smallL s with
  | false =>
    rw [hsm] at hs
    exact run (lca_p s n (X15 []) (callerOf T20) 1 hs g_awake)
  | true =>
    rw [hsm] at hs
    by_cases h : n > 150
    · exact run (lcb_pt s n (X15 []) (callerOf T20) 1 hs (decide_eq_true h) g_awake)
    · have h1 := g_clash (dr := false) (σ := [Ob.cells (sysC s)]) (ro := 0) hk hu n0
      have h2 := g_rclash (dr := false) (σ := [Ob.cells (sysC s)]) (ro := 0) hk hu n0
      cases hr : clashR s n with
      | none =>
        rw [hr] at h1 h2
        exact run (lcd_pftt s n 0 0 (X15 []) (callerOf T20) 1 hs (decide_eq_false h) h1 h2 g_awake rfl rfl)
      | some ab =>
        obtain ⟨a, b⟩ := ab
        rw [hr] at h1 h2
        exact run (lcc_pftt s n (a : Int) (b : Int) (X15 []) (callerOf T20) 1 hs (decide_eq_false h) h1 h2 g_awake (by simp) (by simp))
/-! ### one reading only -/
def cntL (ps : List Int) (m : Int) (i : Nat) : Int := (((ps.take i).filter fun x => decide (x ≤ m)).length : Int)
theorem cntL_t {ps : List Int} {m x : Int} {i : Nat} (hx : ps[i]? = some x) (h : x ≤ m) : cntL ps m (i + 1) = cntL ps m i + 1 := by
  obtain ⟨hi, e⟩ := List.getElem?_eq_some_iff.1 hx
  subst e
  unfold cntL
  rw [List.take_add_one, List.getElem?_eq_getElem hi, List.filter_append]
  simp [h]
theorem cntL_f {ps : List Int} {m x : Int} {i : Nat} (hx : ps[i]? = some x) (h : ¬ x ≤ m) : cntL ps m (i + 1) = cntL ps m i := by
  obtain ⟨hi, e⟩ := List.getElem?_eq_some_iff.1 hx
  subst e
  unfold cntL
  rw [List.take_add_one, List.getElem?_eq_getElem hi, List.filter_append]
  simp [h]
theorem cntL_le (ps : List Int) (m : Int) (i : Nat) : cntL ps m i ≤ ps.length := by
  unfold cntL
  have h1 := List.length_filter_le (fun x => decide (x ≤ m)) (ps.take i)
  have h2 := List.length_take_le i ps
  have h3 : (ps.take i).length ≤ ps.length := by simp; omega
  omega
theorem cnt_one {ps : List Int} {m k : Int} (hs : ps.Pairwise (· < ·)) (hk : k ∈ ps) (hkm : k ≤ m) (hu : ∀ x ∈ ps, x ≤ m → x = k) : cntL ps m ps.length = 1 := by
  unfold cntL
  rw [List.take_length]
  have h1 : (ps.filter fun x => decide (x ≤ m)) = [k] := by
    refine eq_sorted (hs.filter _) (by simp) (fun x => ?_)
    rw [List.mem_filter, List.mem_singleton]
    constructor
    · rintro ⟨h, h2⟩
      exact hu x h (by simpa using h2)
    · intro e
      subst e
      exact ⟨hk, by simpa using hkm⟩
  rw [h1]
  rfl
abbrev D11 : List Nat := [61, 60, 69, 68, 67, 66, 65, 64, 63, 62, 59, 58, 57, 56]
theorem dead11 : (deadC (loopN Tryd.f11 0) ([], [])).2 = D11 := by kernel_rfl
section
variable {X : Ext} {call : Caller} {lf : Nat} {s : NSys} {L n k a b : Int} {l : List ByteArray} {ps : List Int}
theorem luc1_loop (hp : ps.length ≤ 1000000) (hlf : 1000001 < lf) : vexec Tryd.prog X call lf 0 noFg (Code.loop (loopN Tryd.f11 0)) (lucS4 s L n a b l ps) = some (Ex.exit 0, lucS3 s L n a b l ps (cntL ps 9999) ps.length) := by
  refine loop_run (P := Tryd.prog) (X := X) (call := call) (lf := lf) (ro := 0) (fg := noFg) dead11 (lucS0 s L n a b l ps (cntL ps 9999)) ps.length (by omega) (by kernel_rfl) ?_ (luc_r0_f s L n a b l ps (cntL ps 9999) X call lf ps.length (decide_eq_false (by omega))) (by simp)
  intro i hi
  have hx : ps[i]? = some ps[i] := List.getElem?_eq_getElem hi
  generalize ps[i] = x at hx
  obtain ⟨j1, j2⟩ := at_int (S := [Ob.cells (sysC s)]) hx
  have ei : w6 ((i : Int) + 1) = ((i + 1 : Nat) : Int) := by rw [w6_id (by omega) (by omega)]; omega
  have hc := cntL_le ps 9999 i
  have hc0 : 0 ≤ cntL ps 9999 i := by unfold cntL; omega
  by_cases h : x ≤ 9999
  · have ec : w6 (cntL ps 9999 i + 1) = cntL ps 9999 (i + 1) := by rw [cntL_t hx h, w6_id (by omega) (by omega)]
    refine ⟨_, luc_r0_tt s L n a b x l ps (cntL ps 9999) _ X call lf i (decide_eq_true (by omega)) j1 j2 (decide_eq_true h), ?_⟩
    unfold lucS1 lucS0
    rw [ei, ec]
    show _ = _
    kernel_rfl
  · have ec := cntL_f hx h
    refine ⟨_, luc_r0_tf s L n a b x l ps (cntL ps 9999) _ X call lf i (decide_eq_true (by omega)) j1 j2 (decide_eq_false h), ?_⟩
    unfold lucS2 lucS0
    simp only [ec]
    rw [ei]
    show _ = _
    kernel_rfl
theorem luc2_loop (hp : ps.length ≤ 1000000) (hlf : 1000001 < lf) : vexec Tryd.prog X call lf 0 noFg (Code.loop (loopN Tryd.f11 0)) (lucS9 s L n k a b l ps) = some (Ex.exit 0, lucS8 s L n k a b l ps (cntL ps (w6 L)) ps.length) := by
  refine loop_run (P := Tryd.prog) (X := X) (call := call) (lf := lf) (ro := 0) (fg := noFg) dead11 (lucS5 s L n k a b l ps (cntL ps (w6 L))) ps.length (by omega) (by kernel_rfl) ?_ (luc_r0_fb s L n k a b l ps (cntL ps (w6 L)) X call lf ps.length (decide_eq_false (by omega))) (by simp)
  intro i hi
  have hx : ps[i]? = some ps[i] := List.getElem?_eq_getElem hi
  generalize ps[i] = x at hx
  obtain ⟨j1, j2⟩ := at_int (S := [Ob.cells (sysC s)]) hx
  have ei : w6 ((i : Int) + 1) = ((i + 1 : Nat) : Int) := by rw [w6_id (by omega) (by omega)]; omega
  have hc := cntL_le ps (w6 L) i
  have hc0 : 0 ≤ cntL ps (w6 L) i := by unfold cntL; omega
  by_cases h : x ≤ (w6 L)
  · have ec : w6 (cntL ps (w6 L) i + 1) = cntL ps (w6 L) (i + 1) := by rw [cntL_t hx h, w6_id (by omega) (by omega)]
    refine ⟨_, luc_r0_ttb s L n k a b x l ps (cntL ps (w6 L)) _ X call lf i (decide_eq_true (by omega)) j1 j2 (decide_eq_true h), ?_⟩
    unfold lucS6 lucS5
    rw [ei, ec]
    show _ = _
    kernel_rfl
  · have ec := cntL_f hx h
    refine ⟨_, luc_r0_tfb s L n k a b x l ps (cntL ps (w6 L)) _ X call lf i (decide_eq_true (by omega)) j1 j2 (decide_eq_false h), ?_⟩
    unfold lucS7 lucS5
    simp only [ec]
    rw [ei]
    show _ = _
    kernel_rfl
theorem lud1_loop (hp : ps.length ≤ 1000000) (hlf : 1000001 < lf) : vexec Tryd.prog X call lf 0 noFg (Code.loop (loopN Tryd.f11 0)) (ludS14 s L n l ps) = some (Ex.exit 0, ludS13 s L n l ps (cntL ps 9999) ps.length) := by
  refine loop_run (P := Tryd.prog) (X := X) (call := call) (lf := lf) (ro := 0) (fg := noFg) dead11 (ludS10 s L n l ps (cntL ps 9999)) ps.length (by omega) (by kernel_rfl) ?_ (lud_r0_f s L n l ps (cntL ps 9999) X call lf ps.length (decide_eq_false (by omega))) (by simp)
  intro i hi
  have hx : ps[i]? = some ps[i] := List.getElem?_eq_getElem hi
  generalize ps[i] = x at hx
  obtain ⟨j1, j2⟩ := at_int (S := [Ob.cells (sysC s)]) hx
  have ei : w6 ((i : Int) + 1) = ((i + 1 : Nat) : Int) := by rw [w6_id (by omega) (by omega)]; omega
  have hc := cntL_le ps 9999 i
  have hc0 : 0 ≤ cntL ps 9999 i := by unfold cntL; omega
  by_cases h : x ≤ 9999
  · have ec : w6 (cntL ps 9999 i + 1) = cntL ps 9999 (i + 1) := by rw [cntL_t hx h, w6_id (by omega) (by omega)]
    refine ⟨_, lud_r0_tt s L n x l ps (cntL ps 9999) _ X call lf i (decide_eq_true (by omega)) j1 j2 (decide_eq_true h), ?_⟩
    unfold ludS11 ludS10
    rw [ei, ec]
    show _ = _
    kernel_rfl
  · have ec := cntL_f hx h
    refine ⟨_, lud_r0_tf s L n x l ps (cntL ps 9999) _ X call lf i (decide_eq_true (by omega)) j1 j2 (decide_eq_false h), ?_⟩
    unfold ludS12 ludS10
    simp only [ec]
    rw [ei]
    show _ = _
    kernel_rfl
theorem lud2_loop (hp : ps.length ≤ 1000000) (hlf : 1000001 < lf) : vexec Tryd.prog X call lf 0 noFg (Code.loop (loopN Tryd.f11 0)) (ludS19 s L n k l ps) = some (Ex.exit 0, ludS18 s L n k l ps (cntL ps (w6 L)) ps.length) := by
  refine loop_run (P := Tryd.prog) (X := X) (call := call) (lf := lf) (ro := 0) (fg := noFg) dead11 (ludS15 s L n k l ps (cntL ps (w6 L))) ps.length (by omega) (by kernel_rfl) ?_ (lud_r0_fb s L n k l ps (cntL ps (w6 L)) X call lf ps.length (decide_eq_false (by omega))) (by simp)
  intro i hi
  have hx : ps[i]? = some ps[i] := List.getElem?_eq_getElem hi
  generalize ps[i] = x at hx
  obtain ⟨j1, j2⟩ := at_int (S := [Ob.cells (sysC s)]) hx
  have ei : w6 ((i : Int) + 1) = ((i + 1 : Nat) : Int) := by rw [w6_id (by omega) (by omega)]; omega
  have hc := cntL_le ps (w6 L) i
  have hc0 : 0 ≤ cntL ps (w6 L) i := by unfold cntL; omega
  by_cases h : x ≤ (w6 L)
  · have ec : w6 (cntL ps (w6 L) i + 1) = cntL ps (w6 L) (i + 1) := by rw [cntL_t hx h, w6_id (by omega) (by omega)]
    refine ⟨_, lud_r0_ttb s L n k x l ps (cntL ps (w6 L)) _ X call lf i (decide_eq_true (by omega)) j1 j2 (decide_eq_true h), ?_⟩
    unfold ludS16 ludS15
    rw [ei, ec]
    show _ = _
    kernel_rfl
  · have ec := cntL_f hx h
    refine ⟨_, lud_r0_tfb s L n k x l ps (cntL ps (w6 L)) _ X call lf i (decide_eq_true (by omega)) j1 j2 (decide_eq_false h), ?_⟩
    unfold ludS17 ludS15
    simp only [ec]
    rw [ei]
    show _ = _
    kernel_rfl
end
theorem clash_no {s : NSys} : ∀ {N : Nat}, clashUp s N = none → ∀ i, i < N → clashAt s i = none
  | 0, _, i, hi => absurd hi (by omega)
  | N + 1, h, i, hi => by
    simp only [clashUp] at h
    cases hc : clashUp s N with
    | some r => rw [hc] at h; cases h
    | none =>
      rw [hc] at h
      simp only [Option.map_eq_none_iff] at h
      by_cases e : i = N
      · subst e; exact h
      · exact clash_no hc i (by omega)
theorem clash_yes {s : NSys} : ∀ {N a b : Nat}, clashUp s N = some (a, b) → b < N ∧ a < b ∧ sameB s a b = true
  | 0, _, _, h => by cases h
  | N + 1, a, b, h => by
    simp only [clashUp] at h
    cases hc : clashUp s N with
    | some r =>
      rw [hc] at h
      simp only [Option.some.injEq] at h
      subst h
      obtain ⟨h1, h2, h3⟩ := clash_yes hc
      exact ⟨by omega, h2, h3⟩
    | none =>
      rw [hc] at h
      simp only [Option.map_eq_some_iff, Prod.mk.injEq] at h
      obtain ⟨x, hx, rfl, rfl⟩ := h
      obtain ⟨h1, h2, _⟩ := List.find?_range_eq_some.1 hx
      exact ⟨by omega, List.mem_range.1 h2, h1⟩
/-- NumeralUnique, of words that a machine bears. -/
theorem law_unique [Fixed] (hX : ∀ l, ExtOk Tryd.prog (X15 l)) (hY : ∀ l, ExtOk Tryd.prog (X16 l)) {s : NSys} (hk : okS s = true) (hu : uS s = true) {L n : Int} (L0 : 0 ≤ L) (L1 : L ≤ 65535) (n0 : 0 ≤ n) (n1 : n ≤ 65535) : CallAt Tryd.prog 11 [AV.agg (sysC s), .int .u16 L, .int .u16 n] [] 0 (bo true) [] := by
  have run : ∀ {σ' : List Ob}, vbody Tryd.prog (X15 []) (callerOf T20) 1000002 noFg Tryd.f11 (codeOf Tryd.f11) [AV.agg (sysC s), .int .u16 L, .int .u16 n] [] 0 = some (bo true, σ') → CallAt Tryd.prog 11 [AV.agg (sysC s), .int .u16 L, .int .u16 n] [] 0 (bo true) [] :=
    fun h => run_at (hX []) (T20_ok hX hY) rfl Tryd.func11 rfl rfl h
  have hs := g_small (s := s) (dr := false) (σ := [Ob.cells (sysC s)]) (ro := 0)
  have hv := g_valid (dr := false) (σ := [Ob.cells (sysC s)]) (ro := 0) hk
  cases hsm : smallL s with
  | false =>
    rw [hsm] at hs
    exact run (lua_p s L n (X15 []) (callerOf T20) _ hs g_awake)
  | true =>
    rw [hsm] at hs
    cases hva : validL s with
    | false =>
      rw [hva] at hv
      exact run (lub_p s L n (X15 []) (callerOf T20) _ hs hv g_awake)
    | true =>
      rw [hva] at hv
      have hg := good_of hva
      have hwL : w6 L = L := w6_id (by omega) (by omega)
      have hwn : w6 n = n := w6_id (by omega) (by omega)
      have hr : clashR s (w6 L) = clashUp s (limO (w6 L) + 1).toNat := by unfold clashR; rw [if_pos hva]
      have hcl := g_clash (dr := false) (σ := [Ob.cells (sysC s)]) (ro := 0) hk hu (n := w6 L) (by omega)
      -- the numbers that are read back
      have read : ∀ (k m : Int), 0 ≤ k → k ≤ m → m ≤ 9999 → ∃ l, wordsO s k = some (l, 0) ∧ l.length ≤ big ∧ (parseL s l).length ≤ 1000000 ∧ callv (X15 []) (callerOf T20) false 20 [AV.agg (sysC s), lst l] [Ob.cells (sysC s)] 0 = some (lsi (parseL s l), [Ob.cells (sysC s)]) ∧
          (clashUp s (m + 1).toNat = none → cntL (parseL s l) m (parseL s l).length = 1) := by
        intro k m hk0 hkm hm
        obtain ⟨l, hl⟩ := say_all9 hg (n := k) hk0 (by omega)
        have hps : parseA s l = parseL s l := by unfold parseA; rw [if_pos hva]
        have hplen := parseA_len s l
        have hpar := g_parse (dr := false) (σ := [Ob.cells (sysC s)]) (ro := 0) hk (t := l) (say6_len hl)
        rw [hps] at hplen hpar
        refine ⟨l, words_of hva hk0 (by omega) hl, say6_len hl, hplen, hpar, fun hno => ?_⟩
        refine cnt_one (parse_sorted s l).1 ((mem_parse hg).2 ⟨hk0, by omega, hl⟩) hkm (fun x hx hxm => ?_)
        obtain ⟨x0, x9, hxs⟩ := (mem_parse hg).1 hx
        have hcn := clash_no hno
        have key : ∀ p q : Int, 0 ≤ p → p < q → q ≤ m → sayO s 6 p = some l → sayO s 6 q = some l → False := by
          intro p q hp hpq hqm h1 h2
          have := List.find?_range_eq_none.1 (hcn q.toNat (by omega)) p.toNat (by omega)
          unfold sameB at this
          rw [Int.toNat_of_nonneg hp, Int.toNat_of_nonneg (by omega), h1, h2] at this
          simp at this
        rcases Int.lt_trichotomy x k with h | h | h
        · exact (key x k x0 h hkm hxs hl).elim
        · exact h
        · exact (key k x hk0 h hxm hl hxs).elim
      have two : ∀ (a b : Nat) (m : Int), 0 ≤ m → m ≤ 9999 → clashUp s (m + 1).toNat = some (a, b) → ∃ x1 x2, wordsO s (a : Int) = some (x1, 0) ∧ wordsO s (b : Int) = some (x2, 0) ∧ (a : Int) < (b : Int) ∧ (b : Int) ≤ m ∧ callv (X15 []) (callerOf T20) false 17 [lst x1, lst x2] [Ob.cells (sysC s)] 0 = some (bo true, [Ob.cells (sysC s)]) := by
        intro a b m hm0 hm hc
        obtain ⟨h1, h2, h3⟩ := clash_yes hc
        obtain ⟨x1, hx1⟩ := say_all9 hg (n := (a : Int)) (by omega) (by omega)
        obtain ⟨x2, hx2⟩ := say_all9 hg (n := (b : Int)) (by omega) (by omega)
        have ht := g_texts (dr := false) (σ := [Ob.cells (sysC s)]) (ro := 0) (l := x1) (m := x2) (say6_len hx1)
        have e : textsL x1 x2 = true := by
          unfold sameB at h3
          rw [hx1, hx2] at h3
          exact textsL_iff.2 (by simpa using h3)
        rw [e] at ht
        exact ⟨x1, x2, words_of hva (by omega) (by omega) hx1, words_of hva (by omega) (by omega) hx2, by omega, by omega, ht⟩
      by_cases hbig : w6 L > 9999
      · have hlim : limO (w6 L) = 9999 := by unfold limO; rw [if_pos (by omega)]
        rw [hlim] at hr
        have hk0 : 0 ≤ (w6 n).tmod 10000 ∧ (w6 n).tmod 10000 ≤ 9999 := by
          rw [hwn, Int.tmod_eq_emod_of_nonneg n0]
          omega
        obtain ⟨l, r1, r2, r3, r4, r5⟩ := read _ 9999 hk0.1 hk0.2 (by omega)
        cases hc : clashUp s ((9999 : Int) + 1).toNat with
        | none =>
          rw [hr, hc] at hcl
          exact run (lud_ptlft s L n l (parseL s l) _ (X15 []) (callerOf T20) _ _ hs hv (decide_eq_true hbig) hcl (g_words hk r1) r4 (lud1_loop r3 (by omega)) g_awake (by rw [r5 hc]; rfl))
        | some ab =>
          obtain ⟨a, b⟩ := ab
          rw [hr, hc] at hcl
          obtain ⟨x1, x2, q1, q2, q3, q4, q5⟩ := two a b 9999 (by omega) (by omega) hc
          exact run (luc_ptlftt s L n a b l x1 x2 (parseL s l) _ (X15 []) (callerOf T20) _ _ hs hv (decide_eq_true hbig) hcl (g_words hk r1) r4 (luc1_loop r3 (by omega)) (g_words hk q1) (g_words hk q2) g_awake (decide_eq_true q3) (decide_eq_true q4) q5)
      · have hlim : limO (w6 L) = w6 L := by unfold limO; rw [if_neg (by omega)]
        rw [hlim] at hr
        have hw1 : w6 (w6 L + 1) = w6 L + 1 := w6_id (by omega) (by omega)
        have hne : w6 L + 1 ≠ 0 := by omega
        have hrem := rem_p (S := [Ob.cells (sysC s)]) (n := w6 n) hne
        rw [← hw1] at hrem
        have hk0 : 0 ≤ (w6 n).tmod (w6 (w6 L + 1)) ∧ (w6 n).tmod (w6 (w6 L + 1)) ≤ w6 L := by
          rw [hw1, hwn, Int.tmod_eq_emod_of_nonneg n0]
          have h1 := Int.emod_nonneg n hne
          have h2 := Int.emod_lt_of_pos n (show 0 < w6 L + 1 by omega)
          omega
        obtain ⟨l, r1, r2, r3, r4, r5⟩ := read _ (w6 L) hk0.1 hk0.2 (by omega)
        cases hc : clashUp s (w6 L + 1).toNat with
        | none =>
          rw [hr, hc] at hcl
          exact run (lud_pflft s L n _ l (parseL s l) _ (X15 []) (callerOf T20) _ _ hs hv (decide_eq_false hbig) hrem hcl (g_words hk r1) r4 (lud2_loop r3 (by omega)) g_awake (by rw [r5 hc]; rfl))
        | some ab =>
          obtain ⟨a, b⟩ := ab
          rw [hr, hc] at hcl
          obtain ⟨x1, x2, q1, q2, q3, q4, q5⟩ := two a b (w6 L) (by omega) (by omega) hc
          exact run (luc_pflftt s L n _ a b l x1 x2 (parseL s l) _ (X15 []) (callerOf T20) _ _ hs hv (decide_eq_false hbig) hrem hcl (g_words hk r1) r4 (luc2_loop r3 (by omega)) (g_words hk q1) (g_words hk q2) g_awake (decide_eq_true q3) (decide_eq_true q4) q5)
end Go.Proofs.Num
end
/- Numeral: where what is read is of little bulk, no part of it is large; rows of that kind. -/
section
open Go Go.Vm Go.Proofs Go.Proofs.YtdkoncfpkhapjaaDoor
open Go.RowKit Go.ChangeShapes Go.WideShapes Go.Lib Go.Shelf
namespace Go.Proofs.Num
section
variable {H : Type}
theorem bulk_pos (d : DataW H) : 1 ≤ Rows.uptoBulk d := by
  cases d with
  | lit l => cases l <;> simp [Rows.uptoBulk]
  | _ => simp [Rows.uptoBulk]
theorem bulk_len : ∀ (ds : List (DataW H)), ds.length ≤ Rows.uptoBulkAll ds
  | [] => by simp [Rows.uptoBulkAll]
  | d :: ds => by
    have h1 := bulk_pos d
    have h2 := bulk_len ds
    simp only [Rows.uptoBulkAll, List.length_cons]
    omega
theorem mul_le {a b M N : Nat} (h : a ≤ b) (hM : M ≤ N) : a * M ≤ N * b := by rw [Nat.mul_comm]; exact Nat.mul_le_mul hM h
variable (P : Program) (M : Nat) (tl : List TypeId) (hok : tl.all (okT P tl) = true) (hM : ∀ t ∈ tl, P.bytesOf t ≤ M) (h1 : 1 ≤ M)
include hok in
theorem okT_slice {t e : TypeId} (ht : t ∈ tl) (hu : P.underlying t = some (.slice e)) : e ∈ tl := by
  have h := List.all_eq_true.1 hok t ht
  unfold okT at h
  rw [hu] at h
  simp only [Bool.and_eq_true] at h
  exact memN_iff h.1.2
include hok in
theorem okT_struct {t : TypeId} {fs : Array Field} (ht : t ∈ tl) (hu : P.underlying t = some (.struct fs)) : ∀ x ∈ fs.toList.map (·.type), x ∈ tl := by
  have h := List.all_eq_true.1 hok t ht
  unfold okT at h
  rw [hu] at h
  simp only [Bool.and_eq_true, List.all_eq_true] at h
  intro x hx
  obtain ⟨f, hf, rfl⟩ := List.mem_map.1 hx
  exact memN_iff (h.1 f hf)
include hok in
theorem okT_other {t : TypeId} (ht : t ∈ tl) : (∀ e, P.underlying t ≠ some (.pointer e)) ∧ (∀ k e, P.underlying t ≠ some (.map k e)) ∧ (∀ n e, P.underlying t ≠ some (.array n e)) := by
  have h := List.all_eq_true.1 hok t ht
  unfold okT at h
  refine ⟨fun e hu => ?_, fun k e hu => ?_, fun n e hu => ?_⟩ <;> rw [hu] at h <;> simp at h
include hok hM h1
mutual
theorem weights_le : ∀ (d : DataW H) (t : TypeId), t ∈ tl → ∀ n ∈ DataW.weights P t d, n ≤ (2 * M) * Rows.uptoBulk d
  | .lit l, t, ht, n, hn => by
    cases l with
    | string bs =>
      simp only [DataW.weights, List.mem_singleton] at hn
      subst hn
      simp only [Rows.uptoBulk]
      have := Nat.mul_le_mul (show 1 ≤ 2 * M by omega) (Nat.le_refl (bs.length + 1))
      omega
    | _ => simp [DataW.weights] at hn
  | .nil, t, ht, n, hn => by simp [DataW.weights] at hn
  | .ptr d, t, ht, n, hn => by
    simp only [DataW.weights] at hn
    split at hn
    · rename_i e hu
      exact absurd hu ((okT_other P tl hok ht).1 e)
    · simp at hn
  | .slice elems spare, t, ht, n, hn => by
    simp only [DataW.weights] at hn
    split at hn
    · rename_i e hu
      have he := okT_slice P tl hok ht hu
      simp only [List.mem_cons, List.mem_append] at hn
      simp only [Rows.uptoBulk]
      rw [Nat.mul_add, Nat.mul_add]
      rcases hn with rfl | hn | hn
      · have k1 := bulk_len elems
        have k2 := bulk_len spare
        have k3 := mul_le (show elems.length + spare.length ≤ Rows.uptoBulkAll elems + Rows.uptoBulkAll spare by omega) (show P.bytesOf e ≤ 2 * M by have := hM e he; omega)
        rw [Nat.mul_add] at k3
        omega
      · have := weightsAll_le elems e he n hn
        omega
      · have := weightsAll_le spare e he n hn
        omega
    · simp at hn
  | .agg parts, t, ht, n, hn => by
    simp only [DataW.weights] at hn
    simp only [Rows.uptoBulk]
    rw [Nat.mul_add]
    split at hn
    · rename_i fs hu
      have := weightsEach_le parts _ (okT_struct P tl hok ht hu) n hn
      omega
    · rename_i k e hu
      exact absurd hu ((okT_other P tl hok ht).2.2 k e)
    · simp at hn
  | .iface _ _, t, ht, n, hn => by simp [DataW.weights] at hn
  | .map entries, t, ht, n, hn => by
    simp only [DataW.weights] at hn
    split at hn
    · rename_i k e hu
      exact absurd hu ((okT_other P tl hok ht).2.1 k e)
    · simp at hn
  | .held _, t, ht, n, hn => by simp [DataW.weights] at hn
theorem weightsAll_le : ∀ (ds : List (DataW H)) (e : TypeId), e ∈ tl → ∀ n ∈ DataW.weightsAll P e ds, n ≤ (2 * M) * Rows.uptoBulkAll ds
  | [], e, he, n, hn => by simp [DataW.weightsAll] at hn
  | d :: ds, e, he, n, hn => by
    simp only [DataW.weightsAll, List.mem_append] at hn
    simp only [Rows.uptoBulkAll]
    rw [Nat.mul_add]
    rcases hn with hn | hn
    · have := weights_le d e he n hn
      omega
    · have := weightsAll_le ds e he n hn
      omega
theorem weightsEach_le : ∀ (ds : List (DataW H)) (ts : List TypeId), (∀ t ∈ ts, t ∈ tl) → ∀ n ∈ DataW.weightsEach P ts ds, n ≤ (2 * M) * Rows.uptoBulkAll ds
  | [], ts, ht, n, hn => by cases ts <;> simp [DataW.weightsEach] at hn
  | d :: ds, [], ht, n, hn => by simp [DataW.weightsEach] at hn
  | d :: ds, t :: ts, ht, n, hn => by
    simp only [DataW.weightsEach, List.mem_append] at hn
    simp only [Rows.uptoBulkAll]
    rw [Nat.mul_add]
    rcases hn with hn | hn
    · have := weights_le d t (ht t (List.mem_cons_self ..)) n hn
      omega
    · have := weightsEach_le ds ts (fun u hu => ht u (List.mem_cons_of_mem _ hu)) n hn
      omega
end
end
theorem bytes_all : (tys.all fun t => Nat.ble (Tryd.prog.bytesOf t) 4096) = true := by kernel_rfl
/-- The bound of the second form's words. -/
abbrev bulkB : Nat := 8589934592
theorem small_weights {H : Type} {ts : List TypeId} {ds : List (DataW H)} (ht : ∀ t ∈ ts, t ∈ tys) (h : Rows.uptoSmall H ds = true) : (DataW.weightsEach Tryd.prog ts ds).all (· ≤ bulkB) = true := by
  rw [List.all_eq_true]
  intro n hn
  have h1 := weightsEach_le Tryd.prog 4096 tys tys_ok (fun t ht => Nat.le_of_ble_eq_true (List.all_eq_true.1 bytes_all t ht)) (by omega) ds ts ht n hn
  simp only [Rows.uptoSmall, decide_eq_true_eq] at h
  have h2 : (2 * 4096) * Rows.uptoBulkAll ds ≤ (2 * 4096) * 1048576 := Nat.mul_le_mul_left _ h
  simp only [decide_eq_true_eq]
  have : bulkB = 8589934592 := rfl
  omega
theorem bulk_small : Nat.ble 8589934592 140737488351232 = true := by kernel_rfl
set_option maxRecDepth 100000 in
theorem arg_sysU {v : AV} (h : ArgIs Tryd.prog bulkB 24 v) : ∃ s : NSys, v = .agg (sysC s) ∧ okS s = true ∧ uS s = true := by
  have hB : (8589934592 : Nat) ≤ 140737488351232 := Nat.le_of_ble_eq_true bulk_small
  obtain ⟨s, rfl, hk, hw⟩ := arg_sysB (B := 8589934592) hB h
  refine ⟨s, rfl, hk, ?_⟩
  unfold uS
  rw [List.all_eq_true]
  intro w hm
  refine Nat.ble_eq_true_of_le (hw w ?_)
  simp only [vocL, List.append_assoc, List.mem_append] at hm
  rcases hm with h | h | h | h
  · exact .inl h
  · exact .inr (.inl h)
  · unfold joinWords at h
    split at h
    · simp at h
    · simp only [List.mem_singleton] at h
      exact .inr (.inr (.inl h))
  · split at h
    · simp at h
    · simp only [List.mem_singleton] at h
      exact .inr (.inr (.inr h))
set_option maxRecDepth 100000 in
/-- The second form's frame: the tables laid, and little bulk. -/
theorem upto_returns {H : Type} {enc : TypeId × Value → H} {os : Os} {f : FuncId} {fn : Func} {s : ChangeSpec} (F : Stop.Interp) (hv : s.vars = []) (started : os.Started) (noInit : Tryd.checked.prog.inits.idxOf? f = none) (hfn : Tryd.checked.prog.funcs[f]? = some fn)
    (args0 : Array Value)
    (hvar : (((wit os)).forCall (fun _ _ => 0) ⟨#[], args0, []⟩).variablesB Tryd.checked.prog = true)
    (hr : ((((wit os)).forCall (fun _ _ => 0) ⟨#[], args0, []⟩).heap.toList.drop Tryd.checked.prog.globals.size).take ((begin Tryd.checked.prog (fun _ _ => 0) default).world.heap.size - Tryd.checked.prog.globals.size) =
      (begin Tryd.checked.prog (fun _ _ => 0) default).world.heap.toList.drop Tryd.checked.prog.globals.size)
    (hok : Input.okWideB Tryd.checked.prog (((wit os)).forCall (fun _ _ => 0) ⟨#[], args0, []⟩) f ⟨#[], args0, []⟩ = true)
    (hx : (match DataW.whole enc Tryd.checked.prog (((wit os)).forCall (fun _ _ => 0) ⟨#[], args0, []⟩).memory fn.params.toList s.vars false args0.toList 8 with | some x => Rows.uptoSmall H (x.1 ++ x.2.1) | none => false) = true)
    (hsz : s.sizedB enc Tryd.checked.prog fn false (((wit os)).forCall (fun _ _ => 0) ⟨#[], args0, []⟩).memory args0 8 = true)
    (contract : ∀ (W : World) (base : Nat) (args : Array Value) (ds gs : List (DataW H)) (before : List MemPlace),
      (∀ (j : Nat) t v, fn.params[j]? = some t → args[j]? = some v → Value.okWide Tryd.checked.prog W .any base t v) →
      DataW.Whole enc Tryd.checked.prog fn.params.toList s.vars false W args.toList ds gs before →
      Rows.uptoSmall H (ds ++ gs) = true → laidMetH Tryd.prog laidL W →
      Calls Tryd.checked.prog f args W fun e W' => ∃ v, e = .returned v ∧ s.post enc Tryd.checked.prog fn false true false false W args v W') :
    ReturnsInHanded {} Tryd.checked os f .any (fun w args => ((Rows.OpenSpec.upto s).pre enc Tryd.prog fn [] false w args ∧ laidMetH Tryd.prog laidL w) ∧ sizedMet enc Tryd.prog fn (Rows.OpenSpec.upto s) false w args) (((Rows.OpenSpec.upto s).at F).post enc Tryd.prog fn false true false false) := by
  refine returnsInHanded_of_calls own started noInit ?_ ?_
  · refine ⟨wit os, fun _ _ => 0, ⟨#[], args0, []⟩, World.laidAll_os _ _ _, World.shaped_of_B hvar hr, rfl, (Input.okWide_of_okWideB hok).2, ⟨⟨?_, laidH (wit_met os _)⟩, ?_⟩, ?_⟩
    · split at hx
      · rename_i x hw
        exact (OpenSpec.pre_some (s := Rows.OpenSpec.upto s) (k := Rows.uptoSmall) rfl [] false _ _).2 ⟨x.1, x.2.1, x.2.2, DataW.Whole_of_whole hw, rfl, hx⟩
      · cases hx
    · exact sizedMet_of_sizedB hsz
    · simp only [Assume.holds]
      exact ⟨by simp, by simp, fun h => by simp at h, by simp, by simp⟩
  · intro w tape i _ _ _ hok hpre hholds
    obtain ⟨_, _, _, fn', hfn', _, _, _, _, hval⟩ := hok
    have e : fn' = fn := Option.some.inj (hfn'.symm.trans hfn)
    subst e
    obtain ⟨⟨hp, hl⟩, _⟩ := hpre
    obtain ⟨ds, gs, before, hw, _, hkk'⟩ := (OpenSpec.pre_some (s := Rows.OpenSpec.upto s) (k := Rows.uptoSmall) rfl [] false _ _).1 hp
    have hw' := DataW.Whole.of_heap (w' := w.forCall tape i) (by rfl) hw
    have hl' : laidMetH Tryd.prog laidL (w.forCall tape i) := hl.of_heap (by rfl)
    refine (contract (w.forCall tape i) w.heap.size i.args ds gs before hval hw' hkk' hl').mono fun e W' ⟨v, he, hpo⟩ => ?_
    subst he
    exact ChangeSpec.post_blind hpo
end Go.Proofs.Num
end
