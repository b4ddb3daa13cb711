/- Part 6 of the texts of this claim: the evaluator, and what it says of the program's functions. -/
import Derived.Test.YtdkoncfpkhapjaaDoorXE
import Derived.Shelf.Sort.Plain
import Derived.Shelf.Slices.In.SortNone
import Derived.Shelf.Slices.CompactI
import Derived.Shelf.Slices.CompactS
import Derived.Shelf.Strings.OnBuilder
import Derived.Test.YtdkoncfpkhapjaaDoorProg
import Derived.Test.YtdkoncfpkhapjaaDoorXB
import Derived.Sort.Row
import Derived.Sort.Grow
import Derived.Lib.SlicesCompact
set_option linter.unusedSectionVars false
set_option linter.unusedVariables false
set_option linter.unusedSimpArgs false
set_option linter.constructorNameAsVariable false
/- Numeral: numbers, walked. -/
section
open Go Go.Vm Go.Proofs
namespace Go.Proofs.Num
def fg39 : Nat → List Nat
  | 9 => [8, 12, 13, 14, 15, 16, 17, 18, 19, 20, 21, 22, 23, 24, 25, 26, 27, 28, 29, 30, 31, 32, 33, 34, 35]
  | _ => []

def numS14 (s : NSys) (t : List ByteArray) (n : Int) (o : Nat → AV) (S : Nat → List Ob) (i0 : Nat) : St :=
  stOf 76 [8, 19, 20, 21, 22, 23, 24, 25, 26, 27, 28, 29, 30, 31, 32, 33, 34, 35] [(0, AV.agg (sysC s)), (1, lro (List.length t) 1 (List.map st t)), (2, i6 n), (3, AV.ref 0 0), (6, AV.list LK.nil 0 0 []), (7, o i0), (12, lro (List.length t) 1 (List.map st t)), (13, i6 (↑(List.length t) : Int)), (14, bo true), (15, AV.ref 0 0), (16, AV.ref 0 0), (17, i6 (NSys.base s)), (18, i6 (↑i0 : Int))] (Ob.cells (sysC s) :: S i0)
def numS15 (s : NSys) (t : List ByteArray) (n : Int) (ra : List AV) (rb : List AV) (x : ByteArray) (y : ByteArray) (o : Nat → AV) (oA : AV) (SA : List Ob) (i0 : Nat) : St :=
  stOf 76 [] [(0, AV.agg (sysC s)), (1, lro (List.length t) 1 (List.map st t)), (2, i6 n), (3, AV.ref 0 0), (6, AV.list LK.nil 0 0 []), (7, oA), (8, i6 (↑i0 : Int)), (12, lro (List.length t) 1 (List.map st t)), (13, i6 (↑(List.length t) : Int)), (14, bo true), (15, AV.ref 0 0), (16, AV.ref 0 0), (17, i6 (NSys.base s)), (18, i6 (w6 ((↑i0 : Int) + 1))), (19, bo true), (20, i6 (↑i0 : Int)), (21, AV.ref 0 0), (22, AV.ref 0 1), (23, lro (List.length (NSys.digits s)) 1 (List.map st (NSys.digits s))), (24, i6 (↑i0 : Int)), (25, AV.eaddr ra), (26, st x), (27, lro (List.length t) 1 (List.map st t)), (28, AV.eaddr rb), (29, st y), (30, bo true), (31, o i0), (32, i6 (↑i0 : Int)), (33, AV.list LK.clip 1 1 [i6 (↑i0 : Int)]), (34, oA), (35, i6 (w6 ((↑i0 : Int) + 1)))] (Ob.cells (sysC s) :: SA)
def numS16 (s : NSys) (t : List ByteArray) (n : Int) (ra : List AV) (rb : List AV) (x : ByteArray) (y : ByteArray) (o : Nat → AV) (S : Nat → List Ob) (i0 : Nat) : St :=
  stOf 76 [31, 32, 33, 34] [(0, AV.agg (sysC s)), (1, lro (List.length t) 1 (List.map st t)), (2, i6 n), (3, AV.ref 0 0), (6, AV.list LK.nil 0 0 []), (7, o i0), (8, i6 (↑i0 : Int)), (12, lro (List.length t) 1 (List.map st t)), (13, i6 (↑(List.length t) : Int)), (14, bo true), (15, AV.ref 0 0), (16, AV.ref 0 0), (17, i6 (NSys.base s)), (18, i6 (w6 ((↑i0 : Int) + 1))), (19, bo true), (20, i6 (↑i0 : Int)), (21, AV.ref 0 0), (22, AV.ref 0 1), (23, lro (List.length (NSys.digits s)) 1 (List.map st (NSys.digits s))), (24, i6 (↑i0 : Int)), (25, AV.eaddr ra), (26, st x), (27, lro (List.length t) 1 (List.map st t)), (28, AV.eaddr rb), (29, st y), (30, bo false), (35, i6 (w6 ((↑i0 : Int) + 1)))] (Ob.cells (sysC s) :: S i0)
def numS17 (s : NSys) (t : List ByteArray) (n : Int) (o : Nat → AV) (S : Nat → List Ob) (i0 : Nat) : St :=
  stOf 76 [8, 20, 21, 22, 23, 24, 25, 26, 27, 28, 29, 30, 31, 32, 33, 34, 35] [(0, AV.agg (sysC s)), (1, lro (List.length t) 1 (List.map st t)), (2, i6 n), (3, AV.ref 0 0), (6, AV.list LK.nil 0 0 []), (7, o i0), (12, lro (List.length t) 1 (List.map st t)), (13, i6 (↑(List.length t) : Int)), (14, bo true), (15, AV.ref 0 0), (16, AV.ref 0 0), (17, i6 (NSys.base s)), (18, i6 (↑i0 : Int)), (19, bo false)] (Ob.cells (sysC s) :: S i0)
def numS18 (s : NSys) (t : List ByteArray) (n : Int) (pw : Nat → Int) (oi : Nat → AV) (Si : Nat → List Ob) (i1 : Nat) (i2 : Nat) : St :=
  stOf 76 [8, 12, 13, 14, 15, 16, 17, 18, 19, 20, 21, 22, 23, 24, 25, 26, 27, 28, 29, 30, 31, 32, 33, 34, 35, 45, 46, 47, 48, 49, 50, 51, 52, 53, 54, 55, 56, 57, 58, 59, 60, 61, 62, 63, 64, 65, 66, 67, 68, 69, 70, 71, 72, 73, 74] [(0, AV.agg (sysC s)), (1, lro (List.length t) 1 (List.map st t)), (2, i6 n), (3, AV.ref 0 0), (6, AV.list LK.nil 0 0 []), (7, oi i2), (9, i6 (w6 (pw i1 * NSys.base s))), (10, i6 (↑i1 : Int)), (11, i6 ((↑i2 : Int) + 1)), (36, i6 n), (37, i6 (↑i1 : Int)), (38, bo true), (39, i6 (↑i1 : Int)), (40, i6 (pw i1)), (41, AV.ref 0 0), (42, AV.ref 0 0), (43, i6 (NSys.base s)), (44, i6 (w6 (pw i1 * NSys.base s)))] (Ob.cells (sysC s) :: Si i2)
def numS19 (s : NSys) (t : List ByteArray) (n : Int) (pw : Nat → Int) (oi : Nat → AV) (r1 : List Int) (r2 : List Int) (oB : AV) (oC : AV) (SC : List Ob) (i1 : Nat) (i2 : Nat) : St :=
  stOf 76 [8, 12, 13, 14, 15, 16, 17, 18, 19, 20, 21, 22, 23, 24, 25, 26, 27, 28, 29, 30, 31, 32, 33, 34, 35, 74] [(0, AV.agg (sysC s)), (1, lro (List.length t) 1 (List.map st t)), (2, i6 n), (3, AV.ref 0 0), (6, AV.list LK.nil 0 0 []), (7, oC), (9, i6 (w6 (pw i1 * NSys.base s))), (10, i6 (↑i1 : Int)), (11, i6 (w6 ((↑i2 : Int) + 1 + 1))), (36, i6 n), (37, i6 (↑i1 : Int)), (38, bo true), (39, i6 (↑i1 : Int)), (40, i6 (pw i1)), (41, AV.ref 0 0), (42, AV.ref 0 0), (43, i6 (NSys.base s)), (44, i6 (w6 (pw i1 * NSys.base s))), (45, i6 ((↑i2 : Int) + 1)), (46, AV.ref 0 0), (47, AV.ref 0 0), (48, i6 (NSys.base s)), (49, bo true), (50, bo true), (51, i6 ((↑i2 : Int) + 1)), (52, i6 (w6 (pw i1 * NSys.base s))), (53, i6 (w6 (((↑i2 : Int) + 1) * w6 (pw i1 * NSys.base s)))), (54, bo true), (55, bo true), (56, i6 ((↑i2 : Int) + 1)), (57, i6 (w6 ((↑i2 : Int) + 1 + 1))), (58, oi i2), (59, AV.agg (sysC s)), (60, lro (List.length t) 1 (List.map st t)), (61, i6 ((↑i2 : Int) + 1)), (62, i6 (w6 (pw i1 * NSys.base s))), (63, i6 (↑i1 : Int)), (64, lro (List.length r1) 1 (List.map (AV.int IntKind.i64) r1)), (65, oB), (66, oB), (67, AV.agg (sysC s)), (68, lro (List.length t) 1 (List.map st t)), (69, i6 ((↑i2 : Int) + 1)), (70, i6 (w6 (pw i1 * NSys.base s))), (71, i6 (↑i1 : Int)), (72, lro (List.length r2) 1 (List.map (AV.int IntKind.i64) r2)), (73, oC)] (Ob.cells (sysC s) :: SC)
def numS20 (s : NSys) (t : List ByteArray) (n : Int) (pw : Nat → Int) (oi : Nat → AV) (Si : Nat → List Ob) (i1 : Nat) (i2 : Nat) : St :=
  stOf 76 [8, 12, 13, 14, 15, 16, 17, 18, 19, 20, 21, 22, 23, 24, 25, 26, 27, 28, 29, 30, 31, 32, 33, 34, 35, 56, 57, 58, 59, 60, 61, 62, 63, 64, 65, 66, 67, 68, 69, 70, 71, 72, 73, 74] [(0, AV.agg (sysC s)), (1, lro (List.length t) 1 (List.map st t)), (2, i6 n), (3, AV.ref 0 0), (6, AV.list LK.nil 0 0 []), (7, oi i2), (9, i6 (w6 (pw i1 * NSys.base s))), (10, i6 (↑i1 : Int)), (11, i6 ((↑i2 : Int) + 1)), (36, i6 n), (37, i6 (↑i1 : Int)), (38, bo true), (39, i6 (↑i1 : Int)), (40, i6 (pw i1)), (41, AV.ref 0 0), (42, AV.ref 0 0), (43, i6 (NSys.base s)), (44, i6 (w6 (pw i1 * NSys.base s))), (45, i6 ((↑i2 : Int) + 1)), (46, AV.ref 0 0), (47, AV.ref 0 0), (48, i6 (NSys.base s)), (49, bo true), (50, bo true), (51, i6 ((↑i2 : Int) + 1)), (52, i6 (w6 (pw i1 * NSys.base s))), (53, i6 (w6 (((↑i2 : Int) + 1) * w6 (pw i1 * NSys.base s)))), (54, bo false), (55, bo false)] (Ob.cells (sysC s) :: Si i2)
def numS21 (s : NSys) (t : List ByteArray) (n : Int) (pw : Nat → Int) (oo : Nat → AV) (So : Nat → List Ob) (i1 : Nat) : St :=
  stOf 76 [8, 12, 13, 14, 15, 16, 17, 18, 19, 20, 21, 22, 23, 24, 25, 26, 27, 28, 29, 30, 31, 32, 33, 34, 35, 45, 46, 47, 48, 49, 50, 51, 52, 53, 54, 55, 56, 57, 58, 59, 60, 61, 62, 63, 64, 65, 66, 67, 68, 69, 70, 71, 72, 73, 74] [(0, AV.agg (sysC s)), (1, lro (List.length t) 1 (List.map st t)), (2, i6 n), (3, AV.ref 0 0), (6, AV.list LK.nil 0 0 []), (7, oo i1), (9, i6 (w6 (pw i1 * NSys.base s))), (10, i6 (↑i1 : Int)), (11, i6 1), (36, i6 n), (37, i6 (↑i1 : Int)), (38, bo true), (39, i6 (↑i1 : Int)), (40, i6 (pw i1)), (41, AV.ref 0 0), (42, AV.ref 0 0), (43, i6 (NSys.base s)), (44, i6 (w6 (pw i1 * NSys.base s)))] (Ob.cells (sysC s) :: So i1)
def numS22 (s : NSys) (t : List ByteArray) (n : Int) (pw : Nat → Int) (oo : Nat → AV) (So : Nat → List Ob) (i1 : Nat) : St :=
  stOf 76 [8, 10, 11, 12, 13, 14, 15, 16, 17, 18, 19, 20, 21, 22, 23, 24, 25, 26, 27, 28, 29, 30, 31, 32, 33, 34, 35, 38, 39, 40, 41, 42, 43, 44, 45, 46, 47, 48, 49, 50, 51, 52, 53, 54, 55, 56, 57, 58, 59, 60, 61, 62, 63, 64, 65, 66, 67, 68, 69, 70, 71, 72, 73, 74] [(0, AV.agg (sysC s)), (1, lro (List.length t) 1 (List.map st t)), (2, i6 n), (3, AV.ref 0 0), (6, AV.list LK.nil 0 0 []), (7, oo i1), (9, i6 (pw i1)), (36, i6 n), (37, i6 (↑i1 : Int))] (Ob.cells (sysC s) :: So i1)
def numS23 (s : NSys) (t : List ByteArray) (n : Int) (pw : Nat → Int) (oi : Nat → AV) (Si : Nat → List Ob) (i1 : Nat) (i2 : Nat) : St :=
  stOf 76 [8, 12, 13, 14, 15, 16, 17, 18, 19, 20, 21, 22, 23, 24, 25, 26, 27, 28, 29, 30, 31, 32, 33, 34, 35, 56, 57, 58, 59, 60, 61, 62, 63, 64, 65, 66, 67, 68, 69, 70, 71, 72, 73] [(0, AV.agg (sysC s)), (1, lro (List.length t) 1 (List.map st t)), (2, i6 n), (3, AV.ref 0 0), (6, AV.list LK.nil 0 0 []), (7, oi i2), (9, i6 (w6 (pw i1 * NSys.base s))), (10, i6 (↑i1 : Int)), (11, i6 ((↑i2 : Int) + 1)), (36, i6 n), (37, i6 (w6 ((↑i1 : Int) + 1))), (38, bo true), (39, i6 (↑i1 : Int)), (40, i6 (pw i1)), (41, AV.ref 0 0), (42, AV.ref 0 0), (43, i6 (NSys.base s)), (44, i6 (w6 (pw i1 * NSys.base s))), (45, i6 ((↑i2 : Int) + 1)), (46, AV.ref 0 0), (47, AV.ref 0 0), (48, i6 (NSys.base s)), (49, bo true), (50, bo true), (51, i6 ((↑i2 : Int) + 1)), (52, i6 (w6 (pw i1 * NSys.base s))), (53, i6 (w6 (((↑i2 : Int) + 1) * w6 (pw i1 * NSys.base s)))), (54, bo false), (55, bo false), (74, i6 (w6 ((↑i1 : Int) + 1)))] (Ob.cells (sysC s) :: Si i2)
def numS24 (s : NSys) (t : List ByteArray) (n : Int) (pw : Nat → Int) (oi : Nat → AV) (Si : Nat → List Ob) (i1 : Nat) (i2 : Nat) : St :=
  stOf 76 [8, 12, 13, 14, 15, 16, 17, 18, 19, 20, 21, 22, 23, 24, 25, 26, 27, 28, 29, 30, 31, 32, 33, 34, 35, 56, 57, 58, 59, 60, 61, 62, 63, 64, 65, 66, 67, 68, 69, 70, 71, 72, 73, 74] [(0, AV.agg (sysC s)), (1, lro (List.length t) 1 (List.map st t)), (2, i6 n), (3, AV.ref 0 0), (6, AV.list LK.nil 0 0 []), (7, oi i2), (9, i6 (w6 (pw i1 * NSys.base s))), (10, i6 (↑i1 : Int)), (11, i6 ((↑i2 : Int) + 1)), (36, i6 n), (37, i6 (↑i1 : Int)), (38, bo true), (39, i6 (↑i1 : Int)), (40, i6 (pw i1)), (41, AV.ref 0 0), (42, AV.ref 0 0), (43, i6 (NSys.base s)), (44, i6 (w6 (pw i1 * NSys.base s))), (45, i6 ((↑i2 : Int) + 1)), (46, AV.ref 0 0), (47, AV.ref 0 0), (48, i6 (NSys.base s)), (49, bo false), (50, bo false), (55, bo false)] (Ob.cells (sysC s) :: Si i2)
def numS25 (s : NSys) (t : List ByteArray) (n : Int) (pw : Nat → Int) (oi : Nat → AV) (Si : Nat → List Ob) (i1 : Nat) (i2 : Nat) : St :=
  stOf 76 [8, 12, 13, 14, 15, 16, 17, 18, 19, 20, 21, 22, 23, 24, 25, 26, 27, 28, 29, 30, 31, 32, 33, 34, 35, 56, 57, 58, 59, 60, 61, 62, 63, 64, 65, 66, 67, 68, 69, 70, 71, 72, 73] [(0, AV.agg (sysC s)), (1, lro (List.length t) 1 (List.map st t)), (2, i6 n), (3, AV.ref 0 0), (6, AV.list LK.nil 0 0 []), (7, oi i2), (9, i6 (w6 (pw i1 * NSys.base s))), (10, i6 (↑i1 : Int)), (11, i6 ((↑i2 : Int) + 1)), (36, i6 n), (37, i6 (w6 ((↑i1 : Int) + 1))), (38, bo true), (39, i6 (↑i1 : Int)), (40, i6 (pw i1)), (41, AV.ref 0 0), (42, AV.ref 0 0), (43, i6 (NSys.base s)), (44, i6 (w6 (pw i1 * NSys.base s))), (45, i6 ((↑i2 : Int) + 1)), (46, AV.ref 0 0), (47, AV.ref 0 0), (48, i6 (NSys.base s)), (49, bo false), (50, bo false), (55, bo false), (74, i6 (w6 ((↑i1 : Int) + 1)))] (Ob.cells (sysC s) :: Si i2)
def numS26 (s : NSys) (t : List ByteArray) (n : Int) (pw : Nat → Int) (oo : Nat → AV) (So : Nat → List Ob) (i1 : Nat) : St :=
  stOf 76 [8, 10, 11, 12, 13, 14, 15, 16, 17, 18, 19, 20, 21, 22, 23, 24, 25, 26, 27, 28, 29, 30, 31, 32, 33, 34, 35, 39, 40, 41, 42, 43, 44, 45, 46, 47, 48, 49, 50, 51, 52, 53, 54, 55, 56, 57, 58, 59, 60, 61, 62, 63, 64, 65, 66, 67, 68, 69, 70, 71, 72, 73, 74] [(0, AV.agg (sysC s)), (1, lro (List.length t) 1 (List.map st t)), (2, i6 n), (3, AV.ref 0 0), (6, AV.list LK.nil 0 0 []), (7, oo i1), (9, i6 (pw i1)), (36, i6 n), (37, i6 (↑i1 : Int)), (38, bo false)] (Ob.cells (sysC s) :: So i1)
def numS27 (s : NSys) (t : List ByteArray) (n : Int) : St :=
  stOf 76 [] [(0, AV.agg (sysC s)), (1, lro (List.length t) 1 (List.map st t)), (2, i6 n), (3, AV.ref 0 0), (6, AV.list LK.nil 0 0 []), (7, AV.list LK.nil 0 0 []), (12, lro (List.length t) 1 (List.map st t)), (13, i6 (↑(List.length t) : Int)), (14, bo true), (15, AV.ref 0 0), (16, AV.ref 0 0), (17, i6 (NSys.base s)), (18, i6 0)] [Ob.cells (sysC s)]
def numS28 (s : NSys) (t : List ByteArray) (n : Int) (o : Nat → AV) (S : Nat → List Ob) (i0 : Nat) : St :=
  stOf 76 [8, 12, 13, 14, 15, 16, 17, 18, 19, 20, 21, 22, 23, 24, 25, 26, 27, 28, 29, 30, 31, 32, 33, 34, 35] [(0, AV.agg (sysC s)), (1, lro (List.length t) 1 (List.map st t)), (2, i6 n), (3, AV.ref 0 0), (6, AV.list LK.nil 0 0 []), (7, o i0), (9, i6 1), (36, i6 n), (37, i6 0)] (Ob.cells (sysC s) :: S i0)
def numS29 (s : NSys) (t : List ByteArray) (n : Int) : St :=
  stOf 76 [8, 12, 13, 14, 15, 16, 17, 18, 19, 20, 21, 22, 23, 24, 25, 26, 27, 28, 29, 30, 31, 32, 33, 34, 35] [(0, AV.agg (sysC s)), (1, lro (List.length t) 1 (List.map st t)), (2, i6 n), (3, AV.ref 0 0), (6, AV.list LK.nil 0 0 []), (7, AV.list LK.nil 0 0 []), (9, i6 1), (36, i6 n), (37, i6 0)] [Ob.cells (sysC s)]
theorem num_r0_tt (s : NSys) (t : List ByteArray) (n : Int) (ra : List AV) (rb : List AV) (x : ByteArray) (y : ByteArray) (o : Nat → AV) (S : Nat → List Ob) (oA : AV) (SA : List Ob) (X : Ext) (call : Caller) (lf : Nat) (i0 : Nat)
  (h0 : decide ((↑i0 : Int) < NSys.base s) = true)
  (h1 : keep (Ob.cells (sysC s) :: S i0) (indexAddrv Tryd.prog 22 (Ob.cells (sysC s) :: S i0) (lro (List.length (NSys.digits s)) 1 (List.map st (NSys.digits s))) (i6 (↑i0 : Int))) = some (AV.eaddr ra, Ob.cells (sysC s) :: S i0))
  (h2 : keep (Ob.cells (sysC s) :: S i0) (loadv Tryd.prog 9 (Ob.cells (sysC s) :: S i0) (AV.eaddr ra)) = some (st x, Ob.cells (sysC s) :: S i0))
  (h3 : keep (Ob.cells (sysC s) :: S i0) (indexAddrv Tryd.prog 22 (Ob.cells (sysC s) :: S i0) (lro (List.length t) 1 (List.map st t)) (i6 0)) = some (AV.eaddr rb, Ob.cells (sysC s) :: S i0))
  (h4 : keep (Ob.cells (sysC s) :: S i0) (loadv Tryd.prog 9 (Ob.cells (sysC s) :: S i0) (AV.eaddr rb)) = some (st y, Ob.cells (sysC s) :: S i0))
  (h5 : (ByteArray.toList x == ByteArray.toList y) = true)
  (h6 : appendv Tryd.prog 34 (Ob.cells (sysC s) :: S i0) 0 (o i0) (AV.list LK.clip 1 1 [i6 (↑i0 : Int)]) = some (oA, Ob.cells (sysC s) :: SA)) : vexec Tryd.prog X call lf 0 fg39 (loopN Tryd.f39 0) (numS14 s t n o S i0) = some (Ex.normal, (numS15 s t n ra rb x y o oA SA i0)) :=
  around_sound (ans := [(1, Ans.b true), (11, Ans.v (AV.eaddr ra)), (12, Ans.v (st x)), (14, Ans.v (AV.eaddr rb)), (15, Ans.v (st y)), (16, Ans.b true), (22, Ans.c oA (Ob.cells (sysC s) :: SA))]) (by kernel_rfl) (And.intro h0 (And.intro h1 (And.intro h2 (And.intro h3 (And.intro h4 (And.intro h5 (And.intro h6 trivial)))))))
theorem num_r0_tf (s : NSys) (t : List ByteArray) (n : Int) (ra : List AV) (rb : List AV) (x : ByteArray) (y : ByteArray) (o : Nat → AV) (S : Nat → List Ob) (X : Ext) (call : Caller) (lf : Nat) (i0 : Nat)
  (h0 : decide ((↑i0 : Int) < NSys.base s) = true)
  (h1 : keep (Ob.cells (sysC s) :: S i0) (indexAddrv Tryd.prog 22 (Ob.cells (sysC s) :: S i0) (lro (List.length (NSys.digits s)) 1 (List.map st (NSys.digits s))) (i6 (↑i0 : Int))) = some (AV.eaddr ra, Ob.cells (sysC s) :: S i0))
  (h2 : keep (Ob.cells (sysC s) :: S i0) (loadv Tryd.prog 9 (Ob.cells (sysC s) :: S i0) (AV.eaddr ra)) = some (st x, Ob.cells (sysC s) :: S i0))
  (h3 : keep (Ob.cells (sysC s) :: S i0) (indexAddrv Tryd.prog 22 (Ob.cells (sysC s) :: S i0) (lro (List.length t) 1 (List.map st t)) (i6 0)) = some (AV.eaddr rb, Ob.cells (sysC s) :: S i0))
  (h4 : keep (Ob.cells (sysC s) :: S i0) (loadv Tryd.prog 9 (Ob.cells (sysC s) :: S i0) (AV.eaddr rb)) = some (st y, Ob.cells (sysC s) :: S i0))
  (h5 : (ByteArray.toList x == ByteArray.toList y) = false) : vexec Tryd.prog X call lf 0 fg39 (loopN Tryd.f39 0) (numS14 s t n o S i0) = some (Ex.normal, (numS16 s t n ra rb x y o S i0)) :=
  around_sound (ans := [(1, Ans.b true), (11, Ans.v (AV.eaddr ra)), (12, Ans.v (st x)), (14, Ans.v (AV.eaddr rb)), (15, Ans.v (st y)), (16, Ans.b false)]) (by kernel_rfl) (And.intro h0 (And.intro h1 (And.intro h2 (And.intro h3 (And.intro h4 (And.intro h5 trivial))))))
theorem num_r0_f (s : NSys) (t : List ByteArray) (n : Int) (o : Nat → AV) (S : Nat → List Ob) (X : Ext) (call : Caller) (lf : Nat) (i0 : Nat)
  (h0 : decide ((↑i0 : Int) < NSys.base s) = false) : vexec Tryd.prog X call lf 0 fg39 (loopN Tryd.f39 0) (numS14 s t n o S i0) = some (Ex.exit 0, (numS17 s t n o S i0)) :=
  around_sound (ans := [(1, Ans.b false)]) (by kernel_rfl) (And.intro h0 trivial)
theorem num_r2_tt (s : NSys) (t : List ByteArray) (n : Int) (pw : Nat → Int) (oi : Nat → AV) (Si : Nat → List Ob) (r1 : List Int) (r2 : List Int) (oB : AV) (oC : AV) (SB : List Ob) (SC : List Ob) (X : Ext) (call : Caller) (lf : Nat) (i1 : Nat) (i2 : Nat)
  (h0 : decide ((↑i2 : Int) + 1 < NSys.base s) = true)
  (h1 : decide (w6 (((↑i2 : Int) + 1) * w6 (pw i1 * NSys.base s)) ≤ 9999) = true)
  (h2 : callv X call false 48 [AV.agg (sysC s), lro (List.length t) 1 (List.map st t), i6 ((↑i2 : Int) + 1), i6 (w6 (pw i1 * NSys.base s)), i6 (↑i1 : Int)] (Ob.cells (sysC s) :: Si i2) 0 = some (lro (List.length r1) 1 (List.map (AV.int IntKind.i64) r1), Ob.cells (sysC s) :: Si i2))
  (h3 : appendv Tryd.prog 34 (Ob.cells (sysC s) :: Si i2) 0 (oi i2) (lro (List.length r1) 1 (List.map (AV.int IntKind.i64) r1)) = some (oB, Ob.cells (sysC s) :: SB))
  (h4 : callv X call false 49 [AV.agg (sysC s), lro (List.length t) 1 (List.map st t), i6 ((↑i2 : Int) + 1), i6 (w6 (pw i1 * NSys.base s)), i6 (↑i1 : Int)] (Ob.cells (sysC s) :: SB) 0 = some (lro (List.length r2) 1 (List.map (AV.int IntKind.i64) r2), Ob.cells (sysC s) :: SB))
  (h5 : appendv Tryd.prog 34 (Ob.cells (sysC s) :: SB) 0 oB (lro (List.length r2) 1 (List.map (AV.int IntKind.i64) r2)) = some (oC, Ob.cells (sysC s) :: SC)) : vexec Tryd.prog X call lf 0 fg39 (loopN Tryd.f39 2) (numS18 s t n pw oi Si i1 i2) = some (Ex.normal, (numS19 s t n pw oi r1 r2 oB oC SC i1 i2)) :=
  around_sound (ans := [(5, Ans.b true), (14, Ans.b true), (24, Ans.v (lro (List.length r1) 1 (List.map (AV.int IntKind.i64) r1))), (25, Ans.c oB (Ob.cells (sysC s) :: SB)), (34, Ans.v (lro (List.length r2) 1 (List.map (AV.int IntKind.i64) r2))), (35, Ans.c oC (Ob.cells (sysC s) :: SC))]) (by kernel_rfl) (And.intro h0 (And.intro h1 (And.intro h2 (And.intro h3 (And.intro h4 (And.intro h5 trivial))))))
theorem num_r2_tf (s : NSys) (t : List ByteArray) (n : Int) (pw : Nat → Int) (oi : Nat → AV) (Si : Nat → List Ob) (X : Ext) (call : Caller) (lf : Nat) (i1 : Nat) (i2 : Nat)
  (h0 : decide ((↑i2 : Int) + 1 < NSys.base s) = true)
  (h1 : decide (w6 (((↑i2 : Int) + 1) * w6 (pw i1 * NSys.base s)) ≤ 9999) = false) : vexec Tryd.prog X call lf 0 fg39 (loopN Tryd.f39 2) (numS18 s t n pw oi Si i1 i2) = some (Ex.exit 4, (numS20 s t n pw oi Si i1 i2)) :=
  around_sound (ans := [(5, Ans.b true), (14, Ans.b false)]) (by kernel_rfl) (And.intro h0 (And.intro h1 trivial))
theorem num_r1_tltf (s : NSys) (t : List ByteArray) (n : Int) (pw : Nat → Int) (oo : Nat → AV) (oi : Nat → AV) (So : Nat → List Ob) (Si : Nat → List Ob) (X : Ext) (call : Caller) (lf : Nat) (i1 : Nat) (i2 : Nat)
  (h0 : decide ((↑i1 : Int) < n) = true)
  (h1 : vexec Tryd.prog X call lf 0 fg39 (Code.loop (loopN Tryd.f39 2)) (numS21 s t n pw oo So i1) = some (Ex.exit 4, (numS20 s t n pw oi Si i1 i2))) : vexec Tryd.prog X call lf 0 fg39 (loopN Tryd.f39 1) (numS22 s t n pw oo So i1) = some (Ex.normal, (numS23 s t n pw oi Si i1 i2)) :=
  around_sound (ans := [(1, Ans.b true), (15, Ans.l (Ex.exit 4) (numS20 s t n pw oi Si i1 i2))]) (by kernel_rfl) (And.intro h0 (And.intro h1 trivial))
theorem num_r2_f (s : NSys) (t : List ByteArray) (n : Int) (pw : Nat → Int) (oi : Nat → AV) (Si : Nat → List Ob) (X : Ext) (call : Caller) (lf : Nat) (i1 : Nat) (i2 : Nat)
  (h0 : decide ((↑i2 : Int) + 1 < NSys.base s) = false) : vexec Tryd.prog X call lf 0 fg39 (loopN Tryd.f39 2) (numS18 s t n pw oi Si i1 i2) = some (Ex.exit 4, (numS24 s t n pw oi Si i1 i2)) :=
  around_sound (ans := [(5, Ans.b false)]) (by kernel_rfl) (And.intro h0 trivial)
theorem num_r1_tlf (s : NSys) (t : List ByteArray) (n : Int) (pw : Nat → Int) (oo : Nat → AV) (oi : Nat → AV) (So : Nat → List Ob) (Si : Nat → List Ob) (X : Ext) (call : Caller) (lf : Nat) (i1 : Nat) (i2 : Nat)
  (h0 : decide ((↑i1 : Int) < n) = true)
  (h1 : vexec Tryd.prog X call lf 0 fg39 (Code.loop (loopN Tryd.f39 2)) (numS21 s t n pw oo So i1) = some (Ex.exit 4, (numS24 s t n pw oi Si i1 i2))) : vexec Tryd.prog X call lf 0 fg39 (loopN Tryd.f39 1) (numS22 s t n pw oo So i1) = some (Ex.normal, (numS25 s t n pw oi Si i1 i2)) :=
  around_sound (ans := [(1, Ans.b true), (15, Ans.l (Ex.exit 4) (numS24 s t n pw oi Si i1 i2))]) (by kernel_rfl) (And.intro h0 (And.intro h1 trivial))
theorem num_r1_f (s : NSys) (t : List ByteArray) (n : Int) (pw : Nat → Int) (oo : Nat → AV) (So : Nat → List Ob) (X : Ext) (call : Caller) (lf : Nat) (i1 : Nat)
  (h0 : decide ((↑i1 : Int) < n) = false) : vexec Tryd.prog X call lf 0 fg39 (loopN Tryd.f39 1) (numS22 s t n pw oo So i1) = some (Ex.exit 2, (numS26 s t n pw oo So i1)) :=
  around_sound (ans := [(1, Ans.b false)]) (by kernel_rfl) (And.intro h0 trivial)
theorem num_ptlflf (s : NSys) (t : List ByteArray) (n : Int) (pw : Nat → Int) (o : Nat → AV) (oo : Nat → AV) (S : Nat → List Ob) (So : Nat → List Ob) (r : AV) (Sr : List Ob) (X : Ext) (call : Caller) (lf : Nat) (i0 : Nat) (i1 : Nat)
  (h0 : ((↑(List.length t) : Int) == 1) = true)
  (h1 : vexec Tryd.prog X call lf 0 fg39 (Code.loop (loopN Tryd.f39 0)) (numS27 s t n) = some (Ex.exit 0, (numS17 s t n o S i0)))
  (h2 : vexec Tryd.prog X call lf 0 fg39 (Code.loop (loopN Tryd.f39 1)) (numS28 s t n o S i0) = some (Ex.exit 2, (numS26 s t n pw oo So i1)))
  (h3 : vend1 [] 0 (Ob.cells (sysC s) :: So i1) [oo i1] = some (r, Sr)) : vbody Tryd.prog X call lf fg39 Tryd.f39 (codeOf Tryd.f39) [AV.agg (sysC s), lro (List.length t) 1 (List.map st t), i6 n] [] 0 = some (r, Sr) :=
  along_sound (ans := [(8, Ans.b true), (15, Ans.l (Ex.exit 0) (numS17 s t n o S i0)), (21, Ans.l (Ex.exit 2) (numS26 s t n pw oo So i1)), (25, Ans.c r Sr)]) (by kernel_rfl) (And.intro h0 (And.intro h1 (And.intro h2 (And.intro h3 trivial))))
theorem num_pflf (s : NSys) (t : List ByteArray) (n : Int) (pw : Nat → Int) (oo : Nat → AV) (So : Nat → List Ob) (r : AV) (Sr : List Ob) (X : Ext) (call : Caller) (lf : Nat) (i1 : Nat)
  (h0 : ((↑(List.length t) : Int) == 1) = false)
  (h1 : vexec Tryd.prog X call lf 0 fg39 (Code.loop (loopN Tryd.f39 1)) (numS29 s t n) = some (Ex.exit 2, (numS26 s t n pw oo So i1)))
  (h2 : vend1 [] 0 (Ob.cells (sysC s) :: So i1) [oo i1] = some (r, Sr)) : vbody Tryd.prog X call lf fg39 Tryd.f39 (codeOf Tryd.f39) [AV.agg (sysC s), lro (List.length t) 1 (List.map st t), i6 n] [] 0 = some (r, Sr) :=
  along_sound (ans := [(8, Ans.b false), (15, Ans.l (Ex.exit 2) (numS26 s t n pw oo So i1)), (19, Ans.c r Sr)]) (by kernel_rfl) (And.intro h0 (And.intro h1 (And.intro h2 trivial)))


/-! ### numbers -/
abbrev D39a : List Nat := [35, 34, 33, 32, 31, 30, 29, 28, 27, 26, 25, 24, 23, 22, 21, 8, 20, 19]
theorem dead39a : (deadC (loopN Tryd.f39 0) ([], [])).2 = D39a := by kernel_rfl
abbrev D39b : List Nat := [74, 57, 56, 73, 72, 71, 70, 69, 68, 67, 66, 65, 64, 63, 62, 61, 60, 59, 58, 55, 54, 53, 52, 51, 50, 49, 48, 47, 46, 45, 11, 44, 43, 42, 41, 40, 10, 39, 38]
theorem dead39b : (deadC (loopN Tryd.f39 1) ([], [])).2 = D39b := by kernel_rfl
abbrev D39c : List Nat := [57, 56, 73, 72, 71, 70, 69, 68, 67, 66, 65, 64, 63, 62, 61, 60, 59, 58, 55, 54, 53, 52, 51, 50, 49, 48, 47, 46, 45]
theorem dead39c : (deadC (loopN Tryd.f39 2) ([], [])).2 = D39c := by kernel_rfl
theorem numQ_succ (s : NSys) (k : Nat) (t : List ByteArray) : numQ s (k + 1) t = numQ s k t ++ lvlQ s (numQ s k) t k (cntQ s k) := rfl
theorem cntQ_spec {s : NSys} (hg : Good s) {k : Nat} (hk : k ≤ 2) : (∀ j, j < cntQ s k → (j : Int) + 1 < s.base ∧ ((j : Int) + 1) * s.base ^ (k + 1) ≤ 9999) ∧ (¬ (cntQ s k : Int) + 1 < s.base ∨ ¬ ((cntQ s k : Int) + 1) * s.base ^ (k + 1) ≤ 9999) := by
  have hbase := hg.base
  obtain ⟨p0, p1⟩ := base_pow hg hk
  unfold cntQ
  generalize s.base ^ (k + 1) = p at p0 p1 ⊢
  have hp : 0 < p := by omega
  have hd : ∀ x : Int, x ≤ 9999 / p ↔ x * p ≤ 9999 := fun x => Int.le_ediv_iff_mul_le hp
  have h0 : 0 ≤ 9999 / p := Int.ediv_nonneg (by omega) (by omega)
  refine ⟨fun j hj => ?_, ?_⟩
  · have h1 : (j : Int) + 1 ≤ 9999 / p := by omega
    exact ⟨by omega, (hd _).1 h1⟩
  · by_cases h : (min (s.base.toNat - 1) (9999 / p).toNat : Nat) = s.base.toNat - 1
    · left; rw [h]; omega
    · right
      rw [← hd]
      omega
section
variable {X : Ext} {call : Caller} {lf : Nat} {s : NSys} {t : List ByteArray}
theorem dig_loop (hg : Good s) (hlf : 1000000 < lf) {x : ByteArray} (n : Int) :
    vexec Tryd.prog X call lf 0 fg39 (Code.loop (loopN Tryd.f39 0)) (numS27 s [x] n) = some (Ex.exit 0, numS17 s [x] n (fun i => rowI (fm (digF s x) i)) (fun i => rowS (fm (digF s x) i)) s.base.toNat) := by
  have hbase := hg.base
  generalize hf : digF s x = f
  refine loop_run (P := Tryd.prog) (X := X) (call := call) (lf := lf) (ro := 0) (fg := fg39) dead39a (numS14 s [x] n (fun i => rowI (fm f i)) (fun i => rowS (fm f i))) s.base.toNat (by omega) (by kernel_rfl) ?_ (num_r0_f s [x] n _ _ X call lf s.base.toNat (decide_eq_false (by omega))) (by simp)
  intro i hi
  have d0 : decide ((i : Int) < s.base) = true := decide_eq_true (by omega)
  have ei : w6 ((i : Int) + 1) = ((i + 1 : Nat) : Int) := by rw [w6_id (by omega) (by omega)]; omega
  obtain ⟨j1, j2⟩ := at_dig (S := Ob.cells (sysC s) :: rowS (fm f i)) hg (m := i) (by omega)
  obtain ⟨j3, j4⟩ := at_tok (S := Ob.cells (sysC s) :: rowS (fm f i)) (t := [x]) (m := 0) (by simp)
  cases h9 : ((s.digits.getD i ByteArray.empty).toList == ([x].getD 0 ByteArray.empty).toList) with
  | false =>
    have hn : f i = none := by
      subst hf
      unfold digF eqW
      rw [show ([x].getD 0 ByteArray.empty) = x from rfl] at h9
      rw [h9, if_neg (by simp)]
    refine ⟨_, num_r0_tf s [x] n _ _ _ _ (fun i => rowI (fm f i)) (fun i => rowS (fm f i)) X call lf i d0 j1 j2 j3 j4 h9, ?_⟩
    unfold numS16 numS14
    simp only [fm_none hn]
    rw [ei]
    show _ = _
    kernel_rfl
  | true =>
    have hn : f i = some (i : Int) := by
      subst hf
      unfold digF eqW
      rw [show ([x].getD 0 ByteArray.empty) = x from rfl] at h9
      rw [h9, if_pos rfl]
    have hl := fm_len f i
    have happ := rowI_app (c := Ob.cells (sysC s)) (l := fm f i) (m := [(i : Int)]) (k := .clip) (by simp only [List.length_cons, List.length_nil]; omega)
    rw [← fm_some hn] at happ
    refine ⟨_, num_r0_tt s [x] n _ _ _ _ (fun i => rowI (fm f i)) (fun i => rowS (fm f i)) (rowI (fm f (i + 1))) (rowS (fm f (i + 1))) X call lf i d0 j1 j2 j3 j4 h9 happ, ?_⟩
    unfold numS15 numS14
    rw [ei]
    show _ = _
    kernel_rfl
/-- What numbers is told of its callees, below most. -/
structure NumCall (X : Ext) (call : Caller) (s : NSys) (t : List ByteArray) (m : Nat) : Prop where
  reg : ∀ (k j : Nat) (σ : List Ob), k < m → (j : Int) + 1 < s.base → callv X call false 48 [AV.agg (sysC s), lst t, i6 ((j : Int) + 1), i6 (s.base ^ (k + 1)), i6 (k : Int)] σ 0 = some (lsi (regQ s (numQ s k) t ((j : Int) + 1) (s.base ^ (k + 1)) k), σ)
  sub : ∀ (k j : Nat) (σ : List Ob), k < m → (j : Int) + 1 < s.base → callv X call false 49 [AV.agg (sysC s), lst t, i6 ((j : Int) + 1), i6 (s.base ^ (k + 1)), i6 (k : Int)] σ 0 = some (lsi (subQ s t ((j : Int) + 1) (s.base ^ (k + 1)) k), σ)
theorem pow_step (hg : Good s) {k : Nat} (hk : k ≤ 2) : w6 (s.base ^ k * s.base) = s.base ^ (k + 1) := by
  obtain ⟨p0, p1⟩ := base_pow hg hk
  have hbase := hg.base
  have e : s.base ^ k * s.base = s.base ^ (k + 1) := (Int.pow_succ _ _).symm
  rw [e, w6_id (by omega) (by omega)]
theorem lvl_loop (hg : Good s) (hlf : 1000000 < lf) {m : Nat} (hm : m ≤ 3) (hc : NumCall X call s t m) {k : Nat} (hk : k < m) (oo : Nat → AV) (So : Nat → List Ob) (ho : oo k = rowI (numQ s k t)) (hS : So k = rowS (numQ s k t)) :
    ∃ S1, vexec Tryd.prog X call lf 0 fg39 (loopN Tryd.f39 1) (numS22 s t m (fun i => s.base ^ i) oo So k) = some (.normal, S1) ∧ forget D39b S1 = numS22 s t m (fun i => s.base ^ i) (fun i => rowI (numQ s i t)) (fun i => rowS (numQ s i t)) (k + 1) := by
  have hbase := hg.base
  have hk2 : k ≤ 2 := by omega
  obtain ⟨c1, c2⟩ := cntQ_spec hg hk2
  have hcnt : cntQ s k ≤ 20 := by unfold cntQ; omega
  have hps := pow_step hg hk2
  obtain ⟨p0, p1⟩ := base_pow hg hk2
  have hN := numQ_len hg
  have hB : bnd k ≤ 1000000 := bnd_le (by omega)
  generalize hA : (fun j => numQ s k t ++ lvlQ s (numQ s k) t k j) = A
  have hA0 : A 0 = numQ s k t := by subst hA; simp [lvlQ]
  have hAs : ∀ j, A (j + 1) = (A j ++ regQ s (numQ s k) t ((j : Int) + 1) (s.base ^ (k + 1)) k) ++ subQ s t ((j : Int) + 1) (s.base ^ (k + 1)) k := by
    intro j; subst hA; simp only [lvlQ_succ, oneQ, List.append_assoc]
  have hAe : A (cntQ s k) = numQ s (k + 1) t := by subst hA; rfl
  have hAl : ∀ j, j ≤ 20 → (A j).length ≤ 1000000 + 20 * (1000000 + 21) := by
    intro j hj
    subst hA
    have h1 := hN k t
    have h2 := lvlQ_len hg (hN k) t k j
    have h3 : j * (bnd k + 21) ≤ 20 * (bnd k + 21) := Nat.mul_le_mul_right _ hj
    simp only [List.length_append]
    omega
  have start : forget D39c (numS21 s t m (fun i => s.base ^ i) oo So k) = numS18 s t m (fun i => s.base ^ i) (fun j => rowI (A j)) (fun j => rowS (A j)) k 0 := by
    unfold numS21 numS18
    simp only [hA0, ho, hS]
    show _ = _
    kernel_rfl
  have round : ∀ j, j < cntQ s k → ∃ S1, vexec Tryd.prog X call lf 0 fg39 (loopN Tryd.f39 2) (numS18 s t m (fun i => s.base ^ i) (fun j => rowI (A j)) (fun j => rowS (A j)) k j) = some (.normal, S1) ∧ forget D39c S1 = numS18 s t m (fun i => s.base ^ i) (fun j => rowI (A j)) (fun j => rowS (A j)) k (j + 1) := by
    intro j hj
    obtain ⟨b1, b2⟩ := c1 j hj
    have hmul := mul_small (q := (j : Int) + 1) (p := s.base ^ (k + 1)) (by omega) (by omega) (by omega) (by omega)
    have hl := hAl j (by omega)
    have hr1 := regQ_len (s := s) (hN k) t ((j : Int) + 1) (s.base ^ (k + 1)) k
    have hr2 := subQ_len hg t ((j : Int) + 1) (s.base ^ (k + 1)) k
    have a1 := rowI_app (c := Ob.cells (sysC s)) (l := A j) (m := regQ s (numQ s k) t ((j : Int) + 1) (s.base ^ (k + 1)) k) (k := .ro) (by omega)
    have a2 := rowI_app (c := Ob.cells (sysC s)) (l := A j ++ regQ s (numQ s k) t ((j : Int) + 1) (s.base ^ (k + 1)) k) (m := subQ s t ((j : Int) + 1) (s.base ^ (k + 1)) k) (k := .ro) (by rw [List.length_append]; omega)
    rw [← hAs] at a2
    have ej : w6 ((j : Int) + 1 + 1) = ((j + 1 : Nat) : Int) + 1 := by rw [w6_id (by omega) (by omega)]; omega
    refine ⟨_, num_r2_tt s t m (fun i => s.base ^ i) (fun j => rowI (A j)) (fun j => rowS (A j)) _ _ _ (rowI (A (j + 1))) _ (rowS (A (j + 1))) X call lf k j (decide_eq_true b1) (by rw [hps, w6_id (by omega) (by omega)]; exact decide_eq_true b2) (by rw [hps]; exact hc.reg k j _ hk b1) a1 (by rw [hps]; exact hc.sub k j _ hk b1) a2, ?_⟩
    unfold numS19 numS18
    rw [ej]
    show _ = _
    kernel_rfl
  have ek : w6 ((k : Int) + 1) = ((k + 1 : Nat) : Int) := by rw [w6_id (by omega) (by omega)]; omega
  have dk : decide ((k : Int) < (m : Int)) = true := decide_eq_true (by omega)
  by_cases hx : (cntQ s k : Int) + 1 < s.base
  · have hy : ¬ ((cntQ s k : Int) + 1) * s.base ^ (k + 1) ≤ 9999 := by rcases c2 with h | h; exact absurd hx h; exact h
    have hmul := mul_small (q := (cntQ s k : Int) + 1) (p := s.base ^ (k + 1)) (by omega) (by omega) (by omega) (by omega)
    have hloop := loop_run (P := Tryd.prog) (X := X) (call := call) (lf := lf) (ro := 0) (fg := fg39) dead39c (numS18 s t m (fun i => s.base ^ i) (fun j => rowI (A j)) (fun j => rowS (A j)) k) (cntQ s k) (by omega) start round
      (num_r2_tf s t m (fun i => s.base ^ i) (fun j => rowI (A j)) (fun j => rowS (A j)) X call lf k (cntQ s k) (decide_eq_true hx) (by rw [hps, w6_id (by omega) (by omega)]; exact decide_eq_false hy)) (by simp)
    refine ⟨_, num_r1_tltf s t m (fun i => s.base ^ i) oo _ So _ X call lf k (cntQ s k) dk hloop, ?_⟩
    unfold numS23 numS22
    simp only [hAe, hps]
    rw [ek]
    show _ = _
    kernel_rfl
  · have hloop := loop_run (P := Tryd.prog) (X := X) (call := call) (lf := lf) (ro := 0) (fg := fg39) dead39c (numS18 s t m (fun i => s.base ^ i) (fun j => rowI (A j)) (fun j => rowS (A j)) k) (cntQ s k) (by omega) start round
      (num_r2_f s t m (fun i => s.base ^ i) (fun j => rowI (A j)) (fun j => rowS (A j)) X call lf k (cntQ s k) (decide_eq_false hx)) (by simp)
    refine ⟨_, num_r1_tlf s t m (fun i => s.base ^ i) oo _ So _ X call lf k (cntQ s k) dk hloop, ?_⟩
    unfold numS25 numS22
    simp only [hAe, hps]
    rw [ek]
    show _ = _
    kernel_rfl
/-- numbers: what numQ says. -/
theorem num_spec (hg : Good s) (hlf : 1000000 < lf) (ht : t.length ≤ 140737488355328) {m : Nat} (hm : m ≤ 3) (hc : NumCall X call s t m) :
    ∃ σ', vbody Tryd.prog X call lf fg39 Tryd.f39 (codeOf Tryd.f39) [AV.agg (sysC s), lst t, i6 (m : Int)] [] 0 = some (rowV (numQ s m t), σ') := by
  have hround : ∀ i, i < m → ∃ S1, vexec Tryd.prog X call lf 0 fg39 (loopN Tryd.f39 1) (numS22 s t m (fun i => s.base ^ i) (fun i => rowI (numQ s i t)) (fun i => rowS (numQ s i t)) i) = some (.normal, S1) ∧ forget D39b S1 = numS22 s t m (fun i => s.base ^ i) (fun i => rowI (numQ s i t)) (fun i => rowS (numQ s i t)) (i + 1) :=
    fun i hi => lvl_loop hg hlf hm hc hi _ _ rfl rfl
  have hend := num_r1_f s t m (fun i => s.base ^ i) (fun i => rowI (numQ s i t)) (fun i => rowS (numQ s i t)) X call lf m (decide_eq_false (by omega))
  have hE := rowI_end (Ob.cells (sysC s)) (numQ s m t)
  by_cases h1 : t.length = 1
  · obtain ⟨x, rfl⟩ : ∃ x, t = [x] := by
      match t, h1 with
      | [x], _ => exact ⟨x, rfl⟩
    have hd := dig_loop (X := X) (call := call) hg hlf (x := x) (m : Int)
    refine ⟨_, num_ptlflf s [x] m (fun i => s.base ^ i) _ (fun i => rowI (numQ s i [x])) _ (fun i => rowS (numQ s i [x])) _ _ X call lf s.base.toNat m rfl hd ?_ hE⟩
    refine loop_run (P := Tryd.prog) (X := X) (call := call) (lf := lf) (ro := 0) (fg := fg39) dead39b _ m (by omega) ?_ hround hend (by simp)
    have e0 : s.base ^ 0 = 1 := Int.pow_zero _
    have e1 : numQ s 0 [x] = fm (digF s x) s.base.toNat := rfl
    unfold numS28 numS22
    simp only [e1, e0]
    show _ = _
    kernel_rfl
  · have e1 : ((t.length : Int) == 1) = false := by simp; omega
    have h0 : numQ s 0 t = [] := by
      simp only [numQ, digQ]
      split
      · simp at h1
      · rfl
    refine ⟨_, num_pflf s t m (fun i => s.base ^ i) (fun i => rowI (numQ s i t)) (fun i => rowS (numQ s i t)) _ _ X call lf m e1 ?_ hE⟩
    refine loop_run (P := Tryd.prog) (X := X) (call := call) (lf := lf) (ro := 0) (fg := fg39) dead39b _ m (by omega) ?_ hround hend (by simp)
    have e0 : s.base ^ 0 = 1 := Int.pow_zero _
    unfold numS29 numS22
    simp only [h0, e0]
    show _ = _
    kernel_rfl
end
end Go.Proofs.Num
end
/- Numeral: slices.Sort, slices.Compact and strings.Join by their contracts, laid in plain words. -/
section
namespace Go.Proofs
open Go.Shelf
def Tryd.laysSortI_ren : Go.Shelf.Ren := ⟨fun | 189 => 40 | 125 => 51 | 257 => 50 | 128 => 70 | 129 => 71 | 294 => 61 | 295 => 62 | 296 => 63 | 297 => 64 | 298 => 65 | 299 => 66 | 216 => 67 | 300 => 68 | 301 => 69 | 328 => 83 | 329 => 84 | 330 => 85 | 331 => 86 | 332 => 87 | 215 => 88 | 343 => 95 | n => n, fun | 28 => 34 | 3 => 3 | 46 => 70 | 0 => 0 | 51 => 100 | 53 => 102 | 4 => 4 | 183 => 93 | 182 => 92 | 131 => 65 | 5 => 5 | 9 => 9 | 218 => 110 | 222 => 114 | 228 => 122 | 229 => 41 | n => n, fun | n => n⟩
theorem Tryd.laysSortI : Go.Proofs.Lays.n189 Tryd.prog Tryd.laysSortI_ren := {
  mixed := by kernel_rfl
  f125 := Tryd.func51.trans (congrArg some (by kernel_rfl))
  f128 := Tryd.func70.trans (congrArg some (by kernel_rfl))
  f129 := Tryd.func71.trans (congrArg some (by kernel_rfl))
  f189 := Tryd.func40.trans (congrArg some (by kernel_rfl))
  f215 := Tryd.func88.trans (congrArg some (by kernel_rfl))
  f216 := Tryd.func67.trans (congrArg some (by kernel_rfl))
  f257 := Tryd.func50.trans (congrArg some (by kernel_rfl))
  f294 := Tryd.func61.trans (congrArg some (by kernel_rfl))
  f295 := Tryd.func62.trans (congrArg some (by kernel_rfl))
  f296 := Tryd.func63.trans (congrArg some (by kernel_rfl))
  f297 := Tryd.func64.trans (congrArg some (by kernel_rfl))
  f298 := Tryd.func65.trans (congrArg some (by kernel_rfl))
  f299 := Tryd.func66.trans (congrArg some (by kernel_rfl))
  f300 := Tryd.func68.trans (congrArg some (by kernel_rfl))
  f301 := Tryd.func69.trans (congrArg some (by kernel_rfl))
  f328 := Tryd.func83.trans (congrArg some (by kernel_rfl))
  f329 := Tryd.func84.trans (congrArg some (by kernel_rfl))
  f330 := Tryd.func85.trans (congrArg some (by kernel_rfl))
  f331 := Tryd.func86.trans (congrArg some (by kernel_rfl))
  f332 := Tryd.func87.trans (congrArg some (by kernel_rfl))
  f343 := Tryd.func95.trans (congrArg some (by kernel_rfl))
  t0 := Tryd.underlying0
  a0 := Tryd.isAgg0
  z0 := Tryd.sizeOf0
  v0 := Tryd.zeroValue0
  t3 := Tryd.underlying3
  a3 := Tryd.isAgg3
  z3 := Tryd.sizeOf3
  v3 := Tryd.zeroValue3
  t4 := Tryd.underlying4
  a4 := Tryd.isAgg4
  z4 := Tryd.sizeOf4
  v4 := Tryd.zeroValue4
  t5 := Tryd.underlying5
  a5 := Tryd.isAgg5
  z5 := Tryd.sizeOf5
  v5 := Tryd.zeroValue5
  t9 := Tryd.underlying9
  a9 := Tryd.isAgg9
  z9 := Tryd.sizeOf9
  v9 := Tryd.zeroValue9
  t28 := Tryd.underlying34
  a28 := Tryd.isAgg34
  z28 := Tryd.sizeOf34
  v28 := Tryd.zeroValue34
  t46 := Tryd.underlying70
  a46 := Tryd.isAgg70
  z46 := Tryd.sizeOf70
  v46 := Tryd.zeroValue70
  t51 := Tryd.underlying100
  a51 := Tryd.isAgg100
  z51 := Tryd.sizeOf100
  v51 := Tryd.zeroValue100
  t53 := Tryd.underlying102
  a53 := Tryd.isAgg102
  z53 := Tryd.sizeOf102
  v53 := Tryd.zeroValue102
  t131 := Tryd.underlying65
  a131 := Tryd.isAgg65
  z131 := Tryd.sizeOf65
  v131 := Tryd.zeroValue65
  t182 := Tryd.underlying92
  a182 := Tryd.isAgg92
  z182 := Tryd.sizeOf92
  v182 := Tryd.zeroValue92
  t183 := Tryd.underlying93
  a183 := Tryd.isAgg93
  z183 := Tryd.sizeOf93
  v183 := Tryd.zeroValue93
  t218 := Tryd.underlying110
  a218 := Tryd.isAgg110
  z218 := Tryd.sizeOf110
  v218 := Tryd.zeroValue110
  t222 := Tryd.underlying114
  a222 := Tryd.isAgg114
  z222 := Tryd.sizeOf114
  v222 := Tryd.zeroValue114
  t228 := Tryd.underlying122
  a228 := Tryd.isAgg122
  z228 := Tryd.sizeOf122
  v228 := Tryd.zeroValue122
  t229 := Tryd.underlying41
  a229 := Tryd.isAgg41
  z229 := Tryd.sizeOf41
  v229 := Tryd.zeroValue41 }
def Tryd.laysSortS_ren : Go.Shelf.Ren := ⟨fun | 190 => 44 | 125 => 51 | 258 => 53 | 128 => 70 | 129 => 71 | 302 => 72 | 303 => 73 | 304 => 74 | 305 => 75 | 306 => 76 | 307 => 77 | 308 => 78 | 309 => 79 | 310 => 80 | 333 => 89 | 329 => 84 | 330 => 85 | 334 => 90 | 335 => 91 | 336 => 92 | 344 => 96 | n => n, fun | 31 => 22 | 9 => 9 | 3 => 3 | 46 => 70 | 0 => 0 | 51 => 100 | 53 => 102 | 4 => 4 | 183 => 93 | 182 => 92 | 131 => 65 | 5 => 5 | 218 => 110 | 222 => 114 | 228 => 122 | 229 => 41 | n => n, fun | n => n⟩
theorem Tryd.laysSortS : Go.Proofs.Lays.n190 Tryd.prog Tryd.laysSortS_ren := {
  mixed := by kernel_rfl
  f125 := Tryd.func51.trans (congrArg some (by kernel_rfl))
  f128 := Tryd.func70.trans (congrArg some (by kernel_rfl))
  f129 := Tryd.func71.trans (congrArg some (by kernel_rfl))
  f190 := Tryd.func44.trans (congrArg some (by kernel_rfl))
  f258 := Tryd.func53.trans (congrArg some (by kernel_rfl))
  f302 := Tryd.func72.trans (congrArg some (by kernel_rfl))
  f303 := Tryd.func73.trans (congrArg some (by kernel_rfl))
  f304 := Tryd.func74.trans (congrArg some (by kernel_rfl))
  f305 := Tryd.func75.trans (congrArg some (by kernel_rfl))
  f306 := Tryd.func76.trans (congrArg some (by kernel_rfl))
  f307 := Tryd.func77.trans (congrArg some (by kernel_rfl))
  f308 := Tryd.func78.trans (congrArg some (by kernel_rfl))
  f309 := Tryd.func79.trans (congrArg some (by kernel_rfl))
  f310 := Tryd.func80.trans (congrArg some (by kernel_rfl))
  f329 := Tryd.func84.trans (congrArg some (by kernel_rfl))
  f330 := Tryd.func85.trans (congrArg some (by kernel_rfl))
  f333 := Tryd.func89.trans (congrArg some (by kernel_rfl))
  f334 := Tryd.func90.trans (congrArg some (by kernel_rfl))
  f335 := Tryd.func91.trans (congrArg some (by kernel_rfl))
  f336 := Tryd.func92.trans (congrArg some (by kernel_rfl))
  f344 := Tryd.func96.trans (congrArg some (by kernel_rfl))
  t0 := Tryd.underlying0
  a0 := Tryd.isAgg0
  z0 := Tryd.sizeOf0
  v0 := Tryd.zeroValue0
  t3 := Tryd.underlying3
  a3 := Tryd.isAgg3
  z3 := Tryd.sizeOf3
  v3 := Tryd.zeroValue3
  t4 := Tryd.underlying4
  a4 := Tryd.isAgg4
  z4 := Tryd.sizeOf4
  v4 := Tryd.zeroValue4
  t5 := Tryd.underlying5
  a5 := Tryd.isAgg5
  z5 := Tryd.sizeOf5
  v5 := Tryd.zeroValue5
  t9 := Tryd.underlying9
  a9 := Tryd.isAgg9
  z9 := Tryd.sizeOf9
  v9 := Tryd.zeroValue9
  t31 := Tryd.underlying22
  a31 := Tryd.isAgg22
  z31 := Tryd.sizeOf22
  v31 := Tryd.zeroValue22
  t46 := Tryd.underlying70
  a46 := Tryd.isAgg70
  z46 := Tryd.sizeOf70
  v46 := Tryd.zeroValue70
  t51 := Tryd.underlying100
  a51 := Tryd.isAgg100
  z51 := Tryd.sizeOf100
  v51 := Tryd.zeroValue100
  t53 := Tryd.underlying102
  a53 := Tryd.isAgg102
  z53 := Tryd.sizeOf102
  v53 := Tryd.zeroValue102
  t131 := Tryd.underlying65
  a131 := Tryd.isAgg65
  z131 := Tryd.sizeOf65
  v131 := Tryd.zeroValue65
  t182 := Tryd.underlying92
  a182 := Tryd.isAgg92
  z182 := Tryd.sizeOf92
  v182 := Tryd.zeroValue92
  t183 := Tryd.underlying93
  a183 := Tryd.isAgg93
  z183 := Tryd.sizeOf93
  v183 := Tryd.zeroValue93
  t218 := Tryd.underlying110
  a218 := Tryd.isAgg110
  z218 := Tryd.sizeOf110
  v218 := Tryd.zeroValue110
  t222 := Tryd.underlying114
  a222 := Tryd.isAgg114
  z222 := Tryd.sizeOf114
  v222 := Tryd.zeroValue114
  t228 := Tryd.underlying122
  a228 := Tryd.isAgg122
  z228 := Tryd.sizeOf122
  v228 := Tryd.zeroValue122
  t229 := Tryd.underlying41
  a229 := Tryd.isAgg41
  z229 := Tryd.sizeOf41
  v229 := Tryd.zeroValue41 }
def Tryd.laysCompI_ren : Go.Shelf.Ren := ⟨fun | 20 => 41 | n => n, fun | 22 => 34 | 3 => 3 | 4 => 4 | 0 => 0 | n => n, fun | n => n⟩
theorem Tryd.laysCompI : Go.Proofs.Lays2.n20 Tryd.prog Tryd.laysCompI_ren := {
  mixed := by kernel_rfl
  f20 := Tryd.func41.trans (congrArg some (by kernel_rfl))
  t0 := Tryd.underlying0
  a0 := Tryd.isAgg0
  z0 := Tryd.sizeOf0
  v0 := Tryd.zeroValue0
  t3 := Tryd.underlying3
  a3 := Tryd.isAgg3
  z3 := Tryd.sizeOf3
  v3 := Tryd.zeroValue3
  t4 := Tryd.underlying4
  a4 := Tryd.isAgg4
  z4 := Tryd.sizeOf4
  v4 := Tryd.zeroValue4
  t22 := Tryd.underlying34
  a22 := Tryd.isAgg34
  z22 := Tryd.sizeOf34
  v22 := Tryd.zeroValue34
  i3 := by kernel_rfl }
def Tryd.laysCompS_ren : Go.Shelf.Ren := ⟨fun | 194 => 45 | n => n, fun | 31 => 22 | 9 => 9 | 3 => 3 | 4 => 4 | 0 => 0 | n => n, fun | n => n⟩
theorem Tryd.laysCompS : Go.Proofs.Lays.n194 Tryd.prog Tryd.laysCompS_ren := {
  mixed := by kernel_rfl
  f194 := Tryd.func45.trans (congrArg some (by kernel_rfl))
  t0 := Tryd.underlying0
  a0 := Tryd.isAgg0
  z0 := Tryd.sizeOf0
  v0 := Tryd.zeroValue0
  t3 := Tryd.underlying3
  a3 := Tryd.isAgg3
  z3 := Tryd.sizeOf3
  v3 := Tryd.zeroValue3
  t4 := Tryd.underlying4
  a4 := Tryd.isAgg4
  z4 := Tryd.sizeOf4
  v4 := Tryd.zeroValue4
  t9 := Tryd.underlying9
  a9 := Tryd.isAgg9
  z9 := Tryd.sizeOf9
  v9 := Tryd.zeroValue9
  t31 := Tryd.underlying22
  a31 := Tryd.isAgg22
  z31 := Tryd.sizeOf22
  v31 := Tryd.zeroValue22 }
def Tryd.laysJoin_ren : Go.Shelf.Ren := ⟨fun | 156 => 46 | 165 => 54 | 166 => 55 | 169 => 56 | 240 => 81 | 241 => 82 | 276 => 93 | 277 => 94 | n => n, fun | 31 => 22 | 9 => 9 | 3 => 3 | 4 => 4 | 0 => 0 | 20 => 20 | 72 => 76 | 76 => 80 | 70 => 73 | 37 => 74 | 75 => 79 | 127 => 109 | 164 => 119 | 5 => 5 | 80 => 82 | n => n, fun | n => n⟩
theorem Tryd.laysJoin : Go.Proofs.Lays.n156 Tryd.prog Tryd.laysJoin_ren := {
  mixed := by kernel_rfl
  f156 := Tryd.func46.trans (congrArg some (by kernel_rfl))
  f165 := Tryd.func54.trans (congrArg some (by kernel_rfl))
  f166 := Tryd.func55.trans (congrArg some (by kernel_rfl))
  f169 := Tryd.func56.trans (congrArg some (by kernel_rfl))
  f240 := Tryd.func81.trans (congrArg some (by kernel_rfl))
  f241 := Tryd.func82.trans (congrArg some (by kernel_rfl))
  f276 := Tryd.func93.trans (congrArg some (by kernel_rfl))
  f277 := Tryd.func94.trans (congrArg some (by kernel_rfl))
  t0 := Tryd.underlying0
  a0 := Tryd.isAgg0
  z0 := Tryd.sizeOf0
  v0 := Tryd.zeroValue0
  t3 := Tryd.underlying3
  a3 := Tryd.isAgg3
  z3 := Tryd.sizeOf3
  v3 := Tryd.zeroValue3
  t4 := Tryd.underlying4
  a4 := Tryd.isAgg4
  z4 := Tryd.sizeOf4
  v4 := Tryd.zeroValue4
  t9 := Tryd.underlying9
  a9 := Tryd.isAgg9
  z9 := Tryd.sizeOf9
  v9 := Tryd.zeroValue9
  t20 := Tryd.underlying20
  a20 := Tryd.isAgg20
  z20 := Tryd.sizeOf20
  v20 := Tryd.zeroValue20
  t31 := Tryd.underlying22
  a31 := Tryd.isAgg22
  z31 := Tryd.sizeOf22
  v31 := Tryd.zeroValue22
  t37 := Tryd.underlying74
  a37 := Tryd.isAgg74
  z37 := Tryd.sizeOf74
  v37 := Tryd.zeroValue74
  t70 := Tryd.underlying73
  a70 := Tryd.isAgg73
  z70 := Tryd.sizeOf73
  v70 := Tryd.zeroValue73
  t72 := Tryd.underlying76
  a72 := Tryd.isAgg76
  z72 := Tryd.sizeOf76
  v72 := Tryd.zeroValue76
  t75 := Tryd.underlying79
  a75 := Tryd.isAgg79
  z75 := Tryd.sizeOf79
  v75 := Tryd.zeroValue79
  t76 := Tryd.underlying80
  a76 := Tryd.isAgg80
  z76 := Tryd.sizeOf80
  v76 := Tryd.zeroValue80
  t127 := Tryd.underlying109
  a127 := Tryd.isAgg109
  z127 := Tryd.sizeOf109
  v127 := Tryd.zeroValue109
  t164 := Tryd.underlying119
  a164 := Tryd.isAgg119
  z164 := Tryd.sizeOf119
  v164 := Tryd.zeroValue119 }
theorem Tryd.joinExtra : Builder.Extra Tryd.prog Tryd.laysJoin_ren := {
  sizeBuilder := by kernel_rfl
  liesBuilder := by kernel_rfl
  t5 := Tryd.underlying5
  a5 := Tryd.isAgg5
  z5 := Tryd.sizeOf5
  v5 := Tryd.zeroValue5
  infoByte := by kernel_rfl
  cellsByte := by kernel_rfl
  sizeByte := by kernel_rfl
  neB5 := by decide }
end Go.Proofs
end
/- Library functions that turn a row of the call's own: what the sort's and Compact's contracts say, as functions over the store. -/
section
namespace Go.Vm
open Go.RowKit (Below)
variable [Fixed]
variable {P : Program} {C : Ctx} {w : World}
/-- A store's answer, where nothing comes back. -/
def unit1 : Option (List Ob) → Option (AV × List Ob)
  | some σ => some (.undef, σ)
  | none => none
/-- Values of one cell that name nothing. -/
structure Plain {α : Type} (enc : α → Value) (av : α → AV) : Prop where
  rep : ∀ [Fixed] (C : Ctx) (w : World) (x : α), Rep C w (av x) (enc x)
  back : ∀ [Fixed] (C : Ctx) (w : World) (x : α) (u : Value), Rep C w (av x) u → u = enc x
  one : ∀ x, (av x).one = true
section
variable {α : Type} [Inhabited α] {enc : α → Value} {av : α → AV}
theorem Plain.all (hp : Plain enc av) (C : Ctx) (w : World) : ∀ l : List α, RepAll C w (l.map av) (l.map enc)
  | [] => by simp only [List.map_nil, RepAll]
  | x :: l => by simp only [List.map_cons, RepAll]; exact ⟨hp.rep C w x, hp.all C w l⟩
theorem Plain.allBack (hp : Plain enc av) : ∀ (l : List α) (us : List Value), RepAll C w (l.map av) us → us = l.map enc
  | [], [], _ => rfl
  | [], _ :: _, h => by simp only [List.map_nil, RepAll] at h
  | _ :: _, [], h => by simp only [List.map_cons, RepAll] at h
  | x :: l, u :: us, h => by
    simp only [List.map_cons, RepAll] at h
    rw [hp.back C w x u h.1, hp.allBack l us h.2]
    rfl
theorem Plain.ones (hp : Plain enc av) : ∀ l : List α, allOne (l.map av)
  | [] => trivial
  | x :: l => ⟨hp.one x, hp.ones l⟩
/-- What a row of the call's own holds. -/
theorem Plain.row (hp : Plain enc av) (hs : SOk C w) {id : Nat} {l : List α} (ho : C.σ[id]? = some (.arr l.length 1 (l.map av))) :
    Go.Sort.Holds enc w (C.φ id) 0 l.toArray ∧ C.φ id < w.heap.size ∧ l.length ≤ C.κ id ∧ C.κ id ≤ maxLen ∧ ∃ vs e, w.heap[C.φ id]? = some (.cells (l.map enc ++ vs).toArray e (0, 0)) ∧ l.length + vs.length = C.κ id := by
  obtain ⟨h0, h1, hnc, hcm, us, vs, e, h2, h4, h3⟩ := hs.ob id _ ho
  have hu := hp.allBack l us h3
  subst hu
  refine ⟨?_, hs.blk _ _ ho trivial, hnc, hcm, vs, e, h2, by simpa using h4⟩
  intro j hj
  have hj' : j < l.length := by simpa using hj
  constructor
  · simp only [World.cell?, h2, Nat.zero_add]
    rw [getElem!_pos l.toArray j hj]
    simp only [List.getElem?_toArray, List.getElem_toArray]
    rw [List.getElem?_append_left (by simpa using hj'), List.getElem?_map, List.getElem?_eq_getElem hj']
    rfl
  · simp [World.frozen?, h2]
theorem put_heap {w : World} {b : Nat} {l l' : List α} {vs : List Value} {e : TypeId} (hg : w.heap[b]? = some (.cells (l.map enc ++ vs).toArray e (0, 0))) (hl : l'.length = l.length) (q : Nat) (os : Array Obj) :
    (Go.Sort.grow (Go.Sort.putRow enc (Go.Sort.ahead w q) b 0 l'.toArray) os).heap[b]? = some (.cells (l'.map enc ++ vs).toArray e (0, 0)) := by
  have hb : b < w.heap.size := (Array.getElem?_eq_some_iff.1 hg).1
  have hx : (Go.Sort.putRow enc (Go.Sort.ahead w q) b 0 l'.toArray).heap[b]? = some (.cells (l'.map enc ++ vs).toArray e (0, 0)) := by
    simp only [Go.Sort.putRow, Go.Sort.mapBlock, Go.Sort.ahead, Array.getElem?_modify, if_true]
    rw [hg]
    simp only [Option.map_some, Go.Sort.onCells]
    congr 2
    apply Array.ext_getElem?
    intro k
    simp only [Go.Sort.putCells, Array.getElem?_mapIdx, List.size_toArray, List.getElem?_toArray, Nat.zero_add, Nat.sub_zero, Nat.zero_le, true_and]
    by_cases hk : k < l'.length
    · rw [List.getElem?_append_left (by simpa [hl] using hk), List.getElem?_append_left (by simpa using hk)]
      have hkl : k < l.length := by omega
      simp only [List.getElem?_map, List.getElem?_eq_getElem hkl, List.getElem?_eq_getElem hk, Option.map_some, if_pos hk]
      rw [getElem!_pos l'.toArray k (by simpa using hk)]
      simp
    · rw [List.getElem?_append_right (by simp; omega), List.getElem?_append_right (by simp; omega)]
      simp only [List.length_map, hl]
      cases vs[k - l.length]? with
      | none => rfl
      | some y =>
        simp only [Option.map_some]
        rw [if_neg (by omega)]
  simp only [Go.Sort.grow]
  rw [Array.getElem?_append_left (by simpa [Go.Sort.putRow, Go.Sort.mapBlock, Go.Sort.ahead] using hb)]
  exact hx
theorem put_other {w : World} {b x : Nat} {d : Array α} (hx : x < w.heap.size) (hne : x ≠ b) (q : Nat) (os : Array Obj) :
    (Go.Sort.grow (Go.Sort.putRow enc (Go.Sort.ahead w q) b 0 d) os).heap[x]? = w.heap[x]? := by
  simp only [Go.Sort.grow]
  rw [Array.getElem?_append_left (by simpa [Go.Sort.putRow, Go.Sort.mapBlock, Go.Sort.ahead] using hx)]
  simp only [Go.Sort.putRow, Go.Sort.mapBlock, Go.Sort.ahead, Array.getElem?_modify]
  rw [if_neg (fun e => hne e.symm)]
theorem put_size {w : World} {b : Nat} {d : Array α} (q : Nat) (os : Array Obj) : w.heap.size ≤ (Go.Sort.grow (Go.Sort.putRow enc (Go.Sort.ahead w q) b 0 d) os).heap.size := by
  simp [Go.Sort.grow, Go.Sort.putRow, Go.Sort.mapBlock, Go.Sort.ahead]
/-- The row holds other elements. -/
theorem Plain.turned (hp : Plain enc av) (hs : SOk C w) {ro id : Nat} {l l' : List α} (ho : C.σ[id]? = some (.arr l.length 1 (l.map av))) (hro : ro ≤ id) (hl : l'.length = l.length) (q : Nat) (os : Array Obj) :
    SOk (C.put id (.arr l'.length 1 (l'.map av)) (C.φ id) (C.κ id)) (Go.Sort.grow (Go.Sort.putRow enc (Go.Sort.ahead w q) (C.φ id) 0 l'.toArray) os) ∧
    Grow ro C w (C.put id (.arr l'.length 1 (l'.map av)) (C.φ id) (C.κ id)) (Go.Sort.grow (Go.Sort.putRow enc (Go.Sort.ahead w q) (C.φ id) 0 l'.toArray) os) := by
  obtain ⟨_, hb, hn, hm, vs, e, h2, h4⟩ := hp.row hs ho
  have hX := put_heap (enc := enc) h2 hl q os
  refine turn_one hs ho trivial hro rfl rfl rfl (put_size q os) (fun x hx hne => put_other hx hne q os) (.inl rfl) (Nat.lt_of_lt_of_le hb (put_size q os)) ?_ ?_
  · exact .inl ⟨l'.length, 1, _, .inl rfl, by omega, fun _ => ⟨rfl, rfl⟩⟩
  · intro _
    exact ⟨by simp, hp.ones l', by omega, hm, l'.map enc, vs, e, hX, by simp; omega, hp.all _ _ l'⟩
/-- A row of one's own, read back. -/
def ownRow (dec : List AV → Option (List α)) (σ : List Ob) (ro : Nat) (v : AV) : Option (Nat × List α) :=
  match v with
  | .own id n => match σ[id]? with
    | some (.arr n' sz cs) => match dec cs with
      | some l => if n' = n ∧ sz = 1 ∧ ro ≤ id ∧ n = l.length ∧ n ≤ 140737488355328 then some (id, l) else none
      | none => none
    | _ => none
  | _ => none
theorem ownRow_at {dec : List AV → Option (List α)} (hd : ∀ cs l, dec cs = some l → cs = l.map av) {ro : Nat} {v : AV} {id : Nat} {l : List α} (h : ownRow dec C.σ ro v = some (id, l)) :
    v = .own id l.length ∧ C.σ[id]? = some (.arr l.length 1 (l.map av)) ∧ ro ≤ id ∧ l.length ≤ 140737488355328 := by
  unfold ownRow at h
  split at h
  · split at h
    · rename_i ho
      split at h
      · rename_i l' hl
        split at h
        · rename_i hc
          simp only [Option.some.injEq, Prod.mk.injEq] at h
          obtain ⟨rfl, rfl⟩ := h
          obtain ⟨rfl, rfl, h3, h4, h5⟩ := hc
          have := hd _ _ hl
          subst this
          subst h4
          exact ⟨rfl, ho, h3, h5⟩
        · cases h
      · cases h
    · cases h
  · cases h
theorem own_value (hs : SOk C w) {id n : Nat} {sz : Nat} {cs : List AV} {u : Value} (ho : C.σ[id]? = some (.arr n sz cs)) (h : Rep C w (.own id n) u) : u = .slice (some ⟨C.φ id, 0, none⟩) n (C.κ id) := by
  simp only [Rep, RowIs, ho] at h
  exact h.2.2 trivial
def isNil : AV → Bool
  | .list .nil 0 0 [] => true
  | _ => false
/-- Sort: the row holds its elements in order. -/
def sortFn (dec : List AV → Option (List α)) (av : α → AV) (le : α → α → Bool) (vs : List AV) (σ : List Ob) (ro : Nat) : Option (AV × List Ob) :=
  match vs with
  | [v] => if isNil v then some (.tup [], σ) else match ownRow dec σ ro v with
    | some (id, l) => some (.tup [], setOb σ id (.arr l.length 1 ((l.mergeSort le).map av)))
    | none => none
  | _ => none
theorem isNil_eq {v : AV} (h : isNil v = true) : v = .list .nil 0 0 [] := by
  unfold isNil at h
  split at h
  · rfl
  · cases h
theorem nil_value {u : Value} (h : Rep C w (.list .nil 0 0 []) u) : u = .slice none 0 0 := by
  simp only [Rep] at h
  obtain ⟨_, _, a, cap, rfl, _, _, _, h5, _⟩ := h
  obtain ⟨rfl, rfl⟩ := h5 trivial
  rfl
theorem sort_st (hp : Plain enc av) {f : FuncId} {dec : List AV → Option (List α)} (hd : ∀ cs l, dec cs = some l → cs = l.map av) {le : α → α → Bool}
    (hcall : ∀ (blk cap : Nat) (zs : List α) (w : World), Go.Sort.Holds enc w blk 0 zs.toArray → blk < w.heap.size → zs.length < 4611686018427387904 →
      Calls P f #[.slice (some ⟨blk, 0, none⟩) zs.length cap] w fun e w' => e = .returned (.tuple #[]) ∧ ∃ n os, w' = Go.Sort.grow (Go.Sort.putRow enc (Go.Sort.ahead w n) blk 0 (zs.mergeSort le).toArray) os)
    (hnone : ∀ (p : Option Addr) (cap : Nat) (w : World), Calls P f #[.slice p 0 cap] w fun e w' => e = .returned (.tuple #[]) ∧ w' = w) :
    ∀ vs σ ro r σ', sortFn dec av le vs σ ro = some (r, σ') → ∀ (C : Ctx) (w : World) (us : List Value), C.σ = σ → SOk C w → ro ≤ σ.length → RepAll C w vs us →
      Calls P f us.toArray w fun e w' => ∃ u C', e = .returned u ∧ C'.σ = σ' ∧ SOk C' w' ∧ Grow ro C w C' w' ∧ Rep C' w' r u := by
  intro vs σ ro r σ' h C w us hσ hs hro hrep
  subst hσ
  unfold sortFn at h
  split at h
  · rename_i v
    obtain ⟨u, rfl⟩ : ∃ u, us = [u] := by
      match us, hrep with
      | [], h => simp only [RepAll] at h
      | [u], _ => exact ⟨u, rfl⟩
      | _ :: _ :: _, h => simp only [RepAll, and_false] at h
    simp only [RepAll, and_true] at hrep
    split at h
    · rename_i hn
      have := isNil_eq hn
      subst this
      simp only [Option.some.injEq, Prod.mk.injEq] at h
      obtain ⟨rfl, rfl⟩ := h
      have := nil_value hrep
      subst this
      refine Calls.mono (hnone none 0 w) ?_
      rintro e w' ⟨rfl, rfl⟩
      exact ⟨_, C, rfl, rfl, hs, Grow.refl _ _ _, by simp only [Rep]; exact ⟨[], rfl, by simp only [RepAll]⟩⟩
    · split at h
      · rename_i id l hl
        simp only [Option.some.injEq, Prod.mk.injEq] at h
        obtain ⟨rfl, rfl⟩ := h
        obtain ⟨rfl, ho, h3, h4⟩ := ownRow_at hd hl
        have := own_value hs ho hrep
        subst this
        obtain ⟨k1, k2, _⟩ := hp.row hs ho
        refine Calls.mono (hcall (C.φ id) (C.κ id) l w k1 k2 (by omega)) ?_
        rintro e w' ⟨rfl, q, os, rfl⟩
        have hlen : (l.mergeSort le).length = l.length := List.length_mergeSort l
        obtain ⟨j1, j2⟩ := hp.turned hs (l' := l.mergeSort le) ho h3 hlen q os
        rw [hlen] at j1 j2
        exact ⟨_, _, rfl, rfl, j1, j2, by simp only [Rep]; exact ⟨[], rfl, by simp only [RepAll]⟩⟩
      · cases h
  · cases h
/-- Compact: the row, cut. -/
def compFn [DecidableEq α] (dec : List AV → Option (List α)) (av : α → AV) (vs : List AV) (σ : List Ob) (ro : Nat) : Option (AV × List Ob) :=
  match vs with
  | [v] => if isNil v then some (v, σ) else match ownRow dec σ ro v with
    | some (id, l) => some (.own σ.length (Lib.compact l).length, setOb σ id .gone ++ [.arr (Lib.compact l).length 1 ((Lib.compact l).map av)])
    | none => none
  | _ => none
theorem setOb_setOb : ∀ (σ : List Ob) (id : Nat) (a b : Ob), setOb (setOb σ id a) id b = setOb σ id b
  | [], _, _, _ => rfl
  | _ :: _, 0, _, _ => rfl
  | x :: l, i + 1, a, b => by simp only [setOb, setOb_setOb l i a b]
theorem comp_st [DecidableEq α] (hp : Plain enc av) {f : FuncId} {dec : List AV → Option (List α)} (hd : ∀ cs l, dec cs = some l → cs = l.map av) (z : α) (hcl : ∀ l : List α, (Lib.compact l).length ≤ l.length)
    (hcall : ∀ (blk cap : Nat) (zs : List α) (w : World), Go.Sort.Holds enc w blk 0 zs.toArray → zs.length ≤ 9223372036854775807 → zs.length ≤ cap →
      Calls P f #[.slice (some ⟨blk, 0, none⟩) zs.length cap] w fun e w' => e = .returned (.slice (some ⟨blk, 0, none⟩) (Lib.compact zs).length cap) ∧ ∃ q, w' = Go.Sort.putRow enc (Go.Sort.ahead w q) blk 0 (Lib.compact zs ++ List.replicate (zs.length - (Lib.compact zs).length) z).toArray)
    (hnone : ∀ (p : Option Addr) (cap : Nat) (w : World), Calls P f #[.slice p 0 cap] w fun e w' => e = .returned (.slice p 0 cap) ∧ w' = w) :
    ∀ vs σ ro r σ', compFn dec av vs σ ro = some (r, σ') → ∀ (C : Ctx) (w : World) (us : List Value), C.σ = σ → SOk C w → ro ≤ σ.length → RepAll C w vs us →
      Calls P f us.toArray w fun e w' => ∃ u C', e = .returned u ∧ C'.σ = σ' ∧ SOk C' w' ∧ Grow ro C w C' w' ∧ Rep C' w' r u := by
  intro vs σ ro r σ' h C w us hσ hs hro hrep
  subst hσ
  unfold compFn at h
  split at h
  · rename_i v
    obtain ⟨u, rfl⟩ : ∃ u, us = [u] := by
      match us, hrep with
      | [], h => simp only [RepAll] at h
      | [u], _ => exact ⟨u, rfl⟩
      | _ :: _ :: _, h => simp only [RepAll, and_false] at h
    simp only [RepAll, and_true] at hrep
    split at h
    · rename_i hn
      have := isNil_eq hn
      subst this
      simp only [Option.some.injEq, Prod.mk.injEq] at h
      obtain ⟨rfl, rfl⟩ := h
      have := nil_value hrep
      subst this
      refine Calls.mono (hnone none 0 w) ?_
      rintro e w' ⟨rfl, rfl⟩
      exact ⟨_, C, rfl, rfl, hs, Grow.refl _ _ _, hrep⟩
    · split at h
      · rename_i id l hl
        simp only [Option.some.injEq, Prod.mk.injEq] at h
        obtain ⟨rfl, rfl⟩ := h
        obtain ⟨rfl, ho, h3, h4⟩ := ownRow_at hd hl
        have := own_value hs ho hrep
        subst this
        obtain ⟨k1, k2, k3, _⟩ := hp.row hs ho
        refine Calls.mono (hcall (C.φ id) (C.κ id) l w k1 (by omega) k3) ?_
        rintro e w' ⟨rfl, q, rfl⟩
        have hc := hcl l
        generalize hcc : Lib.compact l = c at hc ⊢
        have hlen : (c ++ List.replicate (l.length - c.length) z).length = l.length := by simp; omega
        obtain ⟨j1, j2⟩ := hp.turned hs (l' := c ++ List.replicate (l.length - c.length) z) ho h3 hlen q #[]
        have eg : Go.Sort.grow (Go.Sort.putRow enc (Go.Sort.ahead w q) (C.φ id) 0 (c ++ List.replicate (l.length - c.length) z).toArray) #[] = Go.Sort.putRow enc (Go.Sort.ahead w q) (C.φ id) 0 (c ++ List.replicate (l.length - c.length) z).toArray := by
          unfold Go.Sort.grow
          rw [Array.append_empty]
        rw [eg] at j1 j2
        generalize Go.Sort.putRow enc (Go.Sort.ahead w q) (C.φ id) 0 (c ++ List.replicate (l.length - c.length) z).toArray = w1 at j1 j2 ⊢
        generalize hC1 : C.put id (.arr (c ++ List.replicate (l.length - c.length) z).length 1 ((c ++ List.replicate (l.length - c.length) z).map av)) (C.φ id) (C.κ id) = C1 at j1 j2
        have hφ : C1.φ id = C.φ id := by subst hC1; simp [Ctx.put, upd]
        have hκ : C1.κ id = C.κ id := by subst hC1; simp [Ctx.put, upd]
        have ho1 : C1.σ[id]? = some (.arr (c ++ List.replicate (l.length - c.length) z).length 1 ((c ++ List.replicate (l.length - c.length) z).map av)) := by
          subst hC1; exact setOb_same _ ho
        have hlen1 : C1.σ.length = C.σ.length := by subst hC1; simp [Ctx.put, setOb_length]
        obtain ⟨m1, m2, m3, m4, vs1, e1, m5, m6⟩ := hp.row j1 ho1
        obtain ⟨n1, n2⟩ := anew_one j1 (o' := .arr c.length 1 (c.map av)) ho1 h3 (fun hk => ⟨by simp, hp.ones c, by rw [hlen] at m3; omega, m4, c.map enc, (List.replicate (l.length - c.length) z).map enc ++ vs1, e1, by rw [m5, List.map_append, List.append_assoc], by
          rw [hlen] at m6
          simp only [List.length_map, List.length_append, List.length_replicate]
          omega, hp.all _ _ c⟩)
        refine ⟨_, C1.anew id (.arr c.length 1 (c.map av)), rfl, ?_, n1, Grow.trans j1 j2 n2, ?_⟩
        · subst hC1
          simp only [Ctx.anew, Ctx.put, setOb_setOb]
        · simp only [Rep]
          refine ⟨⟨_, _, rfl⟩, ?_⟩
          unfold RowIs
          have hget : (C1.anew id (.arr c.length 1 (c.map av))).σ[C.σ.length]? = some (.arr c.length 1 (c.map av)) := by
            rw [← hlen1]
            simp only [Ctx.anew]
            rw [List.getElem?_append_right (by rw [setOb_length]; exact Nat.le_refl _), setOb_length]
            simp
          rw [hget]
          simp only
          rw [← hlen1]
          simp only [Ctx.anew, upd_same, hφ, hκ]
          exact ⟨Nat.le_refl _, fun _ => trivial⟩
      · cases h
  · cases h
end
end Go.Vm
end
/- Numeral: Sort, Compact and Join, as functions that are not walked. -/
section
open Go Go.Vm Go.Proofs
open Go.RowKit (Below)
namespace Go.Proofs.Num
def avB (l : List UInt8) : AV := .str ⟨l.toArray⟩
theorem plainI : Plain (Value.int .i64) i6 := ⟨fun C w x => by simp only [Rep], fun C w x u h => by simpa only [Rep] using h, fun _ => rfl⟩
theorem plainS : Plain encStr avB := ⟨fun C w x => by simp only [Rep, avB], fun C w x u h => by simpa only [Rep, avB] using h, fun _ => rfl⟩
theorem plainA : Plain Value.string AV.str := ⟨fun C w x => by simp only [Rep], fun C w x u h => by simpa only [Rep] using h, fun _ => rfl⟩
def bytsO (cs : List AV) : Option (List (List UInt8)) := match strsO cs with
  | some l => some (l.map (·.data.toList))
  | none => none
theorem bytsO_eq (cs : List AV) (l : List (List UInt8)) (h : bytsO cs = some l) : cs = l.map avB := by
  unfold bytsO at h
  split at h
  · rename_i m hm
    simp only [Option.some.injEq] at h
    subst h
    rw [strsO_eq hm, List.map_map]
    apply List.map_congr_left
    intro x _
    simp [avB]
  · cases h
theorem compact_le {α : Type} [Inhabited α] [DecidableEq α] (l : List α) : (Lib.compact l).length ≤ l.length := by
  unfold Lib.compact Lib.compactUpTo
  rw [List.length_map]
  exact Nat.le_trans (List.length_filter_le _ _) (by simp)
def leI (x y : Int) : Bool := decide (x ≤ y)
def leB (x y : List UInt8) : Bool := decide (x ≤ y)
def joinB (l : List ByteArray) (sep : ByteArray) : List UInt8 := Lib.join (l.map (·.data.toList)) sep.data.toList
def joinFn : List AV → Option AV
  | [a, .str sep] => match isSO a with
    | some l => if l.length ≤ 140737488355328 ∧ (joinB l sep).length ≤ 140737488355328 then some (.str ⟨(joinB l sep).toArray⟩) else none
    | none => none
  | _ => none
def st16 (f : FuncId) : Option (List AV → List Ob → Nat → Option (AV × List Ob)) :=
  if f = 40 then some (sortFn intsO i6 leI) else if f = 41 then some (compFn intsO i6) else if f = 44 then some (sortFn bytsO avB leB) else if f = 45 then some (compFn bytsO avB) else none
def pure16 (f : FuncId) : Option (List AV → Option AV) := if f = 47 then some validFn else if f = 46 then some joinFn else none
def X16 (l : List Nat) : Ext := { pureFn := pure16, stFn := st16, adopt := fun f => memN f l, dom := dom15, fg := fun _ _ => [] }
theorem rep_isS [Fixed] {C : Ctx} {w : World} {a : AV} {l : List ByteArray} {u : Value} (h : IsS a l) (hr : Rep C w a u) :
    ∃ p c, u = .slice p l.length c ∧ l.length ≤ c ∧ (0 < l.length → ∃ bk o, p = some ⟨bk, o, none⟩ ∧ bk < w.heap.size ∧ ∀ (j : Nat) x, l[j]? = some x → w.cell? ⟨bk, o + j, none⟩ = some (.string x)) := by
  rcases h with ⟨k, rfl⟩ | ⟨rfl, k, sz, cs, rfl⟩
  · simp only [Rep] at hr
    obtain ⟨_, _, a, cap, rfl, h3, _, _, _, h7⟩ := hr
    refine ⟨a, cap, rfl, h3, fun h0 => ?_⟩
    obtain ⟨b, o, us, rfl, hb, _, hh, hrep⟩ := h7 h0
    refine ⟨b, o, rfl, hb, fun j x hx => ?_⟩
    have hu : us = l.map Value.string := plainA.allBack l us hrep
    subst hu
    exact hh j _ (by rw [List.getElem?_map, hx]; rfl)
  · simp only [Rep] at hr
    obtain ⟨_, _, a, cap, rfl, h3, _⟩ := hr
    exact ⟨a, cap, rfl, by simp, fun h => by simp at h⟩
theorem bodied16 {f : FuncId} {fn : Func} (hf : Tryd.prog.funcs[f]? = some fn) (h1 : fn.body.isSome = true) (h2 : decide (fn.name = "runtime.NumGoroutine") = false) : Bodied Tryd.prog f := ⟨fn, hf, h1, of_decide_eq_false h2⟩
theorem ext16 {W : World} (hT : Lib.Utf8Tabs 0 1 W) (l : List Nat) : @ExtOk (tabFix W) Tryd.prog (X16 l) := by
  letI := tabFix W
  have h15 := ext15 hT l
  refine ⟨h15.mixed, h15.dom, ?_, ?_⟩
  · intro f g hg
    simp only [X16, pure16] at hg
    split at hg
    · rename_i e
      exact h15.pure f g (by simp only [X15]; rw [if_pos e]; exact hg)
    · split at hg
      · rename_i e
        subst e
        simp only [Option.some.injEq] at hg
        subst hg
        refine ⟨bodied16 Tryd.func46 (by kernel_rfl) (by kernel_rfl), ?_⟩
        intro vs r hlt hr C w us hs hrep
        clear hlt
        unfold joinFn at hr
        split at hr
        · rename_i a sep
          split at hr
          · rename_i l' hl
            split at hr
            · rename_i hc
              simp only [Option.some.injEq] at hr
              subst hr
              obtain ⟨u, rfl, hu⟩ : ∃ u, us = [u, .string sep] ∧ Rep C w a u := by
                match us, hrep with
                | [], h => simp only [RepAll] at h
                | [_], h => simp only [RepAll, and_false] at h
                | [u, v], h => simp only [RepAll, Rep, and_true] at h; exact ⟨u, by rw [h.2], h.1⟩
                | _ :: _ :: _ :: _, h => simp only [RepAll, and_false] at h
              obtain ⟨p, c, rfl, h3, h4⟩ := rep_isS (isSO_is hl) hu
              by_cases h0 : 0 < l'.length
              · obtain ⟨bk, o, rfl, hb, hcells⟩ := h4 h0
                refine Calls.mono (Any.strings_Join Tryd.laysJoin Tryd.joinExtra bk o c l' sep w hcells hb hc.1 h3 hc.2) ?_
                rintro e w' ⟨rfl, hb⟩
                exact ⟨_, rfl, hb.os, hb.tape, hb.output, hb.size, fun x hx => hb.block x hx, by simp only [Rep]; rfl⟩
              · have : l' = [] := List.eq_nil_of_length_eq_zero (by omega)
                subst this
                refine Calls.mono (Any.strings_Join_none Tryd.laysJoin Tryd.joinExtra p c sep w) ?_
                rintro e w' ⟨rfl, rfl⟩
                exact ⟨_, rfl, rfl, rfl, rfl, Nat.le_refl _, fun _ _ => rfl, by simp only [Rep]; rfl⟩
            · cases hr
          · cases hr
        · cases hr
      · cases hg
  · intro f g hg
    simp only [X16, st16] at hg
    split at hg
    · rename_i e
      subst e
      simp only [Option.some.injEq] at hg
      subst hg
      exact ⟨bodied16 Tryd.func40 (by kernel_rfl) (by kernel_rfl), sort_st plainI (fun _ _ => intsO_eq) (fun blk cap zs w h1 h2 h3 => Any.slices_Sort_int Tryd.laysSortI blk 0 cap zs w h1 h2 h3) (fun p cap w => Any.slices_Sort_int_none Tryd.laysSortI p cap w)⟩
    · split at hg
      · rename_i e
        subst e
        simp only [Option.some.injEq] at hg
        subst hg
        exact ⟨bodied16 Tryd.func41 (by kernel_rfl) (by kernel_rfl), comp_st plainI (fun _ _ => intsO_eq) 0 compact_le (fun blk cap zs w h1 h2 h3 => Any.slices_Compact_int Tryd.laysCompI blk 0 cap zs w h1 h2 h3) (fun p cap w => Any.slices_Compact_int_empty Tryd.laysCompI p cap w)⟩
      · split at hg
        · rename_i e
          subst e
          simp only [Option.some.injEq] at hg
          subst hg
          exact ⟨bodied16 Tryd.func44 (by kernel_rfl) (by kernel_rfl), sort_st plainS bytsO_eq (fun blk cap zs w h1 h2 h3 => Any.slices_Sort_string Tryd.laysSortS blk 0 cap zs w h1 h2 h3) (fun p cap w => Any.slices_Sort_string_none Tryd.laysSortS p cap w)⟩
        · split at hg
          · rename_i e
            subst e
            simp only [Option.some.injEq] at hg
            subst hg
            exact ⟨bodied16 Tryd.func45 (by kernel_rfl) (by kernel_rfl), comp_st plainS bytsO_eq [] compact_le (fun blk cap zs w h1 h2 h3 => Any.slices_Compact_string Tryd.laysCompS blk 0 cap zs w h1 h2 h3) (fun p cap w => Any.slices_Compact_string_empty Tryd.laysCompS p cap w)⟩
          · cases hg
end Go.Proofs.Num
end
/- Numeral: Parse, joined. -/
section
open Go Go.Vm Go.Proofs
namespace Go.Proofs.Num
theorem prs_p (s : NSys) (t : List ByteArray) (r1 : AV) (r2 : AV) (r : AV) (S1 : List Ob) (S2 : List Ob) (S3 : List Ob) (Sr : List Ob) (X : Ext) (call : Caller) (lf : Nat)
  (h0 : callv X call false 22 [AV.agg (sysC s)] [Ob.cells (sysC s)] 0 = some (bo true, [Ob.cells (sysC s)]))
  (h1 : callv X call false 39 [AV.agg (sysC s), lro (List.length t) 1 (List.map st t), i6 3] [Ob.cells (sysC s)] 0 = some (r1, Ob.cells (sysC s) :: S1))
  (h2 : callv X call false 40 [r1] (Ob.cells (sysC s) :: S1) 0 = some (AV.tup [], Ob.cells (sysC s) :: S2))
  (h3 : callv X call false 41 [r1] (Ob.cells (sysC s) :: S2) 0 = some (r2, Ob.cells (sysC s) :: S3))
  (h4 : vend1 [] 0 (Ob.cells (sysC s) :: S3) [r2] = some (r, Sr)) : vbody Tryd.prog X call lf noFg Tryd.f20 (codeOf Tryd.f20) [AV.agg (sysC s), lro (List.length t) 1 (List.map st t)] [] 0 = some (r, Sr) :=
  along_sound (ans := [(5, Ans.v (bo true)), (12, Ans.c r1 (Ob.cells (sysC s) :: S1)), (16, Ans.c (AV.tup []) (Ob.cells (sysC s) :: S2)), (19, Ans.c r2 (Ob.cells (sysC s) :: S3)), (21, Ans.c r Sr)]) (by kernel_rfl) (And.intro h0 (And.intro h1 (And.intro h2 (And.intro h3 (And.intro h4 trivial)))))


/-! ### Parse, joined -/
abbrev big : Nat := 140737488355328
theorem strsX_lst (l : List ByteArray) : strsX (lst l) = some l := strsX_of l
theorem roAll_two (a b : List ByteArray) : roAll [lst a, lst b] = [lst a, lst b] := by
  simp only [roAll, roA, roAll_strs]
  have e : ∀ n : Nat, (if n = 0 then 1 else 1) = 1 := fun n => by split <;> rfl
  simp only [e]
theorem roA_lst (a : List ByteArray) : roA (lst a) = lst a := by
  simp only [roA, roAll_strs]
  have e : ∀ n : Nat, (if n = 0 then 1 else 1) = 1 := fun n => by split <;> rfl
  simp only [e]
def eqS : List AV → Option AV
  | [a, b] => match strsX a, strsX b with
    | some l, some m => if l.length ≤ big then some (bo (textsL l m)) else none
    | _, _ => none
  | _ => none
def headS : List AV → Option AV
  | [.agg cs, .int .i64 q, .int .i64 k] => match sysO cs with
    | some s => match headL s q k with
      | some l => some (lst l)
      | none => none
    | none => none
  | _ => none
def restS : List AV → Option AV
  | [.agg cs, a, b] => match sysO cs, strsX a, strsX b with
    | some s, some t, some h => if t.length ≤ big ∧ h.length ≤ big then some (restV s t h) else none
    | _, _, _ => none
  | _ => none
def T15a : Vm.Spec := addS T14 60 fun vs => eqS (roAll vs)
def T15b : Vm.Spec := addS T15a 59 fun vs => headS (roAll vs)
def T15 : Vm.Spec := addS T15b 58 fun vs => restS (roAll vs)
theorem pure_restV (s : NSys) (t h : List ByteArray) : (restV s t h).pure = true := by
  unfold restV
  split
  · rfl
  · rename_i o b _
    simp [AV.pure, AV.lt, AV.ltAll, lt_strs]
theorem unfr_restV (s : NSys) (t h : List ByteArray) : unfr (restV s t h) = restV s t h := by
  unfold restV
  split <;> rfl
section
variable {T : Vm.Spec} {dr : Bool} {σ : List Ob} {ro : Nat}
theorem q_eq (hT : ∀ vs, T 60 vs = eqS (roAll vs)) (a b : List ByteArray) (h : a.length ≤ big) : callv (X15 []) (callerOf T) dr 60 [lst a, lst b] σ ro = some (bo (textsL a b), σ) := by
  refine call_T (r := bo (textsL a b)) rfl rfl (lt_two (lt_lst a) (lt_lst b)) ?_ rfl rfl
  rw [hT, roAll_two]
  simp only [eqS, strsX_lst, h, if_true]
theorem q_head (hT : ∀ vs, T 59 vs = headS (roAll vs)) {s : NSys} (hg : Good s) {q : Int} {k : Nat} (h0 : 0 ≤ q) (h1 : q < s.base) (hk : k ≤ 2) : callv (X15 []) (callerOf T) dr 59 [AV.agg (sysC s), i6 q, i6 (k : Int)] σ ro = some (lst (headW s q k), σ) := by
  refine call_T (r := lst (headW s q k)) rfl rfl (by simp [AV.ltAll, AV.lt, lt_sysC]) ?_ (lt_lst _) rfl
  rw [hT]
  simp only [roAll, roA, roAll_sysC, headS, sysO_sysC, headL_eq hg h0 h1 hk]
theorem q_rest (hT : ∀ vs, T 58 vs = restS (roAll vs)) {s : NSys} (a b : List ByteArray) (h1 : a.length ≤ big) (h2 : b.length ≤ big) : callv (X15 []) (callerOf T) dr 58 [AV.agg (sysC s), lst a, lst b] σ ro = some (restV s a b, σ) := by
  refine call_T (r := restV s a b) rfl rfl (by simp [AV.ltAll, AV.lt, lt_sysC, lt_strs]) ?_ (pure_restV s a b) (unfr_restV s a b)
  rw [hT]
  have e : roAll [AV.agg (sysC s), lst a, lst b] = [AV.agg (sysC s), lst a, lst b] := by
    have := roAll_two a b
    simp only [roAll] at this ⊢
    rw [this]
    simp only [roA, roAll_sysC]
  rw [e]
  simp only [restS, sysO_sysC, strsX_lst]
  rw [if_pos ⟨h1, h2⟩]
theorem q_less (hT : ∀ vs, T 35 vs = lessS (roAll vs)) {s : NSys} (q p r : Int) : callv (X15 []) (callerOf T) dr 35 [AV.agg (sysC s), i6 q, i6 p, i6 r] σ ro = some (bo (lessL s q p r), σ) := by
  refine call_T (r := bo (lessL s q p r)) rfl rfl (by simp [AV.ltAll, AV.lt, lt_sysC]) ?_ rfl rfl
  rw [hT]
  simp only [roAll, roA, roAll_sysC, lessS, sysO_sysC]
end
theorem T15_ok [Fixed] (hX : ∀ l, ExtOk Tryd.prog (X15 l)) : SpecOk Tryd.prog T15 := by
  have ha : SpecOk Tryd.prog T15a := by
    refine (T14_ok hX).addRo ?_
    intro vs r h
    unfold eqS at h
    split at h
    · split at h
      · rename_i l m hl hm
        split at h
        · rename_i hk
          simp only [Option.some.injEq] at h
          subst h
          rw [strsX_eq hl, strsX_eq hm]
          exact run_at (hX []) (T14_ok hX) rfl Tryd.func60 rfl rfl (eq_spec (X15 []) (callerOf T14) (l.length + 1) hk (by omega))
        · cases h
      · cases h
    · cases h
  have hb : SpecOk Tryd.prog T15b := by
    refine ha.addRo ?_
    intro vs r h
    unfold headS at h
    split at h
    · split at h
      · rename_i s hs
        split at h
        · rename_i l hl
          simp only [Option.some.injEq] at h
          subst h
          rw [sysO_eq hs]
          exact isS_call (.inl ⟨_, rfl⟩) (run_at (hX []) ha rfl Tryd.func59 rfl (by simp [AV.pure, AV.lt, lt_strs]) (head_spec hl (X15 []) (callerOf T15a) 1))
        · cases h
      · cases h
    · cases h
  refine hb.addRo ?_
  intro vs r h
  unfold restS at h
  split at h
  · split at h
    · rename_i s t hd hs ht hh
      split at h
      · rename_i hc
        simp only [Option.some.injEq] at h
        subst h
        rw [sysO_eq hs, strsX_eq ht, strsX_eq hh]
        exact run_at (hX []) hb rfl Tryd.func58 rfl (pure_restV s t hd) (rest_spec (X := X15 []) (call := callerOf T15b) (lf := 1) s hc.1 hc.2 fun a b σ ro dr h => q_eq (fun _ => rfl) a b h)
      · cases h
    · cases h
  · cases h
def subP : List AV → Option AV
  | [.agg cs, a, .int .i64 q, .int .i64 p, .int .i64 (.ofNat k)] => match sysO cs, strsX a with
    | some s, some t => if validL s = true ∧ t.length ≤ big ∧ 0 ≤ q ∧ q < s.base ∧ k ≤ 2 ∧ p = s.base ^ (k + 1) then some (lsi (subQ s t q p k)) else none
    | _, _ => none
  | _ => none
def T16 : Vm.Spec := addS T15 49 fun vs => subP (roAll vs)
theorem T16_ok [Fixed] (hX : ∀ l, ExtOk Tryd.prog (X15 l)) : SpecOk Tryd.prog T16 := by
  refine (T15_ok hX).addRo ?_
  intro vs r h
  unfold subP at h
  split at h
  · split at h
    · rename_i s t hs ht
      split at h
      · rename_i hc
        obtain ⟨hv, h1, h2, h3, h4, rfl⟩ := hc
        simp only [Option.some.injEq] at h
        subst h
        rw [sysO_eq hs, strsX_eq ht]
        obtain ⟨σ', hrun⟩ := sub_spec (X := X15 []) (call := callerOf T15) (lf := 101) (good_of hv) (t := t) (by omega) h4 h2 h3 h1 (fun a b σ ro dr h => q_eq (fun _ => rfl) a b h) (fun q σ ro dr h0 h1 => q_head (fun _ => rfl) (good_of hv) h0 h1 h4)
        exact rowV_call (run_at (hX []) (T15_ok hX) rfl Tryd.func49 rfl (pure_rowV _) hrun)
      · cases h
    · cases h
  · cases h
def numP (m : Nat) : List AV → Option AV
  | [.agg cs, a, .int .i64 (.ofNat n)] => match sysO cs, strsX a with
    | some s, some t => if validL s = true ∧ t.length ≤ big ∧ n ≤ m then some (lsi (numQ s n t)) else none
    | _, _ => none
  | _ => none
def regP (m : Nat) : List AV → Option AV
  | [.agg cs, a, .int .i64 q, .int .i64 p, .int .i64 (.ofNat k)] => match sysO cs, strsX a with
    | some s, some t => if validL s = true ∧ t.length ≤ big ∧ 0 ≤ q ∧ q < s.base ∧ k ≤ m ∧ p = s.base ^ (k + 1) then some (lsi (regQ s (numQ s k) t q p k)) else none
    | _, _ => none
  | _ => none
/-- numbers up to a depth, and what it is told of regular. -/
def TR48 (T : Vm.Spec) (m : Nat) : Vm.Spec := addS T 48 fun vs => regP m (roAll vs)
def TN39 (T : Vm.Spec) (m : Nat) : Vm.Spec := addS T 39 fun vs => numP m (roAll vs)
def TN0 : Vm.Spec := TN39 T16 0
def TN1 : Vm.Spec := TN39 (TR48 TN0 0) 1
def TN2 : Vm.Spec := TN39 (TR48 TN1 1) 2
def T17 : Vm.Spec := TR48 TN2 2
/-- What lies below in T. -/
structure Low (T : Vm.Spec) : Prop where
  q60 : ∀ vs, T 60 vs = eqS (roAll vs)
  q59 : ∀ vs, T 59 vs = headS (roAll vs)
  q58 : ∀ vs, T 58 vs = restS (roAll vs)
  q49 : ∀ vs, T 49 vs = subP (roAll vs)
  q35 : ∀ vs, T 35 vs = lessS (roAll vs)
theorem low16 : Low T16 := ⟨fun _ => rfl, fun _ => rfl, fun _ => rfl, fun _ => rfl, fun _ => rfl⟩
theorem Low.reg {T : Vm.Spec} (h : Low T) (m : Nat) : Low (TR48 T m) := ⟨h.q60, h.q59, h.q58, h.q49, h.q35⟩
theorem Low.num {T : Vm.Spec} (h : Low T) (m : Nat) : Low (TN39 T m) := ⟨h.q60, h.q59, h.q58, h.q49, h.q35⟩
theorem roAll_num (s : NSys) (t : List ByteArray) (x : Int) : roAll [AV.agg (sysC s), lst t, i6 x] = [AV.agg (sysC s), lst t, i6 x] := by
  simp only [roAll, roA_lst]
  simp only [roA, roAll_sysC]
theorem roAll_reg (s : NSys) (t : List ByteArray) (x y z : Int) : roAll [AV.agg (sysC s), lst t, i6 x, i6 y, i6 z] = [AV.agg (sysC s), lst t, i6 x, i6 y, i6 z] := by
  simp only [roAll, roA_lst]
  simp only [roA, roAll_sysC]
theorem TR48_ok [Fixed] (hX : ∀ l, ExtOk Tryd.prog (X15 l)) {T : Vm.Spec} (hT : SpecOk Tryd.prog T) (hl : Low T) {m : Nat} (hm : m ≤ 2) (h39 : ∀ vs, T 39 vs = numP m (roAll vs)) : SpecOk Tryd.prog (TR48 T m) := by
  refine hT.addRo ?_
  intro vs r h
  unfold regP at h
  split at h
  · rename_i k
    split at h
    · rename_i s t hs ht
      split at h
      · rename_i hc
        obtain ⟨hv, h1, h2, h3, h4, rfl⟩ := hc
        simp only [Option.some.injEq] at h
        subst h
        rw [sysO_eq hs, strsX_eq ht]
        have hk : k ≤ 2 := by omega
        have hb := bnd_le (k := k) (by omega)
        obtain ⟨σ', r, hrun, hr⟩ := reg_spec (X := X15 []) (call := callerOf T) (lf := 1000001) (good_of hv) (t := t) (N := numQ s k) hk h2 h3 h1 (fun t => Nat.le_trans (numQ_len (good_of hv) k t) hb) (by omega)
          (fun q σ ro dr h0 h1 => q_head hl.q59 (good_of hv) h0 h1 hk)
          (fun a b σ ro dr h1 h2 => q_rest hl.q58 a b h1 h2)
          (fun q p r σ ro dr => q_less hl.q35 q p r)
          (fun u σ ro dr hu => by
            refine call_T (r := lsi (numQ s k u)) rfl rfl (by simp [AV.ltAll, AV.lt, lt_sysC, lt_strs]) ?_ (lt_lsi _) rfl
            rw [h39, roAll_num]
            simp only [numP, sysO_sysC, strsX_lst]
            rw [if_pos ⟨hv, hu, h4⟩])
        rcases hr with rfl | ⟨x, rfl, hx⟩
        · exact rowV_call (run_at (hX []) hT rfl Tryd.func48 rfl (pure_rowV _) hrun)
        · rw [hx]
          exact ro_call (run_at (hX []) hT rfl Tryd.func48 rfl rfl hrun)
      · cases h
    · cases h
  · cases h
theorem num_run {T : Vm.Spec} (hl : Low T) {m : Nat} (hm : m ≤ 3) (h48 : ∀ k, m = k + 1 → ∀ vs, T 48 vs = regP k (roAll vs)) {s : NSys} (hv : validL s = true) {t : List ByteArray} (ht : t.length ≤ big) {n : Nat} (hn : n ≤ m) :
    ∃ σ', vbody Tryd.prog (X15 []) (callerOf T) 1000001 fg39 Tryd.f39 (codeOf Tryd.f39) [AV.agg (sysC s), lst t, i6 (n : Int)] [] 0 = some (rowV (numQ s n t), σ') := by
  refine num_spec (good_of hv) (by omega) ht (by omega) ⟨?_, ?_⟩
  · intro k j σ hk hj
    obtain ⟨m', rfl⟩ : ∃ m', m = m' + 1 := ⟨m - 1, by omega⟩
    refine call_T (r := lsi (regQ s (numQ s k) t ((j : Int) + 1) (s.base ^ (k + 1)) k)) rfl rfl (by simp [AV.ltAll, AV.lt, lt_sysC, lt_strs]) ?_ (lt_lsi _) rfl
    rw [h48 m' rfl, roAll_reg]
    simp only [regP, sysO_sysC, strsX_lst]
    rw [if_pos ⟨hv, ht, by omega, hj, by omega, trivial⟩]
  · intro k j σ hk hj
    refine call_T (r := lsi (subQ s t ((j : Int) + 1) (s.base ^ (k + 1)) k)) rfl rfl (by simp [AV.ltAll, AV.lt, lt_sysC, lt_strs]) ?_ (lt_lsi _) rfl
    rw [hl.q49, roAll_reg]
    simp only [subP, sysO_sysC, strsX_lst]
    rw [if_pos ⟨hv, ht, by omega, hj, by omega, trivial⟩]
theorem TN39_ok [Fixed] (hX : ∀ l, ExtOk Tryd.prog (X15 l)) {T : Vm.Spec} (hT : SpecOk Tryd.prog T) (hl : Low T) {m : Nat} (hm : m ≤ 3) (h48 : ∀ k, m = k + 1 → ∀ vs, T 48 vs = regP k (roAll vs)) : SpecOk Tryd.prog (TN39 T m) := by
  refine hT.addRo ?_
  intro vs r h
  unfold numP at h
  split at h
  · rename_i n
    split at h
    · rename_i s t hs ht
      split at h
      · rename_i hc
        obtain ⟨hv, h1, h2⟩ := hc
        simp only [Option.some.injEq] at h
        subst h
        rw [sysO_eq hs, strsX_eq ht]
        obtain ⟨σ', hrun⟩ := num_run hl hm h48 hv h1 h2
        exact rowV_call (run_at (hX []) hT rfl Tryd.func39 rfl (pure_rowV _) hrun)
      · cases h
    · cases h
  · cases h
theorem T17_ok [Fixed] (hX : ∀ l, ExtOk Tryd.prog (X15 l)) : SpecOk Tryd.prog T17 := by
  have h0 : SpecOk Tryd.prog TN0 := TN39_ok hX (T16_ok hX) low16 (by omega) (fun k e => by omega)
  have h0' : SpecOk Tryd.prog (TR48 TN0 0) := TR48_ok hX h0 (low16.num 0) (by omega) (fun _ => rfl)
  have h1 : SpecOk Tryd.prog TN1 := TN39_ok hX h0' ((low16.num 0).reg 0) (by omega) (fun k e => by cases e; exact fun _ => rfl)
  have h1' : SpecOk Tryd.prog (TR48 TN1 1) := TR48_ok hX h1 (((low16.num 0).reg 0).num 1) (by omega) (fun _ => rfl)
  have h2 : SpecOk Tryd.prog TN2 := TN39_ok hX h1' ((((low16.num 0).reg 0).num 1).reg 1) (by omega) (fun k e => by cases e; exact fun _ => rfl)
  exact TR48_ok hX h2 (((((low16.num 0).reg 0).num 1).reg 1).num 2) (by omega) (fun _ => rfl)
theorem low17 : Low T17 := (((((low16.num 0).reg 0).num 1).reg 1).num 2).reg 2
/-! ### Parse itself -/
def parseL (s : NSys) (t : List ByteArray) : List Int := Lib.compact ((numQ s 3 t).mergeSort leI)
def numP3 : List AV → Option AV
  | [.agg cs, a, .int .i64 3] => match sysO cs, strsX a with
    | some s, some t => if validL s = true ∧ t.length ≤ big then some (rowV (numQ s 3 t)) else none
    | _, _ => none
  | _ => none
def TP : Vm.Spec := addS T17 39 numP3
theorem TP_ok [Fixed] (hX : ∀ l, ExtOk Tryd.prog (X15 l)) : SpecOk Tryd.prog TP := by
  refine (T17_ok hX).add ?_
  intro vs r h
  unfold numP3 at h
  split at h
  · split at h
    · rename_i s t hs ht
      split at h
      · rename_i hc
        simp only [Option.some.injEq] at h
        subst h
        rw [sysO_eq hs, strsX_eq ht]
        obtain ⟨σ', hrun⟩ := num_run (T := T17) low17 (m := 3) (by omega) (fun k e => by cases e; exact fun _ => rfl) hc.1 hc.2 (n := 3) (by omega)
        exact run_at (hX []) (T17_ok hX) rfl Tryd.func39 rfl (pure_rowV _) hrun
      · cases h
    · cases h
  · cases h
section
variable {T : Vm.Spec} {dr : Bool} {σ : List Ob} {ro : Nat}
/-- A told call over the extended library. -/
theorem call16 {l : List Nat} {f : FuncId} {vs : List AV} {r r' : AV} (hp16 : pure16 f = none) (hs16 : st16 f = none) (ha : memN f l = false) (hl : AV.ltAll 0 vs = true) (ht : T f vs = some r) (hp : r.pure = true) (hu : unfr r = r') :
    callv (X16 l) (callerOf T) dr f vs σ ro = some (r', σ) := by
  subst hu
  have := call_spec (X := X16 l) (T := T) (dr := dr) (σ := σ) (ro := ro) hp16 hs16 hl ht hp
  rw [this]
  have e : (X16 l).adopt f = false := ha
  rw [e]
  cases dr <;> rfl
end
theorem adopt_row (c : Ob) (l : List Int) : adoptv [c] (rowV l) = (rowI l, c :: rowS l) := by
  unfold rowV rowI rowS
  by_cases h : l = []
  · rw [if_pos h, if_pos h, if_pos h]; rfl
  · rw [if_neg h, if_neg h, if_neg h]; rfl
theorem sort_row (c : Ob) {l : List Int} (hb : l.length ≤ big) {call : Caller} {L : List Nat} : callv (X16 L) call false 40 [rowI l] (c :: rowS l) 0 = some (.tup [], c :: rowS (l.mergeSort leI)) := by
  have h1 : (X16 L).pureFn 40 = none := rfl
  have h2 : (X16 L).stFn 40 = some (sortFn intsO i6 leI) := rfl
  unfold callv
  rw [h1, h2]
  have hlen : (l.mergeSort leI).length = l.length := List.length_mergeSort l
  by_cases h : l = []
  · subst h
    simp [sortFn, isNil, rowI, rowS]
  · have hs : l.mergeSort leI ≠ [] := by intro e; rw [e] at hlen; exact h (List.eq_nil_of_length_eq_zero hlen.symm)
    have e1 : rowI l = .own 1 l.length := if_neg h
    have e2 : rowS l = [.arr l.length 1 (l.map i6)] := if_neg h
    have e3 : rowS (l.mergeSort leI) = [.arr l.length 1 ((l.mergeSort leI).map i6)] := by rw [← hlen]; exact if_neg hs
    rw [e1, e2, e3]
    simp only [Bool.false_eq_true, if_false, sortFn, isNil, ownRow, List.getElem?_cons_succ, List.getElem?_cons_zero, intsO_map]
    rw [if_pos ⟨trivial, trivial, by omega, trivial, hb⟩]
    rfl
/-- What Parse's row is behind Compact. -/
def cutI (l : List Int) : AV := if l = [] then .list .nil 0 0 [] else .own 2 (Lib.compact l).length
def cutS (l : List Int) : List Ob := if l = [] then [] else [.gone, .arr (Lib.compact l).length 1 ((Lib.compact l).map i6)]
theorem comp_row (c : Ob) {l m : List Int} (hm : m.length = l.length) (hb : l.length ≤ big) {call : Caller} {L : List Nat} : callv (X16 L) call false 41 [rowI l] (c :: rowS m) 0 = some (cutI m, c :: cutS m) := by
  have h1 : (X16 L).pureFn 41 = none := rfl
  have h2 : (X16 L).stFn 41 = some (compFn intsO i6) := rfl
  unfold callv
  rw [h1, h2]
  by_cases h : l = []
  · subst h
    have : m = [] := List.eq_nil_of_length_eq_zero hm
    subst this
    simp [compFn, isNil, rowI, rowS, cutI, cutS]
  · have hs : m ≠ [] := by intro e; rw [e] at hm; exact h (List.eq_nil_of_length_eq_zero hm.symm)
    have e1 : rowI l = .own 1 m.length := by rw [hm]; exact if_neg h
    have e2 : rowS m = [.arr m.length 1 (m.map i6)] := if_neg hs
    have e3 : cutI m = .own 2 (Lib.compact m).length := if_neg hs
    have e4 : cutS m = [.gone, .arr (Lib.compact m).length 1 ((Lib.compact m).map i6)] := if_neg hs
    rw [e1, e2, e3, e4]
    simp only [Bool.false_eq_true, if_false, compFn, isNil, ownRow, List.getElem?_cons_succ, List.getElem?_cons_zero, intsO_map]
    rw [if_pos ⟨trivial, trivial, by omega, trivial, by rw [hm]; exact hb⟩]
    rfl
theorem cut_end (c : Ob) (m : List Int) : ∃ r σ', vend1 [] 0 (c :: cutS m) [cutI m] = some (r, σ') ∧ roA r = lsi (Lib.compact m) ∧ r.pure = true ∧ ∃ k n z cs, r = .list k n z cs := by
  unfold cutI cutS
  by_cases h : m = []
  · subst h
    exact ⟨_, _, rfl, rfl, rfl, _, _, _, _, rfl⟩
  · rw [if_neg h, if_neg h]
    refine ⟨.list .fresh (Lib.compact m).length 1 ((Lib.compact m).map i6), [c, .gone, .fro (Lib.compact m).length 1 ((Lib.compact m).map i6)], ?_, ?_, ?_, _, _, _, _, rfl⟩
    · unfold vend1
      simp [AV.thawAll, AV.thaw, AV.ownsAll, AV.owns, freezeIds, freezeId, setOb, resOf, oneOf, freezeOb]
    · simp only [roA, roAll_ints]
      have e : ∀ n : Nat, (if n = 0 then 1 else 1) = 1 := fun n => by split <;> rfl
      simp only [e]
    · simp [AV.pure, AV.lt, lt_ints]
def parseP : List AV → Option AV
  | [.agg cs, a] => match sysO cs, strsX a with
    | some s, some t => if okS s = true ∧ validL s = true ∧ t.length ≤ big then some (lsi (parseL s t)) else none
    | _, _ => none
  | _ => none
def T18 : Vm.Spec := addS T14 20 fun vs => parseP (roAll vs)
theorem T18_ok [Fixed] (hX : ∀ l, ExtOk Tryd.prog (X15 l)) (hY : ∀ l, ExtOk Tryd.prog (X16 l)) : SpecOk Tryd.prog T18 := by
  refine (T14_ok hX).addRo ?_
  intro vs r h
  unfold parseP at h
  split at h
  · split at h
    · rename_i s t hs ht
      split at h
      · rename_i hc
        obtain ⟨hk, hv, ht2⟩ := hc
        simp only [Option.some.injEq] at h
        subst h
        rw [sysO_eq hs, strsX_eq ht]
        have hb : (numQ s 3 t).length ≤ big := Nat.le_trans (numQ_len (good_of hv) 3 t) (Nat.le_trans (bnd_le (by omega)) (by decide))
        obtain ⟨r, σ', hend, hr1, hr2, k, n, z, cs, hr3⟩ := cut_end (Ob.cells (sysC s)) ((numQ s 3 t).mergeSort leI)
        have g0 : callv (X16 [39]) (callerOf TP) false 22 [AV.agg (sysC s)] [Ob.cells (sysC s)] 0 = some (bo true, [Ob.cells (sysC s)]) := by
          refine call16 (r := bo true) rfl rfl rfl (lt_sys s) ?_ rfl rfl
          show validS (roAll [AV.agg (sysC s)]) = _
          rw [roAll_sys]; simp only [validS, sysO_sysC, hk, hv, if_true]
        have g1 : callv (X16 [39]) (callerOf TP) false 39 [AV.agg (sysC s), lst t, i6 3] [Ob.cells (sysC s)] 0 = some (rowI (numQ s 3 t), Ob.cells (sysC s) :: rowS (numQ s 3 t)) := by
          have ht3 : TP 39 [AV.agg (sysC s), lst t, i6 3] = some (rowV (numQ s 3 t)) := by
            show numP3 [AV.agg (sysC s), lst t, i6 3] = _
            simp only [numP3, sysO_sysC, strsX_lst]
            rw [if_pos ⟨hv, ht2⟩]
          have := call_spec (X := X16 [39]) (T := TP) (dr := false) (σ := [Ob.cells (sysC s)]) (ro := 0) (f := 39) rfl rfl (by simp [AV.ltAll, AV.lt, lt_sysC, lt_strs]) ht3 (pure_rowV _)
          rw [this]
          have e : (X16 [39]).adopt 39 = true := rfl
          rw [e]
          simp only [Bool.not_false, Bool.and_true, if_true]
          rw [adopt_row]
        have hrun := prs_p s t _ _ _ _ _ _ _ (X16 [39]) (callerOf TP) 1 g0 g1 (sort_row _ hb) (comp_row _ (List.length_mergeSort _) hb) hend
        have := run_at (hY [39]) (TP_ok hX) rfl Tryd.func20 rfl hr2 hrun
        rw [hr3] at this
        have h2 := ro_call this
        rw [← hr3, hr1] at h2
        exact h2
      · cases h
    · cases h
  · cases h
/-- What is known of another function than Parse goes on. -/
theorem at18 {f : FuncId} (h20 : f ≠ 20) {vs : List AV} {r : AV} (h : T13 f vs = some r) : T18 f vs = some r := by
  have h14 := has14.at_ f vs r h
  unfold T18 addS
  rw [if_neg h20]
  exact h14
theorem callv_at {T U : Vm.Spec} {f : FuncId} (hT : ∀ vs r, T f vs = some r → U f vs = some r) {vs : List AV} {r : AV} {dr : Bool} {σ : List Ob} {ro : Nat} {l : List Nat} (hl : AV.ltAll 0 vs = true) (hf : Nat.beq f 47 = false) (h : callv (X15 l) (callerOf T) dr f vs σ ro = some (r, σ)) :
    callv (X15 l) (callerOf U) dr f vs σ ro = some (r, σ) := by
  have h1 : (X15 l).pureFn f = none := by
    simp only [X15]
    rw [if_neg (fun e => by rw [e] at hf; cases hf)]
  have h2 : (X15 l).stFn f = none := rfl
  unfold callv at h ⊢
  rw [h1, h2] at h ⊢
  simp only [hl, if_true, callerOf] at h ⊢
  cases ht : T f vs with
  | none => rw [ht] at h; cases h
  | some x => rw [hT vs x ht]; rw [ht] at h; exact h
end Go.Proofs.Num
end
/- Numeral: what Parse answers, in plain words. -/
section
open Go Go.Vm Go.Proofs
namespace Go.Proofs.Num

/-! ### equality of texts -/
theorem toList_inj {x y : ByteArray} (h : (x.toList == y.toList) = true) : x = y := by
  have h' : x.toList = y.toList := by simpa using h
  rw [Lib.toList_data, Lib.toList_data] at h'
  exact Go.WideShapes.bytes_inj h'
theorem textsL_iff : ∀ {l m : List ByteArray}, textsL l m = true ↔ l = m
  | [], [] => by simp [textsL]
  | x :: l, y :: m => by
    simp only [textsL, Bool.and_eq_true, textsL_iff (l := l) (m := m), List.cons.injEq]
    refine and_congr_left' ⟨toList_inj, fun h => by rw [h]; simp⟩
  | [], _ :: _ => by simp [textsL]
  | _ :: _, [] => by simp [textsL]
theorem eqAt_iff {o : List ByteArray} {i : Nat} {w : ByteArray} : eqAt o i w = true ↔ o[i]? = some w := by
  unfold eqAt
  cases h : o[i]? with
  | none => simp
  | some x => exact ⟨fun e => by rw [toList_inj e], fun e => by simp only [Option.some.injEq] at e; rw [e]; simp⟩
theorem eqW_iff {x y : ByteArray} : eqW x y = true ↔ x = y := ⟨toList_inj, fun h => by subst h; simp [eqW]⟩
/-! ### the words of a number, by its parts -/
section
variable {s : NSys}
theorem say_dg (hg : Good s) (k : Nat) {n : Int} (h0 : 0 ≤ n) (hn : n < s.base) : sayO s (k + 1) n = some [s.digits.getD n.toNat ByteArray.empty] := by
  have hl : n.toNat < s.digits.length := by have := hg.dig; omega
  simp only [sayO]
  rw [if_pos hn, if_pos h0, List.getD_eq_getElem?_getD, List.getElem?_eq_getElem hl]
  rfl
theorem pw_at (hg : Good s) {k : Nat} (hk : k ≤ 2) : s.powers[k]? = some (s.powers.getD k ByteArray.empty) := by
  have h2 : k < s.powers.length := by have := hg.pow; omega
  rw [List.getD_eq_getElem?_getD, List.getElem?_eq_getElem h2]
  rfl
theorem headO_W (hg : Good s) (d : Nat) {q : Int} {k : Nat} (h0 : 0 ≤ q) (h1 : q < s.base) : headO s (d + 1) q (s.powers.getD k ByteArray.empty) = some (headW s q k) := by
  unfold headO headW
  rw [say_dg hg d h0 h1]
  by_cases hc : q = 1 ∧ s.om = true
  · rw [if_pos hc, if_neg (by rw [hc.1, hc.2]; decide)]
  · rw [if_neg hc, if_pos (by
      by_cases hq : q = 1
      · have : s.om = false := by
          cases ho : s.om with
          | true => exact absurd ⟨hq, ho⟩ hc
          | false => rfl
        rw [this]; simp
      · simp [hq])]
    rfl
theorem sayW_head (hg : Good s) (d : Nat) {q : Int} {k : Nat} (hk : k ≤ 2) (h0 : 1 ≤ q) (h1 : q < s.base) : sayO s (d + 2) (q * s.base ^ (k + 1)) = some (headW s q k) := by
  rw [say_mult_eq hg hk h0 h1 (pw_at hg hk), headO_W hg d (by omega) h1]
/-- A number between a power and the next. -/
theorem decomp (hg : Good s) {q r : Int} {k : Nat} (hk : k ≤ 2) (q0 : 1 ≤ q) (q1 : q < s.base) (r0 : 0 ≤ r) (r1 : r < s.base ^ (k + 1)) (h9 : q * s.base ^ (k + 1) + r ≤ 9999) :
    s.base ≤ q * s.base ^ (k + 1) + r ∧ powK s (q * s.base ^ (k + 1) + r) = k ∧ w6 ((q * s.base ^ (k + 1) + r).tdiv (s.base ^ (k + 1))) = q ∧ (q * s.base ^ (k + 1) + r).tmod (s.base ^ (k + 1)) = r := by
  obtain ⟨b1, b2⟩ := base_pow hg hk
  have hbase := hg.base
  have hlo : s.base ^ (k + 1) ≤ q * s.base ^ (k + 1) := by
    have : 1 * s.base ^ (k + 1) ≤ q * s.base ^ (k + 1) := Int.mul_le_mul_of_nonneg_right q0 (by omega)
    omega
  have hup : q * s.base ^ (k + 1) + s.base ^ (k + 1) ≤ s.base ^ (k + 2) := by
    have e : s.base ^ (k + 2) = s.base * s.base ^ (k + 1) := by rw [Int.pow_succ, Int.mul_comm]
    have h := Int.mul_le_mul_of_nonneg_right (show q + 1 ≤ s.base by omega) (show 0 ≤ s.base ^ (k + 1) by omega)
    rw [Int.add_mul, Int.one_mul] at h
    omega
  have hb : s.base ≤ q * s.base ^ (k + 1) + r := by omega
  have hK : powK s (q * s.base ^ (k + 1) + r) = k := by
    obtain ⟨p1, p2⟩ := powK_spec hg hb h9
    generalize powK s (q * s.base ^ (k + 1) + r) = j at p1 p2
    by_cases h1 : j < k
    · have := pow_mono hg (show j + 2 ≤ k + 1 by omega)
      omega
    · by_cases h2 : k < j
      · have := pow_mono hg (show k + 2 ≤ j + 1 by omega)
        omega
      · omega
  have hp : 0 < s.base ^ (k + 1) := by omega
  generalize s.base ^ (k + 1) = p at *
  have hn0 : 0 ≤ q * p + r := by omega
  have hdm := (Int.ediv_emod_unique (a := q * p + r) (b := p) (r := r) (q := q) hp).2 ⟨by rw [Int.mul_comm]; omega, r0, r1⟩
  refine ⟨hb, hK, ?_, ?_⟩
  · rw [Int.tdiv_eq_ediv_of_nonneg hn0, hdm.1, w6_id (by omega) (by omega)]
  · rw [Int.tmod_eq_emod_of_nonneg hn0, hdm.2]
theorem sayW_less (hg : Good s) {q r : Int} {k : Nat} (hk : k ≤ 2) (q0 : 1 ≤ q) (q1 : q < s.base) (r0 : 0 ≤ r) (r1 : r < s.base ^ (k + 1)) (h9 : q * s.base ^ (k + 1) + r ≤ 9999) (hl : lessL s q (s.base ^ (k + 1)) r = true) :
    sayO s 6 (q * s.base ^ (k + 1) + r) = some (s.digits.getD (s.base ^ (k + 1) - r).toNat ByteArray.empty :: s.le :: headW s (q + 1) k) := by
  obtain ⟨d1, d2, d3, d4⟩ := decomp hg hk q0 q1 r0 r1 h9
  obtain ⟨b1, b2⟩ := base_pow hg hk
  have hbase := hg.base
  have hs := hg.sub1
  obtain ⟨l1, l2, l3⟩ := (lessL_iff hg (by omega) (by omega) (by omega) (by omega)).1 hl
  have hmul := mul_small (q := q + 1) (p := s.base ^ (k + 1)) (by omega) (by omega) (by omega) (by omega)
  rw [sayO_succ, if_neg (by omega), d2, d3, d4, hl, if_pos rfl]
  unfold lessO
  have e1 : w6 (q + 1) = q + 1 := w6_id (by omega) (by omega)
  have e2 : w6 ((q + 1) * s.base ^ (k + 1)) = (q + 1) * s.base ^ (k + 1) := w6_id (by omega) (by omega)
  have e3 : w6 (s.base ^ (k + 1) - r) = s.base ^ (k + 1) - r := w6_id (by omega) (by omega)
  rw [e1, e2, e3, say_dg hg 4 (by omega) (by omega), sayW_head hg 3 hk (by omega) l3]
  rfl
theorem sayW_rest (hg : Good s) {q r : Int} {k : Nat} (hk : k ≤ 2) (q0 : 1 ≤ q) (q1 : q < s.base) (r0 : 0 < r) (r1 : r < s.base ^ (k + 1)) (h9 : q * s.base ^ (k + 1) + r ≤ 9999) (hl : lessL s q (s.base ^ (k + 1)) r = false) :
    ∃ t, t ≠ [] ∧ sayO s 6 r = some t ∧ sayO s 6 (q * s.base ^ (k + 1) + r) = some (if s.sf then t ++ (joinWords s ++ headW s q k) else headW s q k ++ (joinWords s ++ t)) := by
  obtain ⟨d1, d2, d3, d4⟩ := decomp hg hk q0 q1 (by omega) r1 h9
  have h := parts_words hg (n := q * s.base ^ (k + 1) + r) d1 h9 (by rw [d2, d3, d4]; exact hl) (by rw [d2, d4]; omega)
  rw [d2, d4] at h
  obtain ⟨hd, t, h1, h2, h3, _, h5⟩ := h
  have e : q * s.base ^ (k + 1) + r - r = q * s.base ^ (k + 1) := by omega
  rw [e, sayW_head hg 4 hk q0 q1] at h1
  simp only [Option.some.injEq] at h1
  subst h1
  exact ⟨t, h5, h2, h3⟩
/-! ### rest, read backwards -/
theorem restP_iff {t h o : List ByteArray} (hh : h ≠ []) : restP s t h = some (o, true) ↔ (o = [] ∧ t = h) ∨ (o ≠ [] ∧ t = if s.sf then o ++ (joinWords s ++ h) else h ++ (joinWords s ++ o)) := by
  have hj : joinWords s = if empB s.jo then [] else [s.jo] := rfl
  unfold restP
  by_cases hlt : t.length < h.length
  · rw [if_pos hlt]
    constructor
    · intro e; cases e
    · rintro (⟨_, rfl⟩ | ⟨_, rfl⟩)
      · omega
      · exfalso
        split at hlt <;> simp at hlt <;> omega
  rw [if_neg hlt]
  cases hsf : s.sf with
  | true =>
    simp only [if_true]
    have hsplit : t.take (t.length - h.length) ++ t.drop (t.length - h.length) = t := List.take_append_drop _ _
    have hlen : (t.take (t.length - h.length)).length = t.length - h.length := by simp
    generalize hA : t.take (t.length - h.length) = A at hsplit hlen ⊢
    generalize hB : t.drop (t.length - h.length) = B at hsplit ⊢
    have hBl : B.length = h.length := by subst hB; simp; omega
    rw [← hlen]
    by_cases hBh : textsL B h = true
    · rw [if_pos hBh]
      have e := textsL_iff.1 hBh
      subst e
      by_cases hA0 : A.length = 0
      · have : A = [] := List.eq_nil_of_length_eq_zero hA0
        subst this
        rw [if_pos (.inl rfl)]
        simp only [Option.some.injEq, Prod.mk.injEq, and_true, List.nil_append] at hsplit ⊢
        subst hsplit
        constructor
        · intro e; exact .inl ⟨e.symm, rfl⟩
        · rintro (⟨e, _⟩ | ⟨e1, e2⟩)
          · exact e.symm
          · exfalso
            have := congrArg List.length e2
            simp at this
            have : o.length = 0 := by omega
            exact e1 (List.eq_nil_of_length_eq_zero this)
      · cases hje : empB s.jo with
        | true =>
          rw [if_pos (.inr rfl)]
          rw [hje] at hj
          simp only [if_true] at hj
          rw [hj]
          simp only [Option.some.injEq, Prod.mk.injEq, and_true, List.nil_append]
          rw [← hsplit]
          constructor
          · intro e; subst e; exact .inr ⟨fun e => hA0 (by rw [e]; rfl), rfl⟩
          · rintro (⟨_, e⟩ | ⟨_, e⟩)
            · exfalso
              have := congrArg List.length e
              simp at this
              exact hA0 (by rw [this]; rfl)
            · exact List.append_cancel_right e
        | false =>
          rw [hje] at hj
          simp only [Bool.false_eq_true, if_false] at hj
          rw [if_neg (by simp [hA0]), hj, ← hsplit]
          simp only [Option.some.injEq, Prod.mk.injEq, Bool.and_eq_true, decide_eq_true_eq, eqAt_iff]
          constructor
          · rintro ⟨rfl, h1, h2⟩
            have hA' : A = A.take (A.length - 1) ++ [s.jo] := by
              obtain ⟨hi, he⟩ := List.getElem?_eq_some_iff.1 h2
              have h3 : A.drop (A.length - 1) = [s.jo] := by
                rw [List.drop_eq_getElem_cons hi, he]
                have : A.length - 1 + 1 = A.length := by omega
                rw [this, List.drop_length]
              rw [← h3, List.take_append_drop]
            refine .inr ⟨fun e => ?_, ?_⟩
            · have := congrArg List.length e
              simp at this
              omega
            · rw [← List.append_assoc, ← hA']
          · rintro (⟨_, e⟩ | ⟨h1, e⟩)
            · exfalso
              have := congrArg List.length e
              simp at this
              exact hA0 (by rw [this]; rfl)
            · have e2 : A = o ++ [s.jo] := List.append_cancel_right (by rw [List.append_assoc]; exact e)
              have ho : 0 < o.length := List.length_pos_iff.2 h1
              subst e2
              refine ⟨by simp, by simp; omega, by simp⟩
    · rw [if_neg hBh]
      constructor
      · intro e; cases e
      · rintro (⟨_, e⟩ | ⟨_, e⟩)
        · exfalso
          rw [e] at hB
          simp at hB
          exact hBh (textsL_iff.2 hB.symm)
        · exfalso
          have hd : t.drop (t.length - h.length) = h := by
            have : t = (o ++ joinWords s) ++ h := by rw [List.append_assoc]; exact e
            rw [this]
            have h2 : ((o ++ joinWords s) ++ h).length - h.length = (o ++ joinWords s).length := by rw [List.length_append]; omega
            rw [h2, List.drop_append]
            simp
          exact hBh (textsL_iff.2 (hB.symm.trans hd))
  | false =>
    simp only [Bool.false_eq_true, if_false]
    have hsplit : t.take h.length ++ t.drop h.length = t := List.take_append_drop _ _
    have hlen : (t.drop h.length).length = t.length - h.length := by simp
    generalize hB : t.take h.length = B at hsplit ⊢
    generalize hA : t.drop h.length = A at hsplit hlen ⊢
    have hBl : B.length = h.length := by subst hB; simp; omega
    rw [← hlen]
    by_cases hBh : textsL B h = true
    · rw [if_pos hBh]
      have e := textsL_iff.1 hBh
      subst e
      by_cases hA0 : A.length = 0
      · have : A = [] := List.eq_nil_of_length_eq_zero hA0
        subst this
        rw [if_pos (.inl rfl)]
        simp only [Option.some.injEq, Prod.mk.injEq, and_true, List.append_nil] at hsplit ⊢
        subst hsplit
        constructor
        · intro e; exact .inl ⟨e.symm, rfl⟩
        · rintro (⟨e, _⟩ | ⟨e1, e2⟩)
          · exact e.symm
          · exfalso
            have := congrArg List.length e2
            simp at this
            exact e1 this.2
      · cases hje : empB s.jo with
        | true =>
          rw [if_pos (.inr rfl)]
          rw [hje] at hj
          simp only [if_true] at hj
          rw [hj]
          simp only [Option.some.injEq, Prod.mk.injEq, and_true, List.nil_append]
          rw [← hsplit]
          constructor
          · intro e; subst e; exact .inr ⟨fun e => hA0 (by rw [e]; rfl), rfl⟩
          · rintro (⟨_, e⟩ | ⟨_, e⟩)
            · exfalso
              have := congrArg List.length e
              simp at this
              exact hA0 (by rw [this]; rfl)
            · exact List.append_cancel_left e
        | false =>
          rw [hje] at hj
          simp only [Bool.false_eq_true, if_false] at hj
          rw [if_neg (by simp [hA0]), hj, ← hsplit]
          simp only [Option.some.injEq, Prod.mk.injEq, Bool.and_eq_true, decide_eq_true_eq, eqAt_iff]
          constructor
          · rintro ⟨rfl, h1, h2⟩
            have hA' : A = [s.jo] ++ A.drop 1 := by
              cases A with
              | nil => simp at h2
              | cons a A => simp at h2; subst h2; rfl
            refine .inr ⟨fun e => ?_, ?_⟩
            · have := congrArg List.length e
              simp at this
              omega
            · rw [← hA']
          · rintro (⟨_, e⟩ | ⟨h1, e⟩)
            · exfalso
              have := congrArg List.length e
              simp at this
              exact hA0 (by rw [this]; rfl)
            · have e2 : A = [s.jo] ++ o := List.append_cancel_left e
              have ho : 0 < o.length := List.length_pos_iff.2 h1
              subst e2
              refine ⟨by simp, by simp; omega, by simp⟩
    · rw [if_neg hBh]
      constructor
      · intro e; cases e
      · rintro (⟨_, e⟩ | ⟨_, e⟩)
        · exfalso
          rw [e] at hB
          simp at hB
          exact hBh (textsL_iff.2 hB.symm)
        · exfalso
          have hd : t.take h.length = h := by rw [e, List.take_left]
          exact hBh (textsL_iff.2 (hB.symm.trans hd))
/-! ### numbers, in plain words -/
theorem mem_fm {f : Nat → Option Int} {n : Nat} {x : Int} : x ∈ fm f n ↔ ∃ i, i < n ∧ f i = some x := by
  simp [fm, List.mem_filterMap]
theorem mem_dig (hg : Good s) {t : List ByteArray} {x : Int} : x ∈ digQ s t ↔ 0 ≤ x ∧ x < s.base ∧ sayO s 6 x = some t := by
  have hbase := hg.base
  unfold digQ
  split
  · rename_i w
    rw [mem_fm]
    constructor
    · rintro ⟨i, hi, h⟩
      unfold digF at h
      split at h
      · rename_i he
        simp only [Option.some.injEq] at h
        subst h
        refine ⟨by omega, by omega, ?_⟩
        rw [say_dg hg 5 (by omega) (by omega), Int.toNat_natCast, eqW_iff.1 he]
      · cases h
    · rintro ⟨h0, h1, h2⟩
      rw [say_dg hg 5 h0 h1] at h2
      simp only [Option.some.injEq, List.cons.injEq, and_true] at h2
      refine ⟨x.toNat, by omega, ?_⟩
      unfold digF
      rw [if_pos (eqW_iff.2 h2), Int.toNat_of_nonneg h0]
  · rename_i hne
    constructor
    · intro h; simp at h
    · rintro ⟨h0, h1, h2⟩
      rw [say_dg hg 5 h0 h1] at h2
      simp only [Option.some.injEq] at h2
      exact absurd h2.symm (hne _)
/-- By subtraction. -/
theorem mem_sub (hg : Good s) {t : List ByteArray} {q : Int} {k : Nat} (hk : k ≤ 2) (q0 : 1 ≤ q) (q1 : q < s.base) {x : Int} :
    x ∈ subQ s t q (s.base ^ (k + 1)) k ↔ ∃ r, 0 ≤ r ∧ r < s.base ^ (k + 1) ∧ x = q * s.base ^ (k + 1) + r ∧ x ≤ 9999 ∧ lessL s q (s.base ^ (k + 1)) r = true ∧ sayO s 6 x = some t := by
  obtain ⟨b1, b2⟩ := base_pow hg hk
  have hbase := hg.base
  have hs1 := hg.sub1
  have hs0 := hg.sub0
  have hexp : (q + 1) * s.base ^ (k + 1) = q * s.base ^ (k + 1) + s.base ^ (k + 1) := by rw [Int.add_mul, Int.one_mul]
  have hll : ∀ r, lessL s q (s.base ^ (k + 1)) r = true ↔ 0 < s.sub ∧ s.base ^ (k + 1) - s.sub ≤ r ∧ q + 1 < s.base := fun r => lessL_iff hg (by omega) (by omega) (by omega) (by omega)
  have hhw : (headW s (q + 1) k).length = 2 := by
    unfold headW
    rw [if_neg (fun h => by omega)]
    rfl
  constructor
  · intro h
    unfold subQ at h
    split at h
    · rename_i hc
      simp only [subC, Bool.and_eq_true, decide_eq_true_eq, eqAt_iff, textsL_iff] at hc
      obtain ⟨c1, c2, c3, c4, c5⟩ := hc
      obtain ⟨m, hm, hf⟩ := mem_fm.1 h
      unfold subF at hf
      split at hf
      · rename_i hf2
        simp only [Option.some.injEq] at hf
        obtain ⟨f1, f2⟩ := hf2
        have f3 := eqW_iff.1 f1
        have hr : lessL s q (s.base ^ (k + 1)) (s.base ^ (k + 1) - ((m : Int) + 1)) = true := (hll _).2 ⟨by omega, by omega, c3⟩
        have hx : x = q * s.base ^ (k + 1) + (s.base ^ (k + 1) - ((m : Int) + 1)) := by omega
        refine ⟨s.base ^ (k + 1) - ((m : Int) + 1), by omega, by omega, hx, by omega, hr, ?_⟩
        rw [hx, sayW_less hg hk q0 q1 (by omega) (by omega) (by omega) hr]
        have e : (s.base ^ (k + 1) - (s.base ^ (k + 1) - ((m : Int) + 1))).toNat = m + 1 := by omega
        rw [e, f3]
        congr 1
        match t, c1, c4, c5 with
        | [a, b, c, d], _, c4, c5 =>
          simp at c4
          subst c4
          rw [← c5]
          rfl
      · cases hf
    · simp at h
  · rintro ⟨r, r0, r1, rfl, h9, hl, ht⟩
    rw [sayW_less hg hk q0 q1 r0 r1 h9 hl] at ht
    simp only [Option.some.injEq] at ht
    obtain ⟨l1, l2, l3⟩ := (hll r).1 hl
    unfold subQ
    have hc : subC s t q k = true := by
      simp only [subC, Bool.and_eq_true, decide_eq_true_eq, eqAt_iff, textsL_iff]
      subst ht
      refine ⟨?_, by omega, l3, rfl, rfl⟩
      simp only [List.length_cons, hhw]
    rw [if_pos hc, mem_fm]
    refine ⟨(s.base ^ (k + 1) - r - 1).toNat, by omega, ?_⟩
    have e1 : (((s.base ^ (k + 1) - r - 1).toNat : Nat) : Int) = s.base ^ (k + 1) - r - 1 := Int.toNat_of_nonneg (by omega)
    have e2 : (s.base ^ (k + 1) - r - 1).toNat + 1 = (s.base ^ (k + 1) - r).toNat := by omega
    unfold subF
    rw [e1, e2, if_pos ⟨eqW_iff.2 (by subst ht; rfl), by omega⟩]
    simp only [Option.some.injEq]
    omega
/-- Without subtraction. -/
theorem mem_reg (hg : Good s) {N : List ByteArray → List Int} {t : List ByteArray} {q : Int} {k : Nat} (hk : k ≤ 2) (q0 : 1 ≤ q) (q1 : q < s.base) (h9 : q * s.base ^ (k + 1) ≤ 9999)
    (hN : ∀ (o : List ByteArray) (r : Int), r ∈ N o ↔ 0 ≤ r ∧ r ≤ 9999 ∧ r < s.base ^ (k + 1) ∧ sayO s 6 r = some o) {x : Int} :
    x ∈ regQ s N t q (s.base ^ (k + 1)) k ↔ ∃ r, 0 ≤ r ∧ r < s.base ^ (k + 1) ∧ x = q * s.base ^ (k + 1) + r ∧ x ≤ 9999 ∧ lessL s q (s.base ^ (k + 1)) r = false ∧ sayO s 6 x = some t := by
  obtain ⟨b1, b2⟩ := base_pow hg hk
  have hbase := hg.base
  have hne : headW s q k ≠ [] := List.length_pos_iff.1 (headW_len s q k).2
  have hqp : 0 ≤ q * s.base ^ (k + 1) := Int.mul_nonneg (by omega) (by omega)
  constructor
  · intro h
    unfold regQ at h
    split at h
    · rename_i o ho
      rcases (restP_iff hne).1 ho with ⟨rfl, rfl⟩ | ⟨h1, ht⟩
      · simp only [if_true, List.mem_singleton] at h
        subst h
        exact ⟨0, by omega, by omega, by omega, h9, less0 hg hk (by omega) q1, sayW_head hg 4 hk q0 q1⟩
      · rw [if_neg h1] at h
        obtain ⟨r, hr, hf⟩ := List.mem_filterMap.1 h
        obtain ⟨r0, r9, r1, hw⟩ := (hN o r).1 hr
        unfold regF at hf
        split at hf
        · rename_i hc
          obtain ⟨c1, c2, c3, c4⟩ := hc
          simp only [Option.some.injEq] at hf
          obtain ⟨t', _, t1, t2⟩ := sayW_rest hg hk q0 q1 c1 r1 c3 c4
          rw [hw] at t1
          simp only [Option.some.injEq] at t1
          subst t1
          refine ⟨r, r0, r1, hf.symm, by omega, c4, ?_⟩
          rw [← hf, t2, ht]
        · cases hf
    · simp at h
  · rintro ⟨r, r0, r1, rfl, hx9, hl, ht⟩
    by_cases hr : r = 0
    · subst hr
      have e : q * s.base ^ (k + 1) + 0 = q * s.base ^ (k + 1) := by omega
      rw [e] at ht ⊢
      rw [sayW_head hg 4 hk q0 q1] at ht
      simp only [Option.some.injEq] at ht
      unfold regQ
      rw [(restP_iff hne).2 (.inl ⟨rfl, ht.symm⟩)]
      simp
    · obtain ⟨o, o1, o2, o3⟩ := sayW_rest hg hk q0 q1 (by omega) r1 hx9 hl
      rw [o3] at ht
      simp only [Option.some.injEq] at ht
      unfold regQ
      rw [(restP_iff hne).2 (.inr ⟨o1, ht.symm⟩)]
      simp only
      rw [if_neg o1]
      refine List.mem_filterMap.2 ⟨r, (hN o r).2 ⟨r0, by omega, r1, o2⟩, ?_⟩
      unfold regF
      rw [if_pos ⟨by omega, r1, hx9, hl⟩]
theorem mem_num (hg : Good s) : ∀ (k : Nat), k ≤ 3 → ∀ (t : List ByteArray) (x : Int), x ∈ numQ s k t ↔ 0 ≤ x ∧ x ≤ 9999 ∧ x < s.base ^ (k + 1) ∧ sayO s 6 x = some t
  | 0, _, t, x => by
    have hbase := hg.base
    simp only [numQ, mem_dig hg]
    have e : s.base ^ (0 + 1) = s.base := by rw [Int.pow_succ, Int.pow_zero, Int.one_mul]
    rw [e]
    constructor
    · rintro ⟨h0, h1, h2⟩; exact ⟨h0, by omega, h1, h2⟩
    · rintro ⟨h0, _, h1, h2⟩; exact ⟨h0, h1, h2⟩
  | k + 1, hk, t, x => by
    have hk2 : k ≤ 2 := by omega
    have ih := mem_num hg k (by omega)
    obtain ⟨b1, b2⟩ := base_pow hg hk2
    have hbase := hg.base
    obtain ⟨c1, c2⟩ := cntQ_spec hg hk2
    have hpow : s.base ^ (k + 1 + 1) = s.base * s.base ^ (k + 1) := by rw [Int.pow_succ _ (k + 1), Int.mul_comm]
    rw [numQ_succ, List.mem_append, ih]
    have hlvl : x ∈ lvlQ s (numQ s k) t k (cntQ s k) ↔ ∃ (q r : Int), 1 ≤ q ∧ q < s.base ∧ 0 ≤ r ∧ r < s.base ^ (k + 1) ∧ x = q * s.base ^ (k + 1) + r ∧ x ≤ 9999 ∧ sayO s 6 x = some t := by
      unfold lvlQ
      rw [List.mem_flatMap]
      constructor
      · rintro ⟨j, hj, h⟩
        obtain ⟨j1, j2⟩ := c1 j (List.mem_range.1 hj)
        unfold oneQ at h
        rcases List.mem_append.1 h with h | h
        · obtain ⟨r, h1, h2, h3, h4, _, h6⟩ := (mem_reg hg hk2 (by omega) j1 j2 (ih · ·)).1 h
          exact ⟨(j : Int) + 1, r, by omega, j1, h1, h2, h3, h4, h6⟩
        · obtain ⟨r, h1, h2, h3, h4, _, h6⟩ := (mem_sub hg hk2 (by omega) j1).1 h
          exact ⟨(j : Int) + 1, r, by omega, j1, h1, h2, h3, h4, h6⟩
      · rintro ⟨q, r, q0, q1, r0, r1, hx, h9, ht⟩
        have hq9 : q * s.base ^ (k + 1) ≤ 9999 := by omega
        have ej : (((q - 1).toNat : Nat) : Int) + 1 = q := by omega
        have hj : (q - 1).toNat < cntQ s k := by
          by_cases h : (q - 1).toNat < cntQ s k
          · exact h
          · exfalso
            have hle : (cntQ s k : Int) + 1 ≤ q := by omega
            rcases c2 with h2 | h2
            · omega
            · have := Int.mul_le_mul_of_nonneg_right hle (show 0 ≤ s.base ^ (k + 1) by omega)
              omega
        refine ⟨(q - 1).toNat, List.mem_range.2 hj, ?_⟩
        unfold oneQ
        rw [ej, List.mem_append]
        cases hl : lessL s q (s.base ^ (k + 1)) r with
        | false => exact .inl ((mem_reg hg hk2 q0 q1 hq9 (ih · ·)).2 ⟨r, r0, r1, hx, h9, hl, ht⟩)
        | true => exact .inr ((mem_sub hg hk2 q0 q1).2 ⟨r, r0, r1, hx, h9, hl, ht⟩)
    rw [hlvl, hpow]
    constructor
    · rintro (⟨h0, h1, h2, h3⟩ | ⟨q, r, q0, q1, r0, r1, rfl, h9, ht⟩)
      · refine ⟨h0, h1, ?_, h3⟩
        have : 1 * s.base ^ (k + 1) ≤ s.base * s.base ^ (k + 1) := Int.mul_le_mul_of_nonneg_right (by omega) (by omega)
        omega
      · have h1 := Int.mul_le_mul_of_nonneg_right (show q + 1 ≤ s.base by omega) (show 0 ≤ s.base ^ (k + 1) by omega)
        rw [Int.add_mul, Int.one_mul] at h1
        have h2 : 0 ≤ q * s.base ^ (k + 1) := Int.mul_nonneg (by omega) (by omega)
        exact ⟨by omega, h9, by omega, ht⟩
    · rintro ⟨h0, h9, h1, ht⟩
      by_cases hx : x < s.base ^ (k + 1)
      · exact .inl ⟨h0, h9, hx, ht⟩
      · have hp : 0 < s.base ^ (k + 1) := by omega
        refine .inr ⟨x / s.base ^ (k + 1), x % s.base ^ (k + 1), (Int.le_ediv_iff_mul_le hp).2 (by omega), Int.ediv_lt_of_lt_mul hp h1, Int.emod_nonneg _ (by omega), Int.emod_lt_of_pos _ hp, ?_, h9, ht⟩
        have := Int.mul_ediv_add_emod x (s.base ^ (k + 1))
        rw [Int.mul_comm] at this
        omega
theorem mem_num3 (hg : Good s) {t : List ByteArray} {x : Int} : x ∈ numQ s 3 t ↔ 0 ≤ x ∧ x ≤ 9999 ∧ sayO s 6 x = some t := by
  rw [mem_num hg 3 (by omega)]
  have : 9999 < s.base ^ (3 + 1) := by rcases hg.base with e | e <;> rw [e] <;> decide
  constructor
  · rintro ⟨h0, h1, _, h3⟩; exact ⟨h0, h1, h3⟩
  · rintro ⟨h0, h1, h3⟩; exact ⟨h0, h1, by omega, h3⟩
end
/-! ### Compact of what is in order -/
theorem get_sorted {l : List Int} (h : l.Pairwise (· ≤ ·)) {i j : Nat} (hij : i ≤ j) (hj : j < l.length) : l.toArray[i]! ≤ l.toArray[j]! := by
  rw [getElem!_pos l.toArray i (by simp; omega), getElem!_pos l.toArray j (by simpa using hj)]
  simp only [List.getElem_toArray]
  by_cases e : i = j
  · subst e; exact Int.le_refl _
  · exact List.pairwise_iff_getElem.1 h i j (by omega) hj (by omega)
theorem compact_inv {l : List Int} (h : l.Pairwise (· ≤ ·)) : ∀ m, m ≤ l.length → (Lib.compactUpTo l.toArray m).Pairwise (· < ·) ∧ (∀ x, x ∈ Lib.compactUpTo l.toArray m ↔ ∃ j, j < m ∧ l.toArray[j]! = x)
  | 0, _ => by simp [Lib.compactUpTo]
  | m + 1, hm => by
    obtain ⟨ih1, ih2⟩ := compact_inv h m (by omega)
    rw [Lib.compactUpTo_succ]
    cases hk : Lib.keeps l.toArray m with
    | true =>
      simp only [if_true]
      refine ⟨List.pairwise_append.2 ⟨ih1, by simp, ?_⟩, ?_⟩
      · intro a ha b hb
        simp only [List.mem_singleton] at hb
        subst hb
        obtain ⟨j, hj, rfl⟩ := (ih2 a).1 ha
        simp only [Lib.keeps, decide_eq_true_eq] at hk
        rcases hk with e | e
        · omega
        · have h1 := get_sorted h (show j ≤ m - 1 by omega) (by omega)
          have h2 := get_sorted h (show m - 1 ≤ m by omega) (by omega)
          omega
      · intro x
        rw [List.mem_append, ih2]
        constructor
        · rintro (⟨j, hj, e⟩ | e)
          · exact ⟨j, by omega, e⟩
          · simp only [List.mem_singleton] at e
            exact ⟨m, by omega, e.symm⟩
        · rintro ⟨j, hj, e⟩
          by_cases hjm : j < m
          · exact .inl ⟨j, hjm, e⟩
          · have : j = m := by omega
            subst this
            exact .inr (by simp [e])
    | false =>
      simp only [Bool.false_eq_true, if_false, List.append_nil]
      refine ⟨ih1, fun x => ?_⟩
      rw [ih2]
      simp only [Lib.keeps, decide_eq_false_iff_not, not_or, ne_eq, Decidable.not_not] at hk
      constructor
      · rintro ⟨j, hj, e⟩
        exact ⟨j, by omega, e⟩
      · rintro ⟨j, hj, e⟩
        by_cases hjm : j < m
        · exact ⟨j, hjm, e⟩
        · have : j = m := by omega
          subst this
          exact ⟨j - 1, by omega, by rw [← hk.2]; exact e⟩
theorem parse_sorted (s : NSys) (t : List ByteArray) : (parseL s t).Pairwise (· < ·) ∧ ∀ x, x ∈ parseL s t ↔ x ∈ numQ s 3 t := by
  have hs : ((numQ s 3 t).mergeSort leI).Pairwise (· ≤ ·) := by
    have := List.pairwise_mergeSort (le := leI) (fun a b c h1 h2 => by simp only [leI, decide_eq_true_eq] at *; omega) (fun a b => by simp only [leI, Bool.or_eq_true, decide_eq_true_eq]; omega) (numQ s 3 t)
    exact this.imp (fun h => by simpa [leI] using h)
  obtain ⟨h1, h2⟩ := compact_inv hs ((numQ s 3 t).mergeSort leI).length (Nat.le_refl _)
  refine ⟨h1, fun x => ?_⟩
  unfold parseL Lib.compact
  rw [h2]
  have hm : x ∈ (numQ s 3 t).mergeSort leI ↔ x ∈ numQ s 3 t := (List.mergeSort_perm _ _).mem_iff
  rw [← hm, List.mem_iff_getElem]
  constructor
  · rintro ⟨j, hj, e⟩
    rw [getElem!_pos _ j (by simpa using hj)] at e
    exact ⟨j, hj, by simpa using e⟩
  · rintro ⟨j, hj, e⟩
    exact ⟨j, hj, by rw [getElem!_pos _ j (by simpa using hj)]; simpa using e⟩
/-- What Parse answers: the numbers with these words, ascending. -/
theorem mem_parse {s : NSys} (hg : Good s) {t : List ByteArray} {x : Int} : x ∈ parseL s t ↔ 0 ≤ x ∧ x ≤ 9999 ∧ sayO s 6 x = some t := by
  rw [(parse_sorted s t).2, mem_num3 hg]
end Go.Proofs.Num
end
/- Numeral: the words of numbers; joined words. -/
section
open Go Go.Vm Go.Proofs
namespace Go.Proofs.Num

/-! ### the words of numbers -/
/-- All words that a system has. -/
def vocL (s : NSys) : List ByteArray := s.digits ++ s.powers ++ joinWords s ++ (if empB s.le then [] else [s.le])
theorem empB_iff {x : ByteArray} : empB x = true ↔ x = ByteArray.mk #[] := ⟨toList_inj, fun h => by subst h; simp [empB]⟩
theorem getD_mem {l : List ByteArray} {i : Nat} {d : ByteArray} (h : i < l.length) : l.getD i d ∈ l := by
  rw [List.getD_eq_getElem?_getD, List.getElem?_eq_getElem h]
  exact List.getElem_mem h
section
variable {s : NSys}
theorem sub_le (hv : validL s = true) (h : 0 < s.sub) : empB s.le = false := by
  simp only [validL, Bool.and_eq_true] at hv
  obtain ⟨_, _, _, h3⟩ := hv
  simp only [good3, Bool.and_eq_true, Bool.or_eq_true, beq_iff_eq, Bool.not_eq_true'] at h3
  rcases h3.2.2 with h | h
  · omega
  · exact h
theorem head_mem (hg : Good s) {q : Int} {k : Nat} (hk : k ≤ 2) (q0 : 0 ≤ q) (q1 : q < s.base) {w : ByteArray} (h : w ∈ headW s q k) : w ∈ s.digits ++ s.powers := by
  have h1 : q.toNat < s.digits.length := by have := hg.dig; omega
  have h2 : k < s.powers.length := by have := hg.pow; omega
  unfold headW at h
  split at h
  · simp only [List.mem_singleton] at h
    subst h
    exact List.mem_append_right _ (getD_mem h2)
  · simp only [List.mem_cons, List.not_mem_nil, or_false] at h
    rcases h with rfl | rfl
    · exact List.mem_append_left _ (getD_mem h1)
    · exact List.mem_append_right _ (getD_mem h2)
/-- Every word of a number is among a system's words. -/
theorem say_mem (hv : validL s = true) : ∀ (j : Nat), j ≤ 3 → ∀ {n : Int} {l : List ByteArray}, 0 ≤ n → n ≤ 9999 → n < s.base ^ (j + 1) → sayO s 6 n = some l → ∀ w ∈ l, w ∈ vocL s
  | 0, _, n, l, h0, _, hb, hl, w, hw => by
    have hg := good_of hv
    have e : s.base ^ (0 + 1) = s.base := by rw [Int.pow_succ, Int.pow_zero, Int.one_mul]
    rw [e] at hb
    rw [say_dg hg 5 h0 hb] at hl
    simp only [Option.some.injEq] at hl
    subst hl
    simp only [List.mem_singleton] at hw
    subst hw
    have h1 : n.toNat < s.digits.length := by have := hg.dig; omega
    simp only [vocL, List.append_assoc, List.mem_append]
    exact .inl (getD_mem h1)
  | k + 1, hk, n, l, h0, h9, hb, hl, w, hw => by
    have hg := good_of hv
    by_cases hlow : n < s.base ^ (k + 1)
    · exact say_mem hv k (by omega) h0 h9 hlow hl w hw
    have hk2 : k ≤ 2 := by omega
    obtain ⟨b1, b2⟩ := base_pow hg hk2
    have hbase := hg.base
    have hp : 0 < s.base ^ (k + 1) := by omega
    have hpow : s.base ^ (k + 1 + 1) = s.base * s.base ^ (k + 1) := by rw [Int.pow_succ _ (k + 1), Int.mul_comm]
    rw [hpow] at hb
    obtain ⟨q, r, q0, q1, r0, r1, rfl⟩ : ∃ q r : Int, 1 ≤ q ∧ q < s.base ∧ 0 ≤ r ∧ r < s.base ^ (k + 1) ∧ n = q * s.base ^ (k + 1) + r := by
      refine ⟨n / s.base ^ (k + 1), n % s.base ^ (k + 1), (Int.le_ediv_iff_mul_le hp).2 (by omega), Int.ediv_lt_of_lt_mul hp hb, Int.emod_nonneg _ (by omega), Int.emod_lt_of_pos _ hp, ?_⟩
      have := Int.mul_ediv_add_emod n (s.base ^ (k + 1))
      rw [Int.mul_comm] at this
      omega
    have hh : ∀ {q : Int}, 0 ≤ q → q < s.base → ∀ x ∈ headW s q k, x ∈ vocL s := by
      intro q a b x hx
      have := head_mem hg hk2 a b hx
      simp only [vocL, List.append_assoc, List.mem_append] at this ⊢
      rcases this with h | h
      · exact .inl h
      · exact .inr (.inl h)
    cases hll : lessL s q (s.base ^ (k + 1)) r with
    | true =>
      rw [sayW_less hg hk2 q0 q1 r0 r1 h9 hll] at hl
      simp only [Option.some.injEq] at hl
      subst hl
      obtain ⟨l1, l2, l3⟩ := (lessL_iff hg (by omega) (by omega) (by omega) (by omega)).1 hll
      have hs1 := hg.sub1
      simp only [List.mem_cons] at hw
      rcases hw with rfl | rfl | hw
      · have h1 : (s.base ^ (k + 1) - r).toNat < s.digits.length := by have := hg.dig; omega
        simp only [vocL, List.append_assoc, List.mem_append]
        exact .inl (getD_mem h1)
      · have := sub_le hv l1
        simp only [vocL, this, List.append_assoc, List.mem_append]
        simp
      · exact hh (by omega) l3 w hw
    | false =>
      by_cases hr : r = 0
      · subst hr
        have e : q * s.base ^ (k + 1) + 0 = q * s.base ^ (k + 1) := by omega
        rw [e, sayW_head hg 4 hk2 q0 q1] at hl
        simp only [Option.some.injEq] at hl
        subst hl
        exact hh (by omega) q1 w hw
      · obtain ⟨t, _, t1, t2⟩ := sayW_rest hg hk2 q0 q1 (by omega) r1 h9 hll
        rw [t2] at hl
        simp only [Option.some.injEq] at hl
        have hqp : 0 ≤ q * s.base ^ (k + 1) := Int.mul_nonneg (by omega) (by omega)
        have ht := say_mem hv k (by omega) r0 (by omega) r1 t1
        have hj : ∀ x ∈ joinWords s, x ∈ vocL s := by
          intro x hx
          simp only [vocL, List.append_assoc, List.mem_append]
          exact .inr (.inr (.inl hx))
        rw [← hl] at hw
        split at hw
        · simp only [List.mem_append] at hw
          rcases hw with h | h | h
          · exact ht w h
          · exact hj w h
          · exact hh (by omega) q1 w h
        · simp only [List.mem_append] at hw
          rcases hw with h | h | h
          · exact hh (by omega) q1 w h
          · exact hj w h
          · exact ht w h
theorem say_voc (hv : validL s = true) {n : Int} {l : List ByteArray} (h0 : 0 ≤ n) (h9 : n ≤ 9999) (hl : sayO s 6 n = some l) : ∀ w ∈ l, w ∈ vocL s := by
  refine say_mem hv 3 (by omega) h0 h9 ?_ hl
  have : 9999 < s.base ^ (3 + 1) := by rcases (good_of hv).base with e | e <;> rw [e] <;> decide
  omega
theorem voc_tok (hv : validL s = true) : ∀ w ∈ vocL s, tokB w = true := by
  intro w hw
  simp only [validL, Bool.and_eq_true, Bool.not_eq_true'] at hv
  obtain ⟨_, h1, h2, _⟩ := hv
  have h1' := List.all_eq_true.1 h1
  simp only [bad2, Bool.or_eq_false_iff, Bool.and_eq_false_imp, Bool.not_eq_true', Bool.not_eq_false'] at h2
  simp only [vocL, List.append_assoc, List.mem_append] at hw
  rcases hw with h | h | h | h
  · exact h1' w (by simp only [vWords, List.mem_append]; exact .inl h)
  · exact h1' w (by simp only [vWords, List.mem_append]; exact .inr h)
  · unfold joinWords at h
    split at h
    · simp at h
    · rename_i he
      simp only [List.mem_singleton] at h
      subst h
      exact h2.1 (by simpa using he)
  · split at h
    · simp at h
    · rename_i he
      simp only [List.mem_singleton] at h
      subst h
      exact h2.2 (by simpa using he)
end
/-! ### joined words -/
def tokD (l : List UInt8) : Prop := l ≠ [] ∧ ∀ b ∈ l, b ≠ 32
theorem tok_data {w : ByteArray} (h : tokB w = true) : tokD w.data.toList := by
  simp only [tokB, Bool.and_eq_true, Bool.not_eq_true'] at h
  obtain ⟨⟨h1, h2⟩, _⟩ := h
  constructor
  · intro e
    have : w = ByteArray.mk #[] := Go.WideShapes.bytes_inj (by rw [e])
    subst this
    simp at h2
  · intro b hb e
    subst e
    have := List.all_eq_true.1 h1 32 (by simpa [bytes] using hb)
    simp at this
theorem split_at {a b x y : List UInt8} (ha : ∀ c ∈ a, c ≠ 32) (hb : ∀ c ∈ b, c ≠ 32) (h : a ++ 32 :: x = b ++ 32 :: y) : a = b ∧ x = y := by
  induction a generalizing b with
  | nil => cases b with
    | nil => simp at h; exact ⟨rfl, h⟩
    | cons c b => simp at h; exact absurd h.1.symm (hb c (by simp))
  | cons c a ih => cases b with
    | nil => simp at h; exact absurd h.1 (ha c (by simp))
    | cons d b =>
      simp only [List.cons_append, List.cons.injEq] at h
      obtain ⟨e1, e2⟩ := ih (fun c hc => ha c (List.mem_cons_of_mem _ hc)) (fun c hc => hb c (List.mem_cons_of_mem _ hc)) h.2
      exact ⟨by rw [h.1, e1], e2⟩
theorem no_split {a b x : List UInt8} (ha : ∀ c ∈ a, c ≠ 32) (h : a = b ++ 32 :: x) : False := by
  subst h
  exact ha 32 (by simp) rfl
theorem tail_inj : ∀ {l m : List (List UInt8)}, (∀ w ∈ l, tokD w) → (∀ w ∈ m, tokD w) → ∀ {a b : List UInt8}, tokD a → tokD b → a ++ Lib.joinTail [32] l = b ++ Lib.joinTail [32] m → a :: l = b :: m
  | [], [], _, _, a, b, _, _, h => by simp only [Lib.joinTail, List.map_nil, List.flatten_nil, List.append_nil] at h; rw [h]
  | [], y :: m, _, _, a, b, ha, _, h => by
    exfalso
    simp only [Lib.joinTail, List.map_nil, List.flatten_nil, List.append_nil, List.map_cons, List.flatten_cons, List.cons_append, List.nil_append] at h
    exact no_split ha.2 h
  | x :: l, [], _, _, a, b, _, hb, h => by
    exfalso
    simp only [Lib.joinTail, List.map_nil, List.flatten_nil, List.append_nil, List.map_cons, List.flatten_cons, List.cons_append, List.nil_append] at h
    exact no_split hb.2 h.symm
  | x :: l, y :: m, hl, hm, a, b, ha, hb, h => by
    simp only [Lib.joinTail, List.map_cons, List.flatten_cons, List.cons_append, List.nil_append] at h
    obtain ⟨e1, e2⟩ := split_at ha.2 hb.2 h
    have := tail_inj (l := l) (m := m) (fun w hw => hl w (List.mem_cons_of_mem _ hw)) (fun w hw => hm w (List.mem_cons_of_mem _ hw)) (a := x) (b := y) (hl x (by simp)) (hm y (by simp)) e2
    rw [e1, this]
theorem map_data_inj : ∀ {l m : List ByteArray}, l.map (·.data.toList) = m.map (·.data.toList) → l = m
  | [], [], _ => rfl
  | [], _ :: _, h => by simp at h
  | _ :: _, [], h => by simp at h
  | x :: l, y :: m, h => by
    simp only [List.map_cons, List.cons.injEq] at h
    rw [Go.WideShapes.bytes_inj h.1, map_data_inj h.2]
/-- Tokens, joined by a blank, tell which they were. -/
theorem join_inj {l m : List ByteArray} {sep : ByteArray} (hsep : sep.data.toList = [32]) (hl : l ≠ []) (hm : m ≠ []) (tl : ∀ w ∈ l, tokB w = true) (tm : ∀ w ∈ m, tokB w = true) (h : joinB l sep = joinB m sep) : l = m := by
  unfold joinB at h
  rw [hsep] at h
  have td : ∀ {l : List ByteArray}, (∀ w ∈ l, tokB w = true) → ∀ w ∈ l.map (·.data.toList), tokD w := by
    intro l h w hw
    obtain ⟨x, hx, rfl⟩ := List.mem_map.1 hw
    exact tok_data (h x hx)
  have hd1 := td tl
  have hd2 := td tm
  cases l with
  | nil => exact absurd rfl hl
  | cons x l => cases m with
    | nil => exact absurd rfl hm
    | cons y m =>
      simp only [List.map_cons] at h hd1 hd2
      rw [Lib.join_cons, Lib.join_cons] at h
      have := tail_inj (fun w hw => hd1 w (List.mem_cons_of_mem _ hw)) (fun w hw => hd2 w (List.mem_cons_of_mem _ hw)) (hd1 _ (by simp)) (hd2 _ (by simp)) h
      exact map_data_inj (l := x :: l) (m := y :: m) this
theorem tail_len (B : Nat) : ∀ {l : List (List UInt8)}, (∀ w ∈ l, w.length ≤ B) → (Lib.joinTail [32] l).length ≤ l.length * (B + 1)
  | [], _ => by simp [Lib.joinTail]
  | x :: l, h => by
    have := tail_len B (l := l) (fun w hw => h w (List.mem_cons_of_mem _ hw))
    have hx := h x (by simp)
    simp only [Lib.joinTail, List.map_cons, List.flatten_cons, List.length_append, List.length_cons, List.length_nil] at this ⊢
    rw [Nat.succ_mul]
    omega
theorem joinB_len {l : List ByteArray} {sep : ByteArray} (hsep : sep.data.toList = [32]) {B : Nat} (h : ∀ w ∈ l, w.size ≤ B) : (joinB l sep).length ≤ l.length * (B + 1) := by
  unfold joinB
  rw [hsep]
  have hd : ∀ w ∈ l.map (·.data.toList), w.length ≤ B := by
    intro w hw
    obtain ⟨x, hx, rfl⟩ := List.mem_map.1 hw
    show x.data.toList.length ≤ B
    rw [Array.length_toList]
    exact h x hx
  cases l with
  | nil => simp [Lib.join, List.intercalate]
  | cons x l =>
    simp only [List.map_cons] at hd ⊢
    rw [Lib.join_cons, List.length_append]
    have h1 := tail_len B (l := l.map (·.data.toList)) (fun w hw => hd w (List.mem_cons_of_mem _ hw))
    have h2 := hd _ (List.mem_cons_self (a := x.data.toList) (l := l.map (·.data.toList)))
    simp only [List.length_map] at h1
    simp only [List.length_cons]
    rw [Nat.succ_mul]
    omega
end Go.Proofs.Num
end
/- Numeral: the specification of Vocabulary, walked. -/
section
open Go Go.Vm Go.Proofs
namespace Go.Proofs.Num
def fg27 : Nat → List Nat
  | 3012 => [3]
  | 12 => [68, 69, 70, 71, 72, 73, 74, 75, 76, 77, 78, 79, 80, 81, 82]
  | 4012 => [1]
  | _ => []

def rvoS0 (s : NSys) (J : List ByteArray) (al : List ByteArray) (o : Nat → AV) (i0 : Nat) (i1 : Nat) : St :=
  stOf 84 [27, 28, 29, 30, 31, 32, 33, 34, 35, 36, 37, 38, 39, 40, 41, 42, 43, 44, 45, 46, 47, 48, 49, 50, 51, 52, 53, 54, 55, 56, 57, 58, 59, 60, 61, 62, 63, 64, 65, 66, 67, 68, 69, 70, 71, 72, 73, 74, 75, 76, 77, 78, 79, 80, 81, 82] [(0, AV.agg (sysC s)), (1, AV.ref 0 0), (2, AV.list LK.nil 0 0 []), (3, o i0), (4, lro (List.length al) 1 (List.map st al)), (5, i6 (↑i0 : Int)), (6, i6 (↑i1 : Int)), (7, AV.list LK.clip 0 1 []), (8, AV.agg (sysC s)), (9, bo true), (10, bo false), (12, AV.ref 0 1), (13, lro (List.length (NSys.digits s)) 1 (List.map st (NSys.digits s))), (14, AV.ref 0 2), (15, lro (List.length (NSys.powers s)) 1 (List.map st (NSys.powers s))), (16, lro (List.length J) 1 (List.map st J)), (17, AV.ref 0 4), (18, st (NSys.jo s)), (19, AV.ref 0 6), (20, st (NSys.le s)), (21, AV.list LK.clip 2 1 [st (NSys.jo s), st (NSys.le s)]), (22, lro (List.length al) 1 (List.map st al)), (23, i6 (↑i0 : Int)), (24, lro (List.length al) 1 (List.map st al)), (25, i6 (↑(List.length al) : Int)), (26, bo true)] [Ob.cells (sysC s)]
def rvoS1 (s : NSys) (J : List ByteArray) (al : List ByteArray) (ra : List AV) (rb : List AV) (x : ByteArray) (w : ByteArray) (m : Nat) (o : Nat → AV) (i0 : Nat) (i1 : Nat) : St :=
  stOf 84 [27, 28, 46, 47, 48, 49, 50, 51, 52, 53, 54, 55, 56, 57, 58, 59, 60, 61, 62, 63, 64, 65, 66, 67, 68, 69, 70, 71, 72, 73, 74, 75, 76, 77, 78, 79, 80, 81, 82] [(0, AV.agg (sysC s)), (1, AV.ref 0 0), (2, AV.list LK.nil 0 0 []), (3, o i0), (4, lro (List.length al) 1 (List.map st al)), (5, i6 (↑i0 : Int)), (6, i6 (w6 ((↑i1 : Int) + 1))), (7, AV.list LK.clip 0 1 []), (8, AV.agg (sysC s)), (9, bo true), (10, bo false), (12, AV.ref 0 1), (13, lro (List.length (NSys.digits s)) 1 (List.map st (NSys.digits s))), (14, AV.ref 0 2), (15, lro (List.length (NSys.powers s)) 1 (List.map st (NSys.powers s))), (16, lro (List.length J) 1 (List.map st J)), (17, AV.ref 0 4), (18, st (NSys.jo s)), (19, AV.ref 0 6), (20, st (NSys.le s)), (21, AV.list LK.clip 2 1 [st (NSys.jo s), st (NSys.le s)]), (22, lro (List.length al) 1 (List.map st al)), (23, i6 (↑i0 : Int)), (24, lro (List.length al) 1 (List.map st al)), (25, i6 (↑(List.length al) : Int)), (26, bo true), (29, i6 (↑i1 : Int)), (30, o i0), (31, i6 (↑m : Int)), (32, bo true), (33, bo true), (34, o i0), (35, i6 (↑i1 : Int)), (36, AV.eaddr ra), (37, st x), (38, lro (List.length al) 1 (List.map st al)), (39, i6 (↑i0 : Int)), (40, AV.eaddr rb), (41, st w), (42, bo true), (43, bo true), (44, i6 (↑i1 : Int)), (45, i6 (w6 ((↑i1 : Int) + 1)))] [Ob.cells (sysC s)]
def rvoS2 (s : NSys) (J : List ByteArray) (al : List ByteArray) (ra : List AV) (rb : List AV) (x : ByteArray) (w : ByteArray) (m : Nat) (o : Nat → AV) (i0 : Nat) (i1 : Nat) : St :=
  stOf 84 [27, 28, 44, 45, 46, 47, 48, 49, 50, 51, 52, 53, 54, 55, 56, 57, 58, 59, 60, 61, 62, 63, 64, 65, 66, 67, 68, 69, 70, 71, 72, 73, 74, 75, 76, 77, 78, 79, 80, 81, 82] [(0, AV.agg (sysC s)), (1, AV.ref 0 0), (2, AV.list LK.nil 0 0 []), (3, o i0), (4, lro (List.length al) 1 (List.map st al)), (5, i6 (↑i0 : Int)), (6, i6 (↑i1 : Int)), (7, AV.list LK.clip 0 1 []), (8, AV.agg (sysC s)), (9, bo true), (10, bo false), (12, AV.ref 0 1), (13, lro (List.length (NSys.digits s)) 1 (List.map st (NSys.digits s))), (14, AV.ref 0 2), (15, lro (List.length (NSys.powers s)) 1 (List.map st (NSys.powers s))), (16, lro (List.length J) 1 (List.map st J)), (17, AV.ref 0 4), (18, st (NSys.jo s)), (19, AV.ref 0 6), (20, st (NSys.le s)), (21, AV.list LK.clip 2 1 [st (NSys.jo s), st (NSys.le s)]), (22, lro (List.length al) 1 (List.map st al)), (23, i6 (↑i0 : Int)), (24, lro (List.length al) 1 (List.map st al)), (25, i6 (↑(List.length al) : Int)), (26, bo true), (29, i6 (↑i1 : Int)), (30, o i0), (31, i6 (↑m : Int)), (32, bo true), (33, bo true), (34, o i0), (35, i6 (↑i1 : Int)), (36, AV.eaddr ra), (37, st x), (38, lro (List.length al) 1 (List.map st al)), (39, i6 (↑i0 : Int)), (40, AV.eaddr rb), (41, st w), (42, bo false), (43, bo false)] [Ob.cells (sysC s)]
def rvoS3 (s : NSys) (J : List ByteArray) (al : List ByteArray) (o : Nat → AV) (i0 : Nat) : St :=
  stOf 84 [27, 28, 29, 30, 31, 32, 33, 34, 35, 36, 37, 38, 39, 40, 41, 42, 43, 44, 45, 46, 47, 48, 49, 50, 51, 52, 53, 54, 55, 56, 57, 58, 59, 60, 61, 62, 63, 64, 65, 66, 67, 68, 69, 70, 71, 72, 73, 74, 75, 76, 77, 78, 79, 80, 81, 82] [(0, AV.agg (sysC s)), (1, AV.ref 0 0), (2, AV.list LK.nil 0 0 []), (3, o i0), (4, lro (List.length al) 1 (List.map st al)), (5, i6 (↑i0 : Int)), (6, i6 0), (7, AV.list LK.clip 0 1 []), (8, AV.agg (sysC s)), (9, bo true), (10, bo false), (12, AV.ref 0 1), (13, lro (List.length (NSys.digits s)) 1 (List.map st (NSys.digits s))), (14, AV.ref 0 2), (15, lro (List.length (NSys.powers s)) 1 (List.map st (NSys.powers s))), (16, lro (List.length J) 1 (List.map st J)), (17, AV.ref 0 4), (18, st (NSys.jo s)), (19, AV.ref 0 6), (20, st (NSys.le s)), (21, AV.list LK.clip 2 1 [st (NSys.jo s), st (NSys.le s)]), (22, lro (List.length al) 1 (List.map st al)), (23, i6 (↑i0 : Int)), (24, lro (List.length al) 1 (List.map st al)), (25, i6 (↑(List.length al) : Int)), (26, bo true)] [Ob.cells (sysC s)]
def rvoS4 (s : NSys) (J : List ByteArray) (al : List ByteArray) (o : Nat → AV) (i0 : Nat) : St :=
  stOf 84 [6, 23, 24, 25, 26, 27, 28, 29, 30, 31, 32, 33, 34, 35, 36, 37, 38, 39, 40, 41, 42, 43, 44, 45, 46, 47, 48, 49, 50, 51, 52, 53, 54, 55, 56, 57, 58, 59, 60, 61, 62, 63, 64, 65, 66, 67, 68, 69, 70, 71, 72, 73, 74, 75, 76, 77, 78, 79, 80, 81, 82] [(0, AV.agg (sysC s)), (1, AV.ref 0 0), (2, AV.list LK.nil 0 0 []), (3, o i0), (4, lro (List.length al) 1 (List.map st al)), (5, i6 (↑i0 : Int)), (7, AV.list LK.clip 0 1 []), (8, AV.agg (sysC s)), (9, bo true), (10, bo false), (12, AV.ref 0 1), (13, lro (List.length (NSys.digits s)) 1 (List.map st (NSys.digits s))), (14, AV.ref 0 2), (15, lro (List.length (NSys.powers s)) 1 (List.map st (NSys.powers s))), (16, lro (List.length J) 1 (List.map st J)), (17, AV.ref 0 4), (18, st (NSys.jo s)), (19, AV.ref 0 6), (20, st (NSys.le s)), (21, AV.list LK.clip 2 1 [st (NSys.jo s), st (NSys.le s)]), (22, lro (List.length al) 1 (List.map st al))] [Ob.cells (sysC s)]
def rvoS5 (s : NSys) (J : List ByteArray) (al : List ByteArray) (ra : List AV) (rb : List AV) (x : ByteArray) (w : ByteArray) (m : Nat) (o : Nat → AV) (n3 : Nat) (c3 : List AV) (i0 : Nat) (i1 : Nat) : St :=
  stOf 84 [44, 45, 68, 69, 70, 71, 72, 73, 74, 75, 76, 77, 78, 79, 80, 81, 82] [(0, AV.agg (sysC s)), (1, AV.ref 0 0), (2, AV.list LK.nil 0 0 []), (3, lro n3 1 c3), (4, lro (List.length al) 1 (List.map st al)), (5, i6 (w6 ((↑i0 : Int) + 1))), (6, i6 (↑i1 : Int)), (7, AV.list LK.clip 0 1 []), (8, AV.agg (sysC s)), (9, bo true), (10, bo false), (12, AV.ref 0 1), (13, lro (List.length (NSys.digits s)) 1 (List.map st (NSys.digits s))), (14, AV.ref 0 2), (15, lro (List.length (NSys.powers s)) 1 (List.map st (NSys.powers s))), (16, lro (List.length J) 1 (List.map st J)), (17, AV.ref 0 4), (18, st (NSys.jo s)), (19, AV.ref 0 6), (20, st (NSys.le s)), (21, AV.list LK.clip 2 1 [st (NSys.jo s), st (NSys.le s)]), (22, lro (List.length al) 1 (List.map st al)), (23, i6 (↑i0 : Int)), (24, lro (List.length al) 1 (List.map st al)), (25, i6 (↑(List.length al) : Int)), (26, bo true), (27, i6 (↑i0 : Int)), (28, i6 (w6 ((↑i0 : Int) + 1))), (29, i6 (↑i1 : Int)), (30, o i0), (31, i6 (↑m : Int)), (32, bo true), (33, bo true), (34, o i0), (35, i6 (↑i1 : Int)), (36, AV.eaddr ra), (37, st x), (38, lro (List.length al) 1 (List.map st al)), (39, i6 (↑i0 : Int)), (40, AV.eaddr rb), (41, st w), (42, bo false), (43, bo false), (46, lro (List.length al) 1 (List.map st al)), (47, i6 (↑i0 : Int)), (48, AV.eaddr rb), (49, st w), (50, bo true), (51, bo true), (52, i6 (↑i1 : Int)), (53, o i0), (54, i6 (↑m : Int)), (55, bo true), (56, bo true), (66, bo true), (67, bo true)] [Ob.cells (sysC s)]
def rvoS6 (s : NSys) (J : List ByteArray) (al : List ByteArray) (ra : List AV) (rb : List AV) (x : ByteArray) (w : ByteArray) (m : Nat) (o : Nat → AV) (n3 : Nat) (c3 : List AV) (i0 : Nat) (i1 : Nat) : St :=
  stOf 84 [44, 45, 68, 69, 70, 71, 72, 73, 74, 75, 76, 77, 78, 79, 80, 81, 82] [(0, AV.agg (sysC s)), (1, AV.ref 0 0), (2, AV.list LK.nil 0 0 []), (3, lro n3 1 c3), (4, lro (List.length al) 1 (List.map st al)), (5, i6 (w6 ((↑i0 : Int) + 1))), (6, i6 (↑i1 : Int)), (7, AV.list LK.clip 0 1 []), (8, AV.agg (sysC s)), (9, bo true), (10, bo false), (12, AV.ref 0 1), (13, lro (List.length (NSys.digits s)) 1 (List.map st (NSys.digits s))), (14, AV.ref 0 2), (15, lro (List.length (NSys.powers s)) 1 (List.map st (NSys.powers s))), (16, lro (List.length J) 1 (List.map st J)), (17, AV.ref 0 4), (18, st (NSys.jo s)), (19, AV.ref 0 6), (20, st (NSys.le s)), (21, AV.list LK.clip 2 1 [st (NSys.jo s), st (NSys.le s)]), (22, lro (List.length al) 1 (List.map st al)), (23, i6 (↑i0 : Int)), (24, lro (List.length al) 1 (List.map st al)), (25, i6 (↑(List.length al) : Int)), (26, bo true), (27, i6 (↑i0 : Int)), (28, i6 (w6 ((↑i0 : Int) + 1))), (29, i6 (↑i1 : Int)), (30, o i0), (31, i6 (↑m : Int)), (32, bo true), (33, bo true), (34, o i0), (35, i6 (↑i1 : Int)), (36, AV.eaddr ra), (37, st x), (38, lro (List.length al) 1 (List.map st al)), (39, i6 (↑i0 : Int)), (40, AV.eaddr rb), (41, st w), (42, bo false), (43, bo false), (46, lro (List.length al) 1 (List.map st al)), (47, i6 (↑i0 : Int)), (48, AV.eaddr rb), (49, st w), (50, bo true), (51, bo true), (52, i6 (↑i1 : Int)), (53, o i0), (54, i6 (↑m : Int)), (55, bo false), (56, bo false), (57, o i0), (58, i6 (↑i1 : Int)), (59, AV.eaddr ra), (60, st x), (61, lro (List.length al) 1 (List.map st al)), (62, i6 (↑i0 : Int)), (63, AV.eaddr rb), (64, st w), (65, bo true), (66, bo true), (67, bo true)] [Ob.cells (sysC s)]
def rvoS7 (s : NSys) (J : List ByteArray) (al : List ByteArray) (ra : List AV) (rb : List AV) (x : ByteArray) (w : ByteArray) (m : Nat) (o : Nat → AV) (i0 : Nat) (i1 : Nat) : St :=
  stOf 84 [44, 45, 68, 69, 70, 71, 72, 73, 74, 75, 76, 77, 78, 79, 80, 81, 82] [(0, AV.agg (sysC s)), (1, AV.ref 0 0), (2, AV.list LK.nil 0 0 []), (3, o i0), (4, lro (List.length al) 1 (List.map st al)), (5, i6 (w6 ((↑i0 : Int) + 1))), (6, i6 (↑i1 : Int)), (7, AV.list LK.clip 0 1 []), (8, AV.agg (sysC s)), (9, bo true), (10, bo false), (12, AV.ref 0 1), (13, lro (List.length (NSys.digits s)) 1 (List.map st (NSys.digits s))), (14, AV.ref 0 2), (15, lro (List.length (NSys.powers s)) 1 (List.map st (NSys.powers s))), (16, lro (List.length J) 1 (List.map st J)), (17, AV.ref 0 4), (18, st (NSys.jo s)), (19, AV.ref 0 6), (20, st (NSys.le s)), (21, AV.list LK.clip 2 1 [st (NSys.jo s), st (NSys.le s)]), (22, lro (List.length al) 1 (List.map st al)), (23, i6 (↑i0 : Int)), (24, lro (List.length al) 1 (List.map st al)), (25, i6 (↑(List.length al) : Int)), (26, bo true), (27, i6 (↑i0 : Int)), (28, i6 (w6 ((↑i0 : Int) + 1))), (29, i6 (↑i1 : Int)), (30, o i0), (31, i6 (↑m : Int)), (32, bo true), (33, bo true), (34, o i0), (35, i6 (↑i1 : Int)), (36, AV.eaddr ra), (37, st x), (38, lro (List.length al) 1 (List.map st al)), (39, i6 (↑i0 : Int)), (40, AV.eaddr rb), (41, st w), (42, bo false), (43, bo false), (46, lro (List.length al) 1 (List.map st al)), (47, i6 (↑i0 : Int)), (48, AV.eaddr rb), (49, st w), (50, bo true), (51, bo true), (52, i6 (↑i1 : Int)), (53, o i0), (54, i6 (↑m : Int)), (55, bo false), (56, bo false), (57, o i0), (58, i6 (↑i1 : Int)), (59, AV.eaddr ra), (60, st x), (61, lro (List.length al) 1 (List.map st al)), (62, i6 (↑i0 : Int)), (63, AV.eaddr rb), (64, st w), (65, bo false), (66, bo false), (67, bo false)] [Ob.cells (sysC s)]
def rvoS8 (s : NSys) (J : List ByteArray) (al : List ByteArray) (ra : List AV) (rb : List AV) (x : ByteArray) (w : ByteArray) (m : Nat) (o : Nat → AV) (i0 : Nat) (i1 : Nat) : St :=
  stOf 84 [44, 45, 68, 69, 70, 71, 72, 73, 74, 75, 76, 77, 78, 79, 80, 81, 82] [(0, AV.agg (sysC s)), (1, AV.ref 0 0), (2, AV.list LK.nil 0 0 []), (3, o i0), (4, lro (List.length al) 1 (List.map st al)), (5, i6 (w6 ((↑i0 : Int) + 1))), (6, i6 (↑i1 : Int)), (7, AV.list LK.clip 0 1 []), (8, AV.agg (sysC s)), (9, bo true), (10, bo false), (12, AV.ref 0 1), (13, lro (List.length (NSys.digits s)) 1 (List.map st (NSys.digits s))), (14, AV.ref 0 2), (15, lro (List.length (NSys.powers s)) 1 (List.map st (NSys.powers s))), (16, lro (List.length J) 1 (List.map st J)), (17, AV.ref 0 4), (18, st (NSys.jo s)), (19, AV.ref 0 6), (20, st (NSys.le s)), (21, AV.list LK.clip 2 1 [st (NSys.jo s), st (NSys.le s)]), (22, lro (List.length al) 1 (List.map st al)), (23, i6 (↑i0 : Int)), (24, lro (List.length al) 1 (List.map st al)), (25, i6 (↑(List.length al) : Int)), (26, bo true), (27, i6 (↑i0 : Int)), (28, i6 (w6 ((↑i0 : Int) + 1))), (29, i6 (↑i1 : Int)), (30, o i0), (31, i6 (↑m : Int)), (32, bo true), (33, bo true), (34, o i0), (35, i6 (↑i1 : Int)), (36, AV.eaddr ra), (37, st x), (38, lro (List.length al) 1 (List.map st al)), (39, i6 (↑i0 : Int)), (40, AV.eaddr rb), (41, st w), (42, bo false), (43, bo false), (46, lro (List.length al) 1 (List.map st al)), (47, i6 (↑i0 : Int)), (48, AV.eaddr rb), (49, st w), (50, bo false), (51, bo false), (67, bo false)] [Ob.cells (sysC s)]
def rvoS9 (s : NSys) (J : List ByteArray) (al : List ByteArray) (m : Nat) (o : Nat → AV) (i0 : Nat) (i1 : Nat) : St :=
  stOf 84 [27, 28, 44, 45, 46, 47, 48, 49, 50, 51, 52, 53, 54, 55, 56, 57, 58, 59, 60, 61, 62, 63, 64, 65, 66, 67, 68, 69, 70, 71, 72, 73, 74, 75, 76, 77, 78, 79, 80, 81, 82] [(0, AV.agg (sysC s)), (1, AV.ref 0 0), (2, AV.list LK.nil 0 0 []), (3, o i0), (4, lro (List.length al) 1 (List.map st al)), (5, i6 (↑i0 : Int)), (6, i6 (↑i1 : Int)), (7, AV.list LK.clip 0 1 []), (8, AV.agg (sysC s)), (9, bo true), (10, bo false), (12, AV.ref 0 1), (13, lro (List.length (NSys.digits s)) 1 (List.map st (NSys.digits s))), (14, AV.ref 0 2), (15, lro (List.length (NSys.powers s)) 1 (List.map st (NSys.powers s))), (16, lro (List.length J) 1 (List.map st J)), (17, AV.ref 0 4), (18, st (NSys.jo s)), (19, AV.ref 0 6), (20, st (NSys.le s)), (21, AV.list LK.clip 2 1 [st (NSys.jo s), st (NSys.le s)]), (22, lro (List.length al) 1 (List.map st al)), (23, i6 (↑i0 : Int)), (24, lro (List.length al) 1 (List.map st al)), (25, i6 (↑(List.length al) : Int)), (26, bo true), (29, i6 (↑i1 : Int)), (30, o i0), (31, i6 (↑m : Int)), (32, bo false), (33, bo false), (43, bo false)] [Ob.cells (sysC s)]
def rvoS10 (s : NSys) (J : List ByteArray) (al : List ByteArray) (rb : List AV) (w : ByteArray) (m : Nat) (o : Nat → AV) (n3 : Nat) (c3 : List AV) (i0 : Nat) (i1 : Nat) : St :=
  stOf 84 [44, 45, 68, 69, 70, 71, 72, 73, 74, 75, 76, 77, 78, 79, 80, 81, 82] [(0, AV.agg (sysC s)), (1, AV.ref 0 0), (2, AV.list LK.nil 0 0 []), (3, lro n3 1 c3), (4, lro (List.length al) 1 (List.map st al)), (5, i6 (w6 ((↑i0 : Int) + 1))), (6, i6 (↑i1 : Int)), (7, AV.list LK.clip 0 1 []), (8, AV.agg (sysC s)), (9, bo true), (10, bo false), (12, AV.ref 0 1), (13, lro (List.length (NSys.digits s)) 1 (List.map st (NSys.digits s))), (14, AV.ref 0 2), (15, lro (List.length (NSys.powers s)) 1 (List.map st (NSys.powers s))), (16, lro (List.length J) 1 (List.map st J)), (17, AV.ref 0 4), (18, st (NSys.jo s)), (19, AV.ref 0 6), (20, st (NSys.le s)), (21, AV.list LK.clip 2 1 [st (NSys.jo s), st (NSys.le s)]), (22, lro (List.length al) 1 (List.map st al)), (23, i6 (↑i0 : Int)), (24, lro (List.length al) 1 (List.map st al)), (25, i6 (↑(List.length al) : Int)), (26, bo true), (27, i6 (↑i0 : Int)), (28, i6 (w6 ((↑i0 : Int) + 1))), (29, i6 (↑i1 : Int)), (30, o i0), (31, i6 (↑m : Int)), (32, bo false), (33, bo false), (43, bo false), (46, lro (List.length al) 1 (List.map st al)), (47, i6 (↑i0 : Int)), (48, AV.eaddr rb), (49, st w), (50, bo true), (51, bo true), (52, i6 (↑i1 : Int)), (53, o i0), (54, i6 (↑m : Int)), (55, bo true), (56, bo true), (66, bo true), (67, bo true)] [Ob.cells (sysC s)]
def rvoS11 (s : NSys) (J : List ByteArray) (al : List ByteArray) (ra : List AV) (rb : List AV) (x : ByteArray) (w : ByteArray) (m : Nat) (o : Nat → AV) (n3 : Nat) (c3 : List AV) (i0 : Nat) (i1 : Nat) : St :=
  stOf 84 [44, 45, 68, 69, 70, 71, 72, 73, 74, 75, 76, 77, 78, 79, 80, 81, 82] [(0, AV.agg (sysC s)), (1, AV.ref 0 0), (2, AV.list LK.nil 0 0 []), (3, lro n3 1 c3), (4, lro (List.length al) 1 (List.map st al)), (5, i6 (w6 ((↑i0 : Int) + 1))), (6, i6 (↑i1 : Int)), (7, AV.list LK.clip 0 1 []), (8, AV.agg (sysC s)), (9, bo true), (10, bo false), (12, AV.ref 0 1), (13, lro (List.length (NSys.digits s)) 1 (List.map st (NSys.digits s))), (14, AV.ref 0 2), (15, lro (List.length (NSys.powers s)) 1 (List.map st (NSys.powers s))), (16, lro (List.length J) 1 (List.map st J)), (17, AV.ref 0 4), (18, st (NSys.jo s)), (19, AV.ref 0 6), (20, st (NSys.le s)), (21, AV.list LK.clip 2 1 [st (NSys.jo s), st (NSys.le s)]), (22, lro (List.length al) 1 (List.map st al)), (23, i6 (↑i0 : Int)), (24, lro (List.length al) 1 (List.map st al)), (25, i6 (↑(List.length al) : Int)), (26, bo true), (27, i6 (↑i0 : Int)), (28, i6 (w6 ((↑i0 : Int) + 1))), (29, i6 (↑i1 : Int)), (30, o i0), (31, i6 (↑m : Int)), (32, bo false), (33, bo false), (43, bo false), (46, lro (List.length al) 1 (List.map st al)), (47, i6 (↑i0 : Int)), (48, AV.eaddr rb), (49, st w), (50, bo true), (51, bo true), (52, i6 (↑i1 : Int)), (53, o i0), (54, i6 (↑m : Int)), (55, bo false), (56, bo false), (57, o i0), (58, i6 (↑i1 : Int)), (59, AV.eaddr ra), (60, st x), (61, lro (List.length al) 1 (List.map st al)), (62, i6 (↑i0 : Int)), (63, AV.eaddr rb), (64, st w), (65, bo true), (66, bo true), (67, bo true)] [Ob.cells (sysC s)]
def rvoS12 (s : NSys) (J : List ByteArray) (al : List ByteArray) (ra : List AV) (rb : List AV) (x : ByteArray) (w : ByteArray) (m : Nat) (o : Nat → AV) (i0 : Nat) (i1 : Nat) : St :=
  stOf 84 [44, 45, 68, 69, 70, 71, 72, 73, 74, 75, 76, 77, 78, 79, 80, 81, 82] [(0, AV.agg (sysC s)), (1, AV.ref 0 0), (2, AV.list LK.nil 0 0 []), (3, o i0), (4, lro (List.length al) 1 (List.map st al)), (5, i6 (w6 ((↑i0 : Int) + 1))), (6, i6 (↑i1 : Int)), (7, AV.list LK.clip 0 1 []), (8, AV.agg (sysC s)), (9, bo true), (10, bo false), (12, AV.ref 0 1), (13, lro (List.length (NSys.digits s)) 1 (List.map st (NSys.digits s))), (14, AV.ref 0 2), (15, lro (List.length (NSys.powers s)) 1 (List.map st (NSys.powers s))), (16, lro (List.length J) 1 (List.map st J)), (17, AV.ref 0 4), (18, st (NSys.jo s)), (19, AV.ref 0 6), (20, st (NSys.le s)), (21, AV.list LK.clip 2 1 [st (NSys.jo s), st (NSys.le s)]), (22, lro (List.length al) 1 (List.map st al)), (23, i6 (↑i0 : Int)), (24, lro (List.length al) 1 (List.map st al)), (25, i6 (↑(List.length al) : Int)), (26, bo true), (27, i6 (↑i0 : Int)), (28, i6 (w6 ((↑i0 : Int) + 1))), (29, i6 (↑i1 : Int)), (30, o i0), (31, i6 (↑m : Int)), (32, bo false), (33, bo false), (43, bo false), (46, lro (List.length al) 1 (List.map st al)), (47, i6 (↑i0 : Int)), (48, AV.eaddr rb), (49, st w), (50, bo true), (51, bo true), (52, i6 (↑i1 : Int)), (53, o i0), (54, i6 (↑m : Int)), (55, bo false), (56, bo false), (57, o i0), (58, i6 (↑i1 : Int)), (59, AV.eaddr ra), (60, st x), (61, lro (List.length al) 1 (List.map st al)), (62, i6 (↑i0 : Int)), (63, AV.eaddr rb), (64, st w), (65, bo false), (66, bo false), (67, bo false)] [Ob.cells (sysC s)]
def rvoS13 (s : NSys) (J : List ByteArray) (al : List ByteArray) (rb : List AV) (w : ByteArray) (m : Nat) (o : Nat → AV) (i0 : Nat) (i1 : Nat) : St :=
  stOf 84 [44, 45, 68, 69, 70, 71, 72, 73, 74, 75, 76, 77, 78, 79, 80, 81, 82] [(0, AV.agg (sysC s)), (1, AV.ref 0 0), (2, AV.list LK.nil 0 0 []), (3, o i0), (4, lro (List.length al) 1 (List.map st al)), (5, i6 (w6 ((↑i0 : Int) + 1))), (6, i6 (↑i1 : Int)), (7, AV.list LK.clip 0 1 []), (8, AV.agg (sysC s)), (9, bo true), (10, bo false), (12, AV.ref 0 1), (13, lro (List.length (NSys.digits s)) 1 (List.map st (NSys.digits s))), (14, AV.ref 0 2), (15, lro (List.length (NSys.powers s)) 1 (List.map st (NSys.powers s))), (16, lro (List.length J) 1 (List.map st J)), (17, AV.ref 0 4), (18, st (NSys.jo s)), (19, AV.ref 0 6), (20, st (NSys.le s)), (21, AV.list LK.clip 2 1 [st (NSys.jo s), st (NSys.le s)]), (22, lro (List.length al) 1 (List.map st al)), (23, i6 (↑i0 : Int)), (24, lro (List.length al) 1 (List.map st al)), (25, i6 (↑(List.length al) : Int)), (26, bo true), (27, i6 (↑i0 : Int)), (28, i6 (w6 ((↑i0 : Int) + 1))), (29, i6 (↑i1 : Int)), (30, o i0), (31, i6 (↑m : Int)), (32, bo false), (33, bo false), (43, bo false), (46, lro (List.length al) 1 (List.map st al)), (47, i6 (↑i0 : Int)), (48, AV.eaddr rb), (49, st w), (50, bo false), (51, bo false), (67, bo false)] [Ob.cells (sysC s)]
def rvoS14 (s : NSys) (J : List ByteArray) (al : List ByteArray) (o : Nat → AV) (i0 : Nat) : St :=
  stOf 84 [6, 27, 28, 29, 30, 31, 32, 33, 34, 35, 36, 37, 38, 39, 40, 41, 42, 43, 44, 45, 46, 47, 48, 49, 50, 51, 52, 53, 54, 55, 56, 57, 58, 59, 60, 61, 62, 63, 64, 65, 66, 67, 68, 69, 70, 71, 72, 73, 74, 75, 76, 77, 78, 79, 80, 81, 82] [(0, AV.agg (sysC s)), (1, AV.ref 0 0), (2, AV.list LK.nil 0 0 []), (3, o i0), (4, lro (List.length al) 1 (List.map st al)), (5, i6 (↑i0 : Int)), (7, AV.list LK.clip 0 1 []), (8, AV.agg (sysC s)), (9, bo true), (10, bo false), (12, AV.ref 0 1), (13, lro (List.length (NSys.digits s)) 1 (List.map st (NSys.digits s))), (14, AV.ref 0 2), (15, lro (List.length (NSys.powers s)) 1 (List.map st (NSys.powers s))), (16, lro (List.length J) 1 (List.map st J)), (17, AV.ref 0 4), (18, st (NSys.jo s)), (19, AV.ref 0 6), (20, st (NSys.le s)), (21, AV.list LK.clip 2 1 [st (NSys.jo s), st (NSys.le s)]), (22, lro (List.length al) 1 (List.map st al)), (23, i6 (↑i0 : Int)), (24, lro (List.length al) 1 (List.map st al)), (25, i6 (↑(List.length al) : Int)), (26, bo false)] [Ob.cells (sysC s)]
def rvoS15 (s : NSys) (J : List ByteArray) (al : List ByteArray) : St :=
  stOf 84 [] [(0, AV.agg (sysC s)), (1, AV.ref 0 0), (2, AV.list LK.nil 0 0 []), (3, AV.list LK.clip 0 1 []), (4, lro (List.length al) 1 (List.map st al)), (5, i6 0), (7, AV.list LK.clip 0 1 []), (8, AV.agg (sysC s)), (9, bo true), (10, bo false), (12, AV.ref 0 1), (13, lro (List.length (NSys.digits s)) 1 (List.map st (NSys.digits s))), (14, AV.ref 0 2), (15, lro (List.length (NSys.powers s)) 1 (List.map st (NSys.powers s))), (16, lro (List.length J) 1 (List.map st J)), (17, AV.ref 0 4), (18, st (NSys.jo s)), (19, AV.ref 0 6), (20, st (NSys.le s)), (21, AV.list LK.clip 2 1 [st (NSys.jo s), st (NSys.le s)]), (22, lro (List.length al) 1 (List.map st al))] [Ob.cells (sysC s)]
theorem rvo_r1_tt (s : NSys) (J : List ByteArray) (al : List ByteArray) (ra : List AV) (rb : List AV) (x : ByteArray) (w : ByteArray) (m : Nat) (o : Nat → AV) (X : Ext) (call : Caller) (lf : Nat) (i0 : Nat) (i1 : Nat)
  (h0 : keep [Ob.cells (sysC s)] (lenv Tryd.prog 22 [Ob.cells (sysC s)] (o i0)) = some (i6 (↑m : Int), [Ob.cells (sysC s)]))
  (h1 : decide ((↑i1 : Int) < (↑m : Int)) = true)
  (h2 : keep [Ob.cells (sysC s)] (indexAddrv Tryd.prog 22 [Ob.cells (sysC s)] (o i0) (i6 (↑i1 : Int))) = some (AV.eaddr ra, [Ob.cells (sysC s)]))
  (h3 : keep [Ob.cells (sysC s)] (loadv Tryd.prog 9 [Ob.cells (sysC s)] (AV.eaddr ra)) = some (st x, [Ob.cells (sysC s)]))
  (h4 : keep [Ob.cells (sysC s)] (indexAddrv Tryd.prog 22 [Ob.cells (sysC s)] (lro (List.length al) 1 (List.map st al)) (i6 (↑i0 : Int))) = some (AV.eaddr rb, [Ob.cells (sysC s)]))
  (h5 : keep [Ob.cells (sysC s)] (loadv Tryd.prog 9 [Ob.cells (sysC s)] (AV.eaddr rb)) = some (st w, [Ob.cells (sysC s)]))
  (h6 : Op.bytesLess (ByteArray.toList x) (ByteArray.toList w) = true) : vexec Tryd.prog X call lf 0 fg27 (loopN Tryd.f27 1) (rvoS0 s J al o i0 i1) = some (Ex.normal, (rvoS1 s J al ra rb x w m o i0 i1)) :=
  around_sound (ans := [(3, Ans.v (i6 (↑m : Int))), (4, Ans.b true), (11, Ans.v (AV.eaddr ra)), (13, Ans.v (st x)), (19, Ans.v (AV.eaddr rb)), (21, Ans.v (st w)), (23, Ans.b true)]) (by kernel_rfl) (And.intro h0 (And.intro h1 (And.intro h2 (And.intro h3 (And.intro h4 (And.intro h5 (And.intro h6 trivial)))))))
theorem rvo_r1_tf (s : NSys) (J : List ByteArray) (al : List ByteArray) (ra : List AV) (rb : List AV) (x : ByteArray) (w : ByteArray) (m : Nat) (o : Nat → AV) (X : Ext) (call : Caller) (lf : Nat) (i0 : Nat) (i1 : Nat)
  (h0 : keep [Ob.cells (sysC s)] (lenv Tryd.prog 22 [Ob.cells (sysC s)] (o i0)) = some (i6 (↑m : Int), [Ob.cells (sysC s)]))
  (h1 : decide ((↑i1 : Int) < (↑m : Int)) = true)
  (h2 : keep [Ob.cells (sysC s)] (indexAddrv Tryd.prog 22 [Ob.cells (sysC s)] (o i0) (i6 (↑i1 : Int))) = some (AV.eaddr ra, [Ob.cells (sysC s)]))
  (h3 : keep [Ob.cells (sysC s)] (loadv Tryd.prog 9 [Ob.cells (sysC s)] (AV.eaddr ra)) = some (st x, [Ob.cells (sysC s)]))
  (h4 : keep [Ob.cells (sysC s)] (indexAddrv Tryd.prog 22 [Ob.cells (sysC s)] (lro (List.length al) 1 (List.map st al)) (i6 (↑i0 : Int))) = some (AV.eaddr rb, [Ob.cells (sysC s)]))
  (h5 : keep [Ob.cells (sysC s)] (loadv Tryd.prog 9 [Ob.cells (sysC s)] (AV.eaddr rb)) = some (st w, [Ob.cells (sysC s)]))
  (h6 : Op.bytesLess (ByteArray.toList x) (ByteArray.toList w) = false) : vexec Tryd.prog X call lf 0 fg27 (loopN Tryd.f27 1) (rvoS0 s J al o i0 i1) = some (Ex.exit 2, (rvoS2 s J al ra rb x w m o i0 i1)) :=
  around_sound (ans := [(3, Ans.v (i6 (↑m : Int))), (4, Ans.b true), (11, Ans.v (AV.eaddr ra)), (13, Ans.v (st x)), (19, Ans.v (AV.eaddr rb)), (21, Ans.v (st w)), (23, Ans.b false)]) (by kernel_rfl) (And.intro h0 (And.intro h1 (And.intro h2 (And.intro h3 (And.intro h4 (And.intro h5 (And.intro h6 trivial)))))))
theorem rvo_r0_tltftft (s : NSys) (J : List ByteArray) (al : List ByteArray) (b : List ByteArray) (ra : List AV) (rb : List AV) (x : ByteArray) (w : ByteArray) (m : Nat) (o : Nat → AV) (n3 : Nat) (c3 : List AV) (X : Ext) (call : Caller) (lf : Nat) (i0 : Nat) (i1 : Nat)
  (h0 : decide ((↑i0 : Int) < (↑(List.length al) : Int)) = true)
  (h1 : vexec Tryd.prog X call lf 0 fg27 (Code.loop (loopN Tryd.f27 1)) (rvoS3 s J al o i0) = some (Ex.exit 2, (rvoS2 s J al ra rb x w m o i0 i1)))
  (h2 : keep [Ob.cells (sysC s)] (indexAddrv Tryd.prog 22 [Ob.cells (sysC s)] (lro (List.length al) 1 (List.map st al)) (i6 (↑i0 : Int))) = some (AV.eaddr rb, [Ob.cells (sysC s)]))
  (h3 : keep [Ob.cells (sysC s)] (loadv Tryd.prog 9 [Ob.cells (sysC s)] (AV.eaddr rb)) = some (st w, [Ob.cells (sysC s)]))
  (h4 : (!ByteArray.toList w == ByteArray.toList (ByteArray.mk #[])) = true)
  (h5 : keep [Ob.cells (sysC s)] (lenv Tryd.prog 22 [Ob.cells (sysC s)] (o i0)) = some (i6 (↑m : Int), [Ob.cells (sysC s)]))
  (h6 : ((↑i1 : Int) == (↑m : Int)) = false)
  (h7 : keep [Ob.cells (sysC s)] (indexAddrv Tryd.prog 22 [Ob.cells (sysC s)] (o i0) (i6 (↑i1 : Int))) = some (AV.eaddr ra, [Ob.cells (sysC s)]))
  (h8 : keep [Ob.cells (sysC s)] (loadv Tryd.prog 9 [Ob.cells (sysC s)] (AV.eaddr ra)) = some (st x, [Ob.cells (sysC s)]))
  (h9 : keep [Ob.cells (sysC s)] (indexAddrv Tryd.prog 22 [Ob.cells (sysC s)] (lro (List.length al) 1 (List.map st al)) (i6 (↑i0 : Int))) = some (AV.eaddr rb, [Ob.cells (sysC s)]))
  (h10 : keep [Ob.cells (sysC s)] (loadv Tryd.prog 9 [Ob.cells (sysC s)] (AV.eaddr rb)) = some (st w, [Ob.cells (sysC s)]))
  (h11 : (!ByteArray.toList x == ByteArray.toList w) = true)
  (h12 : slc Tryd.prog 22 [Ob.cells (sysC s)] true 0 (o i0) none (some (i6 (↑i1 : Int))) none = some (lro 0 1 [], [Ob.cells (sysC s)]))
  (h13 : keep [Ob.cells (sysC s)] (indexAddrv Tryd.prog 22 [Ob.cells (sysC s)] (lro (List.length al) 1 (List.map st al)) (i6 (↑i0 : Int))) = some (AV.eaddr rb, [Ob.cells (sysC s)]))
  (h14 : keep [Ob.cells (sysC s)] (loadv Tryd.prog 9 [Ob.cells (sysC s)] (AV.eaddr rb)) = some (st w, [Ob.cells (sysC s)]))
  (h15 : slc Tryd.prog 22 [Ob.cells (sysC s)] true 0 (o i0) (some (i6 (↑i1 : Int))) none none = some (lro (List.length b) 1 (List.map st b), [Ob.cells (sysC s)]))
  (h16 : appendv Tryd.prog 22 [Ob.cells (sysC s), Ob.arr 1 1 [st w]] 0 (AV.own 1 1) (lro (List.length b) 1 (List.map st b)) = some (AV.own 1 n3, [Ob.cells (sysC s), Ob.arr n3 1 c3]))
  (h17 : fin 0 [3] (fg27 12) [1] 1 (St.mk [AV.agg (sysC s), AV.ref 0 0, AV.list LK.nil 0 0 [], AV.own 1 n3, lro (List.length al) 1 (List.map st al), i6 (↑i0 : Int), i6 (↑i1 : Int), AV.list LK.clip 0 1 [], AV.agg (sysC s), bo true, bo false, AV.undef, AV.ref 0 1, lro (List.length (NSys.digits s)) 1 (List.map st (NSys.digits s)), AV.ref 0 2, lro (List.length (NSys.powers s)) 1 (List.map st (NSys.powers s)), lro (List.length J) 1 (List.map st J), AV.ref 0 4, st (NSys.jo s), AV.ref 0 6, st (NSys.le s), AV.list LK.clip 2 1 [st (NSys.jo s), st (NSys.le s)], lro (List.length al) 1 (List.map st al), i6 (↑i0 : Int), lro (List.length al) 1 (List.map st al), i6 (↑(List.length al) : Int), bo true, AV.any, AV.any, i6 (↑i1 : Int), o i0, i6 (↑m : Int), bo true, bo true, o i0, i6 (↑i1 : Int), AV.eaddr ra, st x, lro (List.length al) 1 (List.map st al), i6 (↑i0 : Int), AV.eaddr rb, st w, bo false, bo false, AV.any, AV.any, lro (List.length al) 1 (List.map st al), i6 (↑i0 : Int), AV.eaddr rb, st w, bo true, bo true, i6 (↑i1 : Int), o i0, i6 (↑m : Int), bo false, bo false, o i0, i6 (↑i1 : Int), AV.eaddr ra, st x, lro (List.length al) 1 (List.map st al), i6 (↑i0 : Int), AV.eaddr rb, st w, bo true, bo true, bo true, AV.list LK.clip 0 1 [], o i0, i6 (↑i1 : Int), lro 0 1 [], AV.list LK.clip 0 1 [], lro (List.length al) 1 (List.map st al), i6 (↑i0 : Int), AV.eaddr rb, st w, AV.list LK.clip 1 1 [st w], AV.own 1 1, o i0, i6 (↑i1 : Int), lro (List.length b) 1 (List.map st b), AV.own 1 n3, AV.undef] [Ob.cells (sysC s), Ob.arr n3 1 c3]) = some (St.mk [AV.agg (sysC s), AV.ref 0 0, AV.list LK.nil 0 0 [], lro n3 1 c3, lro (List.length al) 1 (List.map st al), i6 (↑i0 : Int), i6 (↑i1 : Int), AV.list LK.clip 0 1 [], AV.agg (sysC s), bo true, bo false, AV.undef, AV.ref 0 1, lro (List.length (NSys.digits s)) 1 (List.map st (NSys.digits s)), AV.ref 0 2, lro (List.length (NSys.powers s)) 1 (List.map st (NSys.powers s)), lro (List.length J) 1 (List.map st J), AV.ref 0 4, st (NSys.jo s), AV.ref 0 6, st (NSys.le s), AV.list LK.clip 2 1 [st (NSys.jo s), st (NSys.le s)], lro (List.length al) 1 (List.map st al), i6 (↑i0 : Int), lro (List.length al) 1 (List.map st al), i6 (↑(List.length al) : Int), bo true, AV.any, AV.any, i6 (↑i1 : Int), o i0, i6 (↑m : Int), bo true, bo true, o i0, i6 (↑i1 : Int), AV.eaddr ra, st x, lro (List.length al) 1 (List.map st al), i6 (↑i0 : Int), AV.eaddr rb, st w, bo false, bo false, AV.any, AV.any, lro (List.length al) 1 (List.map st al), i6 (↑i0 : Int), AV.eaddr rb, st w, bo true, bo true, i6 (↑i1 : Int), o i0, i6 (↑m : Int), bo false, bo false, o i0, i6 (↑i1 : Int), AV.eaddr ra, st x, lro (List.length al) 1 (List.map st al), i6 (↑i0 : Int), AV.eaddr rb, st w, bo true, bo true, bo true, AV.any, AV.any, AV.any, AV.any, AV.any, AV.any, AV.any, AV.any, AV.any, AV.any, AV.any, AV.any, AV.any, AV.any, AV.any, AV.undef] [Ob.cells (sysC s)])) : vexec Tryd.prog X call lf 0 fg27 (loopN Tryd.f27 0) (rvoS4 s J al o i0) = some (Ex.normal, (rvoS6 s J al ra rb x w m o n3 c3 i0 i1)) :=
  around_sound (ans := [(4, Ans.b true), (8, Ans.l (Ex.exit 2) (rvoS2 s J al ra rb x w m o i0 i1)), (12, Ans.v (AV.eaddr rb)), (13, Ans.v (st w)), (14, Ans.b true), (21, Ans.v (i6 (↑m : Int))), (23, Ans.b false), (31, Ans.v (AV.eaddr ra)), (33, Ans.v (st x)), (39, Ans.v (AV.eaddr rb)), (41, Ans.v (st w)), (43, Ans.b true), (52, Ans.v (lro 0 1 [])), (56, Ans.v (AV.eaddr rb)), (57, Ans.v (st w)), (62, Ans.v (lro (List.length b) 1 (List.map st b))), (63, Ans.c (AV.own 1 n3) [Ob.cells (sysC s), Ob.arr n3 1 c3]), (65, Ans.l Ex.normal (St.mk [AV.agg (sysC s), AV.ref 0 0, AV.list LK.nil 0 0 [], lro n3 1 c3, lro (List.length al) 1 (List.map st al), i6 (↑i0 : Int), i6 (↑i1 : Int), AV.list LK.clip 0 1 [], AV.agg (sysC s), bo true, bo false, AV.undef, AV.ref 0 1, lro (List.length (NSys.digits s)) 1 (List.map st (NSys.digits s)), AV.ref 0 2, lro (List.length (NSys.powers s)) 1 (List.map st (NSys.powers s)), lro (List.length J) 1 (List.map st J), AV.ref 0 4, st (NSys.jo s), AV.ref 0 6, st (NSys.le s), AV.list LK.clip 2 1 [st (NSys.jo s), st (NSys.le s)], lro (List.length al) 1 (List.map st al), i6 (↑i0 : Int), lro (List.length al) 1 (List.map st al), i6 (↑(List.length al) : Int), bo true, AV.any, AV.any, i6 (↑i1 : Int), o i0, i6 (↑m : Int), bo true, bo true, o i0, i6 (↑i1 : Int), AV.eaddr ra, st x, lro (List.length al) 1 (List.map st al), i6 (↑i0 : Int), AV.eaddr rb, st w, bo false, bo false, AV.any, AV.any, lro (List.length al) 1 (List.map st al), i6 (↑i0 : Int), AV.eaddr rb, st w, bo true, bo true, i6 (↑i1 : Int), o i0, i6 (↑m : Int), bo false, bo false, o i0, i6 (↑i1 : Int), AV.eaddr ra, st x, lro (List.length al) 1 (List.map st al), i6 (↑i0 : Int), AV.eaddr rb, st w, bo true, bo true, bo true, AV.any, AV.any, AV.any, AV.any, AV.any, AV.any, AV.any, AV.any, AV.any, AV.any, AV.any, AV.any, AV.any, AV.any, AV.any, AV.undef] [Ob.cells (sysC s)]))]) (by kernel_rfl) (And.intro h0 (And.intro h1 (And.intro h2 (And.intro h3 (And.intro h4 (And.intro h5 (And.intro h6 (And.intro h7 (And.intro h8 (And.intro h9 (And.intro h10 (And.intro h11 (And.intro h12 (And.intro h13 (And.intro h14 (And.intro h15 (And.intro h16 (And.intro h17 trivial))))))))))))))))))
theorem rvo_r0_tltftff (s : NSys) (J : List ByteArray) (al : List ByteArray) (ra : List AV) (rb : List AV) (x : ByteArray) (w : ByteArray) (m : Nat) (o : Nat → AV) (X : Ext) (call : Caller) (lf : Nat) (i0 : Nat) (i1 : Nat)
  (h0 : decide ((↑i0 : Int) < (↑(List.length al) : Int)) = true)
  (h1 : vexec Tryd.prog X call lf 0 fg27 (Code.loop (loopN Tryd.f27 1)) (rvoS3 s J al o i0) = some (Ex.exit 2, (rvoS2 s J al ra rb x w m o i0 i1)))
  (h2 : keep [Ob.cells (sysC s)] (indexAddrv Tryd.prog 22 [Ob.cells (sysC s)] (lro (List.length al) 1 (List.map st al)) (i6 (↑i0 : Int))) = some (AV.eaddr rb, [Ob.cells (sysC s)]))
  (h3 : keep [Ob.cells (sysC s)] (loadv Tryd.prog 9 [Ob.cells (sysC s)] (AV.eaddr rb)) = some (st w, [Ob.cells (sysC s)]))
  (h4 : (!ByteArray.toList w == ByteArray.toList (ByteArray.mk #[])) = true)
  (h5 : keep [Ob.cells (sysC s)] (lenv Tryd.prog 22 [Ob.cells (sysC s)] (o i0)) = some (i6 (↑m : Int), [Ob.cells (sysC s)]))
  (h6 : ((↑i1 : Int) == (↑m : Int)) = false)
  (h7 : keep [Ob.cells (sysC s)] (indexAddrv Tryd.prog 22 [Ob.cells (sysC s)] (o i0) (i6 (↑i1 : Int))) = some (AV.eaddr ra, [Ob.cells (sysC s)]))
  (h8 : keep [Ob.cells (sysC s)] (loadv Tryd.prog 9 [Ob.cells (sysC s)] (AV.eaddr ra)) = some (st x, [Ob.cells (sysC s)]))
  (h9 : keep [Ob.cells (sysC s)] (indexAddrv Tryd.prog 22 [Ob.cells (sysC s)] (lro (List.length al) 1 (List.map st al)) (i6 (↑i0 : Int))) = some (AV.eaddr rb, [Ob.cells (sysC s)]))
  (h10 : keep [Ob.cells (sysC s)] (loadv Tryd.prog 9 [Ob.cells (sysC s)] (AV.eaddr rb)) = some (st w, [Ob.cells (sysC s)]))
  (h11 : (!ByteArray.toList x == ByteArray.toList w) = false) : vexec Tryd.prog X call lf 0 fg27 (loopN Tryd.f27 0) (rvoS4 s J al o i0) = some (Ex.normal, (rvoS7 s J al ra rb x w m o i0 i1)) :=
  around_sound (ans := [(4, Ans.b true), (8, Ans.l (Ex.exit 2) (rvoS2 s J al ra rb x w m o i0 i1)), (12, Ans.v (AV.eaddr rb)), (13, Ans.v (st w)), (14, Ans.b true), (21, Ans.v (i6 (↑m : Int))), (23, Ans.b false), (31, Ans.v (AV.eaddr ra)), (33, Ans.v (st x)), (39, Ans.v (AV.eaddr rb)), (41, Ans.v (st w)), (43, Ans.b false)]) (by kernel_rfl) (And.intro h0 (And.intro h1 (And.intro h2 (And.intro h3 (And.intro h4 (And.intro h5 (And.intro h6 (And.intro h7 (And.intro h8 (And.intro h9 (And.intro h10 (And.intro h11 trivial))))))))))))
theorem rvo_r0_tltff (s : NSys) (J : List ByteArray) (al : List ByteArray) (ra : List AV) (rb : List AV) (x : ByteArray) (w : ByteArray) (m : Nat) (o : Nat → AV) (X : Ext) (call : Caller) (lf : Nat) (i0 : Nat) (i1 : Nat)
  (h0 : decide ((↑i0 : Int) < (↑(List.length al) : Int)) = true)
  (h1 : vexec Tryd.prog X call lf 0 fg27 (Code.loop (loopN Tryd.f27 1)) (rvoS3 s J al o i0) = some (Ex.exit 2, (rvoS2 s J al ra rb x w m o i0 i1)))
  (h2 : keep [Ob.cells (sysC s)] (indexAddrv Tryd.prog 22 [Ob.cells (sysC s)] (lro (List.length al) 1 (List.map st al)) (i6 (↑i0 : Int))) = some (AV.eaddr rb, [Ob.cells (sysC s)]))
  (h3 : keep [Ob.cells (sysC s)] (loadv Tryd.prog 9 [Ob.cells (sysC s)] (AV.eaddr rb)) = some (st w, [Ob.cells (sysC s)]))
  (h4 : (!ByteArray.toList w == ByteArray.toList (ByteArray.mk #[])) = false) : vexec Tryd.prog X call lf 0 fg27 (loopN Tryd.f27 0) (rvoS4 s J al o i0) = some (Ex.normal, (rvoS8 s J al ra rb x w m o i0 i1)) :=
  around_sound (ans := [(4, Ans.b true), (8, Ans.l (Ex.exit 2) (rvoS2 s J al ra rb x w m o i0 i1)), (12, Ans.v (AV.eaddr rb)), (13, Ans.v (st w)), (14, Ans.b false)]) (by kernel_rfl) (And.intro h0 (And.intro h1 (And.intro h2 (And.intro h3 (And.intro h4 trivial)))))
theorem rvo_r1_f (s : NSys) (J : List ByteArray) (al : List ByteArray) (m : Nat) (o : Nat → AV) (X : Ext) (call : Caller) (lf : Nat) (i0 : Nat) (i1 : Nat)
  (h0 : keep [Ob.cells (sysC s)] (lenv Tryd.prog 22 [Ob.cells (sysC s)] (o i0)) = some (i6 (↑m : Int), [Ob.cells (sysC s)]))
  (h1 : decide ((↑i1 : Int) < (↑m : Int)) = false) : vexec Tryd.prog X call lf 0 fg27 (loopN Tryd.f27 1) (rvoS0 s J al o i0 i1) = some (Ex.exit 2, (rvoS9 s J al m o i0 i1)) :=
  around_sound (ans := [(3, Ans.v (i6 (↑m : Int))), (4, Ans.b false)]) (by kernel_rfl) (And.intro h0 (And.intro h1 trivial))
theorem rvo_r0_tlff (s : NSys) (J : List ByteArray) (al : List ByteArray) (rb : List AV) (w : ByteArray) (m : Nat) (o : Nat → AV) (X : Ext) (call : Caller) (lf : Nat) (i0 : Nat) (i1 : Nat)
  (h0 : decide ((↑i0 : Int) < (↑(List.length al) : Int)) = true)
  (h1 : vexec Tryd.prog X call lf 0 fg27 (Code.loop (loopN Tryd.f27 1)) (rvoS3 s J al o i0) = some (Ex.exit 2, (rvoS9 s J al m o i0 i1)))
  (h2 : keep [Ob.cells (sysC s)] (indexAddrv Tryd.prog 22 [Ob.cells (sysC s)] (lro (List.length al) 1 (List.map st al)) (i6 (↑i0 : Int))) = some (AV.eaddr rb, [Ob.cells (sysC s)]))
  (h3 : keep [Ob.cells (sysC s)] (loadv Tryd.prog 9 [Ob.cells (sysC s)] (AV.eaddr rb)) = some (st w, [Ob.cells (sysC s)]))
  (h4 : (!ByteArray.toList w == ByteArray.toList (ByteArray.mk #[])) = false) : vexec Tryd.prog X call lf 0 fg27 (loopN Tryd.f27 0) (rvoS4 s J al o i0) = some (Ex.normal, (rvoS13 s J al rb w m o i0 i1)) :=
  around_sound (ans := [(4, Ans.b true), (8, Ans.l (Ex.exit 2) (rvoS9 s J al m o i0 i1)), (12, Ans.v (AV.eaddr rb)), (13, Ans.v (st w)), (14, Ans.b false)]) (by kernel_rfl) (And.intro h0 (And.intro h1 (And.intro h2 (And.intro h3 (And.intro h4 trivial)))))
theorem rvo_r0_f (s : NSys) (J : List ByteArray) (al : List ByteArray) (o : Nat → AV) (X : Ext) (call : Caller) (lf : Nat) (i0 : Nat)
  (h0 : decide ((↑i0 : Int) < (↑(List.length al) : Int)) = false) : vexec Tryd.prog X call lf 0 fg27 (loopN Tryd.f27 0) (rvoS4 s J al o i0) = some (Ex.exit 0, (rvoS14 s J al o i0)) :=
  around_sound (ans := [(4, Ans.b false)]) (by kernel_rfl) (And.intro h0 trivial)
theorem rvo_plf (s : NSys) (J : List ByteArray) (al : List ByteArray) (o : Nat → AV) (r : AV) (Sr : List Ob) (X : Ext) (call : Caller) (lf : Nat) (i0 : Nat)
  (h0 : callv X call false 14 [AV.agg (sysC s)] [Ob.cells (sysC s)] 0 = some (bo true, [Ob.cells (sysC s)]))
  (h1 : callv X call true 38 [lro (List.length (NSys.digits s)) 1 (List.map st (NSys.digits s)), lro (List.length (NSys.powers s)) 1 (List.map st (NSys.powers s))] [Ob.cells (sysC s)] 0 = some (lro (List.length J) 1 (List.map st J), [Ob.cells (sysC s)]))
  (h2 : callv X call true 38 [lro (List.length J) 1 (List.map st J), AV.list LK.clip 2 1 [st (NSys.jo s), st (NSys.le s)]] [Ob.cells (sysC s)] 0 = some (lro (List.length al) 1 (List.map st al), [Ob.cells (sysC s)]))
  (h3 : vexec Tryd.prog X call lf 0 fg27 (Code.loop (loopN Tryd.f27 0)) (rvoS15 s J al) = some (Ex.exit 0, (rvoS14 s J al o i0)))
  (h4 : vend1 [] 0 [Ob.cells (sysC s)] [o i0] = some (r, Sr)) : vbody Tryd.prog X call lf fg27 Tryd.f27 (codeOf Tryd.f27) [AV.agg (sysC s)] [] 0 = some (r, Sr) :=
  along_sound (ans := [(8, Ans.v (bo true)), (16, Ans.v (lro (List.length J) 1 (List.map st J))), (22, Ans.v (lro (List.length al) 1 (List.map st al))), (26, Ans.l (Ex.exit 0) (rvoS14 s J al o i0)), (30, Ans.c r Sr)]) (by kernel_rfl) (And.intro h0 (And.intro h1 (And.intro h2 (And.intro h3 (And.intro h4 trivial)))))
theorem rvn_r0_tltftft (s : NSys) (J : List ByteArray) (al : List ByteArray) (a : List ByteArray) (b : List ByteArray) (ra : List AV) (rb : List AV) (x : ByteArray) (w : ByteArray) (m : Nat) (o : Nat → AV) (n1 : Nat) (n2 : Nat) (n3 : Nat) (c1 : List AV) (c2 : List AV) (c3 : List AV) (X : Ext) (call : Caller) (lf : Nat) (i0 : Nat) (i1 : Nat)
  (h0 : decide ((↑i0 : Int) < (↑(List.length al) : Int)) = true)
  (h1 : vexec Tryd.prog X call lf 0 fg27 (Code.loop (loopN Tryd.f27 1)) (rvoS3 s J al o i0) = some (Ex.exit 2, (rvoS2 s J al ra rb x w m o i0 i1)))
  (h2 : keep [Ob.cells (sysC s)] (indexAddrv Tryd.prog 22 [Ob.cells (sysC s)] (lro (List.length al) 1 (List.map st al)) (i6 (↑i0 : Int))) = some (AV.eaddr rb, [Ob.cells (sysC s)]))
  (h3 : keep [Ob.cells (sysC s)] (loadv Tryd.prog 9 [Ob.cells (sysC s)] (AV.eaddr rb)) = some (st w, [Ob.cells (sysC s)]))
  (h4 : (!ByteArray.toList w == ByteArray.toList (ByteArray.mk #[])) = true)
  (h5 : keep [Ob.cells (sysC s)] (lenv Tryd.prog 22 [Ob.cells (sysC s)] (o i0)) = some (i6 (↑m : Int), [Ob.cells (sysC s)]))
  (h6 : ((↑i1 : Int) == (↑m : Int)) = false)
  (h7 : keep [Ob.cells (sysC s)] (indexAddrv Tryd.prog 22 [Ob.cells (sysC s)] (o i0) (i6 (↑i1 : Int))) = some (AV.eaddr ra, [Ob.cells (sysC s)]))
  (h8 : keep [Ob.cells (sysC s)] (loadv Tryd.prog 9 [Ob.cells (sysC s)] (AV.eaddr ra)) = some (st x, [Ob.cells (sysC s)]))
  (h9 : keep [Ob.cells (sysC s)] (indexAddrv Tryd.prog 22 [Ob.cells (sysC s)] (lro (List.length al) 1 (List.map st al)) (i6 (↑i0 : Int))) = some (AV.eaddr rb, [Ob.cells (sysC s)]))
  (h10 : keep [Ob.cells (sysC s)] (loadv Tryd.prog 9 [Ob.cells (sysC s)] (AV.eaddr rb)) = some (st w, [Ob.cells (sysC s)]))
  (h11 : (!ByteArray.toList x == ByteArray.toList w) = true)
  (h12 : slc Tryd.prog 22 [Ob.cells (sysC s)] true 0 (o i0) none (some (i6 (↑i1 : Int))) none = some (lro (List.length a) 1 (List.map st a), [Ob.cells (sysC s)]))
  (h13 : appendv Tryd.prog 22 [Ob.cells (sysC s)] 0 (AV.list LK.clip 0 1 []) (lro (List.length a) 1 (List.map st a)) = some (AV.own 1 n1, [Ob.cells (sysC s), Ob.arr n1 1 c1]))
  (h14 : keep [Ob.cells (sysC s)] (indexAddrv Tryd.prog 22 [Ob.cells (sysC s)] (lro (List.length al) 1 (List.map st al)) (i6 (↑i0 : Int))) = some (AV.eaddr rb, [Ob.cells (sysC s)]))
  (h15 : keep [Ob.cells (sysC s)] (loadv Tryd.prog 9 [Ob.cells (sysC s)] (AV.eaddr rb)) = some (st w, [Ob.cells (sysC s)]))
  (h16 : appendv Tryd.prog 22 [Ob.cells (sysC s), Ob.arr n1 1 c1] 0 (AV.own 1 n1) (AV.list LK.clip 1 1 [st w]) = some (AV.own 1 n2, [Ob.cells (sysC s), Ob.arr n2 1 c2]))
  (h17 : slc Tryd.prog 22 [Ob.cells (sysC s)] true 0 (o i0) (some (i6 (↑i1 : Int))) none none = some (lro (List.length b) 1 (List.map st b), [Ob.cells (sysC s)]))
  (h18 : appendv Tryd.prog 22 [Ob.cells (sysC s), Ob.arr n2 1 c2] 0 (AV.own 1 n2) (lro (List.length b) 1 (List.map st b)) = some (AV.own 1 n3, [Ob.cells (sysC s), Ob.arr n3 1 c3]))
  (h19 : fin 0 [3] (fg27 12) [1] 1 (St.mk [AV.agg (sysC s), AV.ref 0 0, AV.list LK.nil 0 0 [], AV.own 1 n3, lro (List.length al) 1 (List.map st al), i6 (↑i0 : Int), i6 (↑i1 : Int), AV.list LK.clip 0 1 [], AV.agg (sysC s), bo true, bo false, AV.undef, AV.ref 0 1, lro (List.length (NSys.digits s)) 1 (List.map st (NSys.digits s)), AV.ref 0 2, lro (List.length (NSys.powers s)) 1 (List.map st (NSys.powers s)), lro (List.length J) 1 (List.map st J), AV.ref 0 4, st (NSys.jo s), AV.ref 0 6, st (NSys.le s), AV.list LK.clip 2 1 [st (NSys.jo s), st (NSys.le s)], lro (List.length al) 1 (List.map st al), i6 (↑i0 : Int), lro (List.length al) 1 (List.map st al), i6 (↑(List.length al) : Int), bo true, AV.any, AV.any, i6 (↑i1 : Int), o i0, i6 (↑m : Int), bo true, bo true, o i0, i6 (↑i1 : Int), AV.eaddr ra, st x, lro (List.length al) 1 (List.map st al), i6 (↑i0 : Int), AV.eaddr rb, st w, bo false, bo false, AV.any, AV.any, lro (List.length al) 1 (List.map st al), i6 (↑i0 : Int), AV.eaddr rb, st w, bo true, bo true, i6 (↑i1 : Int), o i0, i6 (↑m : Int), bo false, bo false, o i0, i6 (↑i1 : Int), AV.eaddr ra, st x, lro (List.length al) 1 (List.map st al), i6 (↑i0 : Int), AV.eaddr rb, st w, bo true, bo true, bo true, AV.list LK.clip 0 1 [], o i0, i6 (↑i1 : Int), lro (List.length a) 1 (List.map st a), AV.own 1 n1, lro (List.length al) 1 (List.map st al), i6 (↑i0 : Int), AV.eaddr rb, st w, AV.list LK.clip 1 1 [st w], AV.own 1 n2, o i0, i6 (↑i1 : Int), lro (List.length b) 1 (List.map st b), AV.own 1 n3, AV.undef] [Ob.cells (sysC s), Ob.arr n3 1 c3]) = some (St.mk [AV.agg (sysC s), AV.ref 0 0, AV.list LK.nil 0 0 [], lro n3 1 c3, lro (List.length al) 1 (List.map st al), i6 (↑i0 : Int), i6 (↑i1 : Int), AV.list LK.clip 0 1 [], AV.agg (sysC s), bo true, bo false, AV.undef, AV.ref 0 1, lro (List.length (NSys.digits s)) 1 (List.map st (NSys.digits s)), AV.ref 0 2, lro (List.length (NSys.powers s)) 1 (List.map st (NSys.powers s)), lro (List.length J) 1 (List.map st J), AV.ref 0 4, st (NSys.jo s), AV.ref 0 6, st (NSys.le s), AV.list LK.clip 2 1 [st (NSys.jo s), st (NSys.le s)], lro (List.length al) 1 (List.map st al), i6 (↑i0 : Int), lro (List.length al) 1 (List.map st al), i6 (↑(List.length al) : Int), bo true, AV.any, AV.any, i6 (↑i1 : Int), o i0, i6 (↑m : Int), bo true, bo true, o i0, i6 (↑i1 : Int), AV.eaddr ra, st x, lro (List.length al) 1 (List.map st al), i6 (↑i0 : Int), AV.eaddr rb, st w, bo false, bo false, AV.any, AV.any, lro (List.length al) 1 (List.map st al), i6 (↑i0 : Int), AV.eaddr rb, st w, bo true, bo true, i6 (↑i1 : Int), o i0, i6 (↑m : Int), bo false, bo false, o i0, i6 (↑i1 : Int), AV.eaddr ra, st x, lro (List.length al) 1 (List.map st al), i6 (↑i0 : Int), AV.eaddr rb, st w, bo true, bo true, bo true, AV.any, AV.any, AV.any, AV.any, AV.any, AV.any, AV.any, AV.any, AV.any, AV.any, AV.any, AV.any, AV.any, AV.any, AV.any, AV.undef] [Ob.cells (sysC s)])) : vexec Tryd.prog X call lf 0 fg27 (loopN Tryd.f27 0) (rvoS4 s J al o i0) = some (Ex.normal, (rvoS6 s J al ra rb x w m o n3 c3 i0 i1)) :=
  around_sound (ans := [(4, Ans.b true), (8, Ans.l (Ex.exit 2) (rvoS2 s J al ra rb x w m o i0 i1)), (12, Ans.v (AV.eaddr rb)), (13, Ans.v (st w)), (14, Ans.b true), (21, Ans.v (i6 (↑m : Int))), (23, Ans.b false), (31, Ans.v (AV.eaddr ra)), (33, Ans.v (st x)), (39, Ans.v (AV.eaddr rb)), (41, Ans.v (st w)), (43, Ans.b true), (52, Ans.v (lro (List.length a) 1 (List.map st a))), (53, Ans.c (AV.own 1 n1) [Ob.cells (sysC s), Ob.arr n1 1 c1]), (56, Ans.v (AV.eaddr rb)), (57, Ans.v (st w)), (59, Ans.c (AV.own 1 n2) [Ob.cells (sysC s), Ob.arr n2 1 c2]), (62, Ans.v (lro (List.length b) 1 (List.map st b))), (63, Ans.c (AV.own 1 n3) [Ob.cells (sysC s), Ob.arr n3 1 c3]), (65, Ans.l Ex.normal (St.mk [AV.agg (sysC s), AV.ref 0 0, AV.list LK.nil 0 0 [], lro n3 1 c3, lro (List.length al) 1 (List.map st al), i6 (↑i0 : Int), i6 (↑i1 : Int), AV.list LK.clip 0 1 [], AV.agg (sysC s), bo true, bo false, AV.undef, AV.ref 0 1, lro (List.length (NSys.digits s)) 1 (List.map st (NSys.digits s)), AV.ref 0 2, lro (List.length (NSys.powers s)) 1 (List.map st (NSys.powers s)), lro (List.length J) 1 (List.map st J), AV.ref 0 4, st (NSys.jo s), AV.ref 0 6, st (NSys.le s), AV.list LK.clip 2 1 [st (NSys.jo s), st (NSys.le s)], lro (List.length al) 1 (List.map st al), i6 (↑i0 : Int), lro (List.length al) 1 (List.map st al), i6 (↑(List.length al) : Int), bo true, AV.any, AV.any, i6 (↑i1 : Int), o i0, i6 (↑m : Int), bo true, bo true, o i0, i6 (↑i1 : Int), AV.eaddr ra, st x, lro (List.length al) 1 (List.map st al), i6 (↑i0 : Int), AV.eaddr rb, st w, bo false, bo false, AV.any, AV.any, lro (List.length al) 1 (List.map st al), i6 (↑i0 : Int), AV.eaddr rb, st w, bo true, bo true, i6 (↑i1 : Int), o i0, i6 (↑m : Int), bo false, bo false, o i0, i6 (↑i1 : Int), AV.eaddr ra, st x, lro (List.length al) 1 (List.map st al), i6 (↑i0 : Int), AV.eaddr rb, st w, bo true, bo true, bo true, AV.any, AV.any, AV.any, AV.any, AV.any, AV.any, AV.any, AV.any, AV.any, AV.any, AV.any, AV.any, AV.any, AV.any, AV.any, AV.undef] [Ob.cells (sysC s)]))]) (by kernel_rfl) (And.intro h0 (And.intro h1 (And.intro h2 (And.intro h3 (And.intro h4 (And.intro h5 (And.intro h6 (And.intro h7 (And.intro h8 (And.intro h9 (And.intro h10 (And.intro h11 (And.intro h12 (And.intro h13 (And.intro h14 (And.intro h15 (And.intro h16 (And.intro h17 (And.intro h18 (And.intro h19 trivial))))))))))))))))))))
theorem rvn_r0_tlftt (s : NSys) (J : List ByteArray) (al : List ByteArray) (a : List ByteArray) (b : List ByteArray) (rb : List AV) (w : ByteArray) (m : Nat) (o : Nat → AV) (n1 : Nat) (n2 : Nat) (n3 : Nat) (c1 : List AV) (c2 : List AV) (c3 : List AV) (X : Ext) (call : Caller) (lf : Nat) (i0 : Nat) (i1 : Nat)
  (h0 : decide ((↑i0 : Int) < (↑(List.length al) : Int)) = true)
  (h1 : vexec Tryd.prog X call lf 0 fg27 (Code.loop (loopN Tryd.f27 1)) (rvoS3 s J al o i0) = some (Ex.exit 2, (rvoS9 s J al m o i0 i1)))
  (h2 : keep [Ob.cells (sysC s)] (indexAddrv Tryd.prog 22 [Ob.cells (sysC s)] (lro (List.length al) 1 (List.map st al)) (i6 (↑i0 : Int))) = some (AV.eaddr rb, [Ob.cells (sysC s)]))
  (h3 : keep [Ob.cells (sysC s)] (loadv Tryd.prog 9 [Ob.cells (sysC s)] (AV.eaddr rb)) = some (st w, [Ob.cells (sysC s)]))
  (h4 : (!ByteArray.toList w == ByteArray.toList (ByteArray.mk #[])) = true)
  (h5 : keep [Ob.cells (sysC s)] (lenv Tryd.prog 22 [Ob.cells (sysC s)] (o i0)) = some (i6 (↑m : Int), [Ob.cells (sysC s)]))
  (h6 : ((↑i1 : Int) == (↑m : Int)) = true)
  (h7 : slc Tryd.prog 22 [Ob.cells (sysC s)] true 0 (o i0) none (some (i6 (↑i1 : Int))) none = some (lro (List.length a) 1 (List.map st a), [Ob.cells (sysC s)]))
  (h8 : appendv Tryd.prog 22 [Ob.cells (sysC s)] 0 (AV.list LK.clip 0 1 []) (lro (List.length a) 1 (List.map st a)) = some (AV.own 1 n1, [Ob.cells (sysC s), Ob.arr n1 1 c1]))
  (h9 : keep [Ob.cells (sysC s)] (indexAddrv Tryd.prog 22 [Ob.cells (sysC s)] (lro (List.length al) 1 (List.map st al)) (i6 (↑i0 : Int))) = some (AV.eaddr rb, [Ob.cells (sysC s)]))
  (h10 : keep [Ob.cells (sysC s)] (loadv Tryd.prog 9 [Ob.cells (sysC s)] (AV.eaddr rb)) = some (st w, [Ob.cells (sysC s)]))
  (h11 : appendv Tryd.prog 22 [Ob.cells (sysC s), Ob.arr n1 1 c1] 0 (AV.own 1 n1) (AV.list LK.clip 1 1 [st w]) = some (AV.own 1 n2, [Ob.cells (sysC s), Ob.arr n2 1 c2]))
  (h12 : slc Tryd.prog 22 [Ob.cells (sysC s)] true 0 (o i0) (some (i6 (↑i1 : Int))) none none = some (lro (List.length b) 1 (List.map st b), [Ob.cells (sysC s)]))
  (h13 : appendv Tryd.prog 22 [Ob.cells (sysC s), Ob.arr n2 1 c2] 0 (AV.own 1 n2) (lro (List.length b) 1 (List.map st b)) = some (AV.own 1 n3, [Ob.cells (sysC s), Ob.arr n3 1 c3]))
  (h14 : fin 0 [3] (fg27 12) [1] 1 (St.mk [AV.agg (sysC s), AV.ref 0 0, AV.list LK.nil 0 0 [], AV.own 1 n3, lro (List.length al) 1 (List.map st al), i6 (↑i0 : Int), i6 (↑i1 : Int), AV.list LK.clip 0 1 [], AV.agg (sysC s), bo true, bo false, AV.undef, AV.ref 0 1, lro (List.length (NSys.digits s)) 1 (List.map st (NSys.digits s)), AV.ref 0 2, lro (List.length (NSys.powers s)) 1 (List.map st (NSys.powers s)), lro (List.length J) 1 (List.map st J), AV.ref 0 4, st (NSys.jo s), AV.ref 0 6, st (NSys.le s), AV.list LK.clip 2 1 [st (NSys.jo s), st (NSys.le s)], lro (List.length al) 1 (List.map st al), i6 (↑i0 : Int), lro (List.length al) 1 (List.map st al), i6 (↑(List.length al) : Int), bo true, AV.any, AV.any, i6 (↑i1 : Int), o i0, i6 (↑m : Int), bo false, bo false, AV.undef, AV.undef, AV.undef, AV.undef, AV.undef, AV.undef, AV.undef, AV.undef, AV.undef, bo false, AV.any, AV.any, lro (List.length al) 1 (List.map st al), i6 (↑i0 : Int), AV.eaddr rb, st w, bo true, bo true, i6 (↑i1 : Int), o i0, i6 (↑m : Int), bo true, bo true, AV.undef, AV.undef, AV.undef, AV.undef, AV.undef, AV.undef, AV.undef, AV.undef, AV.undef, bo true, bo true, AV.list LK.clip 0 1 [], o i0, i6 (↑i1 : Int), lro (List.length a) 1 (List.map st a), AV.own 1 n1, lro (List.length al) 1 (List.map st al), i6 (↑i0 : Int), AV.eaddr rb, st w, AV.list LK.clip 1 1 [st w], AV.own 1 n2, o i0, i6 (↑i1 : Int), lro (List.length b) 1 (List.map st b), AV.own 1 n3, AV.undef] [Ob.cells (sysC s), Ob.arr n3 1 c3]) = some (St.mk [AV.agg (sysC s), AV.ref 0 0, AV.list LK.nil 0 0 [], lro n3 1 c3, lro (List.length al) 1 (List.map st al), i6 (↑i0 : Int), i6 (↑i1 : Int), AV.list LK.clip 0 1 [], AV.agg (sysC s), bo true, bo false, AV.undef, AV.ref 0 1, lro (List.length (NSys.digits s)) 1 (List.map st (NSys.digits s)), AV.ref 0 2, lro (List.length (NSys.powers s)) 1 (List.map st (NSys.powers s)), lro (List.length J) 1 (List.map st J), AV.ref 0 4, st (NSys.jo s), AV.ref 0 6, st (NSys.le s), AV.list LK.clip 2 1 [st (NSys.jo s), st (NSys.le s)], lro (List.length al) 1 (List.map st al), i6 (↑i0 : Int), lro (List.length al) 1 (List.map st al), i6 (↑(List.length al) : Int), bo true, AV.any, AV.any, i6 (↑i1 : Int), o i0, i6 (↑m : Int), bo false, bo false, AV.undef, AV.undef, AV.undef, AV.undef, AV.undef, AV.undef, AV.undef, AV.undef, AV.undef, bo false, AV.any, AV.any, lro (List.length al) 1 (List.map st al), i6 (↑i0 : Int), AV.eaddr rb, st w, bo true, bo true, i6 (↑i1 : Int), o i0, i6 (↑m : Int), bo true, bo true, AV.undef, AV.undef, AV.undef, AV.undef, AV.undef, AV.undef, AV.undef, AV.undef, AV.undef, bo true, bo true, AV.any, AV.any, AV.any, AV.any, AV.any, AV.any, AV.any, AV.any, AV.any, AV.any, AV.any, AV.any, AV.any, AV.any, AV.any, AV.undef] [Ob.cells (sysC s)])) : vexec Tryd.prog X call lf 0 fg27 (loopN Tryd.f27 0) (rvoS4 s J al o i0) = some (Ex.normal, (rvoS10 s J al rb w m o n3 c3 i0 i1)) :=
  around_sound (ans := [(4, Ans.b true), (8, Ans.l (Ex.exit 2) (rvoS9 s J al m o i0 i1)), (12, Ans.v (AV.eaddr rb)), (13, Ans.v (st w)), (14, Ans.b true), (21, Ans.v (i6 (↑m : Int))), (23, Ans.b true), (43, Ans.v (lro (List.length a) 1 (List.map st a))), (44, Ans.c (AV.own 1 n1) [Ob.cells (sysC s), Ob.arr n1 1 c1]), (47, Ans.v (AV.eaddr rb)), (48, Ans.v (st w)), (50, Ans.c (AV.own 1 n2) [Ob.cells (sysC s), Ob.arr n2 1 c2]), (53, Ans.v (lro (List.length b) 1 (List.map st b))), (54, Ans.c (AV.own 1 n3) [Ob.cells (sysC s), Ob.arr n3 1 c3]), (56, Ans.l Ex.normal (St.mk [AV.agg (sysC s), AV.ref 0 0, AV.list LK.nil 0 0 [], lro n3 1 c3, lro (List.length al) 1 (List.map st al), i6 (↑i0 : Int), i6 (↑i1 : Int), AV.list LK.clip 0 1 [], AV.agg (sysC s), bo true, bo false, AV.undef, AV.ref 0 1, lro (List.length (NSys.digits s)) 1 (List.map st (NSys.digits s)), AV.ref 0 2, lro (List.length (NSys.powers s)) 1 (List.map st (NSys.powers s)), lro (List.length J) 1 (List.map st J), AV.ref 0 4, st (NSys.jo s), AV.ref 0 6, st (NSys.le s), AV.list LK.clip 2 1 [st (NSys.jo s), st (NSys.le s)], lro (List.length al) 1 (List.map st al), i6 (↑i0 : Int), lro (List.length al) 1 (List.map st al), i6 (↑(List.length al) : Int), bo true, AV.any, AV.any, i6 (↑i1 : Int), o i0, i6 (↑m : Int), bo false, bo false, AV.undef, AV.undef, AV.undef, AV.undef, AV.undef, AV.undef, AV.undef, AV.undef, AV.undef, bo false, AV.any, AV.any, lro (List.length al) 1 (List.map st al), i6 (↑i0 : Int), AV.eaddr rb, st w, bo true, bo true, i6 (↑i1 : Int), o i0, i6 (↑m : Int), bo true, bo true, AV.undef, AV.undef, AV.undef, AV.undef, AV.undef, AV.undef, AV.undef, AV.undef, AV.undef, bo true, bo true, AV.any, AV.any, AV.any, AV.any, AV.any, AV.any, AV.any, AV.any, AV.any, AV.any, AV.any, AV.any, AV.any, AV.any, AV.any, AV.undef] [Ob.cells (sysC s)]))]) (by kernel_rfl) (And.intro h0 (And.intro h1 (And.intro h2 (And.intro h3 (And.intro h4 (And.intro h5 (And.intro h6 (And.intro h7 (And.intro h8 (And.intro h9 (And.intro h10 (And.intro h11 (And.intro h12 (And.intro h13 (And.intro h14 trivial)))))))))))))))
theorem rvz_r0_tlftt (s : NSys) (J : List ByteArray) (al : List ByteArray) (rb : List AV) (w : ByteArray) (m : Nat) (o : Nat → AV) (n3 : Nat) (c3 : List AV) (X : Ext) (call : Caller) (lf : Nat) (i0 : Nat) (i1 : Nat)
  (h0 : decide ((↑i0 : Int) < (↑(List.length al) : Int)) = true)
  (h1 : vexec Tryd.prog X call lf 0 fg27 (Code.loop (loopN Tryd.f27 1)) (rvoS3 s J al o i0) = some (Ex.exit 2, (rvoS9 s J al m o i0 i1)))
  (h2 : keep [Ob.cells (sysC s)] (indexAddrv Tryd.prog 22 [Ob.cells (sysC s)] (lro (List.length al) 1 (List.map st al)) (i6 (↑i0 : Int))) = some (AV.eaddr rb, [Ob.cells (sysC s)]))
  (h3 : keep [Ob.cells (sysC s)] (loadv Tryd.prog 9 [Ob.cells (sysC s)] (AV.eaddr rb)) = some (st w, [Ob.cells (sysC s)]))
  (h4 : (!ByteArray.toList w == ByteArray.toList (ByteArray.mk #[])) = true)
  (h5 : keep [Ob.cells (sysC s)] (lenv Tryd.prog 22 [Ob.cells (sysC s)] (o i0)) = some (i6 (↑m : Int), [Ob.cells (sysC s)]))
  (h6 : ((↑i1 : Int) == (↑m : Int)) = true)
  (h7 : slc Tryd.prog 22 [Ob.cells (sysC s)] true 0 (o i0) none (some (i6 (↑i1 : Int))) none = some (AV.list LK.clip 0 1 [], [Ob.cells (sysC s)]))
  (h8 : keep [Ob.cells (sysC s)] (indexAddrv Tryd.prog 22 [Ob.cells (sysC s)] (lro (List.length al) 1 (List.map st al)) (i6 (↑i0 : Int))) = some (AV.eaddr rb, [Ob.cells (sysC s)]))
  (h9 : keep [Ob.cells (sysC s)] (loadv Tryd.prog 9 [Ob.cells (sysC s)] (AV.eaddr rb)) = some (st w, [Ob.cells (sysC s)]))
  (h10 : slc Tryd.prog 22 [Ob.cells (sysC s)] true 0 (o i0) (some (i6 (↑i1 : Int))) none none = some (AV.list LK.clip 0 1 [], [Ob.cells (sysC s)]))
  (h11 : fin 0 [3] (fg27 12) [1] 1 (St.mk [AV.agg (sysC s), AV.ref 0 0, AV.list LK.nil 0 0 [], AV.own 1 1, lro (List.length al) 1 (List.map st al), i6 (↑i0 : Int), i6 (↑i1 : Int), AV.list LK.clip 0 1 [], AV.agg (sysC s), bo true, bo false, AV.undef, AV.ref 0 1, lro (List.length (NSys.digits s)) 1 (List.map st (NSys.digits s)), AV.ref 0 2, lro (List.length (NSys.powers s)) 1 (List.map st (NSys.powers s)), lro (List.length J) 1 (List.map st J), AV.ref 0 4, st (NSys.jo s), AV.ref 0 6, st (NSys.le s), AV.list LK.clip 2 1 [st (NSys.jo s), st (NSys.le s)], lro (List.length al) 1 (List.map st al), i6 (↑i0 : Int), lro (List.length al) 1 (List.map st al), i6 (↑(List.length al) : Int), bo true, AV.any, AV.any, i6 (↑i1 : Int), o i0, i6 (↑m : Int), bo false, bo false, AV.undef, AV.undef, AV.undef, AV.undef, AV.undef, AV.undef, AV.undef, AV.undef, AV.undef, bo false, AV.any, AV.any, lro (List.length al) 1 (List.map st al), i6 (↑i0 : Int), AV.eaddr rb, st w, bo true, bo true, i6 (↑i1 : Int), o i0, i6 (↑m : Int), bo true, bo true, AV.undef, AV.undef, AV.undef, AV.undef, AV.undef, AV.undef, AV.undef, AV.undef, AV.undef, bo true, bo true, AV.list LK.clip 0 1 [], o i0, i6 (↑i1 : Int), AV.list LK.clip 0 1 [], AV.list LK.clip 0 1 [], lro (List.length al) 1 (List.map st al), i6 (↑i0 : Int), AV.eaddr rb, st w, AV.list LK.clip 1 1 [st w], AV.own 1 1, o i0, i6 (↑i1 : Int), AV.list LK.clip 0 1 [], AV.own 1 1, AV.undef] [Ob.cells (sysC s), Ob.arr 1 1 [st w]]) = some (St.mk [AV.agg (sysC s), AV.ref 0 0, AV.list LK.nil 0 0 [], lro n3 1 c3, lro (List.length al) 1 (List.map st al), i6 (↑i0 : Int), i6 (↑i1 : Int), AV.list LK.clip 0 1 [], AV.agg (sysC s), bo true, bo false, AV.undef, AV.ref 0 1, lro (List.length (NSys.digits s)) 1 (List.map st (NSys.digits s)), AV.ref 0 2, lro (List.length (NSys.powers s)) 1 (List.map st (NSys.powers s)), lro (List.length J) 1 (List.map st J), AV.ref 0 4, st (NSys.jo s), AV.ref 0 6, st (NSys.le s), AV.list LK.clip 2 1 [st (NSys.jo s), st (NSys.le s)], lro (List.length al) 1 (List.map st al), i6 (↑i0 : Int), lro (List.length al) 1 (List.map st al), i6 (↑(List.length al) : Int), bo true, AV.any, AV.any, i6 (↑i1 : Int), o i0, i6 (↑m : Int), bo false, bo false, AV.undef, AV.undef, AV.undef, AV.undef, AV.undef, AV.undef, AV.undef, AV.undef, AV.undef, bo false, AV.any, AV.any, lro (List.length al) 1 (List.map st al), i6 (↑i0 : Int), AV.eaddr rb, st w, bo true, bo true, i6 (↑i1 : Int), o i0, i6 (↑m : Int), bo true, bo true, AV.undef, AV.undef, AV.undef, AV.undef, AV.undef, AV.undef, AV.undef, AV.undef, AV.undef, bo true, bo true, AV.any, AV.any, AV.any, AV.any, AV.any, AV.any, AV.any, AV.any, AV.any, AV.any, AV.any, AV.any, AV.any, AV.any, AV.any, AV.undef] [Ob.cells (sysC s)])) : vexec Tryd.prog X call lf 0 fg27 (loopN Tryd.f27 0) (rvoS4 s J al o i0) = some (Ex.normal, (rvoS10 s J al rb w m o n3 c3 i0 i1)) :=
  around_sound (ans := [(4, Ans.b true), (8, Ans.l (Ex.exit 2) (rvoS9 s J al m o i0 i1)), (12, Ans.v (AV.eaddr rb)), (13, Ans.v (st w)), (14, Ans.b true), (21, Ans.v (i6 (↑m : Int))), (23, Ans.b true), (43, Ans.v (AV.list LK.clip 0 1 [])), (47, Ans.v (AV.eaddr rb)), (48, Ans.v (st w)), (53, Ans.v (AV.list LK.clip 0 1 [])), (56, Ans.l Ex.normal (St.mk [AV.agg (sysC s), AV.ref 0 0, AV.list LK.nil 0 0 [], lro n3 1 c3, lro (List.length al) 1 (List.map st al), i6 (↑i0 : Int), i6 (↑i1 : Int), AV.list LK.clip 0 1 [], AV.agg (sysC s), bo true, bo false, AV.undef, AV.ref 0 1, lro (List.length (NSys.digits s)) 1 (List.map st (NSys.digits s)), AV.ref 0 2, lro (List.length (NSys.powers s)) 1 (List.map st (NSys.powers s)), lro (List.length J) 1 (List.map st J), AV.ref 0 4, st (NSys.jo s), AV.ref 0 6, st (NSys.le s), AV.list LK.clip 2 1 [st (NSys.jo s), st (NSys.le s)], lro (List.length al) 1 (List.map st al), i6 (↑i0 : Int), lro (List.length al) 1 (List.map st al), i6 (↑(List.length al) : Int), bo true, AV.any, AV.any, i6 (↑i1 : Int), o i0, i6 (↑m : Int), bo false, bo false, AV.undef, AV.undef, AV.undef, AV.undef, AV.undef, AV.undef, AV.undef, AV.undef, AV.undef, bo false, AV.any, AV.any, lro (List.length al) 1 (List.map st al), i6 (↑i0 : Int), AV.eaddr rb, st w, bo true, bo true, i6 (↑i1 : Int), o i0, i6 (↑m : Int), bo true, bo true, AV.undef, AV.undef, AV.undef, AV.undef, AV.undef, AV.undef, AV.undef, AV.undef, AV.undef, bo true, bo true, AV.any, AV.any, AV.any, AV.any, AV.any, AV.any, AV.any, AV.any, AV.any, AV.any, AV.any, AV.any, AV.any, AV.any, AV.any, AV.undef] [Ob.cells (sysC s)]))]) (by kernel_rfl) (And.intro h0 (And.intro h1 (And.intro h2 (And.intro h3 (And.intro h4 (And.intro h5 (And.intro h6 (And.intro h7 (And.intro h8 (And.intro h9 (And.intro h10 (And.intro h11 trivial))))))))))))


/-! ### the specification's Vocabulary: insertion -/
def below (w x : ByteArray) : Bool := Op.bytesLess x.toList w.toList
def insV (l : List ByteArray) (w : ByteArray) : List ByteArray :=
  if empB w then l else match l.dropWhile (below w) with
    | [] => l ++ [w]
    | x :: r => if x = w then l else l.takeWhile (below w) ++ w :: x :: r
def vocI : List ByteArray → Nat → List ByteArray
  | _, 0 => []
  | al, i + 1 => insV (vocI al i) (al.getD i ByteArray.empty)
theorem appS {c : Ob} {l m : List ByteArray} {p : AV} (hp : IsS p m) (hb : (l.length + m.length) * 17 ≤ 140737488355328) :
    appendv Tryd.prog 22 [c, .arr l.length 1 (l.map .str)] 0 (.own 1 l.length) p = some (.own 1 (l ++ m).length, [c, .arr (l ++ m).length 1 ((l ++ m).map .str)]) := by
  by_cases hm : m = []
  · subst hm
    have := grow_none (P := Tryd.prog) (ro := 0) (id := 1) (n := l.length) (σ := [c, Ob.arr l.length 1 (l.map .str)]) (cs := l.map .str) (ys := []) (x := p) Tryd.underlying22 zero9 (by rw [cells9]; rfl) (by rw [cells9]; rfl) (Nat.zero_le _)
      (by rw [cells9, appended_isS hp]; rfl) rfl (by rw [bytes9]; simpa using hb)
    rw [this]
    simp
  · exact grow_more hp hm hb
abbrev D27 : List Nat := [28, 27, 82, 81, 80, 79, 78, 77, 76, 75, 74, 73, 72, 71, 70, 69, 68, 67, 66, 65, 64, 63, 62, 61, 60, 59, 58, 57, 56, 55, 54, 53, 52, 51, 50, 49, 48, 47, 46, 45, 44, 43, 42, 41, 40, 39, 38, 37, 36, 35, 34, 33, 32, 31, 30, 29, 6, 26, 25, 24, 23]
theorem dead27 : (deadC (loopN Tryd.f27 0) ([], [])).2 = D27 := by kernel_rfl
abbrev D27b : List Nat := [45, 44, 43, 42, 41, 40, 39, 38, 37, 36, 35, 34, 33, 32, 31, 30, 29]
theorem dead27b : (deadC (loopN Tryd.f27 1) ([], [])).2 = D27b := by kernel_rfl
theorem below_split (w : ByteArray) (l : List ByteArray) : l = l.takeWhile (below w) ++ l.dropWhile (below w) := (List.takeWhile_append_dropWhile).symm
theorem insV_len (l : List ByteArray) (w : ByteArray) : (insV l w).length ≤ l.length + 1 := by
  unfold insV
  split
  · omega
  · have h := congrArg List.length (below_split w l)
    rw [List.length_append] at h
    split
    · simp
    · rename_i x r hd
      rw [hd] at h
      split
      · omega
      · simp only [List.length_append, List.length_cons] at h ⊢
        omega
theorem vocI_len (al : List ByteArray) : ∀ i, (vocI al i).length ≤ i
  | 0 => by simp [vocI]
  | i + 1 => by
    have := vocI_len al i
    have := insV_len (vocI al i) (al.getD i ByteArray.empty)
    simp only [vocI]
    omega
theorem insV_ne {l : List ByteArray} {w : ByteArray} (h : l ≠ [] ∨ empB w = false) : insV l w ≠ [] := by
  unfold insV
  split
  · rename_i he
    rcases h with h | h
    · exact h
    · rw [h] at he; cases he
  · split
    · simp
    · rename_i x r hd
      split
      · intro e
        rw [e] at hd
        simp at hd
      · simp
theorem vocI_ne {al : List ByteArray} {i : Nat} (h : i = 0 → empB (al.getD 0 ByteArray.empty) = false) (hi : 0 < i) (h0 : empB (al.getD 0 ByteArray.empty) = false := by assumption) : vocI al i ≠ [] := by
  have : ∀ k, vocI al (k + 1) ≠ [] := by
    intro k
    induction k with
    | zero => exact insV_ne (.inr h0)
    | succ k ih => exact insV_ne (.inl ih)
  obtain ⟨k, rfl⟩ : ∃ k, i = k + 1 := ⟨i - 1, by omega⟩
  exact this k
/-- The row as the loop holds it. -/
def vocO (al : List ByteArray) (i : Nat) : AV := if i = 0 then .list .clip 0 1 [] else lst (vocI al i)
theorem vocO_succ (al : List ByteArray) (i : Nat) : vocO al (i + 1) = lst (vocI al (i + 1)) := if_neg (by omega)
theorem len_lst {S : List Ob} {k : LK} {l : List ByteArray} : keep S (lenv Tryd.prog 22 S (.list k l.length 1 (l.map st))) = some (i6 (l.length : Int), S) := by
  have h : lenv Tryd.prog 22 S (.list k l.length 1 (l.map st)) = some (i6 (l.length : Int)) := by
    unfold lenv
    rw [Tryd.underlying22]
  rw [h]
  rfl
theorem vocO_len {S : List Ob} (al : List ByteArray) (i : Nat) : keep S (lenv Tryd.prog 22 S (vocO al i)) = some (i6 ((vocI al i).length : Int), S) := by
  unfold vocO
  by_cases h : i = 0
  · subst h
    rw [if_pos rfl]
    exact len_lst (k := .clip) (l := [])
  · rw [if_neg h]
    exact len_lst
theorem vocO_at {S : List Ob} {al : List ByteArray} {i j : Nat} {x : ByteArray} (h : (vocI al i)[j]? = some x) :
    keep S (indexAddrv Tryd.prog 22 S (vocO al i) (i6 (j : Int))) = some (.eaddr (((vocI al i).map AV.str).drop j), S) ∧ keep S (loadv Tryd.prog 9 S (.eaddr (((vocI al i).map AV.str).drop j))) = some (st x, S) := by
  have hi : i ≠ 0 := by
    intro e
    subst e
    simp [vocI] at h
  have e : vocO al i = lst (vocI al i) := if_neg hi
  rw [e]
  exact idx_strs h
theorem take_below {w : ByteArray} {l : List ByteArray} {j : Nat} {x : ByteArray} (hj : j < (l.takeWhile (below w)).length) (hx : l[j]? = some x) : below w x = true := by
  have h1 : (l.takeWhile (below w))[j]? = some x := by
    have := below_split w l
    rw [this, List.getElem?_append_left hj] at hx
    exact hx
  have h2 : x ∈ l.takeWhile (below w) := List.mem_of_getElem? h1
  exact (List.all_eq_true.1 (List.all_takeWhile (l := l) (p := below w))) x h2
theorem drop_head {p : ByteArray → Bool} {x : ByteArray} {r : List ByteArray} : ∀ {l : List ByteArray}, l.dropWhile p = x :: r → p x = false
  | [], h => by simp at h
  | y :: l, h => by
    rw [List.dropWhile_cons] at h
    split at h
    · exact drop_head h
    · rename_i hy
      simp only [List.cons.injEq] at h
      rw [← h.1]
      simpa using hy
/-- The inner loop. -/
theorem inner27 {X : Ext} {call : Caller} {lf : Nat} {s : NSys} {J al : List ByteArray} {i : Nat} {w : ByteArray} (hw : al[i]? = some w) (hal : al.length ≤ 100000) (hlf : 100001 < lf) :
    (match (vocI al i).dropWhile (below w) with
      | [] => vexec Tryd.prog X call lf 0 fg27 (Code.loop (loopN Tryd.f27 1)) (rvoS3 s J al (vocO al) i) = some (Ex.exit 2, rvoS9 s J al (vocI al i).length (vocO al) i ((vocI al i).takeWhile (below w)).length)
      | x :: _ => vexec Tryd.prog X call lf 0 fg27 (Code.loop (loopN Tryd.f27 1)) (rvoS3 s J al (vocO al) i) = some (Ex.exit 2, rvoS2 s J al (((vocI al i).map AV.str).drop ((vocI al i).takeWhile (below w)).length) ((al.map AV.str).drop i) x w (vocI al i).length (vocO al) i ((vocI al i).takeWhile (below w)).length)) := by
  have hil : i < al.length := (List.getElem?_eq_some_iff.1 hw).1
  have hlen := vocI_len al i
  obtain ⟨j3, j4⟩ := idx_strs (S := [Ob.cells (sysC s)]) hw
  have hsp := below_split w (vocI al i)
  have hspl := congrArg List.length hsp
  rw [List.length_append] at hspl
  have start : forget D27b (rvoS3 s J al (vocO al) i) = rvoS0 s J al (vocO al) i 0 := by kernel_rfl
  have round : ∀ k, k < ((vocI al i).takeWhile (below w)).length → ∃ S1, vexec Tryd.prog X call lf 0 fg27 (loopN Tryd.f27 1) (rvoS0 s J al (vocO al) i k) = some (.normal, S1) ∧ forget D27b S1 = rvoS0 s J al (vocO al) i (k + 1) := by
    intro k hk
    have hkl : k < (vocI al i).length := by omega
    have hx : (vocI al i)[k]? = some (vocI al i)[k] := List.getElem?_eq_getElem hkl
    have hb := take_below hk hx
    obtain ⟨j1, j2⟩ := vocO_at (S := [Ob.cells (sysC s)]) hx
    have ek : w6 ((k : Int) + 1) = ((k + 1 : Nat) : Int) := by rw [w6_id (by omega) (by omega)]; omega
    refine ⟨_, rvo_r1_tt s J al _ _ _ w (vocI al i).length (vocO al) X call lf i k (vocO_len al i) (decide_eq_true (by omega)) j1 j2 j3 j4 hb, ?_⟩
    unfold rvoS1 rvoS0
    rw [ek]
    show _ = _
    kernel_rfl
  cases hd : (vocI al i).dropWhile (below w) with
  | nil =>
    simp only
    rw [hd] at hspl
    simp only [List.length_nil, Nat.add_zero] at hspl
    exact loop_run (P := Tryd.prog) (X := X) (call := call) (lf := lf) (ro := 0) (fg := fg27) dead27b (rvoS0 s J al (vocO al) i) _ (by omega) start round
      (rvo_r1_f s J al (vocI al i).length (vocO al) X call lf i _ (vocO_len al i) (decide_eq_false (by omega))) (by simp)
  | cons x r =>
    simp only
    have hx : (vocI al i)[((vocI al i).takeWhile (below w)).length]? = some x := by
      have h2 : (vocI al i)[((vocI al i).takeWhile (below w)).length]? = ((vocI al i).takeWhile (below w) ++ (vocI al i).dropWhile (below w))[((vocI al i).takeWhile (below w)).length]? := by rw [← hsp]
      rw [h2, List.getElem?_append_right (Nat.le_refl _), hd]
      simp
    have hnb : below w x = false := drop_head hd
    rw [hd] at hspl
    simp only [List.length_cons] at hspl
    obtain ⟨j1, j2⟩ := vocO_at (S := [Ob.cells (sysC s)]) hx
    exact loop_run (P := Tryd.prog) (X := X) (call := call) (lf := lf) (ro := 0) (fg := fg27) dead27b (rvoS0 s J al (vocO al) i) _ (by omega) start round
      (rvo_r1_tf s J al _ _ x w (vocI al i).length (vocO al) X call lf i _ (vocO_len al i) (decide_eq_true (by omega)) j1 j2 j3 j4 hnb) (by simp)
theorem fin_row {T : List AV} {fs : List Nat} {c : Ob} {n : Nat} {cs : List AV} (ht : nth T 3 = .own 1 n) (hl : AV.ltAll 1 (forgetT fs (setN T 3 (.list .ro n 1 cs))) = true) (hc : ltObs 1 [c] = true) :
    fin 0 [3] fs [1] 1 ⟨T, [c, .arr n 1 cs]⟩ = some ⟨forgetT fs (setN T 3 (.list .ro n 1 cs)), [c]⟩ := by
  unfold fin Vm.settle Vm.settle byValue1
  simp only [ht, AV.owns, AV.thaw, List.getElem?_cons_succ, List.getElem?_cons_zero, freezeIds, freezeId, setOb, forget, trim, hl, List.take_succ_cons, List.take_zero, hc]
  simp
  exact ⟨hl, hc⟩
theorem lt_cells (s : NSys) : ltObs 1 [Ob.cells (sysC s)] = true := by
  simp [ltObs, lt_sysC]
theorem lt_dropS (m i : Nat) (l : List ByteArray) : AV.ltAll m (List.drop i (List.map AV.str l)) = true := by
  rw [← List.map_drop]
  exact lt_strs m _
theorem lt_vocO (m : Nat) (al : List ByteArray) (i : Nat) : AV.lt m (vocO al i) = true := by
  unfold vocO
  split
  · rfl
  · simp only [AV.lt]
    exact lt_strs m _
/-- One round of the outer loop. -/
theorem outer27 {X : Ext} {call : Caller} {lf : Nat} {s : NSys} {J al : List ByteArray} {i : Nat} (hil : i < al.length) (hne0 : empB (al.getD 0 ByteArray.empty) = false) (hal : al.length ≤ 100000) (hlf : 100001 < lf) :
    ∃ S1, vexec Tryd.prog X call lf 0 fg27 (loopN Tryd.f27 0) (rvoS4 s J al (vocO al) i) = some (.normal, S1) ∧ forget D27 S1 = rvoS4 s J al (vocO al) (i + 1) := by
  have hw : al[i]? = some (al.getD i ByteArray.empty) := by
    rw [List.getD_eq_getElem?_getD, List.getElem?_eq_getElem hil]
    rfl
  have hlen := vocI_len al i
  obtain ⟨j3, j4⟩ := idx_strs (S := [Ob.cells (sysC s)]) hw
  have hin := inner27 (X := X) (call := call) (s := s) (J := J) hw hal hlf
  have d0 : decide ((i : Int) < (al.length : Int)) = true := decide_eq_true (by omega)
  have ei : w6 ((i : Int) + 1) = ((i + 1 : Nat) : Int) := by rw [w6_id (by omega) (by omega)]; omega
  have hstep : vocI al (i + 1) = insV (vocI al i) (al.getD i ByteArray.empty) := rfl
  have hO := vocO_succ al i
  rw [hstep] at hO
  generalize al.getD i ByteArray.empty = w at hw j3 j4 hin hO
  have hsp := below_split w (vocI al i)
  have hspl := congrArg List.length hsp
  rw [List.length_append] at hspl
  cases he : empB w with
  | true =>
    have hins : insV (vocI al i) w = vocI al i := by unfold insV; rw [if_pos he]
    have hi0 : i ≠ 0 := by
      intro e
      subst e
      have := hne0
      rw [List.getD_eq_getElem?_getD, hw] at this
      simp only [Option.getD_some] at this
      rw [this] at he
      cases he
    have hOi : vocO al i = lst (vocI al i) := if_neg hi0
    rw [hins, ← hOi] at hO
    have h4 : (!ByteArray.toList w == ByteArray.toList (ByteArray.mk #[])) = false := by
      have : (ByteArray.toList w == ByteArray.toList (ByteArray.mk #[])) = true := he
      rw [this]; rfl
    cases hd : (vocI al i).dropWhile (below w) with
    | nil =>
      rw [hd] at hin
      refine ⟨_, rvo_r0_tlff s J al _ w _ (vocO al) X call lf i _ d0 hin j3 j4 h4, ?_⟩
      unfold rvoS13 rvoS4
      rw [hO, ei]
      show _ = _
      kernel_rfl
    | cons x r =>
      rw [hd] at hin
      refine ⟨_, rvo_r0_tltff s J al _ _ x w _ (vocO al) X call lf i _ d0 hin j3 j4 h4, ?_⟩
      unfold rvoS8 rvoS4
      rw [hO, ei]
      show _ = _
      kernel_rfl
  | false =>
    have h4 : (!ByteArray.toList w == ByteArray.toList (ByteArray.mk #[])) = true := by
      have : (ByteArray.toList w == ByteArray.toList (ByteArray.mk #[])) = false := he
      rw [this]; rfl
    have hlen2 := vocI_len al i
    cases hd : (vocI al i).dropWhile (below w) with
    | nil =>
      have hins : insV (vocI al i) w = vocI al i ++ [w] := by unfold insV; rw [if_neg (by rw [he]; decide), hd]
      rw [hins] at hO
      rw [hd] at hin hspl
      simp only [List.length_nil, Nat.add_zero] at hspl
      have hK : ((((vocI al i).takeWhile (below w)).length : Int) == ((vocI al i).length : Int)) = true := by rw [← hspl]; simp
      by_cases hi0 : i = 0
      · subst hi0
        have hz : vocO al 0 = .list .clip 0 1 [] := rfl
        refine ⟨_, rvz_r0_tlftt s J al _ w _ (vocO al) 1 [st w] X call lf 0 _ d0 hin j3 j4 h4 (vocO_len al 0) hK ?_ j3 j4 ?_ ?_, ?_⟩
        · show _ = _
          kernel_rfl
        · show _ = _
          kernel_rfl
        · refine (fin_row rfl ?_ (lt_cells s)).trans ?_
          · simp only [fg27, forgetT, setN, AV.ltAll, AV.lt, lt_strs, lt_sysC, lt_dropS, lt_vocO, Bool.and_self, Bool.and_true, Bool.true_and]
            kernel_rfl
          · show _ = _
            kernel_rfl
        · rw [show vocI al 0 = [] from rfl] at hO
          unfold rvoS4
          rw [hO, ← ei]
          show _ = _
          kernel_rfl
      · have hOi : vocO al i = lst (vocI al i) := if_neg hi0
        have hne' : vocI al i ≠ [] := vocI_ne (fun _ => hne0) (by omega) hne0
        have h1 := slc_take (σ := [Ob.cells (sysC s)]) (dr := true) (ro := 0) (l := vocI al i) (k := (((vocI al i).takeWhile (below w)).length : Int)) (j := (vocI al i).length) (by rw [← hspl]) (Nat.le_refl _)
        have h2 := slc_drop (σ := [Ob.cells (sysC s)]) (dr := true) (ro := 0) (l := vocI al i) (k := (((vocI al i).takeWhile (below w)).length : Int)) (j := (vocI al i).length) (by rw [← hspl]) (Nat.le_refl _)
        rw [List.take_length] at h1
        rw [List.drop_length] at h2
        have g1 := grow_new (σ := [Ob.cells (sysC s)]) (l := vocI al i) hne' (by omega)
        have g2 := appS (c := Ob.cells (sysC s)) (l := vocI al i) (m := [w]) (is_one w) (by simp only [List.length_cons, List.length_nil]; omega)
        have g3 := appS (c := Ob.cells (sysC s)) (l := vocI al i ++ [w]) (m := []) (is_lst []) (by simp only [List.length_append, List.length_cons, List.length_nil]; omega)
        rw [List.append_nil] at g3
        refine ⟨_, rvn_r0_tlftt s J al (vocI al i) [] _ w _ (vocO al) _ _ _ _ _ _ X call lf i _ d0 hin j3 j4 h4 (vocO_len al i) hK (by rw [hOi]; exact h1) g1 j3 j4 g2 (by rw [hOi]; exact h2) g3 ?_, ?_⟩
        · refine (fin_row rfl ?_ (lt_cells s)).trans ?_
          · simp only [fg27, forgetT, setN, AV.ltAll, AV.lt, lt_strs, lt_sysC, lt_dropS, lt_vocO, Bool.and_self, Bool.and_true, Bool.true_and]
            kernel_rfl
          · show _ = _
            kernel_rfl
        · unfold rvoS4
          rw [hO, ← ei]
          show _ = _
          kernel_rfl
    | cons x r =>
      rw [hd] at hin hspl
      simp only [List.length_cons] at hspl
      have hi0 : i ≠ 0 := by
        intro e
        subst e
        simp [vocI] at hd
      have hOi : vocO al i = lst (vocI al i) := if_neg hi0
      have hKn : ((((vocI al i).takeWhile (below w)).length : Int) == ((vocI al i).length : Int)) = false := by
        rw [beq_eq_false_iff_ne]
        omega
      have hx : (vocI al i)[((vocI al i).takeWhile (below w)).length]? = some x := by
        have h2 : (vocI al i)[((vocI al i).takeWhile (below w)).length]? = ((vocI al i).takeWhile (below w) ++ (vocI al i).dropWhile (below w))[((vocI al i).takeWhile (below w)).length]? := by rw [← hsp]
        rw [h2, List.getElem?_append_right (Nat.le_refl _), hd]
        simp
      obtain ⟨j1, j2⟩ := vocO_at (S := [Ob.cells (sysC s)]) hx
      by_cases hxw : x = w
      · have hins : insV (vocI al i) w = vocI al i := by
          unfold insV
          rw [if_neg (by rw [he]; decide), hd]
          simp only
          rw [if_pos hxw]
        rw [hins, ← hOi] at hO
        have h11 : (!x.toList == w.toList) = false := by rw [hxw]; simp
        refine ⟨_, rvo_r0_tltftff s J al _ _ x w _ (vocO al) X call lf i _ d0 hin j3 j4 h4 (vocO_len al i) hKn j1 j2 j3 j4 h11, ?_⟩
        unfold rvoS4
        rw [hO, ← ei]
        show _ = _
        kernel_rfl
      · have hins : insV (vocI al i) w = (vocI al i).takeWhile (below w) ++ w :: x :: r := by
          unfold insV
          rw [if_neg (by rw [he]; decide), hd]
          simp only
          rw [if_neg hxw]
        rw [hins] at hO
        have h11 : (!x.toList == w.toList) = true := by
          have : (x.toList == w.toList) = false := by
            rw [Bool.eq_false_iff]
            intro h
            exact hxw (toList_inj h)
          rw [this]; rfl
        have hle : ((vocI al i).takeWhile (below w)).length ≤ (vocI al i).length := by omega
        have h1 := slc_take (σ := [Ob.cells (sysC s)]) (dr := true) (ro := 0) (l := vocI al i) (k := (((vocI al i).takeWhile (below w)).length : Int)) rfl hle
        have h2 := slc_drop (σ := [Ob.cells (sysC s)]) (dr := true) (ro := 0) (l := vocI al i) (k := (((vocI al i).takeWhile (below w)).length : Int)) rfl hle
        have e1 : (vocI al i).take ((vocI al i).takeWhile (below w)).length = (vocI al i).takeWhile (below w) := by
          have h3 : (vocI al i).take ((vocI al i).takeWhile (below w)).length = ((vocI al i).takeWhile (below w) ++ (vocI al i).dropWhile (below w)).take ((vocI al i).takeWhile (below w)).length := by rw [← hsp]
          rw [h3, List.take_left]
        have e2 : (vocI al i).drop ((vocI al i).takeWhile (below w)).length = x :: r := by
          have h3 : (vocI al i).drop ((vocI al i).takeWhile (below w)).length = ((vocI al i).takeWhile (below w) ++ (vocI al i).dropWhile (below w)).drop ((vocI al i).takeWhile (below w)).length := by rw [← hsp]
          rw [h3, List.drop_left, hd]
        rw [e1] at h1
        rw [e2] at h2
        rw [← hOi] at h1 h2
        generalize (vocI al i).takeWhile (below w) = A at *
        by_cases hA : A = []
        · subst hA
          have g3 := appS (c := Ob.cells (sysC s)) (l := [w]) (m := x :: r) (is_lst _) (by simp only [List.length_cons, List.length_nil] at hspl ⊢; omega)
          refine ⟨_, rvo_r0_tltftft s J al (x :: r) _ _ x w _ (vocO al) _ _ X call lf i _ d0 hin j3 j4 h4 (vocO_len al i) hKn j1 j2 j3 j4 h11 h1 j3 j4 h2 g3 ?_, ?_⟩
          · refine (fin_row rfl ?_ (lt_cells s)).trans ?_
            · simp only [fg27, forgetT, setN, AV.ltAll, AV.lt, lt_strs, lt_sysC, lt_dropS, lt_vocO, Bool.and_self, Bool.and_true, Bool.true_and]
              kernel_rfl
            · show _ = _
              kernel_rfl
          · unfold rvoS4
            rw [hO, ← ei]
            show _ = _
            kernel_rfl
        · have g1 := grow_new (σ := [Ob.cells (sysC s)]) (l := A) hA (by omega)
          have g2 := appS (c := Ob.cells (sysC s)) (l := A) (m := [w]) (is_one w) (by simp only [List.length_cons, List.length_nil]; omega)
          have g3 := appS (c := Ob.cells (sysC s)) (l := A ++ [w]) (m := x :: r) (is_lst _) (by simp only [List.length_append, List.length_cons, List.length_nil]; omega)
          rw [List.append_assoc] at g3
          refine ⟨_, rvn_r0_tltftft s J al A (x :: r) _ _ x w _ (vocO al) _ _ _ _ _ _ X call lf i _ d0 hin j3 j4 h4 (vocO_len al i) hKn j1 j2 j3 j4 h11 h1 g1 j3 j4 g2 h2 g3 ?_, ?_⟩
          · refine (fin_row rfl ?_ (lt_cells s)).trans ?_
            · simp only [fg27, forgetT, setN, AV.ltAll, AV.lt, lt_strs, lt_sysC, lt_dropS, lt_vocO, Bool.and_self, Bool.and_true, Bool.true_and]
              kernel_rfl
            · show _ = _
              kernel_rfl
          · unfold rvoS4
            rw [hO, ← ei]
            show _ = _
            kernel_rfl
/-- The words in the order in which the specification takes them. -/
def vocA (s : NSys) : List ByteArray := s.digits ++ s.powers ++ [s.jo, s.le]
theorem rvoc_spec {X : Ext} {call : Caller} {lf : Nat} {s : NSys} (hv : validL s = true) (hlf : 100001 < lf)
    (h14 : ∀ σ, callv X call false 14 [AV.agg (sysC s)] σ 0 = some (bo true, σ))
    (h38 : ∀ (a b : AV) (l m : List ByteArray) σ, IsS a l → IsS b m → AV.ltAll 0 [a, b] = true → l.length + m.length ≤ 1000 → callv X call true 38 [a, b] σ 0 = some (lst (l ++ m), σ)) :
    ∃ σ', vbody Tryd.prog X call lf fg27 Tryd.f27 (codeOf Tryd.f27) [AV.agg (sysC s)] [] 0 = some (lst (vocI (vocA s) (vocA s).length), σ') := by
  have hg := good_of hv
  have hbase := hg.base
  have hdig := hg.dig
  have hpow := hg.pow
  have hl : (vocA s).length ≤ 100000 ∧ 0 < (vocA s).length := by
    unfold vocA
    simp only [List.length_append, List.length_cons, List.length_nil]
    omega
  have hne0 : empB ((vocA s).getD 0 ByteArray.empty) = false := by
    have h0 : 0 < s.digits.length := by omega
    have hm : (vocA s).getD 0 ByteArray.empty = s.digits.getD 0 ByteArray.empty := by
      unfold vocA
      rw [List.getD_eq_getElem?_getD, List.getD_eq_getElem?_getD, List.append_assoc, List.getElem?_append_left h0]
    rw [hm]
    have ht := voc_tok hv (s.digits.getD 0 ByteArray.empty) (by
      simp only [vocL, List.append_assoc, List.mem_append]
      exact .inl (getD_mem h0))
    simp only [tokB, Bool.and_eq_true, Bool.not_eq_true'] at ht
    exact ht.1.2
  have hJ := h38 (lst s.digits) (lst s.powers) s.digits s.powers [Ob.cells (sysC s)] (is_lst _) (is_lst _) (lt_two (lt_lst _) (lt_lst _)) (by omega)
  have hA := h38 (lst (s.digits ++ s.powers)) (.list .clip 2 1 [st s.jo, st s.le]) (s.digits ++ s.powers) [s.jo, s.le] [Ob.cells (sysC s)] (is_lst _) (.inl ⟨_, rfl⟩) (lt_two (lt_lst _) rfl) (by simp only [List.length_append, List.length_cons, List.length_nil]; omega)
  have hA' : callv X call true 38 [lst (s.digits ++ s.powers), .list .clip 2 1 [st s.jo, st s.le]] [Ob.cells (sysC s)] 0 = some (lst (vocA s), [Ob.cells (sysC s)]) := hA
  generalize hal : vocA s = al at hl hne0 hA'
  have hO : vocO al al.length = lst (vocI al al.length) := if_neg (by omega)
  refine ⟨_, rvo_plf s (s.digits ++ s.powers) al (vocO al) _ _ X call lf al.length (h14 _) hJ hA' ?_ (by rw [hO]; exact end_lst2)⟩
  exact loop_run (P := Tryd.prog) (X := X) (call := call) (lf := lf) (ro := 0) (fg := fg27) dead27 (rvoS4 s (s.digits ++ s.powers) al (vocO al)) al.length (by omega) (by kernel_rfl)
    (fun i hi => outer27 hi hne0 hl.1 hlf) (rvo_r0_f s (s.digits ++ s.powers) al (vocO al) X call lf al.length (decide_eq_false (by omega))) (by simp)
end Go.Proofs.Num
end
/- Numeral: insertion, in plain words. -/
section
open Go Go.Vm Go.Proofs
namespace Go.Proofs.Num

/-! ### insertion, in plain words -/
def ltW (x y : ByteArray) : Prop := x.data.toList < y.data.toList
theorem below_iff {w x : ByteArray} : below w x = true ↔ ltW x w := by
  unfold below ltW
  rw [bytesLess_eq, Lib.toList_data, Lib.toList_data]
  simp
theorem ltW_trans {x y z : ByteArray} (h : ltW x y) (k : ltW y z) : ltW x z := List.lt_trans h k
theorem ltW_irrefl (x : ByteArray) : ¬ ltW x x := List.lt_irrefl _
theorem ltW_or {x w : ByteArray} (h : ¬ ltW x w) (hne : x ≠ w) : ltW w x := by
  unfold ltW at h ⊢
  rcases Std.lt_trichotomy x.data.toList w.data.toList with h1 | h1 | h1
  · exact absurd h1 h
  · exact absurd (Go.WideShapes.bytes_inj h1) hne
  · exact h1
theorem insV_spec {l : List ByteArray} (hs : l.Pairwise ltW) (w : ByteArray) : (insV l w).Pairwise ltW ∧ ∀ x, x ∈ insV l w ↔ x ∈ l ∨ (x = w ∧ empB w = false) := by
  unfold insV
  cases he : empB w with
  | true =>
    rw [if_pos rfl]
    exact ⟨hs, fun x => ⟨.inl, fun h => by rcases h with h | h; exact h; cases h.2⟩⟩
  | false =>
    rw [if_neg (by decide)]
    have hsp := below_split w l
    have hT : ∀ x ∈ l.takeWhile (below w), ltW x w := fun x hx => below_iff.1 ((List.all_eq_true.1 (List.all_takeWhile (l := l) (p := below w))) x hx)
    have hp := hs
    rw [hsp, List.pairwise_append] at hp
    obtain ⟨p1, p2, p3⟩ := hp
    cases hd : l.dropWhile (below w) with
    | nil =>
      rw [hd, List.append_nil] at hsp
      simp only
      rw [← hsp] at hT
      refine ⟨List.pairwise_append.2 ⟨hs, by simp, fun a ha b hb => ?_⟩, fun x => ?_⟩
      · simp only [List.mem_singleton] at hb
        subst hb
        exact hT a ha
      · simp [List.mem_append]
    | cons y r =>
      simp only
      rw [hd] at hsp p2 p3
      by_cases hy : y = w
      · rw [if_pos hy]
        refine ⟨hs, fun x => ⟨.inl, fun h => ?_⟩⟩
        rcases h with h | ⟨rfl, _⟩
        · exact h
        · rw [hsp, ← hy]; simp
      · rw [if_neg hy]
        have hwy : ltW w y := ltW_or (fun h => by have := drop_head hd; rw [below_iff.2 h] at this; cases this) hy
        rw [List.pairwise_cons] at p2
        refine ⟨List.pairwise_append.2 ⟨p1, ?_, ?_⟩, fun x => ?_⟩
        · rw [List.pairwise_cons, List.pairwise_cons]
          refine ⟨fun a ha => ?_, p2.1, p2.2⟩
          rcases List.mem_cons.1 ha with rfl | ha
          · exact hwy
          · exact ltW_trans hwy (p2.1 a ha)
        · intro a ha b hb
          rcases List.mem_cons.1 hb with rfl | hb
          · exact hT a ha
          · exact p3 a ha b hb
        · have hmem : x ∈ l ↔ x ∈ l.takeWhile (below w) ++ y :: r := by rw [← hsp]
          rw [hmem]
          simp only [List.mem_append, List.mem_cons]
          constructor
          · rintro (h | h | h | h)
            · exact .inl (.inl h)
            · exact .inr ⟨h, trivial⟩
            · exact .inl (.inr (.inl h))
            · exact .inl (.inr (.inr h))
          · rintro ((h | h | h) | ⟨h, _⟩)
            · exact .inl h
            · exact .inr (.inr (.inl h))
            · exact .inr (.inr (.inr h))
            · exact .inr (.inl h)
theorem vocI_spec (al : List ByteArray) : ∀ i, i ≤ al.length → (vocI al i).Pairwise ltW ∧ ∀ x, x ∈ vocI al i ↔ x ∈ al.take i ∧ empB x = false
  | 0, _ => by simp [vocI]
  | i + 1, hi => by
    obtain ⟨h1, h2⟩ := vocI_spec al i (by omega)
    obtain ⟨k1, k2⟩ := insV_spec h1 (al.getD i ByteArray.empty)
    refine ⟨k1, fun x => ?_⟩
    have hw : al[i]? = some (al.getD i ByteArray.empty) := by
      rw [List.getD_eq_getElem?_getD, List.getElem?_eq_getElem (show i < al.length by omega)]
      rfl
    show x ∈ insV (vocI al i) (al.getD i ByteArray.empty) ↔ _
    rw [k2, h2, List.take_add_one, hw]
    simp only [Option.toList, List.mem_append, List.mem_singleton]
    constructor
    · rintro (⟨a, b⟩ | ⟨rfl, b⟩)
      · exact ⟨.inl a, b⟩
      · exact ⟨.inr rfl, b⟩
    · rintro ⟨a | rfl, b⟩
      · exact .inl ⟨a, b⟩
      · exact .inr ⟨rfl, b⟩
end Go.Proofs.Num
end
/- Numeral: Vocabulary, walked. -/
section
open Go Go.Vm Go.Proofs
namespace Go.Proofs.Num
def fg26 : Nat → List Nat
  | 2003 => [36]
  | _ => []

theorem voc_pt (s : NSys) (j : AV) (o1 : AV) (o2 : AV) (r2 : AV) (r : AV) (S1 : List Ob) (S2 : List Ob) (S3 : List Ob) (S4 : List Ob) (Sr : List Ob) (X : Ext) (call : Caller) (lf : Nat)
  (h0 : callv X call false 22 [AV.agg (sysC s)] [Ob.cells (sysC s)] 0 = some (bo true, [Ob.cells (sysC s)]))
  (h1 : callv X (call0 call) true 37 [AV.agg (sysC s)] [Ob.cells (sysC s)] 0 = some (j, [Ob.cells (sysC s)]))
  (h2 : bsl Tryd.prog 66 3 [Ob.cells (sysC s)] true 0 [(0, lro (List.length (NSys.digits s)) 1 (List.map st (NSys.digits s))), (1, lro (List.length (NSys.powers s)) 1 (List.map st (NSys.powers s))), (2, j)] = some (AV.list LK.clip 3 1 [lro (List.length (NSys.digits s)) 1 (List.map st (NSys.digits s)), lro (List.length (NSys.powers s)) 1 (List.map st (NSys.powers s)), j], [Ob.cells (sysC s)]))
  (h3 : callE X call 36 [AV.list LK.clip 3 1 [lro (List.length (NSys.digits s)) 1 (List.map st (NSys.digits s)), lro (List.length (NSys.powers s)) 1 (List.map st (NSys.powers s)), j]] [Ob.cells (sysC s)] = some (o1, Ob.cells (sysC s) :: S1))
  (h4 : (!empB (NSys.le s)) = true)
  (h5 : appendv Tryd.prog 22 (Ob.cells (sysC s) :: S1) 0 o1 (AV.list LK.clip 1 1 [st (NSys.le s)]) = some (o2, Ob.cells (sysC s) :: S2))
  (h6 : callv X call false 44 [o2] (Ob.cells (sysC s) :: S2) 0 = some (AV.tup [], Ob.cells (sysC s) :: S3))
  (h7 : callv X call false 45 [o2] (Ob.cells (sysC s) :: S3) 0 = some (r2, Ob.cells (sysC s) :: S4))
  (h8 : vend1 [] 0 (Ob.cells (sysC s) :: S4) [r2] = some (r, Sr)) : vbody Tryd.prog X call lf fg26 Tryd.f26 (codeOf Tryd.f26) [AV.agg (sysC s)] [] 0 = some (r, Sr) :=
  along_sound (ans := [(5, Ans.v (bo true)), (14, Ans.v j), (15, Ans.v (AV.list LK.clip 3 1 [lro (List.length (NSys.digits s)) 1 (List.map st (NSys.digits s)), lro (List.length (NSys.powers s)) 1 (List.map st (NSys.powers s)), j])), (16, Ans.c o1 (Ob.cells (sysC s) :: S1)), (21, Ans.b true), (28, Ans.c o2 (Ob.cells (sysC s) :: S2)), (32, Ans.c (AV.tup []) (Ob.cells (sysC s) :: S3)), (35, Ans.c r2 (Ob.cells (sysC s) :: S4)), (37, Ans.c r Sr)]) (by kernel_rfl) (And.intro h0 (And.intro h1 (And.intro h2 (And.intro h3 (And.intro h4 (And.intro h5 (And.intro h6 (And.intro h7 (And.intro h8 trivial)))))))))
theorem voc_pf (s : NSys) (j : AV) (o1 : AV) (r2 : AV) (r : AV) (S1 : List Ob) (S3 : List Ob) (S4 : List Ob) (Sr : List Ob) (X : Ext) (call : Caller) (lf : Nat)
  (h0 : callv X call false 22 [AV.agg (sysC s)] [Ob.cells (sysC s)] 0 = some (bo true, [Ob.cells (sysC s)]))
  (h1 : callv X (call0 call) true 37 [AV.agg (sysC s)] [Ob.cells (sysC s)] 0 = some (j, [Ob.cells (sysC s)]))
  (h2 : bsl Tryd.prog 66 3 [Ob.cells (sysC s)] true 0 [(0, lro (List.length (NSys.digits s)) 1 (List.map st (NSys.digits s))), (1, lro (List.length (NSys.powers s)) 1 (List.map st (NSys.powers s))), (2, j)] = some (AV.list LK.clip 3 1 [lro (List.length (NSys.digits s)) 1 (List.map st (NSys.digits s)), lro (List.length (NSys.powers s)) 1 (List.map st (NSys.powers s)), j], [Ob.cells (sysC s)]))
  (h3 : callE X call 36 [AV.list LK.clip 3 1 [lro (List.length (NSys.digits s)) 1 (List.map st (NSys.digits s)), lro (List.length (NSys.powers s)) 1 (List.map st (NSys.powers s)), j]] [Ob.cells (sysC s)] = some (o1, Ob.cells (sysC s) :: S1))
  (h4 : (!empB (NSys.le s)) = false)
  (h5 : callv X call false 44 [o1] (Ob.cells (sysC s) :: S1) 0 = some (AV.tup [], Ob.cells (sysC s) :: S3))
  (h6 : callv X call false 45 [o1] (Ob.cells (sysC s) :: S3) 0 = some (r2, Ob.cells (sysC s) :: S4))
  (h7 : vend1 [] 0 (Ob.cells (sysC s) :: S4) [r2] = some (r, Sr)) : vbody Tryd.prog X call lf fg26 Tryd.f26 (codeOf Tryd.f26) [AV.agg (sysC s)] [] 0 = some (r, Sr) :=
  along_sound (ans := [(5, Ans.v (bo true)), (14, Ans.v j), (15, Ans.v (AV.list LK.clip 3 1 [lro (List.length (NSys.digits s)) 1 (List.map st (NSys.digits s)), lro (List.length (NSys.powers s)) 1 (List.map st (NSys.powers s)), j])), (16, Ans.c o1 (Ob.cells (sysC s) :: S1)), (21, Ans.b false), (25, Ans.c (AV.tup []) (Ob.cells (sysC s) :: S3)), (28, Ans.c r2 (Ob.cells (sysC s) :: S4)), (30, Ans.c r Sr)]) (by kernel_rfl) (And.intro h0 (And.intro h1 (And.intro h2 (And.intro h3 (And.intro h4 (And.intro h5 (And.intro h6 (And.intro h7 trivial))))))))


/-! ### Vocabulary -/
def mkB (l : List UInt8) : ByteArray := ⟨l.toArray⟩
theorem avB_mk (l : List UInt8) : avB l = st (mkB l) := rfl
theorem mkB_data (x : ByteArray) : mkB x.data.toList = x := by simp [mkB]
theorem map_avB (l : List ByteArray) : l.map st = (l.map (·.data.toList)).map avB := by
  rw [List.map_map]
  apply List.map_congr_left
  intro x _
  simp [avB]
theorem bytsO_map (l : List (List UInt8)) : bytsO (l.map avB) = some l := by
  have h : strsO (l.map avB) = some (l.map mkB) := by
    have : l.map avB = (l.map mkB).map st := by rw [List.map_map]; rfl
    rw [this]
    exact strsO_map _
  unfold bytsO
  rw [h]
  simp only [List.map_map, Option.some.injEq]
  have : ((fun x : ByteArray => x.data.toList) ∘ mkB) = id := by funext x; simp [mkB]
  rw [this, List.map_id]
theorem sortB_row (c : Ob) {l : List (List UInt8)} (h0 : 0 < l.length) (hb : l.length ≤ big) {call : Caller} {L : List Nat} : callv (X16 L) call false 44 [.own 1 l.length] [c, .arr l.length 1 (l.map avB)] 0 = some (.tup [], [c, .arr l.length 1 ((l.mergeSort leB).map avB)]) := by
  have h1 : (X16 L).pureFn 44 = none := rfl
  have h2 : (X16 L).stFn 44 = some (sortFn bytsO avB leB) := rfl
  unfold callv
  rw [h1, h2]
  simp only [Bool.false_eq_true, if_false, sortFn, isNil, ownRow, List.getElem?_cons_succ, List.getElem?_cons_zero, bytsO_map]
  rw [if_pos ⟨trivial, trivial, by omega, trivial, hb⟩]
  rfl
theorem compB_row (c : Ob) {l : List (List UInt8)} (hb : l.length ≤ big) {call : Caller} {L : List Nat} : callv (X16 L) call false 45 [.own 1 l.length] [c, .arr l.length 1 (l.map avB)] 0 = some (.own 2 (Lib.compact l).length, [c, .gone, .arr (Lib.compact l).length 1 ((Lib.compact l).map avB)]) := by
  have h1 : (X16 L).pureFn 45 = none := rfl
  have h2 : (X16 L).stFn 45 = some (compFn bytsO avB) := rfl
  unfold callv
  rw [h1, h2]
  simp only [Bool.false_eq_true, if_false, compFn, isNil, ownRow, List.getElem?_cons_succ, List.getElem?_cons_zero, bytsO_map]
  rw [if_pos ⟨trivial, trivial, by omega, trivial, hb⟩]
  rfl
theorem end_row2 {c : Ob} {n : Nat} {cs : List AV} : vend1 [] 0 [c, .gone, .arr n 1 cs] [.own 2 n] = some (.list .fresh n 1 cs, [c, .gone, .fro n 1 cs]) := by
  unfold vend1
  simp [AV.thawAll, AV.thaw, AV.ownsAll, AV.owns, freezeIds, freezeId, setOb, resOf, oneOf, freezeOb]
/-- What Vocabulary answers. -/
def vocP (s : NSys) : List ByteArray := (Lib.compact (((vocL s).map (·.data.toList)).mergeSort leB)).map mkB
theorem bsl3d {σ : List Ob} {ro : Nat} {k1 k2 k3 : LK} {n1 n2 n3 z1 z2 z3 : Nat} {c1 c2 c3 : List AV} (h : AV.ownsAll [AV.list k1 n1 z1 c1, AV.list k2 n2 z2 c2, AV.list k3 n3 z3 c3] = []) :
    bsl Tryd.prog 66 3 σ true ro [(0, .list k1 n1 z1 c1), (1, .list k2 n2 z2 c2), (2, .list k3 n3 z3 c3)] = some (.list .clip 3 1 [.list k1 n1 z1 c1, .list k2 n2 z2 c2, .list k3 n3 z3 c3], σ) := bsl3 h
/-- The collected words. -/
def vocC (s : NSys) : List ByteArray := joinL [s.digits, s.powers, joinWords s]
theorem vocL_eq (s : NSys) : vocL s = vocC s ++ (if empB s.le then [] else [s.le]) := by
  unfold vocL vocC
  simp [joinL, List.append_assoc]
theorem voc_fin {X : Ext} {call : Caller} {lf : Nat} {s : NSys} (L : List Nat) (hX : X = X16 L) {n : Nat} (h0 : 0 < (vocL s).length) (hb : (vocL s).length ≤ 1000) (hn : n = (vocL s).length) :
    ∃ r σ', callv X call false 44 [.own 1 n] [Ob.cells (sysC s), .arr n 1 ((vocL s).map st)] 0 = some (.tup [], [Ob.cells (sysC s), .arr n 1 ((((vocL s).map (·.data.toList)).mergeSort leB).map avB)]) ∧
      callv X call false 45 [.own 1 n] [Ob.cells (sysC s), .arr n 1 ((((vocL s).map (·.data.toList)).mergeSort leB).map avB)] 0 = some (.own 2 (vocP s).length, [Ob.cells (sysC s), .gone, .arr (vocP s).length 1 ((vocP s).map st)]) ∧
      vend1 [] 0 [Ob.cells (sysC s), .gone, .arr (vocP s).length 1 ((vocP s).map st)] [.own 2 (vocP s).length] = some (r, σ') ∧ r = .list .fresh (vocP s).length 1 ((vocP s).map st) := by
  subst hX
  subst hn
  have hl : ((vocL s).map (·.data.toList)).length = (vocL s).length := by simp
  have hm : (((vocL s).map (·.data.toList)).mergeSort leB).length = (vocL s).length := by rw [List.length_mergeSort, hl]
  have g1 := sortB_row (Ob.cells (sysC s)) (l := (vocL s).map (·.data.toList)) (call := call) (L := L) (by omega) (by rw [hl]; show _ ≤ 140737488355328; omega)
  have g2 := compB_row (Ob.cells (sysC s)) (l := ((vocL s).map (·.data.toList)).mergeSort leB) (call := call) (L := L) (by rw [hm]; show _ ≤ 140737488355328; omega)
  rw [hl, ← map_avB] at g1
  rw [hm] at g2
  have hp : (Lib.compact (((vocL s).map (·.data.toList)).mergeSort leB)).map avB = (vocP s).map st := by
    unfold vocP
    rw [List.map_map]
    rfl
  have hpl : (Lib.compact (((vocL s).map (·.data.toList)).mergeSort leB)).length = (vocP s).length := by unfold vocP; simp
  rw [hp, hpl] at g2
  exact ⟨_, _, g1, g2, end_row2, rfl⟩
theorem vocC_row {X : Ext} {T : Vm.Spec} {s : NSys} (hT : ∀ vs, T 36 vs = collS' vs) (hA : X.adopt 36 = true) (hd : s.digits ≠ []) (hb : s.digits.length + s.powers.length ≤ 1000) :
    callE X (callerOf T) 36 [AV.list .clip 3 1 [lst s.digits, lst s.powers, joinV s]] [Ob.cells (sysC s)] = some (.own 1 (vocC s).length, [Ob.cells (sysC s), .arr (vocC s).length 1 ((vocC s).map st)]) := by
  have hlt : AV.ltAll 0 [AV.list .clip 3 1 [lst s.digits, lst s.powers, joinV s]] = true := by
    simp only [AV.ltAll, AV.lt, lt_strs, lt_joinV, Bool.and_self]
  have hls : isSOs [lst s.digits, lst s.powers, joinV s] = some [s.digits, s.powers, joinWords s] :=
    isSOs_of rfl (three (is_lst _) (is_lst _) (joinV_is s))
  have hj := joinWords_len s
  have hh : headNe [s.digits, s.powers, joinWords s] = true := by
    cases hdd : s.digits with
    | nil => exact absurd hdd hd
    | cons x l => rfl
  have ht : T 36 [AV.list .clip 3 1 [lst s.digits, lst s.powers, joinV s]] = some (.list .fresh (vocC s).length 1 ((vocC s).map st)) := by
    rw [hT]
    simp only [collS', hls]
    rw [if_pos ⟨rfl, by simp only [lensum]; omega, by simp, hh⟩]
    rfl
  unfold callE
  rw [if_pos hlt]
  simp only [callerOf, ht]
  simp only [AV.pure, AV.lt, lt_strs, if_true, hA]
  rfl
/-- Vocabulary: the words, in order, each once. -/
theorem voc_spec {T : Vm.Spec} {s : NSys} (hk : okS s = true) (hv : validL s = true) (hT36 : ∀ vs, T 36 vs = collS' vs) (hT37 : ∀ vs, T 37 vs = joiS (roAll vs)) (hT22 : ∀ vs, T 22 vs = validS (roAll vs)) :
    ∃ σ', vbody Tryd.prog (X16 [36]) (callerOf T) 1 fg26 Tryd.f26 (codeOf Tryd.f26) [AV.agg (sysC s)] [] 0 = some (.list .fresh (vocP s).length 1 ((vocP s).map st), σ') := by
  have hg := good_of hv
  have hbase := hg.base
  have hdig := hg.dig
  have hpow := hg.pow
  have hj := joinWords_len s
  have hd : s.digits ≠ [] := by intro e; rw [e] at hdig; simp at hdig; omega
  have hcl : (vocC s).length = s.digits.length + s.powers.length + (joinWords s).length := by
    unfold vocC
    simp [joinL]
    omega
  have h22 : callv (X16 [36]) (callerOf T) false 22 [AV.agg (sysC s)] [Ob.cells (sysC s)] 0 = some (bo true, [Ob.cells (sysC s)]) := by
    refine call16 (r := bo true) rfl rfl rfl (lt_sys s) ?_ rfl rfl
    rw [hT22, roAll_sys]; simp only [validS, sysO_sysC, hk, hv, if_true]
  have hjp : (joinV s).pure = true := lt_joinV s
  have hju : unfr (joinV s) = joinV s := by unfold joinV; split <;> rfl
  have h37 : callv (X16 [36]) (call0 (callerOf T)) true 37 [AV.agg (sysC s)] [Ob.cells (sysC s)] 0 = some (joinV s, [Ob.cells (sysC s)]) := by
    refine callv_call0 (lt_sys s) (call16 (r := joinV s) rfl rfl rfl (lt_sys s) ?_ hjp hju)
    rw [hT37, roAll_sys]; simp only [joiS, sysO_sysC]
  have hbsl : bsl Tryd.prog 66 3 [Ob.cells (sysC s)] true 0 [(0, lst s.digits), (1, lst s.powers), (2, joinV s)] = some (.list .clip 3 1 [lst s.digits, lst s.powers, joinV s], [Ob.cells (sysC s)]) := by
    obtain ⟨k, n, z, c, e, ho⟩ := joinV_list s
    rw [e]
    exact bsl3 (by simp [AV.ownsAll, AV.owns, owns_strs, ho])
  have h36 := vocC_row (X := X16 [36]) (T := T) (s := s) hT36 rfl hd (by omega)
  cases he : empB s.le with
  | false =>
    have hL : vocL s = vocC s ++ [s.le] := by rw [vocL_eq, he]; rfl
    have happ := appS (c := Ob.cells (sysC s)) (l := vocC s) (m := [s.le]) (is_one s.le) (by simp only [List.length_cons, List.length_nil]; omega)
    rw [← hL] at happ
    obtain ⟨r, σ', g1, g2, g3, rfl⟩ := voc_fin (X := X16 [36]) (call := callerOf T) (lf := 1) (s := s) [36] rfl (n := (vocL s).length) (by rw [hL]; simp) (by rw [hL]; simp only [List.length_append, List.length_cons, List.length_nil]; omega) rfl
    exact ⟨_, voc_pt s (joinV s) _ _ _ _ [_] [_] [_] [_, _] _ (X16 [36]) (callerOf T) 1 h22 h37 hbsl h36 (by rw [he]; rfl) happ g1 g2 g3⟩
  | true =>
    have hL : vocL s = vocC s := by rw [vocL_eq, he]; simp
    rw [← hL] at h36
    obtain ⟨r, σ', g1, g2, g3, rfl⟩ := voc_fin (X := X16 [36]) (call := callerOf T) (lf := 1) (s := s) [36] rfl (n := (vocL s).length) (by rw [hL]; omega) (by rw [hL]; omega) rfl
    exact ⟨_, voc_pf s (joinV s) _ _ _ [_] [_] [_, _] _ (X16 [36]) (callerOf T) 1 h22 h37 hbsl h36 (by rw [he]; rfl) g1 g2 g3⟩
end Go.Proofs.Num
end
