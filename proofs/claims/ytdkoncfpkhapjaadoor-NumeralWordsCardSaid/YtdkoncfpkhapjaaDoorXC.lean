/- Part 3 of the texts of this claim: the evaluator, and what it says of the program's functions. -/
import Derived.Test.YtdkoncfpkhapjaaDoorXB
import Derived.Test.YtdkoncfpkhapjaaDoorProg
import Derived.Ground.NamesProg
import Derived.Shelf.Unicode.ValidAny
import Derived.KernelRfl
set_option linter.unusedSectionVars false
set_option linter.unusedVariables false
set_option linter.unusedSimpArgs false
set_option linter.constructorNameAsVariable false
/- Numeral: the reference's Valid: paths. -/
section
open Go Go.Vm Go.Proofs
namespace Go.Proofs.Num
def fg14 : Nat → List Nat
  | 1 => [5, 6, 7, 8, 9, 10, 11, 12, 13, 14, 15, 16, 17, 18, 19, 20, 21, 22, 23, 24, 25, 26, 27, 28, 29, 30, 31, 32, 33, 34, 35, 36, 37, 38, 39, 40, 41, 42, 43, 44, 45, 46, 47]
  | 13 => [77, 78, 79, 80, 81, 82, 83, 84, 85, 86, 87, 88, 89, 90, 91, 92, 93, 94, 95, 96, 97, 98]
  | _ => []

theorem rval_g1_tt (s : NSys) (X : Ext) (call : Caller) (lf : Nat)
  (h0 : (NSys.base s != 10) = true)
  (h1 : (NSys.base s != 20) = true) : vexec Tryd.prog X call lf 0 fg14 (regN Tryd.f14 1) (stOf 99 [] [(0, AV.agg (sysC s)), (1, AV.ref 0 0), (2, bo false)] [Ob.cells (sysC s)]) = some (Ex.normal, stOf 99 [5, 6, 7, 8, 9, 10, 11, 12, 13, 14, 15, 16, 17, 18, 19, 20, 21, 22, 23, 24, 25, 26, 27, 28, 29, 30, 31, 32, 33, 34, 35, 36, 37, 38, 39, 40, 41, 42, 43, 44, 45, 46, 47] [(0, AV.agg (sysC s)), (1, AV.ref 0 0), (2, bo false), (48, bo true)] [Ob.cells (sysC s)]) :=
  around_sound (ans := [(3, Ans.b true), (10, Ans.b true)]) (by kernel_rfl) (And.intro h0 (And.intro h1 trivial))
theorem rval_g1_tft (s : NSys) (X : Ext) (call : Caller) (lf : Nat)
  (h0 : (NSys.base s != 10) = true)
  (h1 : (NSys.base s != 20) = false)
  (h2 : ((↑(List.length (NSys.digits s)) : Int) != NSys.base s) = true) : vexec Tryd.prog X call lf 0 fg14 (regN Tryd.f14 1) (stOf 99 [] [(0, AV.agg (sysC s)), (1, AV.ref 0 0), (2, bo false)] [Ob.cells (sysC s)]) = some (Ex.normal, stOf 99 [5, 6, 7, 8, 9, 10, 11, 12, 13, 14, 15, 16, 17, 18, 19, 20, 21, 22, 23, 24, 25, 26, 27, 28, 29, 30, 31, 32, 33, 34, 35, 36, 37, 38, 39, 40, 41, 42, 43, 44, 45, 46, 47] [(0, AV.agg (sysC s)), (1, AV.ref 0 0), (2, bo false), (48, bo true)] [Ob.cells (sysC s)]) :=
  around_sound (ans := [(3, Ans.b true), (10, Ans.b false), (24, Ans.b true)]) (by kernel_rfl) (And.intro h0 (And.intro h1 (And.intro h2 trivial)))
theorem rval_g1_tfft (s : NSys) (X : Ext) (call : Caller) (lf : Nat)
  (h0 : (NSys.base s != 10) = true)
  (h1 : (NSys.base s != 20) = false)
  (h2 : ((↑(List.length (NSys.digits s)) : Int) != NSys.base s) = false)
  (h3 : ((↑(List.length (NSys.powers s)) : Int) != 3) = true) : vexec Tryd.prog X call lf 0 fg14 (regN Tryd.f14 1) (stOf 99 [] [(0, AV.agg (sysC s)), (1, AV.ref 0 0), (2, bo false)] [Ob.cells (sysC s)]) = some (Ex.normal, stOf 99 [5, 6, 7, 8, 9, 10, 11, 12, 13, 14, 15, 16, 17, 18, 19, 20, 21, 22, 23, 24, 25, 26, 27, 28, 29, 30, 31, 32, 33, 34, 35, 36, 37, 38, 39, 40, 41, 42, 43, 44, 45, 46, 47] [(0, AV.agg (sysC s)), (1, AV.ref 0 0), (2, bo false), (48, bo true)] [Ob.cells (sysC s)]) :=
  around_sound (ans := [(3, Ans.b true), (10, Ans.b false), (24, Ans.b false), (34, Ans.b true)]) (by kernel_rfl) (And.intro h0 (And.intro h1 (And.intro h2 (And.intro h3 trivial))))
theorem rval_g1_tffftttt (s : NSys) (X : Ext) (call : Caller) (lf : Nat)
  (h0 : (NSys.base s != 10) = true)
  (h1 : (NSys.base s != 20) = false)
  (h2 : ((↑(List.length (NSys.digits s)) : Int) != NSys.base s) = false)
  (h3 : ((↑(List.length (NSys.powers s)) : Int) != 3) = false)
  (h4 : (!empB (NSys.jo s)) = true)
  (h5 : callv X call false 31 [st (NSys.jo s)] [Ob.cells (sysC s)] 0 = some (bo true, [Ob.cells (sysC s)]))
  (h6 : (!empB (NSys.le s)) = true)
  (h7 : callv X call false 31 [st (NSys.le s)] [Ob.cells (sysC s)] 0 = some (bo true, [Ob.cells (sysC s)])) : vexec Tryd.prog X call lf 0 fg14 (regN Tryd.f14 1) (stOf 99 [] [(0, AV.agg (sysC s)), (1, AV.ref 0 0), (2, bo false)] [Ob.cells (sysC s)]) = some (Ex.normal, stOf 99 [5, 6, 7, 8, 9, 10, 11, 12, 13, 14, 15, 16, 17, 18, 19, 20, 21, 22, 23, 24, 25, 26, 27, 28, 29, 30, 31, 32, 33, 34, 35, 36, 37, 38, 39, 40, 41, 42, 43, 44, 45, 46, 47] [(0, AV.agg (sysC s)), (1, AV.ref 0 0), (2, bo false), (48, bo false)] [Ob.cells (sysC s)]) :=
  around_sound (ans := [(3, Ans.b true), (10, Ans.b false), (24, Ans.b false), (34, Ans.b false), (42, Ans.b true), (50, Ans.v (bo true)), (62, Ans.b true), (70, Ans.v (bo true))]) (by kernel_rfl) (And.intro h0 (And.intro h1 (And.intro h2 (And.intro h3 (And.intro h4 (And.intro h5 (And.intro h6 (And.intro h7 trivial))))))))
theorem rval_g1_tffftttf (s : NSys) (X : Ext) (call : Caller) (lf : Nat)
  (h0 : (NSys.base s != 10) = true)
  (h1 : (NSys.base s != 20) = false)
  (h2 : ((↑(List.length (NSys.digits s)) : Int) != NSys.base s) = false)
  (h3 : ((↑(List.length (NSys.powers s)) : Int) != 3) = false)
  (h4 : (!empB (NSys.jo s)) = true)
  (h5 : callv X call false 31 [st (NSys.jo s)] [Ob.cells (sysC s)] 0 = some (bo true, [Ob.cells (sysC s)]))
  (h6 : (!empB (NSys.le s)) = true)
  (h7 : callv X call false 31 [st (NSys.le s)] [Ob.cells (sysC s)] 0 = some (bo false, [Ob.cells (sysC s)])) : vexec Tryd.prog X call lf 0 fg14 (regN Tryd.f14 1) (stOf 99 [] [(0, AV.agg (sysC s)), (1, AV.ref 0 0), (2, bo false)] [Ob.cells (sysC s)]) = some (Ex.normal, stOf 99 [5, 6, 7, 8, 9, 10, 11, 12, 13, 14, 15, 16, 17, 18, 19, 20, 21, 22, 23, 24, 25, 26, 27, 28, 29, 30, 31, 32, 33, 34, 35, 36, 37, 38, 39, 40, 41, 42, 43, 44, 45, 46, 47] [(0, AV.agg (sysC s)), (1, AV.ref 0 0), (2, bo false), (48, bo true)] [Ob.cells (sysC s)]) :=
  around_sound (ans := [(3, Ans.b true), (10, Ans.b false), (24, Ans.b false), (34, Ans.b false), (42, Ans.b true), (50, Ans.v (bo true)), (62, Ans.b true), (70, Ans.v (bo false))]) (by kernel_rfl) (And.intro h0 (And.intro h1 (And.intro h2 (And.intro h3 (And.intro h4 (And.intro h5 (And.intro h6 (And.intro h7 trivial))))))))
theorem rval_g1_tfffttf (s : NSys) (X : Ext) (call : Caller) (lf : Nat)
  (h0 : (NSys.base s != 10) = true)
  (h1 : (NSys.base s != 20) = false)
  (h2 : ((↑(List.length (NSys.digits s)) : Int) != NSys.base s) = false)
  (h3 : ((↑(List.length (NSys.powers s)) : Int) != 3) = false)
  (h4 : (!empB (NSys.jo s)) = true)
  (h5 : callv X call false 31 [st (NSys.jo s)] [Ob.cells (sysC s)] 0 = some (bo true, [Ob.cells (sysC s)]))
  (h6 : (!empB (NSys.le s)) = false) : vexec Tryd.prog X call lf 0 fg14 (regN Tryd.f14 1) (stOf 99 [] [(0, AV.agg (sysC s)), (1, AV.ref 0 0), (2, bo false)] [Ob.cells (sysC s)]) = some (Ex.normal, stOf 99 [5, 6, 7, 8, 9, 10, 11, 12, 13, 14, 15, 16, 17, 18, 19, 20, 21, 22, 23, 24, 25, 26, 27, 28, 29, 30, 31, 32, 33, 34, 35, 36, 37, 38, 39, 40, 41, 42, 43, 44, 45, 46, 47] [(0, AV.agg (sysC s)), (1, AV.ref 0 0), (2, bo false), (48, bo false)] [Ob.cells (sysC s)]) :=
  around_sound (ans := [(3, Ans.b true), (10, Ans.b false), (24, Ans.b false), (34, Ans.b false), (42, Ans.b true), (50, Ans.v (bo true)), (62, Ans.b false)]) (by kernel_rfl) (And.intro h0 (And.intro h1 (And.intro h2 (And.intro h3 (And.intro h4 (And.intro h5 (And.intro h6 trivial)))))))
theorem rval_g1_tffftf (s : NSys) (X : Ext) (call : Caller) (lf : Nat)
  (h0 : (NSys.base s != 10) = true)
  (h1 : (NSys.base s != 20) = false)
  (h2 : ((↑(List.length (NSys.digits s)) : Int) != NSys.base s) = false)
  (h3 : ((↑(List.length (NSys.powers s)) : Int) != 3) = false)
  (h4 : (!empB (NSys.jo s)) = true)
  (h5 : callv X call false 31 [st (NSys.jo s)] [Ob.cells (sysC s)] 0 = some (bo false, [Ob.cells (sysC s)])) : vexec Tryd.prog X call lf 0 fg14 (regN Tryd.f14 1) (stOf 99 [] [(0, AV.agg (sysC s)), (1, AV.ref 0 0), (2, bo false)] [Ob.cells (sysC s)]) = some (Ex.normal, stOf 99 [5, 6, 7, 8, 9, 10, 11, 12, 13, 14, 15, 16, 17, 18, 19, 20, 21, 22, 23, 24, 25, 26, 27, 28, 29, 30, 31, 32, 33, 34, 35, 36, 37, 38, 39, 40, 41, 42, 43, 44, 45, 46, 47] [(0, AV.agg (sysC s)), (1, AV.ref 0 0), (2, bo false), (48, bo true)] [Ob.cells (sysC s)]) :=
  around_sound (ans := [(3, Ans.b true), (10, Ans.b false), (24, Ans.b false), (34, Ans.b false), (42, Ans.b true), (50, Ans.v (bo false))]) (by kernel_rfl) (And.intro h0 (And.intro h1 (And.intro h2 (And.intro h3 (And.intro h4 (And.intro h5 trivial))))))
theorem rval_g1_tfffftt (s : NSys) (X : Ext) (call : Caller) (lf : Nat)
  (h0 : (NSys.base s != 10) = true)
  (h1 : (NSys.base s != 20) = false)
  (h2 : ((↑(List.length (NSys.digits s)) : Int) != NSys.base s) = false)
  (h3 : ((↑(List.length (NSys.powers s)) : Int) != 3) = false)
  (h4 : (!empB (NSys.jo s)) = false)
  (h5 : (!empB (NSys.le s)) = true)
  (h6 : callv X call false 31 [st (NSys.le s)] [Ob.cells (sysC s)] 0 = some (bo true, [Ob.cells (sysC s)])) : vexec Tryd.prog X call lf 0 fg14 (regN Tryd.f14 1) (stOf 99 [] [(0, AV.agg (sysC s)), (1, AV.ref 0 0), (2, bo false)] [Ob.cells (sysC s)]) = some (Ex.normal, stOf 99 [5, 6, 7, 8, 9, 10, 11, 12, 13, 14, 15, 16, 17, 18, 19, 20, 21, 22, 23, 24, 25, 26, 27, 28, 29, 30, 31, 32, 33, 34, 35, 36, 37, 38, 39, 40, 41, 42, 43, 44, 45, 46, 47] [(0, AV.agg (sysC s)), (1, AV.ref 0 0), (2, bo false), (48, bo false)] [Ob.cells (sysC s)]) :=
  around_sound (ans := [(3, Ans.b true), (10, Ans.b false), (24, Ans.b false), (34, Ans.b false), (42, Ans.b false), (58, Ans.b true), (66, Ans.v (bo true))]) (by kernel_rfl) (And.intro h0 (And.intro h1 (And.intro h2 (And.intro h3 (And.intro h4 (And.intro h5 (And.intro h6 trivial)))))))
theorem rval_g1_tfffftf (s : NSys) (X : Ext) (call : Caller) (lf : Nat)
  (h0 : (NSys.base s != 10) = true)
  (h1 : (NSys.base s != 20) = false)
  (h2 : ((↑(List.length (NSys.digits s)) : Int) != NSys.base s) = false)
  (h3 : ((↑(List.length (NSys.powers s)) : Int) != 3) = false)
  (h4 : (!empB (NSys.jo s)) = false)
  (h5 : (!empB (NSys.le s)) = true)
  (h6 : callv X call false 31 [st (NSys.le s)] [Ob.cells (sysC s)] 0 = some (bo false, [Ob.cells (sysC s)])) : vexec Tryd.prog X call lf 0 fg14 (regN Tryd.f14 1) (stOf 99 [] [(0, AV.agg (sysC s)), (1, AV.ref 0 0), (2, bo false)] [Ob.cells (sysC s)]) = some (Ex.normal, stOf 99 [5, 6, 7, 8, 9, 10, 11, 12, 13, 14, 15, 16, 17, 18, 19, 20, 21, 22, 23, 24, 25, 26, 27, 28, 29, 30, 31, 32, 33, 34, 35, 36, 37, 38, 39, 40, 41, 42, 43, 44, 45, 46, 47] [(0, AV.agg (sysC s)), (1, AV.ref 0 0), (2, bo false), (48, bo true)] [Ob.cells (sysC s)]) :=
  around_sound (ans := [(3, Ans.b true), (10, Ans.b false), (24, Ans.b false), (34, Ans.b false), (42, Ans.b false), (58, Ans.b true), (66, Ans.v (bo false))]) (by kernel_rfl) (And.intro h0 (And.intro h1 (And.intro h2 (And.intro h3 (And.intro h4 (And.intro h5 (And.intro h6 trivial)))))))
theorem rval_g1_tfffff (s : NSys) (X : Ext) (call : Caller) (lf : Nat)
  (h0 : (NSys.base s != 10) = true)
  (h1 : (NSys.base s != 20) = false)
  (h2 : ((↑(List.length (NSys.digits s)) : Int) != NSys.base s) = false)
  (h3 : ((↑(List.length (NSys.powers s)) : Int) != 3) = false)
  (h4 : (!empB (NSys.jo s)) = false)
  (h5 : (!empB (NSys.le s)) = false) : vexec Tryd.prog X call lf 0 fg14 (regN Tryd.f14 1) (stOf 99 [] [(0, AV.agg (sysC s)), (1, AV.ref 0 0), (2, bo false)] [Ob.cells (sysC s)]) = some (Ex.normal, stOf 99 [5, 6, 7, 8, 9, 10, 11, 12, 13, 14, 15, 16, 17, 18, 19, 20, 21, 22, 23, 24, 25, 26, 27, 28, 29, 30, 31, 32, 33, 34, 35, 36, 37, 38, 39, 40, 41, 42, 43, 44, 45, 46, 47] [(0, AV.agg (sysC s)), (1, AV.ref 0 0), (2, bo false), (48, bo false)] [Ob.cells (sysC s)]) :=
  around_sound (ans := [(3, Ans.b true), (10, Ans.b false), (24, Ans.b false), (34, Ans.b false), (42, Ans.b false), (58, Ans.b false)]) (by kernel_rfl) (And.intro h0 (And.intro h1 (And.intro h2 (And.intro h3 (And.intro h4 (And.intro h5 trivial))))))
theorem rval_g1_ft (s : NSys) (X : Ext) (call : Caller) (lf : Nat)
  (h0 : (NSys.base s != 10) = false)
  (h1 : ((↑(List.length (NSys.digits s)) : Int) != NSys.base s) = true) : vexec Tryd.prog X call lf 0 fg14 (regN Tryd.f14 1) (stOf 99 [] [(0, AV.agg (sysC s)), (1, AV.ref 0 0), (2, bo false)] [Ob.cells (sysC s)]) = some (Ex.normal, stOf 99 [5, 6, 7, 8, 9, 10, 11, 12, 13, 14, 15, 16, 17, 18, 19, 20, 21, 22, 23, 24, 25, 26, 27, 28, 29, 30, 31, 32, 33, 34, 35, 36, 37, 38, 39, 40, 41, 42, 43, 44, 45, 46, 47] [(0, AV.agg (sysC s)), (1, AV.ref 0 0), (2, bo false), (48, bo true)] [Ob.cells (sysC s)]) :=
  around_sound (ans := [(3, Ans.b false), (21, Ans.b true)]) (by kernel_rfl) (And.intro h0 (And.intro h1 trivial))
theorem rval_g1_fft (s : NSys) (X : Ext) (call : Caller) (lf : Nat)
  (h0 : (NSys.base s != 10) = false)
  (h1 : ((↑(List.length (NSys.digits s)) : Int) != NSys.base s) = false)
  (h2 : ((↑(List.length (NSys.powers s)) : Int) != 3) = true) : vexec Tryd.prog X call lf 0 fg14 (regN Tryd.f14 1) (stOf 99 [] [(0, AV.agg (sysC s)), (1, AV.ref 0 0), (2, bo false)] [Ob.cells (sysC s)]) = some (Ex.normal, stOf 99 [5, 6, 7, 8, 9, 10, 11, 12, 13, 14, 15, 16, 17, 18, 19, 20, 21, 22, 23, 24, 25, 26, 27, 28, 29, 30, 31, 32, 33, 34, 35, 36, 37, 38, 39, 40, 41, 42, 43, 44, 45, 46, 47] [(0, AV.agg (sysC s)), (1, AV.ref 0 0), (2, bo false), (48, bo true)] [Ob.cells (sysC s)]) :=
  around_sound (ans := [(3, Ans.b false), (21, Ans.b false), (31, Ans.b true)]) (by kernel_rfl) (And.intro h0 (And.intro h1 (And.intro h2 trivial)))
theorem rval_g1_ffftttt (s : NSys) (X : Ext) (call : Caller) (lf : Nat)
  (h0 : (NSys.base s != 10) = false)
  (h1 : ((↑(List.length (NSys.digits s)) : Int) != NSys.base s) = false)
  (h2 : ((↑(List.length (NSys.powers s)) : Int) != 3) = false)
  (h3 : (!empB (NSys.jo s)) = true)
  (h4 : callv X call false 31 [st (NSys.jo s)] [Ob.cells (sysC s)] 0 = some (bo true, [Ob.cells (sysC s)]))
  (h5 : (!empB (NSys.le s)) = true)
  (h6 : callv X call false 31 [st (NSys.le s)] [Ob.cells (sysC s)] 0 = some (bo true, [Ob.cells (sysC s)])) : vexec Tryd.prog X call lf 0 fg14 (regN Tryd.f14 1) (stOf 99 [] [(0, AV.agg (sysC s)), (1, AV.ref 0 0), (2, bo false)] [Ob.cells (sysC s)]) = some (Ex.normal, stOf 99 [5, 6, 7, 8, 9, 10, 11, 12, 13, 14, 15, 16, 17, 18, 19, 20, 21, 22, 23, 24, 25, 26, 27, 28, 29, 30, 31, 32, 33, 34, 35, 36, 37, 38, 39, 40, 41, 42, 43, 44, 45, 46, 47] [(0, AV.agg (sysC s)), (1, AV.ref 0 0), (2, bo false), (48, bo false)] [Ob.cells (sysC s)]) :=
  around_sound (ans := [(3, Ans.b false), (21, Ans.b false), (31, Ans.b false), (39, Ans.b true), (47, Ans.v (bo true)), (59, Ans.b true), (67, Ans.v (bo true))]) (by kernel_rfl) (And.intro h0 (And.intro h1 (And.intro h2 (And.intro h3 (And.intro h4 (And.intro h5 (And.intro h6 trivial)))))))
theorem rval_g1_ffftttf (s : NSys) (X : Ext) (call : Caller) (lf : Nat)
  (h0 : (NSys.base s != 10) = false)
  (h1 : ((↑(List.length (NSys.digits s)) : Int) != NSys.base s) = false)
  (h2 : ((↑(List.length (NSys.powers s)) : Int) != 3) = false)
  (h3 : (!empB (NSys.jo s)) = true)
  (h4 : callv X call false 31 [st (NSys.jo s)] [Ob.cells (sysC s)] 0 = some (bo true, [Ob.cells (sysC s)]))
  (h5 : (!empB (NSys.le s)) = true)
  (h6 : callv X call false 31 [st (NSys.le s)] [Ob.cells (sysC s)] 0 = some (bo false, [Ob.cells (sysC s)])) : vexec Tryd.prog X call lf 0 fg14 (regN Tryd.f14 1) (stOf 99 [] [(0, AV.agg (sysC s)), (1, AV.ref 0 0), (2, bo false)] [Ob.cells (sysC s)]) = some (Ex.normal, stOf 99 [5, 6, 7, 8, 9, 10, 11, 12, 13, 14, 15, 16, 17, 18, 19, 20, 21, 22, 23, 24, 25, 26, 27, 28, 29, 30, 31, 32, 33, 34, 35, 36, 37, 38, 39, 40, 41, 42, 43, 44, 45, 46, 47] [(0, AV.agg (sysC s)), (1, AV.ref 0 0), (2, bo false), (48, bo true)] [Ob.cells (sysC s)]) :=
  around_sound (ans := [(3, Ans.b false), (21, Ans.b false), (31, Ans.b false), (39, Ans.b true), (47, Ans.v (bo true)), (59, Ans.b true), (67, Ans.v (bo false))]) (by kernel_rfl) (And.intro h0 (And.intro h1 (And.intro h2 (And.intro h3 (And.intro h4 (And.intro h5 (And.intro h6 trivial)))))))
theorem rval_g1_fffttf (s : NSys) (X : Ext) (call : Caller) (lf : Nat)
  (h0 : (NSys.base s != 10) = false)
  (h1 : ((↑(List.length (NSys.digits s)) : Int) != NSys.base s) = false)
  (h2 : ((↑(List.length (NSys.powers s)) : Int) != 3) = false)
  (h3 : (!empB (NSys.jo s)) = true)
  (h4 : callv X call false 31 [st (NSys.jo s)] [Ob.cells (sysC s)] 0 = some (bo true, [Ob.cells (sysC s)]))
  (h5 : (!empB (NSys.le s)) = false) : vexec Tryd.prog X call lf 0 fg14 (regN Tryd.f14 1) (stOf 99 [] [(0, AV.agg (sysC s)), (1, AV.ref 0 0), (2, bo false)] [Ob.cells (sysC s)]) = some (Ex.normal, stOf 99 [5, 6, 7, 8, 9, 10, 11, 12, 13, 14, 15, 16, 17, 18, 19, 20, 21, 22, 23, 24, 25, 26, 27, 28, 29, 30, 31, 32, 33, 34, 35, 36, 37, 38, 39, 40, 41, 42, 43, 44, 45, 46, 47] [(0, AV.agg (sysC s)), (1, AV.ref 0 0), (2, bo false), (48, bo false)] [Ob.cells (sysC s)]) :=
  around_sound (ans := [(3, Ans.b false), (21, Ans.b false), (31, Ans.b false), (39, Ans.b true), (47, Ans.v (bo true)), (59, Ans.b false)]) (by kernel_rfl) (And.intro h0 (And.intro h1 (And.intro h2 (And.intro h3 (And.intro h4 (And.intro h5 trivial))))))
theorem rval_g1_ffftf (s : NSys) (X : Ext) (call : Caller) (lf : Nat)
  (h0 : (NSys.base s != 10) = false)
  (h1 : ((↑(List.length (NSys.digits s)) : Int) != NSys.base s) = false)
  (h2 : ((↑(List.length (NSys.powers s)) : Int) != 3) = false)
  (h3 : (!empB (NSys.jo s)) = true)
  (h4 : callv X call false 31 [st (NSys.jo s)] [Ob.cells (sysC s)] 0 = some (bo false, [Ob.cells (sysC s)])) : vexec Tryd.prog X call lf 0 fg14 (regN Tryd.f14 1) (stOf 99 [] [(0, AV.agg (sysC s)), (1, AV.ref 0 0), (2, bo false)] [Ob.cells (sysC s)]) = some (Ex.normal, stOf 99 [5, 6, 7, 8, 9, 10, 11, 12, 13, 14, 15, 16, 17, 18, 19, 20, 21, 22, 23, 24, 25, 26, 27, 28, 29, 30, 31, 32, 33, 34, 35, 36, 37, 38, 39, 40, 41, 42, 43, 44, 45, 46, 47] [(0, AV.agg (sysC s)), (1, AV.ref 0 0), (2, bo false), (48, bo true)] [Ob.cells (sysC s)]) :=
  around_sound (ans := [(3, Ans.b false), (21, Ans.b false), (31, Ans.b false), (39, Ans.b true), (47, Ans.v (bo false))]) (by kernel_rfl) (And.intro h0 (And.intro h1 (And.intro h2 (And.intro h3 (And.intro h4 trivial)))))
theorem rval_g1_fffftt (s : NSys) (X : Ext) (call : Caller) (lf : Nat)
  (h0 : (NSys.base s != 10) = false)
  (h1 : ((↑(List.length (NSys.digits s)) : Int) != NSys.base s) = false)
  (h2 : ((↑(List.length (NSys.powers s)) : Int) != 3) = false)
  (h3 : (!empB (NSys.jo s)) = false)
  (h4 : (!empB (NSys.le s)) = true)
  (h5 : callv X call false 31 [st (NSys.le s)] [Ob.cells (sysC s)] 0 = some (bo true, [Ob.cells (sysC s)])) : vexec Tryd.prog X call lf 0 fg14 (regN Tryd.f14 1) (stOf 99 [] [(0, AV.agg (sysC s)), (1, AV.ref 0 0), (2, bo false)] [Ob.cells (sysC s)]) = some (Ex.normal, stOf 99 [5, 6, 7, 8, 9, 10, 11, 12, 13, 14, 15, 16, 17, 18, 19, 20, 21, 22, 23, 24, 25, 26, 27, 28, 29, 30, 31, 32, 33, 34, 35, 36, 37, 38, 39, 40, 41, 42, 43, 44, 45, 46, 47] [(0, AV.agg (sysC s)), (1, AV.ref 0 0), (2, bo false), (48, bo false)] [Ob.cells (sysC s)]) :=
  around_sound (ans := [(3, Ans.b false), (21, Ans.b false), (31, Ans.b false), (39, Ans.b false), (55, Ans.b true), (63, Ans.v (bo true))]) (by kernel_rfl) (And.intro h0 (And.intro h1 (And.intro h2 (And.intro h3 (And.intro h4 (And.intro h5 trivial))))))
theorem rval_g1_fffftf (s : NSys) (X : Ext) (call : Caller) (lf : Nat)
  (h0 : (NSys.base s != 10) = false)
  (h1 : ((↑(List.length (NSys.digits s)) : Int) != NSys.base s) = false)
  (h2 : ((↑(List.length (NSys.powers s)) : Int) != 3) = false)
  (h3 : (!empB (NSys.jo s)) = false)
  (h4 : (!empB (NSys.le s)) = true)
  (h5 : callv X call false 31 [st (NSys.le s)] [Ob.cells (sysC s)] 0 = some (bo false, [Ob.cells (sysC s)])) : vexec Tryd.prog X call lf 0 fg14 (regN Tryd.f14 1) (stOf 99 [] [(0, AV.agg (sysC s)), (1, AV.ref 0 0), (2, bo false)] [Ob.cells (sysC s)]) = some (Ex.normal, stOf 99 [5, 6, 7, 8, 9, 10, 11, 12, 13, 14, 15, 16, 17, 18, 19, 20, 21, 22, 23, 24, 25, 26, 27, 28, 29, 30, 31, 32, 33, 34, 35, 36, 37, 38, 39, 40, 41, 42, 43, 44, 45, 46, 47] [(0, AV.agg (sysC s)), (1, AV.ref 0 0), (2, bo false), (48, bo true)] [Ob.cells (sysC s)]) :=
  around_sound (ans := [(3, Ans.b false), (21, Ans.b false), (31, Ans.b false), (39, Ans.b false), (55, Ans.b true), (63, Ans.v (bo false))]) (by kernel_rfl) (And.intro h0 (And.intro h1 (And.intro h2 (And.intro h3 (And.intro h4 (And.intro h5 trivial))))))
theorem rval_g1_fffff (s : NSys) (X : Ext) (call : Caller) (lf : Nat)
  (h0 : (NSys.base s != 10) = false)
  (h1 : ((↑(List.length (NSys.digits s)) : Int) != NSys.base s) = false)
  (h2 : ((↑(List.length (NSys.powers s)) : Int) != 3) = false)
  (h3 : (!empB (NSys.jo s)) = false)
  (h4 : (!empB (NSys.le s)) = false) : vexec Tryd.prog X call lf 0 fg14 (regN Tryd.f14 1) (stOf 99 [] [(0, AV.agg (sysC s)), (1, AV.ref 0 0), (2, bo false)] [Ob.cells (sysC s)]) = some (Ex.normal, stOf 99 [5, 6, 7, 8, 9, 10, 11, 12, 13, 14, 15, 16, 17, 18, 19, 20, 21, 22, 23, 24, 25, 26, 27, 28, 29, 30, 31, 32, 33, 34, 35, 36, 37, 38, 39, 40, 41, 42, 43, 44, 45, 46, 47] [(0, AV.agg (sysC s)), (1, AV.ref 0 0), (2, bo false), (48, bo false)] [Ob.cells (sysC s)]) :=
  around_sound (ans := [(3, Ans.b false), (21, Ans.b false), (31, Ans.b false), (39, Ans.b false), (55, Ans.b false)]) (by kernel_rfl) (And.intro h0 (And.intro h1 (And.intro h2 (And.intro h3 (And.intro h4 trivial)))))
theorem rval_pt (s : NSys) (b1 : Bool) (X : Ext) (call : Caller) (lf : Nat)
  (h0 : vexec Tryd.prog X call lf 0 fg14 (regN Tryd.f14 1) (stOf 99 [] [(0, AV.agg (sysC s)), (1, AV.ref 0 0), (2, bo false)] [Ob.cells (sysC s)]) = some (Ex.normal, stOf 99 [5, 6, 7, 8, 9, 10, 11, 12, 13, 14, 15, 16, 17, 18, 19, 20, 21, 22, 23, 24, 25, 26, 27, 28, 29, 30, 31, 32, 33, 34, 35, 36, 37, 38, 39, 40, 41, 42, 43, 44, 45, 46, 47] [(0, AV.agg (sysC s)), (1, AV.ref 0 0), (2, bo false), (48, bo b1)] [Ob.cells (sysC s)]))
  (h1 : b1 = true) : vbody Tryd.prog X call lf fg14 Tryd.f14 (codeOf Tryd.f14) [AV.agg (sysC s)] [] 0 = some (bo false, [Ob.cells (sysC s)]) :=
  along_sound (ans := [(3, Ans.l Ex.normal (stOf 99 [5, 6, 7, 8, 9, 10, 11, 12, 13, 14, 15, 16, 17, 18, 19, 20, 21, 22, 23, 24, 25, 26, 27, 28, 29, 30, 31, 32, 33, 34, 35, 36, 37, 38, 39, 40, 41, 42, 43, 44, 45, 46, 47] [(0, AV.agg (sysC s)), (1, AV.ref 0 0), (2, bo false), (48, bo b1)] [Ob.cells (sysC s)])), (4, Ans.b true)]) (by kernel_rfl) (And.intro h0 (And.intro h1 trivial))
theorem rval_r0_tt (s : NSys) (rest : List AV) (b1 : Bool) (w : ByteArray) (X : Ext) (call : Caller) (lf : Nat) (i0 : Nat)
  (h0 : decide ((↑i0 : Int) < (↑(List.length (NSys.digits s)) : Int)) = true)
  (h1 : keep [Ob.cells (sysC s)] (indexAddrv Tryd.prog 22 [Ob.cells (sysC s)] (lro (List.length (NSys.digits s)) 1 (List.map st (NSys.digits s))) (i6 (↑i0 : Int))) = some (AV.eaddr rest, [Ob.cells (sysC s)]))
  (h2 : keep [Ob.cells (sysC s)] (loadv Tryd.prog 9 [Ob.cells (sysC s)] (AV.eaddr rest)) = some (st w, [Ob.cells (sysC s)]))
  (h3 : callv X call false 31 [st w] [Ob.cells (sysC s)] 0 = some (bo true, [Ob.cells (sysC s)])) : vexec Tryd.prog X call lf 0 fg14 (loopN Tryd.f14 0) (stOf 99 [2, 5, 6, 7, 8, 9, 10, 11, 12, 13, 14, 15, 16, 17, 18, 19, 20, 21, 22, 23, 24, 25, 26, 27, 28, 29, 30, 31, 32, 33, 34, 35, 36, 37, 38, 39, 40, 41, 42, 43, 44, 45, 46, 47, 49, 50, 51, 52, 53, 54, 55, 56, 57, 58, 59, 60, 61, 62] [(0, AV.agg (sysC s)), (1, AV.ref 0 0), (3, i6 (↑i0 : Int)), (48, bo b1)] [Ob.cells (sysC s)]) = some (Ex.normal, stOf 99 [2, 5, 6, 7, 8, 9, 10, 11, 12, 13, 14, 15, 16, 17, 18, 19, 20, 21, 22, 23, 24, 25, 26, 27, 28, 29, 30, 31, 32, 33, 34, 35, 36, 37, 38, 39, 40, 41, 42, 43, 44, 45, 46, 47] [(0, AV.agg (sysC s)), (1, AV.ref 0 0), (3, i6 (w6 ((↑i0 : Int) + 1))), (48, bo b1), (49, i6 (↑i0 : Int)), (50, AV.ref 0 1), (51, lro (List.length (NSys.digits s)) 1 (List.map st (NSys.digits s))), (52, i6 (↑(List.length (NSys.digits s)) : Int)), (53, bo true), (54, i6 (↑i0 : Int)), (55, i6 (w6 ((↑i0 : Int) + 1))), (56, AV.ref 0 1), (57, lro (List.length (NSys.digits s)) 1 (List.map st (NSys.digits s))), (58, i6 (↑i0 : Int)), (59, AV.eaddr rest), (60, st w), (61, bo true), (62, bo false)] [Ob.cells (sysC s)]) :=
  around_sound (ans := [(5, Ans.b true), (11, Ans.v (AV.eaddr rest)), (12, Ans.v (st w)), (13, Ans.v (bo true))]) (by kernel_rfl) (And.intro h0 (And.intro h1 (And.intro h2 (And.intro h3 trivial))))
theorem rval_r0_tf (s : NSys) (rest : List AV) (b1 : Bool) (w : ByteArray) (X : Ext) (call : Caller) (lf : Nat) (i0 : Nat)
  (h0 : decide ((↑i0 : Int) < (↑(List.length (NSys.digits s)) : Int)) = true)
  (h1 : keep [Ob.cells (sysC s)] (indexAddrv Tryd.prog 22 [Ob.cells (sysC s)] (lro (List.length (NSys.digits s)) 1 (List.map st (NSys.digits s))) (i6 (↑i0 : Int))) = some (AV.eaddr rest, [Ob.cells (sysC s)]))
  (h2 : keep [Ob.cells (sysC s)] (loadv Tryd.prog 9 [Ob.cells (sysC s)] (AV.eaddr rest)) = some (st w, [Ob.cells (sysC s)]))
  (h3 : callv X call false 31 [st w] [Ob.cells (sysC s)] 0 = some (bo false, [Ob.cells (sysC s)])) : vexec Tryd.prog X call lf 0 fg14 (loopN Tryd.f14 0) (stOf 99 [2, 5, 6, 7, 8, 9, 10, 11, 12, 13, 14, 15, 16, 17, 18, 19, 20, 21, 22, 23, 24, 25, 26, 27, 28, 29, 30, 31, 32, 33, 34, 35, 36, 37, 38, 39, 40, 41, 42, 43, 44, 45, 46, 47, 49, 50, 51, 52, 53, 54, 55, 56, 57, 58, 59, 60, 61, 62] [(0, AV.agg (sysC s)), (1, AV.ref 0 0), (3, i6 (↑i0 : Int)), (48, bo b1)] [Ob.cells (sysC s)]) = some (Ex.ret, stOf 99 [5, 6, 7, 8, 9, 10, 11, 12, 13, 14, 15, 16, 17, 18, 19, 20, 21, 22, 23, 24, 25, 26, 27, 28, 29, 30, 31, 32, 33, 34, 35, 36, 37, 38, 39, 40, 41, 42, 43, 44, 45, 46, 47, 54, 55] [(0, AV.agg (sysC s)), (1, AV.ref 0 0), (2, bo false), (3, i6 (↑i0 : Int)), (48, bo b1), (49, i6 (↑i0 : Int)), (50, AV.ref 0 1), (51, lro (List.length (NSys.digits s)) 1 (List.map st (NSys.digits s))), (52, i6 (↑(List.length (NSys.digits s)) : Int)), (53, bo true), (56, AV.ref 0 1), (57, lro (List.length (NSys.digits s)) 1 (List.map st (NSys.digits s))), (58, i6 (↑i0 : Int)), (59, AV.eaddr rest), (60, st w), (61, bo false), (62, bo true)] [Ob.cells (sysC s)]) :=
  around_sound (ans := [(5, Ans.b true), (11, Ans.v (AV.eaddr rest)), (12, Ans.v (st w)), (13, Ans.v (bo false))]) (by kernel_rfl) (And.intro h0 (And.intro h1 (And.intro h2 (And.intro h3 trivial))))
theorem rval_pfltf (s : NSys) (rest : List AV) (b1 : Bool) (w : ByteArray) (X : Ext) (call : Caller) (lf : Nat) (i0 : Nat)
  (h0 : vexec Tryd.prog X call lf 0 fg14 (regN Tryd.f14 1) (stOf 99 [] [(0, AV.agg (sysC s)), (1, AV.ref 0 0), (2, bo false)] [Ob.cells (sysC s)]) = some (Ex.normal, stOf 99 [5, 6, 7, 8, 9, 10, 11, 12, 13, 14, 15, 16, 17, 18, 19, 20, 21, 22, 23, 24, 25, 26, 27, 28, 29, 30, 31, 32, 33, 34, 35, 36, 37, 38, 39, 40, 41, 42, 43, 44, 45, 46, 47] [(0, AV.agg (sysC s)), (1, AV.ref 0 0), (2, bo false), (48, bo b1)] [Ob.cells (sysC s)]))
  (h1 : b1 = false)
  (h2 : vexec Tryd.prog X call lf 0 fg14 (Code.loop (loopN Tryd.f14 0)) (stOf 99 [5, 6, 7, 8, 9, 10, 11, 12, 13, 14, 15, 16, 17, 18, 19, 20, 21, 22, 23, 24, 25, 26, 27, 28, 29, 30, 31, 32, 33, 34, 35, 36, 37, 38, 39, 40, 41, 42, 43, 44, 45, 46, 47] [(0, AV.agg (sysC s)), (1, AV.ref 0 0), (2, bo false), (3, i6 0), (48, bo b1)] [Ob.cells (sysC s)]) = some (Ex.ret, stOf 99 [5, 6, 7, 8, 9, 10, 11, 12, 13, 14, 15, 16, 17, 18, 19, 20, 21, 22, 23, 24, 25, 26, 27, 28, 29, 30, 31, 32, 33, 34, 35, 36, 37, 38, 39, 40, 41, 42, 43, 44, 45, 46, 47, 54, 55] [(0, AV.agg (sysC s)), (1, AV.ref 0 0), (2, bo false), (3, i6 (↑i0 : Int)), (48, bo b1), (49, i6 (↑i0 : Int)), (50, AV.ref 0 1), (51, lro (List.length (NSys.digits s)) 1 (List.map st (NSys.digits s))), (52, i6 (↑(List.length (NSys.digits s)) : Int)), (53, bo true), (56, AV.ref 0 1), (57, lro (List.length (NSys.digits s)) 1 (List.map st (NSys.digits s))), (58, i6 (↑i0 : Int)), (59, AV.eaddr rest), (60, st w), (61, bo false), (62, bo true)] [Ob.cells (sysC s)])) : vbody Tryd.prog X call lf fg14 Tryd.f14 (codeOf Tryd.f14) [AV.agg (sysC s)] [] 0 = some (bo false, [Ob.cells (sysC s)]) :=
  along_sound (ans := [(3, Ans.l Ex.normal (stOf 99 [5, 6, 7, 8, 9, 10, 11, 12, 13, 14, 15, 16, 17, 18, 19, 20, 21, 22, 23, 24, 25, 26, 27, 28, 29, 30, 31, 32, 33, 34, 35, 36, 37, 38, 39, 40, 41, 42, 43, 44, 45, 46, 47] [(0, AV.agg (sysC s)), (1, AV.ref 0 0), (2, bo false), (48, bo b1)] [Ob.cells (sysC s)])), (4, Ans.b false), (7, Ans.l Ex.ret (stOf 99 [5, 6, 7, 8, 9, 10, 11, 12, 13, 14, 15, 16, 17, 18, 19, 20, 21, 22, 23, 24, 25, 26, 27, 28, 29, 30, 31, 32, 33, 34, 35, 36, 37, 38, 39, 40, 41, 42, 43, 44, 45, 46, 47, 54, 55] [(0, AV.agg (sysC s)), (1, AV.ref 0 0), (2, bo false), (3, i6 (↑i0 : Int)), (48, bo b1), (49, i6 (↑i0 : Int)), (50, AV.ref 0 1), (51, lro (List.length (NSys.digits s)) 1 (List.map st (NSys.digits s))), (52, i6 (↑(List.length (NSys.digits s)) : Int)), (53, bo true), (56, AV.ref 0 1), (57, lro (List.length (NSys.digits s)) 1 (List.map st (NSys.digits s))), (58, i6 (↑i0 : Int)), (59, AV.eaddr rest), (60, st w), (61, bo false), (62, bo true)] [Ob.cells (sysC s)]))]) (by kernel_rfl) (And.intro h0 (And.intro h1 (And.intro h2 trivial)))
theorem rval_r0_f (s : NSys) (b1 : Bool) (X : Ext) (call : Caller) (lf : Nat) (i0 : Nat)
  (h0 : decide ((↑i0 : Int) < (↑(List.length (NSys.digits s)) : Int)) = false) : vexec Tryd.prog X call lf 0 fg14 (loopN Tryd.f14 0) (stOf 99 [2, 5, 6, 7, 8, 9, 10, 11, 12, 13, 14, 15, 16, 17, 18, 19, 20, 21, 22, 23, 24, 25, 26, 27, 28, 29, 30, 31, 32, 33, 34, 35, 36, 37, 38, 39, 40, 41, 42, 43, 44, 45, 46, 47, 49, 50, 51, 52, 53, 54, 55, 56, 57, 58, 59, 60, 61, 62] [(0, AV.agg (sysC s)), (1, AV.ref 0 0), (3, i6 (↑i0 : Int)), (48, bo b1)] [Ob.cells (sysC s)]) = some (Ex.exit 0, stOf 99 [2, 5, 6, 7, 8, 9, 10, 11, 12, 13, 14, 15, 16, 17, 18, 19, 20, 21, 22, 23, 24, 25, 26, 27, 28, 29, 30, 31, 32, 33, 34, 35, 36, 37, 38, 39, 40, 41, 42, 43, 44, 45, 46, 47, 54, 55, 56, 57, 58, 59, 60, 61, 62] [(0, AV.agg (sysC s)), (1, AV.ref 0 0), (3, i6 (↑i0 : Int)), (48, bo b1), (49, i6 (↑i0 : Int)), (50, AV.ref 0 1), (51, lro (List.length (NSys.digits s)) 1 (List.map st (NSys.digits s))), (52, i6 (↑(List.length (NSys.digits s)) : Int)), (53, bo false)] [Ob.cells (sysC s)]) :=
  around_sound (ans := [(5, Ans.b false)]) (by kernel_rfl) (And.intro h0 trivial)
theorem rval_r1_tt (s : NSys) (rest : List AV) (b1 : Bool) (w : ByteArray) (X : Ext) (call : Caller) (lf : Nat) (i0 : Nat) (i1 : Nat)
  (h0 : decide ((↑i1 : Int) < (↑(List.length (NSys.powers s)) : Int)) = true)
  (h1 : keep [Ob.cells (sysC s)] (indexAddrv Tryd.prog 22 [Ob.cells (sysC s)] (lro (List.length (NSys.powers s)) 1 (List.map st (NSys.powers s))) (i6 (↑i1 : Int))) = some (AV.eaddr rest, [Ob.cells (sysC s)]))
  (h2 : keep [Ob.cells (sysC s)] (loadv Tryd.prog 9 [Ob.cells (sysC s)] (AV.eaddr rest)) = some (st w, [Ob.cells (sysC s)]))
  (h3 : callv X call false 31 [st w] [Ob.cells (sysC s)] 0 = some (bo true, [Ob.cells (sysC s)])) : vexec Tryd.prog X call lf 0 fg14 (loopN Tryd.f14 1) (stOf 99 [2, 5, 6, 7, 8, 9, 10, 11, 12, 13, 14, 15, 16, 17, 18, 19, 20, 21, 22, 23, 24, 25, 26, 27, 28, 29, 30, 31, 32, 33, 34, 35, 36, 37, 38, 39, 40, 41, 42, 43, 44, 45, 46, 47, 54, 55, 56, 57, 58, 59, 60, 61, 62, 63, 64, 65, 66, 67, 68, 69, 70, 71, 72, 73, 74, 75, 76] [(0, AV.agg (sysC s)), (1, AV.ref 0 0), (3, i6 (↑i0 : Int)), (4, i6 (↑i1 : Int)), (48, bo b1), (49, i6 (↑i0 : Int)), (50, AV.ref 0 1), (51, lro (List.length (NSys.digits s)) 1 (List.map st (NSys.digits s))), (52, i6 (↑(List.length (NSys.digits s)) : Int)), (53, bo false)] [Ob.cells (sysC s)]) = some (Ex.normal, stOf 99 [2, 5, 6, 7, 8, 9, 10, 11, 12, 13, 14, 15, 16, 17, 18, 19, 20, 21, 22, 23, 24, 25, 26, 27, 28, 29, 30, 31, 32, 33, 34, 35, 36, 37, 38, 39, 40, 41, 42, 43, 44, 45, 46, 47, 54, 55, 56, 57, 58, 59, 60, 61, 62] [(0, AV.agg (sysC s)), (1, AV.ref 0 0), (3, i6 (↑i0 : Int)), (4, i6 (w6 ((↑i1 : Int) + 1))), (48, bo b1), (49, i6 (↑i0 : Int)), (50, AV.ref 0 1), (51, lro (List.length (NSys.digits s)) 1 (List.map st (NSys.digits s))), (52, i6 (↑(List.length (NSys.digits s)) : Int)), (53, bo false), (63, i6 (↑i1 : Int)), (64, AV.ref 0 2), (65, lro (List.length (NSys.powers s)) 1 (List.map st (NSys.powers s))), (66, i6 (↑(List.length (NSys.powers s)) : Int)), (67, bo true), (68, i6 (↑i1 : Int)), (69, i6 (w6 ((↑i1 : Int) + 1))), (70, AV.ref 0 2), (71, lro (List.length (NSys.powers s)) 1 (List.map st (NSys.powers s))), (72, i6 (↑i1 : Int)), (73, AV.eaddr rest), (74, st w), (75, bo true), (76, bo false)] [Ob.cells (sysC s)]) :=
  around_sound (ans := [(5, Ans.b true), (11, Ans.v (AV.eaddr rest)), (12, Ans.v (st w)), (13, Ans.v (bo true))]) (by kernel_rfl) (And.intro h0 (And.intro h1 (And.intro h2 (And.intro h3 trivial))))
theorem rval_r1_tf (s : NSys) (rest : List AV) (b1 : Bool) (w : ByteArray) (X : Ext) (call : Caller) (lf : Nat) (i0 : Nat) (i1 : Nat)
  (h0 : decide ((↑i1 : Int) < (↑(List.length (NSys.powers s)) : Int)) = true)
  (h1 : keep [Ob.cells (sysC s)] (indexAddrv Tryd.prog 22 [Ob.cells (sysC s)] (lro (List.length (NSys.powers s)) 1 (List.map st (NSys.powers s))) (i6 (↑i1 : Int))) = some (AV.eaddr rest, [Ob.cells (sysC s)]))
  (h2 : keep [Ob.cells (sysC s)] (loadv Tryd.prog 9 [Ob.cells (sysC s)] (AV.eaddr rest)) = some (st w, [Ob.cells (sysC s)]))
  (h3 : callv X call false 31 [st w] [Ob.cells (sysC s)] 0 = some (bo false, [Ob.cells (sysC s)])) : vexec Tryd.prog X call lf 0 fg14 (loopN Tryd.f14 1) (stOf 99 [2, 5, 6, 7, 8, 9, 10, 11, 12, 13, 14, 15, 16, 17, 18, 19, 20, 21, 22, 23, 24, 25, 26, 27, 28, 29, 30, 31, 32, 33, 34, 35, 36, 37, 38, 39, 40, 41, 42, 43, 44, 45, 46, 47, 54, 55, 56, 57, 58, 59, 60, 61, 62, 63, 64, 65, 66, 67, 68, 69, 70, 71, 72, 73, 74, 75, 76] [(0, AV.agg (sysC s)), (1, AV.ref 0 0), (3, i6 (↑i0 : Int)), (4, i6 (↑i1 : Int)), (48, bo b1), (49, i6 (↑i0 : Int)), (50, AV.ref 0 1), (51, lro (List.length (NSys.digits s)) 1 (List.map st (NSys.digits s))), (52, i6 (↑(List.length (NSys.digits s)) : Int)), (53, bo false)] [Ob.cells (sysC s)]) = some (Ex.ret, stOf 99 [5, 6, 7, 8, 9, 10, 11, 12, 13, 14, 15, 16, 17, 18, 19, 20, 21, 22, 23, 24, 25, 26, 27, 28, 29, 30, 31, 32, 33, 34, 35, 36, 37, 38, 39, 40, 41, 42, 43, 44, 45, 46, 47, 54, 55, 56, 57, 58, 59, 60, 61, 62, 68, 69] [(0, AV.agg (sysC s)), (1, AV.ref 0 0), (2, bo false), (3, i6 (↑i0 : Int)), (4, i6 (↑i1 : Int)), (48, bo b1), (49, i6 (↑i0 : Int)), (50, AV.ref 0 1), (51, lro (List.length (NSys.digits s)) 1 (List.map st (NSys.digits s))), (52, i6 (↑(List.length (NSys.digits s)) : Int)), (53, bo false), (63, i6 (↑i1 : Int)), (64, AV.ref 0 2), (65, lro (List.length (NSys.powers s)) 1 (List.map st (NSys.powers s))), (66, i6 (↑(List.length (NSys.powers s)) : Int)), (67, bo true), (70, AV.ref 0 2), (71, lro (List.length (NSys.powers s)) 1 (List.map st (NSys.powers s))), (72, i6 (↑i1 : Int)), (73, AV.eaddr rest), (74, st w), (75, bo false), (76, bo true)] [Ob.cells (sysC s)]) :=
  around_sound (ans := [(5, Ans.b true), (11, Ans.v (AV.eaddr rest)), (12, Ans.v (st w)), (13, Ans.v (bo false))]) (by kernel_rfl) (And.intro h0 (And.intro h1 (And.intro h2 (And.intro h3 trivial))))
theorem rval_pflfltf (s : NSys) (rest : List AV) (b1 : Bool) (w : ByteArray) (X : Ext) (call : Caller) (lf : Nat) (i0 : Nat) (i1 : Nat)
  (h0 : vexec Tryd.prog X call lf 0 fg14 (regN Tryd.f14 1) (stOf 99 [] [(0, AV.agg (sysC s)), (1, AV.ref 0 0), (2, bo false)] [Ob.cells (sysC s)]) = some (Ex.normal, stOf 99 [5, 6, 7, 8, 9, 10, 11, 12, 13, 14, 15, 16, 17, 18, 19, 20, 21, 22, 23, 24, 25, 26, 27, 28, 29, 30, 31, 32, 33, 34, 35, 36, 37, 38, 39, 40, 41, 42, 43, 44, 45, 46, 47] [(0, AV.agg (sysC s)), (1, AV.ref 0 0), (2, bo false), (48, bo b1)] [Ob.cells (sysC s)]))
  (h1 : b1 = false)
  (h2 : vexec Tryd.prog X call lf 0 fg14 (Code.loop (loopN Tryd.f14 0)) (stOf 99 [5, 6, 7, 8, 9, 10, 11, 12, 13, 14, 15, 16, 17, 18, 19, 20, 21, 22, 23, 24, 25, 26, 27, 28, 29, 30, 31, 32, 33, 34, 35, 36, 37, 38, 39, 40, 41, 42, 43, 44, 45, 46, 47] [(0, AV.agg (sysC s)), (1, AV.ref 0 0), (2, bo false), (3, i6 0), (48, bo b1)] [Ob.cells (sysC s)]) = some (Ex.exit 0, stOf 99 [2, 5, 6, 7, 8, 9, 10, 11, 12, 13, 14, 15, 16, 17, 18, 19, 20, 21, 22, 23, 24, 25, 26, 27, 28, 29, 30, 31, 32, 33, 34, 35, 36, 37, 38, 39, 40, 41, 42, 43, 44, 45, 46, 47, 54, 55, 56, 57, 58, 59, 60, 61, 62] [(0, AV.agg (sysC s)), (1, AV.ref 0 0), (3, i6 (↑i0 : Int)), (48, bo b1), (49, i6 (↑i0 : Int)), (50, AV.ref 0 1), (51, lro (List.length (NSys.digits s)) 1 (List.map st (NSys.digits s))), (52, i6 (↑(List.length (NSys.digits s)) : Int)), (53, bo false)] [Ob.cells (sysC s)]))
  (h3 : vexec Tryd.prog X call lf 0 fg14 (Code.loop (loopN Tryd.f14 1)) (stOf 99 [2, 5, 6, 7, 8, 9, 10, 11, 12, 13, 14, 15, 16, 17, 18, 19, 20, 21, 22, 23, 24, 25, 26, 27, 28, 29, 30, 31, 32, 33, 34, 35, 36, 37, 38, 39, 40, 41, 42, 43, 44, 45, 46, 47, 54, 55, 56, 57, 58, 59, 60, 61, 62] [(0, AV.agg (sysC s)), (1, AV.ref 0 0), (3, i6 (↑i0 : Int)), (4, i6 0), (48, bo b1), (49, i6 (↑i0 : Int)), (50, AV.ref 0 1), (51, lro (List.length (NSys.digits s)) 1 (List.map st (NSys.digits s))), (52, i6 (↑(List.length (NSys.digits s)) : Int)), (53, bo false)] [Ob.cells (sysC s)]) = some (Ex.ret, stOf 99 [5, 6, 7, 8, 9, 10, 11, 12, 13, 14, 15, 16, 17, 18, 19, 20, 21, 22, 23, 24, 25, 26, 27, 28, 29, 30, 31, 32, 33, 34, 35, 36, 37, 38, 39, 40, 41, 42, 43, 44, 45, 46, 47, 54, 55, 56, 57, 58, 59, 60, 61, 62, 68, 69] [(0, AV.agg (sysC s)), (1, AV.ref 0 0), (2, bo false), (3, i6 (↑i0 : Int)), (4, i6 (↑i1 : Int)), (48, bo b1), (49, i6 (↑i0 : Int)), (50, AV.ref 0 1), (51, lro (List.length (NSys.digits s)) 1 (List.map st (NSys.digits s))), (52, i6 (↑(List.length (NSys.digits s)) : Int)), (53, bo false), (63, i6 (↑i1 : Int)), (64, AV.ref 0 2), (65, lro (List.length (NSys.powers s)) 1 (List.map st (NSys.powers s))), (66, i6 (↑(List.length (NSys.powers s)) : Int)), (67, bo true), (70, AV.ref 0 2), (71, lro (List.length (NSys.powers s)) 1 (List.map st (NSys.powers s))), (72, i6 (↑i1 : Int)), (73, AV.eaddr rest), (74, st w), (75, bo false), (76, bo true)] [Ob.cells (sysC s)])) : vbody Tryd.prog X call lf fg14 Tryd.f14 (codeOf Tryd.f14) [AV.agg (sysC s)] [] 0 = some (bo false, [Ob.cells (sysC s)]) :=
  along_sound (ans := [(3, Ans.l Ex.normal (stOf 99 [5, 6, 7, 8, 9, 10, 11, 12, 13, 14, 15, 16, 17, 18, 19, 20, 21, 22, 23, 24, 25, 26, 27, 28, 29, 30, 31, 32, 33, 34, 35, 36, 37, 38, 39, 40, 41, 42, 43, 44, 45, 46, 47] [(0, AV.agg (sysC s)), (1, AV.ref 0 0), (2, bo false), (48, bo b1)] [Ob.cells (sysC s)])), (4, Ans.b false), (7, Ans.l (Ex.exit 0) (stOf 99 [2, 5, 6, 7, 8, 9, 10, 11, 12, 13, 14, 15, 16, 17, 18, 19, 20, 21, 22, 23, 24, 25, 26, 27, 28, 29, 30, 31, 32, 33, 34, 35, 36, 37, 38, 39, 40, 41, 42, 43, 44, 45, 46, 47, 54, 55, 56, 57, 58, 59, 60, 61, 62] [(0, AV.agg (sysC s)), (1, AV.ref 0 0), (3, i6 (↑i0 : Int)), (48, bo b1), (49, i6 (↑i0 : Int)), (50, AV.ref 0 1), (51, lro (List.length (NSys.digits s)) 1 (List.map st (NSys.digits s))), (52, i6 (↑(List.length (NSys.digits s)) : Int)), (53, bo false)] [Ob.cells (sysC s)])), (10, Ans.l Ex.ret (stOf 99 [5, 6, 7, 8, 9, 10, 11, 12, 13, 14, 15, 16, 17, 18, 19, 20, 21, 22, 23, 24, 25, 26, 27, 28, 29, 30, 31, 32, 33, 34, 35, 36, 37, 38, 39, 40, 41, 42, 43, 44, 45, 46, 47, 54, 55, 56, 57, 58, 59, 60, 61, 62, 68, 69] [(0, AV.agg (sysC s)), (1, AV.ref 0 0), (2, bo false), (3, i6 (↑i0 : Int)), (4, i6 (↑i1 : Int)), (48, bo b1), (49, i6 (↑i0 : Int)), (50, AV.ref 0 1), (51, lro (List.length (NSys.digits s)) 1 (List.map st (NSys.digits s))), (52, i6 (↑(List.length (NSys.digits s)) : Int)), (53, bo false), (63, i6 (↑i1 : Int)), (64, AV.ref 0 2), (65, lro (List.length (NSys.powers s)) 1 (List.map st (NSys.powers s))), (66, i6 (↑(List.length (NSys.powers s)) : Int)), (67, bo true), (70, AV.ref 0 2), (71, lro (List.length (NSys.powers s)) 1 (List.map st (NSys.powers s))), (72, i6 (↑i1 : Int)), (73, AV.eaddr rest), (74, st w), (75, bo false), (76, bo true)] [Ob.cells (sysC s)]))]) (by kernel_rfl) (And.intro h0 (And.intro h1 (And.intro h2 (And.intro h3 trivial))))
theorem rval_r1_f (s : NSys) (b1 : Bool) (X : Ext) (call : Caller) (lf : Nat) (i0 : Nat) (i1 : Nat)
  (h0 : decide ((↑i1 : Int) < (↑(List.length (NSys.powers s)) : Int)) = false) : vexec Tryd.prog X call lf 0 fg14 (loopN Tryd.f14 1) (stOf 99 [2, 5, 6, 7, 8, 9, 10, 11, 12, 13, 14, 15, 16, 17, 18, 19, 20, 21, 22, 23, 24, 25, 26, 27, 28, 29, 30, 31, 32, 33, 34, 35, 36, 37, 38, 39, 40, 41, 42, 43, 44, 45, 46, 47, 54, 55, 56, 57, 58, 59, 60, 61, 62, 63, 64, 65, 66, 67, 68, 69, 70, 71, 72, 73, 74, 75, 76] [(0, AV.agg (sysC s)), (1, AV.ref 0 0), (3, i6 (↑i0 : Int)), (4, i6 (↑i1 : Int)), (48, bo b1), (49, i6 (↑i0 : Int)), (50, AV.ref 0 1), (51, lro (List.length (NSys.digits s)) 1 (List.map st (NSys.digits s))), (52, i6 (↑(List.length (NSys.digits s)) : Int)), (53, bo false)] [Ob.cells (sysC s)]) = some (Ex.exit 2, stOf 99 [2, 5, 6, 7, 8, 9, 10, 11, 12, 13, 14, 15, 16, 17, 18, 19, 20, 21, 22, 23, 24, 25, 26, 27, 28, 29, 30, 31, 32, 33, 34, 35, 36, 37, 38, 39, 40, 41, 42, 43, 44, 45, 46, 47, 54, 55, 56, 57, 58, 59, 60, 61, 62, 68, 69, 70, 71, 72, 73, 74, 75, 76] [(0, AV.agg (sysC s)), (1, AV.ref 0 0), (3, i6 (↑i0 : Int)), (4, i6 (↑i1 : Int)), (48, bo b1), (49, i6 (↑i0 : Int)), (50, AV.ref 0 1), (51, lro (List.length (NSys.digits s)) 1 (List.map st (NSys.digits s))), (52, i6 (↑(List.length (NSys.digits s)) : Int)), (53, bo false), (63, i6 (↑i1 : Int)), (64, AV.ref 0 2), (65, lro (List.length (NSys.powers s)) 1 (List.map st (NSys.powers s))), (66, i6 (↑(List.length (NSys.powers s)) : Int)), (67, bo false)] [Ob.cells (sysC s)]) :=
  around_sound (ans := [(5, Ans.b false)]) (by kernel_rfl) (And.intro h0 trivial)
theorem rval_g13_ttt (s : NSys) (b1 : Bool) (X : Ext) (call : Caller) (lf : Nat) (i0 : Nat) (i1 : Nat)
  (h0 : decide (NSys.sub s ≥ 0) = true)
  (h1 : decide (NSys.sub s ≤ w6 (w6 (Int.tdiv (NSys.base s) 2) - 1)) = true)
  (h2 : (NSys.sub s == 0) = true) : vexec Tryd.prog X call lf 0 fg14 (regN Tryd.f14 13) (stOf 99 [2, 5, 6, 7, 8, 9, 10, 11, 12, 13, 14, 15, 16, 17, 18, 19, 20, 21, 22, 23, 24, 25, 26, 27, 28, 29, 30, 31, 32, 33, 34, 35, 36, 37, 38, 39, 40, 41, 42, 43, 44, 45, 46, 47, 54, 55, 56, 57, 58, 59, 60, 61, 62, 68, 69, 70, 71, 72, 73, 74, 75, 76] [(0, AV.agg (sysC s)), (1, AV.ref 0 0), (3, i6 (↑i0 : Int)), (4, i6 (↑i1 : Int)), (48, bo b1), (49, i6 (↑i0 : Int)), (50, AV.ref 0 1), (51, lro (List.length (NSys.digits s)) 1 (List.map st (NSys.digits s))), (52, i6 (↑(List.length (NSys.digits s)) : Int)), (53, bo false), (63, i6 (↑i1 : Int)), (64, AV.ref 0 2), (65, lro (List.length (NSys.powers s)) 1 (List.map st (NSys.powers s))), (66, i6 (↑(List.length (NSys.powers s)) : Int)), (67, bo false)] [Ob.cells (sysC s)]) = some (Ex.normal, stOf 99 [5, 6, 7, 8, 9, 10, 11, 12, 13, 14, 15, 16, 17, 18, 19, 20, 21, 22, 23, 24, 25, 26, 27, 28, 29, 30, 31, 32, 33, 34, 35, 36, 37, 38, 39, 40, 41, 42, 43, 44, 45, 46, 47, 54, 55, 56, 57, 58, 59, 60, 61, 62, 68, 69, 70, 71, 72, 73, 74, 75, 76, 77, 78, 79, 80, 81, 82, 83, 84, 85, 86, 87, 88, 89, 90, 91, 92, 93, 94, 95, 96, 97, 98] [(0, AV.agg (sysC s)), (1, AV.ref 0 0), (2, bo true), (3, i6 (↑i0 : Int)), (4, i6 (↑i1 : Int)), (48, bo b1), (49, i6 (↑i0 : Int)), (50, AV.ref 0 1), (51, lro (List.length (NSys.digits s)) 1 (List.map st (NSys.digits s))), (52, i6 (↑(List.length (NSys.digits s)) : Int)), (53, bo false), (63, i6 (↑i1 : Int)), (64, AV.ref 0 2), (65, lro (List.length (NSys.powers s)) 1 (List.map st (NSys.powers s))), (66, i6 (↑(List.length (NSys.powers s)) : Int)), (67, bo false)] [Ob.cells (sysC s)]) :=
  around_sound (ans := [(3, Ans.b true), (18, Ans.b true), (26, Ans.b true)]) (by kernel_rfl) (And.intro h0 (And.intro h1 (And.intro h2 trivial)))
theorem rval_g13_ttft (s : NSys) (b1 : Bool) (X : Ext) (call : Caller) (lf : Nat) (i0 : Nat) (i1 : Nat)
  (h0 : decide (NSys.sub s ≥ 0) = true)
  (h1 : decide (NSys.sub s ≤ w6 (w6 (Int.tdiv (NSys.base s) 2) - 1)) = true)
  (h2 : (NSys.sub s == 0) = false)
  (h3 : (!empB (NSys.le s)) = true) : vexec Tryd.prog X call lf 0 fg14 (regN Tryd.f14 13) (stOf 99 [2, 5, 6, 7, 8, 9, 10, 11, 12, 13, 14, 15, 16, 17, 18, 19, 20, 21, 22, 23, 24, 25, 26, 27, 28, 29, 30, 31, 32, 33, 34, 35, 36, 37, 38, 39, 40, 41, 42, 43, 44, 45, 46, 47, 54, 55, 56, 57, 58, 59, 60, 61, 62, 68, 69, 70, 71, 72, 73, 74, 75, 76] [(0, AV.agg (sysC s)), (1, AV.ref 0 0), (3, i6 (↑i0 : Int)), (4, i6 (↑i1 : Int)), (48, bo b1), (49, i6 (↑i0 : Int)), (50, AV.ref 0 1), (51, lro (List.length (NSys.digits s)) 1 (List.map st (NSys.digits s))), (52, i6 (↑(List.length (NSys.digits s)) : Int)), (53, bo false), (63, i6 (↑i1 : Int)), (64, AV.ref 0 2), (65, lro (List.length (NSys.powers s)) 1 (List.map st (NSys.powers s))), (66, i6 (↑(List.length (NSys.powers s)) : Int)), (67, bo false)] [Ob.cells (sysC s)]) = some (Ex.normal, stOf 99 [5, 6, 7, 8, 9, 10, 11, 12, 13, 14, 15, 16, 17, 18, 19, 20, 21, 22, 23, 24, 25, 26, 27, 28, 29, 30, 31, 32, 33, 34, 35, 36, 37, 38, 39, 40, 41, 42, 43, 44, 45, 46, 47, 54, 55, 56, 57, 58, 59, 60, 61, 62, 68, 69, 70, 71, 72, 73, 74, 75, 76, 77, 78, 79, 80, 81, 82, 83, 84, 85, 86, 87, 88, 89, 90, 91, 92, 93, 94, 95, 96, 97, 98] [(0, AV.agg (sysC s)), (1, AV.ref 0 0), (2, bo true), (3, i6 (↑i0 : Int)), (4, i6 (↑i1 : Int)), (48, bo b1), (49, i6 (↑i0 : Int)), (50, AV.ref 0 1), (51, lro (List.length (NSys.digits s)) 1 (List.map st (NSys.digits s))), (52, i6 (↑(List.length (NSys.digits s)) : Int)), (53, bo false), (63, i6 (↑i1 : Int)), (64, AV.ref 0 2), (65, lro (List.length (NSys.powers s)) 1 (List.map st (NSys.powers s))), (66, i6 (↑(List.length (NSys.powers s)) : Int)), (67, bo false)] [Ob.cells (sysC s)]) :=
  around_sound (ans := [(3, Ans.b true), (18, Ans.b true), (26, Ans.b false), (34, Ans.b true)]) (by kernel_rfl) (And.intro h0 (And.intro h1 (And.intro h2 (And.intro h3 trivial))))
theorem rval_g13_ttff (s : NSys) (b1 : Bool) (X : Ext) (call : Caller) (lf : Nat) (i0 : Nat) (i1 : Nat)
  (h0 : decide (NSys.sub s ≥ 0) = true)
  (h1 : decide (NSys.sub s ≤ w6 (w6 (Int.tdiv (NSys.base s) 2) - 1)) = true)
  (h2 : (NSys.sub s == 0) = false)
  (h3 : (!empB (NSys.le s)) = false) : vexec Tryd.prog X call lf 0 fg14 (regN Tryd.f14 13) (stOf 99 [2, 5, 6, 7, 8, 9, 10, 11, 12, 13, 14, 15, 16, 17, 18, 19, 20, 21, 22, 23, 24, 25, 26, 27, 28, 29, 30, 31, 32, 33, 34, 35, 36, 37, 38, 39, 40, 41, 42, 43, 44, 45, 46, 47, 54, 55, 56, 57, 58, 59, 60, 61, 62, 68, 69, 70, 71, 72, 73, 74, 75, 76] [(0, AV.agg (sysC s)), (1, AV.ref 0 0), (3, i6 (↑i0 : Int)), (4, i6 (↑i1 : Int)), (48, bo b1), (49, i6 (↑i0 : Int)), (50, AV.ref 0 1), (51, lro (List.length (NSys.digits s)) 1 (List.map st (NSys.digits s))), (52, i6 (↑(List.length (NSys.digits s)) : Int)), (53, bo false), (63, i6 (↑i1 : Int)), (64, AV.ref 0 2), (65, lro (List.length (NSys.powers s)) 1 (List.map st (NSys.powers s))), (66, i6 (↑(List.length (NSys.powers s)) : Int)), (67, bo false)] [Ob.cells (sysC s)]) = some (Ex.normal, stOf 99 [5, 6, 7, 8, 9, 10, 11, 12, 13, 14, 15, 16, 17, 18, 19, 20, 21, 22, 23, 24, 25, 26, 27, 28, 29, 30, 31, 32, 33, 34, 35, 36, 37, 38, 39, 40, 41, 42, 43, 44, 45, 46, 47, 54, 55, 56, 57, 58, 59, 60, 61, 62, 68, 69, 70, 71, 72, 73, 74, 75, 76, 77, 78, 79, 80, 81, 82, 83, 84, 85, 86, 87, 88, 89, 90, 91, 92, 93, 94, 95, 96, 97, 98] [(0, AV.agg (sysC s)), (1, AV.ref 0 0), (2, bo false), (3, i6 (↑i0 : Int)), (4, i6 (↑i1 : Int)), (48, bo b1), (49, i6 (↑i0 : Int)), (50, AV.ref 0 1), (51, lro (List.length (NSys.digits s)) 1 (List.map st (NSys.digits s))), (52, i6 (↑(List.length (NSys.digits s)) : Int)), (53, bo false), (63, i6 (↑i1 : Int)), (64, AV.ref 0 2), (65, lro (List.length (NSys.powers s)) 1 (List.map st (NSys.powers s))), (66, i6 (↑(List.length (NSys.powers s)) : Int)), (67, bo false)] [Ob.cells (sysC s)]) :=
  around_sound (ans := [(3, Ans.b true), (18, Ans.b true), (26, Ans.b false), (34, Ans.b false)]) (by kernel_rfl) (And.intro h0 (And.intro h1 (And.intro h2 (And.intro h3 trivial))))
theorem rval_g13_tf (s : NSys) (b1 : Bool) (X : Ext) (call : Caller) (lf : Nat) (i0 : Nat) (i1 : Nat)
  (h0 : decide (NSys.sub s ≥ 0) = true)
  (h1 : decide (NSys.sub s ≤ w6 (w6 (Int.tdiv (NSys.base s) 2) - 1)) = false) : vexec Tryd.prog X call lf 0 fg14 (regN Tryd.f14 13) (stOf 99 [2, 5, 6, 7, 8, 9, 10, 11, 12, 13, 14, 15, 16, 17, 18, 19, 20, 21, 22, 23, 24, 25, 26, 27, 28, 29, 30, 31, 32, 33, 34, 35, 36, 37, 38, 39, 40, 41, 42, 43, 44, 45, 46, 47, 54, 55, 56, 57, 58, 59, 60, 61, 62, 68, 69, 70, 71, 72, 73, 74, 75, 76] [(0, AV.agg (sysC s)), (1, AV.ref 0 0), (3, i6 (↑i0 : Int)), (4, i6 (↑i1 : Int)), (48, bo b1), (49, i6 (↑i0 : Int)), (50, AV.ref 0 1), (51, lro (List.length (NSys.digits s)) 1 (List.map st (NSys.digits s))), (52, i6 (↑(List.length (NSys.digits s)) : Int)), (53, bo false), (63, i6 (↑i1 : Int)), (64, AV.ref 0 2), (65, lro (List.length (NSys.powers s)) 1 (List.map st (NSys.powers s))), (66, i6 (↑(List.length (NSys.powers s)) : Int)), (67, bo false)] [Ob.cells (sysC s)]) = some (Ex.normal, stOf 99 [5, 6, 7, 8, 9, 10, 11, 12, 13, 14, 15, 16, 17, 18, 19, 20, 21, 22, 23, 24, 25, 26, 27, 28, 29, 30, 31, 32, 33, 34, 35, 36, 37, 38, 39, 40, 41, 42, 43, 44, 45, 46, 47, 54, 55, 56, 57, 58, 59, 60, 61, 62, 68, 69, 70, 71, 72, 73, 74, 75, 76, 77, 78, 79, 80, 81, 82, 83, 84, 85, 86, 87, 88, 89, 90, 91, 92, 93, 94, 95, 96, 97, 98] [(0, AV.agg (sysC s)), (1, AV.ref 0 0), (2, bo false), (3, i6 (↑i0 : Int)), (4, i6 (↑i1 : Int)), (48, bo b1), (49, i6 (↑i0 : Int)), (50, AV.ref 0 1), (51, lro (List.length (NSys.digits s)) 1 (List.map st (NSys.digits s))), (52, i6 (↑(List.length (NSys.digits s)) : Int)), (53, bo false), (63, i6 (↑i1 : Int)), (64, AV.ref 0 2), (65, lro (List.length (NSys.powers s)) 1 (List.map st (NSys.powers s))), (66, i6 (↑(List.length (NSys.powers s)) : Int)), (67, bo false)] [Ob.cells (sysC s)]) :=
  around_sound (ans := [(3, Ans.b true), (18, Ans.b false)]) (by kernel_rfl) (And.intro h0 (And.intro h1 trivial))
theorem rval_g13_f (s : NSys) (b1 : Bool) (X : Ext) (call : Caller) (lf : Nat) (i0 : Nat) (i1 : Nat)
  (h0 : decide (NSys.sub s ≥ 0) = false) : vexec Tryd.prog X call lf 0 fg14 (regN Tryd.f14 13) (stOf 99 [2, 5, 6, 7, 8, 9, 10, 11, 12, 13, 14, 15, 16, 17, 18, 19, 20, 21, 22, 23, 24, 25, 26, 27, 28, 29, 30, 31, 32, 33, 34, 35, 36, 37, 38, 39, 40, 41, 42, 43, 44, 45, 46, 47, 54, 55, 56, 57, 58, 59, 60, 61, 62, 68, 69, 70, 71, 72, 73, 74, 75, 76] [(0, AV.agg (sysC s)), (1, AV.ref 0 0), (3, i6 (↑i0 : Int)), (4, i6 (↑i1 : Int)), (48, bo b1), (49, i6 (↑i0 : Int)), (50, AV.ref 0 1), (51, lro (List.length (NSys.digits s)) 1 (List.map st (NSys.digits s))), (52, i6 (↑(List.length (NSys.digits s)) : Int)), (53, bo false), (63, i6 (↑i1 : Int)), (64, AV.ref 0 2), (65, lro (List.length (NSys.powers s)) 1 (List.map st (NSys.powers s))), (66, i6 (↑(List.length (NSys.powers s)) : Int)), (67, bo false)] [Ob.cells (sysC s)]) = some (Ex.normal, stOf 99 [5, 6, 7, 8, 9, 10, 11, 12, 13, 14, 15, 16, 17, 18, 19, 20, 21, 22, 23, 24, 25, 26, 27, 28, 29, 30, 31, 32, 33, 34, 35, 36, 37, 38, 39, 40, 41, 42, 43, 44, 45, 46, 47, 54, 55, 56, 57, 58, 59, 60, 61, 62, 68, 69, 70, 71, 72, 73, 74, 75, 76, 77, 78, 79, 80, 81, 82, 83, 84, 85, 86, 87, 88, 89, 90, 91, 92, 93, 94, 95, 96, 97, 98] [(0, AV.agg (sysC s)), (1, AV.ref 0 0), (2, bo false), (3, i6 (↑i0 : Int)), (4, i6 (↑i1 : Int)), (48, bo b1), (49, i6 (↑i0 : Int)), (50, AV.ref 0 1), (51, lro (List.length (NSys.digits s)) 1 (List.map st (NSys.digits s))), (52, i6 (↑(List.length (NSys.digits s)) : Int)), (53, bo false), (63, i6 (↑i1 : Int)), (64, AV.ref 0 2), (65, lro (List.length (NSys.powers s)) 1 (List.map st (NSys.powers s))), (66, i6 (↑(List.length (NSys.powers s)) : Int)), (67, bo false)] [Ob.cells (sysC s)]) :=
  around_sound (ans := [(3, Ans.b false)]) (by kernel_rfl) (And.intro h0 trivial)
theorem rval_pflflf (s : NSys) (b1 : Bool) (b3 : Bool) (X : Ext) (call : Caller) (lf : Nat) (i0 : Nat) (i1 : Nat)
  (h0 : vexec Tryd.prog X call lf 0 fg14 (regN Tryd.f14 1) (stOf 99 [] [(0, AV.agg (sysC s)), (1, AV.ref 0 0), (2, bo false)] [Ob.cells (sysC s)]) = some (Ex.normal, stOf 99 [5, 6, 7, 8, 9, 10, 11, 12, 13, 14, 15, 16, 17, 18, 19, 20, 21, 22, 23, 24, 25, 26, 27, 28, 29, 30, 31, 32, 33, 34, 35, 36, 37, 38, 39, 40, 41, 42, 43, 44, 45, 46, 47] [(0, AV.agg (sysC s)), (1, AV.ref 0 0), (2, bo false), (48, bo b1)] [Ob.cells (sysC s)]))
  (h1 : b1 = false)
  (h2 : vexec Tryd.prog X call lf 0 fg14 (Code.loop (loopN Tryd.f14 0)) (stOf 99 [5, 6, 7, 8, 9, 10, 11, 12, 13, 14, 15, 16, 17, 18, 19, 20, 21, 22, 23, 24, 25, 26, 27, 28, 29, 30, 31, 32, 33, 34, 35, 36, 37, 38, 39, 40, 41, 42, 43, 44, 45, 46, 47] [(0, AV.agg (sysC s)), (1, AV.ref 0 0), (2, bo false), (3, i6 0), (48, bo b1)] [Ob.cells (sysC s)]) = some (Ex.exit 0, stOf 99 [2, 5, 6, 7, 8, 9, 10, 11, 12, 13, 14, 15, 16, 17, 18, 19, 20, 21, 22, 23, 24, 25, 26, 27, 28, 29, 30, 31, 32, 33, 34, 35, 36, 37, 38, 39, 40, 41, 42, 43, 44, 45, 46, 47, 54, 55, 56, 57, 58, 59, 60, 61, 62] [(0, AV.agg (sysC s)), (1, AV.ref 0 0), (3, i6 (↑i0 : Int)), (48, bo b1), (49, i6 (↑i0 : Int)), (50, AV.ref 0 1), (51, lro (List.length (NSys.digits s)) 1 (List.map st (NSys.digits s))), (52, i6 (↑(List.length (NSys.digits s)) : Int)), (53, bo false)] [Ob.cells (sysC s)]))
  (h3 : vexec Tryd.prog X call lf 0 fg14 (Code.loop (loopN Tryd.f14 1)) (stOf 99 [2, 5, 6, 7, 8, 9, 10, 11, 12, 13, 14, 15, 16, 17, 18, 19, 20, 21, 22, 23, 24, 25, 26, 27, 28, 29, 30, 31, 32, 33, 34, 35, 36, 37, 38, 39, 40, 41, 42, 43, 44, 45, 46, 47, 54, 55, 56, 57, 58, 59, 60, 61, 62] [(0, AV.agg (sysC s)), (1, AV.ref 0 0), (3, i6 (↑i0 : Int)), (4, i6 0), (48, bo b1), (49, i6 (↑i0 : Int)), (50, AV.ref 0 1), (51, lro (List.length (NSys.digits s)) 1 (List.map st (NSys.digits s))), (52, i6 (↑(List.length (NSys.digits s)) : Int)), (53, bo false)] [Ob.cells (sysC s)]) = some (Ex.exit 2, stOf 99 [2, 5, 6, 7, 8, 9, 10, 11, 12, 13, 14, 15, 16, 17, 18, 19, 20, 21, 22, 23, 24, 25, 26, 27, 28, 29, 30, 31, 32, 33, 34, 35, 36, 37, 38, 39, 40, 41, 42, 43, 44, 45, 46, 47, 54, 55, 56, 57, 58, 59, 60, 61, 62, 68, 69, 70, 71, 72, 73, 74, 75, 76] [(0, AV.agg (sysC s)), (1, AV.ref 0 0), (3, i6 (↑i0 : Int)), (4, i6 (↑i1 : Int)), (48, bo b1), (49, i6 (↑i0 : Int)), (50, AV.ref 0 1), (51, lro (List.length (NSys.digits s)) 1 (List.map st (NSys.digits s))), (52, i6 (↑(List.length (NSys.digits s)) : Int)), (53, bo false), (63, i6 (↑i1 : Int)), (64, AV.ref 0 2), (65, lro (List.length (NSys.powers s)) 1 (List.map st (NSys.powers s))), (66, i6 (↑(List.length (NSys.powers s)) : Int)), (67, bo false)] [Ob.cells (sysC s)]))
  (h4 : vexec Tryd.prog X call lf 0 fg14 (regN Tryd.f14 13) (stOf 99 [2, 5, 6, 7, 8, 9, 10, 11, 12, 13, 14, 15, 16, 17, 18, 19, 20, 21, 22, 23, 24, 25, 26, 27, 28, 29, 30, 31, 32, 33, 34, 35, 36, 37, 38, 39, 40, 41, 42, 43, 44, 45, 46, 47, 54, 55, 56, 57, 58, 59, 60, 61, 62, 68, 69, 70, 71, 72, 73, 74, 75, 76] [(0, AV.agg (sysC s)), (1, AV.ref 0 0), (3, i6 (↑i0 : Int)), (4, i6 (↑i1 : Int)), (48, bo b1), (49, i6 (↑i0 : Int)), (50, AV.ref 0 1), (51, lro (List.length (NSys.digits s)) 1 (List.map st (NSys.digits s))), (52, i6 (↑(List.length (NSys.digits s)) : Int)), (53, bo false), (63, i6 (↑i1 : Int)), (64, AV.ref 0 2), (65, lro (List.length (NSys.powers s)) 1 (List.map st (NSys.powers s))), (66, i6 (↑(List.length (NSys.powers s)) : Int)), (67, bo false)] [Ob.cells (sysC s)]) = some (Ex.normal, stOf 99 [5, 6, 7, 8, 9, 10, 11, 12, 13, 14, 15, 16, 17, 18, 19, 20, 21, 22, 23, 24, 25, 26, 27, 28, 29, 30, 31, 32, 33, 34, 35, 36, 37, 38, 39, 40, 41, 42, 43, 44, 45, 46, 47, 54, 55, 56, 57, 58, 59, 60, 61, 62, 68, 69, 70, 71, 72, 73, 74, 75, 76, 77, 78, 79, 80, 81, 82, 83, 84, 85, 86, 87, 88, 89, 90, 91, 92, 93, 94, 95, 96, 97, 98] [(0, AV.agg (sysC s)), (1, AV.ref 0 0), (2, bo b3), (3, i6 (↑i0 : Int)), (4, i6 (↑i1 : Int)), (48, bo b1), (49, i6 (↑i0 : Int)), (50, AV.ref 0 1), (51, lro (List.length (NSys.digits s)) 1 (List.map st (NSys.digits s))), (52, i6 (↑(List.length (NSys.digits s)) : Int)), (53, bo false), (63, i6 (↑i1 : Int)), (64, AV.ref 0 2), (65, lro (List.length (NSys.powers s)) 1 (List.map st (NSys.powers s))), (66, i6 (↑(List.length (NSys.powers s)) : Int)), (67, bo false)] [Ob.cells (sysC s)])) : vbody Tryd.prog X call lf fg14 Tryd.f14 (codeOf Tryd.f14) [AV.agg (sysC s)] [] 0 = some (bo b3, [Ob.cells (sysC s)]) :=
  along_sound (ans := [(3, Ans.l Ex.normal (stOf 99 [5, 6, 7, 8, 9, 10, 11, 12, 13, 14, 15, 16, 17, 18, 19, 20, 21, 22, 23, 24, 25, 26, 27, 28, 29, 30, 31, 32, 33, 34, 35, 36, 37, 38, 39, 40, 41, 42, 43, 44, 45, 46, 47] [(0, AV.agg (sysC s)), (1, AV.ref 0 0), (2, bo false), (48, bo b1)] [Ob.cells (sysC s)])), (4, Ans.b false), (7, Ans.l (Ex.exit 0) (stOf 99 [2, 5, 6, 7, 8, 9, 10, 11, 12, 13, 14, 15, 16, 17, 18, 19, 20, 21, 22, 23, 24, 25, 26, 27, 28, 29, 30, 31, 32, 33, 34, 35, 36, 37, 38, 39, 40, 41, 42, 43, 44, 45, 46, 47, 54, 55, 56, 57, 58, 59, 60, 61, 62] [(0, AV.agg (sysC s)), (1, AV.ref 0 0), (3, i6 (↑i0 : Int)), (48, bo b1), (49, i6 (↑i0 : Int)), (50, AV.ref 0 1), (51, lro (List.length (NSys.digits s)) 1 (List.map st (NSys.digits s))), (52, i6 (↑(List.length (NSys.digits s)) : Int)), (53, bo false)] [Ob.cells (sysC s)])), (10, Ans.l (Ex.exit 2) (stOf 99 [2, 5, 6, 7, 8, 9, 10, 11, 12, 13, 14, 15, 16, 17, 18, 19, 20, 21, 22, 23, 24, 25, 26, 27, 28, 29, 30, 31, 32, 33, 34, 35, 36, 37, 38, 39, 40, 41, 42, 43, 44, 45, 46, 47, 54, 55, 56, 57, 58, 59, 60, 61, 62, 68, 69, 70, 71, 72, 73, 74, 75, 76] [(0, AV.agg (sysC s)), (1, AV.ref 0 0), (3, i6 (↑i0 : Int)), (4, i6 (↑i1 : Int)), (48, bo b1), (49, i6 (↑i0 : Int)), (50, AV.ref 0 1), (51, lro (List.length (NSys.digits s)) 1 (List.map st (NSys.digits s))), (52, i6 (↑(List.length (NSys.digits s)) : Int)), (53, bo false), (63, i6 (↑i1 : Int)), (64, AV.ref 0 2), (65, lro (List.length (NSys.powers s)) 1 (List.map st (NSys.powers s))), (66, i6 (↑(List.length (NSys.powers s)) : Int)), (67, bo false)] [Ob.cells (sysC s)])), (11, Ans.l Ex.normal (stOf 99 [5, 6, 7, 8, 9, 10, 11, 12, 13, 14, 15, 16, 17, 18, 19, 20, 21, 22, 23, 24, 25, 26, 27, 28, 29, 30, 31, 32, 33, 34, 35, 36, 37, 38, 39, 40, 41, 42, 43, 44, 45, 46, 47, 54, 55, 56, 57, 58, 59, 60, 61, 62, 68, 69, 70, 71, 72, 73, 74, 75, 76, 77, 78, 79, 80, 81, 82, 83, 84, 85, 86, 87, 88, 89, 90, 91, 92, 93, 94, 95, 96, 97, 98] [(0, AV.agg (sysC s)), (1, AV.ref 0 0), (2, bo b3), (3, i6 (↑i0 : Int)), (4, i6 (↑i1 : Int)), (48, bo b1), (49, i6 (↑i0 : Int)), (50, AV.ref 0 1), (51, lro (List.length (NSys.digits s)) 1 (List.map st (NSys.digits s))), (52, i6 (↑(List.length (NSys.digits s)) : Int)), (53, bo false), (63, i6 (↑i1 : Int)), (64, AV.ref 0 2), (65, lro (List.length (NSys.powers s)) 1 (List.map st (NSys.powers s))), (66, i6 (↑(List.length (NSys.powers s)) : Int)), (67, bo false)] [Ob.cells (sysC s)]))]) (by kernel_rfl) (And.intro h0 (And.intro h1 (And.intro h2 (And.intro h3 (And.intro h4 trivial)))))


def RTokCall (X : Ext) (call : Caller) (σ : List Ob) (w : ByteArray) : Prop := callv X call false 31 [st w] σ 0 = some (bo (tokB w), σ)
def rgood3 (s : NSys) : Bool := decide (s.sub ≥ 0) && (decide (s.sub ≤ w6 (w6 (s.base.tdiv 2) - 1)) && (s.sub == 0 || !empB s.le))
abbrev F14a : List Nat := [5, 6, 7, 8, 9, 10, 11, 12, 13, 14, 15, 16, 17, 18, 19, 20, 21, 22, 23, 24, 25, 26, 27, 28, 29, 30, 31, 32, 33, 34, 35, 36, 37, 38, 39, 40, 41, 42, 43, 44, 45, 46, 47]
theorem rg1_spec (s : NSys) (X : Ext) (call : Caller) (lf : Nat) (hj : RTokCall X call [Ob.cells (sysC s)] s.jo) (hl : RTokCall X call [Ob.cells (sysC s)] s.le) :
    vexec Tryd.prog X call lf 0 fg14 (regN Tryd.f14 1) (stOf 99 [] [(0, AV.agg (sysC s)), (1, AV.ref 0 0), (2, bo false)] [Ob.cells (sysC s)]) =
      some (Ex.normal, stOf 99 F14a [(0, AV.agg (sysC s)), (1, AV.ref 0 0), (2, bo false), (48, bo (bad1 s || bad2 s))] [Ob.cells (sysC s)]) := by
  unfold RTokCall at hj hl
  unfold bad1 bad2
  cases h2 : ((↑(List.length s.digits) : Int) != s.base) <;> cases h3 : ((↑(List.length s.powers) : Int) != 3) <;> cases h0 : (s.base != 10) <;> cases h1 : (s.base != 20) <;> first
    | exact rval_g1_tt s X call lf h0 h1
    | exact rval_g1_tft s X call lf h0 h1 h2
    | exact rval_g1_tfft s X call lf h0 h1 h2 h3
    | exact rval_g1_ft s X call lf h0 h2
    | exact rval_g1_fft s X call lf h0 h2 h3
    | (cases h4 : empB s.jo <;> cases h5 : tokB s.jo <;> cases h6 : empB s.le <;> cases h7 : tokB s.le <;> rw [h5] at hj <;> rw [h7] at hl <;> first
        | exact rval_g1_tffftttt s X call lf h0 h1 h2 h3 (by rw [h4]; rfl) hj (by rw [h6]; rfl) hl
        | exact rval_g1_tffftttf s X call lf h0 h1 h2 h3 (by rw [h4]; rfl) hj (by rw [h6]; rfl) hl
        | exact rval_g1_tfffttf s X call lf h0 h1 h2 h3 (by rw [h4]; rfl) hj (by rw [h6]; rfl)
        | exact rval_g1_tffftf s X call lf h0 h1 h2 h3 (by rw [h4]; rfl) hj
        | exact rval_g1_tfffftt s X call lf h0 h1 h2 h3 (by rw [h4]; rfl) (by rw [h6]; rfl) hl
        | exact rval_g1_tfffftf s X call lf h0 h1 h2 h3 (by rw [h4]; rfl) (by rw [h6]; rfl) hl
        | exact rval_g1_tfffff s X call lf h0 h1 h2 h3 (by rw [h4]; rfl) (by rw [h6]; rfl)
        | exact rval_g1_ffftttt s X call lf h0 h2 h3 (by rw [h4]; rfl) hj (by rw [h6]; rfl) hl
        | exact rval_g1_ffftttf s X call lf h0 h2 h3 (by rw [h4]; rfl) hj (by rw [h6]; rfl) hl
        | exact rval_g1_fffttf s X call lf h0 h2 h3 (by rw [h4]; rfl) hj (by rw [h6]; rfl)
        | exact rval_g1_ffftf s X call lf h0 h2 h3 (by rw [h4]; rfl) hj
        | exact rval_g1_fffftt s X call lf h0 h2 h3 (by rw [h4]; rfl) (by rw [h6]; rfl) hl
        | exact rval_g1_fffftf s X call lf h0 h2 h3 (by rw [h4]; rfl) (by rw [h6]; rfl) hl
        | exact rval_g1_fffff s X call lf h0 h2 h3 (by rw [h4]; rfl) (by rw [h6]; rfl))
end Go.Proofs.Num
end
/- Numeral: the reference's Valid. -/
section
open Go Go.Vm Go.Proofs
namespace Go.Proofs.Num

abbrev D14a : List Nat := [55, 54, 2, 62, 61, 60, 59, 58, 57, 56, 53, 52, 51, 50, 49]
abbrev D14b : List Nat := [69, 68, 2, 76, 75, 74, 73, 72, 71, 70, 67, 66, 65, 64, 63]
theorem dead14a : (deadC (loopN Tryd.f14 0) ([], [])).2 = D14a := by kernel_rfl
theorem dead14b : (deadC (loopN Tryd.f14 1) ([], [])).2 = D14b := by kernel_rfl
def rF0 (s : NSys) (i : Nat) : St := (stOf 99 [2, 5, 6, 7, 8, 9, 10, 11, 12, 13, 14, 15, 16, 17, 18, 19, 20, 21, 22, 23, 24, 25, 26, 27, 28, 29, 30, 31, 32, 33, 34, 35, 36, 37, 38, 39, 40, 41, 42, 43, 44, 45, 46, 47, 49, 50, 51, 52, 53, 54, 55, 56, 57, 58, 59, 60, 61, 62] [(0, AV.agg (sysC s)), (1, AV.ref 0 0), (3, i6 (↑i : Int)), (48, bo (bad1 s || bad2 s))] [Ob.cells (sysC s)])
def rF1 (s : NSys) (i : Nat) : St := (stOf 99 [2, 5, 6, 7, 8, 9, 10, 11, 12, 13, 14, 15, 16, 17, 18, 19, 20, 21, 22, 23, 24, 25, 26, 27, 28, 29, 30, 31, 32, 33, 34, 35, 36, 37, 38, 39, 40, 41, 42, 43, 44, 45, 46, 47, 54, 55, 56, 57, 58, 59, 60, 61, 62, 63, 64, 65, 66, 67, 68, 69, 70, 71, 72, 73, 74, 75, 76] [(0, AV.agg (sysC s)), (1, AV.ref 0 0), (3, i6 (↑(List.length (NSys.digits s)) : Int)), (4, i6 (↑i : Int)), (48, bo (bad1 s || bad2 s)), (49, i6 (↑(List.length (NSys.digits s)) : Int)), (50, AV.ref 0 1), (51, lro (List.length (NSys.digits s)) 1 (List.map st (NSys.digits s))), (52, i6 (↑(List.length (NSys.digits s)) : Int)), (53, bo false)] [Ob.cells (sysC s)])
theorem at_strs {l : List ByteArray} {i : Nat} (hi : i < l.length) : (List.map st l)[i]? = some (st (l[i])) := by simp [hi]
theorem rval_round0 {s : NSys} {X : Ext} {call : Caller} {lf : Nat} {i : Nat} (hk : s.digits.length ≤ 140737488355328) (hi : i < s.digits.length) (ht : RTokCall X call [Ob.cells (sysC s)] s.digits[i]) (hb : tokB s.digits[i] = true) :
    ∃ S1, vexec Tryd.prog X call lf 0 fg14 (loopN Tryd.f14 0) (rF0 s i) = some (.normal, S1) ∧ forget D14a S1 = rF0 s (i + 1) := by
  unfold RTokCall at ht
  rw [hb] at ht
  refine ⟨_, rval_r0_tt s ((List.map st s.digits).drop i) (bad1 s || bad2 s) s.digits[i] X call lf i (by simpa using hi) (at_list Tryd.underlying22 cells9 info9 hi)
    (load_list Tryd.underlying9 rfl (at_strs hi)) ht, ?_⟩
  have e : w6 ((i : Int) + 1) = ((i + 1 : Nat) : Int) := wrap_small (by omega)
  rw [e]
  show _ = _
  kernel_rfl
theorem rval_round1 {s : NSys} {X : Ext} {call : Caller} {lf : Nat} {i : Nat} (hk : s.powers.length ≤ 140737488355328) (hi : i < s.powers.length) (ht : RTokCall X call [Ob.cells (sysC s)] s.powers[i]) (hb : tokB s.powers[i] = true) :
    ∃ S1, vexec Tryd.prog X call lf 0 fg14 (loopN Tryd.f14 1) (rF1 s i) = some (.normal, S1) ∧ forget D14b S1 = rF1 s (i + 1) := by
  unfold RTokCall at ht
  rw [hb] at ht
  refine ⟨_, rval_r1_tt s ((List.map st s.powers).drop i) (bad1 s || bad2 s) s.powers[i] X call lf s.digits.length i (by simpa using hi) (at_list Tryd.underlying22 cells9 info9 hi)
    (load_list Tryd.underlying9 rfl (at_strs hi)) ht, ?_⟩
  have e : w6 ((i : Int) + 1) = ((i + 1 : Nat) : Int) := wrap_small (by omega)
  rw [e]
  show _ = _
  kernel_rfl
theorem rg13_spec (s : NSys) (b1 : Bool) (X : Ext) (call : Caller) (lf : Nat) (i0 i1 : Nat) :
    vexec Tryd.prog X call lf 0 fg14 (regN Tryd.f14 13) (stOf 99 [2, 5, 6, 7, 8, 9, 10, 11, 12, 13, 14, 15, 16, 17, 18, 19, 20, 21, 22, 23, 24, 25, 26, 27, 28, 29, 30, 31, 32, 33, 34, 35, 36, 37, 38, 39, 40, 41, 42, 43, 44, 45, 46, 47, 54, 55, 56, 57, 58, 59, 60, 61, 62, 68, 69, 70, 71, 72, 73, 74, 75, 76] [(0, AV.agg (sysC s)), (1, AV.ref 0 0), (3, i6 (↑i0 : Int)), (4, i6 (↑i1 : Int)), (48, bo b1), (49, i6 (↑i0 : Int)), (50, AV.ref 0 1), (51, lro (List.length (NSys.digits s)) 1 (List.map st (NSys.digits s))), (52, i6 (↑(List.length (NSys.digits s)) : Int)), (53, bo false), (63, i6 (↑i1 : Int)), (64, AV.ref 0 2), (65, lro (List.length (NSys.powers s)) 1 (List.map st (NSys.powers s))), (66, i6 (↑(List.length (NSys.powers s)) : Int)), (67, bo false)] [Ob.cells (sysC s)]) = some (Ex.normal, (stOf 99 [5, 6, 7, 8, 9, 10, 11, 12, 13, 14, 15, 16, 17, 18, 19, 20, 21, 22, 23, 24, 25, 26, 27, 28, 29, 30, 31, 32, 33, 34, 35, 36, 37, 38, 39, 40, 41, 42, 43, 44, 45, 46, 47, 54, 55, 56, 57, 58, 59, 60, 61, 62, 68, 69, 70, 71, 72, 73, 74, 75, 76, 77, 78, 79, 80, 81, 82, 83, 84, 85, 86, 87, 88, 89, 90, 91, 92, 93, 94, 95, 96, 97, 98] [(0, AV.agg (sysC s)), (1, AV.ref 0 0), (2, bo (rgood3 s)), (3, i6 (↑i0 : Int)), (4, i6 (↑i1 : Int)), (48, bo b1), (49, i6 (↑i0 : Int)), (50, AV.ref 0 1), (51, lro (List.length (NSys.digits s)) 1 (List.map st (NSys.digits s))), (52, i6 (↑(List.length (NSys.digits s)) : Int)), (53, bo false), (63, i6 (↑i1 : Int)), (64, AV.ref 0 2), (65, lro (List.length (NSys.powers s)) 1 (List.map st (NSys.powers s))), (66, i6 (↑(List.length (NSys.powers s)) : Int)), (67, bo false)] [Ob.cells (sysC s)])) := by
  unfold rgood3
  cases h0 : decide (s.sub ≥ 0) with
  | false => exact rval_g13_f s b1 X call lf i0 i1 h0
  | true =>
    cases h1 : decide (s.sub ≤ w6 (w6 (s.base.tdiv 2) - 1)) with
    | false => exact rval_g13_tf s b1 X call lf i0 i1 h0 h1
    | true =>
      cases h2 : (s.sub == 0) with
      | true => exact rval_g13_ttt s b1 X call lf i0 i1 h0 h1 h2
      | false =>
        cases h3 : empB s.le with
        | false => exact rval_g13_ttft s b1 X call lf i0 i1 h0 h1 h2 (by rw [h3]; rfl)
        | true => exact rval_g13_ttff s b1 X call lf i0 i1 h0 h1 h2 (by rw [h3]; rfl)
def rvalidL (s : NSys) : Bool := !(bad1 s || bad2 s) && (s.digits.all tokB && (s.powers.all tokB && rgood3 s))
/-- All are tokens, or there is a first that is none. -/
theorem all_or (l : List ByteArray) : (l.all tokB = true ∧ ∀ i (hi : i < l.length), tokB (l[i]'hi) = true) ∨ (l.all tokB = false ∧ ∃ k, ∃ hk : k < l.length, tokB (l[k]'hk) = false ∧ ∀ i (hi : i < k), tokB (l[i]'(Nat.lt_trans hi hk)) = true) := by
  rcases first_fail (p := fun i => ∀ hi : i < l.length, tokB (l[i]'hi) = true) l.length with hall | ⟨k, hk, hbad, hbefore⟩
  · refine .inl ⟨?_, fun i hi => hall i hi hi⟩
    rw [List.all_eq_true]
    intro w hw
    obtain ⟨i, hi, rfl⟩ := List.getElem_of_mem hw
    exact hall i hi hi
  · have hb : tokB (l[k]'hk) = false := by
      cases h : tokB (l[k]'hk) with
      | false => rfl
      | true => exact absurd (fun _ => h) hbad
    refine .inr ⟨?_, k, hk, hb, fun i hi => hbefore i hi (Nat.lt_trans hi hk)⟩
    cases h : l.all tokB with
    | false => rfl
    | true =>
      rw [List.all_eq_true] at h
      rw [h _ (List.getElem_mem hk)] at hb
      cases hb
theorem rval_spec (s : NSys) (X : Ext) (call : Caller) (lf : Nat) (hd : s.digits.length ≤ 140737488355328) (hp : s.powers.length ≤ 140737488355328) (hld : s.digits.length < lf) (hlp : s.powers.length < lf)
    (ht : ∀ w, w ∈ s.digits ∨ w ∈ s.powers ∨ w = s.jo ∨ w = s.le → RTokCall X call [Ob.cells (sysC s)] w) :
    vbody Tryd.prog X call lf fg14 Tryd.f14 (codeOf Tryd.f14) [AV.agg (sysC s)] [] 0 = some (bo (rvalidL s), [Ob.cells (sysC s)]) := by
  have hg1 := rg1_spec s X call lf (ht _ (.inr (.inr (.inl rfl)))) (ht _ (.inr (.inr (.inr rfl))))
  cases h1 : (bad1 s || bad2 s) with
  | true =>
    rw [rval_pt s (bad1 s || bad2 s) X call lf hg1 h1]
    simp only [rvalidL, h1, Bool.not_true, Bool.false_and]
  | false =>
    have start0 : forget D14a (stOf 99 [5, 6, 7, 8, 9, 10, 11, 12, 13, 14, 15, 16, 17, 18, 19, 20, 21, 22, 23, 24, 25, 26, 27, 28, 29, 30, 31, 32, 33, 34, 35, 36, 37, 38, 39, 40, 41, 42, 43, 44, 45, 46, 47] [(0, AV.agg (sysC s)), (1, AV.ref 0 0), (2, bo false), (3, i6 0), (48, bo (bad1 s || bad2 s))] [Ob.cells (sysC s)]) = rF0 s 0 := by kernel_rfl
    have start1 : forget D14b (stOf 99 [2, 5, 6, 7, 8, 9, 10, 11, 12, 13, 14, 15, 16, 17, 18, 19, 20, 21, 22, 23, 24, 25, 26, 27, 28, 29, 30, 31, 32, 33, 34, 35, 36, 37, 38, 39, 40, 41, 42, 43, 44, 45, 46, 47, 54, 55, 56, 57, 58, 59, 60, 61, 62] [(0, AV.agg (sysC s)), (1, AV.ref 0 0), (3, i6 (↑(List.length (NSys.digits s)) : Int)), (4, i6 0), (48, bo (bad1 s || bad2 s)), (49, i6 (↑(List.length (NSys.digits s)) : Int)), (50, AV.ref 0 1), (51, lro (List.length (NSys.digits s)) 1 (List.map st (NSys.digits s))), (52, i6 (↑(List.length (NSys.digits s)) : Int)), (53, bo false)] [Ob.cells (sysC s)]) = rF1 s 0 := by kernel_rfl
    rcases all_or s.digits with ⟨hall, hr⟩ | ⟨hall, k, hk, hb, hbefore⟩
    · have hloop0 := loop_run (P := Tryd.prog) (X := X) (call := call) (lf := lf) (ro := 0) (fg := fg14) dead14a (rF0 s) s.digits.length hld start0
        (fun i hi => rval_round0 hd hi (ht _ (.inl (List.getElem_mem hi))) (hr i hi)) (rval_r0_f s (bad1 s || bad2 s) X call lf s.digits.length (by simp)) (by simp)
      rcases all_or s.powers with ⟨hall2, hr2⟩ | ⟨hall2, k, hk, hb, hbefore⟩
      · have hloop1 := loop_run (P := Tryd.prog) (X := X) (call := call) (lf := lf) (ro := 0) (fg := fg14) dead14b (rF1 s) s.powers.length hlp start1
          (fun i hi => rval_round1 hp hi (ht _ (.inr (.inl (List.getElem_mem hi)))) (hr2 i hi)) (rval_r1_f s (bad1 s || bad2 s) X call lf s.digits.length s.powers.length (by simp)) (by simp)
        rw [rval_pflflf s (bad1 s || bad2 s) (rgood3 s) X call lf s.digits.length s.powers.length hg1 h1 hloop0 hloop1 (rg13_spec s _ X call lf _ _)]
        simp only [rvalidL, h1, hall, hall2, Bool.not_false, Bool.true_and]
      · have htk := ht _ (.inr (.inl (List.getElem_mem hk)))
        unfold RTokCall at htk
        rw [hb] at htk
        have hloop1 := loop_run (P := Tryd.prog) (X := X) (call := call) (lf := lf) (ro := 0) (fg := fg14) dead14b (rF1 s) k (Nat.lt_trans hk hlp) start1
          (fun i hi => rval_round1 hp (Nat.lt_trans hi hk) (ht _ (.inr (.inl (List.getElem_mem _)))) (hbefore i hi))
          (rval_r1_tf s ((List.map st s.powers).drop k) (bad1 s || bad2 s) (s.powers[k]'hk) X call lf s.digits.length k (by simpa using hk) (at_list Tryd.underlying22 cells9 info9 hk) (load_list Tryd.underlying9 rfl (at_strs hk)) htk) (by simp)
        rw [rval_pflfltf s ((List.map st s.powers).drop k) (bad1 s || bad2 s) (s.powers[k]'hk) X call lf s.digits.length k hg1 h1 hloop0 hloop1]
        simp only [rvalidL, hall2, Bool.false_and, Bool.and_false]
    · have htk := ht _ (.inl (List.getElem_mem hk))
      unfold RTokCall at htk
      rw [hb] at htk
      have hloop0 := loop_run (P := Tryd.prog) (X := X) (call := call) (lf := lf) (ro := 0) (fg := fg14) dead14a (rF0 s) k (Nat.lt_trans hk hld) start0
        (fun i hi => rval_round0 hd (Nat.lt_trans hi hk) (ht _ (.inl (List.getElem_mem _))) (hbefore i hi))
        (rval_r0_tf s ((List.map st s.digits).drop k) (bad1 s || bad2 s) (s.digits[k]'hk) X call lf k (by simpa using hk) (at_list Tryd.underlying22 cells9 info9 hk) (load_list Tryd.underlying9 rfl (at_strs hk)) htk) (by simp)
      rw [rval_pfltf s ((List.map st s.digits).drop k) (bad1 s || bad2 s) (s.digits[k]'hk) X call lf k hg1 h1 hloop0]
      simp only [rvalidL, hall, Bool.false_and, Bool.and_false]
end Go.Proofs.Num
end
/- Numeral: Valid is what the reference's Valid is. -/
section
open Go Go.Vm Go.Proofs
namespace Go.Proofs.Num
theorem good_eq {s : NSys} (h : bad1 s = false) : good3 s = rgood3 s := by
  have hb : s.base = 10 ∨ s.base = 20 := by
    unfold bad1 at h
    simp only [Bool.or_eq_false_iff, Bool.and_eq_false_iff, bne_eq_false_iff_eq] at h
    exact h.1
  unfold good3 rgood3
  have e : decide (s.sub < w6 (s.base.tdiv 2)) = decide (s.sub ≤ w6 (w6 (s.base.tdiv 2) - 1)) := by
    rcases hb with hb | hb
    · rw [hb]
      have e1 : w6 (Int.tdiv 10 2) = 5 := by kernel_rfl
      have e2 : w6 (5 - 1) = 4 := by kernel_rfl
      rw [e1, e2, decide_eq_decide]
      omega
    · rw [hb]
      have e1 : w6 (Int.tdiv 20 2) = 10 := by kernel_rfl
      have e2 : w6 (10 - 1) = 9 := by kernel_rfl
      rw [e1, e2, decide_eq_decide]
      omega
  rw [e]
/-- Both ask the same of a system. -/
theorem valid_eq (s : NSys) : validL s = rvalidL s := by
  unfold validL rvalidL vWords
  cases h1 : bad1 s with
  | true => simp
  | false =>
    rw [good_eq h1, List.all_append]
    cases bad2 s <;> cases s.digits.all tokB <;> cases s.powers.all tokB <;> rfl
end Go.Proofs.Num
end
/- Numeral: collect, joiner. -/
section
open Go Go.Vm Go.Proofs
namespace Go.Proofs.Num
theorem coll_r0_t (k : Nat) (p : AV) (ls : List AV) (rest : List AV) (o : Nat → AV) (σs : Nat → List Ob) (o' : AV) (σ' : List Ob) (X : Ext) (call : Caller) (lf : Nat) (i0 : Nat)
  (h0 : decide ((↑i0 : Int) < (↑k : Int)) = true)
  (h1 : keep (σs i0) (indexAddrv Tryd.prog 66 (σs i0) (AV.list LK.clip k 1 ls) (i6 (↑i0 : Int))) = some (AV.eaddr rest, σs i0))
  (h2 : keep (σs i0) (loadv Tryd.prog 22 (σs i0) (AV.eaddr rest)) = some (p, σs i0))
  (h3 : appendv Tryd.prog 22 (σs i0) 0 (o i0) p = some (o', σ')) : vexec Tryd.prog X call lf 0 noFg (loopN Tryd.f36 0) (stOf 17 [5, 9, 10, 11, 12, 13, 14, 15] [(0, AV.list LK.clip k 1 ls), (2, AV.list LK.nil 0 0 []), (3, o i0), (6, AV.list LK.clip k 1 ls), (7, i6 (↑k : Int)), (8, i6 (↑i0 : Int))] (σs i0)) = some (Ex.normal, stOf 17 [] [(0, AV.list LK.clip k 1 ls), (2, AV.list LK.nil 0 0 []), (3, o'), (5, p), (6, AV.list LK.clip k 1 ls), (7, i6 (↑k : Int)), (8, i6 (w6 ((↑i0 : Int) + 1))), (9, bo true), (10, AV.eaddr rest), (11, p), (12, o i0), (13, p), (14, o'), (15, i6 (w6 ((↑i0 : Int) + 1)))] σ') :=
  around_sound (ans := [(1, Ans.b true), (4, Ans.v (AV.eaddr rest)), (5, Ans.v p), (10, Ans.c o' σ')]) (by kernel_rfl) (And.intro h0 (And.intro h1 (And.intro h2 (And.intro h3 trivial))))
theorem coll_r0_f (k : Nat) (ls : List AV) (o : Nat → AV) (σs : Nat → List Ob) (X : Ext) (call : Caller) (lf : Nat) (i0 : Nat)
  (h0 : decide ((↑i0 : Int) < (↑k : Int)) = false) : vexec Tryd.prog X call lf 0 noFg (loopN Tryd.f36 0) (stOf 17 [5, 9, 10, 11, 12, 13, 14, 15] [(0, AV.list LK.clip k 1 ls), (2, AV.list LK.nil 0 0 []), (3, o i0), (6, AV.list LK.clip k 1 ls), (7, i6 (↑k : Int)), (8, i6 (↑i0 : Int))] (σs i0)) = some (Ex.exit 0, stOf 17 [5, 10, 11, 12, 13, 14, 15] [(0, AV.list LK.clip k 1 ls), (2, AV.list LK.nil 0 0 []), (3, o i0), (6, AV.list LK.clip k 1 ls), (7, i6 (↑k : Int)), (8, i6 (↑i0 : Int)), (9, bo false)] (σs i0)) :=
  around_sound (ans := [(1, Ans.b false)]) (by kernel_rfl) (And.intro h0 trivial)
theorem coll_plf (k : Nat) (ls : List AV) (o : Nat → AV) (σs : Nat → List Ob) (r : AV) (σr : List Ob) (X : Ext) (call : Caller) (lf : Nat) (i0 : Nat)
  (h0 : vexec Tryd.prog X call lf 0 noFg (Code.loop (loopN Tryd.f36 0)) (stOf 17 [] [(0, AV.list LK.clip k 1 ls), (2, AV.list LK.nil 0 0 []), (3, AV.list LK.nil 0 0 []), (6, AV.list LK.clip k 1 ls), (7, i6 (↑k : Int)), (8, i6 0)] []) = some (Ex.exit 0, stOf 17 [5, 10, 11, 12, 13, 14, 15] [(0, AV.list LK.clip k 1 ls), (2, AV.list LK.nil 0 0 []), (3, o i0), (6, AV.list LK.clip k 1 ls), (7, i6 (↑k : Int)), (8, i6 (↑i0 : Int)), (9, bo false)] (σs i0)))
  (h1 : vend1 [] 0 (σs i0) [o i0] = some (r, σr)) : vbody Tryd.prog X call lf noFg Tryd.f36 (codeOf Tryd.f36) [AV.list LK.clip k 1 ls] [] 0 = some (r, σr) :=
  along_sound (ans := [(8, Ans.l (Ex.exit 0) (stOf 17 [5, 10, 11, 12, 13, 14, 15] [(0, AV.list LK.clip k 1 ls), (2, AV.list LK.nil 0 0 []), (3, o i0), (6, AV.list LK.clip k 1 ls), (7, i6 (↑k : Int)), (8, i6 (↑i0 : Int)), (9, bo false)] (σs i0))), (12, Ans.c r σr)]) (by kernel_rfl) (And.intro h0 (And.intro h1 trivial))
theorem joiner_pt (s : NSys) (X : Ext) (call : Caller) (lf : Nat)
  (h0 : (empB (NSys.jo s)) = true) : vbody Tryd.prog X call lf noFg Tryd.f37 (codeOf Tryd.f37) [AV.agg (sysC s)] [] 0 = some (AV.list LK.nil 0 0 [], [Ob.cells (sysC s)]) :=
  along_sound (ans := [(6, Ans.b true)]) (by kernel_rfl) (And.intro h0 trivial)
theorem joiner_pf (s : NSys) (X : Ext) (call : Caller) (lf : Nat)
  (h0 : (empB (NSys.jo s)) = false) : vbody Tryd.prog X call lf noFg Tryd.f37 (codeOf Tryd.f37) [AV.agg (sysC s)] [] 0 = some (AV.list LK.clip 1 1 [st (NSys.jo s)], [Ob.cells (sysC s)]) :=
  along_sound (ans := [(6, Ans.b false)]) (by kernel_rfl) (And.intro h0 trivial)


/-- A list of strings, whatever is known of the room behind it. -/
def IsS (p : AV) (l : List ByteArray) : Prop := (∃ k, p = .list k l.length 1 (l.map .str)) ∨ (l = [] ∧ ∃ k sz cs, p = .list k 0 sz cs)
theorem appended_isS {σ : List Ob} {p : AV} {l : List ByteArray} (h : IsS p l) : appended σ 1 p = some (l.length, l.map .str) := by
  rcases h with ⟨k, rfl⟩ | ⟨rfl, k, sz, cs, rfl⟩
  · rw [appended_list]
    by_cases h : l.length = 0
    · have : l = [] := List.eq_nil_of_length_eq_zero h
      subst this
      rfl
    · rw [if_neg h]
  · simp [appended]
theorem grow_first {σ : List Ob} {p : AV} {l : List ByteArray} (h : IsS p l) (h0 : l ≠ []) (hb : l.length * 17 ≤ 140737488355328) :
    appendv Tryd.prog 22 σ 0 (.list .nil 0 0 []) p = some (.own σ.length l.length, σ ++ [.arr l.length 1 (l.map .str)]) := by
  have hm : l.length ≠ 0 := fun e => h0 (List.eq_nil_of_length_eq_zero e)
  unfold appendv
  rw [Tryd.underlying22]
  simp only [cells9, appended_isS h, zero9, bytes9]
  rw [if_pos ⟨owns_strs l, rfl⟩]
  simp only [Nat.zero_add, List.nil_append]
  rw [if_pos ⟨.inl trivial, .inl trivial, rfl, hb⟩, if_neg hm]
def collO (ls : List (List ByteArray)) (i : Nat) : AV := if i = 0 then .list .nil 0 0 [] else .own 0 (lensum (ls.take i))
def collS (ls : List (List ByteArray)) (i : Nat) : List Ob := if i = 0 then [] else [.arr (lensum (ls.take i)) 1 ((joinL (ls.take i)).map .str)]
abbrev D36 : List Nat := [15, 14, 13, 12, 5, 11, 10, 9]
theorem dead36 : (deadC (loopN Tryd.f36 0) ([], [])).2 = D36 := by kernel_rfl
def collF (ps : List AV) (ls : List (List ByteArray)) (i : Nat) : St :=
  (stOf 17 [5, 9, 10, 11, 12, 13, 14, 15] [(0, AV.list LK.clip ls.length 1 ps), (2, AV.list LK.nil 0 0 []), (3, collO ls i), (6, AV.list LK.clip ls.length 1 ps), (7, i6 (↑ls.length : Int)), (8, i6 (↑i : Int))] (collS ls i))
theorem coll_grow {ls : List (List ByteArray)} (hb : lensum ls * 17 ≤ 140737488355328) (hfirst : ∀ l, ls[0]? = some l → l ≠ []) {i : Nat} {p : AV} {l : List ByteArray} (hl : ls[i]? = some l) (hp : IsS p l) :
    appendv Tryd.prog 22 (collS ls i) 0 (collO ls i) p = some (collO ls (i + 1), collS ls (i + 1)) := by
  have hs := lensum_take ls i l hl
  have hj := joinL_take ls i l hl
  have hle := lensum_le ls (i + 1)
  unfold collS collO
  rw [if_neg (Nat.succ_ne_zero i), if_neg (Nat.succ_ne_zero i)]
  by_cases h0 : i = 0
  · subst h0
    rw [if_pos rfl, if_pos rfl, grow_first hp (hfirst l hl) (by simp only [List.take_zero, lensum, Nat.zero_add] at hs hle; omega), hs, hj]
    simp [lensum, joinL]
  · rw [if_neg h0, if_neg h0]
    by_cases hz : l.length = 0
    · have he : l = [] := List.eq_nil_of_length_eq_zero hz
      have := grow_none (P := Tryd.prog) (ro := 0) (id := 0) (n := lensum (ls.take i)) (σ := [Ob.arr (lensum (ls.take i)) 1 ((joinL (ls.take i)).map .str)]) (cs := (joinL (ls.take i)).map .str) (ys := l.map .str) (x := p) Tryd.underlying22 zero9 (by rw [cells9]; rfl) (by rw [cells9]; rfl) (Nat.le_refl _)
        (by rw [cells9, appended_isS hp, hz]) (owns_strs l) (by rw [bytes9]; omega)
      rw [this, hs, hj, he]
      simp
    · have := grow_own (P := Tryd.prog) (ro := 0) (id := 0) (n := lensum (ls.take i)) (σ := [Ob.arr (lensum (ls.take i)) 1 ((joinL (ls.take i)).map .str)]) (cs := (joinL (ls.take i)).map .str) (ys := l.map .str) (m := l.length) (x := p) Tryd.underlying22 zero9 (by rw [cells9]; rfl) (by rw [cells9]; rfl) (Nat.le_refl _)
        (by rw [cells9, appended_isS hp]) (owns_strs _) hz (by rw [bytes9]; omega)
      rw [this, hs, hj, cells9]
      simp [setOb]
theorem coll_round {X : Ext} {call : Caller} {lf : Nat} {ps : List AV} {ls : List (List ByteArray)} (hb : lensum ls * 17 ≤ 140737488355328) (hk : ls.length ≤ 140737488355328) (hfirst : ∀ l, ls[0]? = some l → l ≠ [])
    (hps : ∀ (i : Nat) (l : List ByteArray), ls[i]? = some l → ∃ p, ps[i]? = some p ∧ IsS p l) {i : Nat} (hi : i < ls.length) :
    ∃ S1, vexec Tryd.prog X call lf 0 noFg (loopN Tryd.f36 0) (collF ps ls i) = some (.normal, S1) ∧ forget D36 S1 = collF ps ls (i + 1) := by
  have hl : ls[i]? = some ls[i] := List.getElem?_eq_getElem hi
  obtain ⟨p, hp, hpl⟩ := hps i _ hl
  refine ⟨_, coll_r0_t ls.length p ps (ps.drop i) (collO ls) (collS ls) _ _ X call lf i (by simpa using hi) (at_list Tryd.underlying66 cells22 info22 hi) (load_list Tryd.underlying22 rfl hp) (coll_grow hb hfirst hl hpl), ?_⟩
  have e : w6 ((i : Int) + 1) = ((i + 1 : Nat) : Int) := wrap_small (by omega)
  rw [e]
  show _ = _
  kernel_rfl
/-- collect: all the tokens of the parts, in a new row. -/
theorem coll_spec (X : Ext) (call : Caller) (lf : Nat) {ps : List AV} {ls : List (List ByteArray)} (hb : lensum ls * 17 ≤ 140737488355328) (hk : ls.length ≤ 140737488355328) (hlf : ls.length < lf) (hpos : 0 < ls.length) (hfirst : ∀ l, ls[0]? = some l → l ≠ [])
    (hps : ∀ (i : Nat) (l : List ByteArray), ls[i]? = some l → ∃ p, ps[i]? = some p ∧ IsS p l) :
    vbody Tryd.prog X call lf noFg Tryd.f36 (codeOf Tryd.f36) [AV.list LK.clip ls.length 1 ps] [] 0 = some (.list .fresh (joinL ls).length 1 ((joinL ls).map .str), [.fro (joinL ls).length 1 ((joinL ls).map .str)]) := by
  have hloop := loop_run (P := Tryd.prog) (X := X) (call := call) (lf := lf) (ro := 0) (fg := noFg) dead36 (collF ps ls) ls.length hlf (S := (stOf 17 [] [(0, AV.list LK.clip ls.length 1 ps), (2, AV.list LK.nil 0 0 []), (3, AV.list LK.nil 0 0 []), (6, AV.list LK.clip ls.length 1 ps), (7, i6 (↑ls.length : Int)), (8, i6 0)] [])) (by kernel_rfl)
    (fun i hi => coll_round hb hk hfirst hps hi) (coll_r0_f ls.length ps (collO ls) (collS ls) X call lf ls.length (by simp)) (by simp)
  refine coll_plf ls.length ps (collO ls) (collS ls) _ _ X call lf ls.length hloop ?_
  unfold collO collS
  rw [if_neg (by omega), if_neg (by omega), List.take_length, ← joinL_length]
  exact end_row
/-- joiner: none, or the one word. -/
def joinWords (s : NSys) : List ByteArray := if empB s.jo then [] else [s.jo]
theorem joiner_spec (s : NSys) (X : Ext) (call : Caller) (lf : Nat) : ∃ r, vbody Tryd.prog X call lf noFg Tryd.f37 (codeOf Tryd.f37) [AV.agg (sysC s)] [] 0 = some (r, [Ob.cells (sysC s)]) ∧ IsS r (joinWords s) ∧ r.pure = true := by
  unfold joinWords
  cases h : empB s.jo with
  | true => exact ⟨_, joiner_pt s X call lf h, .inr ⟨rfl, _, _, _, rfl⟩, rfl⟩
  | false => exact ⟨_, joiner_pf s X call lf h, .inl ⟨_, rfl⟩, rfl⟩
end Go.Proofs.Num
end
/- Numeral: less, power. -/
section
open Go Go.Vm Go.Proofs
namespace Go.Proofs.Num
theorem less_pttt (s : NSys) (q : Int) (p : Int) (r : Int) (X : Ext) (call : Caller) (lf : Nat)
  (h0 : decide (NSys.sub s > 0) = true)
  (h1 : decide (r ≥ w6 (p - NSys.sub s)) = true)
  (h2 : decide (w6 (q + 1) < NSys.base s) = true) : vbody Tryd.prog X call lf noFg Tryd.f35 (codeOf Tryd.f35) [AV.agg (sysC s), i6 q, i6 p, i6 r] [] 0 = some (bo true, [Ob.cells (sysC s)]) :=
  along_sound (ans := [(6, Ans.b true), (19, Ans.b true), (31, Ans.b true)]) (by kernel_rfl) (And.intro h0 (And.intro h1 (And.intro h2 trivial)))
theorem less_pttf (s : NSys) (q : Int) (p : Int) (r : Int) (X : Ext) (call : Caller) (lf : Nat)
  (h0 : decide (NSys.sub s > 0) = true)
  (h1 : decide (r ≥ w6 (p - NSys.sub s)) = true)
  (h2 : decide (w6 (q + 1) < NSys.base s) = false) : vbody Tryd.prog X call lf noFg Tryd.f35 (codeOf Tryd.f35) [AV.agg (sysC s), i6 q, i6 p, i6 r] [] 0 = some (bo false, [Ob.cells (sysC s)]) :=
  along_sound (ans := [(6, Ans.b true), (19, Ans.b true), (31, Ans.b false)]) (by kernel_rfl) (And.intro h0 (And.intro h1 (And.intro h2 trivial)))
theorem less_ptf (s : NSys) (q : Int) (p : Int) (r : Int) (X : Ext) (call : Caller) (lf : Nat)
  (h0 : decide (NSys.sub s > 0) = true)
  (h1 : decide (r ≥ w6 (p - NSys.sub s)) = false) : vbody Tryd.prog X call lf noFg Tryd.f35 (codeOf Tryd.f35) [AV.agg (sysC s), i6 q, i6 p, i6 r] [] 0 = some (bo false, [Ob.cells (sysC s)]) :=
  along_sound (ans := [(6, Ans.b true), (19, Ans.b false)]) (by kernel_rfl) (And.intro h0 (And.intro h1 trivial))
theorem less_pf (s : NSys) (q : Int) (p : Int) (r : Int) (X : Ext) (call : Caller) (lf : Nat)
  (h0 : decide (NSys.sub s > 0) = false) : vbody Tryd.prog X call lf noFg Tryd.f35 (codeOf Tryd.f35) [AV.agg (sysC s), i6 q, i6 p, i6 r] [] 0 = some (bo false, [Ob.cells (sysC s)]) :=
  along_sound (ans := [(6, Ans.b false)]) (by kernel_rfl) (And.intro h0 trivial)
theorem power_r0_tt (s : NSys) (n : Int) (P : Nat → Int) (X : Ext) (call : Caller) (lf : Nat) (i0 : Nat)
  (h0 : decide ((↑i0 : Int) < 2) = true)
  (h1 : decide (w6 (P i0 * NSys.base s) > n) = true) : vexec Tryd.prog X call lf 0 noFg (loopN Tryd.f34 0) (stOf 27 [4, 5, 7, 11, 12, 13, 14, 15, 16, 17, 18, 19, 20, 21, 22, 23, 24, 25] [(0, AV.agg (sysC s)), (1, i6 n), (2, AV.ref 0 0), (6, i6 (P i0)), (8, AV.ref 0 0), (9, i6 (NSys.base s)), (10, i6 (↑i0 : Int))] [Ob.cells (sysC s)]) = some (Ex.ret, stOf 27 [21, 22, 23, 24, 25] [(0, AV.agg (sysC s)), (1, i6 n), (2, AV.ref 0 0), (4, i6 (P i0)), (5, i6 (↑i0 : Int)), (6, i6 (P i0)), (7, i6 (↑i0 : Int)), (8, AV.ref 0 0), (9, i6 (NSys.base s)), (10, i6 (↑i0 : Int)), (11, bo true), (12, i6 (↑i0 : Int)), (13, i6 (P i0)), (14, AV.ref 0 0), (15, i6 (NSys.base s)), (16, i6 (w6 (P i0 * NSys.base s))), (17, i6 n), (18, bo true), (19, i6 (P i0)), (20, i6 (↑i0 : Int))] [Ob.cells (sysC s)]) :=
  around_sound (ans := [(1, Ans.b true), (12, Ans.b true)]) (by kernel_rfl) (And.intro h0 (And.intro h1 trivial))
theorem power_pltt (s : NSys) (n : Int) (P : Nat → Int) (X : Ext) (call : Caller) (lf : Nat) (i0 : Nat)
  (h0 : vexec Tryd.prog X call lf 0 noFg (Code.loop (loopN Tryd.f34 0)) (stOf 27 [] [(0, AV.agg (sysC s)), (1, i6 n), (2, AV.ref 0 0), (4, i6 0), (5, i6 0), (6, i6 (NSys.base s)), (8, AV.ref 0 0), (9, i6 (NSys.base s)), (10, i6 0)] [Ob.cells (sysC s)]) = some (Ex.ret, stOf 27 [21, 22, 23, 24, 25] [(0, AV.agg (sysC s)), (1, i6 n), (2, AV.ref 0 0), (4, i6 (P i0)), (5, i6 (↑i0 : Int)), (6, i6 (P i0)), (7, i6 (↑i0 : Int)), (8, AV.ref 0 0), (9, i6 (NSys.base s)), (10, i6 (↑i0 : Int)), (11, bo true), (12, i6 (↑i0 : Int)), (13, i6 (P i0)), (14, AV.ref 0 0), (15, i6 (NSys.base s)), (16, i6 (w6 (P i0 * NSys.base s))), (17, i6 n), (18, bo true), (19, i6 (P i0)), (20, i6 (↑i0 : Int))] [Ob.cells (sysC s)])) : vbody Tryd.prog X call lf noFg Tryd.f34 (codeOf Tryd.f34) [AV.agg (sysC s), i6 n] [] 0 = some (AV.tup [i6 (P i0), i6 (↑i0 : Int)], [Ob.cells (sysC s)]) :=
  along_sound (ans := [(10, Ans.l Ex.ret (stOf 27 [21, 22, 23, 24, 25] [(0, AV.agg (sysC s)), (1, i6 n), (2, AV.ref 0 0), (4, i6 (P i0)), (5, i6 (↑i0 : Int)), (6, i6 (P i0)), (7, i6 (↑i0 : Int)), (8, AV.ref 0 0), (9, i6 (NSys.base s)), (10, i6 (↑i0 : Int)), (11, bo true), (12, i6 (↑i0 : Int)), (13, i6 (P i0)), (14, AV.ref 0 0), (15, i6 (NSys.base s)), (16, i6 (w6 (P i0 * NSys.base s))), (17, i6 n), (18, bo true), (19, i6 (P i0)), (20, i6 (↑i0 : Int))] [Ob.cells (sysC s)]))]) (by kernel_rfl) (And.intro h0 trivial)
theorem power_r0_tf (s : NSys) (n : Int) (P : Nat → Int) (X : Ext) (call : Caller) (lf : Nat) (i0 : Nat)
  (h0 : decide ((↑i0 : Int) < 2) = true)
  (h1 : decide (w6 (P i0 * NSys.base s) > n) = false) : vexec Tryd.prog X call lf 0 noFg (loopN Tryd.f34 0) (stOf 27 [4, 5, 7, 11, 12, 13, 14, 15, 16, 17, 18, 19, 20, 21, 22, 23, 24, 25] [(0, AV.agg (sysC s)), (1, i6 n), (2, AV.ref 0 0), (6, i6 (P i0)), (8, AV.ref 0 0), (9, i6 (NSys.base s)), (10, i6 (↑i0 : Int))] [Ob.cells (sysC s)]) = some (Ex.normal, stOf 27 [4, 5, 19, 20] [(0, AV.agg (sysC s)), (1, i6 n), (2, AV.ref 0 0), (6, i6 (w6 (P i0 * NSys.base s))), (7, i6 (↑i0 : Int)), (8, AV.ref 0 0), (9, i6 (NSys.base s)), (10, i6 (w6 ((↑i0 : Int) + 1))), (11, bo true), (12, i6 (↑i0 : Int)), (13, i6 (P i0)), (14, AV.ref 0 0), (15, i6 (NSys.base s)), (16, i6 (w6 (P i0 * NSys.base s))), (17, i6 n), (18, bo false), (21, i6 (P i0)), (22, AV.ref 0 0), (23, i6 (NSys.base s)), (24, i6 (w6 (P i0 * NSys.base s))), (25, i6 (w6 ((↑i0 : Int) + 1)))] [Ob.cells (sysC s)]) :=
  around_sound (ans := [(1, Ans.b true), (12, Ans.b false)]) (by kernel_rfl) (And.intro h0 (And.intro h1 trivial))
theorem power_r0_f (s : NSys) (n : Int) (P : Nat → Int) (X : Ext) (call : Caller) (lf : Nat) (i0 : Nat)
  (h0 : decide ((↑i0 : Int) < 2) = false) : vexec Tryd.prog X call lf 0 noFg (loopN Tryd.f34 0) (stOf 27 [4, 5, 7, 11, 12, 13, 14, 15, 16, 17, 18, 19, 20, 21, 22, 23, 24, 25] [(0, AV.agg (sysC s)), (1, i6 n), (2, AV.ref 0 0), (6, i6 (P i0)), (8, AV.ref 0 0), (9, i6 (NSys.base s)), (10, i6 (↑i0 : Int))] [Ob.cells (sysC s)]) = some (Ex.exit 0, stOf 27 [4, 5, 7, 12, 13, 14, 15, 16, 17, 18, 19, 20, 21, 22, 23, 24, 25] [(0, AV.agg (sysC s)), (1, i6 n), (2, AV.ref 0 0), (6, i6 (P i0)), (8, AV.ref 0 0), (9, i6 (NSys.base s)), (10, i6 (↑i0 : Int)), (11, bo false)] [Ob.cells (sysC s)]) :=
  around_sound (ans := [(1, Ans.b false)]) (by kernel_rfl) (And.intro h0 trivial)
theorem power_plf (s : NSys) (n : Int) (P : Nat → Int) (X : Ext) (call : Caller) (lf : Nat) (i0 : Nat)
  (h0 : vexec Tryd.prog X call lf 0 noFg (Code.loop (loopN Tryd.f34 0)) (stOf 27 [] [(0, AV.agg (sysC s)), (1, i6 n), (2, AV.ref 0 0), (4, i6 0), (5, i6 0), (6, i6 (NSys.base s)), (8, AV.ref 0 0), (9, i6 (NSys.base s)), (10, i6 0)] [Ob.cells (sysC s)]) = some (Ex.exit 0, stOf 27 [4, 5, 7, 12, 13, 14, 15, 16, 17, 18, 19, 20, 21, 22, 23, 24, 25] [(0, AV.agg (sysC s)), (1, i6 n), (2, AV.ref 0 0), (6, i6 (P i0)), (8, AV.ref 0 0), (9, i6 (NSys.base s)), (10, i6 (↑i0 : Int)), (11, bo false)] [Ob.cells (sysC s)])) : vbody Tryd.prog X call lf noFg Tryd.f34 (codeOf Tryd.f34) [AV.agg (sysC s), i6 n] [] 0 = some (AV.tup [i6 (P i0), i6 2], [Ob.cells (sysC s)]) :=
  along_sound (ans := [(10, Ans.l (Ex.exit 0) (stOf 27 [4, 5, 7, 12, 13, 14, 15, 16, 17, 18, 19, 20, 21, 22, 23, 24, 25] [(0, AV.agg (sysC s)), (1, i6 n), (2, AV.ref 0 0), (6, i6 (P i0)), (8, AV.ref 0 0), (9, i6 (NSys.base s)), (10, i6 (↑i0 : Int)), (11, bo false)] [Ob.cells (sysC s)]))]) (by kernel_rfl) (And.intro h0 trivial)


/-- less: is a number said by subtraction? -/
def lessL (s : NSys) (q p r : Int) : Bool := decide (s.sub > 0) && (decide (r ≥ w6 (p - s.sub)) && decide (w6 (q + 1) < s.base))
theorem less_spec (s : NSys) (q p r : Int) (X : Ext) (call : Caller) (lf : Nat) : vbody Tryd.prog X call lf noFg Tryd.f35 (codeOf Tryd.f35) [AV.agg (sysC s), i6 q, i6 p, i6 r] [] 0 = some (bo (lessL s q p r), [Ob.cells (sysC s)]) := by
  unfold lessL
  cases h0 : decide (s.sub > 0) with
  | false => exact less_pf s q p r X call lf h0
  | true =>
    cases h1 : decide (r ≥ w6 (p - s.sub)) with
    | false => exact less_ptf s q p r X call lf h0 h1
    | true =>
      cases h2 : decide (w6 (q + 1) < s.base) with
      | false => exact less_pttf s q p r X call lf h0 h1 h2
      | true => exact less_pttt s q p r X call lf h0 h1 h2
def powK (s : NSys) (n : Int) : Nat := if s.base ^ 2 > n then 0 else if s.base ^ 3 > n then 1 else 2
abbrev D34 : List Nat := [25, 24, 23, 22, 21, 5, 4, 20, 19, 18, 17, 16, 15, 14, 13, 7, 12, 11]
theorem dead34 : (deadC (loopN Tryd.f34 0) ([], [])).2 = D34 := by kernel_rfl
def powF (s : NSys) (n : Int) (i : Nat) : St := (stOf 27 [4, 5, 7, 11, 12, 13, 14, 15, 16, 17, 18, 19, 20, 21, 22, 23, 24, 25] [(0, AV.agg (sysC s)), (1, i6 n), (2, AV.ref 0 0), (6, i6 (s.base ^ (i + 1))), (8, AV.ref 0 0), (9, i6 (NSys.base s)), (10, i6 (↑i : Int))] [Ob.cells (sysC s)])
theorem pow_mul {s : NSys} (hb : s.base = 10 ∨ s.base = 20) {i : Nat} (hi : i < 2) : w6 (s.base ^ (i + 1) * s.base) = s.base ^ (i + 2) := by
  have h : i = 0 ∨ i = 1 := by omega
  rcases hb with hb | hb <;> rcases h with rfl | rfl <;> rw [hb] <;> (show _ = _) <;> kernel_rfl
theorem pow_round {s : NSys} {n : Int} {X : Ext} {call : Caller} {lf : Nat} (hb : s.base = 10 ∨ s.base = 20) {i : Nat} (hi : i < 2) (hn : ¬ s.base ^ (i + 2) > n) :
    ∃ S1, vexec Tryd.prog X call lf 0 noFg (loopN Tryd.f34 0) (powF s n i) = some (.normal, S1) ∧ forget D34 S1 = powF s n (i + 1) := by
  refine ⟨_, power_r0_tf s n (fun i => s.base ^ (i + 1)) X call lf i (by simp; omega) (by simp only [pow_mul hb hi]; exact decide_eq_false hn), ?_⟩
  have e : w6 ((i : Int) + 1) = ((i + 1 : Nat) : Int) := wrap_small (by omega)
  simp only [pow_mul hb hi, e]
  show _ = _
  kernel_rfl
theorem power_spec (s : NSys) (n : Int) (X : Ext) (call : Caller) (lf : Nat) (hlf : 2 < lf) (hb : s.base = 10 ∨ s.base = 20) :
    vbody Tryd.prog X call lf noFg Tryd.f34 (codeOf Tryd.f34) [AV.agg (sysC s), i6 n] [] 0 = some (AV.tup [i6 (s.base ^ (powK s n + 1)), i6 (powK s n)], [Ob.cells (sysC s)]) := by
  have start : forget D34 (stOf 27 [] [(0, AV.agg (sysC s)), (1, i6 n), (2, AV.ref 0 0), (4, i6 0), (5, i6 0), (6, i6 (NSys.base s)), (8, AV.ref 0 0), (9, i6 (NSys.base s)), (10, i6 0)] [Ob.cells (sysC s)]) = powF s n 0 := by
    have e : s.base ^ (0 + 1) = s.base := by rw [Nat.zero_add]; exact Int.pow_one _
    unfold powF
    rw [e]
    show _ = _
    kernel_rfl
  unfold powK
  by_cases h2 : s.base ^ 2 > n
  · rw [if_pos h2]
    exact power_pltt s n (fun i => s.base ^ (i + 1)) X call lf 0 (loop_run (P := Tryd.prog) (X := X) (call := call) (lf := lf) (ro := 0) (fg := noFg) dead34 (powF s n) 0 (by omega) start (fun i hi => absurd hi (by omega))
      (power_r0_tt s n (fun i => s.base ^ (i + 1)) X call lf 0 (by simp) (by simp only [pow_mul hb (show 0 < 2 by omega)]; exact decide_eq_true h2)) (by simp))
  · rw [if_neg h2]
    by_cases h3 : s.base ^ 3 > n
    · rw [if_pos h3]
      exact power_pltt s n (fun i => s.base ^ (i + 1)) X call lf 1 (loop_run (P := Tryd.prog) (X := X) (call := call) (lf := lf) (ro := 0) (fg := noFg) dead34 (powF s n) 1 (by omega) start
        (fun i hi => by
          have : i = 0 := by omega
          subst this
          exact pow_round hb (by omega) h2)
        (power_r0_tt s n (fun i => s.base ^ (i + 1)) X call lf 1 (by simp) (by simp only [pow_mul hb (show 1 < 2 by omega)]; exact decide_eq_true h3)) (by simp))
    · rw [if_neg h3]
      exact power_plf s n (fun i => s.base ^ (i + 1)) X call lf 2 (loop_run (P := Tryd.prog) (X := X) (call := call) (lf := lf) (ro := 0) (fg := noFg) dead34 (powF s n) 2 (by omega) start
        (fun i hi => by
          have : i = 0 ∨ i = 1 := by omega
          rcases this with rfl | rfl
          · exact pow_round hb (by omega) h2
          · exact pow_round hb (by omega) h3)
        (power_r0_f s n (fun i => s.base ^ (i + 1)) X call lf 2 (by simp)) (by simp))
end Go.Proofs.Num
end
/- Numeral: Texts, Ints. -/
section
open Go Go.Vm Go.Proofs
namespace Go.Proofs.Num
theorem texts_pt (ka : LK) (kb : LK) (na : Nat) (nb : Nat) (sa : Nat) (sb : Nat) (a : List AV) (b : List AV) (X : Ext) (call : Caller) (lf : Nat)
  (h0 : ((↑na : Int) != (↑nb : Int)) = true) : vbody Tryd.prog X call lf noFg Tryd.f17 (codeOf Tryd.f17) [AV.list ka na sa a, AV.list kb nb sb b] [] 0 = some (bo false, []) :=
  along_sound (ans := [(7, Ans.b true)]) (by kernel_rfl) (And.intro h0 trivial)
theorem texts_r0_tt (ka : LK) (kb : LK) (na : Nat) (nb : Nat) (sa : Nat) (sb : Nat) (a : List AV) (b : List AV) (ra : List AV) (rb : List AV) (x : ByteArray) (y : ByteArray) (X : Ext) (call : Caller) (lf : Nat) (i0 : Nat)
  (h0 : decide ((↑i0 : Int) < (↑na : Int)) = true)
  (h1 : keep [] (indexAddrv Tryd.prog 22 [] (AV.list ka na sa a) (i6 (↑i0 : Int))) = some (AV.eaddr ra, []))
  (h2 : keep [] (loadv Tryd.prog 9 [] (AV.eaddr ra)) = some (st x, []))
  (h3 : keep [] (indexAddrv Tryd.prog 22 [] (AV.list kb nb sb b) (i6 (↑i0 : Int))) = some (AV.eaddr rb, []))
  (h4 : keep [] (loadv Tryd.prog 9 [] (AV.eaddr rb)) = some (st y, []))
  (h5 : (!ByteArray.toList x == ByteArray.toList y) = true) : vexec Tryd.prog X call lf 0 noFg (loopN Tryd.f17 0) (stOf 26 [4, 11, 12, 13, 14, 15, 16, 17, 18, 19, 20, 21, 22, 23, 24, 25] [(0, AV.list ka na sa a), (1, AV.list kb nb sb b), (5, i6 (↑i0 : Int)), (6, AV.list ka na sa a), (7, i6 (↑na : Int)), (8, AV.list kb nb sb b), (9, i6 (↑nb : Int)), (10, bo false)] []) = some (Ex.ret, stOf 26 [15, 16] [(0, AV.list ka na sa a), (1, AV.list kb nb sb b), (4, bo false), (5, i6 (↑i0 : Int)), (6, AV.list ka na sa a), (7, i6 (↑na : Int)), (8, AV.list kb nb sb b), (9, i6 (↑nb : Int)), (10, bo false), (11, i6 (↑i0 : Int)), (12, AV.list ka na sa a), (13, i6 (↑na : Int)), (14, bo true), (17, AV.list ka na sa a), (18, i6 (↑i0 : Int)), (19, AV.eaddr ra), (20, st x), (21, AV.list kb nb sb b), (22, i6 (↑i0 : Int)), (23, AV.eaddr rb), (24, st y), (25, bo true)] []) :=
  around_sound (ans := [(4, Ans.b true), (9, Ans.v (AV.eaddr ra)), (10, Ans.v (st x)), (13, Ans.v (AV.eaddr rb)), (14, Ans.v (st y)), (15, Ans.b true)]) (by kernel_rfl) (And.intro h0 (And.intro h1 (And.intro h2 (And.intro h3 (And.intro h4 (And.intro h5 trivial))))))
theorem texts_pfltt (ka : LK) (kb : LK) (na : Nat) (nb : Nat) (sa : Nat) (sb : Nat) (a : List AV) (b : List AV) (ra : List AV) (rb : List AV) (x : ByteArray) (y : ByteArray) (X : Ext) (call : Caller) (lf : Nat) (i0 : Nat)
  (h0 : ((↑na : Int) != (↑nb : Int)) = false)
  (h1 : vexec Tryd.prog X call lf 0 noFg (Code.loop (loopN Tryd.f17 0)) (stOf 26 [] [(0, AV.list ka na sa a), (1, AV.list kb nb sb b), (4, bo false), (5, i6 0), (6, AV.list ka na sa a), (7, i6 (↑na : Int)), (8, AV.list kb nb sb b), (9, i6 (↑nb : Int)), (10, bo false)] []) = some (Ex.ret, stOf 26 [15, 16] [(0, AV.list ka na sa a), (1, AV.list kb nb sb b), (4, bo false), (5, i6 (↑i0 : Int)), (6, AV.list ka na sa a), (7, i6 (↑na : Int)), (8, AV.list kb nb sb b), (9, i6 (↑nb : Int)), (10, bo false), (11, i6 (↑i0 : Int)), (12, AV.list ka na sa a), (13, i6 (↑na : Int)), (14, bo true), (17, AV.list ka na sa a), (18, i6 (↑i0 : Int)), (19, AV.eaddr ra), (20, st x), (21, AV.list kb nb sb b), (22, i6 (↑i0 : Int)), (23, AV.eaddr rb), (24, st y), (25, bo true)] [])) : vbody Tryd.prog X call lf noFg Tryd.f17 (codeOf Tryd.f17) [AV.list ka na sa a, AV.list kb nb sb b] [] 0 = some (bo false, []) :=
  along_sound (ans := [(7, Ans.b false), (11, Ans.l Ex.ret (stOf 26 [15, 16] [(0, AV.list ka na sa a), (1, AV.list kb nb sb b), (4, bo false), (5, i6 (↑i0 : Int)), (6, AV.list ka na sa a), (7, i6 (↑na : Int)), (8, AV.list kb nb sb b), (9, i6 (↑nb : Int)), (10, bo false), (11, i6 (↑i0 : Int)), (12, AV.list ka na sa a), (13, i6 (↑na : Int)), (14, bo true), (17, AV.list ka na sa a), (18, i6 (↑i0 : Int)), (19, AV.eaddr ra), (20, st x), (21, AV.list kb nb sb b), (22, i6 (↑i0 : Int)), (23, AV.eaddr rb), (24, st y), (25, bo true)] []))]) (by kernel_rfl) (And.intro h0 (And.intro h1 trivial))
theorem texts_r0_tf (ka : LK) (kb : LK) (na : Nat) (nb : Nat) (sa : Nat) (sb : Nat) (a : List AV) (b : List AV) (ra : List AV) (rb : List AV) (x : ByteArray) (y : ByteArray) (X : Ext) (call : Caller) (lf : Nat) (i0 : Nat)
  (h0 : decide ((↑i0 : Int) < (↑na : Int)) = true)
  (h1 : keep [] (indexAddrv Tryd.prog 22 [] (AV.list ka na sa a) (i6 (↑i0 : Int))) = some (AV.eaddr ra, []))
  (h2 : keep [] (loadv Tryd.prog 9 [] (AV.eaddr ra)) = some (st x, []))
  (h3 : keep [] (indexAddrv Tryd.prog 22 [] (AV.list kb nb sb b) (i6 (↑i0 : Int))) = some (AV.eaddr rb, []))
  (h4 : keep [] (loadv Tryd.prog 9 [] (AV.eaddr rb)) = some (st y, []))
  (h5 : (!ByteArray.toList x == ByteArray.toList y) = false) : vexec Tryd.prog X call lf 0 noFg (loopN Tryd.f17 0) (stOf 26 [4, 11, 12, 13, 14, 15, 16, 17, 18, 19, 20, 21, 22, 23, 24, 25] [(0, AV.list ka na sa a), (1, AV.list kb nb sb b), (5, i6 (↑i0 : Int)), (6, AV.list ka na sa a), (7, i6 (↑na : Int)), (8, AV.list kb nb sb b), (9, i6 (↑nb : Int)), (10, bo false)] []) = some (Ex.normal, stOf 26 [4] [(0, AV.list ka na sa a), (1, AV.list kb nb sb b), (5, i6 (w6 ((↑i0 : Int) + 1))), (6, AV.list ka na sa a), (7, i6 (↑na : Int)), (8, AV.list kb nb sb b), (9, i6 (↑nb : Int)), (10, bo false), (11, i6 (↑i0 : Int)), (12, AV.list ka na sa a), (13, i6 (↑na : Int)), (14, bo true), (15, i6 (↑i0 : Int)), (16, i6 (w6 ((↑i0 : Int) + 1))), (17, AV.list ka na sa a), (18, i6 (↑i0 : Int)), (19, AV.eaddr ra), (20, st x), (21, AV.list kb nb sb b), (22, i6 (↑i0 : Int)), (23, AV.eaddr rb), (24, st y), (25, bo false)] []) :=
  around_sound (ans := [(4, Ans.b true), (9, Ans.v (AV.eaddr ra)), (10, Ans.v (st x)), (13, Ans.v (AV.eaddr rb)), (14, Ans.v (st y)), (15, Ans.b false)]) (by kernel_rfl) (And.intro h0 (And.intro h1 (And.intro h2 (And.intro h3 (And.intro h4 (And.intro h5 trivial))))))
theorem texts_r0_f (ka : LK) (kb : LK) (na : Nat) (nb : Nat) (sa : Nat) (sb : Nat) (a : List AV) (b : List AV) (X : Ext) (call : Caller) (lf : Nat) (i0 : Nat)
  (h0 : decide ((↑i0 : Int) < (↑na : Int)) = false) : vexec Tryd.prog X call lf 0 noFg (loopN Tryd.f17 0) (stOf 26 [4, 11, 12, 13, 14, 15, 16, 17, 18, 19, 20, 21, 22, 23, 24, 25] [(0, AV.list ka na sa a), (1, AV.list kb nb sb b), (5, i6 (↑i0 : Int)), (6, AV.list ka na sa a), (7, i6 (↑na : Int)), (8, AV.list kb nb sb b), (9, i6 (↑nb : Int)), (10, bo false)] []) = some (Ex.exit 0, stOf 26 [4, 15, 16, 17, 18, 19, 20, 21, 22, 23, 24, 25] [(0, AV.list ka na sa a), (1, AV.list kb nb sb b), (5, i6 (↑i0 : Int)), (6, AV.list ka na sa a), (7, i6 (↑na : Int)), (8, AV.list kb nb sb b), (9, i6 (↑nb : Int)), (10, bo false), (11, i6 (↑i0 : Int)), (12, AV.list ka na sa a), (13, i6 (↑na : Int)), (14, bo false)] []) :=
  around_sound (ans := [(4, Ans.b false)]) (by kernel_rfl) (And.intro h0 trivial)
theorem texts_pflf (ka : LK) (kb : LK) (na : Nat) (nb : Nat) (sa : Nat) (sb : Nat) (a : List AV) (b : List AV) (X : Ext) (call : Caller) (lf : Nat) (i0 : Nat)
  (h0 : ((↑na : Int) != (↑nb : Int)) = false)
  (h1 : vexec Tryd.prog X call lf 0 noFg (Code.loop (loopN Tryd.f17 0)) (stOf 26 [] [(0, AV.list ka na sa a), (1, AV.list kb nb sb b), (4, bo false), (5, i6 0), (6, AV.list ka na sa a), (7, i6 (↑na : Int)), (8, AV.list kb nb sb b), (9, i6 (↑nb : Int)), (10, bo false)] []) = some (Ex.exit 0, stOf 26 [4, 15, 16, 17, 18, 19, 20, 21, 22, 23, 24, 25] [(0, AV.list ka na sa a), (1, AV.list kb nb sb b), (5, i6 (↑i0 : Int)), (6, AV.list ka na sa a), (7, i6 (↑na : Int)), (8, AV.list kb nb sb b), (9, i6 (↑nb : Int)), (10, bo false), (11, i6 (↑i0 : Int)), (12, AV.list ka na sa a), (13, i6 (↑na : Int)), (14, bo false)] [])) : vbody Tryd.prog X call lf noFg Tryd.f17 (codeOf Tryd.f17) [AV.list ka na sa a, AV.list kb nb sb b] [] 0 = some (bo true, []) :=
  along_sound (ans := [(7, Ans.b false), (11, Ans.l (Ex.exit 0) (stOf 26 [4, 15, 16, 17, 18, 19, 20, 21, 22, 23, 24, 25] [(0, AV.list ka na sa a), (1, AV.list kb nb sb b), (5, i6 (↑i0 : Int)), (6, AV.list ka na sa a), (7, i6 (↑na : Int)), (8, AV.list kb nb sb b), (9, i6 (↑nb : Int)), (10, bo false), (11, i6 (↑i0 : Int)), (12, AV.list ka na sa a), (13, i6 (↑na : Int)), (14, bo false)] []))]) (by kernel_rfl) (And.intro h0 (And.intro h1 trivial))
theorem ints_pt (ka : LK) (kb : LK) (na : Nat) (nb : Nat) (sa : Nat) (sb : Nat) (a : List AV) (b : List AV) (X : Ext) (call : Caller) (lf : Nat)
  (h0 : ((↑na : Int) != (↑nb : Int)) = true) : vbody Tryd.prog X call lf noFg Tryd.f19 (codeOf Tryd.f19) [AV.list ka na sa a, AV.list kb nb sb b] [] 0 = some (bo false, []) :=
  along_sound (ans := [(7, Ans.b true)]) (by kernel_rfl) (And.intro h0 trivial)
theorem ints_r0_tt (ka : LK) (kb : LK) (na : Nat) (nb : Nat) (sa : Nat) (sb : Nat) (a : List AV) (b : List AV) (ra : List AV) (rb : List AV) (x : Int) (y : Int) (X : Ext) (call : Caller) (lf : Nat) (i0 : Nat)
  (h0 : decide ((↑i0 : Int) < (↑na : Int)) = true)
  (h1 : keep [] (indexAddrv Tryd.prog 34 [] (AV.list ka na sa a) (i6 (↑i0 : Int))) = some (AV.eaddr ra, []))
  (h2 : keep [] (loadv Tryd.prog 3 [] (AV.eaddr ra)) = some (i6 x, []))
  (h3 : keep [] (indexAddrv Tryd.prog 34 [] (AV.list kb nb sb b) (i6 (↑i0 : Int))) = some (AV.eaddr rb, []))
  (h4 : keep [] (loadv Tryd.prog 3 [] (AV.eaddr rb)) = some (i6 y, []))
  (h5 : (x != y) = true) : vexec Tryd.prog X call lf 0 noFg (loopN Tryd.f19 0) (stOf 26 [4, 11, 12, 13, 14, 15, 16, 17, 18, 19, 20, 21, 22, 23, 24, 25] [(0, AV.list ka na sa a), (1, AV.list kb nb sb b), (5, i6 (↑i0 : Int)), (6, AV.list ka na sa a), (7, i6 (↑na : Int)), (8, AV.list kb nb sb b), (9, i6 (↑nb : Int)), (10, bo false)] []) = some (Ex.ret, stOf 26 [15, 16] [(0, AV.list ka na sa a), (1, AV.list kb nb sb b), (4, bo false), (5, i6 (↑i0 : Int)), (6, AV.list ka na sa a), (7, i6 (↑na : Int)), (8, AV.list kb nb sb b), (9, i6 (↑nb : Int)), (10, bo false), (11, i6 (↑i0 : Int)), (12, AV.list ka na sa a), (13, i6 (↑na : Int)), (14, bo true), (17, AV.list ka na sa a), (18, i6 (↑i0 : Int)), (19, AV.eaddr ra), (20, i6 x), (21, AV.list kb nb sb b), (22, i6 (↑i0 : Int)), (23, AV.eaddr rb), (24, i6 y), (25, bo true)] []) :=
  around_sound (ans := [(4, Ans.b true), (9, Ans.v (AV.eaddr ra)), (10, Ans.v (i6 x)), (13, Ans.v (AV.eaddr rb)), (14, Ans.v (i6 y)), (15, Ans.b true)]) (by kernel_rfl) (And.intro h0 (And.intro h1 (And.intro h2 (And.intro h3 (And.intro h4 (And.intro h5 trivial))))))
theorem ints_pfltt (ka : LK) (kb : LK) (na : Nat) (nb : Nat) (sa : Nat) (sb : Nat) (a : List AV) (b : List AV) (ra : List AV) (rb : List AV) (x : Int) (y : Int) (X : Ext) (call : Caller) (lf : Nat) (i0 : Nat)
  (h0 : ((↑na : Int) != (↑nb : Int)) = false)
  (h1 : vexec Tryd.prog X call lf 0 noFg (Code.loop (loopN Tryd.f19 0)) (stOf 26 [] [(0, AV.list ka na sa a), (1, AV.list kb nb sb b), (4, bo false), (5, i6 0), (6, AV.list ka na sa a), (7, i6 (↑na : Int)), (8, AV.list kb nb sb b), (9, i6 (↑nb : Int)), (10, bo false)] []) = some (Ex.ret, stOf 26 [15, 16] [(0, AV.list ka na sa a), (1, AV.list kb nb sb b), (4, bo false), (5, i6 (↑i0 : Int)), (6, AV.list ka na sa a), (7, i6 (↑na : Int)), (8, AV.list kb nb sb b), (9, i6 (↑nb : Int)), (10, bo false), (11, i6 (↑i0 : Int)), (12, AV.list ka na sa a), (13, i6 (↑na : Int)), (14, bo true), (17, AV.list ka na sa a), (18, i6 (↑i0 : Int)), (19, AV.eaddr ra), (20, i6 x), (21, AV.list kb nb sb b), (22, i6 (↑i0 : Int)), (23, AV.eaddr rb), (24, i6 y), (25, bo true)] [])) : vbody Tryd.prog X call lf noFg Tryd.f19 (codeOf Tryd.f19) [AV.list ka na sa a, AV.list kb nb sb b] [] 0 = some (bo false, []) :=
  along_sound (ans := [(7, Ans.b false), (11, Ans.l Ex.ret (stOf 26 [15, 16] [(0, AV.list ka na sa a), (1, AV.list kb nb sb b), (4, bo false), (5, i6 (↑i0 : Int)), (6, AV.list ka na sa a), (7, i6 (↑na : Int)), (8, AV.list kb nb sb b), (9, i6 (↑nb : Int)), (10, bo false), (11, i6 (↑i0 : Int)), (12, AV.list ka na sa a), (13, i6 (↑na : Int)), (14, bo true), (17, AV.list ka na sa a), (18, i6 (↑i0 : Int)), (19, AV.eaddr ra), (20, i6 x), (21, AV.list kb nb sb b), (22, i6 (↑i0 : Int)), (23, AV.eaddr rb), (24, i6 y), (25, bo true)] []))]) (by kernel_rfl) (And.intro h0 (And.intro h1 trivial))
theorem ints_r0_tf (ka : LK) (kb : LK) (na : Nat) (nb : Nat) (sa : Nat) (sb : Nat) (a : List AV) (b : List AV) (ra : List AV) (rb : List AV) (x : Int) (y : Int) (X : Ext) (call : Caller) (lf : Nat) (i0 : Nat)
  (h0 : decide ((↑i0 : Int) < (↑na : Int)) = true)
  (h1 : keep [] (indexAddrv Tryd.prog 34 [] (AV.list ka na sa a) (i6 (↑i0 : Int))) = some (AV.eaddr ra, []))
  (h2 : keep [] (loadv Tryd.prog 3 [] (AV.eaddr ra)) = some (i6 x, []))
  (h3 : keep [] (indexAddrv Tryd.prog 34 [] (AV.list kb nb sb b) (i6 (↑i0 : Int))) = some (AV.eaddr rb, []))
  (h4 : keep [] (loadv Tryd.prog 3 [] (AV.eaddr rb)) = some (i6 y, []))
  (h5 : (x != y) = false) : vexec Tryd.prog X call lf 0 noFg (loopN Tryd.f19 0) (stOf 26 [4, 11, 12, 13, 14, 15, 16, 17, 18, 19, 20, 21, 22, 23, 24, 25] [(0, AV.list ka na sa a), (1, AV.list kb nb sb b), (5, i6 (↑i0 : Int)), (6, AV.list ka na sa a), (7, i6 (↑na : Int)), (8, AV.list kb nb sb b), (9, i6 (↑nb : Int)), (10, bo false)] []) = some (Ex.normal, stOf 26 [4] [(0, AV.list ka na sa a), (1, AV.list kb nb sb b), (5, i6 (w6 ((↑i0 : Int) + 1))), (6, AV.list ka na sa a), (7, i6 (↑na : Int)), (8, AV.list kb nb sb b), (9, i6 (↑nb : Int)), (10, bo false), (11, i6 (↑i0 : Int)), (12, AV.list ka na sa a), (13, i6 (↑na : Int)), (14, bo true), (15, i6 (↑i0 : Int)), (16, i6 (w6 ((↑i0 : Int) + 1))), (17, AV.list ka na sa a), (18, i6 (↑i0 : Int)), (19, AV.eaddr ra), (20, i6 x), (21, AV.list kb nb sb b), (22, i6 (↑i0 : Int)), (23, AV.eaddr rb), (24, i6 y), (25, bo false)] []) :=
  around_sound (ans := [(4, Ans.b true), (9, Ans.v (AV.eaddr ra)), (10, Ans.v (i6 x)), (13, Ans.v (AV.eaddr rb)), (14, Ans.v (i6 y)), (15, Ans.b false)]) (by kernel_rfl) (And.intro h0 (And.intro h1 (And.intro h2 (And.intro h3 (And.intro h4 (And.intro h5 trivial))))))
theorem ints_r0_f (ka : LK) (kb : LK) (na : Nat) (nb : Nat) (sa : Nat) (sb : Nat) (a : List AV) (b : List AV) (X : Ext) (call : Caller) (lf : Nat) (i0 : Nat)
  (h0 : decide ((↑i0 : Int) < (↑na : Int)) = false) : vexec Tryd.prog X call lf 0 noFg (loopN Tryd.f19 0) (stOf 26 [4, 11, 12, 13, 14, 15, 16, 17, 18, 19, 20, 21, 22, 23, 24, 25] [(0, AV.list ka na sa a), (1, AV.list kb nb sb b), (5, i6 (↑i0 : Int)), (6, AV.list ka na sa a), (7, i6 (↑na : Int)), (8, AV.list kb nb sb b), (9, i6 (↑nb : Int)), (10, bo false)] []) = some (Ex.exit 0, stOf 26 [4, 15, 16, 17, 18, 19, 20, 21, 22, 23, 24, 25] [(0, AV.list ka na sa a), (1, AV.list kb nb sb b), (5, i6 (↑i0 : Int)), (6, AV.list ka na sa a), (7, i6 (↑na : Int)), (8, AV.list kb nb sb b), (9, i6 (↑nb : Int)), (10, bo false), (11, i6 (↑i0 : Int)), (12, AV.list ka na sa a), (13, i6 (↑na : Int)), (14, bo false)] []) :=
  around_sound (ans := [(4, Ans.b false)]) (by kernel_rfl) (And.intro h0 trivial)
theorem ints_pflf (ka : LK) (kb : LK) (na : Nat) (nb : Nat) (sa : Nat) (sb : Nat) (a : List AV) (b : List AV) (X : Ext) (call : Caller) (lf : Nat) (i0 : Nat)
  (h0 : ((↑na : Int) != (↑nb : Int)) = false)
  (h1 : vexec Tryd.prog X call lf 0 noFg (Code.loop (loopN Tryd.f19 0)) (stOf 26 [] [(0, AV.list ka na sa a), (1, AV.list kb nb sb b), (4, bo false), (5, i6 0), (6, AV.list ka na sa a), (7, i6 (↑na : Int)), (8, AV.list kb nb sb b), (9, i6 (↑nb : Int)), (10, bo false)] []) = some (Ex.exit 0, stOf 26 [4, 15, 16, 17, 18, 19, 20, 21, 22, 23, 24, 25] [(0, AV.list ka na sa a), (1, AV.list kb nb sb b), (5, i6 (↑i0 : Int)), (6, AV.list ka na sa a), (7, i6 (↑na : Int)), (8, AV.list kb nb sb b), (9, i6 (↑nb : Int)), (10, bo false), (11, i6 (↑i0 : Int)), (12, AV.list ka na sa a), (13, i6 (↑na : Int)), (14, bo false)] [])) : vbody Tryd.prog X call lf noFg Tryd.f19 (codeOf Tryd.f19) [AV.list ka na sa a, AV.list kb nb sb b] [] 0 = some (bo true, []) :=
  along_sound (ans := [(7, Ans.b false), (11, Ans.l (Ex.exit 0) (stOf 26 [4, 15, 16, 17, 18, 19, 20, 21, 22, 23, 24, 25] [(0, AV.list ka na sa a), (1, AV.list kb nb sb b), (5, i6 (↑i0 : Int)), (6, AV.list ka na sa a), (7, i6 (↑na : Int)), (8, AV.list kb nb sb b), (9, i6 (↑nb : Int)), (10, bo false), (11, i6 (↑i0 : Int)), (12, AV.list ka na sa a), (13, i6 (↑na : Int)), (14, bo false)] []))]) (by kernel_rfl) (And.intro h0 (And.intro h1 trivial))


def textsL : List ByteArray → List ByteArray → Bool
  | [], [] => true
  | x :: l, y :: m => (x.toList == y.toList) && textsL l m
  | _, _ => false
theorem textsL_len : ∀ {l m : List ByteArray}, l.length ≠ m.length → textsL l m = false
  | [], [], h => absurd rfl h
  | x :: l, y :: m, h => by simp only [textsL, textsL_len (l := l) (m := m) (by simpa using h), Bool.and_false]
  | [], _ :: _, _ => rfl
  | _ :: _, [], _ => rfl
theorem textsL_all : ∀ {l m : List ByteArray}, l.length = m.length → (∀ (i : Nat) (x y : ByteArray), l[i]? = some x → m[i]? = some y → (x.toList == y.toList) = true) → textsL l m = true
  | [], [], _, _ => rfl
  | x :: l, y :: m, h, k => by
    simp only [textsL, k 0 x y rfl rfl, Bool.true_and]
    exact textsL_all (by simpa using h) fun i a b ha hb => k (i + 1) a b ha hb
  | [], _ :: _, h, _ => by simp at h
  | _ :: _, [], h, _ => by simp at h
theorem textsL_at : ∀ {l m : List ByteArray} (i : Nat) {x y : ByteArray}, l[i]? = some x → m[i]? = some y → (x.toList == y.toList) = false → textsL l m = false
  | a :: l, b :: m, 0, x, y, h, k, e => by
    simp only [List.getElem?_cons_zero, Option.some.injEq] at h k
    subst h; subst k
    simp only [textsL, e, Bool.false_and]
  | a :: l, b :: m, i + 1, x, y, h, k, e => by
    simp only [textsL, textsL_at (l := l) (m := m) i h k e, Bool.and_false]
  | [], _, _, _, _, h, _, _ => by simp at h
  | _ :: _, [], _, _, _, _, h, _ => by simp at h
abbrev D17 : List Nat := [16, 15, 4, 25, 24, 23, 22, 21, 20, 19, 18, 17, 14, 13, 12, 11]
theorem dead17 : (deadC (loopN Tryd.f17 0) ([], [])).2 = D17 := by kernel_rfl
def textsF (ka kb : LK) (na nb sa sb : Nat) (a b : List AV) (i : Nat) : St := (stOf 26 [4, 11, 12, 13, 14, 15, 16, 17, 18, 19, 20, 21, 22, 23, 24, 25] [(0, AV.list ka na sa a), (1, AV.list kb nb sb b), (5, i6 (↑i : Int)), (6, AV.list ka na sa a), (7, i6 (↑na : Int)), (8, AV.list kb nb sb b), (9, i6 (↑nb : Int)), (10, bo false)] [])
theorem texts_spec (X : Ext) (call : Caller) (lf : Nat) (ka kb : LK) (sa sb : Nat) {l m : List ByteArray} {a b : List AV} (hk : l.length ≤ 140737488355328) (hlf : l.length < lf) (ha : 0 < l.length → sa = 1 ∧ a = l.map st) (hb : 0 < m.length → sb = 1 ∧ b = m.map st) :
    vbody Tryd.prog X call lf noFg Tryd.f17 (codeOf Tryd.f17) [AV.list ka l.length sa a, AV.list kb m.length sb b] [] 0 = some (bo (textsL l m), []) := by
  cases hne : ((↑l.length : Int) != (↑m.length : Int)) with
  | true =>
    have : l.length ≠ m.length := by
      intro e
      rw [e] at hne
      simp at hne
    rw [texts_pt ka kb l.length m.length sa sb a b X call lf hne, textsL_len this]
  | false =>
    have hlen : l.length = m.length := by
      have : ((l.length : Int) = (m.length : Int)) := by simpa using hne
      omega
    have start : forget D17 (stOf 26 [] [(0, AV.list ka l.length sa a), (1, AV.list kb m.length sb b), (4, bo false), (5, i6 0), (6, AV.list ka l.length sa a), (7, i6 (↑l.length : Int)), (8, AV.list kb m.length sb b), (9, i6 (↑m.length : Int)), (10, bo false)] []) = textsF ka kb l.length m.length sa sb a b 0 := by kernel_rfl
    have at1 : ∀ i (hi : i < l.length), keep [] (indexAddrv Tryd.prog 22 [] (AV.list ka l.length sa a) (i6 (↑i : Int))) = some (AV.eaddr (a.drop i), []) ∧ keep [] (loadv Tryd.prog 9 [] (AV.eaddr (a.drop i))) = some (st (l[i]'hi), []) := by
      intro i hi
      obtain ⟨rfl, rfl⟩ := ha (by omega)
      exact ⟨at_list Tryd.underlying22 cells9 info9 hi, load_list Tryd.underlying9 rfl (by simp [hi])⟩
    have at2 : ∀ i (hi : i < m.length), keep [] (indexAddrv Tryd.prog 22 [] (AV.list kb m.length sb b) (i6 (↑i : Int))) = some (AV.eaddr (b.drop i), []) ∧ keep [] (loadv Tryd.prog 9 [] (AV.eaddr (b.drop i))) = some (st (m[i]'hi), []) := by
      intro i hi
      obtain ⟨rfl, rfl⟩ := hb (by omega)
      exact ⟨at_list Tryd.underlying22 cells9 info9 hi, load_list Tryd.underlying9 rfl (by simp [hi])⟩
    have round : ∀ i (hi : i < l.length), (!ByteArray.toList (l[i]'hi) == ByteArray.toList (m[i]'(hlen ▸ hi))) = false → ∃ S1, vexec Tryd.prog X call lf 0 noFg (loopN Tryd.f17 0) (textsF ka kb l.length m.length sa sb a b i) = some (.normal, S1) ∧ forget D17 S1 = textsF ka kb l.length m.length sa sb a b (i + 1) := by
      intro i hi he
      obtain ⟨q1, q2⟩ := at1 i hi
      obtain ⟨q3, q4⟩ := at2 i (hlen ▸ hi)
      refine ⟨_, texts_r0_tf ka kb l.length m.length sa sb a b (a.drop i) (b.drop i) (l[i]'hi) (m[i]'(hlen ▸ hi)) X call lf i (by simpa using hi) q1 q2 q3 q4 he, ?_⟩
      have e : w6 ((i : Int) + 1) = ((i + 1 : Nat) : Int) := wrap_small (by omega)
      rw [e]
      show _ = _
      kernel_rfl
    rcases first_fail (p := fun i => ∀ hi : i < l.length, (!ByteArray.toList (l[i]'hi) == ByteArray.toList (m[i]'(hlen ▸ hi))) = false) l.length with hall | ⟨k, hk', hbad, hbefore⟩
    · have hloop := loop_run (P := Tryd.prog) (X := X) (call := call) (lf := lf) (ro := 0) (fg := noFg) dead17 (textsF ka kb l.length m.length sa sb a b) l.length hlf start (fun i hi => round i hi (hall i hi hi))
        (texts_r0_f ka kb l.length m.length sa sb a b X call lf l.length (by simp)) (by simp)
      rw [texts_pflf ka kb l.length m.length sa sb a b X call lf l.length hne hloop, textsL_all hlen]
      intro i x y hx hy
      obtain ⟨hi, rfl⟩ := List.getElem?_eq_some_iff.1 hx
      obtain ⟨hj, rfl⟩ := List.getElem?_eq_some_iff.1 hy
      have := hall i hi hi
      simpa using this
    · have hbt : (!ByteArray.toList (l[k]'hk') == ByteArray.toList (m[k]'(hlen ▸ hk'))) = true := by
        cases h : (!ByteArray.toList (l[k]'hk') == ByteArray.toList (m[k]'(hlen ▸ hk'))) with
        | true => rfl
        | false => exact absurd (fun _ => h) hbad
      obtain ⟨q1, q2⟩ := at1 k hk'
      obtain ⟨q3, q4⟩ := at2 k (hlen ▸ hk')
      have hloop := loop_run (P := Tryd.prog) (X := X) (call := call) (lf := lf) (ro := 0) (fg := noFg) dead17 (textsF ka kb l.length m.length sa sb a b) k (Nat.lt_trans hk' hlf) start (fun i hi => round i (Nat.lt_trans hi hk') (hbefore i hi (Nat.lt_trans hi hk')))
        (texts_r0_tt ka kb l.length m.length sa sb a b (a.drop k) (b.drop k) (l[k]'hk') (m[k]'(hlen ▸ hk')) X call lf k (by simpa using hk') q1 q2 q3 q4 hbt) (by simp)
      rw [texts_pfltt ka kb l.length m.length sa sb a b (a.drop k) (b.drop k) (l[k]'hk') (m[k]'(hlen ▸ hk')) X call lf k hne hloop,
        textsL_at k (List.getElem?_eq_getElem hk') (List.getElem?_eq_getElem (hlen ▸ hk')) (by simpa using hbt)]

theorem cells3 : Tryd.prog.cellsOf 3 = 1 := by kernel_rfl
theorem info3 : (Tryd.prog.info? 3).isSome = true := by kernel_rfl

def intsL : List Int → List Int → Bool
  | [], [] => true
  | x :: l, y :: m => (x == y) && intsL l m
  | _, _ => false
theorem intsL_len : ∀ {l m : List Int}, l.length ≠ m.length → intsL l m = false
  | [], [], h => absurd rfl h
  | x :: l, y :: m, h => by simp only [intsL, intsL_len (l := l) (m := m) (by simpa using h), Bool.and_false]
  | [], _ :: _, _ => rfl
  | _ :: _, [], _ => rfl
theorem intsL_all : ∀ {l m : List Int}, l.length = m.length → (∀ (i : Nat) (x y : Int), l[i]? = some x → m[i]? = some y → (x == y) = true) → intsL l m = true
  | [], [], _, _ => rfl
  | x :: l, y :: m, h, k => by
    simp only [intsL, k 0 x y rfl rfl, Bool.true_and]
    exact intsL_all (by simpa using h) fun i a b ha hb => k (i + 1) a b ha hb
  | [], _ :: _, h, _ => by simp at h
  | _ :: _, [], h, _ => by simp at h
theorem intsL_at : ∀ {l m : List Int} (i : Nat) {x y : Int}, l[i]? = some x → m[i]? = some y → (x == y) = false → intsL l m = false
  | a :: l, b :: m, 0, x, y, h, k, e => by
    simp only [List.getElem?_cons_zero, Option.some.injEq] at h k
    subst h; subst k
    simp only [intsL, e, Bool.false_and]
  | a :: l, b :: m, i + 1, x, y, h, k, e => by
    simp only [intsL, intsL_at (l := l) (m := m) i h k e, Bool.and_false]
  | [], _, _, _, _, h, _, _ => by simp at h
  | _ :: _, [], _, _, _, _, h, _ => by simp at h
abbrev D19 : List Nat := [16, 15, 4, 25, 24, 23, 22, 21, 20, 19, 18, 17, 14, 13, 12, 11]
theorem dead19 : (deadC (loopN Tryd.f19 0) ([], [])).2 = D19 := by kernel_rfl
def intsF (ka kb : LK) (na nb sa sb : Nat) (a b : List AV) (i : Nat) : St := (stOf 26 [4, 11, 12, 13, 14, 15, 16, 17, 18, 19, 20, 21, 22, 23, 24, 25] [(0, AV.list ka na sa a), (1, AV.list kb nb sb b), (5, i6 (↑i : Int)), (6, AV.list ka na sa a), (7, i6 (↑na : Int)), (8, AV.list kb nb sb b), (9, i6 (↑nb : Int)), (10, bo false)] [])
theorem ints_spec (X : Ext) (call : Caller) (lf : Nat) (ka kb : LK) (sa sb : Nat) {l m : List Int} {a b : List AV} (hk : l.length ≤ 140737488355328) (hlf : l.length < lf) (ha : 0 < l.length → sa = 1 ∧ a = l.map i6) (hb : 0 < m.length → sb = 1 ∧ b = m.map i6) :
    vbody Tryd.prog X call lf noFg Tryd.f19 (codeOf Tryd.f19) [AV.list ka l.length sa a, AV.list kb m.length sb b] [] 0 = some (bo (intsL l m), []) := by
  cases hne : ((↑l.length : Int) != (↑m.length : Int)) with
  | true =>
    have : l.length ≠ m.length := by
      intro e
      rw [e] at hne
      simp at hne
    rw [ints_pt ka kb l.length m.length sa sb a b X call lf hne, intsL_len this]
  | false =>
    have hlen : l.length = m.length := by
      have : ((l.length : Int) = (m.length : Int)) := by simpa using hne
      omega
    have start : forget D19 (stOf 26 [] [(0, AV.list ka l.length sa a), (1, AV.list kb m.length sb b), (4, bo false), (5, i6 0), (6, AV.list ka l.length sa a), (7, i6 (↑l.length : Int)), (8, AV.list kb m.length sb b), (9, i6 (↑m.length : Int)), (10, bo false)] []) = intsF ka kb l.length m.length sa sb a b 0 := by kernel_rfl
    have at1 : ∀ i (hi : i < l.length), keep [] (indexAddrv Tryd.prog 34 [] (AV.list ka l.length sa a) (i6 (↑i : Int))) = some (AV.eaddr (a.drop i), []) ∧ keep [] (loadv Tryd.prog 3 [] (AV.eaddr (a.drop i))) = some (i6 (l[i]'hi), []) := by
      intro i hi
      obtain ⟨rfl, rfl⟩ := ha (by omega)
      exact ⟨at_list Tryd.underlying34 cells3 info3 hi, load_list Tryd.underlying3 rfl (by simp [hi])⟩
    have at2 : ∀ i (hi : i < m.length), keep [] (indexAddrv Tryd.prog 34 [] (AV.list kb m.length sb b) (i6 (↑i : Int))) = some (AV.eaddr (b.drop i), []) ∧ keep [] (loadv Tryd.prog 3 [] (AV.eaddr (b.drop i))) = some (i6 (m[i]'hi), []) := by
      intro i hi
      obtain ⟨rfl, rfl⟩ := hb (by omega)
      exact ⟨at_list Tryd.underlying34 cells3 info3 hi, load_list Tryd.underlying3 rfl (by simp [hi])⟩
    have round : ∀ i (hi : i < l.length), ((l[i]'hi) != (m[i]'(hlen ▸ hi))) = false → ∃ S1, vexec Tryd.prog X call lf 0 noFg (loopN Tryd.f19 0) (intsF ka kb l.length m.length sa sb a b i) = some (.normal, S1) ∧ forget D19 S1 = intsF ka kb l.length m.length sa sb a b (i + 1) := by
      intro i hi he
      obtain ⟨q1, q2⟩ := at1 i hi
      obtain ⟨q3, q4⟩ := at2 i (hlen ▸ hi)
      refine ⟨_, ints_r0_tf ka kb l.length m.length sa sb a b (a.drop i) (b.drop i) (l[i]'hi) (m[i]'(hlen ▸ hi)) X call lf i (by simpa using hi) q1 q2 q3 q4 he, ?_⟩
      have e : w6 ((i : Int) + 1) = ((i + 1 : Nat) : Int) := wrap_small (by omega)
      rw [e]
      show _ = _
      kernel_rfl
    rcases first_fail (p := fun i => ∀ hi : i < l.length, ((l[i]'hi) != (m[i]'(hlen ▸ hi))) = false) l.length with hall | ⟨k, hk', hbad, hbefore⟩
    · have hloop := loop_run (P := Tryd.prog) (X := X) (call := call) (lf := lf) (ro := 0) (fg := noFg) dead19 (intsF ka kb l.length m.length sa sb a b) l.length hlf start (fun i hi => round i hi (hall i hi hi))
        (ints_r0_f ka kb l.length m.length sa sb a b X call lf l.length (by simp)) (by simp)
      rw [ints_pflf ka kb l.length m.length sa sb a b X call lf l.length hne hloop, intsL_all hlen]
      intro i x y hx hy
      obtain ⟨hi, rfl⟩ := List.getElem?_eq_some_iff.1 hx
      obtain ⟨hj, rfl⟩ := List.getElem?_eq_some_iff.1 hy
      have := hall i hi hi
      simpa using this
    · have hbt : ((l[k]'hk') != (m[k]'(hlen ▸ hk'))) = true := by
        cases h : ((l[k]'hk') != (m[k]'(hlen ▸ hk'))) with
        | true => rfl
        | false => exact absurd (fun _ => h) hbad
      obtain ⟨q1, q2⟩ := at1 k hk'
      obtain ⟨q3, q4⟩ := at2 k (hlen ▸ hk')
      have hloop := loop_run (P := Tryd.prog) (X := X) (call := call) (lf := lf) (ro := 0) (fg := noFg) dead19 (intsF ka kb l.length m.length sa sb a b) k (Nat.lt_trans hk' hlf) start (fun i hi => round i (Nat.lt_trans hi hk') (hbefore i hi (Nat.lt_trans hi hk')))
        (ints_r0_tt ka kb l.length m.length sa sb a b (a.drop k) (b.drop k) (l[k]'hk') (m[k]'(hlen ▸ hk')) X call lf k (by simpa using hk') q1 q2 q3 q4 hbt) (by simp)
      rw [ints_pfltt ka kb l.length m.length sa sb a b (a.drop k) (b.drop k) (l[k]'hk') (m[k]'(hlen ▸ hk')) X call lf k hne hloop,
        intsL_at k (List.getElem?_eq_getElem hk') (List.getElem?_eq_getElem (hlen ▸ hk')) (by simpa using hbt)]
end Go.Proofs.Num
end
/- Numeral: english; the paths of Words. -/
section
open Go Go.Vm Go.Proofs
namespace Go.Proofs.Num
theorem english_p (X : Ext) (call : Caller) (lf : Nat) : vbody Tryd.prog X call lf noFg Tryd.f32 (codeOf Tryd.f32) [] [] 0 = some (AV.agg [i6 10, AV.list LK.clip 10 1 [st (ByteArray.mk #[122, 101, 114, 111]), st (ByteArray.mk #[111, 110, 101]), st (ByteArray.mk #[116, 119, 111]), st (ByteArray.mk #[116, 104, 114, 101, 101]), st (ByteArray.mk #[102, 111, 117, 114]), st (ByteArray.mk #[102, 105, 118, 101]), st (ByteArray.mk #[115, 105, 120]), st (ByteArray.mk #[115, 101, 118, 101, 110]), st (ByteArray.mk #[101, 105, 103, 104, 116]), st (ByteArray.mk #[110, 105, 110, 101])], AV.list LK.clip 3 1 [st (ByteArray.mk #[116, 101, 110]), st (ByteArray.mk #[104, 117, 110, 100, 114, 101, 100]), st (ByteArray.mk #[116, 104, 111, 117, 115, 97, 110, 100])], bo false, st (ByteArray.mk #[97, 110, 100]), i6 2, st (ByteArray.mk #[102, 114, 111, 109]), bo false], [Ob.cells [i6 10, AV.list LK.clip 10 1 [st (ByteArray.mk #[122, 101, 114, 111]), st (ByteArray.mk #[111, 110, 101]), st (ByteArray.mk #[116, 119, 111]), st (ByteArray.mk #[116, 104, 114, 101, 101]), st (ByteArray.mk #[102, 111, 117, 114]), st (ByteArray.mk #[102, 105, 118, 101]), st (ByteArray.mk #[115, 105, 120]), st (ByteArray.mk #[115, 101, 118, 101, 110]), st (ByteArray.mk #[101, 105, 103, 104, 116]), st (ByteArray.mk #[110, 105, 110, 101])], AV.list LK.clip 3 1 [st (ByteArray.mk #[116, 101, 110]), st (ByteArray.mk #[104, 117, 110, 100, 114, 101, 100]), st (ByteArray.mk #[116, 104, 111, 117, 115, 97, 110, 100])], bo false, st (ByteArray.mk #[97, 110, 100]), i6 2, st (ByteArray.mk #[102, 114, 111, 109]), bo false]]) :=
  along_sound (ans := []) (by kernel_rfl) trivial
theorem words_ptt (s : NSys) (n : Int) (X : Ext) (call : Caller) (lf : Nat)
  (h0 : callv X call false 22 [AV.agg (sysC s)] [Ob.cells (sysC s)] 0 = some (bo true, [Ob.cells (sysC s)]))
  (h1 : decide (n < 0) = true) : vbody Tryd.prog X call lf noFg Tryd.f16 (codeOf Tryd.f16) [AV.agg (sysC s), i6 n] [] 0 = some (AV.tup [AV.list LK.nil 0 0 [], i6 1], [Ob.cells (sysC s)]) :=
  along_sound (ans := [(6, Ans.v (bo true)), (12, Ans.b true)]) (by kernel_rfl) (And.intro h0 (And.intro h1 trivial))
theorem words_ptft (s : NSys) (n : Int) (X : Ext) (call : Caller) (lf : Nat)
  (h0 : callv X call false 22 [AV.agg (sysC s)] [Ob.cells (sysC s)] 0 = some (bo true, [Ob.cells (sysC s)]))
  (h1 : decide (n < 0) = false)
  (h2 : decide (n > 9999) = true) : vbody Tryd.prog X call lf noFg Tryd.f16 (codeOf Tryd.f16) [AV.agg (sysC s), i6 n] [] 0 = some (AV.tup [AV.list LK.nil 0 0 [], i6 2], [Ob.cells (sysC s)]) :=
  along_sound (ans := [(6, Ans.v (bo true)), (12, Ans.b false), (17, Ans.b true)]) (by kernel_rfl) (And.intro h0 (And.intro h1 (And.intro h2 trivial)))
theorem words_ptff (s : NSys) (n : Int) (n' : Nat) (cs : List AV) (X : Ext) (call : Caller) (lf : Nat)
  (h0 : callv X call false 22 [AV.agg (sysC s)] [Ob.cells (sysC s)] 0 = some (bo true, [Ob.cells (sysC s)]))
  (h1 : decide (n < 0) = false)
  (h2 : decide (n > 9999) = false)
  (h3 : callv X call false 33 [i6 n, AV.ref 0 0, AV.ref 1 0] [Ob.cells (sysC s), Ob.cells [AV.clo 33 [AV.ref 0 0, AV.ref 1 0]]] 0 = some (lro n' 1 cs, [Ob.cells (sysC s), Ob.cells [AV.clo 33 [AV.ref 0 0, AV.ref 1 0]]]))
  (h4 : vend1 [] 0 [Ob.cells (sysC s), Ob.cells [AV.clo 33 [AV.ref 0 0, AV.ref 1 0]]] [lro n' 1 cs, i6 0] = some (AV.tup [lro n' 1 cs, i6 0], [Ob.cells (sysC s), Ob.cells [AV.clo 33 [AV.ref 0 0, AV.ref 1 0]]])) : vbody Tryd.prog X call lf noFg Tryd.f16 (codeOf Tryd.f16) [AV.agg (sysC s), i6 n] [] 0 = some (AV.tup [lro n' 1 cs, i6 0], [Ob.cells (sysC s), Ob.cells [AV.clo 33 [AV.ref 0 0, AV.ref 1 0]]]) :=
  along_sound (ans := [(6, Ans.v (bo true)), (12, Ans.b false), (17, Ans.b false), (27, Ans.v (lro n' 1 cs)), (30, Ans.c (AV.tup [lro n' 1 cs, i6 0]) [Ob.cells (sysC s), Ob.cells [AV.clo 33 [AV.ref 0 0, AV.ref 1 0]]])]) (by kernel_rfl) (And.intro h0 (And.intro h1 (And.intro h2 (And.intro h3 (And.intro h4 trivial)))))
theorem words_pf (s : NSys) (n : Int) (X : Ext) (call : Caller) (lf : Nat)
  (h0 : callv X call false 22 [AV.agg (sysC s)] [Ob.cells (sysC s)] 0 = some (bo false, [Ob.cells (sysC s)])) : vbody Tryd.prog X call lf noFg Tryd.f16 (codeOf Tryd.f16) [AV.agg (sysC s), i6 n] [] 0 = some (AV.tup [AV.list LK.nil 0 0 [], i6 1], [Ob.cells (sysC s)]) :=
  along_sound (ans := [(6, Ans.v (bo false))]) (by kernel_rfl) (And.intro h0 trivial)


end Go.Proofs.Num
end
/- Numeral: the paths of say. -/
section
open Go Go.Vm Go.Proofs
namespace Go.Proofs.Num
theorem say_pt (s : NSys) (n : Int) (rest : List AV) (w : ByteArray) (X : Ext) (call : Caller) (lf : Nat) (ro : Nat)
  (h0 : decide (n < NSys.base s) = true)
  (h1 : keep [Ob.cells (sysC s), Ob.cells [AV.clo 33 [AV.ref 0 0, AV.ref 1 0]]] (indexAddrv Tryd.prog 22 [Ob.cells (sysC s), Ob.cells [AV.clo 33 [AV.ref 0 0, AV.ref 1 0]]] (lro (List.length (NSys.digits s)) 1 (List.map st (NSys.digits s))) (i6 n)) = some (AV.eaddr rest, [Ob.cells (sysC s), Ob.cells [AV.clo 33 [AV.ref 0 0, AV.ref 1 0]]]))
  (h2 : keep [Ob.cells (sysC s), Ob.cells [AV.clo 33 [AV.ref 0 0, AV.ref 1 0]]] (loadv Tryd.prog 9 [Ob.cells (sysC s), Ob.cells [AV.clo 33 [AV.ref 0 0, AV.ref 1 0]]] (AV.eaddr rest)) = some (st w, [Ob.cells (sysC s), Ob.cells [AV.clo 33 [AV.ref 0 0, AV.ref 1 0]]])) : vbody Tryd.prog X call lf noFg Tryd.f33 (codeOf Tryd.f33) [i6 n, AV.ref 0 0, AV.ref 1 0] [Ob.cells (sysC s), Ob.cells [AV.clo 33 [AV.ref 0 0, AV.ref 1 0]]] ro = some (AV.list LK.clip 1 1 [st w], [Ob.cells (sysC s), Ob.cells [AV.clo 33 [AV.ref 0 0, AV.ref 1 0]]]) :=
  along_sound (ans := [(6, Ans.b true), (12, Ans.v (AV.eaddr rest)), (13, Ans.v (st w))]) (by kernel_rfl) (And.intro h0 (And.intro h1 (And.intro h2 trivial)))
theorem say_pft (s : NSys) (n : Int) (p : Int) (q : Int) (r : Int) (k : Nat) (c1 : List AV) (c2 : List AV) (c3 : List AV) (n1 : Nat) (n2 : Nat) (n3 : Nat) (X : Ext) (call : Caller) (lf : Nat) (ro : Nat)
  (h0 : decide (n < NSys.base s) = false)
  (h1 : callv X call false 34 [AV.agg (sysC s), i6 n] [Ob.cells (sysC s), Ob.cells [AV.clo 33 [AV.ref 0 0, AV.ref 1 0]]] ro = some (AV.tup [i6 p, i6 (↑k : Int)], [Ob.cells (sysC s), Ob.cells [AV.clo 33 [AV.ref 0 0, AV.ref 1 0]]]))
  (h2 : keep [Ob.cells (sysC s), Ob.cells [AV.clo 33 [AV.ref 0 0, AV.ref 1 0]]] (binv Tryd.prog BinOp.quo 3 (i6 n) (i6 p)) = some (i6 q, [Ob.cells (sysC s), Ob.cells [AV.clo 33 [AV.ref 0 0, AV.ref 1 0]]]))
  (h3 : keep [Ob.cells (sysC s), Ob.cells [AV.clo 33 [AV.ref 0 0, AV.ref 1 0]]] (binv Tryd.prog BinOp.rem 3 (i6 n) (i6 p)) = some (i6 r, [Ob.cells (sysC s), Ob.cells [AV.clo 33 [AV.ref 0 0, AV.ref 1 0]]]))
  (h4 : callv X call false 35 [AV.agg (sysC s), i6 q, i6 p, i6 r] [Ob.cells (sysC s), Ob.cells [AV.clo 33 [AV.ref 0 0, AV.ref 1 0]]] ro = some (bo true, [Ob.cells (sysC s), Ob.cells [AV.clo 33 [AV.ref 0 0, AV.ref 1 0]]]))
  (h5 : callv X call true 33 [i6 (w6 (p - r)), AV.ref 0 0, AV.ref 1 0] [Ob.cells (sysC s), Ob.cells [AV.clo 33 [AV.ref 0 0, AV.ref 1 0]]] ro = some (lro n1 1 c1, [Ob.cells (sysC s), Ob.cells [AV.clo 33 [AV.ref 0 0, AV.ref 1 0]]]))
  (h6 : callv X call true 33 [i6 (w6 (w6 (q + 1) * p)), AV.ref 0 0, AV.ref 1 0] [Ob.cells (sysC s), Ob.cells [AV.clo 33 [AV.ref 0 0, AV.ref 1 0]]] ro = some (lro n2 1 c2, [Ob.cells (sysC s), Ob.cells [AV.clo 33 [AV.ref 0 0, AV.ref 1 0]]]))
  (h7 : bsl Tryd.prog 66 3 [Ob.cells (sysC s), Ob.cells [AV.clo 33 [AV.ref 0 0, AV.ref 1 0]]] true ro [(0, lro n1 1 c1), (1, AV.list LK.clip 1 1 [st (NSys.le s)]), (2, lro n2 1 c2)] = some (AV.list LK.clip 3 1 [lro n1 1 c1, AV.list LK.clip 1 1 [st (NSys.le s)], lro n2 1 c2], [Ob.cells (sysC s), Ob.cells [AV.clo 33 [AV.ref 0 0, AV.ref 1 0]]]))
  (h8 : callv X call true 36 [AV.list LK.clip 3 1 [lro n1 1 c1, AV.list LK.clip 1 1 [st (NSys.le s)], lro n2 1 c2]] [Ob.cells (sysC s), Ob.cells [AV.clo 33 [AV.ref 0 0, AV.ref 1 0]]] ro = some (lro n3 1 c3, [Ob.cells (sysC s), Ob.cells [AV.clo 33 [AV.ref 0 0, AV.ref 1 0]]]))
  (h9 : vend1 [Ob.cells (sysC s), Ob.cells [AV.clo 33 [AV.ref 0 0, AV.ref 1 0]]] ro [Ob.cells (sysC s), Ob.cells [AV.clo 33 [AV.ref 0 0, AV.ref 1 0]]] [lro n3 1 c3] = some (lro n3 1 c3, [Ob.cells (sysC s), Ob.cells [AV.clo 33 [AV.ref 0 0, AV.ref 1 0]]])) : vbody Tryd.prog X call lf noFg Tryd.f33 (codeOf Tryd.f33) [i6 n, AV.ref 0 0, AV.ref 1 0] [Ob.cells (sysC s), Ob.cells [AV.clo 33 [AV.ref 0 0, AV.ref 1 0]]] ro = some (lro n3 1 c3, [Ob.cells (sysC s), Ob.cells [AV.clo 33 [AV.ref 0 0, AV.ref 1 0]]]) :=
  along_sound (ans := [(6, Ans.b false), (11, Ans.v (AV.tup [i6 p, i6 (↑k : Int)])), (20, Ans.v (i6 q)), (23, Ans.v (i6 r)), (31, Ans.v (bo true)), (38, Ans.v (lro n1 1 c1)), (47, Ans.v (lro n2 1 c2)), (48, Ans.v (AV.list LK.clip 3 1 [lro n1 1 c1, AV.list LK.clip 1 1 [st (NSys.le s)], lro n2 1 c2])), (49, Ans.v (lro n3 1 c3)), (51, Ans.c (lro n3 1 c3) [Ob.cells (sysC s), Ob.cells [AV.clo 33 [AV.ref 0 0, AV.ref 1 0]]])]) (by kernel_rfl) (And.intro h0 (And.intro h1 (And.intro h2 (And.intro h3 (And.intro h4 (And.intro h5 (And.intro h6 (And.intro h7 (And.intro h8 (And.intro h9 trivial))))))))))
theorem say_pfftt (s : NSys) (n : Int) (p : Int) (q : Int) (r : Int) (k : Nat) (rest2 : List AV) (c1 : List AV) (c4 : List AV) (n1 : Nat) (n4 : Nat) (w2 : ByteArray) (X : Ext) (call : Caller) (lf : Nat) (ro : Nat)
  (h0 : decide (n < NSys.base s) = false)
  (h1 : callv X call false 34 [AV.agg (sysC s), i6 n] [Ob.cells (sysC s), Ob.cells [AV.clo 33 [AV.ref 0 0, AV.ref 1 0]]] ro = some (AV.tup [i6 p, i6 (↑k : Int)], [Ob.cells (sysC s), Ob.cells [AV.clo 33 [AV.ref 0 0, AV.ref 1 0]]]))
  (h2 : keep [Ob.cells (sysC s), Ob.cells [AV.clo 33 [AV.ref 0 0, AV.ref 1 0]]] (binv Tryd.prog BinOp.quo 3 (i6 n) (i6 p)) = some (i6 q, [Ob.cells (sysC s), Ob.cells [AV.clo 33 [AV.ref 0 0, AV.ref 1 0]]]))
  (h3 : keep [Ob.cells (sysC s), Ob.cells [AV.clo 33 [AV.ref 0 0, AV.ref 1 0]]] (binv Tryd.prog BinOp.rem 3 (i6 n) (i6 p)) = some (i6 r, [Ob.cells (sysC s), Ob.cells [AV.clo 33 [AV.ref 0 0, AV.ref 1 0]]]))
  (h4 : callv X call false 35 [AV.agg (sysC s), i6 q, i6 p, i6 r] [Ob.cells (sysC s), Ob.cells [AV.clo 33 [AV.ref 0 0, AV.ref 1 0]]] ro = some (bo false, [Ob.cells (sysC s), Ob.cells [AV.clo 33 [AV.ref 0 0, AV.ref 1 0]]]))
  (h5 : keep [Ob.cells (sysC s), Ob.cells [AV.clo 33 [AV.ref 0 0, AV.ref 1 0]]] (indexAddrv Tryd.prog 22 [Ob.cells (sysC s), Ob.cells [AV.clo 33 [AV.ref 0 0, AV.ref 1 0]]] (lro (List.length (NSys.powers s)) 1 (List.map st (NSys.powers s))) (i6 (↑k : Int))) = some (AV.eaddr rest2, [Ob.cells (sysC s), Ob.cells [AV.clo 33 [AV.ref 0 0, AV.ref 1 0]]]))
  (h6 : keep [Ob.cells (sysC s), Ob.cells [AV.clo 33 [AV.ref 0 0, AV.ref 1 0]]] (loadv Tryd.prog 9 [Ob.cells (sysC s), Ob.cells [AV.clo 33 [AV.ref 0 0, AV.ref 1 0]]] (AV.eaddr rest2)) = some (st w2, [Ob.cells (sysC s), Ob.cells [AV.clo 33 [AV.ref 0 0, AV.ref 1 0]]]))
  (h7 : (q != 1) = true)
  (h8 : callv X call false 33 [i6 q, AV.ref 0 0, AV.ref 1 0] [Ob.cells (sysC s), Ob.cells [AV.clo 33 [AV.ref 0 0, AV.ref 1 0]]] ro = some (lro n1 1 c1, [Ob.cells (sysC s), Ob.cells [AV.clo 33 [AV.ref 0 0, AV.ref 1 0]]]))
  (h9 : bsl Tryd.prog 66 2 [Ob.cells (sysC s), Ob.cells [AV.clo 33 [AV.ref 0 0, AV.ref 1 0]]] false ro [(0, lro n1 1 c1), (1, AV.list LK.clip 1 1 [st w2])] = some (AV.list LK.clip 2 1 [lro n1 1 c1, AV.list LK.clip 1 1 [st w2]], [Ob.cells (sysC s), Ob.cells [AV.clo 33 [AV.ref 0 0, AV.ref 1 0]]]))
  (h10 : callv X call false 36 [AV.list LK.clip 2 1 [lro n1 1 c1, AV.list LK.clip 1 1 [st w2]]] [Ob.cells (sysC s), Ob.cells [AV.clo 33 [AV.ref 0 0, AV.ref 1 0]]] ro = some (lro n4 1 c4, [Ob.cells (sysC s), Ob.cells [AV.clo 33 [AV.ref 0 0, AV.ref 1 0]]]))
  (h11 : (r == 0) = true)
  (h12 : vend1 [Ob.cells (sysC s), Ob.cells [AV.clo 33 [AV.ref 0 0, AV.ref 1 0]]] ro [Ob.cells (sysC s), Ob.cells [AV.clo 33 [AV.ref 0 0, AV.ref 1 0]]] [lro n4 1 c4] = some (lro n4 1 c4, [Ob.cells (sysC s), Ob.cells [AV.clo 33 [AV.ref 0 0, AV.ref 1 0]]])) : vbody Tryd.prog X call lf noFg Tryd.f33 (codeOf Tryd.f33) [i6 n, AV.ref 0 0, AV.ref 1 0] [Ob.cells (sysC s), Ob.cells [AV.clo 33 [AV.ref 0 0, AV.ref 1 0]]] ro = some (lro n4 1 c4, [Ob.cells (sysC s), Ob.cells [AV.clo 33 [AV.ref 0 0, AV.ref 1 0]]]) :=
  along_sound (ans := [(6, Ans.b false), (11, Ans.v (AV.tup [i6 p, i6 (↑k : Int)])), (20, Ans.v (i6 q)), (23, Ans.v (i6 r)), (31, Ans.v (bo false)), (37, Ans.v (AV.eaddr rest2)), (38, Ans.v (st w2)), (43, Ans.b true), (53, Ans.v (lro n1 1 c1)), (55, Ans.v (AV.list LK.clip 2 1 [lro n1 1 c1, AV.list LK.clip 1 1 [st w2]])), (56, Ans.v (lro n4 1 c4)), (60, Ans.b true), (66, Ans.c (lro n4 1 c4) [Ob.cells (sysC s), Ob.cells [AV.clo 33 [AV.ref 0 0, AV.ref 1 0]]])]) (by kernel_rfl) (And.intro h0 (And.intro h1 (And.intro h2 (And.intro h3 (And.intro h4 (And.intro h5 (And.intro h6 (And.intro h7 (And.intro h8 (And.intro h9 (And.intro h10 (And.intro h11 (And.intro h12 trivial)))))))))))))
theorem say_pfftft (s : NSys) (n : Int) (p : Int) (q : Int) (r : Int) (k : Nat) (rest2 : List AV) (c1 : List AV) (c2 : List AV) (c3 : List AV) (c4 : List AV) (n1 : Nat) (n2 : Nat) (n3 : Nat) (n4 : Nat) (w2 : ByteArray) (j : AV) (h : AV) (X : Ext) (call : Caller) (lf : Nat) (ro : Nat)
  (h0 : decide (n < NSys.base s) = false)
  (h1 : callv X call false 34 [AV.agg (sysC s), i6 n] [Ob.cells (sysC s), Ob.cells [AV.clo 33 [AV.ref 0 0, AV.ref 1 0]]] ro = some (AV.tup [i6 p, i6 (↑k : Int)], [Ob.cells (sysC s), Ob.cells [AV.clo 33 [AV.ref 0 0, AV.ref 1 0]]]))
  (h2 : keep [Ob.cells (sysC s), Ob.cells [AV.clo 33 [AV.ref 0 0, AV.ref 1 0]]] (binv Tryd.prog BinOp.quo 3 (i6 n) (i6 p)) = some (i6 q, [Ob.cells (sysC s), Ob.cells [AV.clo 33 [AV.ref 0 0, AV.ref 1 0]]]))
  (h3 : keep [Ob.cells (sysC s), Ob.cells [AV.clo 33 [AV.ref 0 0, AV.ref 1 0]]] (binv Tryd.prog BinOp.rem 3 (i6 n) (i6 p)) = some (i6 r, [Ob.cells (sysC s), Ob.cells [AV.clo 33 [AV.ref 0 0, AV.ref 1 0]]]))
  (h4 : callv X call false 35 [AV.agg (sysC s), i6 q, i6 p, i6 r] [Ob.cells (sysC s), Ob.cells [AV.clo 33 [AV.ref 0 0, AV.ref 1 0]]] ro = some (bo false, [Ob.cells (sysC s), Ob.cells [AV.clo 33 [AV.ref 0 0, AV.ref 1 0]]]))
  (h5 : keep [Ob.cells (sysC s), Ob.cells [AV.clo 33 [AV.ref 0 0, AV.ref 1 0]]] (indexAddrv Tryd.prog 22 [Ob.cells (sysC s), Ob.cells [AV.clo 33 [AV.ref 0 0, AV.ref 1 0]]] (lro (List.length (NSys.powers s)) 1 (List.map st (NSys.powers s))) (i6 (↑k : Int))) = some (AV.eaddr rest2, [Ob.cells (sysC s), Ob.cells [AV.clo 33 [AV.ref 0 0, AV.ref 1 0]]]))
  (h6 : keep [Ob.cells (sysC s), Ob.cells [AV.clo 33 [AV.ref 0 0, AV.ref 1 0]]] (loadv Tryd.prog 9 [Ob.cells (sysC s), Ob.cells [AV.clo 33 [AV.ref 0 0, AV.ref 1 0]]] (AV.eaddr rest2)) = some (st w2, [Ob.cells (sysC s), Ob.cells [AV.clo 33 [AV.ref 0 0, AV.ref 1 0]]]))
  (h7 : (q != 1) = true)
  (h8 : callv X call false 33 [i6 q, AV.ref 0 0, AV.ref 1 0] [Ob.cells (sysC s), Ob.cells [AV.clo 33 [AV.ref 0 0, AV.ref 1 0]]] ro = some (lro n1 1 c1, [Ob.cells (sysC s), Ob.cells [AV.clo 33 [AV.ref 0 0, AV.ref 1 0]]]))
  (h9 : bsl Tryd.prog 66 2 [Ob.cells (sysC s), Ob.cells [AV.clo 33 [AV.ref 0 0, AV.ref 1 0]]] false ro [(0, lro n1 1 c1), (1, AV.list LK.clip 1 1 [st w2])] = some (AV.list LK.clip 2 1 [lro n1 1 c1, AV.list LK.clip 1 1 [st w2]], [Ob.cells (sysC s), Ob.cells [AV.clo 33 [AV.ref 0 0, AV.ref 1 0]]]))
  (h10 : callv X call false 36 [AV.list LK.clip 2 1 [lro n1 1 c1, AV.list LK.clip 1 1 [st w2]]] [Ob.cells (sysC s), Ob.cells [AV.clo 33 [AV.ref 0 0, AV.ref 1 0]]] ro = some (lro n4 1 c4, [Ob.cells (sysC s), Ob.cells [AV.clo 33 [AV.ref 0 0, AV.ref 1 0]]]))
  (h11 : (r == 0) = false)
  (h12 : NSys.sf s = true)
  (h13 : callv X call true 33 [i6 r, AV.ref 0 0, AV.ref 1 0] [Ob.cells (sysC s), Ob.cells [AV.clo 33 [AV.ref 0 0, AV.ref 1 0]]] ro = some (lro n2 1 c2, [Ob.cells (sysC s), Ob.cells [AV.clo 33 [AV.ref 0 0, AV.ref 1 0]]]))
  (h14 : callv X call true 37 [AV.agg (sysC s)] [Ob.cells (sysC s), Ob.cells [AV.clo 33 [AV.ref 0 0, AV.ref 1 0]]] ro = some (j, [Ob.cells (sysC s), Ob.cells [AV.clo 33 [AV.ref 0 0, AV.ref 1 0]]]))
  (h15 : bsl Tryd.prog 66 3 [Ob.cells (sysC s), Ob.cells [AV.clo 33 [AV.ref 0 0, AV.ref 1 0]]] true ro [(0, lro n2 1 c2), (1, j), (2, lro n4 1 c4)] = some (AV.list LK.clip 3 1 [lro n2 1 c2, j, h], [Ob.cells (sysC s), Ob.cells [AV.clo 33 [AV.ref 0 0, AV.ref 1 0]]]))
  (h16 : callv X call true 36 [AV.list LK.clip 3 1 [lro n2 1 c2, j, h]] [Ob.cells (sysC s), Ob.cells [AV.clo 33 [AV.ref 0 0, AV.ref 1 0]]] ro = some (lro n3 1 c3, [Ob.cells (sysC s), Ob.cells [AV.clo 33 [AV.ref 0 0, AV.ref 1 0]]]))
  (h17 : vend1 [Ob.cells (sysC s), Ob.cells [AV.clo 33 [AV.ref 0 0, AV.ref 1 0]]] ro [Ob.cells (sysC s), Ob.cells [AV.clo 33 [AV.ref 0 0, AV.ref 1 0]]] [lro n3 1 c3] = some (lro n3 1 c3, [Ob.cells (sysC s), Ob.cells [AV.clo 33 [AV.ref 0 0, AV.ref 1 0]]])) : vbody Tryd.prog X call lf noFg Tryd.f33 (codeOf Tryd.f33) [i6 n, AV.ref 0 0, AV.ref 1 0] [Ob.cells (sysC s), Ob.cells [AV.clo 33 [AV.ref 0 0, AV.ref 1 0]]] ro = some (lro n3 1 c3, [Ob.cells (sysC s), Ob.cells [AV.clo 33 [AV.ref 0 0, AV.ref 1 0]]]) :=
  along_sound (ans := [(6, Ans.b false), (11, Ans.v (AV.tup [i6 p, i6 (↑k : Int)])), (20, Ans.v (i6 q)), (23, Ans.v (i6 r)), (31, Ans.v (bo false)), (37, Ans.v (AV.eaddr rest2)), (38, Ans.v (st w2)), (43, Ans.b true), (53, Ans.v (lro n1 1 c1)), (55, Ans.v (AV.list LK.clip 2 1 [lro n1 1 c1, AV.list LK.clip 1 1 [st w2]])), (56, Ans.v (lro n4 1 c4)), (60, Ans.b false), (65, Ans.b true), (71, Ans.v (lro n2 1 c2)), (73, Ans.v j), (75, Ans.v (AV.list LK.clip 3 1 [lro n2 1 c2, j, h])), (76, Ans.v (lro n3 1 c3)), (78, Ans.c (lro n3 1 c3) [Ob.cells (sysC s), Ob.cells [AV.clo 33 [AV.ref 0 0, AV.ref 1 0]]])]) (by kernel_rfl) (And.intro h0 (And.intro h1 (And.intro h2 (And.intro h3 (And.intro h4 (And.intro h5 (And.intro h6 (And.intro h7 (And.intro h8 (And.intro h9 (And.intro h10 (And.intro h11 (And.intro h12 (And.intro h13 (And.intro h14 (And.intro h15 (And.intro h16 (And.intro h17 trivial))))))))))))))))))
theorem say_pfftff (s : NSys) (n : Int) (p : Int) (q : Int) (r : Int) (k : Nat) (rest2 : List AV) (c1 : List AV) (c2 : List AV) (c3 : List AV) (c4 : List AV) (n1 : Nat) (n2 : Nat) (n3 : Nat) (n4 : Nat) (w2 : ByteArray) (j : AV) (h : AV) (X : Ext) (call : Caller) (lf : Nat) (ro : Nat)
  (h0 : decide (n < NSys.base s) = false)
  (h1 : callv X call false 34 [AV.agg (sysC s), i6 n] [Ob.cells (sysC s), Ob.cells [AV.clo 33 [AV.ref 0 0, AV.ref 1 0]]] ro = some (AV.tup [i6 p, i6 (↑k : Int)], [Ob.cells (sysC s), Ob.cells [AV.clo 33 [AV.ref 0 0, AV.ref 1 0]]]))
  (h2 : keep [Ob.cells (sysC s), Ob.cells [AV.clo 33 [AV.ref 0 0, AV.ref 1 0]]] (binv Tryd.prog BinOp.quo 3 (i6 n) (i6 p)) = some (i6 q, [Ob.cells (sysC s), Ob.cells [AV.clo 33 [AV.ref 0 0, AV.ref 1 0]]]))
  (h3 : keep [Ob.cells (sysC s), Ob.cells [AV.clo 33 [AV.ref 0 0, AV.ref 1 0]]] (binv Tryd.prog BinOp.rem 3 (i6 n) (i6 p)) = some (i6 r, [Ob.cells (sysC s), Ob.cells [AV.clo 33 [AV.ref 0 0, AV.ref 1 0]]]))
  (h4 : callv X call false 35 [AV.agg (sysC s), i6 q, i6 p, i6 r] [Ob.cells (sysC s), Ob.cells [AV.clo 33 [AV.ref 0 0, AV.ref 1 0]]] ro = some (bo false, [Ob.cells (sysC s), Ob.cells [AV.clo 33 [AV.ref 0 0, AV.ref 1 0]]]))
  (h5 : keep [Ob.cells (sysC s), Ob.cells [AV.clo 33 [AV.ref 0 0, AV.ref 1 0]]] (indexAddrv Tryd.prog 22 [Ob.cells (sysC s), Ob.cells [AV.clo 33 [AV.ref 0 0, AV.ref 1 0]]] (lro (List.length (NSys.powers s)) 1 (List.map st (NSys.powers s))) (i6 (↑k : Int))) = some (AV.eaddr rest2, [Ob.cells (sysC s), Ob.cells [AV.clo 33 [AV.ref 0 0, AV.ref 1 0]]]))
  (h6 : keep [Ob.cells (sysC s), Ob.cells [AV.clo 33 [AV.ref 0 0, AV.ref 1 0]]] (loadv Tryd.prog 9 [Ob.cells (sysC s), Ob.cells [AV.clo 33 [AV.ref 0 0, AV.ref 1 0]]] (AV.eaddr rest2)) = some (st w2, [Ob.cells (sysC s), Ob.cells [AV.clo 33 [AV.ref 0 0, AV.ref 1 0]]]))
  (h7 : (q != 1) = true)
  (h8 : callv X call false 33 [i6 q, AV.ref 0 0, AV.ref 1 0] [Ob.cells (sysC s), Ob.cells [AV.clo 33 [AV.ref 0 0, AV.ref 1 0]]] ro = some (lro n1 1 c1, [Ob.cells (sysC s), Ob.cells [AV.clo 33 [AV.ref 0 0, AV.ref 1 0]]]))
  (h9 : bsl Tryd.prog 66 2 [Ob.cells (sysC s), Ob.cells [AV.clo 33 [AV.ref 0 0, AV.ref 1 0]]] false ro [(0, lro n1 1 c1), (1, AV.list LK.clip 1 1 [st w2])] = some (AV.list LK.clip 2 1 [lro n1 1 c1, AV.list LK.clip 1 1 [st w2]], [Ob.cells (sysC s), Ob.cells [AV.clo 33 [AV.ref 0 0, AV.ref 1 0]]]))
  (h10 : callv X call false 36 [AV.list LK.clip 2 1 [lro n1 1 c1, AV.list LK.clip 1 1 [st w2]]] [Ob.cells (sysC s), Ob.cells [AV.clo 33 [AV.ref 0 0, AV.ref 1 0]]] ro = some (lro n4 1 c4, [Ob.cells (sysC s), Ob.cells [AV.clo 33 [AV.ref 0 0, AV.ref 1 0]]]))
  (h11 : (r == 0) = false)
  (h12 : NSys.sf s = false)
  (h13 : callv X call true 37 [AV.agg (sysC s)] [Ob.cells (sysC s), Ob.cells [AV.clo 33 [AV.ref 0 0, AV.ref 1 0]]] ro = some (j, [Ob.cells (sysC s), Ob.cells [AV.clo 33 [AV.ref 0 0, AV.ref 1 0]]]))
  (h14 : callv X call true 33 [i6 r, AV.ref 0 0, AV.ref 1 0] [Ob.cells (sysC s), Ob.cells [AV.clo 33 [AV.ref 0 0, AV.ref 1 0]]] ro = some (lro n2 1 c2, [Ob.cells (sysC s), Ob.cells [AV.clo 33 [AV.ref 0 0, AV.ref 1 0]]]))
  (h15 : bsl Tryd.prog 66 3 [Ob.cells (sysC s), Ob.cells [AV.clo 33 [AV.ref 0 0, AV.ref 1 0]]] true ro [(0, lro n4 1 c4), (1, j), (2, lro n2 1 c2)] = some (AV.list LK.clip 3 1 [h, j, lro n2 1 c2], [Ob.cells (sysC s), Ob.cells [AV.clo 33 [AV.ref 0 0, AV.ref 1 0]]]))
  (h16 : callv X call true 36 [AV.list LK.clip 3 1 [h, j, lro n2 1 c2]] [Ob.cells (sysC s), Ob.cells [AV.clo 33 [AV.ref 0 0, AV.ref 1 0]]] ro = some (lro n3 1 c3, [Ob.cells (sysC s), Ob.cells [AV.clo 33 [AV.ref 0 0, AV.ref 1 0]]]))
  (h17 : vend1 [Ob.cells (sysC s), Ob.cells [AV.clo 33 [AV.ref 0 0, AV.ref 1 0]]] ro [Ob.cells (sysC s), Ob.cells [AV.clo 33 [AV.ref 0 0, AV.ref 1 0]]] [lro n3 1 c3] = some (lro n3 1 c3, [Ob.cells (sysC s), Ob.cells [AV.clo 33 [AV.ref 0 0, AV.ref 1 0]]])) : vbody Tryd.prog X call lf noFg Tryd.f33 (codeOf Tryd.f33) [i6 n, AV.ref 0 0, AV.ref 1 0] [Ob.cells (sysC s), Ob.cells [AV.clo 33 [AV.ref 0 0, AV.ref 1 0]]] ro = some (lro n3 1 c3, [Ob.cells (sysC s), Ob.cells [AV.clo 33 [AV.ref 0 0, AV.ref 1 0]]]) :=
  along_sound (ans := [(6, Ans.b false), (11, Ans.v (AV.tup [i6 p, i6 (↑k : Int)])), (20, Ans.v (i6 q)), (23, Ans.v (i6 r)), (31, Ans.v (bo false)), (37, Ans.v (AV.eaddr rest2)), (38, Ans.v (st w2)), (43, Ans.b true), (53, Ans.v (lro n1 1 c1)), (55, Ans.v (AV.list LK.clip 2 1 [lro n1 1 c1, AV.list LK.clip 1 1 [st w2]])), (56, Ans.v (lro n4 1 c4)), (60, Ans.b false), (65, Ans.b false), (71, Ans.v j), (74, Ans.v (lro n2 1 c2)), (75, Ans.v (AV.list LK.clip 3 1 [h, j, lro n2 1 c2])), (76, Ans.v (lro n3 1 c3)), (78, Ans.c (lro n3 1 c3) [Ob.cells (sysC s), Ob.cells [AV.clo 33 [AV.ref 0 0, AV.ref 1 0]]])]) (by kernel_rfl) (And.intro h0 (And.intro h1 (And.intro h2 (And.intro h3 (And.intro h4 (And.intro h5 (And.intro h6 (And.intro h7 (And.intro h8 (And.intro h9 (And.intro h10 (And.intro h11 (And.intro h12 (And.intro h13 (And.intro h14 (And.intro h15 (And.intro h16 (And.intro h17 trivial))))))))))))))))))
theorem say_pffftt (s : NSys) (n : Int) (p : Int) (q : Int) (r : Int) (k : Nat) (rest2 : List AV) (w2 : ByteArray) (X : Ext) (call : Caller) (lf : Nat) (ro : Nat)
  (h0 : decide (n < NSys.base s) = false)
  (h1 : callv X call false 34 [AV.agg (sysC s), i6 n] [Ob.cells (sysC s), Ob.cells [AV.clo 33 [AV.ref 0 0, AV.ref 1 0]]] ro = some (AV.tup [i6 p, i6 (↑k : Int)], [Ob.cells (sysC s), Ob.cells [AV.clo 33 [AV.ref 0 0, AV.ref 1 0]]]))
  (h2 : keep [Ob.cells (sysC s), Ob.cells [AV.clo 33 [AV.ref 0 0, AV.ref 1 0]]] (binv Tryd.prog BinOp.quo 3 (i6 n) (i6 p)) = some (i6 q, [Ob.cells (sysC s), Ob.cells [AV.clo 33 [AV.ref 0 0, AV.ref 1 0]]]))
  (h3 : keep [Ob.cells (sysC s), Ob.cells [AV.clo 33 [AV.ref 0 0, AV.ref 1 0]]] (binv Tryd.prog BinOp.rem 3 (i6 n) (i6 p)) = some (i6 r, [Ob.cells (sysC s), Ob.cells [AV.clo 33 [AV.ref 0 0, AV.ref 1 0]]]))
  (h4 : callv X call false 35 [AV.agg (sysC s), i6 q, i6 p, i6 r] [Ob.cells (sysC s), Ob.cells [AV.clo 33 [AV.ref 0 0, AV.ref 1 0]]] ro = some (bo false, [Ob.cells (sysC s), Ob.cells [AV.clo 33 [AV.ref 0 0, AV.ref 1 0]]]))
  (h5 : keep [Ob.cells (sysC s), Ob.cells [AV.clo 33 [AV.ref 0 0, AV.ref 1 0]]] (indexAddrv Tryd.prog 22 [Ob.cells (sysC s), Ob.cells [AV.clo 33 [AV.ref 0 0, AV.ref 1 0]]] (lro (List.length (NSys.powers s)) 1 (List.map st (NSys.powers s))) (i6 (↑k : Int))) = some (AV.eaddr rest2, [Ob.cells (sysC s), Ob.cells [AV.clo 33 [AV.ref 0 0, AV.ref 1 0]]]))
  (h6 : keep [Ob.cells (sysC s), Ob.cells [AV.clo 33 [AV.ref 0 0, AV.ref 1 0]]] (loadv Tryd.prog 9 [Ob.cells (sysC s), Ob.cells [AV.clo 33 [AV.ref 0 0, AV.ref 1 0]]] (AV.eaddr rest2)) = some (st w2, [Ob.cells (sysC s), Ob.cells [AV.clo 33 [AV.ref 0 0, AV.ref 1 0]]]))
  (h7 : (q != 1) = false)
  (h8 : NSys.om s = true)
  (h9 : (r == 0) = true) : vbody Tryd.prog X call lf noFg Tryd.f33 (codeOf Tryd.f33) [i6 n, AV.ref 0 0, AV.ref 1 0] [Ob.cells (sysC s), Ob.cells [AV.clo 33 [AV.ref 0 0, AV.ref 1 0]]] ro = some (AV.list LK.clip 1 1 [st w2], [Ob.cells (sysC s), Ob.cells [AV.clo 33 [AV.ref 0 0, AV.ref 1 0]]]) :=
  along_sound (ans := [(6, Ans.b false), (11, Ans.v (AV.tup [i6 p, i6 (↑k : Int)])), (20, Ans.v (i6 q)), (23, Ans.v (i6 r)), (31, Ans.v (bo false)), (37, Ans.v (AV.eaddr rest2)), (38, Ans.v (st w2)), (43, Ans.b false), (48, Ans.b true), (55, Ans.b true)]) (by kernel_rfl) (And.intro h0 (And.intro h1 (And.intro h2 (And.intro h3 (And.intro h4 (And.intro h5 (And.intro h6 (And.intro h7 (And.intro h8 (And.intro h9 trivial))))))))))
theorem say_pffftft (s : NSys) (n : Int) (p : Int) (q : Int) (r : Int) (k : Nat) (rest2 : List AV) (c2 : List AV) (c3 : List AV) (n2 : Nat) (n3 : Nat) (w2 : ByteArray) (j : AV) (h : AV) (X : Ext) (call : Caller) (lf : Nat) (ro : Nat)
  (h0 : decide (n < NSys.base s) = false)
  (h1 : callv X call false 34 [AV.agg (sysC s), i6 n] [Ob.cells (sysC s), Ob.cells [AV.clo 33 [AV.ref 0 0, AV.ref 1 0]]] ro = some (AV.tup [i6 p, i6 (↑k : Int)], [Ob.cells (sysC s), Ob.cells [AV.clo 33 [AV.ref 0 0, AV.ref 1 0]]]))
  (h2 : keep [Ob.cells (sysC s), Ob.cells [AV.clo 33 [AV.ref 0 0, AV.ref 1 0]]] (binv Tryd.prog BinOp.quo 3 (i6 n) (i6 p)) = some (i6 q, [Ob.cells (sysC s), Ob.cells [AV.clo 33 [AV.ref 0 0, AV.ref 1 0]]]))
  (h3 : keep [Ob.cells (sysC s), Ob.cells [AV.clo 33 [AV.ref 0 0, AV.ref 1 0]]] (binv Tryd.prog BinOp.rem 3 (i6 n) (i6 p)) = some (i6 r, [Ob.cells (sysC s), Ob.cells [AV.clo 33 [AV.ref 0 0, AV.ref 1 0]]]))
  (h4 : callv X call false 35 [AV.agg (sysC s), i6 q, i6 p, i6 r] [Ob.cells (sysC s), Ob.cells [AV.clo 33 [AV.ref 0 0, AV.ref 1 0]]] ro = some (bo false, [Ob.cells (sysC s), Ob.cells [AV.clo 33 [AV.ref 0 0, AV.ref 1 0]]]))
  (h5 : keep [Ob.cells (sysC s), Ob.cells [AV.clo 33 [AV.ref 0 0, AV.ref 1 0]]] (indexAddrv Tryd.prog 22 [Ob.cells (sysC s), Ob.cells [AV.clo 33 [AV.ref 0 0, AV.ref 1 0]]] (lro (List.length (NSys.powers s)) 1 (List.map st (NSys.powers s))) (i6 (↑k : Int))) = some (AV.eaddr rest2, [Ob.cells (sysC s), Ob.cells [AV.clo 33 [AV.ref 0 0, AV.ref 1 0]]]))
  (h6 : keep [Ob.cells (sysC s), Ob.cells [AV.clo 33 [AV.ref 0 0, AV.ref 1 0]]] (loadv Tryd.prog 9 [Ob.cells (sysC s), Ob.cells [AV.clo 33 [AV.ref 0 0, AV.ref 1 0]]] (AV.eaddr rest2)) = some (st w2, [Ob.cells (sysC s), Ob.cells [AV.clo 33 [AV.ref 0 0, AV.ref 1 0]]]))
  (h7 : (q != 1) = false)
  (h8 : NSys.om s = true)
  (h9 : (r == 0) = false)
  (h10 : NSys.sf s = true)
  (h11 : callv X call true 33 [i6 r, AV.ref 0 0, AV.ref 1 0] [Ob.cells (sysC s), Ob.cells [AV.clo 33 [AV.ref 0 0, AV.ref 1 0]]] ro = some (lro n2 1 c2, [Ob.cells (sysC s), Ob.cells [AV.clo 33 [AV.ref 0 0, AV.ref 1 0]]]))
  (h12 : callv X call true 37 [AV.agg (sysC s)] [Ob.cells (sysC s), Ob.cells [AV.clo 33 [AV.ref 0 0, AV.ref 1 0]]] ro = some (j, [Ob.cells (sysC s), Ob.cells [AV.clo 33 [AV.ref 0 0, AV.ref 1 0]]]))
  (h13 : bsl Tryd.prog 66 3 [Ob.cells (sysC s), Ob.cells [AV.clo 33 [AV.ref 0 0, AV.ref 1 0]]] true ro [(0, lro n2 1 c2), (1, j), (2, AV.list LK.clip 1 1 [st w2])] = some (AV.list LK.clip 3 1 [lro n2 1 c2, j, h], [Ob.cells (sysC s), Ob.cells [AV.clo 33 [AV.ref 0 0, AV.ref 1 0]]]))
  (h14 : callv X call true 36 [AV.list LK.clip 3 1 [lro n2 1 c2, j, h]] [Ob.cells (sysC s), Ob.cells [AV.clo 33 [AV.ref 0 0, AV.ref 1 0]]] ro = some (lro n3 1 c3, [Ob.cells (sysC s), Ob.cells [AV.clo 33 [AV.ref 0 0, AV.ref 1 0]]]))
  (h15 : vend1 [Ob.cells (sysC s), Ob.cells [AV.clo 33 [AV.ref 0 0, AV.ref 1 0]]] ro [Ob.cells (sysC s), Ob.cells [AV.clo 33 [AV.ref 0 0, AV.ref 1 0]]] [lro n3 1 c3] = some (lro n3 1 c3, [Ob.cells (sysC s), Ob.cells [AV.clo 33 [AV.ref 0 0, AV.ref 1 0]]])) : vbody Tryd.prog X call lf noFg Tryd.f33 (codeOf Tryd.f33) [i6 n, AV.ref 0 0, AV.ref 1 0] [Ob.cells (sysC s), Ob.cells [AV.clo 33 [AV.ref 0 0, AV.ref 1 0]]] ro = some (lro n3 1 c3, [Ob.cells (sysC s), Ob.cells [AV.clo 33 [AV.ref 0 0, AV.ref 1 0]]]) :=
  along_sound (ans := [(6, Ans.b false), (11, Ans.v (AV.tup [i6 p, i6 (↑k : Int)])), (20, Ans.v (i6 q)), (23, Ans.v (i6 r)), (31, Ans.v (bo false)), (37, Ans.v (AV.eaddr rest2)), (38, Ans.v (st w2)), (43, Ans.b false), (48, Ans.b true), (55, Ans.b false), (60, Ans.b true), (66, Ans.v (lro n2 1 c2)), (68, Ans.v j), (70, Ans.v (AV.list LK.clip 3 1 [lro n2 1 c2, j, h])), (71, Ans.v (lro n3 1 c3)), (73, Ans.c (lro n3 1 c3) [Ob.cells (sysC s), Ob.cells [AV.clo 33 [AV.ref 0 0, AV.ref 1 0]]])]) (by kernel_rfl) (And.intro h0 (And.intro h1 (And.intro h2 (And.intro h3 (And.intro h4 (And.intro h5 (And.intro h6 (And.intro h7 (And.intro h8 (And.intro h9 (And.intro h10 (And.intro h11 (And.intro h12 (And.intro h13 (And.intro h14 (And.intro h15 trivial))))))))))))))))
theorem say_pffftff (s : NSys) (n : Int) (p : Int) (q : Int) (r : Int) (k : Nat) (rest2 : List AV) (c2 : List AV) (c3 : List AV) (n2 : Nat) (n3 : Nat) (w2 : ByteArray) (j : AV) (h : AV) (X : Ext) (call : Caller) (lf : Nat) (ro : Nat)
  (h0 : decide (n < NSys.base s) = false)
  (h1 : callv X call false 34 [AV.agg (sysC s), i6 n] [Ob.cells (sysC s), Ob.cells [AV.clo 33 [AV.ref 0 0, AV.ref 1 0]]] ro = some (AV.tup [i6 p, i6 (↑k : Int)], [Ob.cells (sysC s), Ob.cells [AV.clo 33 [AV.ref 0 0, AV.ref 1 0]]]))
  (h2 : keep [Ob.cells (sysC s), Ob.cells [AV.clo 33 [AV.ref 0 0, AV.ref 1 0]]] (binv Tryd.prog BinOp.quo 3 (i6 n) (i6 p)) = some (i6 q, [Ob.cells (sysC s), Ob.cells [AV.clo 33 [AV.ref 0 0, AV.ref 1 0]]]))
  (h3 : keep [Ob.cells (sysC s), Ob.cells [AV.clo 33 [AV.ref 0 0, AV.ref 1 0]]] (binv Tryd.prog BinOp.rem 3 (i6 n) (i6 p)) = some (i6 r, [Ob.cells (sysC s), Ob.cells [AV.clo 33 [AV.ref 0 0, AV.ref 1 0]]]))
  (h4 : callv X call false 35 [AV.agg (sysC s), i6 q, i6 p, i6 r] [Ob.cells (sysC s), Ob.cells [AV.clo 33 [AV.ref 0 0, AV.ref 1 0]]] ro = some (bo false, [Ob.cells (sysC s), Ob.cells [AV.clo 33 [AV.ref 0 0, AV.ref 1 0]]]))
  (h5 : keep [Ob.cells (sysC s), Ob.cells [AV.clo 33 [AV.ref 0 0, AV.ref 1 0]]] (indexAddrv Tryd.prog 22 [Ob.cells (sysC s), Ob.cells [AV.clo 33 [AV.ref 0 0, AV.ref 1 0]]] (lro (List.length (NSys.powers s)) 1 (List.map st (NSys.powers s))) (i6 (↑k : Int))) = some (AV.eaddr rest2, [Ob.cells (sysC s), Ob.cells [AV.clo 33 [AV.ref 0 0, AV.ref 1 0]]]))
  (h6 : keep [Ob.cells (sysC s), Ob.cells [AV.clo 33 [AV.ref 0 0, AV.ref 1 0]]] (loadv Tryd.prog 9 [Ob.cells (sysC s), Ob.cells [AV.clo 33 [AV.ref 0 0, AV.ref 1 0]]] (AV.eaddr rest2)) = some (st w2, [Ob.cells (sysC s), Ob.cells [AV.clo 33 [AV.ref 0 0, AV.ref 1 0]]]))
  (h7 : (q != 1) = false)
  (h8 : NSys.om s = true)
  (h9 : (r == 0) = false)
  (h10 : NSys.sf s = false)
  (h11 : callv X call true 37 [AV.agg (sysC s)] [Ob.cells (sysC s), Ob.cells [AV.clo 33 [AV.ref 0 0, AV.ref 1 0]]] ro = some (j, [Ob.cells (sysC s), Ob.cells [AV.clo 33 [AV.ref 0 0, AV.ref 1 0]]]))
  (h12 : callv X call true 33 [i6 r, AV.ref 0 0, AV.ref 1 0] [Ob.cells (sysC s), Ob.cells [AV.clo 33 [AV.ref 0 0, AV.ref 1 0]]] ro = some (lro n2 1 c2, [Ob.cells (sysC s), Ob.cells [AV.clo 33 [AV.ref 0 0, AV.ref 1 0]]]))
  (h13 : bsl Tryd.prog 66 3 [Ob.cells (sysC s), Ob.cells [AV.clo 33 [AV.ref 0 0, AV.ref 1 0]]] true ro [(0, AV.list LK.clip 1 1 [st w2]), (1, j), (2, lro n2 1 c2)] = some (AV.list LK.clip 3 1 [h, j, lro n2 1 c2], [Ob.cells (sysC s), Ob.cells [AV.clo 33 [AV.ref 0 0, AV.ref 1 0]]]))
  (h14 : callv X call true 36 [AV.list LK.clip 3 1 [h, j, lro n2 1 c2]] [Ob.cells (sysC s), Ob.cells [AV.clo 33 [AV.ref 0 0, AV.ref 1 0]]] ro = some (lro n3 1 c3, [Ob.cells (sysC s), Ob.cells [AV.clo 33 [AV.ref 0 0, AV.ref 1 0]]]))
  (h15 : vend1 [Ob.cells (sysC s), Ob.cells [AV.clo 33 [AV.ref 0 0, AV.ref 1 0]]] ro [Ob.cells (sysC s), Ob.cells [AV.clo 33 [AV.ref 0 0, AV.ref 1 0]]] [lro n3 1 c3] = some (lro n3 1 c3, [Ob.cells (sysC s), Ob.cells [AV.clo 33 [AV.ref 0 0, AV.ref 1 0]]])) : vbody Tryd.prog X call lf noFg Tryd.f33 (codeOf Tryd.f33) [i6 n, AV.ref 0 0, AV.ref 1 0] [Ob.cells (sysC s), Ob.cells [AV.clo 33 [AV.ref 0 0, AV.ref 1 0]]] ro = some (lro n3 1 c3, [Ob.cells (sysC s), Ob.cells [AV.clo 33 [AV.ref 0 0, AV.ref 1 0]]]) :=
  along_sound (ans := [(6, Ans.b false), (11, Ans.v (AV.tup [i6 p, i6 (↑k : Int)])), (20, Ans.v (i6 q)), (23, Ans.v (i6 r)), (31, Ans.v (bo false)), (37, Ans.v (AV.eaddr rest2)), (38, Ans.v (st w2)), (43, Ans.b false), (48, Ans.b true), (55, Ans.b false), (60, Ans.b false), (66, Ans.v j), (69, Ans.v (lro n2 1 c2)), (70, Ans.v (AV.list LK.clip 3 1 [h, j, lro n2 1 c2])), (71, Ans.v (lro n3 1 c3)), (73, Ans.c (lro n3 1 c3) [Ob.cells (sysC s), Ob.cells [AV.clo 33 [AV.ref 0 0, AV.ref 1 0]]])]) (by kernel_rfl) (And.intro h0 (And.intro h1 (And.intro h2 (And.intro h3 (And.intro h4 (And.intro h5 (And.intro h6 (And.intro h7 (And.intro h8 (And.intro h9 (And.intro h10 (And.intro h11 (And.intro h12 (And.intro h13 (And.intro h14 (And.intro h15 trivial))))))))))))))))
theorem say_pfffft (s : NSys) (n : Int) (p : Int) (q : Int) (r : Int) (k : Nat) (rest2 : List AV) (c1 : List AV) (c4 : List AV) (n1 : Nat) (n4 : Nat) (w2 : ByteArray) (X : Ext) (call : Caller) (lf : Nat) (ro : Nat)
  (h0 : decide (n < NSys.base s) = false)
  (h1 : callv X call false 34 [AV.agg (sysC s), i6 n] [Ob.cells (sysC s), Ob.cells [AV.clo 33 [AV.ref 0 0, AV.ref 1 0]]] ro = some (AV.tup [i6 p, i6 (↑k : Int)], [Ob.cells (sysC s), Ob.cells [AV.clo 33 [AV.ref 0 0, AV.ref 1 0]]]))
  (h2 : keep [Ob.cells (sysC s), Ob.cells [AV.clo 33 [AV.ref 0 0, AV.ref 1 0]]] (binv Tryd.prog BinOp.quo 3 (i6 n) (i6 p)) = some (i6 q, [Ob.cells (sysC s), Ob.cells [AV.clo 33 [AV.ref 0 0, AV.ref 1 0]]]))
  (h3 : keep [Ob.cells (sysC s), Ob.cells [AV.clo 33 [AV.ref 0 0, AV.ref 1 0]]] (binv Tryd.prog BinOp.rem 3 (i6 n) (i6 p)) = some (i6 r, [Ob.cells (sysC s), Ob.cells [AV.clo 33 [AV.ref 0 0, AV.ref 1 0]]]))
  (h4 : callv X call false 35 [AV.agg (sysC s), i6 q, i6 p, i6 r] [Ob.cells (sysC s), Ob.cells [AV.clo 33 [AV.ref 0 0, AV.ref 1 0]]] ro = some (bo false, [Ob.cells (sysC s), Ob.cells [AV.clo 33 [AV.ref 0 0, AV.ref 1 0]]]))
  (h5 : keep [Ob.cells (sysC s), Ob.cells [AV.clo 33 [AV.ref 0 0, AV.ref 1 0]]] (indexAddrv Tryd.prog 22 [Ob.cells (sysC s), Ob.cells [AV.clo 33 [AV.ref 0 0, AV.ref 1 0]]] (lro (List.length (NSys.powers s)) 1 (List.map st (NSys.powers s))) (i6 (↑k : Int))) = some (AV.eaddr rest2, [Ob.cells (sysC s), Ob.cells [AV.clo 33 [AV.ref 0 0, AV.ref 1 0]]]))
  (h6 : keep [Ob.cells (sysC s), Ob.cells [AV.clo 33 [AV.ref 0 0, AV.ref 1 0]]] (loadv Tryd.prog 9 [Ob.cells (sysC s), Ob.cells [AV.clo 33 [AV.ref 0 0, AV.ref 1 0]]] (AV.eaddr rest2)) = some (st w2, [Ob.cells (sysC s), Ob.cells [AV.clo 33 [AV.ref 0 0, AV.ref 1 0]]]))
  (h7 : (q != 1) = false)
  (h8 : NSys.om s = false)
  (h9 : callv X call false 33 [i6 q, AV.ref 0 0, AV.ref 1 0] [Ob.cells (sysC s), Ob.cells [AV.clo 33 [AV.ref 0 0, AV.ref 1 0]]] ro = some (lro n1 1 c1, [Ob.cells (sysC s), Ob.cells [AV.clo 33 [AV.ref 0 0, AV.ref 1 0]]]))
  (h10 : bsl Tryd.prog 66 2 [Ob.cells (sysC s), Ob.cells [AV.clo 33 [AV.ref 0 0, AV.ref 1 0]]] false ro [(0, lro n1 1 c1), (1, AV.list LK.clip 1 1 [st w2])] = some (AV.list LK.clip 2 1 [lro n1 1 c1, AV.list LK.clip 1 1 [st w2]], [Ob.cells (sysC s), Ob.cells [AV.clo 33 [AV.ref 0 0, AV.ref 1 0]]]))
  (h11 : callv X call false 36 [AV.list LK.clip 2 1 [lro n1 1 c1, AV.list LK.clip 1 1 [st w2]]] [Ob.cells (sysC s), Ob.cells [AV.clo 33 [AV.ref 0 0, AV.ref 1 0]]] ro = some (lro n4 1 c4, [Ob.cells (sysC s), Ob.cells [AV.clo 33 [AV.ref 0 0, AV.ref 1 0]]]))
  (h12 : (r == 0) = true)
  (h13 : vend1 [Ob.cells (sysC s), Ob.cells [AV.clo 33 [AV.ref 0 0, AV.ref 1 0]]] ro [Ob.cells (sysC s), Ob.cells [AV.clo 33 [AV.ref 0 0, AV.ref 1 0]]] [lro n4 1 c4] = some (lro n4 1 c4, [Ob.cells (sysC s), Ob.cells [AV.clo 33 [AV.ref 0 0, AV.ref 1 0]]])) : vbody Tryd.prog X call lf noFg Tryd.f33 (codeOf Tryd.f33) [i6 n, AV.ref 0 0, AV.ref 1 0] [Ob.cells (sysC s), Ob.cells [AV.clo 33 [AV.ref 0 0, AV.ref 1 0]]] ro = some (lro n4 1 c4, [Ob.cells (sysC s), Ob.cells [AV.clo 33 [AV.ref 0 0, AV.ref 1 0]]]) :=
  along_sound (ans := [(6, Ans.b false), (11, Ans.v (AV.tup [i6 p, i6 (↑k : Int)])), (20, Ans.v (i6 q)), (23, Ans.v (i6 r)), (31, Ans.v (bo false)), (37, Ans.v (AV.eaddr rest2)), (38, Ans.v (st w2)), (43, Ans.b false), (48, Ans.b false), (56, Ans.v (lro n1 1 c1)), (58, Ans.v (AV.list LK.clip 2 1 [lro n1 1 c1, AV.list LK.clip 1 1 [st w2]])), (59, Ans.v (lro n4 1 c4)), (63, Ans.b true), (69, Ans.c (lro n4 1 c4) [Ob.cells (sysC s), Ob.cells [AV.clo 33 [AV.ref 0 0, AV.ref 1 0]]])]) (by kernel_rfl) (And.intro h0 (And.intro h1 (And.intro h2 (And.intro h3 (And.intro h4 (And.intro h5 (And.intro h6 (And.intro h7 (And.intro h8 (And.intro h9 (And.intro h10 (And.intro h11 (And.intro h12 (And.intro h13 trivial))))))))))))))
theorem say_pffffft (s : NSys) (n : Int) (p : Int) (q : Int) (r : Int) (k : Nat) (rest2 : List AV) (c1 : List AV) (c2 : List AV) (c3 : List AV) (c4 : List AV) (n1 : Nat) (n2 : Nat) (n3 : Nat) (n4 : Nat) (w2 : ByteArray) (j : AV) (h : AV) (X : Ext) (call : Caller) (lf : Nat) (ro : Nat)
  (h0 : decide (n < NSys.base s) = false)
  (h1 : callv X call false 34 [AV.agg (sysC s), i6 n] [Ob.cells (sysC s), Ob.cells [AV.clo 33 [AV.ref 0 0, AV.ref 1 0]]] ro = some (AV.tup [i6 p, i6 (↑k : Int)], [Ob.cells (sysC s), Ob.cells [AV.clo 33 [AV.ref 0 0, AV.ref 1 0]]]))
  (h2 : keep [Ob.cells (sysC s), Ob.cells [AV.clo 33 [AV.ref 0 0, AV.ref 1 0]]] (binv Tryd.prog BinOp.quo 3 (i6 n) (i6 p)) = some (i6 q, [Ob.cells (sysC s), Ob.cells [AV.clo 33 [AV.ref 0 0, AV.ref 1 0]]]))
  (h3 : keep [Ob.cells (sysC s), Ob.cells [AV.clo 33 [AV.ref 0 0, AV.ref 1 0]]] (binv Tryd.prog BinOp.rem 3 (i6 n) (i6 p)) = some (i6 r, [Ob.cells (sysC s), Ob.cells [AV.clo 33 [AV.ref 0 0, AV.ref 1 0]]]))
  (h4 : callv X call false 35 [AV.agg (sysC s), i6 q, i6 p, i6 r] [Ob.cells (sysC s), Ob.cells [AV.clo 33 [AV.ref 0 0, AV.ref 1 0]]] ro = some (bo false, [Ob.cells (sysC s), Ob.cells [AV.clo 33 [AV.ref 0 0, AV.ref 1 0]]]))
  (h5 : keep [Ob.cells (sysC s), Ob.cells [AV.clo 33 [AV.ref 0 0, AV.ref 1 0]]] (indexAddrv Tryd.prog 22 [Ob.cells (sysC s), Ob.cells [AV.clo 33 [AV.ref 0 0, AV.ref 1 0]]] (lro (List.length (NSys.powers s)) 1 (List.map st (NSys.powers s))) (i6 (↑k : Int))) = some (AV.eaddr rest2, [Ob.cells (sysC s), Ob.cells [AV.clo 33 [AV.ref 0 0, AV.ref 1 0]]]))
  (h6 : keep [Ob.cells (sysC s), Ob.cells [AV.clo 33 [AV.ref 0 0, AV.ref 1 0]]] (loadv Tryd.prog 9 [Ob.cells (sysC s), Ob.cells [AV.clo 33 [AV.ref 0 0, AV.ref 1 0]]] (AV.eaddr rest2)) = some (st w2, [Ob.cells (sysC s), Ob.cells [AV.clo 33 [AV.ref 0 0, AV.ref 1 0]]]))
  (h7 : (q != 1) = false)
  (h8 : NSys.om s = false)
  (h9 : callv X call false 33 [i6 q, AV.ref 0 0, AV.ref 1 0] [Ob.cells (sysC s), Ob.cells [AV.clo 33 [AV.ref 0 0, AV.ref 1 0]]] ro = some (lro n1 1 c1, [Ob.cells (sysC s), Ob.cells [AV.clo 33 [AV.ref 0 0, AV.ref 1 0]]]))
  (h10 : bsl Tryd.prog 66 2 [Ob.cells (sysC s), Ob.cells [AV.clo 33 [AV.ref 0 0, AV.ref 1 0]]] false ro [(0, lro n1 1 c1), (1, AV.list LK.clip 1 1 [st w2])] = some (AV.list LK.clip 2 1 [lro n1 1 c1, AV.list LK.clip 1 1 [st w2]], [Ob.cells (sysC s), Ob.cells [AV.clo 33 [AV.ref 0 0, AV.ref 1 0]]]))
  (h11 : callv X call false 36 [AV.list LK.clip 2 1 [lro n1 1 c1, AV.list LK.clip 1 1 [st w2]]] [Ob.cells (sysC s), Ob.cells [AV.clo 33 [AV.ref 0 0, AV.ref 1 0]]] ro = some (lro n4 1 c4, [Ob.cells (sysC s), Ob.cells [AV.clo 33 [AV.ref 0 0, AV.ref 1 0]]]))
  (h12 : (r == 0) = false)
  (h13 : NSys.sf s = true)
  (h14 : callv X call true 33 [i6 r, AV.ref 0 0, AV.ref 1 0] [Ob.cells (sysC s), Ob.cells [AV.clo 33 [AV.ref 0 0, AV.ref 1 0]]] ro = some (lro n2 1 c2, [Ob.cells (sysC s), Ob.cells [AV.clo 33 [AV.ref 0 0, AV.ref 1 0]]]))
  (h15 : callv X call true 37 [AV.agg (sysC s)] [Ob.cells (sysC s), Ob.cells [AV.clo 33 [AV.ref 0 0, AV.ref 1 0]]] ro = some (j, [Ob.cells (sysC s), Ob.cells [AV.clo 33 [AV.ref 0 0, AV.ref 1 0]]]))
  (h16 : bsl Tryd.prog 66 3 [Ob.cells (sysC s), Ob.cells [AV.clo 33 [AV.ref 0 0, AV.ref 1 0]]] true ro [(0, lro n2 1 c2), (1, j), (2, lro n4 1 c4)] = some (AV.list LK.clip 3 1 [lro n2 1 c2, j, h], [Ob.cells (sysC s), Ob.cells [AV.clo 33 [AV.ref 0 0, AV.ref 1 0]]]))
  (h17 : callv X call true 36 [AV.list LK.clip 3 1 [lro n2 1 c2, j, h]] [Ob.cells (sysC s), Ob.cells [AV.clo 33 [AV.ref 0 0, AV.ref 1 0]]] ro = some (lro n3 1 c3, [Ob.cells (sysC s), Ob.cells [AV.clo 33 [AV.ref 0 0, AV.ref 1 0]]]))
  (h18 : vend1 [Ob.cells (sysC s), Ob.cells [AV.clo 33 [AV.ref 0 0, AV.ref 1 0]]] ro [Ob.cells (sysC s), Ob.cells [AV.clo 33 [AV.ref 0 0, AV.ref 1 0]]] [lro n3 1 c3] = some (lro n3 1 c3, [Ob.cells (sysC s), Ob.cells [AV.clo 33 [AV.ref 0 0, AV.ref 1 0]]])) : vbody Tryd.prog X call lf noFg Tryd.f33 (codeOf Tryd.f33) [i6 n, AV.ref 0 0, AV.ref 1 0] [Ob.cells (sysC s), Ob.cells [AV.clo 33 [AV.ref 0 0, AV.ref 1 0]]] ro = some (lro n3 1 c3, [Ob.cells (sysC s), Ob.cells [AV.clo 33 [AV.ref 0 0, AV.ref 1 0]]]) :=
  along_sound (ans := [(6, Ans.b false), (11, Ans.v (AV.tup [i6 p, i6 (↑k : Int)])), (20, Ans.v (i6 q)), (23, Ans.v (i6 r)), (31, Ans.v (bo false)), (37, Ans.v (AV.eaddr rest2)), (38, Ans.v (st w2)), (43, Ans.b false), (48, Ans.b false), (56, Ans.v (lro n1 1 c1)), (58, Ans.v (AV.list LK.clip 2 1 [lro n1 1 c1, AV.list LK.clip 1 1 [st w2]])), (59, Ans.v (lro n4 1 c4)), (63, Ans.b false), (68, Ans.b true), (74, Ans.v (lro n2 1 c2)), (76, Ans.v j), (78, Ans.v (AV.list LK.clip 3 1 [lro n2 1 c2, j, h])), (79, Ans.v (lro n3 1 c3)), (81, Ans.c (lro n3 1 c3) [Ob.cells (sysC s), Ob.cells [AV.clo 33 [AV.ref 0 0, AV.ref 1 0]]])]) (by kernel_rfl) (And.intro h0 (And.intro h1 (And.intro h2 (And.intro h3 (And.intro h4 (And.intro h5 (And.intro h6 (And.intro h7 (And.intro h8 (And.intro h9 (And.intro h10 (And.intro h11 (And.intro h12 (And.intro h13 (And.intro h14 (And.intro h15 (And.intro h16 (And.intro h17 (And.intro h18 trivial)))))))))))))))))))
theorem say_pffffff (s : NSys) (n : Int) (p : Int) (q : Int) (r : Int) (k : Nat) (rest2 : List AV) (c1 : List AV) (c2 : List AV) (c3 : List AV) (c4 : List AV) (n1 : Nat) (n2 : Nat) (n3 : Nat) (n4 : Nat) (w2 : ByteArray) (j : AV) (h : AV) (X : Ext) (call : Caller) (lf : Nat) (ro : Nat)
  (h0 : decide (n < NSys.base s) = false)
  (h1 : callv X call false 34 [AV.agg (sysC s), i6 n] [Ob.cells (sysC s), Ob.cells [AV.clo 33 [AV.ref 0 0, AV.ref 1 0]]] ro = some (AV.tup [i6 p, i6 (↑k : Int)], [Ob.cells (sysC s), Ob.cells [AV.clo 33 [AV.ref 0 0, AV.ref 1 0]]]))
  (h2 : keep [Ob.cells (sysC s), Ob.cells [AV.clo 33 [AV.ref 0 0, AV.ref 1 0]]] (binv Tryd.prog BinOp.quo 3 (i6 n) (i6 p)) = some (i6 q, [Ob.cells (sysC s), Ob.cells [AV.clo 33 [AV.ref 0 0, AV.ref 1 0]]]))
  (h3 : keep [Ob.cells (sysC s), Ob.cells [AV.clo 33 [AV.ref 0 0, AV.ref 1 0]]] (binv Tryd.prog BinOp.rem 3 (i6 n) (i6 p)) = some (i6 r, [Ob.cells (sysC s), Ob.cells [AV.clo 33 [AV.ref 0 0, AV.ref 1 0]]]))
  (h4 : callv X call false 35 [AV.agg (sysC s), i6 q, i6 p, i6 r] [Ob.cells (sysC s), Ob.cells [AV.clo 33 [AV.ref 0 0, AV.ref 1 0]]] ro = some (bo false, [Ob.cells (sysC s), Ob.cells [AV.clo 33 [AV.ref 0 0, AV.ref 1 0]]]))
  (h5 : keep [Ob.cells (sysC s), Ob.cells [AV.clo 33 [AV.ref 0 0, AV.ref 1 0]]] (indexAddrv Tryd.prog 22 [Ob.cells (sysC s), Ob.cells [AV.clo 33 [AV.ref 0 0, AV.ref 1 0]]] (lro (List.length (NSys.powers s)) 1 (List.map st (NSys.powers s))) (i6 (↑k : Int))) = some (AV.eaddr rest2, [Ob.cells (sysC s), Ob.cells [AV.clo 33 [AV.ref 0 0, AV.ref 1 0]]]))
  (h6 : keep [Ob.cells (sysC s), Ob.cells [AV.clo 33 [AV.ref 0 0, AV.ref 1 0]]] (loadv Tryd.prog 9 [Ob.cells (sysC s), Ob.cells [AV.clo 33 [AV.ref 0 0, AV.ref 1 0]]] (AV.eaddr rest2)) = some (st w2, [Ob.cells (sysC s), Ob.cells [AV.clo 33 [AV.ref 0 0, AV.ref 1 0]]]))
  (h7 : (q != 1) = false)
  (h8 : NSys.om s = false)
  (h9 : callv X call false 33 [i6 q, AV.ref 0 0, AV.ref 1 0] [Ob.cells (sysC s), Ob.cells [AV.clo 33 [AV.ref 0 0, AV.ref 1 0]]] ro = some (lro n1 1 c1, [Ob.cells (sysC s), Ob.cells [AV.clo 33 [AV.ref 0 0, AV.ref 1 0]]]))
  (h10 : bsl Tryd.prog 66 2 [Ob.cells (sysC s), Ob.cells [AV.clo 33 [AV.ref 0 0, AV.ref 1 0]]] false ro [(0, lro n1 1 c1), (1, AV.list LK.clip 1 1 [st w2])] = some (AV.list LK.clip 2 1 [lro n1 1 c1, AV.list LK.clip 1 1 [st w2]], [Ob.cells (sysC s), Ob.cells [AV.clo 33 [AV.ref 0 0, AV.ref 1 0]]]))
  (h11 : callv X call false 36 [AV.list LK.clip 2 1 [lro n1 1 c1, AV.list LK.clip 1 1 [st w2]]] [Ob.cells (sysC s), Ob.cells [AV.clo 33 [AV.ref 0 0, AV.ref 1 0]]] ro = some (lro n4 1 c4, [Ob.cells (sysC s), Ob.cells [AV.clo 33 [AV.ref 0 0, AV.ref 1 0]]]))
  (h12 : (r == 0) = false)
  (h13 : NSys.sf s = false)
  (h14 : callv X call true 37 [AV.agg (sysC s)] [Ob.cells (sysC s), Ob.cells [AV.clo 33 [AV.ref 0 0, AV.ref 1 0]]] ro = some (j, [Ob.cells (sysC s), Ob.cells [AV.clo 33 [AV.ref 0 0, AV.ref 1 0]]]))
  (h15 : callv X call true 33 [i6 r, AV.ref 0 0, AV.ref 1 0] [Ob.cells (sysC s), Ob.cells [AV.clo 33 [AV.ref 0 0, AV.ref 1 0]]] ro = some (lro n2 1 c2, [Ob.cells (sysC s), Ob.cells [AV.clo 33 [AV.ref 0 0, AV.ref 1 0]]]))
  (h16 : bsl Tryd.prog 66 3 [Ob.cells (sysC s), Ob.cells [AV.clo 33 [AV.ref 0 0, AV.ref 1 0]]] true ro [(0, lro n4 1 c4), (1, j), (2, lro n2 1 c2)] = some (AV.list LK.clip 3 1 [h, j, lro n2 1 c2], [Ob.cells (sysC s), Ob.cells [AV.clo 33 [AV.ref 0 0, AV.ref 1 0]]]))
  (h17 : callv X call true 36 [AV.list LK.clip 3 1 [h, j, lro n2 1 c2]] [Ob.cells (sysC s), Ob.cells [AV.clo 33 [AV.ref 0 0, AV.ref 1 0]]] ro = some (lro n3 1 c3, [Ob.cells (sysC s), Ob.cells [AV.clo 33 [AV.ref 0 0, AV.ref 1 0]]]))
  (h18 : vend1 [Ob.cells (sysC s), Ob.cells [AV.clo 33 [AV.ref 0 0, AV.ref 1 0]]] ro [Ob.cells (sysC s), Ob.cells [AV.clo 33 [AV.ref 0 0, AV.ref 1 0]]] [lro n3 1 c3] = some (lro n3 1 c3, [Ob.cells (sysC s), Ob.cells [AV.clo 33 [AV.ref 0 0, AV.ref 1 0]]])) : vbody Tryd.prog X call lf noFg Tryd.f33 (codeOf Tryd.f33) [i6 n, AV.ref 0 0, AV.ref 1 0] [Ob.cells (sysC s), Ob.cells [AV.clo 33 [AV.ref 0 0, AV.ref 1 0]]] ro = some (lro n3 1 c3, [Ob.cells (sysC s), Ob.cells [AV.clo 33 [AV.ref 0 0, AV.ref 1 0]]]) :=
  along_sound (ans := [(6, Ans.b false), (11, Ans.v (AV.tup [i6 p, i6 (↑k : Int)])), (20, Ans.v (i6 q)), (23, Ans.v (i6 r)), (31, Ans.v (bo false)), (37, Ans.v (AV.eaddr rest2)), (38, Ans.v (st w2)), (43, Ans.b false), (48, Ans.b false), (56, Ans.v (lro n1 1 c1)), (58, Ans.v (AV.list LK.clip 2 1 [lro n1 1 c1, AV.list LK.clip 1 1 [st w2]])), (59, Ans.v (lro n4 1 c4)), (63, Ans.b false), (68, Ans.b false), (74, Ans.v j), (77, Ans.v (lro n2 1 c2)), (78, Ans.v (AV.list LK.clip 3 1 [h, j, lro n2 1 c2])), (79, Ans.v (lro n3 1 c3)), (81, Ans.c (lro n3 1 c3) [Ob.cells (sysC s), Ob.cells [AV.clo 33 [AV.ref 0 0, AV.ref 1 0]]])]) (by kernel_rfl) (And.intro h0 (And.intro h1 (And.intro h2 (And.intro h3 (And.intro h4 (And.intro h5 (And.intro h6 (And.intro h7 (And.intro h8 (And.intro h9 (And.intro h10 (And.intro h11 (And.intro h12 (And.intro h13 (And.intro h14 (And.intro h15 (And.intro h16 (And.intro h17 (And.intro h18 trivial)))))))))))))))))))


end Go.Proofs.Num
end
/- Numeral: the reference's join. -/
section
open Go Go.Vm Go.Proofs
namespace Go.Proofs.Num
theorem rjoin_p (a : AV) (b : AV) (o1 : AV) (o2 : AV) (σ1 : List Ob) (σ2 : List Ob) (r : AV) (σr : List Ob) (X : Ext) (call : Caller) (lf : Nat)
  (h0 : appendv Tryd.prog 22 [] 0 (AV.list LK.clip 0 1 []) a = some (o1, σ1))
  (h1 : appendv Tryd.prog 22 σ1 0 o1 b = some (o2, σ2))
  (h2 : vend1 [] 0 σ2 [o2] = some (r, σr)) : vbody Tryd.prog X call lf noFg Tryd.f38 (codeOf Tryd.f38) [a, b] [] 0 = some (r, σr) :=
  along_sound (ans := [(5, Ans.c o1 σ1), (7, Ans.c o2 σ2), (9, Ans.c r σr)]) (by kernel_rfl) (And.intro h0 (And.intro h1 (And.intro h2 trivial)))


/-- append to an empty literal. -/
theorem grow_clip {σ : List Ob} {p : AV} {l : List ByteArray} (h : IsS p l) (hb : l.length * 17 ≤ 140737488355328) :
    appendv Tryd.prog 22 σ 0 (.list .clip 0 1 []) p = some (if l.length = 0 then (.list .clip 0 1 [], σ) else (.own σ.length l.length, σ ++ [.arr l.length 1 (l.map .str)])) := by
  unfold appendv
  rw [Tryd.underlying22]
  simp only [cells9, appended_isS h, zero9, bytes9]
  rw [if_pos ⟨owns_strs l, rfl⟩]
  simp only [Nat.zero_add, List.nil_append]
  rw [if_pos ⟨.inr trivial, .inl trivial, rfl, hb⟩]
  split <;> rfl
theorem grow_row {l : List ByteArray} {p : AV} {m : List ByteArray} (h : IsS p m) (hb : (l.length + m.length) * 17 ≤ 140737488355328) :
    appendv Tryd.prog 22 [.arr l.length 1 (l.map .str)] 0 (.own 0 l.length) p = some (.own 0 (l ++ m).length, [.arr (l ++ m).length 1 ((l ++ m).map .str)]) := by
  by_cases hz : m.length = 0
  · have he : m = [] := List.eq_nil_of_length_eq_zero hz
    have := grow_none (P := Tryd.prog) (ro := 0) (id := 0) (n := l.length) (σ := [Ob.arr l.length 1 (l.map .str)]) (cs := l.map .str) (ys := m.map .str) (x := p) Tryd.underlying22 zero9 (by rw [cells9]; rfl) (by rw [cells9]; rfl) (Nat.le_refl _)
      (by rw [cells9, appended_isS h, hz]) (owns_strs m) (by rw [bytes9]; omega)
    rw [this, he]
    simp
  · have := grow_own (P := Tryd.prog) (ro := 0) (id := 0) (n := l.length) (σ := [Ob.arr l.length 1 (l.map .str)]) (cs := l.map .str) (ys := m.map .str) (m := m.length) (x := p) Tryd.underlying22 zero9 (by rw [cells9]; rfl) (by rw [cells9]; rfl) (Nat.le_refl _)
      (by rw [cells9, appended_isS h]) (owns_strs _) hz (by rw [bytes9]; omega)
    rw [this, cells9]
    simp [setOb]
theorem end_clip : vend1 [] 0 [] [AV.list LK.clip 0 1 []] = some (.list .clip 0 1 [], []) := by
  simp [vend1, AV.thawAll, AV.thaw, AV.ownsAll, AV.owns, freezeIds, resOf, oneOf, unfr, unfr1]
/-- join of the reference: both lists' tokens. -/
theorem rjoin_spec (X : Ext) (call : Caller) (lf : Nat) {a b : AV} {l m : List ByteArray} (ha : IsS a l) (hb : IsS b m) (hn : (l.length + m.length) * 17 ≤ 140737488355328) :
    ∃ r σ', vbody Tryd.prog X call lf noFg Tryd.f38 (codeOf Tryd.f38) [a, b] [] 0 = some (r, σ') ∧ IsS r (l ++ m) ∧ r.pure = true := by
  have h1 := grow_clip (σ := []) ha (by omega)
  by_cases hl : l.length = 0
  · have hl' : l = [] := List.eq_nil_of_length_eq_zero hl
    subst hl'
    rw [if_pos (show ([] : List ByteArray).length = 0 from rfl)] at h1
    have h2 := grow_clip (σ := []) hb (by omega)
    by_cases hm : m.length = 0
    · have hm' : m = [] := List.eq_nil_of_length_eq_zero hm
      subst hm'
      rw [if_pos (show ([] : List ByteArray).length = 0 from rfl)] at h2
      exact ⟨_, _, rjoin_p a b _ _ _ _ _ _ X call lf h1 h2 end_clip, .inr ⟨rfl, _, _, _, rfl⟩, rfl⟩
    · rw [if_neg hm] at h2
      refine ⟨_, _, rjoin_p a b _ _ _ _ _ _ X call lf h1 h2 end_row, .inl ⟨_, rfl⟩, ?_⟩
      simp [AV.pure, AV.lt, lt_strs]
  · rw [if_neg hl] at h1
    refine ⟨_, _, rjoin_p a b _ _ _ _ _ _ X call lf h1 (grow_row hb hn) end_row, .inl ⟨_, rfl⟩, ?_⟩
    simp only [AV.pure, AV.lt]
    exact lt_strs 0 (l ++ m)
end Go.Proofs.Num
end
/- Numeral: the early ways out where a system is not valid. -/
section
open Go Go.Vm Go.Proofs
namespace Go.Proofs.Num
theorem noparse_p (s : NSys) (n : Nat) (cs : List AV) (X : Ext) (call : Caller) (lf : Nat)
  (h0 : callv X call false 22 [AV.agg (sysC s)] [Ob.cells (sysC s)] 0 = some (bo false, [Ob.cells (sysC s)])) : vbody Tryd.prog X call lf noFg Tryd.f20 (codeOf Tryd.f20) [AV.agg (sysC s), AV.list LK.clip n 1 cs] [] 0 = some (AV.list LK.nil 0 0 [], [Ob.cells (sysC s)]) :=
  along_sound (ans := [(5, Ans.v (bo false))]) (by kernel_rfl) (And.intro h0 trivial)
theorem nolongest_p (s : NSys) (n : Int) (X : Ext) (call : Caller) (lf : Nat)
  (h0 : callv X call false 22 [AV.agg (sysC s)] [Ob.cells (sysC s)] 0 = some (bo false, [Ob.cells (sysC s)])) : vbody Tryd.prog X call lf noFg Tryd.f24 (codeOf Tryd.f24) [AV.agg (sysC s), i6 n] [] 0 = some (AV.tup [i6 0, i6 0], [Ob.cells (sysC s)]) :=
  along_sound (ans := [(9, Ans.v (bo false))]) (by kernel_rfl) (And.intro h0 trivial)
theorem novoc_p (s : NSys) (X : Ext) (call : Caller) (lf : Nat)
  (h0 : callv X call false 22 [AV.agg (sysC s)] [Ob.cells (sysC s)] 0 = some (bo false, [Ob.cells (sysC s)])) : vbody Tryd.prog X call lf noFg Tryd.f26 (codeOf Tryd.f26) [AV.agg (sysC s)] [] 0 = some (AV.list LK.nil 0 0 [], [Ob.cells (sysC s)]) :=
  along_sound (ans := [(5, Ans.v (bo false))]) (by kernel_rfl) (And.intro h0 trivial)
theorem noclash_p (s : NSys) (n : Int) (X : Ext) (call : Caller) (lf : Nat)
  (h0 : callv X call false 22 [AV.agg (sysC s)] [Ob.cells (sysC s)] 0 = some (bo false, [Ob.cells (sysC s)])) : vbody Tryd.prog X call lf noFg Tryd.f28 (codeOf Tryd.f28) [AV.agg (sysC s), i6 n] [] 0 = some (AV.tup [i6 0, i6 0, bo false], [Ob.cells (sysC s)]) :=
  along_sound (ans := [(7, Ans.v (bo false))]) (by kernel_rfl) (And.intro h0 trivial)


end Go.Proofs.Num
end
/- Numeral: NumeralValid, its paths. -/
section
open Go Go.Vm Go.Proofs
namespace Go.Proofs.Num
theorem nvala_p (s : NSys) (n : Int) (X : Ext) (call : Caller) (lf : Nat)
  (h0 : callv X call false 13 [AV.agg (sysC s)] [Ob.cells (sysC s)] 0 = some (bo false, [Ob.cells (sysC s)]))
  (h1 : callv X call false 15 [] [Ob.cells (sysC s)] 0 = some (bo true, [Ob.cells (sysC s)])) : vbody Tryd.prog X call lf noFg Tryd.f12 (codeOf Tryd.f12) [AV.agg (sysC s), i6 n] [] 0 = some (bo true, [Ob.cells (sysC s)]) :=
  along_sound (ans := [(5, Ans.v (bo false)), (9, Ans.v (bo true))]) (by kernel_rfl) (And.intro h0 (And.intro h1 trivial))
theorem nvalb_p (s : NSys) (n : Int) (X : Ext) (call : Caller) (lf : Nat)
  (h0 : callv X call false 13 [AV.agg (sysC s)] [Ob.cells (sysC s)] 0 = some (bo true, [Ob.cells (sysC s)]))
  (h1 : callv X call false 14 [AV.agg (sysC s)] [Ob.cells (sysC s)] 0 = some (bo true, [Ob.cells (sysC s)]))
  (h2 : callv X call false 22 [AV.agg (sysC s)] [Ob.cells (sysC s)] 0 = some (bo true, [Ob.cells (sysC s)]))
  (h3 : callv X call false 15 [] [Ob.cells (sysC s)] 0 = some (bo true, [Ob.cells (sysC s)]))
  (h4 : callv X call false 30 [AV.agg (sysC s)] [Ob.cells (sysC s)] 0 = some (i6 9999, [Ob.cells (sysC s)])) : vbody Tryd.prog X call lf noFg Tryd.f12 (codeOf Tryd.f12) [AV.agg (sysC s), i6 n] [] 0 = some (bo true, [Ob.cells (sysC s)]) :=
  along_sound (ans := [(5, Ans.v (bo true)), (10, Ans.v (bo true)), (14, Ans.v (bo true)), (22, Ans.v (bo true)), (27, Ans.v (i6 9999))]) (by kernel_rfl) (And.intro h0 (And.intro h1 (And.intro h2 (And.intro h3 (And.intro h4 trivial)))))
theorem nvalc_p (s : NSys) (n : Int) (X : Ext) (call : Caller) (lf : Nat)
  (h0 : callv X call false 13 [AV.agg (sysC s)] [Ob.cells (sysC s)] 0 = some (bo true, [Ob.cells (sysC s)]))
  (h1 : callv X call false 14 [AV.agg (sysC s)] [Ob.cells (sysC s)] 0 = some (bo false, [Ob.cells (sysC s)]))
  (h2 : callv X call false 22 [AV.agg (sysC s)] [Ob.cells (sysC s)] 0 = some (bo false, [Ob.cells (sysC s)]))
  (h3 : callv X call false 16 [AV.agg (sysC s), i6 n] [Ob.cells (sysC s)] 0 = some (AV.tup [AV.list LK.nil 0 0 [], i6 1], [Ob.cells (sysC s)]))
  (h4 : callv X call false 28 [AV.agg (sysC s), i6 n] [Ob.cells (sysC s)] 0 = some (AV.tup [i6 0, i6 0, bo false], [Ob.cells (sysC s)]))
  (h5 : callv X call false 24 [AV.agg (sysC s), i6 n] [Ob.cells (sysC s)] 0 = some (AV.tup [i6 0, i6 0], [Ob.cells (sysC s)]))
  (h6 : callv X call true 15 [] [Ob.cells (sysC s)] 0 = some (bo true, [Ob.cells (sysC s)]))
  (h7 : callv X call true 30 [AV.agg (sysC s)] [Ob.cells (sysC s)] 0 = some (i6 (-1), [Ob.cells (sysC s)]))
  (h8 : callv X call true 20 [AV.agg (sysC s), AV.list LK.clip 1 1 [st (NSys.jo s)]] [Ob.cells (sysC s)] 0 = some (AV.list LK.nil 0 0 [], [Ob.cells (sysC s)]))
  (h9 : callv X call true 26 [AV.agg (sysC s)] [Ob.cells (sysC s)] 0 = some (AV.list LK.nil 0 0 [], [Ob.cells (sysC s)])) : vbody Tryd.prog X call lf noFg Tryd.f12 (codeOf Tryd.f12) [AV.agg (sysC s), i6 n] [] 0 = some (bo true, [Ob.cells (sysC s)]) :=
  along_sound (ans := [(5, Ans.v (bo true)), (10, Ans.v (bo false)), (14, Ans.v (bo false)), (24, Ans.v (AV.tup [AV.list LK.nil 0 0 [], i6 1])), (33, Ans.v (AV.tup [i6 0, i6 0, bo false])), (44, Ans.v (AV.tup [i6 0, i6 0])), (51, Ans.v (bo true)), (56, Ans.v (i6 (-1))), (80, Ans.v (AV.list LK.nil 0 0 [])), (88, Ans.v (AV.list LK.nil 0 0 []))]) (by kernel_rfl) (And.intro h0 (And.intro h1 (And.intro h2 (And.intro h3 (And.intro h4 (And.intro h5 (And.intro h6 (And.intro h7 (And.intro h8 (And.intro h9 trivial))))))))))
end Go.Proofs.Num
end
/- Arguments told with less: whatever is known of the room behind a list is left away. -/
section
namespace Go.Vm
variable [Fixed]
variable {P : Program} {C : Ctx} {w : World}

mutual
def roA : AV → AV
  | .list _ n sz cs => .list .ro n (if n = 0 then 1 else sz) (roAll cs)
  | .agg cs => .agg (roAll cs)
  | .tup cs => .tup (roAll cs)
  | .eaddr cs => .eaddr (roAll cs)
  | v => v
def roAll : List AV → List AV
  | [] => []
  | v :: vs => roA v :: roAll vs
end
theorem roA_one (v : AV) : (roA v).one = v.one := by cases v <;> simp [roA, AV.one]
theorem roAll_one : ∀ {vs : List AV}, allOne vs → allOne (roAll vs)
  | [], _ => trivial
  | v :: vs, h => by simp only [roAll, allOne] at h ⊢; exact ⟨(roA_one v).trans h.1, roAll_one h.2⟩
theorem roAll_length : ∀ (vs : List AV), (roAll vs).length = vs.length
  | [] => rfl
  | v :: vs => by simp [roAll, roAll_length vs]
mutual
theorem roA_rep (C : Ctx) (w : World) : ∀ (v : AV) (u : Value), Rep C w v u → Rep C w (roA v) u := by
  intro v u h
  match v with
  | .list k n sz cs =>
    simp only [roA, Rep] at h ⊢
    obtain ⟨h0, h1, a, cap, h2, h3, h4, _, _, h7⟩ := h
    refine ⟨?_, roAll_one h1, a, cap, h2, h3, h4, by simp, by simp, fun hn => ?_⟩
    · rw [roAll_length, h0]
      split
      · rename_i e; rw [e]; simp
      · rfl
    · obtain ⟨b, o, us, k1, k2, k3, k4, k5⟩ := h7 hn
      exact ⟨b, o, us, k1, k2, k3, k4, roAll_rep C w cs us k5⟩
  | .agg cs =>
    simp only [roA, Rep] at h ⊢
    obtain ⟨h1, us, e, h2⟩ := h
    exact ⟨roAll_one h1, us, e, roAll_rep C w cs us h2⟩
  | .tup cs =>
    simp only [roA, Rep] at h ⊢
    obtain ⟨us, e, h2⟩ := h
    exact ⟨us, e, roAll_rep C w cs us h2⟩
  | .eaddr cs =>
    simp only [roA, Rep] at h ⊢
    obtain ⟨h1, b, o, us, k1, k2, k3, k4, k5⟩ := h
    exact ⟨roAll_one h1, b, o, us, k1, k2, k3, k4, roAll_rep C w cs us k5⟩
  | .int _ _ | .bool _ | .str _ | .pnil | .mnil | .fnil | .inil | .undef | .any | .ref _ _ | .eref _ _ _ | .map _ | .own _ _ | .clo _ _ | .iface _ _ => exact h
theorem roAll_rep (C : Ctx) (w : World) : ∀ (vs : List AV) (us : List Value), RepAll C w vs us → RepAll C w (roAll vs) us := by
  intro vs us h
  match vs, us with
  | [], [] => exact h
  | v :: vs, u :: us =>
    simp only [roAll, RepAll] at h ⊢
    exact ⟨roA_rep C w v u h.1, roAll_rep C w vs us h.2⟩
  | [], _ :: _ => simp only [RepAll] at h
  | _ :: _, [] => simp only [RepAll] at h
end
theorem CallAt.ro {f : FuncId} {vs : List AV} {σ : List Ob} {ro : Nat} {r : AV} {σ' : List Ob} (h : CallAt P f (roAll vs) σ ro r σ') : CallAt P f vs σ ro r σ' :=
  ⟨h.1, fun C w us hσ hs hro hr => h.2 C w us hσ hs hro (roAll_rep C w vs us hr)⟩
/-- A specification over arguments told with less. -/
def Spec.ro (T : Spec) : Spec := fun f vs => T f (roAll vs)
theorem SpecOk.ro {T : Spec} (h : SpecOk P T) : SpecOk P T.ro := fun f vs r hr => (h f (roAll vs) r hr).ro
end Go.Vm
end
/- From a call that is told to the model's call, from any world that bears the fixed blocks. -/
section
namespace Go.Vm
open Go.RowKit (Below)
variable [Fixed]
variable {P : Program} {w : World}

/-- Nothing is the call's own yet. -/
def C0 : Ctx := ⟨[], fun _ => 0, fun _ => 0, fun _ => False⟩
theorem C0_ok (hf : ∀ b X, Fixed.fix b X → w.heap[b]? = some X) : SOk C0 w :=
  ⟨fun id o h => by simp [C0] at h, fun i j oi oj h => by simp [C0] at h, fun id o h => by simp [C0] at h, fun id o h => by simp [C0] at h, fun b h => h.elim, fun b X h => ⟨hf b X h, fun id o h => by simp [C0] at h⟩⟩
theorem not_mut0 (b : Nat) : ¬ Mut C0 b := by
  rintro (h | ⟨id, o, h, _⟩)
  · exact h
  · simp [C0] at h
/-- The model's call, for a result that is a truth value. -/
theorem CallAt.bool {f : FuncId} {vs : List AV} {us : List Value} {b : Bool} {σ' : List Ob} (h : CallAt P f vs [] 0 (.bool b) σ') (hf : ∀ b X, Fixed.fix b X → w.heap[b]? = some X) (hr : RepAll C0 w vs us) :
    Calls P f us.toArray w fun e w' => e = .returned (.bool b) ∧ Below w.heap.size w w' := by
  refine Calls.mono (h.2 C0 w us rfl (C0_ok hf) (Nat.le_refl _) hr) ?_
  rintro e w' ⟨u, C', rfl, _, _, hg, hru, _⟩
  simp only [Rep] at hru
  subst hru
  exact ⟨rfl, hg.os, hg.tape, hg.output, hg.size, fun k hk => hg.blk k hk fun id o _ h => by simp [C0] at h⟩
/-- A string slice that lies in memory, told by value. -/
theorem rep_strs {a : Option Addr} {cap : Nat} {l : List ByteArray} (hle : l.length ≤ cap) (hcm : cap ≤ maxLen)
    (ha : 0 < l.length → ∃ b o, a = some ⟨b, o, none⟩ ∧ b < w.heap.size ∧ ∀ i s, l[i]? = some s → w.cell? ⟨b, o + i, none⟩ = some (.string s)) : Rep C0 w (strs l) (.slice a l.length cap) := by
  unfold strs
  simp only [Rep]
  refine ⟨by simp, one_strs l, a, cap, rfl, hle, hcm, by simp, by simp, fun hn => ?_⟩
  obtain ⟨b, o, e, hb, hc⟩ := ha hn
  refine ⟨b, o, l.map .string, e, hb, not_mut0 b, ?_, ?_⟩
  · intro i x hi
    rw [List.getElem?_map] at hi
    cases hl : l[i]? with
    | none => rw [hl] at hi; simp at hi
    | some s =>
      rw [hl] at hi
      simp only [Option.map_some, Option.some.injEq] at hi
      subst hi
      exact hc i s hl
  · have : ∀ l : List ByteArray, RepAll C0 w (l.map .str) (l.map .string) := by
      intro l
      induction l with
      | nil => simp only [List.map_nil, RepAll]
      | cons s l ih => simp only [List.map_cons, RepAll, Rep]; exact ⟨trivial, ih⟩
    exact this l
end Go.Vm
end
/- Numeral: say, by induction over the depth. -/
section
open Go Go.Vm Go.Proofs
namespace Go.Proofs.Num
abbrev sayS (s : NSys) : List Ob := [Ob.cells (sysC s), Ob.cells [AV.clo 33 [AV.ref 0 0, AV.ref 1 0]]]
abbrev sayA (n : Int) : List AV := [i6 n, AV.ref 0 0, AV.ref 1 0]
abbrev lst (l : List ByteArray) : AV := lro l.length 1 (l.map .str)
def sayO (s : NSys) : Nat → Int → Option (List ByteArray)
  | 0, _ => none
  | k + 1, n =>
    if n < s.base then (if 0 ≤ n then (match s.digits[n.toNat]? with | some w => some [w] | none => none) else none)
    else
      let i := powK s n
      let p := s.base ^ (i + 1)
      let q := w6 (n.tdiv p)
      let r := n.tmod p
      if lessL s q p r then
        match sayO s k (w6 (p - r)), sayO s k (w6 (w6 (q + 1) * p)) with
        | some a, some b => some (a ++ s.le :: b)
        | _, _ => none
      else match s.powers[i]? with
        | none => none
        | some w =>
          match (if q != 1 || !s.om then (match sayO s k q with | some a => some (a ++ [w]) | none => none) else some [w]) with
          | none => none
          | some head =>
            if r == 0 then some head
            else match sayO s k r with
              | none => none
              | some a => some (if s.sf then a ++ (joinWords s ++ head) else head ++ (joinWords s ++ a))
/-- A caller that knows more, over one store. -/
theorem caller_more [Fixed] {P : Program} {call : Caller} (h : CallOk P call) {S : List Ob} (hS : ∀ f vs ro, call f vs S ro = none) (F : FuncId → List AV → Option AV)
    (hF : ∀ f vs r ro, F f vs = some r → CallAt P f vs S ro r S) :
    ∃ call', CallOk P call' ∧ (∀ f vs σ ro r, call f vs σ ro = some r → call' f vs σ ro = some r) ∧ (∀ f vs ro r, F f vs = some r → call' f vs S ro = some (r, S)) := by
  classical
  refine ⟨fun f vs σ ro => if σ = S then (match F f vs with | some r => some (r, S) | none => none) else call f vs σ ro, ?_, ?_, ?_⟩
  · intro f vs σ ro r σ' hc
    simp only at hc
    split at hc
    · rename_i e
      subst e
      split at hc
      · rename_i x hx
        simp only [Option.some.injEq, Prod.mk.injEq] at hc
        obtain ⟨rfl, rfl⟩ := hc
        exact hF f vs x ro hx
      · cases hc
    · exact h f vs σ ro r σ' hc
  · intro f vs σ ro r hc
    simp only
    split
    · rename_i e
      subst e
      rw [hS] at hc
      cases hc
    · exact hc
  · intro f vs ro r hr
    simp only [if_pos, hr]
theorem bsl3 {σ : List Ob} {dr : Bool} {ro : Nat} {k1 k2 k3 : LK} {n1 n2 n3 z1 z2 z3 : Nat} {c1 c2 c3 : List AV} (h : AV.ownsAll [AV.list k1 n1 z1 c1, AV.list k2 n2 z2 c2, AV.list k3 n3 z3 c3] = []) :
    bsl Tryd.prog 66 3 σ dr ro [(0, .list k1 n1 z1 c1), (1, .list k2 n2 z2 c2), (2, .list k3 n3 z3 c3)] = some (.list .clip 3 1 [.list k1 n1 z1 c1, .list k2 n2 z2 c2, .list k3 n3 z3 c3], σ) := by
  unfold bsl byValue
  simp only [List.map_cons, List.map_nil]
  rw [if_pos h]
  show _ = _
  kernel_rfl
theorem bsl2 {σ : List Ob} {dr : Bool} {ro : Nat} {k1 k2 : LK} {n1 n2 z1 z2 : Nat} {c1 c2 : List AV} (h : AV.ownsAll [AV.list k1 n1 z1 c1, AV.list k2 n2 z2 c2] = []) :
    bsl Tryd.prog 66 2 σ dr ro [(0, .list k1 n1 z1 c1), (1, .list k2 n2 z2 c2)] = some (.list .clip 2 1 [.list k1 n1 z1 c1, .list k2 n2 z2 c2], σ) := by
  unfold bsl byValue
  simp only [List.map_cons, List.map_nil]
  rw [if_pos h]
  show _ = _
  kernel_rfl
theorem end_lst {l : List ByteArray} {S : List Ob} {ro : Nat} : vend1 S ro S [lst l] = some (lst l, S) := by
  have h : AV.thawAll S [lst l] = some [lst l] := by simp [AV.thawAll, AV.thaw, thaw_strs]
  unfold vend1
  rw [h]
  have h2 : AV.ownsAll [lst l] = [] := by simp [AV.ownsAll, AV.owns, owns_strs]
  rw [h2]
  simp only [freezeIds]
  unfold resOf
  split <;> rfl
/-- The joiner, as a value. -/
def joinV (s : NSys) : AV := if empB s.jo then .list .nil 0 0 [] else .list .clip 1 1 [.str s.jo]
theorem joinV_is (s : NSys) : IsS (joinV s) (joinWords s) := by
  unfold joinV joinWords
  split
  · exact .inr ⟨rfl, _, _, _, rfl⟩
  · exact .inl ⟨_, rfl⟩
theorem lt_joinV (s : NSys) : AV.lt 0 (joinV s) = true := by
  unfold joinV
  split <;> rfl
theorem lt_l (l : List ByteArray) : AV.lt 0 (lst l) = true := by simp only [AV.lt]; exact lt_strs 0 l
theorem lt_3 {a b c : AV} (ha : AV.lt 0 a = true) (hb : AV.lt 0 b = true) (hc : AV.lt 0 c = true) : AV.ltAll 0 [a, b, c] = true := by simp [AV.ltAll, ha, hb, hc]
theorem lt_1 (w : ByteArray) : AV.lt 0 (.list .clip 1 1 [.str w]) = true := rfl
/-- What is known of the callees while say runs at depth k + 1. -/
structure SayCall (X : Ext) (call : Caller) (s : NSys) (k : Nat) : Prop where
  pow : ∀ n ro, callv X call false 34 [AV.agg (sysC s), i6 n] (sayS s) ro = some (AV.tup [i6 (s.base ^ (powK s n + 1)), i6 (powK s n)], sayS s)
  less : ∀ q p r ro, callv X call false 35 [AV.agg (sysC s), i6 q, i6 p, i6 r] (sayS s) ro = some (bo (lessL s q p r), sayS s)
  joi : ∀ ro, callv X call true 37 [AV.agg (sysC s)] (sayS s) ro = some (joinV s, sayS s)
  coll : ∀ ps ls dr ro, ps.length = ls.length → AV.ltAll 0 ps = true → lensum ls * 17 ≤ 140737488355328 → ls.length ≤ 3 → 0 < ls.length → (∀ l, ls[0]? = some l → l ≠ []) → (∀ (i : Nat) (l : List ByteArray), ls[i]? = some l → ∃ p, ps[i]? = some p ∧ IsS p l) →
    callv X call dr 36 [AV.list .clip ls.length 1 ps] (sayS s) ro = some (lst (joinL ls), sayS s)
  say : ∀ n l dr ro, sayO s k n = some l → callv X call dr 33 (sayA n) (sayS s) ro = some (lst l, sayS s)
theorem joinWords_len (s : NSys) : (joinWords s).length ≤ 1 := by unfold joinWords; split <;> simp
theorem sayO_len (s : NSys) : ∀ (k : Nat) (n : Int) (l : List ByteArray), sayO s k n = some l → l ≠ [] ∧ l.length + 2 ≤ 3 * 2 ^ k
  | 0, _, _, h => by simp [sayO] at h
  | k + 1, n, l, h => by
    have hj := joinWords_len s
    have h2 : 0 < 2 ^ k := Nat.pow_pos (by decide)
    have hk : 3 * 2 ^ (k + 1) = 6 * 2 ^ k := by rw [Nat.pow_succ]; omega
    rw [hk]
    simp only [sayO] at h
    split at h
    · split at h
      · split at h
        · simp only [Option.some.injEq] at h
          subst h
          simp only [List.length_cons, List.length_nil, ne_eq, reduceCtorEq, not_false_eq_true, true_and]
          omega
        · cases h
      · cases h
    · split at h
      · split at h
        · rename_i a b ha hb
          have la := (sayO_len s k _ _ ha).2
          have lb := (sayO_len s k _ _ hb).2
          simp only [Option.some.injEq] at h
          subst h
          simp only [List.length_append, List.length_cons, ne_eq, List.append_eq_nil_iff, reduceCtorEq, and_false, not_false_eq_true, true_and]
          omega
        · cases h
      · split at h
        · cases h
        · split at h
          · cases h
          · rename_i head hh
            have hd : head ≠ [] ∧ head.length + 1 ≤ 3 * 2 ^ k := by
              split at hh
              · split at hh
                · rename_i a ha
                  have la := (sayO_len s k _ _ ha).2
                  simp only [Option.some.injEq] at hh
                  subst hh
                  simp only [List.length_append, List.length_cons, List.length_nil, ne_eq, List.append_eq_nil_iff, reduceCtorEq, and_false, not_false_eq_true, true_and]
                  omega
                · cases hh
              · simp only [Option.some.injEq] at hh
                subst hh
                simp only [List.length_cons, List.length_nil, ne_eq, reduceCtorEq, not_false_eq_true, true_and]
                omega
            split at h
            · simp only [Option.some.injEq] at h
              subst h
              exact ⟨hd.1, by omega⟩
            · split at h
              · cases h
              · rename_i a ha
                have la := (sayO_len s k _ _ ha).2
                simp only [Option.some.injEq] at h
                subst h
                split
                · refine ⟨by simp [hd.1], ?_⟩
                  simp only [List.length_append]
                  omega
                · refine ⟨by simp [hd.1], ?_⟩
                  simp only [List.length_append]
                  omega
end Go.Proofs.Num
end
/- Numeral: one step of say. -/
section
open Go Go.Vm Go.Proofs
namespace Go.Proofs.Num
theorem idx_strs {S : List Ob} {l : List ByteArray} {i : Nat} {w : ByteArray} (h : l[i]? = some w) :
    keep S (indexAddrv Tryd.prog 22 S (lro l.length 1 (l.map .str)) (i6 (↑i : Int))) = some (.eaddr ((l.map AV.str).drop i), S) ∧
    keep S (loadv Tryd.prog 9 S (.eaddr ((l.map AV.str).drop i))) = some (st w, S) := by
  obtain ⟨hi, e⟩ := List.getElem?_eq_some_iff.1 h
  exact ⟨at_list Tryd.underlying22 cells9 info9 hi, load_list Tryd.underlying9 rfl (by rw [List.getElem?_map, h]; rfl)⟩
theorem quo_p {S : List Ob} {n p : Int} (hp : p ≠ 0) : keep S (binv Tryd.prog BinOp.quo 3 (i6 n) (i6 p)) = some (i6 (w6 (n.tdiv p)), S) := by
  have : binv Tryd.prog BinOp.quo 3 (i6 n) (i6 p) = some (i6 (w6 (n.tdiv p))) := by
    have h : binv Tryd.prog BinOp.quo 3 (i6 n) (i6 p) = if p = 0 then none else some (.int .i64 (IntKind.i64.wrap (n.tdiv p))) := by kernel_rfl
    rw [h, if_neg hp]
  rw [this]; rfl
theorem rem_p {S : List Ob} {n p : Int} (hp : p ≠ 0) : keep S (binv Tryd.prog BinOp.rem 3 (i6 n) (i6 p)) = some (i6 (n.tmod p), S) := by
  have : binv Tryd.prog BinOp.rem 3 (i6 n) (i6 p) = some (i6 (n.tmod p)) := by
    have h : binv Tryd.prog BinOp.rem 3 (i6 n) (i6 p) = if p = 0 then none else some (.int .i64 (n.tmod p)) := by kernel_rfl
    rw [h, if_neg hp]
  rw [this]; rfl
theorem is_lst (l : List ByteArray) : IsS (lst l) l := .inl ⟨_, rfl⟩
theorem is_one (w : ByteArray) : IsS (.list .clip 1 1 [.str w]) [w] := .inl ⟨_, rfl⟩
theorem three {a b c : AV} {x y z : List ByteArray} (ha : IsS a x) (hb : IsS b y) (hc : IsS c z) :
    ∀ (i : Nat) (l : List ByteArray), [x, y, z][i]? = some l → ∃ p, [a, b, c][i]? = some p ∧ IsS p l := by
  intro i l h
  match i with
  | 0 => simp only [List.getElem?_cons_zero, Option.some.injEq] at h; subst h; exact ⟨_, rfl, ha⟩
  | 1 => simp only [List.getElem?_cons_succ, List.getElem?_cons_zero, Option.some.injEq] at h; subst h; exact ⟨_, rfl, hb⟩
  | 2 => simp only [List.getElem?_cons_succ, List.getElem?_cons_zero, Option.some.injEq] at h; subst h; exact ⟨_, rfl, hc⟩
  | i + 3 => simp at h
theorem two {a b : AV} {x y : List ByteArray} (ha : IsS a x) (hb : IsS b y) :
    ∀ (i : Nat) (l : List ByteArray), [x, y][i]? = some l → ∃ p, [a, b][i]? = some p ∧ IsS p l := by
  intro i l h
  match i with
  | 0 => simp only [List.getElem?_cons_zero, Option.some.injEq] at h; subst h; exact ⟨_, rfl, ha⟩
  | 1 => simp only [List.getElem?_cons_succ, List.getElem?_cons_zero, Option.some.injEq] at h; subst h; exact ⟨_, rfl, hb⟩
  | i + 2 => simp at h
/-- How a say's result is told: as it comes, or by value. -/
def IsSay (r : AV) (l : List ByteArray) : Prop := r = lst l ∨ ∃ w, l = [w] ∧ r = .list .clip 1 1 [.str w]
theorem base_pos {s : NSys} (hb : s.base = 10 ∨ s.base = 20) (i : Nat) : s.base ^ (i + 1) ≠ 0 := by
  have h : s.base ≠ 0 := by omega
  exact Int.pow_ne_zero h
section
variable {X : Ext} {call : Caller} {s : NSys} {k : Nat}
theorem coll_head (hc : SayCall X call s k) {q : Int} {a : List ByteArray} {w : ByteArray} {ro : Nat} (hk : k ≤ 20) (h : sayO s k q = some a) :
    callv X call false 36 [.list .clip 2 1 [lst a, .list .clip 1 1 [st w]]] (sayS s) ro = some (lst (a ++ [w]), sayS s) := by
  obtain ⟨h1, h2⟩ := sayO_len s k q a h
  have hp : 2 ^ k ≤ 2 ^ 20 := Nat.pow_le_pow_right (by decide) hk
  have := hc.coll [lst a, .list .clip 1 1 [.str w]] [a, [w]] false ro rfl (by simp [AV.ltAll, AV.lt, lt_strs]) (by simp [lensum]; omega) (by simp) (by simp) (by intro l h; simp at h; exact h ▸ h1) (two (is_lst a) (is_one w))
  simpa [joinL] using this
theorem coll_three (hc : SayCall X call s k) {a b c : AV} {x y z : List ByteArray} {ro : Nat} (hlt : AV.ltAll 0 [a, b, c] = true) (ha : IsS a x) (hb : IsS b y) (hcc : IsS c z) (hx : x ≠ []) (hl : (x.length + (y.length + z.length)) * 17 ≤ 140737488355328) :
    callv X call true 36 [.list .clip 3 1 [a, b, c]] (sayS s) ro = some (lst (x ++ (y ++ z)), sayS s) := by
  have := hc.coll [a, b, c] [x, y, z] true ro rfl hlt (by simp [lensum]; omega) (by simp) (by simp) (by intro l h; simp at h; exact h ▸ hx) (three ha hb hcc)
  simpa [joinL] using this
theorem say_small {n : Int} (hn : n < s.base) (h0 : 0 ≤ n) {w : ByteArray} (hw : s.digits[n.toNat]? = some w) {lf ro : Nat} :
    vbody Tryd.prog X call lf noFg Tryd.f33 (codeOf Tryd.f33) (sayA n) (sayS s) ro = some (.list .clip 1 1 [.str w], sayS s) := by
  have hi := idx_strs (S := sayS s) hw
  have e : ((n.toNat : Nat) : Int) = n := Int.toNat_of_nonneg h0
  rw [e] at hi
  exact say_pt s n _ w X call lf ro (decide_eq_true hn) hi.1 hi.2
theorem say_less (hc : SayCall X call s k) (hb : s.base = 10 ∨ s.base = 20) (hk : k ≤ 20) {n : Int} {a b : List ByteArray} {lf ro : Nat} (hn : ¬ n < s.base)
    (hl : lessL s (w6 (n.tdiv (s.base ^ (powK s n + 1)))) (s.base ^ (powK s n + 1)) (n.tmod (s.base ^ (powK s n + 1))) = true)
    (ha : sayO s k (w6 (s.base ^ (powK s n + 1) - n.tmod (s.base ^ (powK s n + 1)))) = some a) (hbb : sayO s k (w6 (w6 (w6 (n.tdiv (s.base ^ (powK s n + 1))) + 1) * s.base ^ (powK s n + 1))) = some b) :
    vbody Tryd.prog X call lf noFg Tryd.f33 (codeOf Tryd.f33) (sayA n) (sayS s) ro = some (lst (a ++ s.le :: b), sayS s) := by
  obtain ⟨a1, a2⟩ := sayO_len s k _ a ha
  obtain ⟨b1, b2⟩ := sayO_len s k _ b hbb
  have hp : 2 ^ k ≤ 2 ^ 20 := Nat.pow_le_pow_right (by decide) hk
  have h4 := hc.less (w6 (n.tdiv (s.base ^ (powK s n + 1)))) (s.base ^ (powK s n + 1)) (n.tmod (s.base ^ (powK s n + 1))) ro
  rw [hl] at h4
  have h8 := coll_three hc (ro := ro) (lt_3 (lt_l _) (lt_1 _) (lt_l _)) (is_lst a) (is_one s.le) (is_lst b) a1 (by simp only [List.length_cons, List.length_nil]; omega)
  exact say_pft s n _ _ _ _ _ _ _ _ _ _ X call lf ro (decide_eq_false hn) (hc.pow n ro) (quo_p (base_pos hb _)) (rem_p (base_pos hb _)) h4 (hc.say _ _ _ _ ha) (hc.say _ _ _ _ hbb)
    (bsl3 (by simp [AV.ownsAll, AV.owns, owns_strs])) h8 end_lst
end
end Go.Proofs.Num
end
/- Numeral: one step of say, whole. -/
section
open Go Go.Vm Go.Proofs
namespace Go.Proofs.Num
theorem joinV_list (s : NSys) : ∃ k n z c, joinV s = .list k n z c ∧ AV.ownsAll c = [] := by
  unfold joinV
  split
  · exact ⟨_, _, _, _, rfl, rfl⟩
  · exact ⟨_, _, _, _, rfl, rfl⟩
section
variable {X : Ext} {call : Caller} {s : NSys} {k : Nat}
theorem bsl_r {a b : List ByteArray} {ro : Nat} : bsl Tryd.prog 66 3 (sayS s) true ro [(0, lst a), (1, joinV s), (2, lst b)] = some (.list .clip 3 1 [lst a, joinV s, lst b], sayS s) := by
  obtain ⟨k, n, z, c, e, ho⟩ := joinV_list s
  rw [e]
  exact bsl3 (by simp [AV.ownsAll, AV.owns, owns_strs, ho])
theorem bsl_w1 {a : List ByteArray} {w : ByteArray} {ro : Nat} : bsl Tryd.prog 66 3 (sayS s) true ro [(0, lst a), (1, joinV s), (2, .list .clip 1 1 [.str w])] = some (.list .clip 3 1 [lst a, joinV s, .list .clip 1 1 [.str w]], sayS s) := by
  obtain ⟨k, n, z, c, e, ho⟩ := joinV_list s
  rw [e]
  exact bsl3 (by simp [AV.ownsAll, AV.owns, owns_strs, ho])
theorem bsl_w2 {a : List ByteArray} {w : ByteArray} {ro : Nat} : bsl Tryd.prog 66 3 (sayS s) true ro [(0, .list .clip 1 1 [.str w]), (1, joinV s), (2, lst a)] = some (.list .clip 3 1 [.list .clip 1 1 [.str w], joinV s, lst a], sayS s) := by
  obtain ⟨k, n, z, c, e, ho⟩ := joinV_list s
  rw [e]
  exact bsl3 (by simp [AV.ownsAll, AV.owns, owns_strs, ho])
theorem say_head (hc : SayCall X call s k) (hb : s.base = 10 ∨ s.base = 20) (hk : k ≤ 20) {n : Int} {w : ByteArray} {a c : List ByteArray} {lf ro : Nat} (hn : ¬ n < s.base)
    (hl : lessL s (w6 (n.tdiv (s.base ^ (powK s n + 1)))) (s.base ^ (powK s n + 1)) (n.tmod (s.base ^ (powK s n + 1))) = false)
    (hw : s.powers[powK s n]? = some w) (hq : (w6 (n.tdiv (s.base ^ (powK s n + 1))) != 1 || !s.om) = true)
    (ha : sayO s k (w6 (n.tdiv (s.base ^ (powK s n + 1)))) = some a) (hcc : (n.tmod (s.base ^ (powK s n + 1)) == 0) = false → sayO s k (n.tmod (s.base ^ (powK s n + 1))) = some c) :
    vbody Tryd.prog X call lf noFg Tryd.f33 (codeOf Tryd.f33) (sayA n) (sayS s) ro = some (lst (if n.tmod (s.base ^ (powK s n + 1)) == 0 then a ++ [w] else if s.sf then c ++ (joinWords s ++ (a ++ [w])) else (a ++ [w]) ++ (joinWords s ++ c)), sayS s) := by
  have hp : 2 ^ k ≤ 2 ^ 20 := Nat.pow_le_pow_right (by decide) hk
  obtain ⟨a1, a2⟩ := sayO_len s k _ a ha
  have hj := joinWords_len s
  have hi := idx_strs (S := sayS s) hw
  have h4 := hc.less (w6 (n.tdiv (s.base ^ (powK s n + 1)))) (s.base ^ (powK s n + 1)) (n.tmod (s.base ^ (powK s n + 1))) ro
  rw [hl] at h4
  have h10 := coll_head hc (w := w) (ro := ro) hk ha
  have hd : (a ++ [w]).length = a.length + 1 := by simp
  have b2 : bsl Tryd.prog 66 2 (sayS s) false ro [(0, lst a), (1, .list .clip 1 1 [.str w])] = some (.list .clip 2 1 [lst a, .list .clip 1 1 [.str w]], sayS s) := bsl2 (by simp [AV.ownsAll, AV.owns, owns_strs])
  have key : (w6 (n.tdiv (s.base ^ (powK s n + 1))) != 1) = true ∨ ((w6 (n.tdiv (s.base ^ (powK s n + 1))) != 1) = false ∧ s.om = false) := by
    cases e : (w6 (n.tdiv (s.base ^ (powK s n + 1))) != 1) with
    | true => exact .inl rfl
    | false =>
      rw [e] at hq
      simp at hq
      exact .inr ⟨rfl, hq⟩
  cases e3 : (n.tmod (s.base ^ (powK s n + 1)) == 0) with
  | true =>
    rw [if_pos rfl]
    rcases key with e | ⟨e, eo⟩
    · exact say_pfftt s n _ _ _ _ _ _ _ _ _ _ X call lf ro (decide_eq_false hn) (hc.pow n ro) (quo_p (base_pos hb _)) (rem_p (base_pos hb _)) h4 hi.1 hi.2 e (hc.say _ _ _ _ ha) b2 h10 e3 end_lst
    · exact say_pfffft s n _ _ _ _ _ _ _ _ _ _ X call lf ro (decide_eq_false hn) (hc.pow n ro) (quo_p (base_pos hb _)) (rem_p (base_pos hb _)) h4 hi.1 hi.2 e eo (hc.say _ _ _ _ ha) b2 h10 e3 end_lst
  | false =>
    have hcs := hcc e3
    obtain ⟨c1, c2⟩ := sayO_len s k _ c hcs
    rw [if_neg (by decide)]
    cases e4 : s.sf with
    | true =>
      rw [if_pos rfl]
      have h16 := coll_three hc (ro := ro) (lt_3 (lt_l _) (lt_joinV _) (lt_l _)) (is_lst c) (joinV_is s) (is_lst (a ++ [w])) c1 (by rw [hd]; omega)
      rcases key with e | ⟨e, eo⟩
      · exact say_pfftft s n _ _ _ _ _ _ _ _ _ _ _ _ _ _ _ _ X call lf ro (decide_eq_false hn) (hc.pow n ro) (quo_p (base_pos hb _)) (rem_p (base_pos hb _)) h4 hi.1 hi.2 e (hc.say _ _ _ _ ha) b2 h10 e3 e4 (hc.say _ _ _ _ hcs) (hc.joi ro) bsl_r h16 end_lst
      · exact say_pffffft s n _ _ _ _ _ _ _ _ _ _ _ _ _ _ _ _ X call lf ro (decide_eq_false hn) (hc.pow n ro) (quo_p (base_pos hb _)) (rem_p (base_pos hb _)) h4 hi.1 hi.2 e eo (hc.say _ _ _ _ ha) b2 h10 e3 e4 (hc.say _ _ _ _ hcs) (hc.joi ro) bsl_r h16 end_lst
    | false =>
      rw [if_neg (by decide)]
      have h16 := coll_three hc (ro := ro) (lt_3 (lt_l _) (lt_joinV _) (lt_l _)) (is_lst (a ++ [w])) (joinV_is s) (is_lst c) (by simp) (by rw [hd]; omega)
      rcases key with e | ⟨e, eo⟩
      · exact say_pfftff s n _ _ _ _ _ _ _ _ _ _ _ _ _ _ _ _ X call lf ro (decide_eq_false hn) (hc.pow n ro) (quo_p (base_pos hb _)) (rem_p (base_pos hb _)) h4 hi.1 hi.2 e (hc.say _ _ _ _ ha) b2 h10 e3 e4 (hc.joi ro) (hc.say _ _ _ _ hcs) bsl_r h16 end_lst
      · exact say_pffffff s n _ _ _ _ _ _ _ _ _ _ _ _ _ _ _ _ X call lf ro (decide_eq_false hn) (hc.pow n ro) (quo_p (base_pos hb _)) (rem_p (base_pos hb _)) h4 hi.1 hi.2 e eo (hc.say _ _ _ _ ha) b2 h10 e3 e4 (hc.joi ro) (hc.say _ _ _ _ hcs) bsl_r h16 end_lst
end
end Go.Proofs.Num
end
/- Numeral: one step of say, joined. -/
section
open Go Go.Vm Go.Proofs
namespace Go.Proofs.Num
section
variable {X : Ext} {call : Caller} {s : NSys} {k : Nat}
theorem say_bare (hc : SayCall X call s k) (hb : s.base = 10 ∨ s.base = 20) (hk : k ≤ 20) {n : Int} {w : ByteArray} {c : List ByteArray} {lf ro : Nat} (hn : ¬ n < s.base)
    (hl : lessL s (w6 (n.tdiv (s.base ^ (powK s n + 1)))) (s.base ^ (powK s n + 1)) (n.tmod (s.base ^ (powK s n + 1))) = false)
    (hw : s.powers[powK s n]? = some w) (hq : (w6 (n.tdiv (s.base ^ (powK s n + 1))) != 1 || !s.om) = false)
    (hcc : (n.tmod (s.base ^ (powK s n + 1)) == 0) = false → sayO s k (n.tmod (s.base ^ (powK s n + 1))) = some c) :
    ∃ r, vbody Tryd.prog X call lf noFg Tryd.f33 (codeOf Tryd.f33) (sayA n) (sayS s) ro = some (r, sayS s) ∧ IsSay r (if n.tmod (s.base ^ (powK s n + 1)) == 0 then [w] else if s.sf then c ++ (joinWords s ++ [w]) else [w] ++ (joinWords s ++ c)) := by
  have hp : 2 ^ k ≤ 2 ^ 20 := Nat.pow_le_pow_right (by decide) hk
  have hj := joinWords_len s
  have hi := idx_strs (S := sayS s) hw
  have h4 := hc.less (w6 (n.tdiv (s.base ^ (powK s n + 1)))) (s.base ^ (powK s n + 1)) (n.tmod (s.base ^ (powK s n + 1))) ro
  rw [hl] at h4
  obtain ⟨e, eo⟩ : (w6 (n.tdiv (s.base ^ (powK s n + 1))) != 1) = false ∧ s.om = true := by
    cases e : (w6 (n.tdiv (s.base ^ (powK s n + 1))) != 1) with
    | true => rw [e] at hq; simp at hq
    | false =>
      rw [e] at hq
      simp at hq
      exact ⟨rfl, hq⟩
  cases e3 : (n.tmod (s.base ^ (powK s n + 1)) == 0) with
  | true =>
    rw [if_pos rfl]
    exact ⟨_, say_pffftt s n _ _ _ _ _ _ X call lf ro (decide_eq_false hn) (hc.pow n ro) (quo_p (base_pos hb _)) (rem_p (base_pos hb _)) h4 hi.1 hi.2 e eo e3, .inr ⟨w, rfl, rfl⟩⟩
  | false =>
    have hcs := hcc e3
    obtain ⟨c1, c2⟩ := sayO_len s k _ c hcs
    rw [if_neg (by decide)]
    cases e4 : s.sf with
    | true =>
      rw [if_pos rfl]
      have h16 := coll_three hc (ro := ro) (lt_3 (lt_l _) (lt_joinV _) (lt_1 _)) (is_lst c) (joinV_is s) (is_one w) c1 (by simp only [List.length_cons, List.length_nil]; omega)
      exact ⟨_, say_pffftft s n _ _ _ _ _ _ _ _ _ _ _ _ X call lf ro (decide_eq_false hn) (hc.pow n ro) (quo_p (base_pos hb _)) (rem_p (base_pos hb _)) h4 hi.1 hi.2 e eo e3 e4 (hc.say _ _ _ _ hcs) (hc.joi ro) bsl_w1 h16 end_lst, .inl rfl⟩
    | false =>
      rw [if_neg (by decide)]
      have h16 := coll_three hc (ro := ro) (lt_3 (lt_1 _) (lt_joinV _) (lt_l _)) (is_one w) (joinV_is s) (is_lst c) (by simp) (by simp only [List.length_cons, List.length_nil]; omega)
      exact ⟨_, say_pffftff s n _ _ _ _ _ _ _ _ _ _ _ _ X call lf ro (decide_eq_false hn) (hc.pow n ro) (quo_p (base_pos hb _)) (rem_p (base_pos hb _)) h4 hi.1 hi.2 e eo e3 e4 (hc.joi ro) (hc.say _ _ _ _ hcs) bsl_w2 h16 end_lst, .inl rfl⟩
end
end Go.Proofs.Num
end
/- Numeral: say at depth k + 1 from say at depth k. -/
section
open Go Go.Vm Go.Proofs
namespace Go.Proofs.Num
theorem say_step {X : Ext} {call : Caller} {s : NSys} {k : Nat} (hc : SayCall X call s k) (hb : s.base = 10 ∨ s.base = 20) (hk : k ≤ 20) {n : Int} {l : List ByteArray} {lf ro : Nat} (h : sayO s (k + 1) n = some l) :
    ∃ r, vbody Tryd.prog X call lf noFg Tryd.f33 (codeOf Tryd.f33) (sayA n) (sayS s) ro = some (r, sayS s) ∧ IsSay r l := by
  simp only [sayO] at h
  split at h
  · rename_i hn
    split at h
    · rename_i h0
      split at h
      · rename_i w hw
        simp only [Option.some.injEq] at h
        subst h
        exact ⟨_, say_small hn h0 hw, .inr ⟨w, rfl, rfl⟩⟩
      · cases h
    · cases h
  · rename_i hn
    split at h
    · rename_i hl
      split at h
      · rename_i a b ha hbb
        simp only [Option.some.injEq] at h
        subst h
        exact ⟨_, say_less hc hb hk hn hl ha hbb, .inl rfl⟩
      · cases h
    · rename_i hl
      have hl := Bool.eq_false_iff.2 hl
      split at h
      · cases h
      · rename_i w hw
        split at h
        · cases h
        · rename_i head hh
          split at hh
          · rename_i hq
            split at hh
            · rename_i a ha
              simp only [Option.some.injEq] at hh
              subst hh
              split at h
              · rename_i hr
                simp only [Option.some.injEq] at h
                subst h
                have := say_head hc hb hk (c := []) (lf := lf) (ro := ro) hn hl hw hq ha (fun e => by rw [hr] at e; cases e)
                rw [if_pos hr] at this
                exact ⟨_, this, .inl rfl⟩
              · rename_i hr
                split at h
                · cases h
                · rename_i c hcc
                  simp only [Option.some.injEq] at h
                  subst h
                  have := say_head hc hb hk (c := c) (lf := lf) (ro := ro) hn hl hw hq ha (fun _ => hcc)
                  rw [if_neg hr] at this
                  exact ⟨_, this, .inl rfl⟩
            · cases hh
          · rename_i hq
            have hq := Bool.eq_false_iff.2 hq
            simp only [Option.some.injEq] at hh
            subst hh
            split at h
            · rename_i hr
              simp only [Option.some.injEq] at h
              subst h
              have := say_bare hc hb hk (c := []) (lf := lf) (ro := ro) hn hl hw hq (fun e => by rw [hr] at e; cases e)
              rw [if_pos hr] at this
              exact this
            · rename_i hr
              split at h
              · cases h
              · rename_i c hcc
                simp only [Option.some.injEq] at h
                subst h
                have := say_bare hc hb hk (c := c) (lf := lf) (ro := ro) hn hl hw hq (fun _ => hcc)
                rw [if_neg hr] at this
                exact this
end Go.Proofs.Num
end
/- Numeral: say at every depth. -/
section
open Go Go.Vm Go.Proofs
namespace Go.Proofs.Num
variable [Fixed]
theorem isSay_call {f : FuncId} {vs : List AV} {σ : List Ob} {ro : Nat} {r : AV} {l : List ByteArray} {σ' : List Ob} (hr : IsSay r l) (h : CallAt Tryd.prog f vs σ ro r σ') : CallAt Tryd.prog f vs σ ro (lst l) σ' := by
  rcases hr with rfl | ⟨w, rfl, rfl⟩
  · exact h
  · refine ⟨h.1, fun C w us hσ hs hro hr => Calls.mono (h.2 C w us hσ hs hro hr) ?_⟩
    rintro e w' ⟨u, C', h1, h2, h3, h4, h5, h6⟩
    have := roA_rep C' w' _ _ h5
    exact ⟨u, C', h1, h2, h3, h4, this, by simp [Fresh]⟩
theorem callv_say {X : Ext} {call : Caller} {s : NSys} {n : Int} {l : List ByteArray} {dr : Bool} {ro : Nat} (h1 : X.pureFn 33 = none) (h2 : X.stFn 33 = none) (h : ∀ ro, call 33 (sayA n) (sayS s) ro = some (lst l, sayS s)) :
    callv X call dr 33 (sayA n) (sayS s) ro = some (lst l, sayS s) := by
  have e1 : AV.ltAll 0 (sayA n) = false := rfl
  have e2 : AV.thawAll (sayS s) (sayA n) = some (sayA n) := rfl
  have e3 : (lst l).lt (sayS s).length = true := by simp only [AV.lt]; exact lt_strs _ l
  have e4 : unfr (lst l) = lst l := rfl
  unfold callv
  rw [h1, h2]
  simp only [e1]
  cases dr with
  | true =>
    have e5 : (lst l).lt 2 = true := by simp only [AV.lt]; exact lt_strs _ l
    simp [h, e5, e4]
  | false =>
    simp only [e2, e1, h, e4]
    simp
def sayF (s : NSys) (k : Nat) : FuncId → List AV → Option AV
  | 33, [.int .i64 n, .ref 0 0, .ref 1 0] => match sayO s k n with
    | some l => some (lst l)
    | none => none
  | _, _ => none
theorem say_all {X : Ext} (hX : ExtOk Tryd.prog X) {T : Vm.Spec} (hT : SpecOk Tryd.prog T) {s : NSys} (hb : s.base = 10 ∨ s.base = 20) (hd : X.dom 33 = true) (h1 : X.pureFn 33 = none) (h2 : X.stFn 33 = none)
    (hB : ∀ call, (∀ f vs σ ro r, callerOf T f vs σ ro = some r → call f vs σ ro = some r) → SayCall X call s 0) :
    ∀ k, k ≤ 20 → ∀ n l ro, sayO s k n = some l → CallAt Tryd.prog 33 (sayA n) (sayS s) ro (lst l) (sayS s)
  | 0, _, _, _, _, h => by simp [sayO] at h
  | k + 1, hk, n, l, ro, h => by
    have ih := say_all hX hT hb hd h1 h2 hB k (by omega)
    obtain ⟨call, hc, hext, hsay⟩ := caller_more (callerOf_ok hT) (S := sayS s) (fun f vs ro => rfl) (sayF s k) (by
        intro f vs r ro hr
        unfold sayF at hr
        split at hr
        · split at hr
          · rename_i a ha
            simp only [Option.some.injEq] at hr
            subst hr
            exact ih _ _ ro ha
          · cases hr
        · cases hr)
    have hS : SayCall X call s k := by
      have h0 := hB call hext
      refine ⟨h0.pow, h0.less, h0.joi, h0.coll, fun m a dr ro hm => callv_say h1 h2 fun ro => ?_⟩
      apply hsay
      simp only [sayF, sayA, hm]
    obtain ⟨r, hv, hr⟩ := say_step (lf := 0) (ro := ro) hS hb (by omega) h
    exact isSay_call hr (body_at hX hc hd rfl rfl hv)
end Go.Proofs.Num
end
/- Numeral: utf8.ValidString by its contract, laid in plain words. -/
section
namespace Go.Proofs
open Go.Shelf
def Tryd.laysValid_ren : Go.Shelf.Ren := ⟨fun | 196 => 47 | 259 => 57 | n => n, fun | 9 => 9 | 4 => 4 | 3 => 3 | 5 => 5 | 12 => 12 | 119 => 84 | 0 => 0 | 46 => 70 | 139 => 87 | 138 => 86 | 53 => 102 | n => n, fun | 3 => 0 | 4 => 1 | n => n⟩
theorem Tryd.laysValid : Go.Proofs.Lays.n196 Tryd.prog Tryd.laysValid_ren := {
  mixed := by kernel_rfl
  f196 := Tryd.func47.trans (congrArg some (by kernel_rfl))
  f259 := Tryd.func57.trans (congrArg some (by kernel_rfl))
  t0 := Tryd.underlying0
  a0 := Tryd.isAgg0
  z0 := Tryd.sizeOf0
  v0 := Tryd.zeroValue0
  t3 := Tryd.underlying3
  a3 := Tryd.isAgg3
  z3 := Tryd.sizeOf3
  v3 := Tryd.zeroValue3
  t4 := Tryd.underlying4
  a4 := Tryd.isAgg4
  z4 := Tryd.sizeOf4
  v4 := Tryd.zeroValue4
  t5 := Tryd.underlying5
  a5 := Tryd.isAgg5
  z5 := Tryd.sizeOf5
  v5 := Tryd.zeroValue5
  t9 := Tryd.underlying9
  a9 := Tryd.isAgg9
  z9 := Tryd.sizeOf9
  v9 := Tryd.zeroValue9
  t12 := Tryd.underlying12
  a12 := Tryd.isAgg12
  z12 := Tryd.sizeOf12
  v12 := Tryd.zeroValue12
  t46 := Tryd.underlying70
  a46 := Tryd.isAgg70
  z46 := Tryd.sizeOf70
  v46 := Tryd.zeroValue70
  t53 := Tryd.underlying102
  a53 := Tryd.isAgg102
  z53 := Tryd.sizeOf102
  v53 := Tryd.zeroValue102
  t119 := Tryd.underlying84
  a119 := Tryd.isAgg84
  z119 := Tryd.sizeOf84
  t138 := Tryd.underlying86
  a138 := Tryd.isAgg86
  z138 := Tryd.sizeOf86
  v138 := Tryd.zeroValue86
  t139 := Tryd.underlying87
  a139 := Tryd.isAgg87
  z139 := Tryd.sizeOf87
  v139 := Tryd.zeroValue87
  g3 := by kernel_rfl
  g4 := by kernel_rfl }
end Go.Proofs
end
/- Numeral: what is not walked; what arguments say. -/
section
open Go Go.Vm Go.Proofs
open Go.RowKit (Below)
namespace Go.Proofs.Num
def validFn : List AV → Option AV
  | [.str s] => if s.size ≤ 9223372036854775807 then some (.bool (Lib.validD (bytes s))) else none
  | _ => none
def dom15 (f : FuncId) : Bool := Nat.blt 2 f && Nat.blt f 97
/-- Functions whose new row comes back as the caller's own: l. -/
def X15 (l : List Nat) : Ext := { pureFn := fun f => if f = 47 then some validFn else none, stFn := fun _ => none, adopt := fun f => memN f l, dom := dom15, fg := fun _ _ => [] }
def okFn (fn : Func) : Bool := fn.name != "runtime.NumGoroutine" && (match fn.body with | some c => codeOk c | none => true)
def okF (P : Program) (f : FuncId) : Bool := match P.funcs[f]? with | some fn => okFn fn | none => true
theorem okF_some {P : Program} {f : FuncId} {fn : Func} (hf : P.funcs[f]? = some fn) (h : okF P f = true) : ¬ fn.name = "runtime.NumGoroutine" ∧ ∀ c, fn.body = some c → codeOk c = true := by
  unfold okF at h
  rw [hf] at h
  simp only [okFn, Bool.and_eq_true, bne_iff_ne, ne_eq] at h
  refine ⟨h.1, fun c hc => ?_⟩
  have h2 := h.2
  rw [hc] at h2
  exact h2
theorem dom_all : ((List.range 119).all fun f => !dom15 f || okF Tryd.prog f) = true := by kernel_rfl
theorem dom_at {f : FuncId} (hd : dom15 f = true) : okF Tryd.prog f = true := by
  have hlt : f < 119 := by
    unfold dom15 at hd
    rw [Bool.and_eq_true] at hd
    exact Nat.lt_trans (Nat.le_of_ble_eq_true hd.2) (by decide)
  obtain ⟨l119, hl119⟩ : ∃ l, List.range 119 = l := ⟨_, rfl⟩
  have hmem : f ∈ l119 := hl119 ▸ List.mem_range.2 hlt
  have hall := dom_all
  rw [hl119] at hall
  have := List.all_eq_true.1 hall f hmem
  simpa [hd] using this
/-- The two tables, as a world bears them. -/
@[reducible] def tabFix (W : World) : Fixed := ⟨fun b X => (b = 0 ∨ b = 1) ∧ W.heap[b]? = some X⟩
theorem tabs_move {W w : World} (hT : Lib.Utf8Tabs 0 1 W) (h : ∀ b X, (tabFix W).fix b X → w.heap[b]? = some X) : Lib.Utf8Tabs 0 1 w := by
  have key : ∀ b o v, (b = 0 ∨ b = 1) → W.cell? ⟨b, o, none⟩ = some v → w.cell? ⟨b, o, none⟩ = some v := by
    intro b o v hb hc
    cases hX : W.heap[b]? with
    | none => simp [World.cell?, hX] at hc
    | some X =>
      have := h b X ⟨hb, hX⟩
      rw [← hc]
      simp only [World.cell?, hX, this]
  exact ⟨fun c hc => key _ _ _ (.inl rfl) (hT.1 c hc), fun i hi => ⟨key _ _ _ (.inr rfl) (hT.2 i hi).1, key _ _ _ (.inr rfl) (hT.2 i hi).2⟩⟩
theorem ext15 {W : World} (hT : Lib.Utf8Tabs 0 1 W) (l : List Nat) : @ExtOk (tabFix W) Tryd.prog (X15 l) := by
  letI := tabFix W
  refine ⟨by kernel_rfl, ?_, ?_, ?_⟩
  · intro f fn hd hf
    exact okF_some hf (dom_at (by simpa only [X15] using hd))
  · intro f g hg
    simp only [X15] at hg
    split at hg
    · rename_i e
      subst e
      simp only [Option.some.injEq] at hg
      subst hg
      refine ⟨⟨Tryd.f47, Tryd.func47, by kernel_rfl, of_decide_eq_false (by kernel_rfl)⟩, ?_⟩
      intro vs r hl hr C w us hs hrep
      clear hl
      unfold validFn at hr
      split at hr
      · rename_i s
        split at hr
        · rename_i hsz
          simp only [Option.some.injEq] at hr
          subst hr
          have e : us = [.string s] := by
            match us, hrep with
            | [], h => simp only [RepAll] at h
            | [u], h => simp only [RepAll, Rep, and_true] at h; rw [h]
            | _ :: _ :: _, h => simp only [RepAll, and_false] at h
          subst e
          have hTw : Lib.Utf8Tabs 0 1 w := tabs_move hT fun b X h => (hs.fx b X h).1
          refine Calls.mono (Any.utf8_ValidString Tryd.laysValid s w hsz hTw) ?_
          rintro e w' ⟨rfl, hb⟩
          exact ⟨_, rfl, hb.os, hb.tape, hb.output, hb.size, hb.block, rfl⟩
        · cases hr
      · cases hr
    · cases hg
  · intro f g hg
    simp [X15] at hg
/-! ### what arguments say -/
def strsO : List AV → Option (List ByteArray)
  | [] => some []
  | .str s :: l => match strsO l with
    | some r => some (s :: r)
    | none => none
  | _ => none
theorem strsO_map : ∀ (l : List ByteArray), strsO (l.map .str) = some l
  | [] => rfl
  | s :: l => by simp [strsO, strsO_map l]
theorem strsO_eq : ∀ {cs : List AV} {l : List ByteArray}, strsO cs = some l → cs = l.map .str
  | [], l, h => by simp only [strsO, Option.some.injEq] at h; subst h; rfl
  | c :: cs, l, h => by
    unfold strsO at h
    split at h
    · rename_i e; cases e
    · rename_i s l' e
      simp only [List.cons.injEq] at e
      obtain ⟨rfl, rfl⟩ := e
      split at h
      · rename_i r hr
        simp only [Option.some.injEq] at h
        subst h
        rw [strsO_eq hr]
        rfl
      · cases h
    · cases h
def sysO : List AV → Option NSys
  | [.int .i64 b, .list .ro n 1 ds, .list .ro m 1 ps, .bool sf, .str jo, .int .i64 su, .str le, .bool om] =>
    match strsO ds, strsO ps with
    | some ds, some ps => if n = ds.length ∧ m = ps.length then some ⟨b, ds, ps, sf, jo, su, le, om⟩ else none
    | _, _ => none
  | _ => none
theorem sysO_sysC (s : NSys) : sysO (sysC s) = some s := by
  simp only [sysO, sysC, strsO_map]
  simp
theorem sysO_eq {cs : List AV} {s : NSys} (h : sysO cs = some s) : cs = sysC s := by
  unfold sysO at h
  split at h
  · split at h
    · rename_i ds' ps' h1 h2
      split at h
      · rename_i e
        simp only [Option.some.injEq] at h
        subst h
        obtain ⟨rfl, rfl⟩ := e
        simp only [sysC]
        rw [strsO_eq h1, strsO_eq h2]
      · cases h
    · cases h
  · cases h
/-- A list of strings, told somehow. -/
def isSO : AV → Option (List ByteArray)
  | .list _ n sz cs => if n = 0 then some [] else if sz = 1 then (match strsO cs with
    | some l => if n = l.length then some l else none
    | none => none) else none
  | _ => none
theorem isSO_is {v : AV} {l : List ByteArray} (h : isSO v = some l) : IsS v l := by
  unfold isSO at h
  split at h
  · split at h
    · rename_i e
      simp only [Option.some.injEq] at h
      subst h; subst e
      exact .inr ⟨rfl, _, _, _, rfl⟩
    · split at h
      · rename_i e
        subst e
        split at h
        · rename_i l' hl
          split at h
          · rename_i e
            simp only [Option.some.injEq] at h
            subst h; subst e
            exact .inl ⟨_, by rw [strsO_eq hl]⟩
          · cases h
        · cases h
      · cases h
  · cases h
theorem isSO_of {v : AV} {l : List ByteArray} (h : IsS v l) : isSO v = some l := by
  rcases h with ⟨k, rfl⟩ | ⟨rfl, k, sz, cs, rfl⟩
  · simp only [isSO, strsO_map]
    by_cases h : l.length = 0
    · have : l = [] := List.eq_nil_of_length_eq_zero h
      subst this
      rfl
    · simp [h]
  · simp [isSO]
def isSOs : List AV → Option (List (List ByteArray))
  | [] => some []
  | v :: vs => match isSO v, isSOs vs with
    | some l, some ls => some (l :: ls)
    | _, _ => none
theorem isSOs_at : ∀ {vs : List AV} {ls : List (List ByteArray)}, isSOs vs = some ls → vs.length = ls.length ∧ ∀ (i : Nat) (l : List ByteArray), ls[i]? = some l → ∃ p, vs[i]? = some p ∧ IsS p l
  | [], ls, h => by simp only [isSOs, Option.some.injEq] at h; subst h; simp
  | v :: vs, ls, h => by
    simp only [isSOs] at h
    split at h
    · rename_i l ls' h1 h2
      simp only [Option.some.injEq] at h
      subst h
      obtain ⟨k1, k2⟩ := isSOs_at h2
      refine ⟨by simp [k1], fun i x hx => ?_⟩
      cases i with
      | zero => simp only [List.getElem?_cons_zero, Option.some.injEq] at hx; subst hx; exact ⟨v, rfl, isSO_is h1⟩
      | succ i => exact k2 i x hx
    · cases h
theorem isSOs_of : ∀ {vs : List AV} {ls : List (List ByteArray)}, vs.length = ls.length → (∀ (i : Nat) (l : List ByteArray), ls[i]? = some l → ∃ p, vs[i]? = some p ∧ IsS p l) → isSOs vs = some ls
  | [], [], _, _ => rfl
  | [], _ :: _, h, _ => by simp at h
  | _ :: _, [], h, _ => by simp at h
  | v :: vs, l :: ls, h, k => by
    obtain ⟨p, hp, hs⟩ := k 0 l rfl
    simp only [List.getElem?_cons_zero, Option.some.injEq] at hp
    subst hp
    simp only [isSOs, isSO_of hs, isSOs_of (vs := vs) (ls := ls) (by simpa using h) fun i x hx => k (i + 1) x (by simpa using hx)]
end Go.Proofs.Num
end
