/- Part 4 of the texts of this claim: the evaluator, and what it says of the program's functions. -/
import Derived.Test.YtdkoncfpkhapjaaDoorXC
import Derived.Test.YtdkoncfpkhapjaaDoorXB
import Derived.Test.YtdkoncfpkhapjaaDoorProg
import Derived.Ground.NamesProg
import Derived.Shelf.Unicode.ValidAny
import Derived.KernelRfl
import Derived.Test.YtdkoncfpkhapjaaDoorTie
import Derived.Test.YtdkoncfpkhapjaaDoorCards
import Derived.Lib.LaidU8T
import Derived.Lib.LaidIn
import Derived.Lay
import Derived.SevenTiedAt
set_option linter.unusedSectionVars false
set_option linter.unusedVariables false
set_option linter.unusedSimpArgs false
set_option linter.constructorNameAsVariable false
/- Numeral: the paths of say. -/
section
open Go Go.Vm Go.Proofs
namespace Go.Proofs.Num
theorem say_pt (s : NSys) (n : Int) (rest : List AV) (w : ByteArray) (X : Ext) (call : Caller) (lf : Nat) (ro : Nat)
  (h0 : decide (n < NSys.base s) = true)
  (h1 : keep [Ob.cells (sysC s), Ob.cells [AV.clo 33 [AV.ref 0 0, AV.ref 1 0]]] (indexAddrv Tryd.prog 22 [Ob.cells (sysC s), Ob.cells [AV.clo 33 [AV.ref 0 0, AV.ref 1 0]]] (lro (List.length (NSys.digits s)) 1 (List.map st (NSys.digits s))) (i6 n)) = some (AV.eaddr rest, [Ob.cells (sysC s), Ob.cells [AV.clo 33 [AV.ref 0 0, AV.ref 1 0]]]))
  (h2 : keep [Ob.cells (sysC s), Ob.cells [AV.clo 33 [AV.ref 0 0, AV.ref 1 0]]] (loadv Tryd.prog 9 [Ob.cells (sysC s), Ob.cells [AV.clo 33 [AV.ref 0 0, AV.ref 1 0]]] (AV.eaddr rest)) = some (st w, [Ob.cells (sysC s), Ob.cells [AV.clo 33 [AV.ref 0 0, AV.ref 1 0]]])) : vbody Tryd.prog X call lf noFg Tryd.f33 (codeOf Tryd.f33) [i6 n, AV.ref 0 0, AV.ref 1 0] [Ob.cells (sysC s), Ob.cells [AV.clo 33 [AV.ref 0 0, AV.ref 1 0]]] ro = some (AV.list LK.clip 1 1 [st w], [Ob.cells (sysC s), Ob.cells [AV.clo 33 [AV.ref 0 0, AV.ref 1 0]]]) :=
  along_sound (ans := [(6, Ans.b true), (12, Ans.v (AV.eaddr rest)), (13, Ans.v (st w))]) (by kernel_rfl) (And.intro h0 (And.intro h1 (And.intro h2 trivial)))
theorem say_pft (s : NSys) (n : Int) (p : Int) (q : Int) (r : Int) (k : Nat) (c1 : List AV) (c2 : List AV) (c3 : List AV) (n1 : Nat) (n2 : Nat) (n3 : Nat) (X : Ext) (call : Caller) (lf : Nat) (ro : Nat)
  (h0 : decide (n < NSys.base s) = false)
  (h1 : callv X call false 34 [AV.agg (sysC s), i6 n] [Ob.cells (sysC s), Ob.cells [AV.clo 33 [AV.ref 0 0, AV.ref 1 0]]] ro = some (AV.tup [i6 p, i6 (↑k : Int)], [Ob.cells (sysC s), Ob.cells [AV.clo 33 [AV.ref 0 0, AV.ref 1 0]]]))
  (h2 : keep [Ob.cells (sysC s), Ob.cells [AV.clo 33 [AV.ref 0 0, AV.ref 1 0]]] (binv Tryd.prog BinOp.quo 3 (i6 n) (i6 p)) = some (i6 q, [Ob.cells (sysC s), Ob.cells [AV.clo 33 [AV.ref 0 0, AV.ref 1 0]]]))
  (h3 : keep [Ob.cells (sysC s), Ob.cells [AV.clo 33 [AV.ref 0 0, AV.ref 1 0]]] (binv Tryd.prog BinOp.rem 3 (i6 n) (i6 p)) = some (i6 r, [Ob.cells (sysC s), Ob.cells [AV.clo 33 [AV.ref 0 0, AV.ref 1 0]]]))
  (h4 : callv X call false 35 [AV.agg (sysC s), i6 q, i6 p, i6 r] [Ob.cells (sysC s), Ob.cells [AV.clo 33 [AV.ref 0 0, AV.ref 1 0]]] ro = some (bo true, [Ob.cells (sysC s), Ob.cells [AV.clo 33 [AV.ref 0 0, AV.ref 1 0]]]))
  (h5 : callv X call true 33 [i6 (w6 (p - r)), AV.ref 0 0, AV.ref 1 0] [Ob.cells (sysC s), Ob.cells [AV.clo 33 [AV.ref 0 0, AV.ref 1 0]]] ro = some (lro n1 1 c1, [Ob.cells (sysC s), Ob.cells [AV.clo 33 [AV.ref 0 0, AV.ref 1 0]]]))
  (h6 : callv X call true 33 [i6 (w6 (w6 (q + 1) * p)), AV.ref 0 0, AV.ref 1 0] [Ob.cells (sysC s), Ob.cells [AV.clo 33 [AV.ref 0 0, AV.ref 1 0]]] ro = some (lro n2 1 c2, [Ob.cells (sysC s), Ob.cells [AV.clo 33 [AV.ref 0 0, AV.ref 1 0]]]))
  (h7 : bsl Tryd.prog 66 3 [Ob.cells (sysC s), Ob.cells [AV.clo 33 [AV.ref 0 0, AV.ref 1 0]]] true ro [(0, lro n1 1 c1), (1, AV.list LK.clip 1 1 [st (NSys.le s)]), (2, lro n2 1 c2)] = some (AV.list LK.clip 3 1 [lro n1 1 c1, AV.list LK.clip 1 1 [st (NSys.le s)], lro n2 1 c2], [Ob.cells (sysC s), Ob.cells [AV.clo 33 [AV.ref 0 0, AV.ref 1 0]]]))
  (h8 : callv X call true 36 [AV.list LK.clip 3 1 [lro n1 1 c1, AV.list LK.clip 1 1 [st (NSys.le s)], lro n2 1 c2]] [Ob.cells (sysC s), Ob.cells [AV.clo 33 [AV.ref 0 0, AV.ref 1 0]]] ro = some (lro n3 1 c3, [Ob.cells (sysC s), Ob.cells [AV.clo 33 [AV.ref 0 0, AV.ref 1 0]]]))
  (h9 : vend1 [Ob.cells (sysC s), Ob.cells [AV.clo 33 [AV.ref 0 0, AV.ref 1 0]]] ro [Ob.cells (sysC s), Ob.cells [AV.clo 33 [AV.ref 0 0, AV.ref 1 0]]] [lro n3 1 c3] = some (lro n3 1 c3, [Ob.cells (sysC s), Ob.cells [AV.clo 33 [AV.ref 0 0, AV.ref 1 0]]])) : vbody Tryd.prog X call lf noFg Tryd.f33 (codeOf Tryd.f33) [i6 n, AV.ref 0 0, AV.ref 1 0] [Ob.cells (sysC s), Ob.cells [AV.clo 33 [AV.ref 0 0, AV.ref 1 0]]] ro = some (lro n3 1 c3, [Ob.cells (sysC s), Ob.cells [AV.clo 33 [AV.ref 0 0, AV.ref 1 0]]]) :=
  along_sound (ans := [(6, Ans.b false), (11, Ans.v (AV.tup [i6 p, i6 (↑k : Int)])), (20, Ans.v (i6 q)), (23, Ans.v (i6 r)), (31, Ans.v (bo true)), (38, Ans.v (lro n1 1 c1)), (47, Ans.v (lro n2 1 c2)), (48, Ans.v (AV.list LK.clip 3 1 [lro n1 1 c1, AV.list LK.clip 1 1 [st (NSys.le s)], lro n2 1 c2])), (49, Ans.v (lro n3 1 c3)), (51, Ans.c (lro n3 1 c3) [Ob.cells (sysC s), Ob.cells [AV.clo 33 [AV.ref 0 0, AV.ref 1 0]]])]) (by kernel_rfl) (And.intro h0 (And.intro h1 (And.intro h2 (And.intro h3 (And.intro h4 (And.intro h5 (And.intro h6 (And.intro h7 (And.intro h8 (And.intro h9 trivial))))))))))
theorem say_pfftt (s : NSys) (n : Int) (p : Int) (q : Int) (r : Int) (k : Nat) (rest2 : List AV) (c1 : List AV) (c4 : List AV) (n1 : Nat) (n4 : Nat) (w2 : ByteArray) (X : Ext) (call : Caller) (lf : Nat) (ro : Nat)
  (h0 : decide (n < NSys.base s) = false)
  (h1 : callv X call false 34 [AV.agg (sysC s), i6 n] [Ob.cells (sysC s), Ob.cells [AV.clo 33 [AV.ref 0 0, AV.ref 1 0]]] ro = some (AV.tup [i6 p, i6 (↑k : Int)], [Ob.cells (sysC s), Ob.cells [AV.clo 33 [AV.ref 0 0, AV.ref 1 0]]]))
  (h2 : keep [Ob.cells (sysC s), Ob.cells [AV.clo 33 [AV.ref 0 0, AV.ref 1 0]]] (binv Tryd.prog BinOp.quo 3 (i6 n) (i6 p)) = some (i6 q, [Ob.cells (sysC s), Ob.cells [AV.clo 33 [AV.ref 0 0, AV.ref 1 0]]]))
  (h3 : keep [Ob.cells (sysC s), Ob.cells [AV.clo 33 [AV.ref 0 0, AV.ref 1 0]]] (binv Tryd.prog BinOp.rem 3 (i6 n) (i6 p)) = some (i6 r, [Ob.cells (sysC s), Ob.cells [AV.clo 33 [AV.ref 0 0, AV.ref 1 0]]]))
  (h4 : callv X call false 35 [AV.agg (sysC s), i6 q, i6 p, i6 r] [Ob.cells (sysC s), Ob.cells [AV.clo 33 [AV.ref 0 0, AV.ref 1 0]]] ro = some (bo false, [Ob.cells (sysC s), Ob.cells [AV.clo 33 [AV.ref 0 0, AV.ref 1 0]]]))
  (h5 : keep [Ob.cells (sysC s), Ob.cells [AV.clo 33 [AV.ref 0 0, AV.ref 1 0]]] (indexAddrv Tryd.prog 22 [Ob.cells (sysC s), Ob.cells [AV.clo 33 [AV.ref 0 0, AV.ref 1 0]]] (lro (List.length (NSys.powers s)) 1 (List.map st (NSys.powers s))) (i6 (↑k : Int))) = some (AV.eaddr rest2, [Ob.cells (sysC s), Ob.cells [AV.clo 33 [AV.ref 0 0, AV.ref 1 0]]]))
  (h6 : keep [Ob.cells (sysC s), Ob.cells [AV.clo 33 [AV.ref 0 0, AV.ref 1 0]]] (loadv Tryd.prog 9 [Ob.cells (sysC s), Ob.cells [AV.clo 33 [AV.ref 0 0, AV.ref 1 0]]] (AV.eaddr rest2)) = some (st w2, [Ob.cells (sysC s), Ob.cells [AV.clo 33 [AV.ref 0 0, AV.ref 1 0]]]))
  (h7 : (q != 1) = true)
  (h8 : callv X call false 33 [i6 q, AV.ref 0 0, AV.ref 1 0] [Ob.cells (sysC s), Ob.cells [AV.clo 33 [AV.ref 0 0, AV.ref 1 0]]] ro = some (lro n1 1 c1, [Ob.cells (sysC s), Ob.cells [AV.clo 33 [AV.ref 0 0, AV.ref 1 0]]]))
  (h9 : bsl Tryd.prog 66 2 [Ob.cells (sysC s), Ob.cells [AV.clo 33 [AV.ref 0 0, AV.ref 1 0]]] false ro [(0, lro n1 1 c1), (1, AV.list LK.clip 1 1 [st w2])] = some (AV.list LK.clip 2 1 [lro n1 1 c1, AV.list LK.clip 1 1 [st w2]], [Ob.cells (sysC s), Ob.cells [AV.clo 33 [AV.ref 0 0, AV.ref 1 0]]]))
  (h10 : callv X call false 36 [AV.list LK.clip 2 1 [lro n1 1 c1, AV.list LK.clip 1 1 [st w2]]] [Ob.cells (sysC s), Ob.cells [AV.clo 33 [AV.ref 0 0, AV.ref 1 0]]] ro = some (lro n4 1 c4, [Ob.cells (sysC s), Ob.cells [AV.clo 33 [AV.ref 0 0, AV.ref 1 0]]]))
  (h11 : (r == 0) = true)
  (h12 : vend1 [Ob.cells (sysC s), Ob.cells [AV.clo 33 [AV.ref 0 0, AV.ref 1 0]]] ro [Ob.cells (sysC s), Ob.cells [AV.clo 33 [AV.ref 0 0, AV.ref 1 0]]] [lro n4 1 c4] = some (lro n4 1 c4, [Ob.cells (sysC s), Ob.cells [AV.clo 33 [AV.ref 0 0, AV.ref 1 0]]])) : vbody Tryd.prog X call lf noFg Tryd.f33 (codeOf Tryd.f33) [i6 n, AV.ref 0 0, AV.ref 1 0] [Ob.cells (sysC s), Ob.cells [AV.clo 33 [AV.ref 0 0, AV.ref 1 0]]] ro = some (lro n4 1 c4, [Ob.cells (sysC s), Ob.cells [AV.clo 33 [AV.ref 0 0, AV.ref 1 0]]]) :=
  along_sound (ans := [(6, Ans.b false), (11, Ans.v (AV.tup [i6 p, i6 (↑k : Int)])), (20, Ans.v (i6 q)), (23, Ans.v (i6 r)), (31, Ans.v (bo false)), (37, Ans.v (AV.eaddr rest2)), (38, Ans.v (st w2)), (43, Ans.b true), (53, Ans.v (lro n1 1 c1)), (55, Ans.v (AV.list LK.clip 2 1 [lro n1 1 c1, AV.list LK.clip 1 1 [st w2]])), (56, Ans.v (lro n4 1 c4)), (60, Ans.b true), (66, Ans.c (lro n4 1 c4) [Ob.cells (sysC s), Ob.cells [AV.clo 33 [AV.ref 0 0, AV.ref 1 0]]])]) (by kernel_rfl) (And.intro h0 (And.intro h1 (And.intro h2 (And.intro h3 (And.intro h4 (And.intro h5 (And.intro h6 (And.intro h7 (And.intro h8 (And.intro h9 (And.intro h10 (And.intro h11 (And.intro h12 trivial)))))))))))))
theorem say_pfftft (s : NSys) (n : Int) (p : Int) (q : Int) (r : Int) (k : Nat) (rest2 : List AV) (c1 : List AV) (c2 : List AV) (c3 : List AV) (c4 : List AV) (n1 : Nat) (n2 : Nat) (n3 : Nat) (n4 : Nat) (w2 : ByteArray) (j : AV) (h : AV) (X : Ext) (call : Caller) (lf : Nat) (ro : Nat)
  (h0 : decide (n < NSys.base s) = false)
  (h1 : callv X call false 34 [AV.agg (sysC s), i6 n] [Ob.cells (sysC s), Ob.cells [AV.clo 33 [AV.ref 0 0, AV.ref 1 0]]] ro = some (AV.tup [i6 p, i6 (↑k : Int)], [Ob.cells (sysC s), Ob.cells [AV.clo 33 [AV.ref 0 0, AV.ref 1 0]]]))
  (h2 : keep [Ob.cells (sysC s), Ob.cells [AV.clo 33 [AV.ref 0 0, AV.ref 1 0]]] (binv Tryd.prog BinOp.quo 3 (i6 n) (i6 p)) = some (i6 q, [Ob.cells (sysC s), Ob.cells [AV.clo 33 [AV.ref 0 0, AV.ref 1 0]]]))
  (h3 : keep [Ob.cells (sysC s), Ob.cells [AV.clo 33 [AV.ref 0 0, AV.ref 1 0]]] (binv Tryd.prog BinOp.rem 3 (i6 n) (i6 p)) = some (i6 r, [Ob.cells (sysC s), Ob.cells [AV.clo 33 [AV.ref 0 0, AV.ref 1 0]]]))
  (h4 : callv X call false 35 [AV.agg (sysC s), i6 q, i6 p, i6 r] [Ob.cells (sysC s), Ob.cells [AV.clo 33 [AV.ref 0 0, AV.ref 1 0]]] ro = some (bo false, [Ob.cells (sysC s), Ob.cells [AV.clo 33 [AV.ref 0 0, AV.ref 1 0]]]))
  (h5 : keep [Ob.cells (sysC s), Ob.cells [AV.clo 33 [AV.ref 0 0, AV.ref 1 0]]] (indexAddrv Tryd.prog 22 [Ob.cells (sysC s), Ob.cells [AV.clo 33 [AV.ref 0 0, AV.ref 1 0]]] (lro (List.length (NSys.powers s)) 1 (List.map st (NSys.powers s))) (i6 (↑k : Int))) = some (AV.eaddr rest2, [Ob.cells (sysC s), Ob.cells [AV.clo 33 [AV.ref 0 0, AV.ref 1 0]]]))
  (h6 : keep [Ob.cells (sysC s), Ob.cells [AV.clo 33 [AV.ref 0 0, AV.ref 1 0]]] (loadv Tryd.prog 9 [Ob.cells (sysC s), Ob.cells [AV.clo 33 [AV.ref 0 0, AV.ref 1 0]]] (AV.eaddr rest2)) = some (st w2, [Ob.cells (sysC s), Ob.cells [AV.clo 33 [AV.ref 0 0, AV.ref 1 0]]]))
  (h7 : (q != 1) = true)
  (h8 : callv X call false 33 [i6 q, AV.ref 0 0, AV.ref 1 0] [Ob.cells (sysC s), Ob.cells [AV.clo 33 [AV.ref 0 0, AV.ref 1 0]]] ro = some (lro n1 1 c1, [Ob.cells (sysC s), Ob.cells [AV.clo 33 [AV.ref 0 0, AV.ref 1 0]]]))
  (h9 : bsl Tryd.prog 66 2 [Ob.cells (sysC s), Ob.cells [AV.clo 33 [AV.ref 0 0, AV.ref 1 0]]] false ro [(0, lro n1 1 c1), (1, AV.list LK.clip 1 1 [st w2])] = some (AV.list LK.clip 2 1 [lro n1 1 c1, AV.list LK.clip 1 1 [st w2]], [Ob.cells (sysC s), Ob.cells [AV.clo 33 [AV.ref 0 0, AV.ref 1 0]]]))
  (h10 : callv X call false 36 [AV.list LK.clip 2 1 [lro n1 1 c1, AV.list LK.clip 1 1 [st w2]]] [Ob.cells (sysC s), Ob.cells [AV.clo 33 [AV.ref 0 0, AV.ref 1 0]]] ro = some (lro n4 1 c4, [Ob.cells (sysC s), Ob.cells [AV.clo 33 [AV.ref 0 0, AV.ref 1 0]]]))
  (h11 : (r == 0) = false)
  (h12 : NSys.sf s = true)
  (h13 : callv X call true 33 [i6 r, AV.ref 0 0, AV.ref 1 0] [Ob.cells (sysC s), Ob.cells [AV.clo 33 [AV.ref 0 0, AV.ref 1 0]]] ro = some (lro n2 1 c2, [Ob.cells (sysC s), Ob.cells [AV.clo 33 [AV.ref 0 0, AV.ref 1 0]]]))
  (h14 : callv X call true 37 [AV.agg (sysC s)] [Ob.cells (sysC s), Ob.cells [AV.clo 33 [AV.ref 0 0, AV.ref 1 0]]] ro = some (j, [Ob.cells (sysC s), Ob.cells [AV.clo 33 [AV.ref 0 0, AV.ref 1 0]]]))
  (h15 : bsl Tryd.prog 66 3 [Ob.cells (sysC s), Ob.cells [AV.clo 33 [AV.ref 0 0, AV.ref 1 0]]] true ro [(0, lro n2 1 c2), (1, j), (2, lro n4 1 c4)] = some (AV.list LK.clip 3 1 [lro n2 1 c2, j, h], [Ob.cells (sysC s), Ob.cells [AV.clo 33 [AV.ref 0 0, AV.ref 1 0]]]))
  (h16 : callv X call true 36 [AV.list LK.clip 3 1 [lro n2 1 c2, j, h]] [Ob.cells (sysC s), Ob.cells [AV.clo 33 [AV.ref 0 0, AV.ref 1 0]]] ro = some (lro n3 1 c3, [Ob.cells (sysC s), Ob.cells [AV.clo 33 [AV.ref 0 0, AV.ref 1 0]]]))
  (h17 : vend1 [Ob.cells (sysC s), Ob.cells [AV.clo 33 [AV.ref 0 0, AV.ref 1 0]]] ro [Ob.cells (sysC s), Ob.cells [AV.clo 33 [AV.ref 0 0, AV.ref 1 0]]] [lro n3 1 c3] = some (lro n3 1 c3, [Ob.cells (sysC s), Ob.cells [AV.clo 33 [AV.ref 0 0, AV.ref 1 0]]])) : vbody Tryd.prog X call lf noFg Tryd.f33 (codeOf Tryd.f33) [i6 n, AV.ref 0 0, AV.ref 1 0] [Ob.cells (sysC s), Ob.cells [AV.clo 33 [AV.ref 0 0, AV.ref 1 0]]] ro = some (lro n3 1 c3, [Ob.cells (sysC s), Ob.cells [AV.clo 33 [AV.ref 0 0, AV.ref 1 0]]]) :=
  along_sound (ans := [(6, Ans.b false), (11, Ans.v (AV.tup [i6 p, i6 (↑k : Int)])), (20, Ans.v (i6 q)), (23, Ans.v (i6 r)), (31, Ans.v (bo false)), (37, Ans.v (AV.eaddr rest2)), (38, Ans.v (st w2)), (43, Ans.b true), (53, Ans.v (lro n1 1 c1)), (55, Ans.v (AV.list LK.clip 2 1 [lro n1 1 c1, AV.list LK.clip 1 1 [st w2]])), (56, Ans.v (lro n4 1 c4)), (60, Ans.b false), (65, Ans.b true), (71, Ans.v (lro n2 1 c2)), (73, Ans.v j), (75, Ans.v (AV.list LK.clip 3 1 [lro n2 1 c2, j, h])), (76, Ans.v (lro n3 1 c3)), (78, Ans.c (lro n3 1 c3) [Ob.cells (sysC s), Ob.cells [AV.clo 33 [AV.ref 0 0, AV.ref 1 0]]])]) (by kernel_rfl) (And.intro h0 (And.intro h1 (And.intro h2 (And.intro h3 (And.intro h4 (And.intro h5 (And.intro h6 (And.intro h7 (And.intro h8 (And.intro h9 (And.intro h10 (And.intro h11 (And.intro h12 (And.intro h13 (And.intro h14 (And.intro h15 (And.intro h16 (And.intro h17 trivial))))))))))))))))))
theorem say_pfftff (s : NSys) (n : Int) (p : Int) (q : Int) (r : Int) (k : Nat) (rest2 : List AV) (c1 : List AV) (c2 : List AV) (c3 : List AV) (c4 : List AV) (n1 : Nat) (n2 : Nat) (n3 : Nat) (n4 : Nat) (w2 : ByteArray) (j : AV) (h : AV) (X : Ext) (call : Caller) (lf : Nat) (ro : Nat)
  (h0 : decide (n < NSys.base s) = false)
  (h1 : callv X call false 34 [AV.agg (sysC s), i6 n] [Ob.cells (sysC s), Ob.cells [AV.clo 33 [AV.ref 0 0, AV.ref 1 0]]] ro = some (AV.tup [i6 p, i6 (↑k : Int)], [Ob.cells (sysC s), Ob.cells [AV.clo 33 [AV.ref 0 0, AV.ref 1 0]]]))
  (h2 : keep [Ob.cells (sysC s), Ob.cells [AV.clo 33 [AV.ref 0 0, AV.ref 1 0]]] (binv Tryd.prog BinOp.quo 3 (i6 n) (i6 p)) = some (i6 q, [Ob.cells (sysC s), Ob.cells [AV.clo 33 [AV.ref 0 0, AV.ref 1 0]]]))
  (h3 : keep [Ob.cells (sysC s), Ob.cells [AV.clo 33 [AV.ref 0 0, AV.ref 1 0]]] (binv Tryd.prog BinOp.rem 3 (i6 n) (i6 p)) = some (i6 r, [Ob.cells (sysC s), Ob.cells [AV.clo 33 [AV.ref 0 0, AV.ref 1 0]]]))
  (h4 : callv X call false 35 [AV.agg (sysC s), i6 q, i6 p, i6 r] [Ob.cells (sysC s), Ob.cells [AV.clo 33 [AV.ref 0 0, AV.ref 1 0]]] ro = some (bo false, [Ob.cells (sysC s), Ob.cells [AV.clo 33 [AV.ref 0 0, AV.ref 1 0]]]))
  (h5 : keep [Ob.cells (sysC s), Ob.cells [AV.clo 33 [AV.ref 0 0, AV.ref 1 0]]] (indexAddrv Tryd.prog 22 [Ob.cells (sysC s), Ob.cells [AV.clo 33 [AV.ref 0 0, AV.ref 1 0]]] (lro (List.length (NSys.powers s)) 1 (List.map st (NSys.powers s))) (i6 (↑k : Int))) = some (AV.eaddr rest2, [Ob.cells (sysC s), Ob.cells [AV.clo 33 [AV.ref 0 0, AV.ref 1 0]]]))
  (h6 : keep [Ob.cells (sysC s), Ob.cells [AV.clo 33 [AV.ref 0 0, AV.ref 1 0]]] (loadv Tryd.prog 9 [Ob.cells (sysC s), Ob.cells [AV.clo 33 [AV.ref 0 0, AV.ref 1 0]]] (AV.eaddr rest2)) = some (st w2, [Ob.cells (sysC s), Ob.cells [AV.clo 33 [AV.ref 0 0, AV.ref 1 0]]]))
  (h7 : (q != 1) = true)
  (h8 : callv X call false 33 [i6 q, AV.ref 0 0, AV.ref 1 0] [Ob.cells (sysC s), Ob.cells [AV.clo 33 [AV.ref 0 0, AV.ref 1 0]]] ro = some (lro n1 1 c1, [Ob.cells (sysC s), Ob.cells [AV.clo 33 [AV.ref 0 0, AV.ref 1 0]]]))
  (h9 : bsl Tryd.prog 66 2 [Ob.cells (sysC s), Ob.cells [AV.clo 33 [AV.ref 0 0, AV.ref 1 0]]] false ro [(0, lro n1 1 c1), (1, AV.list LK.clip 1 1 [st w2])] = some (AV.list LK.clip 2 1 [lro n1 1 c1, AV.list LK.clip 1 1 [st w2]], [Ob.cells (sysC s), Ob.cells [AV.clo 33 [AV.ref 0 0, AV.ref 1 0]]]))
  (h10 : callv X call false 36 [AV.list LK.clip 2 1 [lro n1 1 c1, AV.list LK.clip 1 1 [st w2]]] [Ob.cells (sysC s), Ob.cells [AV.clo 33 [AV.ref 0 0, AV.ref 1 0]]] ro = some (lro n4 1 c4, [Ob.cells (sysC s), Ob.cells [AV.clo 33 [AV.ref 0 0, AV.ref 1 0]]]))
  (h11 : (r == 0) = false)
  (h12 : NSys.sf s = false)
  (h13 : callv X call true 37 [AV.agg (sysC s)] [Ob.cells (sysC s), Ob.cells [AV.clo 33 [AV.ref 0 0, AV.ref 1 0]]] ro = some (j, [Ob.cells (sysC s), Ob.cells [AV.clo 33 [AV.ref 0 0, AV.ref 1 0]]]))
  (h14 : callv X call true 33 [i6 r, AV.ref 0 0, AV.ref 1 0] [Ob.cells (sysC s), Ob.cells [AV.clo 33 [AV.ref 0 0, AV.ref 1 0]]] ro = some (lro n2 1 c2, [Ob.cells (sysC s), Ob.cells [AV.clo 33 [AV.ref 0 0, AV.ref 1 0]]]))
  (h15 : bsl Tryd.prog 66 3 [Ob.cells (sysC s), Ob.cells [AV.clo 33 [AV.ref 0 0, AV.ref 1 0]]] true ro [(0, lro n4 1 c4), (1, j), (2, lro n2 1 c2)] = some (AV.list LK.clip 3 1 [h, j, lro n2 1 c2], [Ob.cells (sysC s), Ob.cells [AV.clo 33 [AV.ref 0 0, AV.ref 1 0]]]))
  (h16 : callv X call true 36 [AV.list LK.clip 3 1 [h, j, lro n2 1 c2]] [Ob.cells (sysC s), Ob.cells [AV.clo 33 [AV.ref 0 0, AV.ref 1 0]]] ro = some (lro n3 1 c3, [Ob.cells (sysC s), Ob.cells [AV.clo 33 [AV.ref 0 0, AV.ref 1 0]]]))
  (h17 : vend1 [Ob.cells (sysC s), Ob.cells [AV.clo 33 [AV.ref 0 0, AV.ref 1 0]]] ro [Ob.cells (sysC s), Ob.cells [AV.clo 33 [AV.ref 0 0, AV.ref 1 0]]] [lro n3 1 c3] = some (lro n3 1 c3, [Ob.cells (sysC s), Ob.cells [AV.clo 33 [AV.ref 0 0, AV.ref 1 0]]])) : vbody Tryd.prog X call lf noFg Tryd.f33 (codeOf Tryd.f33) [i6 n, AV.ref 0 0, AV.ref 1 0] [Ob.cells (sysC s), Ob.cells [AV.clo 33 [AV.ref 0 0, AV.ref 1 0]]] ro = some (lro n3 1 c3, [Ob.cells (sysC s), Ob.cells [AV.clo 33 [AV.ref 0 0, AV.ref 1 0]]]) :=
  along_sound (ans := [(6, Ans.b false), (11, Ans.v (AV.tup [i6 p, i6 (↑k : Int)])), (20, Ans.v (i6 q)), (23, Ans.v (i6 r)), (31, Ans.v (bo false)), (37, Ans.v (AV.eaddr rest2)), (38, Ans.v (st w2)), (43, Ans.b true), (53, Ans.v (lro n1 1 c1)), (55, Ans.v (AV.list LK.clip 2 1 [lro n1 1 c1, AV.list LK.clip 1 1 [st w2]])), (56, Ans.v (lro n4 1 c4)), (60, Ans.b false), (65, Ans.b false), (71, Ans.v j), (74, Ans.v (lro n2 1 c2)), (75, Ans.v (AV.list LK.clip 3 1 [h, j, lro n2 1 c2])), (76, Ans.v (lro n3 1 c3)), (78, Ans.c (lro n3 1 c3) [Ob.cells (sysC s), Ob.cells [AV.clo 33 [AV.ref 0 0, AV.ref 1 0]]])]) (by kernel_rfl) (And.intro h0 (And.intro h1 (And.intro h2 (And.intro h3 (And.intro h4 (And.intro h5 (And.intro h6 (And.intro h7 (And.intro h8 (And.intro h9 (And.intro h10 (And.intro h11 (And.intro h12 (And.intro h13 (And.intro h14 (And.intro h15 (And.intro h16 (And.intro h17 trivial))))))))))))))))))
theorem say_pffftt (s : NSys) (n : Int) (p : Int) (q : Int) (r : Int) (k : Nat) (rest2 : List AV) (w2 : ByteArray) (X : Ext) (call : Caller) (lf : Nat) (ro : Nat)
  (h0 : decide (n < NSys.base s) = false)
  (h1 : callv X call false 34 [AV.agg (sysC s), i6 n] [Ob.cells (sysC s), Ob.cells [AV.clo 33 [AV.ref 0 0, AV.ref 1 0]]] ro = some (AV.tup [i6 p, i6 (↑k : Int)], [Ob.cells (sysC s), Ob.cells [AV.clo 33 [AV.ref 0 0, AV.ref 1 0]]]))
  (h2 : keep [Ob.cells (sysC s), Ob.cells [AV.clo 33 [AV.ref 0 0, AV.ref 1 0]]] (binv Tryd.prog BinOp.quo 3 (i6 n) (i6 p)) = some (i6 q, [Ob.cells (sysC s), Ob.cells [AV.clo 33 [AV.ref 0 0, AV.ref 1 0]]]))
  (h3 : keep [Ob.cells (sysC s), Ob.cells [AV.clo 33 [AV.ref 0 0, AV.ref 1 0]]] (binv Tryd.prog BinOp.rem 3 (i6 n) (i6 p)) = some (i6 r, [Ob.cells (sysC s), Ob.cells [AV.clo 33 [AV.ref 0 0, AV.ref 1 0]]]))
  (h4 : callv X call false 35 [AV.agg (sysC s), i6 q, i6 p, i6 r] [Ob.cells (sysC s), Ob.cells [AV.clo 33 [AV.ref 0 0, AV.ref 1 0]]] ro = some (bo false, [Ob.cells (sysC s), Ob.cells [AV.clo 33 [AV.ref 0 0, AV.ref 1 0]]]))
  (h5 : keep [Ob.cells (sysC s), Ob.cells [AV.clo 33 [AV.ref 0 0, AV.ref 1 0]]] (indexAddrv Tryd.prog 22 [Ob.cells (sysC s), Ob.cells [AV.clo 33 [AV.ref 0 0, AV.ref 1 0]]] (lro (List.length (NSys.powers s)) 1 (List.map st (NSys.powers s))) (i6 (↑k : Int))) = some (AV.eaddr rest2, [Ob.cells (sysC s), Ob.cells [AV.clo 33 [AV.ref 0 0, AV.ref 1 0]]]))
  (h6 : keep [Ob.cells (sysC s), Ob.cells [AV.clo 33 [AV.ref 0 0, AV.ref 1 0]]] (loadv Tryd.prog 9 [Ob.cells (sysC s), Ob.cells [AV.clo 33 [AV.ref 0 0, AV.ref 1 0]]] (AV.eaddr rest2)) = some (st w2, [Ob.cells (sysC s), Ob.cells [AV.clo 33 [AV.ref 0 0, AV.ref 1 0]]]))
  (h7 : (q != 1) = false)
  (h8 : NSys.om s = true)
  (h9 : (r == 0) = true) : vbody Tryd.prog X call lf noFg Tryd.f33 (codeOf Tryd.f33) [i6 n, AV.ref 0 0, AV.ref 1 0] [Ob.cells (sysC s), Ob.cells [AV.clo 33 [AV.ref 0 0, AV.ref 1 0]]] ro = some (AV.list LK.clip 1 1 [st w2], [Ob.cells (sysC s), Ob.cells [AV.clo 33 [AV.ref 0 0, AV.ref 1 0]]]) :=
  along_sound (ans := [(6, Ans.b false), (11, Ans.v (AV.tup [i6 p, i6 (↑k : Int)])), (20, Ans.v (i6 q)), (23, Ans.v (i6 r)), (31, Ans.v (bo false)), (37, Ans.v (AV.eaddr rest2)), (38, Ans.v (st w2)), (43, Ans.b false), (48, Ans.b true), (55, Ans.b true)]) (by kernel_rfl) (And.intro h0 (And.intro h1 (And.intro h2 (And.intro h3 (And.intro h4 (And.intro h5 (And.intro h6 (And.intro h7 (And.intro h8 (And.intro h9 trivial))))))))))
theorem say_pffftft (s : NSys) (n : Int) (p : Int) (q : Int) (r : Int) (k : Nat) (rest2 : List AV) (c2 : List AV) (c3 : List AV) (n2 : Nat) (n3 : Nat) (w2 : ByteArray) (j : AV) (h : AV) (X : Ext) (call : Caller) (lf : Nat) (ro : Nat)
  (h0 : decide (n < NSys.base s) = false)
  (h1 : callv X call false 34 [AV.agg (sysC s), i6 n] [Ob.cells (sysC s), Ob.cells [AV.clo 33 [AV.ref 0 0, AV.ref 1 0]]] ro = some (AV.tup [i6 p, i6 (↑k : Int)], [Ob.cells (sysC s), Ob.cells [AV.clo 33 [AV.ref 0 0, AV.ref 1 0]]]))
  (h2 : keep [Ob.cells (sysC s), Ob.cells [AV.clo 33 [AV.ref 0 0, AV.ref 1 0]]] (binv Tryd.prog BinOp.quo 3 (i6 n) (i6 p)) = some (i6 q, [Ob.cells (sysC s), Ob.cells [AV.clo 33 [AV.ref 0 0, AV.ref 1 0]]]))
  (h3 : keep [Ob.cells (sysC s), Ob.cells [AV.clo 33 [AV.ref 0 0, AV.ref 1 0]]] (binv Tryd.prog BinOp.rem 3 (i6 n) (i6 p)) = some (i6 r, [Ob.cells (sysC s), Ob.cells [AV.clo 33 [AV.ref 0 0, AV.ref 1 0]]]))
  (h4 : callv X call false 35 [AV.agg (sysC s), i6 q, i6 p, i6 r] [Ob.cells (sysC s), Ob.cells [AV.clo 33 [AV.ref 0 0, AV.ref 1 0]]] ro = some (bo false, [Ob.cells (sysC s), Ob.cells [AV.clo 33 [AV.ref 0 0, AV.ref 1 0]]]))
  (h5 : keep [Ob.cells (sysC s), Ob.cells [AV.clo 33 [AV.ref 0 0, AV.ref 1 0]]] (indexAddrv Tryd.prog 22 [Ob.cells (sysC s), Ob.cells [AV.clo 33 [AV.ref 0 0, AV.ref 1 0]]] (lro (List.length (NSys.powers s)) 1 (List.map st (NSys.powers s))) (i6 (↑k : Int))) = some (AV.eaddr rest2, [Ob.cells (sysC s), Ob.cells [AV.clo 33 [AV.ref 0 0, AV.ref 1 0]]]))
  (h6 : keep [Ob.cells (sysC s), Ob.cells [AV.clo 33 [AV.ref 0 0, AV.ref 1 0]]] (loadv Tryd.prog 9 [Ob.cells (sysC s), Ob.cells [AV.clo 33 [AV.ref 0 0, AV.ref 1 0]]] (AV.eaddr rest2)) = some (st w2, [Ob.cells (sysC s), Ob.cells [AV.clo 33 [AV.ref 0 0, AV.ref 1 0]]]))
  (h7 : (q != 1) = false)
  (h8 : NSys.om s = true)
  (h9 : (r == 0) = false)
  (h10 : NSys.sf s = true)
  (h11 : callv X call true 33 [i6 r, AV.ref 0 0, AV.ref 1 0] [Ob.cells (sysC s), Ob.cells [AV.clo 33 [AV.ref 0 0, AV.ref 1 0]]] ro = some (lro n2 1 c2, [Ob.cells (sysC s), Ob.cells [AV.clo 33 [AV.ref 0 0, AV.ref 1 0]]]))
  (h12 : callv X call true 37 [AV.agg (sysC s)] [Ob.cells (sysC s), Ob.cells [AV.clo 33 [AV.ref 0 0, AV.ref 1 0]]] ro = some (j, [Ob.cells (sysC s), Ob.cells [AV.clo 33 [AV.ref 0 0, AV.ref 1 0]]]))
  (h13 : bsl Tryd.prog 66 3 [Ob.cells (sysC s), Ob.cells [AV.clo 33 [AV.ref 0 0, AV.ref 1 0]]] true ro [(0, lro n2 1 c2), (1, j), (2, AV.list LK.clip 1 1 [st w2])] = some (AV.list LK.clip 3 1 [lro n2 1 c2, j, h], [Ob.cells (sysC s), Ob.cells [AV.clo 33 [AV.ref 0 0, AV.ref 1 0]]]))
  (h14 : callv X call true 36 [AV.list LK.clip 3 1 [lro n2 1 c2, j, h]] [Ob.cells (sysC s), Ob.cells [AV.clo 33 [AV.ref 0 0, AV.ref 1 0]]] ro = some (lro n3 1 c3, [Ob.cells (sysC s), Ob.cells [AV.clo 33 [AV.ref 0 0, AV.ref 1 0]]]))
  (h15 : vend1 [Ob.cells (sysC s), Ob.cells [AV.clo 33 [AV.ref 0 0, AV.ref 1 0]]] ro [Ob.cells (sysC s), Ob.cells [AV.clo 33 [AV.ref 0 0, AV.ref 1 0]]] [lro n3 1 c3] = some (lro n3 1 c3, [Ob.cells (sysC s), Ob.cells [AV.clo 33 [AV.ref 0 0, AV.ref 1 0]]])) : vbody Tryd.prog X call lf noFg Tryd.f33 (codeOf Tryd.f33) [i6 n, AV.ref 0 0, AV.ref 1 0] [Ob.cells (sysC s), Ob.cells [AV.clo 33 [AV.ref 0 0, AV.ref 1 0]]] ro = some (lro n3 1 c3, [Ob.cells (sysC s), Ob.cells [AV.clo 33 [AV.ref 0 0, AV.ref 1 0]]]) :=
  along_sound (ans := [(6, Ans.b false), (11, Ans.v (AV.tup [i6 p, i6 (↑k : Int)])), (20, Ans.v (i6 q)), (23, Ans.v (i6 r)), (31, Ans.v (bo false)), (37, Ans.v (AV.eaddr rest2)), (38, Ans.v (st w2)), (43, Ans.b false), (48, Ans.b true), (55, Ans.b false), (60, Ans.b true), (66, Ans.v (lro n2 1 c2)), (68, Ans.v j), (70, Ans.v (AV.list LK.clip 3 1 [lro n2 1 c2, j, h])), (71, Ans.v (lro n3 1 c3)), (73, Ans.c (lro n3 1 c3) [Ob.cells (sysC s), Ob.cells [AV.clo 33 [AV.ref 0 0, AV.ref 1 0]]])]) (by kernel_rfl) (And.intro h0 (And.intro h1 (And.intro h2 (And.intro h3 (And.intro h4 (And.intro h5 (And.intro h6 (And.intro h7 (And.intro h8 (And.intro h9 (And.intro h10 (And.intro h11 (And.intro h12 (And.intro h13 (And.intro h14 (And.intro h15 trivial))))))))))))))))
theorem say_pffftff (s : NSys) (n : Int) (p : Int) (q : Int) (r : Int) (k : Nat) (rest2 : List AV) (c2 : List AV) (c3 : List AV) (n2 : Nat) (n3 : Nat) (w2 : ByteArray) (j : AV) (h : AV) (X : Ext) (call : Caller) (lf : Nat) (ro : Nat)
  (h0 : decide (n < NSys.base s) = false)
  (h1 : callv X call false 34 [AV.agg (sysC s), i6 n] [Ob.cells (sysC s), Ob.cells [AV.clo 33 [AV.ref 0 0, AV.ref 1 0]]] ro = some (AV.tup [i6 p, i6 (↑k : Int)], [Ob.cells (sysC s), Ob.cells [AV.clo 33 [AV.ref 0 0, AV.ref 1 0]]]))
  (h2 : keep [Ob.cells (sysC s), Ob.cells [AV.clo 33 [AV.ref 0 0, AV.ref 1 0]]] (binv Tryd.prog BinOp.quo 3 (i6 n) (i6 p)) = some (i6 q, [Ob.cells (sysC s), Ob.cells [AV.clo 33 [AV.ref 0 0, AV.ref 1 0]]]))
  (h3 : keep [Ob.cells (sysC s), Ob.cells [AV.clo 33 [AV.ref 0 0, AV.ref 1 0]]] (binv Tryd.prog BinOp.rem 3 (i6 n) (i6 p)) = some (i6 r, [Ob.cells (sysC s), Ob.cells [AV.clo 33 [AV.ref 0 0, AV.ref 1 0]]]))
  (h4 : callv X call false 35 [AV.agg (sysC s), i6 q, i6 p, i6 r] [Ob.cells (sysC s), Ob.cells [AV.clo 33 [AV.ref 0 0, AV.ref 1 0]]] ro = some (bo false, [Ob.cells (sysC s), Ob.cells [AV.clo 33 [AV.ref 0 0, AV.ref 1 0]]]))
  (h5 : keep [Ob.cells (sysC s), Ob.cells [AV.clo 33 [AV.ref 0 0, AV.ref 1 0]]] (indexAddrv Tryd.prog 22 [Ob.cells (sysC s), Ob.cells [AV.clo 33 [AV.ref 0 0, AV.ref 1 0]]] (lro (List.length (NSys.powers s)) 1 (List.map st (NSys.powers s))) (i6 (↑k : Int))) = some (AV.eaddr rest2, [Ob.cells (sysC s), Ob.cells [AV.clo 33 [AV.ref 0 0, AV.ref 1 0]]]))
  (h6 : keep [Ob.cells (sysC s), Ob.cells [AV.clo 33 [AV.ref 0 0, AV.ref 1 0]]] (loadv Tryd.prog 9 [Ob.cells (sysC s), Ob.cells [AV.clo 33 [AV.ref 0 0, AV.ref 1 0]]] (AV.eaddr rest2)) = some (st w2, [Ob.cells (sysC s), Ob.cells [AV.clo 33 [AV.ref 0 0, AV.ref 1 0]]]))
  (h7 : (q != 1) = false)
  (h8 : NSys.om s = true)
  (h9 : (r == 0) = false)
  (h10 : NSys.sf s = false)
  (h11 : callv X call true 37 [AV.agg (sysC s)] [Ob.cells (sysC s), Ob.cells [AV.clo 33 [AV.ref 0 0, AV.ref 1 0]]] ro = some (j, [Ob.cells (sysC s), Ob.cells [AV.clo 33 [AV.ref 0 0, AV.ref 1 0]]]))
  (h12 : callv X call true 33 [i6 r, AV.ref 0 0, AV.ref 1 0] [Ob.cells (sysC s), Ob.cells [AV.clo 33 [AV.ref 0 0, AV.ref 1 0]]] ro = some (lro n2 1 c2, [Ob.cells (sysC s), Ob.cells [AV.clo 33 [AV.ref 0 0, AV.ref 1 0]]]))
  (h13 : bsl Tryd.prog 66 3 [Ob.cells (sysC s), Ob.cells [AV.clo 33 [AV.ref 0 0, AV.ref 1 0]]] true ro [(0, AV.list LK.clip 1 1 [st w2]), (1, j), (2, lro n2 1 c2)] = some (AV.list LK.clip 3 1 [h, j, lro n2 1 c2], [Ob.cells (sysC s), Ob.cells [AV.clo 33 [AV.ref 0 0, AV.ref 1 0]]]))
  (h14 : callv X call true 36 [AV.list LK.clip 3 1 [h, j, lro n2 1 c2]] [Ob.cells (sysC s), Ob.cells [AV.clo 33 [AV.ref 0 0, AV.ref 1 0]]] ro = some (lro n3 1 c3, [Ob.cells (sysC s), Ob.cells [AV.clo 33 [AV.ref 0 0, AV.ref 1 0]]]))
  (h15 : vend1 [Ob.cells (sysC s), Ob.cells [AV.clo 33 [AV.ref 0 0, AV.ref 1 0]]] ro [Ob.cells (sysC s), Ob.cells [AV.clo 33 [AV.ref 0 0, AV.ref 1 0]]] [lro n3 1 c3] = some (lro n3 1 c3, [Ob.cells (sysC s), Ob.cells [AV.clo 33 [AV.ref 0 0, AV.ref 1 0]]])) : vbody Tryd.prog X call lf noFg Tryd.f33 (codeOf Tryd.f33) [i6 n, AV.ref 0 0, AV.ref 1 0] [Ob.cells (sysC s), Ob.cells [AV.clo 33 [AV.ref 0 0, AV.ref 1 0]]] ro = some (lro n3 1 c3, [Ob.cells (sysC s), Ob.cells [AV.clo 33 [AV.ref 0 0, AV.ref 1 0]]]) :=
  along_sound (ans := [(6, Ans.b false), (11, Ans.v (AV.tup [i6 p, i6 (↑k : Int)])), (20, Ans.v (i6 q)), (23, Ans.v (i6 r)), (31, Ans.v (bo false)), (37, Ans.v (AV.eaddr rest2)), (38, Ans.v (st w2)), (43, Ans.b false), (48, Ans.b true), (55, Ans.b false), (60, Ans.b false), (66, Ans.v j), (69, Ans.v (lro n2 1 c2)), (70, Ans.v (AV.list LK.clip 3 1 [h, j, lro n2 1 c2])), (71, Ans.v (lro n3 1 c3)), (73, Ans.c (lro n3 1 c3) [Ob.cells (sysC s), Ob.cells [AV.clo 33 [AV.ref 0 0, AV.ref 1 0]]])]) (by kernel_rfl) (And.intro h0 (And.intro h1 (And.intro h2 (And.intro h3 (And.intro h4 (And.intro h5 (And.intro h6 (And.intro h7 (And.intro h8 (And.intro h9 (And.intro h10 (And.intro h11 (And.intro h12 (And.intro h13 (And.intro h14 (And.intro h15 trivial))))))))))))))))
theorem say_pfffft (s : NSys) (n : Int) (p : Int) (q : Int) (r : Int) (k : Nat) (rest2 : List AV) (c1 : List AV) (c4 : List AV) (n1 : Nat) (n4 : Nat) (w2 : ByteArray) (X : Ext) (call : Caller) (lf : Nat) (ro : Nat)
  (h0 : decide (n < NSys.base s) = false)
  (h1 : callv X call false 34 [AV.agg (sysC s), i6 n] [Ob.cells (sysC s), Ob.cells [AV.clo 33 [AV.ref 0 0, AV.ref 1 0]]] ro = some (AV.tup [i6 p, i6 (↑k : Int)], [Ob.cells (sysC s), Ob.cells [AV.clo 33 [AV.ref 0 0, AV.ref 1 0]]]))
  (h2 : keep [Ob.cells (sysC s), Ob.cells [AV.clo 33 [AV.ref 0 0, AV.ref 1 0]]] (binv Tryd.prog BinOp.quo 3 (i6 n) (i6 p)) = some (i6 q, [Ob.cells (sysC s), Ob.cells [AV.clo 33 [AV.ref 0 0, AV.ref 1 0]]]))
  (h3 : keep [Ob.cells (sysC s), Ob.cells [AV.clo 33 [AV.ref 0 0, AV.ref 1 0]]] (binv Tryd.prog BinOp.rem 3 (i6 n) (i6 p)) = some (i6 r, [Ob.cells (sysC s), Ob.cells [AV.clo 33 [AV.ref 0 0, AV.ref 1 0]]]))
  (h4 : callv X call false 35 [AV.agg (sysC s), i6 q, i6 p, i6 r] [Ob.cells (sysC s), Ob.cells [AV.clo 33 [AV.ref 0 0, AV.ref 1 0]]] ro = some (bo false, [Ob.cells (sysC s), Ob.cells [AV.clo 33 [AV.ref 0 0, AV.ref 1 0]]]))
  (h5 : keep [Ob.cells (sysC s), Ob.cells [AV.clo 33 [AV.ref 0 0, AV.ref 1 0]]] (indexAddrv Tryd.prog 22 [Ob.cells (sysC s), Ob.cells [AV.clo 33 [AV.ref 0 0, AV.ref 1 0]]] (lro (List.length (NSys.powers s)) 1 (List.map st (NSys.powers s))) (i6 (↑k : Int))) = some (AV.eaddr rest2, [Ob.cells (sysC s), Ob.cells [AV.clo 33 [AV.ref 0 0, AV.ref 1 0]]]))
  (h6 : keep [Ob.cells (sysC s), Ob.cells [AV.clo 33 [AV.ref 0 0, AV.ref 1 0]]] (loadv Tryd.prog 9 [Ob.cells (sysC s), Ob.cells [AV.clo 33 [AV.ref 0 0, AV.ref 1 0]]] (AV.eaddr rest2)) = some (st w2, [Ob.cells (sysC s), Ob.cells [AV.clo 33 [AV.ref 0 0, AV.ref 1 0]]]))
  (h7 : (q != 1) = false)
  (h8 : NSys.om s = false)
  (h9 : callv X call false 33 [i6 q, AV.ref 0 0, AV.ref 1 0] [Ob.cells (sysC s), Ob.cells [AV.clo 33 [AV.ref 0 0, AV.ref 1 0]]] ro = some (lro n1 1 c1, [Ob.cells (sysC s), Ob.cells [AV.clo 33 [AV.ref 0 0, AV.ref 1 0]]]))
  (h10 : bsl Tryd.prog 66 2 [Ob.cells (sysC s), Ob.cells [AV.clo 33 [AV.ref 0 0, AV.ref 1 0]]] false ro [(0, lro n1 1 c1), (1, AV.list LK.clip 1 1 [st w2])] = some (AV.list LK.clip 2 1 [lro n1 1 c1, AV.list LK.clip 1 1 [st w2]], [Ob.cells (sysC s), Ob.cells [AV.clo 33 [AV.ref 0 0, AV.ref 1 0]]]))
  (h11 : callv X call false 36 [AV.list LK.clip 2 1 [lro n1 1 c1, AV.list LK.clip 1 1 [st w2]]] [Ob.cells (sysC s), Ob.cells [AV.clo 33 [AV.ref 0 0, AV.ref 1 0]]] ro = some (lro n4 1 c4, [Ob.cells (sysC s), Ob.cells [AV.clo 33 [AV.ref 0 0, AV.ref 1 0]]]))
  (h12 : (r == 0) = true)
  (h13 : vend1 [Ob.cells (sysC s), Ob.cells [AV.clo 33 [AV.ref 0 0, AV.ref 1 0]]] ro [Ob.cells (sysC s), Ob.cells [AV.clo 33 [AV.ref 0 0, AV.ref 1 0]]] [lro n4 1 c4] = some (lro n4 1 c4, [Ob.cells (sysC s), Ob.cells [AV.clo 33 [AV.ref 0 0, AV.ref 1 0]]])) : vbody Tryd.prog X call lf noFg Tryd.f33 (codeOf Tryd.f33) [i6 n, AV.ref 0 0, AV.ref 1 0] [Ob.cells (sysC s), Ob.cells [AV.clo 33 [AV.ref 0 0, AV.ref 1 0]]] ro = some (lro n4 1 c4, [Ob.cells (sysC s), Ob.cells [AV.clo 33 [AV.ref 0 0, AV.ref 1 0]]]) :=
  along_sound (ans := [(6, Ans.b false), (11, Ans.v (AV.tup [i6 p, i6 (↑k : Int)])), (20, Ans.v (i6 q)), (23, Ans.v (i6 r)), (31, Ans.v (bo false)), (37, Ans.v (AV.eaddr rest2)), (38, Ans.v (st w2)), (43, Ans.b false), (48, Ans.b false), (56, Ans.v (lro n1 1 c1)), (58, Ans.v (AV.list LK.clip 2 1 [lro n1 1 c1, AV.list LK.clip 1 1 [st w2]])), (59, Ans.v (lro n4 1 c4)), (63, Ans.b true), (69, Ans.c (lro n4 1 c4) [Ob.cells (sysC s), Ob.cells [AV.clo 33 [AV.ref 0 0, AV.ref 1 0]]])]) (by kernel_rfl) (And.intro h0 (And.intro h1 (And.intro h2 (And.intro h3 (And.intro h4 (And.intro h5 (And.intro h6 (And.intro h7 (And.intro h8 (And.intro h9 (And.intro h10 (And.intro h11 (And.intro h12 (And.intro h13 trivial))))))))))))))
theorem say_pffffft (s : NSys) (n : Int) (p : Int) (q : Int) (r : Int) (k : Nat) (rest2 : List AV) (c1 : List AV) (c2 : List AV) (c3 : List AV) (c4 : List AV) (n1 : Nat) (n2 : Nat) (n3 : Nat) (n4 : Nat) (w2 : ByteArray) (j : AV) (h : AV) (X : Ext) (call : Caller) (lf : Nat) (ro : Nat)
  (h0 : decide (n < NSys.base s) = false)
  (h1 : callv X call false 34 [AV.agg (sysC s), i6 n] [Ob.cells (sysC s), Ob.cells [AV.clo 33 [AV.ref 0 0, AV.ref 1 0]]] ro = some (AV.tup [i6 p, i6 (↑k : Int)], [Ob.cells (sysC s), Ob.cells [AV.clo 33 [AV.ref 0 0, AV.ref 1 0]]]))
  (h2 : keep [Ob.cells (sysC s), Ob.cells [AV.clo 33 [AV.ref 0 0, AV.ref 1 0]]] (binv Tryd.prog BinOp.quo 3 (i6 n) (i6 p)) = some (i6 q, [Ob.cells (sysC s), Ob.cells [AV.clo 33 [AV.ref 0 0, AV.ref 1 0]]]))
  (h3 : keep [Ob.cells (sysC s), Ob.cells [AV.clo 33 [AV.ref 0 0, AV.ref 1 0]]] (binv Tryd.prog BinOp.rem 3 (i6 n) (i6 p)) = some (i6 r, [Ob.cells (sysC s), Ob.cells [AV.clo 33 [AV.ref 0 0, AV.ref 1 0]]]))
  (h4 : callv X call false 35 [AV.agg (sysC s), i6 q, i6 p, i6 r] [Ob.cells (sysC s), Ob.cells [AV.clo 33 [AV.ref 0 0, AV.ref 1 0]]] ro = some (bo false, [Ob.cells (sysC s), Ob.cells [AV.clo 33 [AV.ref 0 0, AV.ref 1 0]]]))
  (h5 : keep [Ob.cells (sysC s), Ob.cells [AV.clo 33 [AV.ref 0 0, AV.ref 1 0]]] (indexAddrv Tryd.prog 22 [Ob.cells (sysC s), Ob.cells [AV.clo 33 [AV.ref 0 0, AV.ref 1 0]]] (lro (List.length (NSys.powers s)) 1 (List.map st (NSys.powers s))) (i6 (↑k : Int))) = some (AV.eaddr rest2, [Ob.cells (sysC s), Ob.cells [AV.clo 33 [AV.ref 0 0, AV.ref 1 0]]]))
  (h6 : keep [Ob.cells (sysC s), Ob.cells [AV.clo 33 [AV.ref 0 0, AV.ref 1 0]]] (loadv Tryd.prog 9 [Ob.cells (sysC s), Ob.cells [AV.clo 33 [AV.ref 0 0, AV.ref 1 0]]] (AV.eaddr rest2)) = some (st w2, [Ob.cells (sysC s), Ob.cells [AV.clo 33 [AV.ref 0 0, AV.ref 1 0]]]))
  (h7 : (q != 1) = false)
  (h8 : NSys.om s = false)
  (h9 : callv X call false 33 [i6 q, AV.ref 0 0, AV.ref 1 0] [Ob.cells (sysC s), Ob.cells [AV.clo 33 [AV.ref 0 0, AV.ref 1 0]]] ro = some (lro n1 1 c1, [Ob.cells (sysC s), Ob.cells [AV.clo 33 [AV.ref 0 0, AV.ref 1 0]]]))
  (h10 : bsl Tryd.prog 66 2 [Ob.cells (sysC s), Ob.cells [AV.clo 33 [AV.ref 0 0, AV.ref 1 0]]] false ro [(0, lro n1 1 c1), (1, AV.list LK.clip 1 1 [st w2])] = some (AV.list LK.clip 2 1 [lro n1 1 c1, AV.list LK.clip 1 1 [st w2]], [Ob.cells (sysC s), Ob.cells [AV.clo 33 [AV.ref 0 0, AV.ref 1 0]]]))
  (h11 : callv X call false 36 [AV.list LK.clip 2 1 [lro n1 1 c1, AV.list LK.clip 1 1 [st w2]]] [Ob.cells (sysC s), Ob.cells [AV.clo 33 [AV.ref 0 0, AV.ref 1 0]]] ro = some (lro n4 1 c4, [Ob.cells (sysC s), Ob.cells [AV.clo 33 [AV.ref 0 0, AV.ref 1 0]]]))
  (h12 : (r == 0) = false)
  (h13 : NSys.sf s = true)
  (h14 : callv X call true 33 [i6 r, AV.ref 0 0, AV.ref 1 0] [Ob.cells (sysC s), Ob.cells [AV.clo 33 [AV.ref 0 0, AV.ref 1 0]]] ro = some (lro n2 1 c2, [Ob.cells (sysC s), Ob.cells [AV.clo 33 [AV.ref 0 0, AV.ref 1 0]]]))
  (h15 : callv X call true 37 [AV.agg (sysC s)] [Ob.cells (sysC s), Ob.cells [AV.clo 33 [AV.ref 0 0, AV.ref 1 0]]] ro = some (j, [Ob.cells (sysC s), Ob.cells [AV.clo 33 [AV.ref 0 0, AV.ref 1 0]]]))
  (h16 : bsl Tryd.prog 66 3 [Ob.cells (sysC s), Ob.cells [AV.clo 33 [AV.ref 0 0, AV.ref 1 0]]] true ro [(0, lro n2 1 c2), (1, j), (2, lro n4 1 c4)] = some (AV.list LK.clip 3 1 [lro n2 1 c2, j, h], [Ob.cells (sysC s), Ob.cells [AV.clo 33 [AV.ref 0 0, AV.ref 1 0]]]))
  (h17 : callv X call true 36 [AV.list LK.clip 3 1 [lro n2 1 c2, j, h]] [Ob.cells (sysC s), Ob.cells [AV.clo 33 [AV.ref 0 0, AV.ref 1 0]]] ro = some (lro n3 1 c3, [Ob.cells (sysC s), Ob.cells [AV.clo 33 [AV.ref 0 0, AV.ref 1 0]]]))
  (h18 : vend1 [Ob.cells (sysC s), Ob.cells [AV.clo 33 [AV.ref 0 0, AV.ref 1 0]]] ro [Ob.cells (sysC s), Ob.cells [AV.clo 33 [AV.ref 0 0, AV.ref 1 0]]] [lro n3 1 c3] = some (lro n3 1 c3, [Ob.cells (sysC s), Ob.cells [AV.clo 33 [AV.ref 0 0, AV.ref 1 0]]])) : vbody Tryd.prog X call lf noFg Tryd.f33 (codeOf Tryd.f33) [i6 n, AV.ref 0 0, AV.ref 1 0] [Ob.cells (sysC s), Ob.cells [AV.clo 33 [AV.ref 0 0, AV.ref 1 0]]] ro = some (lro n3 1 c3, [Ob.cells (sysC s), Ob.cells [AV.clo 33 [AV.ref 0 0, AV.ref 1 0]]]) :=
  along_sound (ans := [(6, Ans.b false), (11, Ans.v (AV.tup [i6 p, i6 (↑k : Int)])), (20, Ans.v (i6 q)), (23, Ans.v (i6 r)), (31, Ans.v (bo false)), (37, Ans.v (AV.eaddr rest2)), (38, Ans.v (st w2)), (43, Ans.b false), (48, Ans.b false), (56, Ans.v (lro n1 1 c1)), (58, Ans.v (AV.list LK.clip 2 1 [lro n1 1 c1, AV.list LK.clip 1 1 [st w2]])), (59, Ans.v (lro n4 1 c4)), (63, Ans.b false), (68, Ans.b true), (74, Ans.v (lro n2 1 c2)), (76, Ans.v j), (78, Ans.v (AV.list LK.clip 3 1 [lro n2 1 c2, j, h])), (79, Ans.v (lro n3 1 c3)), (81, Ans.c (lro n3 1 c3) [Ob.cells (sysC s), Ob.cells [AV.clo 33 [AV.ref 0 0, AV.ref 1 0]]])]) (by kernel_rfl) (And.intro h0 (And.intro h1 (And.intro h2 (And.intro h3 (And.intro h4 (And.intro h5 (And.intro h6 (And.intro h7 (And.intro h8 (And.intro h9 (And.intro h10 (And.intro h11 (And.intro h12 (And.intro h13 (And.intro h14 (And.intro h15 (And.intro h16 (And.intro h17 (And.intro h18 trivial)))))))))))))))))))
theorem say_pffffff (s : NSys) (n : Int) (p : Int) (q : Int) (r : Int) (k : Nat) (rest2 : List AV) (c1 : List AV) (c2 : List AV) (c3 : List AV) (c4 : List AV) (n1 : Nat) (n2 : Nat) (n3 : Nat) (n4 : Nat) (w2 : ByteArray) (j : AV) (h : AV) (X : Ext) (call : Caller) (lf : Nat) (ro : Nat)
  (h0 : decide (n < NSys.base s) = false)
  (h1 : callv X call false 34 [AV.agg (sysC s), i6 n] [Ob.cells (sysC s), Ob.cells [AV.clo 33 [AV.ref 0 0, AV.ref 1 0]]] ro = some (AV.tup [i6 p, i6 (↑k : Int)], [Ob.cells (sysC s), Ob.cells [AV.clo 33 [AV.ref 0 0, AV.ref 1 0]]]))
  (h2 : keep [Ob.cells (sysC s), Ob.cells [AV.clo 33 [AV.ref 0 0, AV.ref 1 0]]] (binv Tryd.prog BinOp.quo 3 (i6 n) (i6 p)) = some (i6 q, [Ob.cells (sysC s), Ob.cells [AV.clo 33 [AV.ref 0 0, AV.ref 1 0]]]))
  (h3 : keep [Ob.cells (sysC s), Ob.cells [AV.clo 33 [AV.ref 0 0, AV.ref 1 0]]] (binv Tryd.prog BinOp.rem 3 (i6 n) (i6 p)) = some (i6 r, [Ob.cells (sysC s), Ob.cells [AV.clo 33 [AV.ref 0 0, AV.ref 1 0]]]))
  (h4 : callv X call false 35 [AV.agg (sysC s), i6 q, i6 p, i6 r] [Ob.cells (sysC s), Ob.cells [AV.clo 33 [AV.ref 0 0, AV.ref 1 0]]] ro = some (bo false, [Ob.cells (sysC s), Ob.cells [AV.clo 33 [AV.ref 0 0, AV.ref 1 0]]]))
  (h5 : keep [Ob.cells (sysC s), Ob.cells [AV.clo 33 [AV.ref 0 0, AV.ref 1 0]]] (indexAddrv Tryd.prog 22 [Ob.cells (sysC s), Ob.cells [AV.clo 33 [AV.ref 0 0, AV.ref 1 0]]] (lro (List.length (NSys.powers s)) 1 (List.map st (NSys.powers s))) (i6 (↑k : Int))) = some (AV.eaddr rest2, [Ob.cells (sysC s), Ob.cells [AV.clo 33 [AV.ref 0 0, AV.ref 1 0]]]))
  (h6 : keep [Ob.cells (sysC s), Ob.cells [AV.clo 33 [AV.ref 0 0, AV.ref 1 0]]] (loadv Tryd.prog 9 [Ob.cells (sysC s), Ob.cells [AV.clo 33 [AV.ref 0 0, AV.ref 1 0]]] (AV.eaddr rest2)) = some (st w2, [Ob.cells (sysC s), Ob.cells [AV.clo 33 [AV.ref 0 0, AV.ref 1 0]]]))
  (h7 : (q != 1) = false)
  (h8 : NSys.om s = false)
  (h9 : callv X call false 33 [i6 q, AV.ref 0 0, AV.ref 1 0] [Ob.cells (sysC s), Ob.cells [AV.clo 33 [AV.ref 0 0, AV.ref 1 0]]] ro = some (lro n1 1 c1, [Ob.cells (sysC s), Ob.cells [AV.clo 33 [AV.ref 0 0, AV.ref 1 0]]]))
  (h10 : bsl Tryd.prog 66 2 [Ob.cells (sysC s), Ob.cells [AV.clo 33 [AV.ref 0 0, AV.ref 1 0]]] false ro [(0, lro n1 1 c1), (1, AV.list LK.clip 1 1 [st w2])] = some (AV.list LK.clip 2 1 [lro n1 1 c1, AV.list LK.clip 1 1 [st w2]], [Ob.cells (sysC s), Ob.cells [AV.clo 33 [AV.ref 0 0, AV.ref 1 0]]]))
  (h11 : callv X call false 36 [AV.list LK.clip 2 1 [lro n1 1 c1, AV.list LK.clip 1 1 [st w2]]] [Ob.cells (sysC s), Ob.cells [AV.clo 33 [AV.ref 0 0, AV.ref 1 0]]] ro = some (lro n4 1 c4, [Ob.cells (sysC s), Ob.cells [AV.clo 33 [AV.ref 0 0, AV.ref 1 0]]]))
  (h12 : (r == 0) = false)
  (h13 : NSys.sf s = false)
  (h14 : callv X call true 37 [AV.agg (sysC s)] [Ob.cells (sysC s), Ob.cells [AV.clo 33 [AV.ref 0 0, AV.ref 1 0]]] ro = some (j, [Ob.cells (sysC s), Ob.cells [AV.clo 33 [AV.ref 0 0, AV.ref 1 0]]]))
  (h15 : callv X call true 33 [i6 r, AV.ref 0 0, AV.ref 1 0] [Ob.cells (sysC s), Ob.cells [AV.clo 33 [AV.ref 0 0, AV.ref 1 0]]] ro = some (lro n2 1 c2, [Ob.cells (sysC s), Ob.cells [AV.clo 33 [AV.ref 0 0, AV.ref 1 0]]]))
  (h16 : bsl Tryd.prog 66 3 [Ob.cells (sysC s), Ob.cells [AV.clo 33 [AV.ref 0 0, AV.ref 1 0]]] true ro [(0, lro n4 1 c4), (1, j), (2, lro n2 1 c2)] = some (AV.list LK.clip 3 1 [h, j, lro n2 1 c2], [Ob.cells (sysC s), Ob.cells [AV.clo 33 [AV.ref 0 0, AV.ref 1 0]]]))
  (h17 : callv X call true 36 [AV.list LK.clip 3 1 [h, j, lro n2 1 c2]] [Ob.cells (sysC s), Ob.cells [AV.clo 33 [AV.ref 0 0, AV.ref 1 0]]] ro = some (lro n3 1 c3, [Ob.cells (sysC s), Ob.cells [AV.clo 33 [AV.ref 0 0, AV.ref 1 0]]]))
  (h18 : vend1 [Ob.cells (sysC s), Ob.cells [AV.clo 33 [AV.ref 0 0, AV.ref 1 0]]] ro [Ob.cells (sysC s), Ob.cells [AV.clo 33 [AV.ref 0 0, AV.ref 1 0]]] [lro n3 1 c3] = some (lro n3 1 c3, [Ob.cells (sysC s), Ob.cells [AV.clo 33 [AV.ref 0 0, AV.ref 1 0]]])) : vbody Tryd.prog X call lf noFg Tryd.f33 (codeOf Tryd.f33) [i6 n, AV.ref 0 0, AV.ref 1 0] [Ob.cells (sysC s), Ob.cells [AV.clo 33 [AV.ref 0 0, AV.ref 1 0]]] ro = some (lro n3 1 c3, [Ob.cells (sysC s), Ob.cells [AV.clo 33 [AV.ref 0 0, AV.ref 1 0]]]) :=
  along_sound (ans := [(6, Ans.b false), (11, Ans.v (AV.tup [i6 p, i6 (↑k : Int)])), (20, Ans.v (i6 q)), (23, Ans.v (i6 r)), (31, Ans.v (bo false)), (37, Ans.v (AV.eaddr rest2)), (38, Ans.v (st w2)), (43, Ans.b false), (48, Ans.b false), (56, Ans.v (lro n1 1 c1)), (58, Ans.v (AV.list LK.clip 2 1 [lro n1 1 c1, AV.list LK.clip 1 1 [st w2]])), (59, Ans.v (lro n4 1 c4)), (63, Ans.b false), (68, Ans.b false), (74, Ans.v j), (77, Ans.v (lro n2 1 c2)), (78, Ans.v (AV.list LK.clip 3 1 [h, j, lro n2 1 c2])), (79, Ans.v (lro n3 1 c3)), (81, Ans.c (lro n3 1 c3) [Ob.cells (sysC s), Ob.cells [AV.clo 33 [AV.ref 0 0, AV.ref 1 0]]])]) (by kernel_rfl) (And.intro h0 (And.intro h1 (And.intro h2 (And.intro h3 (And.intro h4 (And.intro h5 (And.intro h6 (And.intro h7 (And.intro h8 (And.intro h9 (And.intro h10 (And.intro h11 (And.intro h12 (And.intro h13 (And.intro h14 (And.intro h15 (And.intro h16 (And.intro h17 (And.intro h18 trivial)))))))))))))))))))


end Go.Proofs.Num
end
/- Numeral: the reference's join. -/
section
open Go Go.Vm Go.Proofs
namespace Go.Proofs.Num
theorem rjoin_p (a : AV) (b : AV) (o1 : AV) (o2 : AV) (σ1 : List Ob) (σ2 : List Ob) (r : AV) (σr : List Ob) (X : Ext) (call : Caller) (lf : Nat)
  (h0 : appendv Tryd.prog 22 [] 0 (AV.list LK.clip 0 1 []) a = some (o1, σ1))
  (h1 : appendv Tryd.prog 22 σ1 0 o1 b = some (o2, σ2))
  (h2 : vend1 [] 0 σ2 [o2] = some (r, σr)) : vbody Tryd.prog X call lf noFg Tryd.f38 (codeOf Tryd.f38) [a, b] [] 0 = some (r, σr) :=
  along_sound (ans := [(5, Ans.c o1 σ1), (7, Ans.c o2 σ2), (9, Ans.c r σr)]) (by kernel_rfl) (And.intro h0 (And.intro h1 (And.intro h2 trivial)))


/-- append to an empty literal. -/
theorem grow_clip {σ : List Ob} {p : AV} {l : List ByteArray} (h : IsS p l) (hb : l.length * 17 ≤ 140737488355328) :
    appendv Tryd.prog 22 σ 0 (.list .clip 0 1 []) p = some (if l.length = 0 then (.list .clip 0 1 [], σ) else (.own σ.length l.length, σ ++ [.arr l.length 1 (l.map .str)])) := by
  unfold appendv
  rw [Tryd.underlying22]
  simp only [cells9, appended_isS h, zero9, bytes9]
  rw [if_pos ⟨owns_strs l, rfl⟩]
  simp only [Nat.zero_add, List.nil_append]
  rw [if_pos ⟨.inr trivial, .inl trivial, rfl, hb⟩]
  split <;> rfl
theorem grow_row {l : List ByteArray} {p : AV} {m : List ByteArray} (h : IsS p m) (hb : (l.length + m.length) * 17 ≤ 140737488355328) :
    appendv Tryd.prog 22 [.arr l.length 1 (l.map .str)] 0 (.own 0 l.length) p = some (.own 0 (l ++ m).length, [.arr (l ++ m).length 1 ((l ++ m).map .str)]) := by
  by_cases hz : m.length = 0
  · have he : m = [] := List.eq_nil_of_length_eq_zero hz
    have := grow_none (P := Tryd.prog) (ro := 0) (id := 0) (n := l.length) (σ := [Ob.arr l.length 1 (l.map .str)]) (cs := l.map .str) (ys := m.map .str) (x := p) Tryd.underlying22 zero9 (by rw [cells9]; rfl) (by rw [cells9]; rfl) (Nat.le_refl _)
      (by rw [cells9, appended_isS h, hz]) (owns_strs m) (by rw [bytes9]; omega)
    rw [this, he]
    simp
  · have := grow_own (P := Tryd.prog) (ro := 0) (id := 0) (n := l.length) (σ := [Ob.arr l.length 1 (l.map .str)]) (cs := l.map .str) (ys := m.map .str) (m := m.length) (x := p) Tryd.underlying22 zero9 (by rw [cells9]; rfl) (by rw [cells9]; rfl) (Nat.le_refl _)
      (by rw [cells9, appended_isS h]) (owns_strs _) hz (by rw [bytes9]; omega)
    rw [this, cells9]
    simp [setOb]
theorem end_clip : vend1 [] 0 [] [AV.list LK.clip 0 1 []] = some (.list .clip 0 1 [], []) := by
  simp [vend1, AV.thawAll, AV.thaw, AV.ownsAll, AV.owns, freezeIds, resOf, oneOf, unfr, unfr1]
/-- join of the reference: both lists' tokens. -/
theorem rjoin_spec (X : Ext) (call : Caller) (lf : Nat) {a b : AV} {l m : List ByteArray} (ha : IsS a l) (hb : IsS b m) (hn : (l.length + m.length) * 17 ≤ 140737488355328) :
    ∃ r σ', vbody Tryd.prog X call lf noFg Tryd.f38 (codeOf Tryd.f38) [a, b] [] 0 = some (r, σ') ∧ IsS r (l ++ m) ∧ r.pure = true := by
  have h1 := grow_clip (σ := []) ha (by omega)
  by_cases hl : l.length = 0
  · have hl' : l = [] := List.eq_nil_of_length_eq_zero hl
    subst hl'
    rw [if_pos (show ([] : List ByteArray).length = 0 from rfl)] at h1
    have h2 := grow_clip (σ := []) hb (by omega)
    by_cases hm : m.length = 0
    · have hm' : m = [] := List.eq_nil_of_length_eq_zero hm
      subst hm'
      rw [if_pos (show ([] : List ByteArray).length = 0 from rfl)] at h2
      exact ⟨_, _, rjoin_p a b _ _ _ _ _ _ X call lf h1 h2 end_clip, .inr ⟨rfl, _, _, _, rfl⟩, rfl⟩
    · rw [if_neg hm] at h2
      refine ⟨_, _, rjoin_p a b _ _ _ _ _ _ X call lf h1 h2 end_row, .inl ⟨_, rfl⟩, ?_⟩
      simp [AV.pure, AV.lt, lt_strs]
  · rw [if_neg hl] at h1
    refine ⟨_, _, rjoin_p a b _ _ _ _ _ _ X call lf h1 (grow_row hb hn) end_row, .inl ⟨_, rfl⟩, ?_⟩
    simp only [AV.pure, AV.lt]
    exact lt_strs 0 (l ++ m)
end Go.Proofs.Num
end
/- Numeral: the early ways out where a system is not valid. -/
section
open Go Go.Vm Go.Proofs
namespace Go.Proofs.Num
theorem noparse_p (s : NSys) (n : Nat) (cs : List AV) (X : Ext) (call : Caller) (lf : Nat)
  (h0 : callv X call false 22 [AV.agg (sysC s)] [Ob.cells (sysC s)] 0 = some (bo false, [Ob.cells (sysC s)])) : vbody Tryd.prog X call lf noFg Tryd.f20 (codeOf Tryd.f20) [AV.agg (sysC s), AV.list LK.clip n 1 cs] [] 0 = some (AV.list LK.nil 0 0 [], [Ob.cells (sysC s)]) :=
  along_sound (ans := [(5, Ans.v (bo false))]) (by kernel_rfl) (And.intro h0 trivial)
theorem nolongest_p (s : NSys) (n : Int) (X : Ext) (call : Caller) (lf : Nat)
  (h0 : callv X call false 22 [AV.agg (sysC s)] [Ob.cells (sysC s)] 0 = some (bo false, [Ob.cells (sysC s)])) : vbody Tryd.prog X call lf noFg Tryd.f24 (codeOf Tryd.f24) [AV.agg (sysC s), i6 n] [] 0 = some (AV.tup [i6 0, i6 0], [Ob.cells (sysC s)]) :=
  along_sound (ans := [(9, Ans.v (bo false))]) (by kernel_rfl) (And.intro h0 trivial)
theorem novoc_p (s : NSys) (X : Ext) (call : Caller) (lf : Nat)
  (h0 : callv X call false 22 [AV.agg (sysC s)] [Ob.cells (sysC s)] 0 = some (bo false, [Ob.cells (sysC s)])) : vbody Tryd.prog X call lf noFg Tryd.f26 (codeOf Tryd.f26) [AV.agg (sysC s)] [] 0 = some (AV.list LK.nil 0 0 [], [Ob.cells (sysC s)]) :=
  along_sound (ans := [(5, Ans.v (bo false))]) (by kernel_rfl) (And.intro h0 trivial)
theorem noclash_p (s : NSys) (n : Int) (X : Ext) (call : Caller) (lf : Nat)
  (h0 : callv X call false 22 [AV.agg (sysC s)] [Ob.cells (sysC s)] 0 = some (bo false, [Ob.cells (sysC s)])) : vbody Tryd.prog X call lf noFg Tryd.f28 (codeOf Tryd.f28) [AV.agg (sysC s), i6 n] [] 0 = some (AV.tup [i6 0, i6 0, bo false], [Ob.cells (sysC s)]) :=
  along_sound (ans := [(7, Ans.v (bo false))]) (by kernel_rfl) (And.intro h0 trivial)


end Go.Proofs.Num
end
/- Numeral: NumeralValid, its paths. -/
section
open Go Go.Vm Go.Proofs
namespace Go.Proofs.Num
theorem nvala_p (s : NSys) (n : Int) (X : Ext) (call : Caller) (lf : Nat)
  (h0 : callv X call false 13 [AV.agg (sysC s)] [Ob.cells (sysC s)] 0 = some (bo false, [Ob.cells (sysC s)]))
  (h1 : callv X call false 15 [] [Ob.cells (sysC s)] 0 = some (bo true, [Ob.cells (sysC s)])) : vbody Tryd.prog X call lf noFg Tryd.f12 (codeOf Tryd.f12) [AV.agg (sysC s), i6 n] [] 0 = some (bo true, [Ob.cells (sysC s)]) :=
  along_sound (ans := [(5, Ans.v (bo false)), (9, Ans.v (bo true))]) (by kernel_rfl) (And.intro h0 (And.intro h1 trivial))
theorem nvalb_p (s : NSys) (n : Int) (X : Ext) (call : Caller) (lf : Nat)
  (h0 : callv X call false 13 [AV.agg (sysC s)] [Ob.cells (sysC s)] 0 = some (bo true, [Ob.cells (sysC s)]))
  (h1 : callv X call false 14 [AV.agg (sysC s)] [Ob.cells (sysC s)] 0 = some (bo true, [Ob.cells (sysC s)]))
  (h2 : callv X call false 22 [AV.agg (sysC s)] [Ob.cells (sysC s)] 0 = some (bo true, [Ob.cells (sysC s)]))
  (h3 : callv X call false 15 [] [Ob.cells (sysC s)] 0 = some (bo true, [Ob.cells (sysC s)]))
  (h4 : callv X call false 30 [AV.agg (sysC s)] [Ob.cells (sysC s)] 0 = some (i6 9999, [Ob.cells (sysC s)])) : vbody Tryd.prog X call lf noFg Tryd.f12 (codeOf Tryd.f12) [AV.agg (sysC s), i6 n] [] 0 = some (bo true, [Ob.cells (sysC s)]) :=
  along_sound (ans := [(5, Ans.v (bo true)), (10, Ans.v (bo true)), (14, Ans.v (bo true)), (22, Ans.v (bo true)), (27, Ans.v (i6 9999))]) (by kernel_rfl) (And.intro h0 (And.intro h1 (And.intro h2 (And.intro h3 (And.intro h4 trivial)))))
theorem nvalc_p (s : NSys) (n : Int) (X : Ext) (call : Caller) (lf : Nat)
  (h0 : callv X call false 13 [AV.agg (sysC s)] [Ob.cells (sysC s)] 0 = some (bo true, [Ob.cells (sysC s)]))
  (h1 : callv X call false 14 [AV.agg (sysC s)] [Ob.cells (sysC s)] 0 = some (bo false, [Ob.cells (sysC s)]))
  (h2 : callv X call false 22 [AV.agg (sysC s)] [Ob.cells (sysC s)] 0 = some (bo false, [Ob.cells (sysC s)]))
  (h3 : callv X call false 16 [AV.agg (sysC s), i6 n] [Ob.cells (sysC s)] 0 = some (AV.tup [AV.list LK.nil 0 0 [], i6 1], [Ob.cells (sysC s)]))
  (h4 : callv X call false 28 [AV.agg (sysC s), i6 n] [Ob.cells (sysC s)] 0 = some (AV.tup [i6 0, i6 0, bo false], [Ob.cells (sysC s)]))
  (h5 : callv X call false 24 [AV.agg (sysC s), i6 n] [Ob.cells (sysC s)] 0 = some (AV.tup [i6 0, i6 0], [Ob.cells (sysC s)]))
  (h6 : callv X call true 15 [] [Ob.cells (sysC s)] 0 = some (bo true, [Ob.cells (sysC s)]))
  (h7 : callv X call true 30 [AV.agg (sysC s)] [Ob.cells (sysC s)] 0 = some (i6 (-1), [Ob.cells (sysC s)]))
  (h8 : callv X call true 20 [AV.agg (sysC s), AV.list LK.clip 1 1 [st (NSys.jo s)]] [Ob.cells (sysC s)] 0 = some (AV.list LK.nil 0 0 [], [Ob.cells (sysC s)]))
  (h9 : callv X call true 26 [AV.agg (sysC s)] [Ob.cells (sysC s)] 0 = some (AV.list LK.nil 0 0 [], [Ob.cells (sysC s)])) : vbody Tryd.prog X call lf noFg Tryd.f12 (codeOf Tryd.f12) [AV.agg (sysC s), i6 n] [] 0 = some (bo true, [Ob.cells (sysC s)]) :=
  along_sound (ans := [(5, Ans.v (bo true)), (10, Ans.v (bo false)), (14, Ans.v (bo false)), (24, Ans.v (AV.tup [AV.list LK.nil 0 0 [], i6 1])), (33, Ans.v (AV.tup [i6 0, i6 0, bo false])), (44, Ans.v (AV.tup [i6 0, i6 0])), (51, Ans.v (bo true)), (56, Ans.v (i6 (-1))), (80, Ans.v (AV.list LK.nil 0 0 [])), (88, Ans.v (AV.list LK.nil 0 0 []))]) (by kernel_rfl) (And.intro h0 (And.intro h1 (And.intro h2 (And.intro h3 (And.intro h4 (And.intro h5 (And.intro h6 (And.intro h7 (And.intro h8 (And.intro h9 trivial))))))))))
end Go.Proofs.Num
end
/- Numeral: say, by induction over the depth. -/
section
open Go Go.Vm Go.Proofs
namespace Go.Proofs.Num
abbrev sayS (s : NSys) : List Ob := [Ob.cells (sysC s), Ob.cells [AV.clo 33 [AV.ref 0 0, AV.ref 1 0]]]
abbrev sayA (n : Int) : List AV := [i6 n, AV.ref 0 0, AV.ref 1 0]
abbrev lst (l : List ByteArray) : AV := lro l.length 1 (l.map .str)
def sayO (s : NSys) : Nat → Int → Option (List ByteArray)
  | 0, _ => none
  | k + 1, n =>
    if n < s.base then (if 0 ≤ n then (match s.digits[n.toNat]? with | some w => some [w] | none => none) else none)
    else
      let i := powK s n
      let p := s.base ^ (i + 1)
      let q := w6 (n.tdiv p)
      let r := n.tmod p
      if lessL s q p r then
        match sayO s k (w6 (p - r)), sayO s k (w6 (w6 (q + 1) * p)) with
        | some a, some b => some (a ++ s.le :: b)
        | _, _ => none
      else match s.powers[i]? with
        | none => none
        | some w =>
          match (if q != 1 || !s.om then (match sayO s k q with | some a => some (a ++ [w]) | none => none) else some [w]) with
          | none => none
          | some head =>
            if r == 0 then some head
            else match sayO s k r with
              | none => none
              | some a => some (if s.sf then a ++ (joinWords s ++ head) else head ++ (joinWords s ++ a))
/-- A caller that knows more, over one store. -/
theorem caller_more [Fixed] {P : Program} {call : Caller} (h : CallOk P call) {S : List Ob} (hS : ∀ f vs ro, call f vs S ro = none) (F : FuncId → List AV → Option AV)
    (hF : ∀ f vs r ro, F f vs = some r → CallAt P f vs S ro r S) :
    ∃ call', CallOk P call' ∧ (∀ f vs σ ro r, call f vs σ ro = some r → call' f vs σ ro = some r) ∧ (∀ f vs ro r, F f vs = some r → call' f vs S ro = some (r, S)) := by
  classical
  refine ⟨fun f vs σ ro => if σ = S then (match F f vs with | some r => some (r, S) | none => none) else call f vs σ ro, ?_, ?_, ?_⟩
  · intro f vs σ ro r σ' hc
    simp only at hc
    split at hc
    · rename_i e
      subst e
      split at hc
      · rename_i x hx
        simp only [Option.some.injEq, Prod.mk.injEq] at hc
        obtain ⟨rfl, rfl⟩ := hc
        exact hF f vs x ro hx
      · cases hc
    · exact h f vs σ ro r σ' hc
  · intro f vs σ ro r hc
    simp only
    split
    · rename_i e
      subst e
      rw [hS] at hc
      cases hc
    · exact hc
  · intro f vs ro r hr
    simp only [if_pos, hr]
theorem bsl3 {σ : List Ob} {dr : Bool} {ro : Nat} {k1 k2 k3 : LK} {n1 n2 n3 z1 z2 z3 : Nat} {c1 c2 c3 : List AV} (h : AV.ownsAll [AV.list k1 n1 z1 c1, AV.list k2 n2 z2 c2, AV.list k3 n3 z3 c3] = []) :
    bsl Tryd.prog 66 3 σ dr ro [(0, .list k1 n1 z1 c1), (1, .list k2 n2 z2 c2), (2, .list k3 n3 z3 c3)] = some (.list .clip 3 1 [.list k1 n1 z1 c1, .list k2 n2 z2 c2, .list k3 n3 z3 c3], σ) := by
  unfold bsl byValue
  simp only [List.map_cons, List.map_nil]
  rw [if_pos h]
  show _ = _
  kernel_rfl
theorem bsl2 {σ : List Ob} {dr : Bool} {ro : Nat} {k1 k2 : LK} {n1 n2 z1 z2 : Nat} {c1 c2 : List AV} (h : AV.ownsAll [AV.list k1 n1 z1 c1, AV.list k2 n2 z2 c2] = []) :
    bsl Tryd.prog 66 2 σ dr ro [(0, .list k1 n1 z1 c1), (1, .list k2 n2 z2 c2)] = some (.list .clip 2 1 [.list k1 n1 z1 c1, .list k2 n2 z2 c2], σ) := by
  unfold bsl byValue
  simp only [List.map_cons, List.map_nil]
  rw [if_pos h]
  show _ = _
  kernel_rfl
theorem end_lst {l : List ByteArray} {S : List Ob} {ro : Nat} : vend1 S ro S [lst l] = some (lst l, S) := by
  have h : AV.thawAll S [lst l] = some [lst l] := by simp [AV.thawAll, AV.thaw, thaw_strs]
  unfold vend1
  rw [h]
  have h2 : AV.ownsAll [lst l] = [] := by simp [AV.ownsAll, AV.owns, owns_strs]
  rw [h2]
  simp only [freezeIds]
  unfold resOf
  split <;> rfl
/-- The joiner, as a value. -/
def joinV (s : NSys) : AV := if empB s.jo then .list .nil 0 0 [] else .list .clip 1 1 [.str s.jo]
theorem joinV_is (s : NSys) : IsS (joinV s) (joinWords s) := by
  unfold joinV joinWords
  split
  · exact .inr ⟨rfl, _, _, _, rfl⟩
  · exact .inl ⟨_, rfl⟩
theorem lt_joinV (s : NSys) : AV.lt 0 (joinV s) = true := by
  unfold joinV
  split <;> rfl
theorem lt_l (l : List ByteArray) : AV.lt 0 (lst l) = true := by simp only [AV.lt]; exact lt_strs 0 l
theorem lt_3 {a b c : AV} (ha : AV.lt 0 a = true) (hb : AV.lt 0 b = true) (hc : AV.lt 0 c = true) : AV.ltAll 0 [a, b, c] = true := by simp [AV.ltAll, ha, hb, hc]
theorem lt_1 (w : ByteArray) : AV.lt 0 (.list .clip 1 1 [.str w]) = true := rfl
/-- What is known of the callees while say runs at depth k + 1. -/
structure SayCall (X : Ext) (call : Caller) (s : NSys) (k : Nat) : Prop where
  pow : ∀ n ro, callv X call false 34 [AV.agg (sysC s), i6 n] (sayS s) ro = some (AV.tup [i6 (s.base ^ (powK s n + 1)), i6 (powK s n)], sayS s)
  less : ∀ q p r ro, callv X call false 35 [AV.agg (sysC s), i6 q, i6 p, i6 r] (sayS s) ro = some (bo (lessL s q p r), sayS s)
  joi : ∀ ro, callv X call true 37 [AV.agg (sysC s)] (sayS s) ro = some (joinV s, sayS s)
  coll : ∀ ps ls dr ro, ps.length = ls.length → AV.ltAll 0 ps = true → lensum ls * 17 ≤ 140737488355328 → ls.length ≤ 3 → 0 < ls.length → (∀ l, ls[0]? = some l → l ≠ []) → (∀ (i : Nat) (l : List ByteArray), ls[i]? = some l → ∃ p, ps[i]? = some p ∧ IsS p l) →
    callv X call dr 36 [AV.list .clip ls.length 1 ps] (sayS s) ro = some (lst (joinL ls), sayS s)
  say : ∀ n l dr ro, sayO s k n = some l → callv X call dr 33 (sayA n) (sayS s) ro = some (lst l, sayS s)
theorem joinWords_len (s : NSys) : (joinWords s).length ≤ 1 := by unfold joinWords; split <;> simp
theorem sayO_len (s : NSys) : ∀ (k : Nat) (n : Int) (l : List ByteArray), sayO s k n = some l → l ≠ [] ∧ l.length + 2 ≤ 3 * 2 ^ k
  | 0, _, _, h => by simp [sayO] at h
  | k + 1, n, l, h => by
    have hj := joinWords_len s
    have h2 : 0 < 2 ^ k := Nat.pow_pos (by decide)
    have hk : 3 * 2 ^ (k + 1) = 6 * 2 ^ k := by rw [Nat.pow_succ]; omega
    rw [hk]
    simp only [sayO] at h
    split at h
    · split at h
      · split at h
        · simp only [Option.some.injEq] at h
          subst h
          simp only [List.length_cons, List.length_nil, ne_eq, reduceCtorEq, not_false_eq_true, true_and]
          omega
        · cases h
      · cases h
    · split at h
      · split at h
        · rename_i a b ha hb
          have la := (sayO_len s k _ _ ha).2
          have lb := (sayO_len s k _ _ hb).2
          simp only [Option.some.injEq] at h
          subst h
          simp only [List.length_append, List.length_cons, ne_eq, List.append_eq_nil_iff, reduceCtorEq, and_false, not_false_eq_true, true_and]
          omega
        · cases h
      · split at h
        · cases h
        · split at h
          · cases h
          · rename_i head hh
            have hd : head ≠ [] ∧ head.length + 1 ≤ 3 * 2 ^ k := by
              split at hh
              · split at hh
                · rename_i a ha
                  have la := (sayO_len s k _ _ ha).2
                  simp only [Option.some.injEq] at hh
                  subst hh
                  simp only [List.length_append, List.length_cons, List.length_nil, ne_eq, List.append_eq_nil_iff, reduceCtorEq, and_false, not_false_eq_true, true_and]
                  omega
                · cases hh
              · simp only [Option.some.injEq] at hh
                subst hh
                simp only [List.length_cons, List.length_nil, ne_eq, reduceCtorEq, not_false_eq_true, true_and]
                omega
            split at h
            · simp only [Option.some.injEq] at h
              subst h
              exact ⟨hd.1, by omega⟩
            · split at h
              · cases h
              · rename_i a ha
                have la := (sayO_len s k _ _ ha).2
                simp only [Option.some.injEq] at h
                subst h
                split
                · refine ⟨by simp [hd.1], ?_⟩
                  simp only [List.length_append]
                  omega
                · refine ⟨by simp [hd.1], ?_⟩
                  simp only [List.length_append]
                  omega
end Go.Proofs.Num
end
/- Numeral: one step of say. -/
section
open Go Go.Vm Go.Proofs
namespace Go.Proofs.Num
theorem idx_strs {S : List Ob} {l : List ByteArray} {i : Nat} {w : ByteArray} (h : l[i]? = some w) :
    keep S (indexAddrv Tryd.prog 22 S (lro l.length 1 (l.map .str)) (i6 (↑i : Int))) = some (.eaddr ((l.map AV.str).drop i), S) ∧
    keep S (loadv Tryd.prog 9 S (.eaddr ((l.map AV.str).drop i))) = some (st w, S) := by
  obtain ⟨hi, e⟩ := List.getElem?_eq_some_iff.1 h
  exact ⟨at_list Tryd.underlying22 cells9 info9 hi, load_list Tryd.underlying9 rfl (by rw [List.getElem?_map, h]; rfl)⟩
theorem quo_p {S : List Ob} {n p : Int} (hp : p ≠ 0) : keep S (binv Tryd.prog BinOp.quo 3 (i6 n) (i6 p)) = some (i6 (w6 (n.tdiv p)), S) := by
  have : binv Tryd.prog BinOp.quo 3 (i6 n) (i6 p) = some (i6 (w6 (n.tdiv p))) := by
    have h : binv Tryd.prog BinOp.quo 3 (i6 n) (i6 p) = if p = 0 then none else some (.int .i64 (IntKind.i64.wrap (n.tdiv p))) := by kernel_rfl
    rw [h, if_neg hp]
  rw [this]; rfl
theorem rem_p {S : List Ob} {n p : Int} (hp : p ≠ 0) : keep S (binv Tryd.prog BinOp.rem 3 (i6 n) (i6 p)) = some (i6 (n.tmod p), S) := by
  have : binv Tryd.prog BinOp.rem 3 (i6 n) (i6 p) = some (i6 (n.tmod p)) := by
    have h : binv Tryd.prog BinOp.rem 3 (i6 n) (i6 p) = if p = 0 then none else some (.int .i64 (n.tmod p)) := by kernel_rfl
    rw [h, if_neg hp]
  rw [this]; rfl
theorem is_lst (l : List ByteArray) : IsS (lst l) l := .inl ⟨_, rfl⟩
theorem is_one (w : ByteArray) : IsS (.list .clip 1 1 [.str w]) [w] := .inl ⟨_, rfl⟩
theorem three {a b c : AV} {x y z : List ByteArray} (ha : IsS a x) (hb : IsS b y) (hc : IsS c z) :
    ∀ (i : Nat) (l : List ByteArray), [x, y, z][i]? = some l → ∃ p, [a, b, c][i]? = some p ∧ IsS p l := by
  intro i l h
  match i with
  | 0 => simp only [List.getElem?_cons_zero, Option.some.injEq] at h; subst h; exact ⟨_, rfl, ha⟩
  | 1 => simp only [List.getElem?_cons_succ, List.getElem?_cons_zero, Option.some.injEq] at h; subst h; exact ⟨_, rfl, hb⟩
  | 2 => simp only [List.getElem?_cons_succ, List.getElem?_cons_zero, Option.some.injEq] at h; subst h; exact ⟨_, rfl, hc⟩
  | i + 3 => simp at h
theorem two {a b : AV} {x y : List ByteArray} (ha : IsS a x) (hb : IsS b y) :
    ∀ (i : Nat) (l : List ByteArray), [x, y][i]? = some l → ∃ p, [a, b][i]? = some p ∧ IsS p l := by
  intro i l h
  match i with
  | 0 => simp only [List.getElem?_cons_zero, Option.some.injEq] at h; subst h; exact ⟨_, rfl, ha⟩
  | 1 => simp only [List.getElem?_cons_succ, List.getElem?_cons_zero, Option.some.injEq] at h; subst h; exact ⟨_, rfl, hb⟩
  | i + 2 => simp at h
/-- How a say's result is told: as it comes, or by value. -/
def IsSay (r : AV) (l : List ByteArray) : Prop := r = lst l ∨ ∃ w, l = [w] ∧ r = .list .clip 1 1 [.str w]
theorem base_pos {s : NSys} (hb : s.base = 10 ∨ s.base = 20) (i : Nat) : s.base ^ (i + 1) ≠ 0 := by
  have h : s.base ≠ 0 := by omega
  exact Int.pow_ne_zero h
section
variable {X : Ext} {call : Caller} {s : NSys} {k : Nat}
theorem coll_head (hc : SayCall X call s k) {q : Int} {a : List ByteArray} {w : ByteArray} {ro : Nat} (hk : k ≤ 20) (h : sayO s k q = some a) :
    callv X call false 36 [.list .clip 2 1 [lst a, .list .clip 1 1 [st w]]] (sayS s) ro = some (lst (a ++ [w]), sayS s) := by
  obtain ⟨h1, h2⟩ := sayO_len s k q a h
  have hp : 2 ^ k ≤ 2 ^ 20 := Nat.pow_le_pow_right (by decide) hk
  have := hc.coll [lst a, .list .clip 1 1 [.str w]] [a, [w]] false ro rfl (by simp [AV.ltAll, AV.lt, lt_strs]) (by simp [lensum]; omega) (by simp) (by simp) (by intro l h; simp at h; exact h ▸ h1) (two (is_lst a) (is_one w))
  simpa [joinL] using this
theorem coll_three (hc : SayCall X call s k) {a b c : AV} {x y z : List ByteArray} {ro : Nat} (hlt : AV.ltAll 0 [a, b, c] = true) (ha : IsS a x) (hb : IsS b y) (hcc : IsS c z) (hx : x ≠ []) (hl : (x.length + (y.length + z.length)) * 17 ≤ 140737488355328) :
    callv X call true 36 [.list .clip 3 1 [a, b, c]] (sayS s) ro = some (lst (x ++ (y ++ z)), sayS s) := by
  have := hc.coll [a, b, c] [x, y, z] true ro rfl hlt (by simp [lensum]; omega) (by simp) (by simp) (by intro l h; simp at h; exact h ▸ hx) (three ha hb hcc)
  simpa [joinL] using this
theorem say_small {n : Int} (hn : n < s.base) (h0 : 0 ≤ n) {w : ByteArray} (hw : s.digits[n.toNat]? = some w) {lf ro : Nat} :
    vbody Tryd.prog X call lf noFg Tryd.f33 (codeOf Tryd.f33) (sayA n) (sayS s) ro = some (.list .clip 1 1 [.str w], sayS s) := by
  have hi := idx_strs (S := sayS s) hw
  have e : ((n.toNat : Nat) : Int) = n := Int.toNat_of_nonneg h0
  rw [e] at hi
  exact say_pt s n _ w X call lf ro (decide_eq_true hn) hi.1 hi.2
theorem say_less (hc : SayCall X call s k) (hb : s.base = 10 ∨ s.base = 20) (hk : k ≤ 20) {n : Int} {a b : List ByteArray} {lf ro : Nat} (hn : ¬ n < s.base)
    (hl : lessL s (w6 (n.tdiv (s.base ^ (powK s n + 1)))) (s.base ^ (powK s n + 1)) (n.tmod (s.base ^ (powK s n + 1))) = true)
    (ha : sayO s k (w6 (s.base ^ (powK s n + 1) - n.tmod (s.base ^ (powK s n + 1)))) = some a) (hbb : sayO s k (w6 (w6 (w6 (n.tdiv (s.base ^ (powK s n + 1))) + 1) * s.base ^ (powK s n + 1))) = some b) :
    vbody Tryd.prog X call lf noFg Tryd.f33 (codeOf Tryd.f33) (sayA n) (sayS s) ro = some (lst (a ++ s.le :: b), sayS s) := by
  obtain ⟨a1, a2⟩ := sayO_len s k _ a ha
  obtain ⟨b1, b2⟩ := sayO_len s k _ b hbb
  have hp : 2 ^ k ≤ 2 ^ 20 := Nat.pow_le_pow_right (by decide) hk
  have h4 := hc.less (w6 (n.tdiv (s.base ^ (powK s n + 1)))) (s.base ^ (powK s n + 1)) (n.tmod (s.base ^ (powK s n + 1))) ro
  rw [hl] at h4
  have h8 := coll_three hc (ro := ro) (lt_3 (lt_l _) (lt_1 _) (lt_l _)) (is_lst a) (is_one s.le) (is_lst b) a1 (by simp only [List.length_cons, List.length_nil]; omega)
  exact say_pft s n _ _ _ _ _ _ _ _ _ _ X call lf ro (decide_eq_false hn) (hc.pow n ro) (quo_p (base_pos hb _)) (rem_p (base_pos hb _)) h4 (hc.say _ _ _ _ ha) (hc.say _ _ _ _ hbb)
    (bsl3 (by simp [AV.ownsAll, AV.owns, owns_strs])) h8 end_lst
end
end Go.Proofs.Num
end
/- Numeral: one step of say, whole. -/
section
open Go Go.Vm Go.Proofs
namespace Go.Proofs.Num
theorem joinV_list (s : NSys) : ∃ k n z c, joinV s = .list k n z c ∧ AV.ownsAll c = [] := by
  unfold joinV
  split
  · exact ⟨_, _, _, _, rfl, rfl⟩
  · exact ⟨_, _, _, _, rfl, rfl⟩
section
variable {X : Ext} {call : Caller} {s : NSys} {k : Nat}
theorem bsl_r {a b : List ByteArray} {ro : Nat} : bsl Tryd.prog 66 3 (sayS s) true ro [(0, lst a), (1, joinV s), (2, lst b)] = some (.list .clip 3 1 [lst a, joinV s, lst b], sayS s) := by
  obtain ⟨k, n, z, c, e, ho⟩ := joinV_list s
  rw [e]
  exact bsl3 (by simp [AV.ownsAll, AV.owns, owns_strs, ho])
theorem bsl_w1 {a : List ByteArray} {w : ByteArray} {ro : Nat} : bsl Tryd.prog 66 3 (sayS s) true ro [(0, lst a), (1, joinV s), (2, .list .clip 1 1 [.str w])] = some (.list .clip 3 1 [lst a, joinV s, .list .clip 1 1 [.str w]], sayS s) := by
  obtain ⟨k, n, z, c, e, ho⟩ := joinV_list s
  rw [e]
  exact bsl3 (by simp [AV.ownsAll, AV.owns, owns_strs, ho])
theorem bsl_w2 {a : List ByteArray} {w : ByteArray} {ro : Nat} : bsl Tryd.prog 66 3 (sayS s) true ro [(0, .list .clip 1 1 [.str w]), (1, joinV s), (2, lst a)] = some (.list .clip 3 1 [.list .clip 1 1 [.str w], joinV s, lst a], sayS s) := by
  obtain ⟨k, n, z, c, e, ho⟩ := joinV_list s
  rw [e]
  exact bsl3 (by simp [AV.ownsAll, AV.owns, owns_strs, ho])
theorem say_head (hc : SayCall X call s k) (hb : s.base = 10 ∨ s.base = 20) (hk : k ≤ 20) {n : Int} {w : ByteArray} {a c : List ByteArray} {lf ro : Nat} (hn : ¬ n < s.base)
    (hl : lessL s (w6 (n.tdiv (s.base ^ (powK s n + 1)))) (s.base ^ (powK s n + 1)) (n.tmod (s.base ^ (powK s n + 1))) = false)
    (hw : s.powers[powK s n]? = some w) (hq : (w6 (n.tdiv (s.base ^ (powK s n + 1))) != 1 || !s.om) = true)
    (ha : sayO s k (w6 (n.tdiv (s.base ^ (powK s n + 1)))) = some a) (hcc : (n.tmod (s.base ^ (powK s n + 1)) == 0) = false → sayO s k (n.tmod (s.base ^ (powK s n + 1))) = some c) :
    vbody Tryd.prog X call lf noFg Tryd.f33 (codeOf Tryd.f33) (sayA n) (sayS s) ro = some (lst (if n.tmod (s.base ^ (powK s n + 1)) == 0 then a ++ [w] else if s.sf then c ++ (joinWords s ++ (a ++ [w])) else (a ++ [w]) ++ (joinWords s ++ c)), sayS s) := by
  have hp : 2 ^ k ≤ 2 ^ 20 := Nat.pow_le_pow_right (by decide) hk
  obtain ⟨a1, a2⟩ := sayO_len s k _ a ha
  have hj := joinWords_len s
  have hi := idx_strs (S := sayS s) hw
  have h4 := hc.less (w6 (n.tdiv (s.base ^ (powK s n + 1)))) (s.base ^ (powK s n + 1)) (n.tmod (s.base ^ (powK s n + 1))) ro
  rw [hl] at h4
  have h10 := coll_head hc (w := w) (ro := ro) hk ha
  have hd : (a ++ [w]).length = a.length + 1 := by simp
  have b2 : bsl Tryd.prog 66 2 (sayS s) false ro [(0, lst a), (1, .list .clip 1 1 [.str w])] = some (.list .clip 2 1 [lst a, .list .clip 1 1 [.str w]], sayS s) := bsl2 (by simp [AV.ownsAll, AV.owns, owns_strs])
  have key : (w6 (n.tdiv (s.base ^ (powK s n + 1))) != 1) = true ∨ ((w6 (n.tdiv (s.base ^ (powK s n + 1))) != 1) = false ∧ s.om = false) := by
    cases e : (w6 (n.tdiv (s.base ^ (powK s n + 1))) != 1) with
    | true => exact .inl rfl
    | false =>
      rw [e] at hq
      simp at hq
      exact .inr ⟨rfl, hq⟩
  cases e3 : (n.tmod (s.base ^ (powK s n + 1)) == 0) with
  | true =>
    rw [if_pos rfl]
    rcases key with e | ⟨e, eo⟩
    · exact say_pfftt s n _ _ _ _ _ _ _ _ _ _ X call lf ro (decide_eq_false hn) (hc.pow n ro) (quo_p (base_pos hb _)) (rem_p (base_pos hb _)) h4 hi.1 hi.2 e (hc.say _ _ _ _ ha) b2 h10 e3 end_lst
    · exact say_pfffft s n _ _ _ _ _ _ _ _ _ _ X call lf ro (decide_eq_false hn) (hc.pow n ro) (quo_p (base_pos hb _)) (rem_p (base_pos hb _)) h4 hi.1 hi.2 e eo (hc.say _ _ _ _ ha) b2 h10 e3 end_lst
  | false =>
    have hcs := hcc e3
    obtain ⟨c1, c2⟩ := sayO_len s k _ c hcs
    rw [if_neg (by decide)]
    cases e4 : s.sf with
    | true =>
      rw [if_pos rfl]
      have h16 := coll_three hc (ro := ro) (lt_3 (lt_l _) (lt_joinV _) (lt_l _)) (is_lst c) (joinV_is s) (is_lst (a ++ [w])) c1 (by rw [hd]; omega)
      rcases key with e | ⟨e, eo⟩
      · exact say_pfftft s n _ _ _ _ _ _ _ _ _ _ _ _ _ _ _ _ X call lf ro (decide_eq_false hn) (hc.pow n ro) (quo_p (base_pos hb _)) (rem_p (base_pos hb _)) h4 hi.1 hi.2 e (hc.say _ _ _ _ ha) b2 h10 e3 e4 (hc.say _ _ _ _ hcs) (hc.joi ro) bsl_r h16 end_lst
      · exact say_pffffft s n _ _ _ _ _ _ _ _ _ _ _ _ _ _ _ _ X call lf ro (decide_eq_false hn) (hc.pow n ro) (quo_p (base_pos hb _)) (rem_p (base_pos hb _)) h4 hi.1 hi.2 e eo (hc.say _ _ _ _ ha) b2 h10 e3 e4 (hc.say _ _ _ _ hcs) (hc.joi ro) bsl_r h16 end_lst
    | false =>
      rw [if_neg (by decide)]
      have h16 := coll_three hc (ro := ro) (lt_3 (lt_l _) (lt_joinV _) (lt_l _)) (is_lst (a ++ [w])) (joinV_is s) (is_lst c) (by simp) (by rw [hd]; omega)
      rcases key with e | ⟨e, eo⟩
      · exact say_pfftff s n _ _ _ _ _ _ _ _ _ _ _ _ _ _ _ _ X call lf ro (decide_eq_false hn) (hc.pow n ro) (quo_p (base_pos hb _)) (rem_p (base_pos hb _)) h4 hi.1 hi.2 e (hc.say _ _ _ _ ha) b2 h10 e3 e4 (hc.joi ro) (hc.say _ _ _ _ hcs) bsl_r h16 end_lst
      · exact say_pffffff s n _ _ _ _ _ _ _ _ _ _ _ _ _ _ _ _ X call lf ro (decide_eq_false hn) (hc.pow n ro) (quo_p (base_pos hb _)) (rem_p (base_pos hb _)) h4 hi.1 hi.2 e eo (hc.say _ _ _ _ ha) b2 h10 e3 e4 (hc.joi ro) (hc.say _ _ _ _ hcs) bsl_r h16 end_lst
end
end Go.Proofs.Num
end
/- Numeral: one step of say, joined. -/
section
open Go Go.Vm Go.Proofs
namespace Go.Proofs.Num
section
variable {X : Ext} {call : Caller} {s : NSys} {k : Nat}
theorem say_bare (hc : SayCall X call s k) (hb : s.base = 10 ∨ s.base = 20) (hk : k ≤ 20) {n : Int} {w : ByteArray} {c : List ByteArray} {lf ro : Nat} (hn : ¬ n < s.base)
    (hl : lessL s (w6 (n.tdiv (s.base ^ (powK s n + 1)))) (s.base ^ (powK s n + 1)) (n.tmod (s.base ^ (powK s n + 1))) = false)
    (hw : s.powers[powK s n]? = some w) (hq : (w6 (n.tdiv (s.base ^ (powK s n + 1))) != 1 || !s.om) = false)
    (hcc : (n.tmod (s.base ^ (powK s n + 1)) == 0) = false → sayO s k (n.tmod (s.base ^ (powK s n + 1))) = some c) :
    ∃ r, vbody Tryd.prog X call lf noFg Tryd.f33 (codeOf Tryd.f33) (sayA n) (sayS s) ro = some (r, sayS s) ∧ IsSay r (if n.tmod (s.base ^ (powK s n + 1)) == 0 then [w] else if s.sf then c ++ (joinWords s ++ [w]) else [w] ++ (joinWords s ++ c)) := by
  have hp : 2 ^ k ≤ 2 ^ 20 := Nat.pow_le_pow_right (by decide) hk
  have hj := joinWords_len s
  have hi := idx_strs (S := sayS s) hw
  have h4 := hc.less (w6 (n.tdiv (s.base ^ (powK s n + 1)))) (s.base ^ (powK s n + 1)) (n.tmod (s.base ^ (powK s n + 1))) ro
  rw [hl] at h4
  obtain ⟨e, eo⟩ : (w6 (n.tdiv (s.base ^ (powK s n + 1))) != 1) = false ∧ s.om = true := by
    cases e : (w6 (n.tdiv (s.base ^ (powK s n + 1))) != 1) with
    | true => rw [e] at hq; simp at hq
    | false =>
      rw [e] at hq
      simp at hq
      exact ⟨rfl, hq⟩
  cases e3 : (n.tmod (s.base ^ (powK s n + 1)) == 0) with
  | true =>
    rw [if_pos rfl]
    exact ⟨_, say_pffftt s n _ _ _ _ _ _ X call lf ro (decide_eq_false hn) (hc.pow n ro) (quo_p (base_pos hb _)) (rem_p (base_pos hb _)) h4 hi.1 hi.2 e eo e3, .inr ⟨w, rfl, rfl⟩⟩
  | false =>
    have hcs := hcc e3
    obtain ⟨c1, c2⟩ := sayO_len s k _ c hcs
    rw [if_neg (by decide)]
    cases e4 : s.sf with
    | true =>
      rw [if_pos rfl]
      have h16 := coll_three hc (ro := ro) (lt_3 (lt_l _) (lt_joinV _) (lt_1 _)) (is_lst c) (joinV_is s) (is_one w) c1 (by simp only [List.length_cons, List.length_nil]; omega)
      exact ⟨_, say_pffftft s n _ _ _ _ _ _ _ _ _ _ _ _ X call lf ro (decide_eq_false hn) (hc.pow n ro) (quo_p (base_pos hb _)) (rem_p (base_pos hb _)) h4 hi.1 hi.2 e eo e3 e4 (hc.say _ _ _ _ hcs) (hc.joi ro) bsl_w1 h16 end_lst, .inl rfl⟩
    | false =>
      rw [if_neg (by decide)]
      have h16 := coll_three hc (ro := ro) (lt_3 (lt_1 _) (lt_joinV _) (lt_l _)) (is_one w) (joinV_is s) (is_lst c) (by simp) (by simp only [List.length_cons, List.length_nil]; omega)
      exact ⟨_, say_pffftff s n _ _ _ _ _ _ _ _ _ _ _ _ X call lf ro (decide_eq_false hn) (hc.pow n ro) (quo_p (base_pos hb _)) (rem_p (base_pos hb _)) h4 hi.1 hi.2 e eo e3 e4 (hc.joi ro) (hc.say _ _ _ _ hcs) bsl_w2 h16 end_lst, .inl rfl⟩
end
end Go.Proofs.Num
end
/- Numeral: say at depth k + 1 from say at depth k. -/
section
open Go Go.Vm Go.Proofs
namespace Go.Proofs.Num
theorem say_step {X : Ext} {call : Caller} {s : NSys} {k : Nat} (hc : SayCall X call s k) (hb : s.base = 10 ∨ s.base = 20) (hk : k ≤ 20) {n : Int} {l : List ByteArray} {lf ro : Nat} (h : sayO s (k + 1) n = some l) :
    ∃ r, vbody Tryd.prog X call lf noFg Tryd.f33 (codeOf Tryd.f33) (sayA n) (sayS s) ro = some (r, sayS s) ∧ IsSay r l := by
  simp only [sayO] at h
  split at h
  · rename_i hn
    split at h
    · rename_i h0
      split at h
      · rename_i w hw
        simp only [Option.some.injEq] at h
        subst h
        exact ⟨_, say_small hn h0 hw, .inr ⟨w, rfl, rfl⟩⟩
      · cases h
    · cases h
  · rename_i hn
    split at h
    · rename_i hl
      split at h
      · rename_i a b ha hbb
        simp only [Option.some.injEq] at h
        subst h
        exact ⟨_, say_less hc hb hk hn hl ha hbb, .inl rfl⟩
      · cases h
    · rename_i hl
      have hl := Bool.eq_false_iff.2 hl
      split at h
      · cases h
      · rename_i w hw
        split at h
        · cases h
        · rename_i head hh
          split at hh
          · rename_i hq
            split at hh
            · rename_i a ha
              simp only [Option.some.injEq] at hh
              subst hh
              split at h
              · rename_i hr
                simp only [Option.some.injEq] at h
                subst h
                have := say_head hc hb hk (c := []) (lf := lf) (ro := ro) hn hl hw hq ha (fun e => by rw [hr] at e; cases e)
                rw [if_pos hr] at this
                exact ⟨_, this, .inl rfl⟩
              · rename_i hr
                split at h
                · cases h
                · rename_i c hcc
                  simp only [Option.some.injEq] at h
                  subst h
                  have := say_head hc hb hk (c := c) (lf := lf) (ro := ro) hn hl hw hq ha (fun _ => hcc)
                  rw [if_neg hr] at this
                  exact ⟨_, this, .inl rfl⟩
            · cases hh
          · rename_i hq
            have hq := Bool.eq_false_iff.2 hq
            simp only [Option.some.injEq] at hh
            subst hh
            split at h
            · rename_i hr
              simp only [Option.some.injEq] at h
              subst h
              have := say_bare hc hb hk (c := []) (lf := lf) (ro := ro) hn hl hw hq (fun e => by rw [hr] at e; cases e)
              rw [if_pos hr] at this
              exact this
            · rename_i hr
              split at h
              · cases h
              · rename_i c hcc
                simp only [Option.some.injEq] at h
                subst h
                have := say_bare hc hb hk (c := c) (lf := lf) (ro := ro) hn hl hw hq (fun _ => hcc)
                rw [if_neg hr] at this
                exact this
end Go.Proofs.Num
end
/- Numeral: say at every depth. -/
section
open Go Go.Vm Go.Proofs
namespace Go.Proofs.Num
variable [Fixed]
theorem isSay_call {f : FuncId} {vs : List AV} {σ : List Ob} {ro : Nat} {r : AV} {l : List ByteArray} {σ' : List Ob} (hr : IsSay r l) (h : CallAt Tryd.prog f vs σ ro r σ') : CallAt Tryd.prog f vs σ ro (lst l) σ' := by
  rcases hr with rfl | ⟨w, rfl, rfl⟩
  · exact h
  · refine ⟨h.1, fun C w us hσ hs hro hr => Calls.mono (h.2 C w us hσ hs hro hr) ?_⟩
    rintro e w' ⟨u, C', h1, h2, h3, h4, h5, h6⟩
    have := roA_rep C' w' _ _ h5
    exact ⟨u, C', h1, h2, h3, h4, this, by simp [Fresh]⟩
theorem callv_say {X : Ext} {call : Caller} {s : NSys} {n : Int} {l : List ByteArray} {dr : Bool} {ro : Nat} (h1 : X.pureFn 33 = none) (h2 : X.stFn 33 = none) (h : ∀ ro, call 33 (sayA n) (sayS s) ro = some (lst l, sayS s)) :
    callv X call dr 33 (sayA n) (sayS s) ro = some (lst l, sayS s) := by
  have e1 : AV.ltAll 0 (sayA n) = false := rfl
  have e2 : AV.thawAll (sayS s) (sayA n) = some (sayA n) := rfl
  have e3 : (lst l).lt (sayS s).length = true := by simp only [AV.lt]; exact lt_strs _ l
  have e4 : unfr (lst l) = lst l := rfl
  unfold callv
  rw [h1, h2]
  simp only [e1]
  cases dr with
  | true =>
    have e5 : (lst l).lt 2 = true := by simp only [AV.lt]; exact lt_strs _ l
    simp [h, e5, e4]
  | false =>
    simp only [e2, e1, h, e4]
    simp
def sayF (s : NSys) (k : Nat) : FuncId → List AV → Option AV
  | 33, [.int .i64 n, .ref 0 0, .ref 1 0] => match sayO s k n with
    | some l => some (lst l)
    | none => none
  | _, _ => none
theorem say_all {X : Ext} (hX : ExtOk Tryd.prog X) {T : Vm.Spec} (hT : SpecOk Tryd.prog T) {s : NSys} (hb : s.base = 10 ∨ s.base = 20) (hd : X.dom 33 = true) (h1 : X.pureFn 33 = none) (h2 : X.stFn 33 = none)
    (hB : ∀ call, (∀ f vs σ ro r, callerOf T f vs σ ro = some r → call f vs σ ro = some r) → SayCall X call s 0) :
    ∀ k, k ≤ 20 → ∀ n l ro, sayO s k n = some l → CallAt Tryd.prog 33 (sayA n) (sayS s) ro (lst l) (sayS s)
  | 0, _, _, _, _, h => by simp [sayO] at h
  | k + 1, hk, n, l, ro, h => by
    have ih := say_all hX hT hb hd h1 h2 hB k (by omega)
    obtain ⟨call, hc, hext, hsay⟩ := caller_more (callerOf_ok hT) (S := sayS s) (fun f vs ro => rfl) (sayF s k) (by
        intro f vs r ro hr
        unfold sayF at hr
        split at hr
        · split at hr
          · rename_i a ha
            simp only [Option.some.injEq] at hr
            subst hr
            exact ih _ _ ro ha
          · cases hr
        · cases hr)
    have hS : SayCall X call s k := by
      have h0 := hB call hext
      refine ⟨h0.pow, h0.less, h0.joi, h0.coll, fun m a dr ro hm => callv_say h1 h2 fun ro => ?_⟩
      apply hsay
      simp only [sayF, sayA, hm]
    obtain ⟨r, hv, hr⟩ := say_step (lf := 0) (ro := ro) hS hb (by omega) h
    exact isSay_call hr (body_at hX hc hd rfl rfl hv)
end Go.Proofs.Num
end
/- Numeral: utf8.ValidString by its contract, laid in plain words. -/
section
namespace Go.Proofs
open Go.Shelf
def Tryd.laysValid_ren : Go.Shelf.Ren := ⟨fun | 196 => 47 | 259 => 57 | n => n, fun | 9 => 9 | 4 => 4 | 3 => 3 | 5 => 5 | 12 => 12 | 119 => 84 | 0 => 0 | 46 => 70 | 139 => 87 | 138 => 86 | 53 => 102 | n => n, fun | 3 => 0 | 4 => 1 | n => n⟩
theorem Tryd.laysValid : Go.Proofs.Lays.n196 Tryd.prog Tryd.laysValid_ren := {
  mixed := by kernel_rfl
  f196 := Tryd.func47.trans (congrArg some (by kernel_rfl))
  f259 := Tryd.func57.trans (congrArg some (by kernel_rfl))
  t0 := Tryd.underlying0
  a0 := Tryd.isAgg0
  z0 := Tryd.sizeOf0
  v0 := Tryd.zeroValue0
  t3 := Tryd.underlying3
  a3 := Tryd.isAgg3
  z3 := Tryd.sizeOf3
  v3 := Tryd.zeroValue3
  t4 := Tryd.underlying4
  a4 := Tryd.isAgg4
  z4 := Tryd.sizeOf4
  v4 := Tryd.zeroValue4
  t5 := Tryd.underlying5
  a5 := Tryd.isAgg5
  z5 := Tryd.sizeOf5
  v5 := Tryd.zeroValue5
  t9 := Tryd.underlying9
  a9 := Tryd.isAgg9
  z9 := Tryd.sizeOf9
  v9 := Tryd.zeroValue9
  t12 := Tryd.underlying12
  a12 := Tryd.isAgg12
  z12 := Tryd.sizeOf12
  v12 := Tryd.zeroValue12
  t46 := Tryd.underlying70
  a46 := Tryd.isAgg70
  z46 := Tryd.sizeOf70
  v46 := Tryd.zeroValue70
  t53 := Tryd.underlying102
  a53 := Tryd.isAgg102
  z53 := Tryd.sizeOf102
  v53 := Tryd.zeroValue102
  t119 := Tryd.underlying84
  a119 := Tryd.isAgg84
  z119 := Tryd.sizeOf84
  t138 := Tryd.underlying86
  a138 := Tryd.isAgg86
  z138 := Tryd.sizeOf86
  v138 := Tryd.zeroValue86
  t139 := Tryd.underlying87
  a139 := Tryd.isAgg87
  z139 := Tryd.sizeOf87
  v139 := Tryd.zeroValue87
  g3 := by kernel_rfl
  g4 := by kernel_rfl }
end Go.Proofs
end
/- Numeral: what is not walked; what arguments say. -/
section
open Go Go.Vm Go.Proofs
open Go.RowKit (Below)
namespace Go.Proofs.Num
def validFn : List AV → Option AV
  | [.str s] => if s.size ≤ 9223372036854775807 then some (.bool (Lib.validD (bytes s))) else none
  | _ => none
def dom15 (f : FuncId) : Bool := Nat.blt 2 f && Nat.blt f 97
/-- Functions whose new row comes back as the caller's own: l. -/
def X15 (l : List Nat) : Ext := { pureFn := fun f => if f = 47 then some validFn else none, stFn := fun _ => none, adopt := fun f => memN f l, dom := dom15, fg := fun _ _ => [] }
def okFn (fn : Func) : Bool := fn.name != "runtime.NumGoroutine" && (match fn.body with | some c => codeOk c | none => true)
def okF (P : Program) (f : FuncId) : Bool := match P.funcs[f]? with | some fn => okFn fn | none => true
theorem okF_some {P : Program} {f : FuncId} {fn : Func} (hf : P.funcs[f]? = some fn) (h : okF P f = true) : ¬ fn.name = "runtime.NumGoroutine" ∧ ∀ c, fn.body = some c → codeOk c = true := by
  unfold okF at h
  rw [hf] at h
  simp only [okFn, Bool.and_eq_true, bne_iff_ne, ne_eq] at h
  refine ⟨h.1, fun c hc => ?_⟩
  have h2 := h.2
  rw [hc] at h2
  exact h2
theorem dom_all : ((List.range 119).all fun f => !dom15 f || okF Tryd.prog f) = true := by kernel_rfl
theorem dom_at {f : FuncId} (hd : dom15 f = true) : okF Tryd.prog f = true := by
  have hlt : f < 119 := by
    unfold dom15 at hd
    rw [Bool.and_eq_true] at hd
    exact Nat.lt_trans (Nat.le_of_ble_eq_true hd.2) (by decide)
  obtain ⟨l119, hl119⟩ : ∃ l, List.range 119 = l := ⟨_, rfl⟩
  have hmem : f ∈ l119 := hl119 ▸ List.mem_range.2 hlt
  have hall := dom_all
  rw [hl119] at hall
  have := List.all_eq_true.1 hall f hmem
  simpa [hd] using this
/-- The two tables, as a world bears them. -/
@[reducible] def tabFix (W : World) : Fixed := ⟨fun b X => (b = 0 ∨ b = 1) ∧ W.heap[b]? = some X⟩
theorem tabs_move {W w : World} (hT : Lib.Utf8Tabs 0 1 W) (h : ∀ b X, (tabFix W).fix b X → w.heap[b]? = some X) : Lib.Utf8Tabs 0 1 w := by
  have key : ∀ b o v, (b = 0 ∨ b = 1) → W.cell? ⟨b, o, none⟩ = some v → w.cell? ⟨b, o, none⟩ = some v := by
    intro b o v hb hc
    cases hX : W.heap[b]? with
    | none => simp [World.cell?, hX] at hc
    | some X =>
      have := h b X ⟨hb, hX⟩
      rw [← hc]
      simp only [World.cell?, hX, this]
  exact ⟨fun c hc => key _ _ _ (.inl rfl) (hT.1 c hc), fun i hi => ⟨key _ _ _ (.inr rfl) (hT.2 i hi).1, key _ _ _ (.inr rfl) (hT.2 i hi).2⟩⟩
theorem ext15 {W : World} (hT : Lib.Utf8Tabs 0 1 W) (l : List Nat) : @ExtOk (tabFix W) Tryd.prog (X15 l) := by
  letI := tabFix W
  refine ⟨by kernel_rfl, ?_, ?_, ?_⟩
  · intro f fn hd hf
    exact okF_some hf (dom_at (by simpa only [X15] using hd))
  · intro f g hg
    simp only [X15] at hg
    split at hg
    · rename_i e
      subst e
      simp only [Option.some.injEq] at hg
      subst hg
      refine ⟨⟨Tryd.f47, Tryd.func47, by kernel_rfl, of_decide_eq_false (by kernel_rfl)⟩, ?_⟩
      intro vs r hl hr C w us hs hrep
      clear hl
      unfold validFn at hr
      split at hr
      · rename_i s
        split at hr
        · rename_i hsz
          simp only [Option.some.injEq] at hr
          subst hr
          have e : us = [.string s] := by
            match us, hrep with
            | [], h => simp only [RepAll] at h
            | [u], h => simp only [RepAll, Rep, and_true] at h; rw [h]
            | _ :: _ :: _, h => simp only [RepAll, and_false] at h
          subst e
          have hTw : Lib.Utf8Tabs 0 1 w := tabs_move hT fun b X h => (hs.fx b X h).1
          refine Calls.mono (Any.utf8_ValidString Tryd.laysValid s w hsz hTw) ?_
          rintro e w' ⟨rfl, hb⟩
          exact ⟨_, rfl, hb.os, hb.tape, hb.output, hb.size, hb.block, rfl⟩
        · cases hr
      · cases hr
    · cases hg
  · intro f g hg
    simp [X15] at hg
/-! ### what arguments say -/
def strsO : List AV → Option (List ByteArray)
  | [] => some []
  | .str s :: l => match strsO l with
    | some r => some (s :: r)
    | none => none
  | _ => none
theorem strsO_map : ∀ (l : List ByteArray), strsO (l.map .str) = some l
  | [] => rfl
  | s :: l => by simp [strsO, strsO_map l]
theorem strsO_eq : ∀ {cs : List AV} {l : List ByteArray}, strsO cs = some l → cs = l.map .str
  | [], l, h => by simp only [strsO, Option.some.injEq] at h; subst h; rfl
  | c :: cs, l, h => by
    unfold strsO at h
    split at h
    · rename_i e; cases e
    · rename_i s l' e
      simp only [List.cons.injEq] at e
      obtain ⟨rfl, rfl⟩ := e
      split at h
      · rename_i r hr
        simp only [Option.some.injEq] at h
        subst h
        rw [strsO_eq hr]
        rfl
      · cases h
    · cases h
def sysO : List AV → Option NSys
  | [.int .i64 b, .list .ro n 1 ds, .list .ro m 1 ps, .bool sf, .str jo, .int .i64 su, .str le, .bool om] =>
    match strsO ds, strsO ps with
    | some ds, some ps => if n = ds.length ∧ m = ps.length then some ⟨b, ds, ps, sf, jo, su, le, om⟩ else none
    | _, _ => none
  | _ => none
theorem sysO_sysC (s : NSys) : sysO (sysC s) = some s := by
  simp only [sysO, sysC, strsO_map]
  simp
theorem sysO_eq {cs : List AV} {s : NSys} (h : sysO cs = some s) : cs = sysC s := by
  unfold sysO at h
  split at h
  · split at h
    · rename_i ds' ps' h1 h2
      split at h
      · rename_i e
        simp only [Option.some.injEq] at h
        subst h
        obtain ⟨rfl, rfl⟩ := e
        simp only [sysC]
        rw [strsO_eq h1, strsO_eq h2]
      · cases h
    · cases h
  · cases h
/-- A list of strings, told somehow. -/
def isSO : AV → Option (List ByteArray)
  | .list _ n sz cs => if n = 0 then some [] else if sz = 1 then (match strsO cs with
    | some l => if n = l.length then some l else none
    | none => none) else none
  | _ => none
theorem isSO_is {v : AV} {l : List ByteArray} (h : isSO v = some l) : IsS v l := by
  unfold isSO at h
  split at h
  · split at h
    · rename_i e
      simp only [Option.some.injEq] at h
      subst h; subst e
      exact .inr ⟨rfl, _, _, _, rfl⟩
    · split at h
      · rename_i e
        subst e
        split at h
        · rename_i l' hl
          split at h
          · rename_i e
            simp only [Option.some.injEq] at h
            subst h; subst e
            exact .inl ⟨_, by rw [strsO_eq hl]⟩
          · cases h
        · cases h
      · cases h
  · cases h
theorem isSO_of {v : AV} {l : List ByteArray} (h : IsS v l) : isSO v = some l := by
  rcases h with ⟨k, rfl⟩ | ⟨rfl, k, sz, cs, rfl⟩
  · simp only [isSO, strsO_map]
    by_cases h : l.length = 0
    · have : l = [] := List.eq_nil_of_length_eq_zero h
      subst this
      rfl
    · simp [h]
  · simp [isSO]
def isSOs : List AV → Option (List (List ByteArray))
  | [] => some []
  | v :: vs => match isSO v, isSOs vs with
    | some l, some ls => some (l :: ls)
    | _, _ => none
theorem isSOs_at : ∀ {vs : List AV} {ls : List (List ByteArray)}, isSOs vs = some ls → vs.length = ls.length ∧ ∀ (i : Nat) (l : List ByteArray), ls[i]? = some l → ∃ p, vs[i]? = some p ∧ IsS p l
  | [], ls, h => by simp only [isSOs, Option.some.injEq] at h; subst h; simp
  | v :: vs, ls, h => by
    simp only [isSOs] at h
    split at h
    · rename_i l ls' h1 h2
      simp only [Option.some.injEq] at h
      subst h
      obtain ⟨k1, k2⟩ := isSOs_at h2
      refine ⟨by simp [k1], fun i x hx => ?_⟩
      cases i with
      | zero => simp only [List.getElem?_cons_zero, Option.some.injEq] at hx; subst hx; exact ⟨v, rfl, isSO_is h1⟩
      | succ i => exact k2 i x hx
    · cases h
theorem isSOs_of : ∀ {vs : List AV} {ls : List (List ByteArray)}, vs.length = ls.length → (∀ (i : Nat) (l : List ByteArray), ls[i]? = some l → ∃ p, vs[i]? = some p ∧ IsS p l) → isSOs vs = some ls
  | [], [], _, _ => rfl
  | [], _ :: _, h, _ => by simp at h
  | _ :: _, [], h, _ => by simp at h
  | v :: vs, l :: ls, h, k => by
    obtain ⟨p, hp, hs⟩ := k 0 l rfl
    simp only [List.getElem?_cons_zero, Option.some.injEq] at hp
    subst hp
    simp only [isSOs, isSO_of hs, isSOs_of (vs := vs) (ls := ls) (by simpa using h) fun i x hx => k (i + 1) x (by simpa using hx)]
end Go.Proofs.Num
end
/- Numeral: the specifications joined, one function after the other. -/
section
open Go Go.Vm Go.Proofs
namespace Go.Vm
section
variable [Fixed]
variable {P : Program}
def addS (T : Vm.Spec) (f : FuncId) (s : List AV → Option AV) : Vm.Spec := fun g vs => if g = f then s vs else T g vs
theorem addS_at {T : Vm.Spec} {f : FuncId} {s : List AV → Option AV} {vs : List AV} : addS T f s f vs = s vs := if_pos rfl
theorem addS_ne {T : Vm.Spec} {f g : FuncId} {s : List AV → Option AV} {vs : List AV} (h : g ≠ f) : addS T f s g vs = T g vs := if_neg h
theorem SpecOk.none : SpecOk P fun _ _ => none := fun _ _ _ h => by cases h
theorem SpecOk.add {T : Vm.Spec} (hT : SpecOk P T) {f : FuncId} {s : List AV → Option AV} (h : ∀ vs r, s vs = some r → CallAt P f vs [] 0 r []) : SpecOk P (addS T f s) := by
  intro g vs r hr
  unfold addS at hr
  split at hr
  · rename_i e
    subst e
    exact h vs r hr
  · exact hT g vs r hr
theorem SpecOk.addRo {T : Vm.Spec} (hT : SpecOk P T) {f : FuncId} {s : List AV → Option AV} (h : ∀ vs r, s vs = some r → CallAt P f vs [] 0 r []) : SpecOk P (addS T f fun vs => s (roAll vs)) :=
  hT.add fun vs r hr => (h (roAll vs) r hr).ro
theorem run_at {X : Ext} (hX : ExtOk P X) {T : Vm.Spec} (hT : SpecOk P T) {f : FuncId} {fn : Func} {lf : Nat} {fg : Nat → List Nat} {vs : List AV} {r : AV} {σ' : List Ob}
    (hd : X.dom f = true) (hf : P.funcs[f]? = some fn) (hb : fn.body = some (codeOf fn)) (hp : r.pure = true) (hv : vbody P X (callerOf T) lf fg fn (codeOf fn) vs [] 0 = some (r, σ')) : CallAt P f vs [] 0 r [] :=
  (body_at hX (callerOf_ok hT) hd hf hb hv).clean hp
end
theorem roAll_strs : ∀ (l : List ByteArray), roAll (l.map .str) = l.map .str
  | [] => rfl
  | s :: l => by simp [roAll, roA, roAll_strs l]
end Go.Vm
namespace Go.Proofs.Num
theorem roAll_sysC (s : NSys) : roAll (sysC s) = sysC s := by
  simp [sysC, roAll, roA, roAll_strs]
theorem roAll_sys (s : NSys) : roAll [AV.agg (sysC s)] = [AV.agg (sysC s)] := by
  simp [roAll, roA, roAll_sysC]
theorem lt_sysC (m : Nat) (s : NSys) : AV.ltAll m (sysC s) = true := by
  simp [sysC, AV.ltAll, AV.lt, lt_strs]
theorem lt_sys (s : NSys) : AV.ltAll 0 [AV.agg (sysC s)] = true := by
  simp [AV.ltAll, AV.lt, lt_sysC]
def szB (w : ByteArray) : Bool := Nat.ble w.size 140737488355328
theorem szB_le {w : ByteArray} (h : szB w = true) : w.size ≤ 140737488355328 := Nat.le_of_ble_eq_true h
/-- Sizes that any machine bears. -/
def okS (s : NSys) : Bool := s.digits.all szB && (s.powers.all szB && (szB s.jo && (szB s.le && Nat.ble (s.digits.length + s.powers.length) 140737488355328)))
theorem okS_iff {s : NSys} (h : okS s = true) : (∀ w, w ∈ s.digits ∨ w ∈ s.powers ∨ w = s.jo ∨ w = s.le → w.size ≤ 140737488355328) ∧ s.digits.length + s.powers.length ≤ 140737488355328 := by
  simp only [okS, Bool.and_eq_true, List.all_eq_true] at h
  obtain ⟨h1, h2, h3, h4, h5⟩ := h
  refine ⟨?_, Nat.le_of_ble_eq_true h5⟩
  rintro w (h | h | rfl | rfl)
  · exact szB_le (h1 w h)
  · exact szB_le (h2 w h)
  · exact szB_le h3
  · exact szB_le h4
/-! ### the specifications -/
def tokS : List AV → Option AV
  | [.str s] => if szB s then some (.bool (tokB s)) else none
  | _ => none
def growS : List AV → Option AV
  | [.list .nil 0 0 [], .int .i64 (.ofNat n)] => if 0 < n ∧ n * 17 ≤ 140737488355328 then some (.list .fresh 0 1 []) else none
  | _ => none
def strsX : AV → Option (List ByteArray)
  | .list .ro n 1 cs => match strsO cs with
    | some l => if n = l.length then some l else none
    | none => none
  | _ => none
theorem strsX_eq {v : AV} {l : List ByteArray} (h : strsX v = some l) : v = strs l := by
  unfold strsX at h
  split at h
  · split at h
    · rename_i l' hl
      split at h
      · rename_i e
        simp only [Option.some.injEq] at h
        subst h; subst e
        rw [strsO_eq hl]
        rfl
      · cases h
    · cases h
  · cases h
theorem strsX_of (l : List ByteArray) : strsX (strs l) = some l := by
  simp only [strsX, strs, strsO_map, if_true]
def catS : List AV → Option AV
  | [.list .clip 2 1 [a, b]] => match strsX a, strsX b with
    | some l, some m => if 0 < l.length + m.length ∧ (l.length + m.length) * 17 ≤ 140737488355328 then some (.list .fresh (l ++ m).length 1 ((l ++ m).map .str)) else none
    | _, _ => none
  | _ => none
def validS : List AV → Option AV
  | [.agg cs] => match sysO cs with
    | some s => if okS s then some (.bool (validL s)) else none
    | none => none
  | _ => none
def smallS : List AV → Option AV
  | [.agg cs] => match sysO cs with
    | some s => some (.bool (smallL s))
    | none => none
  | _ => none
def greatS : List AV → Option AV
  | [.agg cs] => match sysO cs with
    | some s => if okS s then some (i6 (if validL s then 9999 else -1)) else none
    | none => none
  | _ => none
def powS : List AV → Option AV
  | [.agg cs, .int .i64 n] => match sysO cs with
    | some s => if s.base = 10 ∨ s.base = 20 then some (.tup [i6 (s.base ^ (powK s n + 1)), i6 (powK s n)]) else none
    | none => none
  | _ => none
def lessS : List AV → Option AV
  | [.agg cs, .int .i64 q, .int .i64 p, .int .i64 r] => match sysO cs with
    | some s => some (.bool (lessL s q p r))
    | none => none
  | _ => none
def headNe : List (List ByteArray) → Bool
  | (_ :: _) :: _ => true
  | _ => false
theorem headNe_pos {ls : List (List ByteArray)} (h : headNe ls = true) : 0 < ls.length ∧ ∀ l, ls[0]? = some l → l ≠ [] := by
  match ls with
  | (x :: l) :: ls => exact ⟨by simp, fun m hm => by simp at hm; subst hm; simp⟩
  | [] :: _ => simp [headNe] at h
  | [] => simp [headNe] at h
theorem headNe_of {ls : List (List ByteArray)} (h0 : 0 < ls.length) (h : ∀ l, ls[0]? = some l → l ≠ []) : headNe ls = true := by
  match ls with
  | (x :: l) :: ls => rfl
  | [] :: _ => exact absurd rfl (h [] rfl)
  | [] => simp at h0
def collS' : List AV → Option AV
  | [.list .clip k 1 ps] => match isSOs ps with
    | some ls => if k = ls.length ∧ lensum ls * 17 ≤ 140737488355328 ∧ ls.length ≤ 140737488355328 ∧ headNe ls = true then some (.list .fresh (joinL ls).length 1 ((joinL ls).map .str)) else none
    | none => none
  | _ => none
def joiS : List AV → Option AV
  | [.agg cs] => match sysO cs with
    | some s => some (joinV s)
    | none => none
  | _ => none
def textsS : List AV → Option AV
  | [a, b] => match isSO a, isSO b with
    | some l, some m => if l.length ≤ 140737488355328 then some (.bool (textsL l m)) else none
    | _, _ => none
  | _ => none
def rjoinS : List AV → Option AV
  | [a, b] => match isSO a, isSO b with
    | some l, some m => if (l.length + m.length) * 17 ≤ 140737488355328 then some (lst (l ++ m)) else none
    | _, _ => none
  | _ => none
/-- A list of strings that comes back, told by value. -/
theorem isS_call [Fixed] {f : FuncId} {vs : List AV} {σ : List Ob} {ro : Nat} {r : AV} {l : List ByteArray} {σ' : List Ob} (hr : IsS r l) (h : CallAt Tryd.prog f vs σ ro r σ') : CallAt Tryd.prog f vs σ ro (lst l) σ' := by
  refine ⟨h.1, fun C w us hσ hs hro hrep => Calls.mono (h.2 C w us hσ hs hro hrep) ?_⟩
  rintro e w' ⟨u, C', h1, h2, h3, h4, h5, h6⟩
  refine ⟨u, C', h1, h2, h3, h4, ?_, by simp [Fresh]⟩
  have := roA_rep C' w' _ _ h5
  rcases hr with ⟨k, rfl⟩ | ⟨rfl, k, sz, cs, rfl⟩
  · simp only [roA, roAll_strs] at this
    have e : (if l.length = 0 then 1 else 1) = 1 := by split <;> rfl
    rw [e] at this
    exact this
  · simp only [roA, Rep] at this
    simp only [lst, Rep]
    obtain ⟨h0, h1, a, cap, h2, h3, h4, h5, h6, h7⟩ := this
    exact ⟨by simp, trivial, a, cap, h2, h3, h4, by simp, by simp, fun h => absurd h (by simp)⟩
def T0 : Vm.Spec := fun _ _ => none
def T1 : Vm.Spec := addS (addS T0 43 tokS) 31 tokS
def T2 : Vm.Spec := addS T1 52 growS
def T3 : Vm.Spec := addS T2 42 catS
def T4 : Vm.Spec := addS T3 22 fun vs => validS (roAll vs)
def T5 : Vm.Spec := addS T4 14 fun vs => validS (roAll vs)
def T6 : Vm.Spec := addS (addS T5 13 fun vs => smallS (roAll vs)) 30 fun vs => greatS (roAll vs)
def T7 : Vm.Spec := addS (addS T6 34 fun vs => powS (roAll vs)) 35 fun vs => lessS (roAll vs)
def T8 : Vm.Spec := addS (addS T7 36 collS') 37 fun vs => joiS (roAll vs)
def T9 : Vm.Spec := addS (addS T8 17 textsS) 38 rjoinS
section
variable [Fixed]
variable (hX : ∀ l, ExtOk Tryd.prog (X15 l))
include hX
theorem valid_call {l : List Nat} {call : Caller} {s : ByteArray} (h : szB s = true) {dr : Bool} : callv (X15 l) call dr 47 [AV.str s] [] 0 = some (AV.bool (Lib.validD (bytes s)), []) := by
  have h1 : (X15 l).pureFn 47 = some validFn := rfl
  have h2 : validFn [.str s] = some (.bool (Lib.validD (bytes s))) := by
    have := szB_le h
    simp only [validFn]
    rw [if_pos (by omega)]
  unfold callv
  rw [h1]
  cases dr <;> simp [AV.ltAll, AV.lt, AV.thawAll, AV.thaw, AV.ownsAll, AV.owns, freezeIds, h2]
theorem T1_ok : SpecOk Tryd.prog T1 := by
  refine (SpecOk.none.add ?_).add ?_
  · intro vs r h
    unfold tokS at h
    split at h
    · split at h
      · rename_i s hs
        simp only [Option.some.injEq] at h
        subst h
        obtain ⟨σ', hv⟩ := tok_spec (X15 []) (callerOf T0) (szB_le hs) (valid_call hX hs)
        exact run_at (hX []) SpecOk.none rfl Tryd.func43 rfl rfl hv
      · cases h
    · cases h
  · intro vs r h
    unfold tokS at h
    split at h
    · split at h
      · rename_i s hs
        simp only [Option.some.injEq] at h
        subst h
        exact run_at (hX []) SpecOk.none rfl Tryd.func31 rfl rfl (rtok_spec (X15 []) (callerOf T0) (szB_le hs) (valid_call hX hs))
      · cases h
    · cases h
theorem T2_ok : SpecOk Tryd.prog T2 := by
  refine (T1_ok hX).add ?_
  intro vs r h
  unfold growS at h
  split at h
  · split at h
    · rename_i n hn
      simp only [Option.some.injEq] at h
      subst h
      exact run_at (hX []) (T1_ok hX) rfl Tryd.func52 rfl rfl (grow_spec (X15 []) (callerOf T1) 1 n hn.1 hn.2)
    · cases h
  · cases h
theorem T3_ok : SpecOk Tryd.prog T3 := by
  refine (T2_ok hX).add ?_
  intro vs r h
  unfold catS at h
  split at h
  · rename_i a b
    split at h
    · rename_i l m ha hb
      split at h
      · rename_i hn
        simp only [Option.some.injEq] at h
        subst h
        have e1 := strsX_eq ha
        have e2 := strsX_eq hb
        subst e1; subst e2
        have hs : lensum [l, m] = l.length + m.length := by simp [lensum]
        have hg : T2 52 [AV.list LK.nil 0 0 [], AV.int IntKind.i64 (↑(lensum [l, m]) : Int)] = some (.list .fresh 0 1 []) := by
          unfold T2
          rw [addS_at, hs]
          show growS [.list .nil 0 0 [], .int .i64 (.ofNat (l.length + m.length))] = _
          simp only [growS]
          rw [if_pos hn]
        have hc := call_spec (X := X15 [52]) (dr := false) (σ := []) (ro := 0) rfl rfl (by simp [AV.ltAll, AV.lt]) hg rfl
        have hj : joinL [l, m] = l ++ m := by simp [joinL]
        have := cat_spec (X15 [52]) (callerOf T2) [l, m] (by rw [hs]; exact hn.2) (by simp) hc
        rw [hj] at this
        exact run_at (hX [52]) (T2_ok hX) rfl Tryd.func42 rfl (by simp only [AV.pure, AV.lt]; exact lt_strs 0 _) this
      · cases h
    · cases h
  · cases h
theorem T3_tok {dr : Bool} {σ : List Ob} {ro : Nat} {w : ByteArray} (h : szB w = true) : callv (X15 []) (callerOf T3) dr 43 [st w] σ ro = some (bo (tokB w), σ) := by
  have ht : T3 43 [.str w] = some (.bool (tokB w)) := by
    have e : T3 43 [.str w] = tokS [.str w] := rfl
    rw [e]
    simp only [tokS, h, if_true]
  have := call_spec (X := X15 []) (dr := dr) (σ := σ) (ro := ro) rfl rfl (by simp [AV.ltAll, AV.lt]) ht rfl
  rw [this]
  cases dr <;> rfl
theorem T4_rtok {dr : Bool} {σ : List Ob} {ro : Nat} {w : ByteArray} (h : szB w = true) : callv (X15 []) (callerOf T4) dr 31 [st w] σ ro = some (bo (tokB w), σ) := by
  have ht : T4 31 [.str w] = some (.bool (tokB w)) := by
    have e : T4 31 [.str w] = tokS [.str w] := rfl
    rw [e]
    simp only [tokS, h, if_true]
  have := call_spec (X := X15 []) (dr := dr) (σ := σ) (ro := ro) rfl rfl (by simp [AV.ltAll, AV.lt]) ht rfl
  rw [this]
  cases dr <;> rfl
theorem bad1_len {s : NSys} (h : bad1 s = false) : 0 < s.digits.length + s.powers.length ∧ (s.digits.length + s.powers.length) * 17 ≤ 140737488355328 := by
  simp only [bad1, Bool.or_eq_false_iff, Bool.and_eq_false_imp, bne_iff_ne, ne_eq, bne_eq_false_iff_eq] at h
  obtain ⟨h1, h2, h3⟩ := h
  have : s.base = 10 ∨ s.base = 20 := by
    by_cases e : s.base = 10
    · exact .inl e
    · exact .inr (h1 e)
  omega
theorem T4_ok : SpecOk Tryd.prog T4 := by
  refine (T3_ok hX).addRo ?_
  intro vs r h
  unfold validS at h
  split at h
  · split at h
    · rename_i cs s hs
      have e := sysO_eq hs
      subst e
      split at h
      · rename_i hk
        simp only [Option.some.injEq] at h
        subst h
        obtain ⟨k1, k2⟩ := okS_iff hk
        have hszB : ∀ {w : ByteArray}, w.size ≤ 140737488355328 → szB w = true := fun h => Nat.ble_eq_true_of_le h
        refine run_at (hX []) (T3_ok hX) rfl Tryd.func22 rfl rfl (valid_spec s (X15 []) (callerOf T3) (by simp [vWords]; exact k2) (fun w hw => T3_tok hX (hszB (k1 w ?_))) ?_)
        · rcases hw with hw | hw | hw
          · simp only [vWords, List.mem_append] at hw
            rcases hw with hw | hw
            · exact .inl hw
            · exact .inr (.inl hw)
          · exact .inr (.inr (.inl hw))
          · exact .inr (.inr (.inr hw))
        · intro hb
          have hn := bad1_len hX hb
          have ht : T3 42 [AV.list LK.clip 2 1 [strs s.digits, strs s.powers]] = some (.list .fresh (s.digits ++ s.powers).length 1 ((s.digits ++ s.powers).map .str)) := by
            have e : T3 42 [AV.list LK.clip 2 1 [strs s.digits, strs s.powers]] = catS [AV.list LK.clip 2 1 [strs s.digits, strs s.powers]] := rfl
            rw [e]
            simp only [catS, strsX_of]
            rw [if_pos hn]
          exact call_spec (X := X15 []) (dr := false) (σ := [Ob.cells (sysC s)]) (ro := 0) rfl rfl (by simp [AV.ltAll, AV.lt, strs, lt_strs]) ht (by simp only [AV.pure, AV.lt]; exact lt_strs 0 _)
      · cases h
    · cases h
  · cases h
theorem T5_ok : SpecOk Tryd.prog T5 := by
  refine (T4_ok hX).addRo ?_
  intro vs r h
  unfold validS at h
  split at h
  · split at h
    · rename_i cs s hs
      have e := sysO_eq hs
      subst e
      split at h
      · rename_i hk
        simp only [Option.some.injEq] at h
        subst h
        obtain ⟨k1, k2⟩ := okS_iff hk
        have hszB : ∀ {w : ByteArray}, w.size ≤ 140737488355328 → szB w = true := fun h => Nat.ble_eq_true_of_le h
        rw [valid_eq]
        exact run_at (hX []) (T4_ok hX) rfl Tryd.func14 rfl rfl (rval_spec s (X15 []) (callerOf T4) (s.digits.length + s.powers.length + 1) (by omega) (by omega) (by omega) (by omega) (fun w hw => T4_rtok hX (hszB (k1 w hw))))
      · cases h
    · cases h
  · cases h
theorem validS_sys {s : NSys} (h : okS s = true) : validS (roAll [AV.agg (sysC s)]) = some (.bool (validL s)) := by
  rw [roAll_sys]
  simp only [validS, sysO_sysC, h, if_true]
/-- Valid, called. -/
theorem call_valid {T : Vm.Spec} (hT : ∀ vs, T 22 vs = validS (roAll vs)) {l : List Nat} (hl : memN 22 l = false) {s : NSys} (h : okS s = true) {dr : Bool} {σ : List Ob} {ro : Nat} : callv (X15 l) (callerOf T) dr 22 [AV.agg (sysC s)] σ ro = some (bo (validL s), σ) := by
  have := call_spec (X := X15 l) (T := T) (f := 22) (dr := dr) (σ := σ) (ro := ro) rfl rfl (lt_sys s) ((hT _).trans (validS_sys hX h)) rfl
  rw [this]
  have e : (X15 l).adopt 22 = false := hl
  rw [e]
  cases dr <;> rfl
theorem T6_ok : SpecOk Tryd.prog T6 := by
  refine (SpecOk.addRo (T5_ok hX) ?_).addRo ?_
  · intro vs r h
    unfold smallS at h
    split at h
    · split at h
      · rename_i cs s hs
        have e := sysO_eq hs
        subst e
        simp only [Option.some.injEq] at h
        subst h
        exact run_at (hX []) (T5_ok hX) rfl Tryd.func13 rfl rfl (small_spec s (X15 []) (callerOf T5) 1)
      · cases h
    · cases h
  · intro vs r h
    unfold greatS at h
    split at h
    · split at h
      · rename_i cs s hs
        have e := sysO_eq hs
        subst e
        split at h
        · rename_i hk
          simp only [Option.some.injEq] at h
          subst h
          exact run_at (hX []) (T5_ok hX) rfl Tryd.func30 rfl rfl (great_spec s (X15 []) (callerOf T5) 1 (validL s) (call_valid hX (fun _ => rfl) rfl hk))
        · cases h
      · cases h
    · cases h
theorem T7_ok : SpecOk Tryd.prog T7 := by
  refine (SpecOk.addRo (T6_ok hX) ?_).addRo ?_
  · intro vs r h
    unfold powS at h
    split at h
    · split at h
      · rename_i cs n x s hs
        have e := sysO_eq hs
        subst e
        split at h
        · rename_i hk
          simp only [Option.some.injEq] at h
          subst h
          exact run_at (hX []) (T6_ok hX) rfl Tryd.func34 rfl rfl (power_spec s n (X15 []) (callerOf T6) 3 (by omega) hk)
        · cases h
      · cases h
    · cases h
  · intro vs r h
    unfold lessS at h
    split at h
    · split at h
      · rename_i cs q p r x s hs
        have e := sysO_eq hs
        subst e
        simp only [Option.some.injEq] at h
        subst h
        exact run_at (hX []) (T6_ok hX) rfl Tryd.func35 rfl rfl (less_spec s q p r (X15 []) (callerOf T6) 1)
      · cases h
    · cases h
theorem T8_ok : SpecOk Tryd.prog T8 := by
  refine (SpecOk.add (T7_ok hX) ?_).addRo ?_
  · intro vs r h
    unfold collS' at h
    split at h
    · split at h
      · rename_i k ps ls hs
        split at h
        · rename_i hk
          obtain ⟨rfl, k1, k2, k3⟩ := hk
          simp only [Option.some.injEq] at h
          subst h
          exact run_at (hX []) (T7_ok hX) rfl Tryd.func36 rfl (by simp only [AV.pure, AV.lt]; exact lt_strs 0 _) (coll_spec (X15 []) (callerOf T7) (ls.length + 1) k1 k2 (by omega) (headNe_pos k3).1 (headNe_pos k3).2 (isSOs_at hs).2)
        · cases h
      · cases h
    · cases h
  · intro vs r h
    unfold joiS at h
    split at h
    · split at h
      · rename_i cs s hs
        have e := sysO_eq hs
        subst e
        simp only [Option.some.injEq] at h
        subst h
        unfold joinV
        cases hj : empB s.jo with
        | true => exact run_at (hX []) (T7_ok hX) rfl Tryd.func37 rfl rfl (joiner_pt s (X15 []) (callerOf T7) 1 hj)
        | false => exact run_at (hX []) (T7_ok hX) rfl Tryd.func37 rfl rfl (joiner_pf s (X15 []) (callerOf T7) 1 hj)
      · cases h
    · cases h
theorem isS_shape {v : AV} {l : List ByteArray} (h : IsS v l) : ∃ k sz cs, v = .list k l.length sz cs ∧ (0 < l.length → sz = 1 ∧ cs = l.map st) := by
  rcases h with ⟨k, rfl⟩ | ⟨rfl, k, sz, cs, rfl⟩
  · exact ⟨k, 1, _, rfl, fun _ => ⟨rfl, rfl⟩⟩
  · exact ⟨k, sz, cs, rfl, fun h => by simp at h⟩
theorem T9_ok : SpecOk Tryd.prog T9 := by
  refine (SpecOk.add (T8_ok hX) ?_).add ?_
  · intro vs r h
    unfold textsS at h
    split at h
    · split at h
      · rename_i a b l m ha hb
        split at h
        · rename_i hk
          simp only [Option.some.injEq] at h
          subst h
          obtain ⟨ka, sa, ca, rfl, h1⟩ := isS_shape hX (isSO_is ha)
          obtain ⟨kb, sb, cb, rfl, h2⟩ := isS_shape hX (isSO_is hb)
          exact run_at (hX []) (T8_ok hX) rfl Tryd.func17 rfl rfl (texts_spec (X15 []) (callerOf T8) (l.length + 1) ka kb sa sb hk (by omega) h1 h2)
        · cases h
      · cases h
    · cases h
  · intro vs r h
    unfold rjoinS at h
    split at h
    · split at h
      · rename_i a b l m ha hb
        split at h
        · rename_i hk
          simp only [Option.some.injEq] at h
          subst h
          obtain ⟨r, σ', hv, hr, hp⟩ := rjoin_spec (X15 []) (callerOf T8) 1 (isSO_is ha) (isSO_is hb) hk
          have hc := run_at (hX []) (T8_ok hX) rfl Tryd.func38 rfl hp hv
          exact isS_call hr hc
        · cases h
      · cases h
    · cases h
end
end Go.Proofs.Num
end
/- Numeral: the words of a number, as the reference has them. -/
section
open Go Go.Vm Go.Proofs
namespace Go.Proofs.Num
def fg18 : Nat → List Nat
  | 4 => [23, 24, 25, 26, 27, 28, 29, 30, 31]
  | 7 => [45, 46, 47, 48, 49, 50, 51, 52, 53, 54, 55, 56, 57, 58, 59, 60, 61]
  | 10 => [85, 86, 87, 88, 89, 90]
  | _ => []

def rwS0 (s : NSys) (n : Int) (P : Nat → Int) (i0 : Nat) : St :=
  stOf 123 [23, 24, 25, 26, 27, 28, 29, 30, 31, 32, 33, 34, 35, 36, 37, 38] [(0, AV.agg (sysC s)), (1, i6 n), (2, AV.ref 0 0), (4, AV.list LK.nil 0 0 []), (5, i6 (P i0)), (6, i6 (↑i0 : Int)), (11, i6 n), (12, AV.ref 0 0), (13, i6 (NSys.base s)), (14, bo false), (21, AV.ref 0 0), (22, i6 (NSys.base s))] [Ob.cells (sysC s)]
def rwS1 (s : NSys) (n : Int) (P : Nat → Int) (i0 : Nat) : St :=
  stOf 123 [23, 24, 25, 26, 27, 28, 29, 30, 31, 33, 34, 35, 36, 37, 38] [(0, AV.agg (sysC s)), (1, i6 n), (2, AV.ref 0 0), (4, AV.list LK.nil 0 0 []), (5, i6 (P i0)), (6, i6 (↑i0 : Int)), (11, i6 n), (12, AV.ref 0 0), (13, i6 (NSys.base s)), (14, bo false), (21, AV.ref 0 0), (22, i6 (NSys.base s)), (32, bo true)] [Ob.cells (sysC s)]
def rwS2 (s : NSys) (n : Int) (P : Nat → Int) (i0 : Nat) : St :=
  stOf 123 [23, 24, 25, 26, 27, 28, 29, 30, 31, 33, 34, 35, 36, 37, 38] [(0, AV.agg (sysC s)), (1, i6 n), (2, AV.ref 0 0), (4, AV.list LK.nil 0 0 []), (5, i6 (P i0)), (6, i6 (↑i0 : Int)), (11, i6 n), (12, AV.ref 0 0), (13, i6 (NSys.base s)), (14, bo false), (21, AV.ref 0 0), (22, i6 (NSys.base s)), (32, bo false)] [Ob.cells (sysC s)]
def rwS3 (s : NSys) (n : Int) (P : Nat → Int) (b4 : Bool) (i0 : Nat) : St :=
  stOf 123 [23, 24, 25, 26, 27, 28, 29, 30, 31, 33, 34, 35, 36, 37, 38] [(0, AV.agg (sysC s)), (1, i6 n), (2, AV.ref 0 0), (4, AV.list LK.nil 0 0 []), (5, i6 (P i0)), (6, i6 (↑i0 : Int)), (11, i6 n), (12, AV.ref 0 0), (13, i6 (NSys.base s)), (14, bo false), (21, AV.ref 0 0), (22, i6 (NSys.base s)), (32, bo b4)] [Ob.cells (sysC s)]
def rwS4 (s : NSys) (n : Int) (P : Nat → Int) (b4 : Bool) (i0 : Nat) : St :=
  stOf 123 [23, 24, 25, 26, 27, 28, 29, 30, 31] [(0, AV.agg (sysC s)), (1, i6 n), (2, AV.ref 0 0), (4, AV.list LK.nil 0 0 []), (5, i6 (w6 (P i0 * NSys.base s))), (6, i6 (w6 ((↑i0 : Int) + 1))), (11, i6 n), (12, AV.ref 0 0), (13, i6 (NSys.base s)), (14, bo false), (21, AV.ref 0 0), (22, i6 (NSys.base s)), (32, bo b4), (33, i6 (P i0)), (34, AV.ref 0 0), (35, i6 (NSys.base s)), (36, i6 (w6 (P i0 * NSys.base s))), (37, i6 (↑i0 : Int)), (38, i6 (w6 ((↑i0 : Int) + 1)))] [Ob.cells (sysC s)]
def rwS5 (s : NSys) (n : Int) (q : Int) (r : Int) (P : Nat → Int) (b4 : Bool) (i0 : Nat) : St :=
  stOf 123 [23, 24, 25, 26, 27, 28, 29, 30, 31, 33, 34, 35, 36, 37, 38] [(0, AV.agg (sysC s)), (1, i6 n), (2, AV.ref 0 0), (4, AV.list LK.nil 0 0 []), (5, i6 (P i0)), (6, i6 (↑i0 : Int)), (7, i6 q), (8, i6 r), (11, i6 n), (12, AV.ref 0 0), (13, i6 (NSys.base s)), (14, bo false), (21, AV.ref 0 0), (22, i6 (NSys.base s)), (32, bo b4), (39, i6 n), (40, i6 (P i0)), (41, i6 q), (42, i6 n), (43, i6 (P i0)), (44, i6 r)] [Ob.cells (sysC s)]
def rwS6 (s : NSys) (n : Int) (q : Int) (r : Int) (P : Nat → Int) (b4 : Bool) (i0 : Nat) : St :=
  stOf 123 [23, 24, 25, 26, 27, 28, 29, 30, 31, 33, 34, 35, 36, 37, 38, 45, 46, 47, 48, 49, 50, 51, 52, 53, 54, 55, 56, 57, 58, 59, 60, 61] [(0, AV.agg (sysC s)), (1, i6 n), (2, AV.ref 0 0), (4, AV.list LK.nil 0 0 []), (5, i6 (P i0)), (6, i6 (↑i0 : Int)), (7, i6 q), (8, i6 r), (11, i6 n), (12, AV.ref 0 0), (13, i6 (NSys.base s)), (14, bo false), (21, AV.ref 0 0), (22, i6 (NSys.base s)), (32, bo b4), (39, i6 n), (40, i6 (P i0)), (41, i6 q), (42, i6 n), (43, i6 (P i0)), (44, i6 r), (62, bo true)] [Ob.cells (sysC s)]
def rwS7 (s : NSys) (n : Int) (q : Int) (r : Int) (P : Nat → Int) (b4 : Bool) (i0 : Nat) : St :=
  stOf 123 [23, 24, 25, 26, 27, 28, 29, 30, 31, 33, 34, 35, 36, 37, 38, 45, 46, 47, 48, 49, 50, 51, 52, 53, 54, 55, 56, 57, 58, 59, 60, 61] [(0, AV.agg (sysC s)), (1, i6 n), (2, AV.ref 0 0), (4, AV.list LK.nil 0 0 []), (5, i6 (P i0)), (6, i6 (↑i0 : Int)), (7, i6 q), (8, i6 r), (11, i6 n), (12, AV.ref 0 0), (13, i6 (NSys.base s)), (14, bo false), (21, AV.ref 0 0), (22, i6 (NSys.base s)), (32, bo b4), (39, i6 n), (40, i6 (P i0)), (41, i6 q), (42, i6 n), (43, i6 (P i0)), (44, i6 r), (62, bo false)] [Ob.cells (sysC s)]
def rwS8 (s : NSys) (n : Int) : St :=
  stOf 123 [] [(0, AV.agg (sysC s)), (1, i6 n), (2, AV.ref 0 0), (4, AV.list LK.nil 0 0 []), (5, i6 (NSys.base s)), (6, i6 0), (11, i6 n), (12, AV.ref 0 0), (13, i6 (NSys.base s)), (14, bo false), (21, AV.ref 0 0), (22, i6 (NSys.base s))] [Ob.cells (sysC s)]
def rwS9 (s : NSys) (n : Int) (q : Int) (r : Int) (P : Nat → Int) (b4 : Bool) (b7 : Bool) (i0 : Nat) : St :=
  stOf 123 [23, 24, 25, 26, 27, 28, 29, 30, 31, 33, 34, 35, 36, 37, 38, 45, 46, 47, 48, 49, 50, 51, 52, 53, 54, 55, 56, 57, 58, 59, 60, 61] [(0, AV.agg (sysC s)), (1, i6 n), (2, AV.ref 0 0), (4, AV.list LK.nil 0 0 []), (5, i6 (P i0)), (6, i6 (↑i0 : Int)), (7, i6 q), (8, i6 r), (11, i6 n), (12, AV.ref 0 0), (13, i6 (NSys.base s)), (14, bo false), (21, AV.ref 0 0), (22, i6 (NSys.base s)), (32, bo b4), (39, i6 n), (40, i6 (P i0)), (41, i6 q), (42, i6 n), (43, i6 (P i0)), (44, i6 r), (62, bo b7)] [Ob.cells (sysC s)]
def rwS10 (s : NSys) (n : Int) (q : Int) (r : Int) (P : Nat → Int) (rest2 : List AV) (w2 : ByteArray) (b4 : Bool) (b7 : Bool) (i0 : Nat) : St :=
  stOf 123 [23, 24, 25, 26, 27, 28, 29, 30, 31, 33, 34, 35, 36, 37, 38, 45, 46, 47, 48, 49, 50, 51, 52, 53, 54, 55, 56, 57, 58, 59, 60, 61] [(0, AV.agg (sysC s)), (1, i6 n), (2, AV.ref 0 0), (4, AV.list LK.nil 0 0 []), (5, i6 (P i0)), (6, i6 (↑i0 : Int)), (7, i6 q), (8, i6 r), (9, AV.list LK.clip 1 1 [st w2]), (11, i6 n), (12, AV.ref 0 0), (13, i6 (NSys.base s)), (14, bo false), (21, AV.ref 0 0), (22, i6 (NSys.base s)), (32, bo b4), (39, i6 n), (40, i6 (P i0)), (41, i6 q), (42, i6 n), (43, i6 (P i0)), (44, i6 r), (62, bo b7), (79, AV.ref 0 2), (80, lro (List.length (NSys.powers s)) 1 (List.map st (NSys.powers s))), (81, i6 (↑i0 : Int)), (82, AV.eaddr rest2), (83, st w2), (84, AV.list LK.clip 1 1 [st w2])] [Ob.cells (sysC s)]
def rwS11 (s : NSys) (n : Int) (q : Int) (r : Int) (P : Nat → Int) (rest2 : List AV) (w2 : ByteArray) (b4 : Bool) (b7 : Bool) (i0 : Nat) : St :=
  stOf 123 [23, 24, 25, 26, 27, 28, 29, 30, 31, 33, 34, 35, 36, 37, 38, 45, 46, 47, 48, 49, 50, 51, 52, 53, 54, 55, 56, 57, 58, 59, 60, 61, 85, 86, 87, 88, 89, 90] [(0, AV.agg (sysC s)), (1, i6 n), (2, AV.ref 0 0), (4, AV.list LK.nil 0 0 []), (5, i6 (P i0)), (6, i6 (↑i0 : Int)), (7, i6 q), (8, i6 r), (9, AV.list LK.clip 1 1 [st w2]), (11, i6 n), (12, AV.ref 0 0), (13, i6 (NSys.base s)), (14, bo false), (21, AV.ref 0 0), (22, i6 (NSys.base s)), (32, bo b4), (39, i6 n), (40, i6 (P i0)), (41, i6 q), (42, i6 n), (43, i6 (P i0)), (44, i6 r), (62, bo b7), (79, AV.ref 0 2), (80, lro (List.length (NSys.powers s)) 1 (List.map st (NSys.powers s))), (81, i6 (↑i0 : Int)), (82, AV.eaddr rest2), (83, st w2), (84, AV.list LK.clip 1 1 [st w2]), (91, bo true)] [Ob.cells (sysC s)]
def rwS12 (s : NSys) (n : Int) (q : Int) (r : Int) (P : Nat → Int) (rest2 : List AV) (w2 : ByteArray) (b4 : Bool) (b7 : Bool) (i0 : Nat) : St :=
  stOf 123 [23, 24, 25, 26, 27, 28, 29, 30, 31, 33, 34, 35, 36, 37, 38, 45, 46, 47, 48, 49, 50, 51, 52, 53, 54, 55, 56, 57, 58, 59, 60, 61, 85, 86, 87, 88, 89, 90] [(0, AV.agg (sysC s)), (1, i6 n), (2, AV.ref 0 0), (4, AV.list LK.nil 0 0 []), (5, i6 (P i0)), (6, i6 (↑i0 : Int)), (7, i6 q), (8, i6 r), (9, AV.list LK.clip 1 1 [st w2]), (11, i6 n), (12, AV.ref 0 0), (13, i6 (NSys.base s)), (14, bo false), (21, AV.ref 0 0), (22, i6 (NSys.base s)), (32, bo b4), (39, i6 n), (40, i6 (P i0)), (41, i6 q), (42, i6 n), (43, i6 (P i0)), (44, i6 r), (62, bo b7), (79, AV.ref 0 2), (80, lro (List.length (NSys.powers s)) 1 (List.map st (NSys.powers s))), (81, i6 (↑i0 : Int)), (82, AV.eaddr rest2), (83, st w2), (84, AV.list LK.clip 1 1 [st w2]), (91, bo false)] [Ob.cells (sysC s)]
def rwS13 (s : NSys) (n : Int) (q : Int) (r : Int) (P : Nat → Int) (rest2 : List AV) (w2 : ByteArray) (b4 : Bool) (b7 : Bool) (b10 : Bool) (i0 : Nat) : St :=
  stOf 123 [23, 24, 25, 26, 27, 28, 29, 30, 31, 33, 34, 35, 36, 37, 38, 45, 46, 47, 48, 49, 50, 51, 52, 53, 54, 55, 56, 57, 58, 59, 60, 61, 85, 86, 87, 88, 89, 90] [(0, AV.agg (sysC s)), (1, i6 n), (2, AV.ref 0 0), (4, AV.list LK.nil 0 0 []), (5, i6 (P i0)), (6, i6 (↑i0 : Int)), (7, i6 q), (8, i6 r), (9, AV.list LK.clip 1 1 [st w2]), (11, i6 n), (12, AV.ref 0 0), (13, i6 (NSys.base s)), (14, bo false), (21, AV.ref 0 0), (22, i6 (NSys.base s)), (32, bo b4), (39, i6 n), (40, i6 (P i0)), (41, i6 q), (42, i6 n), (43, i6 (P i0)), (44, i6 r), (62, bo b7), (79, AV.ref 0 2), (80, lro (List.length (NSys.powers s)) 1 (List.map st (NSys.powers s))), (81, i6 (↑i0 : Int)), (82, AV.eaddr rest2), (83, st w2), (84, AV.list LK.clip 1 1 [st w2]), (91, bo b10)] [Ob.cells (sysC s)]
theorem rw_pt (s : NSys) (n : Int) (rest : List AV) (w : ByteArray) (X : Ext) (call : Caller) (lf : Nat)
  (h0 : decide (n < NSys.base s) = true)
  (h1 : keep [Ob.cells (sysC s)] (indexAddrv Tryd.prog 22 [Ob.cells (sysC s)] (lro (List.length (NSys.digits s)) 1 (List.map st (NSys.digits s))) (i6 n)) = some (AV.eaddr rest, [Ob.cells (sysC s)]))
  (h2 : keep [Ob.cells (sysC s)] (loadv Tryd.prog 9 [Ob.cells (sysC s)] (AV.eaddr rest)) = some (st w, [Ob.cells (sysC s)])) : vbody Tryd.prog X call lf fg18 Tryd.f18 (codeOf Tryd.f18) [AV.agg (sysC s), i6 n] [] 0 = some (AV.list LK.clip 1 1 [st w], [Ob.cells (sysC s)]) :=
  along_sound (ans := [(7, Ans.b true), (13, Ans.v (AV.eaddr rest)), (14, Ans.v (st w))]) (by kernel_rfl) (And.intro h0 (And.intro h1 (And.intro h2 trivial)))
theorem rw_g4_tt (s : NSys) (n : Int) (P : Nat → Int) (X : Ext) (call : Caller) (lf : Nat) (i0 : Nat)
  (h0 : decide ((↑i0 : Int) < 2) = true)
  (h1 : decide (n ≥ w6 (P i0 * NSys.base s)) = true) : vexec Tryd.prog X call lf 0 fg18 (regN Tryd.f18 4) (rwS0 s n P i0) = some (Ex.normal, (rwS1 s n P i0)) :=
  around_sound (ans := [(2, Ans.b true), (15, Ans.b true)]) (by kernel_rfl) (And.intro h0 (And.intro h1 trivial))
theorem rw_g4_tf (s : NSys) (n : Int) (P : Nat → Int) (X : Ext) (call : Caller) (lf : Nat) (i0 : Nat)
  (h0 : decide ((↑i0 : Int) < 2) = true)
  (h1 : decide (n ≥ w6 (P i0 * NSys.base s)) = false) : vexec Tryd.prog X call lf 0 fg18 (regN Tryd.f18 4) (rwS0 s n P i0) = some (Ex.normal, (rwS2 s n P i0)) :=
  around_sound (ans := [(2, Ans.b true), (15, Ans.b false)]) (by kernel_rfl) (And.intro h0 (And.intro h1 trivial))
theorem rw_g4_f (s : NSys) (n : Int) (P : Nat → Int) (X : Ext) (call : Caller) (lf : Nat) (i0 : Nat)
  (h0 : decide ((↑i0 : Int) < 2) = false) : vexec Tryd.prog X call lf 0 fg18 (regN Tryd.f18 4) (rwS0 s n P i0) = some (Ex.normal, (rwS2 s n P i0)) :=
  around_sound (ans := [(2, Ans.b false)]) (by kernel_rfl) (And.intro h0 trivial)
theorem rw_r0_t (s : NSys) (n : Int) (P : Nat → Int) (b4 : Bool) (X : Ext) (call : Caller) (lf : Nat) (i0 : Nat)
  (h0 : vexec Tryd.prog X call lf 0 fg18 (regN Tryd.f18 4) (rwS0 s n P i0) = some (Ex.normal, (rwS3 s n P b4 i0)))
  (h1 : b4 = true) : vexec Tryd.prog X call lf 0 fg18 (loopN Tryd.f18 0) (rwS0 s n P i0) = some (Ex.normal, (rwS4 s n P b4 i0)) :=
  around_sound (ans := [(0, Ans.l Ex.normal (rwS3 s n P b4 i0)), (1, Ans.b true)]) (by kernel_rfl) (And.intro h0 (And.intro h1 trivial))
theorem rw_r0_f (s : NSys) (n : Int) (P : Nat → Int) (b4 : Bool) (X : Ext) (call : Caller) (lf : Nat) (i0 : Nat)
  (h0 : vexec Tryd.prog X call lf 0 fg18 (regN Tryd.f18 4) (rwS0 s n P i0) = some (Ex.normal, (rwS3 s n P b4 i0)))
  (h1 : b4 = false) : vexec Tryd.prog X call lf 0 fg18 (loopN Tryd.f18 0) (rwS0 s n P i0) = some (Ex.exit 0, (rwS3 s n P b4 i0)) :=
  around_sound (ans := [(0, Ans.l Ex.normal (rwS3 s n P b4 i0)), (1, Ans.b false)]) (by kernel_rfl) (And.intro h0 (And.intro h1 trivial))
theorem rw_g7_ttt (s : NSys) (n : Int) (q : Int) (r : Int) (P : Nat → Int) (b4 : Bool) (X : Ext) (call : Caller) (lf : Nat) (i0 : Nat)
  (h0 : decide (NSys.sub s > 0) = true)
  (h1 : decide (r ≥ w6 (P i0 - NSys.sub s)) = true)
  (h2 : decide (w6 (q + 1) < NSys.base s) = true) : vexec Tryd.prog X call lf 0 fg18 (regN Tryd.f18 7) (rwS5 s n q r P b4 i0) = some (Ex.normal, (rwS6 s n q r P b4 i0)) :=
  around_sound (ans := [(3, Ans.b true), (16, Ans.b true), (28, Ans.b true)]) (by kernel_rfl) (And.intro h0 (And.intro h1 (And.intro h2 trivial)))
theorem rw_g7_ttf (s : NSys) (n : Int) (q : Int) (r : Int) (P : Nat → Int) (b4 : Bool) (X : Ext) (call : Caller) (lf : Nat) (i0 : Nat)
  (h0 : decide (NSys.sub s > 0) = true)
  (h1 : decide (r ≥ w6 (P i0 - NSys.sub s)) = true)
  (h2 : decide (w6 (q + 1) < NSys.base s) = false) : vexec Tryd.prog X call lf 0 fg18 (regN Tryd.f18 7) (rwS5 s n q r P b4 i0) = some (Ex.normal, (rwS7 s n q r P b4 i0)) :=
  around_sound (ans := [(3, Ans.b true), (16, Ans.b true), (28, Ans.b false)]) (by kernel_rfl) (And.intro h0 (And.intro h1 (And.intro h2 trivial)))
theorem rw_g7_tf (s : NSys) (n : Int) (q : Int) (r : Int) (P : Nat → Int) (b4 : Bool) (X : Ext) (call : Caller) (lf : Nat) (i0 : Nat)
  (h0 : decide (NSys.sub s > 0) = true)
  (h1 : decide (r ≥ w6 (P i0 - NSys.sub s)) = false) : vexec Tryd.prog X call lf 0 fg18 (regN Tryd.f18 7) (rwS5 s n q r P b4 i0) = some (Ex.normal, (rwS7 s n q r P b4 i0)) :=
  around_sound (ans := [(3, Ans.b true), (16, Ans.b false)]) (by kernel_rfl) (And.intro h0 (And.intro h1 trivial))
theorem rw_g7_f (s : NSys) (n : Int) (q : Int) (r : Int) (P : Nat → Int) (b4 : Bool) (X : Ext) (call : Caller) (lf : Nat) (i0 : Nat)
  (h0 : decide (NSys.sub s > 0) = false) : vexec Tryd.prog X call lf 0 fg18 (regN Tryd.f18 7) (rwS5 s n q r P b4 i0) = some (Ex.normal, (rwS7 s n q r P b4 i0)) :=
  around_sound (ans := [(3, Ans.b false)]) (by kernel_rfl) (And.intro h0 trivial)
theorem rw_pflft (s : NSys) (n : Int) (q : Int) (r : Int) (P : Nat → Int) (a : AV) (b : AV) (ab : AV) (c : AV) (b4 : Bool) (b7 : Bool) (X : Ext) (call : Caller) (lf : Nat) (i0 : Nat)
  (h0 : decide (n < NSys.base s) = false)
  (h1 : vexec Tryd.prog X call lf 0 fg18 (Code.loop (loopN Tryd.f18 0)) (rwS8 s n) = some (Ex.exit 0, (rwS3 s n P b4 i0)))
  (h2 : keep [Ob.cells (sysC s)] (binv Tryd.prog BinOp.quo 3 (i6 n) (i6 (P i0))) = some (i6 q, [Ob.cells (sysC s)]))
  (h3 : keep [Ob.cells (sysC s)] (binv Tryd.prog BinOp.rem 3 (i6 n) (i6 (P i0))) = some (i6 r, [Ob.cells (sysC s)]))
  (h4 : vexec Tryd.prog X call lf 0 fg18 (regN Tryd.f18 7) (rwS5 s n q r P b4 i0) = some (Ex.normal, (rwS9 s n q r P b4 b7 i0)))
  (h5 : b7 = true)
  (h6 : callv X call true 18 [AV.agg (sysC s), i6 (w6 (P i0 - r))] [Ob.cells (sysC s)] 0 = some (a, [Ob.cells (sysC s)]))
  (h7 : callv X call true 38 [a, AV.list LK.clip 1 1 [st (NSys.le s)]] [Ob.cells (sysC s)] 0 = some (ab, [Ob.cells (sysC s)]))
  (h8 : callv X call true 18 [AV.agg (sysC s), i6 (w6 (w6 (q + 1) * P i0))] [Ob.cells (sysC s)] 0 = some (b, [Ob.cells (sysC s)]))
  (h9 : callv X call true 38 [ab, b] [Ob.cells (sysC s)] 0 = some (c, [Ob.cells (sysC s)]))
  (h10 : vend1 [] 0 [Ob.cells (sysC s)] [c] = some (unfr (oneOf [c]), [Ob.cells (sysC s)])) : vbody Tryd.prog X call lf fg18 Tryd.f18 (codeOf Tryd.f18) [AV.agg (sysC s), i6 n] [] 0 = some (unfr (oneOf [c]), [Ob.cells (sysC s)]) :=
  along_sound (ans := [(7, Ans.b false), (14, Ans.l (Ex.exit 0) (rwS3 s n P b4 i0)), (18, Ans.v (i6 q)), (21, Ans.v (i6 r)), (24, Ans.l Ex.normal (rwS9 s n q r P b4 b7 i0)), (25, Ans.b true), (31, Ans.v a), (35, Ans.v ab), (41, Ans.v b), (42, Ans.v c), (44, Ans.c (unfr (oneOf [c])) [Ob.cells (sysC s)])]) (by kernel_rfl) (And.intro h0 (And.intro h1 (And.intro h2 (And.intro h3 (And.intro h4 (And.intro h5 (And.intro h6 (And.intro h7 (And.intro h8 (And.intro h9 (And.intro h10 trivial)))))))))))
theorem rw_g10_t (s : NSys) (n : Int) (q : Int) (r : Int) (P : Nat → Int) (rest2 : List AV) (w2 : ByteArray) (b4 : Bool) (b7 : Bool) (X : Ext) (call : Caller) (lf : Nat) (i0 : Nat)
  (h0 : (q != 1) = true) : vexec Tryd.prog X call lf 0 fg18 (regN Tryd.f18 10) (rwS10 s n q r P rest2 w2 b4 b7 i0) = some (Ex.normal, (rwS11 s n q r P rest2 w2 b4 b7 i0)) :=
  around_sound (ans := [(2, Ans.b true)]) (by kernel_rfl) (And.intro h0 trivial)
theorem rw_g10_ft (s : NSys) (n : Int) (q : Int) (r : Int) (P : Nat → Int) (rest2 : List AV) (w2 : ByteArray) (b4 : Bool) (b7 : Bool) (X : Ext) (call : Caller) (lf : Nat) (i0 : Nat)
  (h0 : (q != 1) = false)
  (h1 : NSys.om s = true) : vexec Tryd.prog X call lf 0 fg18 (regN Tryd.f18 10) (rwS10 s n q r P rest2 w2 b4 b7 i0) = some (Ex.normal, (rwS12 s n q r P rest2 w2 b4 b7 i0)) :=
  around_sound (ans := [(2, Ans.b false), (7, Ans.b true)]) (by kernel_rfl) (And.intro h0 (And.intro h1 trivial))
theorem rw_g10_ff (s : NSys) (n : Int) (q : Int) (r : Int) (P : Nat → Int) (rest2 : List AV) (w2 : ByteArray) (b4 : Bool) (b7 : Bool) (X : Ext) (call : Caller) (lf : Nat) (i0 : Nat)
  (h0 : (q != 1) = false)
  (h1 : NSys.om s = false) : vexec Tryd.prog X call lf 0 fg18 (regN Tryd.f18 10) (rwS10 s n q r P rest2 w2 b4 b7 i0) = some (Ex.normal, (rwS11 s n q r P rest2 w2 b4 b7 i0)) :=
  around_sound (ans := [(2, Ans.b false), (7, Ans.b false)]) (by kernel_rfl) (And.intro h0 (And.intro h1 trivial))
theorem rw_pflfftt (s : NSys) (n : Int) (q : Int) (r : Int) (P : Nat → Int) (rest2 : List AV) (a : AV) (ab : AV) (w2 : ByteArray) (b4 : Bool) (b7 : Bool) (b10 : Bool) (X : Ext) (call : Caller) (lf : Nat) (i0 : Nat)
  (h0 : decide (n < NSys.base s) = false)
  (h1 : vexec Tryd.prog X call lf 0 fg18 (Code.loop (loopN Tryd.f18 0)) (rwS8 s n) = some (Ex.exit 0, (rwS3 s n P b4 i0)))
  (h2 : keep [Ob.cells (sysC s)] (binv Tryd.prog BinOp.quo 3 (i6 n) (i6 (P i0))) = some (i6 q, [Ob.cells (sysC s)]))
  (h3 : keep [Ob.cells (sysC s)] (binv Tryd.prog BinOp.rem 3 (i6 n) (i6 (P i0))) = some (i6 r, [Ob.cells (sysC s)]))
  (h4 : vexec Tryd.prog X call lf 0 fg18 (regN Tryd.f18 7) (rwS5 s n q r P b4 i0) = some (Ex.normal, (rwS9 s n q r P b4 b7 i0)))
  (h5 : b7 = false)
  (h6 : keep [Ob.cells (sysC s)] (indexAddrv Tryd.prog 22 [Ob.cells (sysC s)] (lro (List.length (NSys.powers s)) 1 (List.map st (NSys.powers s))) (i6 (↑i0 : Int))) = some (AV.eaddr rest2, [Ob.cells (sysC s)]))
  (h7 : keep [Ob.cells (sysC s)] (loadv Tryd.prog 9 [Ob.cells (sysC s)] (AV.eaddr rest2)) = some (st w2, [Ob.cells (sysC s)]))
  (h8 : vexec Tryd.prog X call lf 0 fg18 (regN Tryd.f18 10) (rwS10 s n q r P rest2 w2 b4 b7 i0) = some (Ex.normal, (rwS13 s n q r P rest2 w2 b4 b7 b10 i0)))
  (h9 : b10 = true)
  (h10 : callv X call false 18 [AV.agg (sysC s), i6 q] [Ob.cells (sysC s)] 0 = some (a, [Ob.cells (sysC s)]))
  (h11 : callv X call false 38 [a, AV.list LK.clip 1 1 [st w2]] [Ob.cells (sysC s)] 0 = some (ab, [Ob.cells (sysC s)]))
  (h12 : (r == 0) = true)
  (h13 : vend1 [] 0 [Ob.cells (sysC s)] [ab] = some (unfr (oneOf [ab]), [Ob.cells (sysC s)])) : vbody Tryd.prog X call lf fg18 Tryd.f18 (codeOf Tryd.f18) [AV.agg (sysC s), i6 n] [] 0 = some (unfr (oneOf [ab]), [Ob.cells (sysC s)]) :=
  along_sound (ans := [(7, Ans.b false), (14, Ans.l (Ex.exit 0) (rwS3 s n P b4 i0)), (18, Ans.v (i6 q)), (21, Ans.v (i6 r)), (24, Ans.l Ex.normal (rwS9 s n q r P b4 b7 i0)), (25, Ans.b false), (30, Ans.v (AV.eaddr rest2)), (31, Ans.v (st w2)), (34, Ans.l Ex.normal (rwS13 s n q r P rest2 w2 b4 b7 b10 i0)), (35, Ans.b true), (39, Ans.v a), (41, Ans.v ab), (45, Ans.b true), (50, Ans.c (unfr (oneOf [ab])) [Ob.cells (sysC s)])]) (by kernel_rfl) (And.intro h0 (And.intro h1 (And.intro h2 (And.intro h3 (And.intro h4 (And.intro h5 (And.intro h6 (And.intro h7 (And.intro h8 (And.intro h9 (And.intro h10 (And.intro h11 (And.intro h12 (And.intro h13 trivial))))))))))))))
theorem rw_pflfftftt (s : NSys) (n : Int) (q : Int) (r : Int) (P : Nat → Int) (rest2 : List AV) (a : AV) (b : AV) (ab : AV) (ac : AV) (ac2 : AV) (w2 : ByteArray) (b4 : Bool) (b7 : Bool) (b10 : Bool) (X : Ext) (call : Caller) (lf : Nat) (i0 : Nat)
  (h0 : decide (n < NSys.base s) = false)
  (h1 : vexec Tryd.prog X call lf 0 fg18 (Code.loop (loopN Tryd.f18 0)) (rwS8 s n) = some (Ex.exit 0, (rwS3 s n P b4 i0)))
  (h2 : keep [Ob.cells (sysC s)] (binv Tryd.prog BinOp.quo 3 (i6 n) (i6 (P i0))) = some (i6 q, [Ob.cells (sysC s)]))
  (h3 : keep [Ob.cells (sysC s)] (binv Tryd.prog BinOp.rem 3 (i6 n) (i6 (P i0))) = some (i6 r, [Ob.cells (sysC s)]))
  (h4 : vexec Tryd.prog X call lf 0 fg18 (regN Tryd.f18 7) (rwS5 s n q r P b4 i0) = some (Ex.normal, (rwS9 s n q r P b4 b7 i0)))
  (h5 : b7 = false)
  (h6 : keep [Ob.cells (sysC s)] (indexAddrv Tryd.prog 22 [Ob.cells (sysC s)] (lro (List.length (NSys.powers s)) 1 (List.map st (NSys.powers s))) (i6 (↑i0 : Int))) = some (AV.eaddr rest2, [Ob.cells (sysC s)]))
  (h7 : keep [Ob.cells (sysC s)] (loadv Tryd.prog 9 [Ob.cells (sysC s)] (AV.eaddr rest2)) = some (st w2, [Ob.cells (sysC s)]))
  (h8 : vexec Tryd.prog X call lf 0 fg18 (regN Tryd.f18 10) (rwS10 s n q r P rest2 w2 b4 b7 i0) = some (Ex.normal, (rwS13 s n q r P rest2 w2 b4 b7 b10 i0)))
  (h9 : b10 = true)
  (h10 : callv X call false 18 [AV.agg (sysC s), i6 q] [Ob.cells (sysC s)] 0 = some (a, [Ob.cells (sysC s)]))
  (h11 : callv X call false 38 [a, AV.list LK.clip 1 1 [st w2]] [Ob.cells (sysC s)] 0 = some (ab, [Ob.cells (sysC s)]))
  (h12 : (r == 0) = false)
  (h13 : (!empB (NSys.jo s)) = true)
  (h14 : NSys.sf s = true)
  (h15 : callv X call false 18 [AV.agg (sysC s), i6 r] [Ob.cells (sysC s)] 0 = some (b, [Ob.cells (sysC s)]))
  (h16 : callv X call false 38 [b, AV.list LK.clip 1 1 [st (NSys.jo s)]] [Ob.cells (sysC s)] 0 = some (ac, [Ob.cells (sysC s)]))
  (h17 : callv X call false 38 [ac, ab] [Ob.cells (sysC s)] 0 = some (ac2, [Ob.cells (sysC s)]))
  (h18 : vend1 [] 0 [Ob.cells (sysC s)] [ac2] = some (unfr (oneOf [ac2]), [Ob.cells (sysC s)])) : vbody Tryd.prog X call lf fg18 Tryd.f18 (codeOf Tryd.f18) [AV.agg (sysC s), i6 n] [] 0 = some (unfr (oneOf [ac2]), [Ob.cells (sysC s)]) :=
  along_sound (ans := [(7, Ans.b false), (14, Ans.l (Ex.exit 0) (rwS3 s n P b4 i0)), (18, Ans.v (i6 q)), (21, Ans.v (i6 r)), (24, Ans.l Ex.normal (rwS9 s n q r P b4 b7 i0)), (25, Ans.b false), (30, Ans.v (AV.eaddr rest2)), (31, Ans.v (st w2)), (34, Ans.l Ex.normal (rwS13 s n q r P rest2 w2 b4 b7 b10 i0)), (35, Ans.b true), (39, Ans.v a), (41, Ans.v ab), (45, Ans.b false), (53, Ans.b true), (62, Ans.b true), (67, Ans.v b), (69, Ans.v ac), (71, Ans.v ac2), (73, Ans.c (unfr (oneOf [ac2])) [Ob.cells (sysC s)])]) (by kernel_rfl) (And.intro h0 (And.intro h1 (And.intro h2 (And.intro h3 (And.intro h4 (And.intro h5 (And.intro h6 (And.intro h7 (And.intro h8 (And.intro h9 (And.intro h10 (And.intro h11 (And.intro h12 (And.intro h13 (And.intro h14 (And.intro h15 (And.intro h16 (And.intro h17 (And.intro h18 trivial)))))))))))))))))))
theorem rw_pflfftftf (s : NSys) (n : Int) (q : Int) (r : Int) (P : Nat → Int) (rest2 : List AV) (a : AV) (ab : AV) (d1 : AV) (d2 : AV) (d3 : AV) (w2 : ByteArray) (b4 : Bool) (b7 : Bool) (b10 : Bool) (X : Ext) (call : Caller) (lf : Nat) (i0 : Nat)
  (h0 : decide (n < NSys.base s) = false)
  (h1 : vexec Tryd.prog X call lf 0 fg18 (Code.loop (loopN Tryd.f18 0)) (rwS8 s n) = some (Ex.exit 0, (rwS3 s n P b4 i0)))
  (h2 : keep [Ob.cells (sysC s)] (binv Tryd.prog BinOp.quo 3 (i6 n) (i6 (P i0))) = some (i6 q, [Ob.cells (sysC s)]))
  (h3 : keep [Ob.cells (sysC s)] (binv Tryd.prog BinOp.rem 3 (i6 n) (i6 (P i0))) = some (i6 r, [Ob.cells (sysC s)]))
  (h4 : vexec Tryd.prog X call lf 0 fg18 (regN Tryd.f18 7) (rwS5 s n q r P b4 i0) = some (Ex.normal, (rwS9 s n q r P b4 b7 i0)))
  (h5 : b7 = false)
  (h6 : keep [Ob.cells (sysC s)] (indexAddrv Tryd.prog 22 [Ob.cells (sysC s)] (lro (List.length (NSys.powers s)) 1 (List.map st (NSys.powers s))) (i6 (↑i0 : Int))) = some (AV.eaddr rest2, [Ob.cells (sysC s)]))
  (h7 : keep [Ob.cells (sysC s)] (loadv Tryd.prog 9 [Ob.cells (sysC s)] (AV.eaddr rest2)) = some (st w2, [Ob.cells (sysC s)]))
  (h8 : vexec Tryd.prog X call lf 0 fg18 (regN Tryd.f18 10) (rwS10 s n q r P rest2 w2 b4 b7 i0) = some (Ex.normal, (rwS13 s n q r P rest2 w2 b4 b7 b10 i0)))
  (h9 : b10 = true)
  (h10 : callv X call false 18 [AV.agg (sysC s), i6 q] [Ob.cells (sysC s)] 0 = some (a, [Ob.cells (sysC s)]))
  (h11 : callv X call false 38 [a, AV.list LK.clip 1 1 [st w2]] [Ob.cells (sysC s)] 0 = some (ab, [Ob.cells (sysC s)]))
  (h12 : (r == 0) = false)
  (h13 : (!empB (NSys.jo s)) = true)
  (h14 : NSys.sf s = false)
  (h15 : callv X call true 38 [ab, AV.list LK.clip 1 1 [st (NSys.jo s)]] [Ob.cells (sysC s)] 0 = some (d1, [Ob.cells (sysC s)]))
  (h16 : callv X call true 18 [AV.agg (sysC s), i6 r] [Ob.cells (sysC s)] 0 = some (d2, [Ob.cells (sysC s)]))
  (h17 : callv X call true 38 [d1, d2] [Ob.cells (sysC s)] 0 = some (d3, [Ob.cells (sysC s)]))
  (h18 : vend1 [] 0 [Ob.cells (sysC s)] [d3] = some (unfr (oneOf [d3]), [Ob.cells (sysC s)])) : vbody Tryd.prog X call lf fg18 Tryd.f18 (codeOf Tryd.f18) [AV.agg (sysC s), i6 n] [] 0 = some (unfr (oneOf [d3]), [Ob.cells (sysC s)]) :=
  along_sound (ans := [(7, Ans.b false), (14, Ans.l (Ex.exit 0) (rwS3 s n P b4 i0)), (18, Ans.v (i6 q)), (21, Ans.v (i6 r)), (24, Ans.l Ex.normal (rwS9 s n q r P b4 b7 i0)), (25, Ans.b false), (30, Ans.v (AV.eaddr rest2)), (31, Ans.v (st w2)), (34, Ans.l Ex.normal (rwS13 s n q r P rest2 w2 b4 b7 b10 i0)), (35, Ans.b true), (39, Ans.v a), (41, Ans.v ab), (45, Ans.b false), (53, Ans.b true), (62, Ans.b false), (67, Ans.v d1), (70, Ans.v d2), (71, Ans.v d3), (73, Ans.c (unfr (oneOf [d3])) [Ob.cells (sysC s)])]) (by kernel_rfl) (And.intro h0 (And.intro h1 (And.intro h2 (And.intro h3 (And.intro h4 (And.intro h5 (And.intro h6 (And.intro h7 (And.intro h8 (And.intro h9 (And.intro h10 (And.intro h11 (And.intro h12 (And.intro h13 (And.intro h14 (And.intro h15 (And.intro h16 (And.intro h17 (And.intro h18 trivial)))))))))))))))))))
theorem rw_pflfftfft (s : NSys) (n : Int) (q : Int) (r : Int) (P : Nat → Int) (rest2 : List AV) (a : AV) (b : AV) (ab : AV) (ac : AV) (ac2 : AV) (w2 : ByteArray) (b4 : Bool) (b7 : Bool) (b10 : Bool) (X : Ext) (call : Caller) (lf : Nat) (i0 : Nat)
  (h0 : decide (n < NSys.base s) = false)
  (h1 : vexec Tryd.prog X call lf 0 fg18 (Code.loop (loopN Tryd.f18 0)) (rwS8 s n) = some (Ex.exit 0, (rwS3 s n P b4 i0)))
  (h2 : keep [Ob.cells (sysC s)] (binv Tryd.prog BinOp.quo 3 (i6 n) (i6 (P i0))) = some (i6 q, [Ob.cells (sysC s)]))
  (h3 : keep [Ob.cells (sysC s)] (binv Tryd.prog BinOp.rem 3 (i6 n) (i6 (P i0))) = some (i6 r, [Ob.cells (sysC s)]))
  (h4 : vexec Tryd.prog X call lf 0 fg18 (regN Tryd.f18 7) (rwS5 s n q r P b4 i0) = some (Ex.normal, (rwS9 s n q r P b4 b7 i0)))
  (h5 : b7 = false)
  (h6 : keep [Ob.cells (sysC s)] (indexAddrv Tryd.prog 22 [Ob.cells (sysC s)] (lro (List.length (NSys.powers s)) 1 (List.map st (NSys.powers s))) (i6 (↑i0 : Int))) = some (AV.eaddr rest2, [Ob.cells (sysC s)]))
  (h7 : keep [Ob.cells (sysC s)] (loadv Tryd.prog 9 [Ob.cells (sysC s)] (AV.eaddr rest2)) = some (st w2, [Ob.cells (sysC s)]))
  (h8 : vexec Tryd.prog X call lf 0 fg18 (regN Tryd.f18 10) (rwS10 s n q r P rest2 w2 b4 b7 i0) = some (Ex.normal, (rwS13 s n q r P rest2 w2 b4 b7 b10 i0)))
  (h9 : b10 = true)
  (h10 : callv X call false 18 [AV.agg (sysC s), i6 q] [Ob.cells (sysC s)] 0 = some (a, [Ob.cells (sysC s)]))
  (h11 : callv X call false 38 [a, AV.list LK.clip 1 1 [st w2]] [Ob.cells (sysC s)] 0 = some (ab, [Ob.cells (sysC s)]))
  (h12 : (r == 0) = false)
  (h13 : (!empB (NSys.jo s)) = false)
  (h14 : NSys.sf s = true)
  (h15 : callv X call false 18 [AV.agg (sysC s), i6 r] [Ob.cells (sysC s)] 0 = some (b, [Ob.cells (sysC s)]))
  (h16 : callv X call false 38 [b, AV.list LK.clip 0 1 []] [Ob.cells (sysC s)] 0 = some (ac, [Ob.cells (sysC s)]))
  (h17 : callv X call false 38 [ac, ab] [Ob.cells (sysC s)] 0 = some (ac2, [Ob.cells (sysC s)]))
  (h18 : vend1 [] 0 [Ob.cells (sysC s)] [ac2] = some (unfr (oneOf [ac2]), [Ob.cells (sysC s)])) : vbody Tryd.prog X call lf fg18 Tryd.f18 (codeOf Tryd.f18) [AV.agg (sysC s), i6 n] [] 0 = some (unfr (oneOf [ac2]), [Ob.cells (sysC s)]) :=
  along_sound (ans := [(7, Ans.b false), (14, Ans.l (Ex.exit 0) (rwS3 s n P b4 i0)), (18, Ans.v (i6 q)), (21, Ans.v (i6 r)), (24, Ans.l Ex.normal (rwS9 s n q r P b4 b7 i0)), (25, Ans.b false), (30, Ans.v (AV.eaddr rest2)), (31, Ans.v (st w2)), (34, Ans.l Ex.normal (rwS13 s n q r P rest2 w2 b4 b7 b10 i0)), (35, Ans.b true), (39, Ans.v a), (41, Ans.v ab), (45, Ans.b false), (53, Ans.b false), (57, Ans.b true), (62, Ans.v b), (64, Ans.v ac), (66, Ans.v ac2), (68, Ans.c (unfr (oneOf [ac2])) [Ob.cells (sysC s)])]) (by kernel_rfl) (And.intro h0 (And.intro h1 (And.intro h2 (And.intro h3 (And.intro h4 (And.intro h5 (And.intro h6 (And.intro h7 (And.intro h8 (And.intro h9 (And.intro h10 (And.intro h11 (And.intro h12 (And.intro h13 (And.intro h14 (And.intro h15 (And.intro h16 (And.intro h17 (And.intro h18 trivial)))))))))))))))))))
theorem rw_pflfftfff (s : NSys) (n : Int) (q : Int) (r : Int) (P : Nat → Int) (rest2 : List AV) (a : AV) (ab : AV) (d1 : AV) (d2 : AV) (d3 : AV) (w2 : ByteArray) (b4 : Bool) (b7 : Bool) (b10 : Bool) (X : Ext) (call : Caller) (lf : Nat) (i0 : Nat)
  (h0 : decide (n < NSys.base s) = false)
  (h1 : vexec Tryd.prog X call lf 0 fg18 (Code.loop (loopN Tryd.f18 0)) (rwS8 s n) = some (Ex.exit 0, (rwS3 s n P b4 i0)))
  (h2 : keep [Ob.cells (sysC s)] (binv Tryd.prog BinOp.quo 3 (i6 n) (i6 (P i0))) = some (i6 q, [Ob.cells (sysC s)]))
  (h3 : keep [Ob.cells (sysC s)] (binv Tryd.prog BinOp.rem 3 (i6 n) (i6 (P i0))) = some (i6 r, [Ob.cells (sysC s)]))
  (h4 : vexec Tryd.prog X call lf 0 fg18 (regN Tryd.f18 7) (rwS5 s n q r P b4 i0) = some (Ex.normal, (rwS9 s n q r P b4 b7 i0)))
  (h5 : b7 = false)
  (h6 : keep [Ob.cells (sysC s)] (indexAddrv Tryd.prog 22 [Ob.cells (sysC s)] (lro (List.length (NSys.powers s)) 1 (List.map st (NSys.powers s))) (i6 (↑i0 : Int))) = some (AV.eaddr rest2, [Ob.cells (sysC s)]))
  (h7 : keep [Ob.cells (sysC s)] (loadv Tryd.prog 9 [Ob.cells (sysC s)] (AV.eaddr rest2)) = some (st w2, [Ob.cells (sysC s)]))
  (h8 : vexec Tryd.prog X call lf 0 fg18 (regN Tryd.f18 10) (rwS10 s n q r P rest2 w2 b4 b7 i0) = some (Ex.normal, (rwS13 s n q r P rest2 w2 b4 b7 b10 i0)))
  (h9 : b10 = true)
  (h10 : callv X call false 18 [AV.agg (sysC s), i6 q] [Ob.cells (sysC s)] 0 = some (a, [Ob.cells (sysC s)]))
  (h11 : callv X call false 38 [a, AV.list LK.clip 1 1 [st w2]] [Ob.cells (sysC s)] 0 = some (ab, [Ob.cells (sysC s)]))
  (h12 : (r == 0) = false)
  (h13 : (!empB (NSys.jo s)) = false)
  (h14 : NSys.sf s = false)
  (h15 : callv X call true 38 [ab, AV.list LK.clip 0 1 []] [Ob.cells (sysC s)] 0 = some (d1, [Ob.cells (sysC s)]))
  (h16 : callv X call true 18 [AV.agg (sysC s), i6 r] [Ob.cells (sysC s)] 0 = some (d2, [Ob.cells (sysC s)]))
  (h17 : callv X call true 38 [d1, d2] [Ob.cells (sysC s)] 0 = some (d3, [Ob.cells (sysC s)]))
  (h18 : vend1 [] 0 [Ob.cells (sysC s)] [d3] = some (unfr (oneOf [d3]), [Ob.cells (sysC s)])) : vbody Tryd.prog X call lf fg18 Tryd.f18 (codeOf Tryd.f18) [AV.agg (sysC s), i6 n] [] 0 = some (unfr (oneOf [d3]), [Ob.cells (sysC s)]) :=
  along_sound (ans := [(7, Ans.b false), (14, Ans.l (Ex.exit 0) (rwS3 s n P b4 i0)), (18, Ans.v (i6 q)), (21, Ans.v (i6 r)), (24, Ans.l Ex.normal (rwS9 s n q r P b4 b7 i0)), (25, Ans.b false), (30, Ans.v (AV.eaddr rest2)), (31, Ans.v (st w2)), (34, Ans.l Ex.normal (rwS13 s n q r P rest2 w2 b4 b7 b10 i0)), (35, Ans.b true), (39, Ans.v a), (41, Ans.v ab), (45, Ans.b false), (53, Ans.b false), (57, Ans.b false), (62, Ans.v d1), (65, Ans.v d2), (66, Ans.v d3), (68, Ans.c (unfr (oneOf [d3])) [Ob.cells (sysC s)])]) (by kernel_rfl) (And.intro h0 (And.intro h1 (And.intro h2 (And.intro h3 (And.intro h4 (And.intro h5 (And.intro h6 (And.intro h7 (And.intro h8 (And.intro h9 (And.intro h10 (And.intro h11 (And.intro h12 (And.intro h13 (And.intro h14 (And.intro h15 (And.intro h16 (And.intro h17 (And.intro h18 trivial)))))))))))))))))))
theorem rw_pflffft (s : NSys) (n : Int) (q : Int) (r : Int) (P : Nat → Int) (rest2 : List AV) (w2 : ByteArray) (b4 : Bool) (b7 : Bool) (b10 : Bool) (X : Ext) (call : Caller) (lf : Nat) (i0 : Nat)
  (h0 : decide (n < NSys.base s) = false)
  (h1 : vexec Tryd.prog X call lf 0 fg18 (Code.loop (loopN Tryd.f18 0)) (rwS8 s n) = some (Ex.exit 0, (rwS3 s n P b4 i0)))
  (h2 : keep [Ob.cells (sysC s)] (binv Tryd.prog BinOp.quo 3 (i6 n) (i6 (P i0))) = some (i6 q, [Ob.cells (sysC s)]))
  (h3 : keep [Ob.cells (sysC s)] (binv Tryd.prog BinOp.rem 3 (i6 n) (i6 (P i0))) = some (i6 r, [Ob.cells (sysC s)]))
  (h4 : vexec Tryd.prog X call lf 0 fg18 (regN Tryd.f18 7) (rwS5 s n q r P b4 i0) = some (Ex.normal, (rwS9 s n q r P b4 b7 i0)))
  (h5 : b7 = false)
  (h6 : keep [Ob.cells (sysC s)] (indexAddrv Tryd.prog 22 [Ob.cells (sysC s)] (lro (List.length (NSys.powers s)) 1 (List.map st (NSys.powers s))) (i6 (↑i0 : Int))) = some (AV.eaddr rest2, [Ob.cells (sysC s)]))
  (h7 : keep [Ob.cells (sysC s)] (loadv Tryd.prog 9 [Ob.cells (sysC s)] (AV.eaddr rest2)) = some (st w2, [Ob.cells (sysC s)]))
  (h8 : vexec Tryd.prog X call lf 0 fg18 (regN Tryd.f18 10) (rwS10 s n q r P rest2 w2 b4 b7 i0) = some (Ex.normal, (rwS13 s n q r P rest2 w2 b4 b7 b10 i0)))
  (h9 : b10 = false)
  (h10 : (r == 0) = true) : vbody Tryd.prog X call lf fg18 Tryd.f18 (codeOf Tryd.f18) [AV.agg (sysC s), i6 n] [] 0 = some (AV.list LK.clip 1 1 [st w2], [Ob.cells (sysC s)]) :=
  along_sound (ans := [(7, Ans.b false), (14, Ans.l (Ex.exit 0) (rwS3 s n P b4 i0)), (18, Ans.v (i6 q)), (21, Ans.v (i6 r)), (24, Ans.l Ex.normal (rwS9 s n q r P b4 b7 i0)), (25, Ans.b false), (30, Ans.v (AV.eaddr rest2)), (31, Ans.v (st w2)), (34, Ans.l Ex.normal (rwS13 s n q r P rest2 w2 b4 b7 b10 i0)), (35, Ans.b false), (38, Ans.b true)]) (by kernel_rfl) (And.intro h0 (And.intro h1 (And.intro h2 (And.intro h3 (And.intro h4 (And.intro h5 (And.intro h6 (And.intro h7 (And.intro h8 (And.intro h9 (And.intro h10 trivial)))))))))))
theorem rw_pflfffftt (s : NSys) (n : Int) (q : Int) (r : Int) (P : Nat → Int) (rest2 : List AV) (b : AV) (ac : AV) (ac2 : AV) (w2 : ByteArray) (b4 : Bool) (b7 : Bool) (b10 : Bool) (X : Ext) (call : Caller) (lf : Nat) (i0 : Nat)
  (h0 : decide (n < NSys.base s) = false)
  (h1 : vexec Tryd.prog X call lf 0 fg18 (Code.loop (loopN Tryd.f18 0)) (rwS8 s n) = some (Ex.exit 0, (rwS3 s n P b4 i0)))
  (h2 : keep [Ob.cells (sysC s)] (binv Tryd.prog BinOp.quo 3 (i6 n) (i6 (P i0))) = some (i6 q, [Ob.cells (sysC s)]))
  (h3 : keep [Ob.cells (sysC s)] (binv Tryd.prog BinOp.rem 3 (i6 n) (i6 (P i0))) = some (i6 r, [Ob.cells (sysC s)]))
  (h4 : vexec Tryd.prog X call lf 0 fg18 (regN Tryd.f18 7) (rwS5 s n q r P b4 i0) = some (Ex.normal, (rwS9 s n q r P b4 b7 i0)))
  (h5 : b7 = false)
  (h6 : keep [Ob.cells (sysC s)] (indexAddrv Tryd.prog 22 [Ob.cells (sysC s)] (lro (List.length (NSys.powers s)) 1 (List.map st (NSys.powers s))) (i6 (↑i0 : Int))) = some (AV.eaddr rest2, [Ob.cells (sysC s)]))
  (h7 : keep [Ob.cells (sysC s)] (loadv Tryd.prog 9 [Ob.cells (sysC s)] (AV.eaddr rest2)) = some (st w2, [Ob.cells (sysC s)]))
  (h8 : vexec Tryd.prog X call lf 0 fg18 (regN Tryd.f18 10) (rwS10 s n q r P rest2 w2 b4 b7 i0) = some (Ex.normal, (rwS13 s n q r P rest2 w2 b4 b7 b10 i0)))
  (h9 : b10 = false)
  (h10 : (r == 0) = false)
  (h11 : (!empB (NSys.jo s)) = true)
  (h12 : NSys.sf s = true)
  (h13 : callv X call false 18 [AV.agg (sysC s), i6 r] [Ob.cells (sysC s)] 0 = some (b, [Ob.cells (sysC s)]))
  (h14 : callv X call false 38 [b, AV.list LK.clip 1 1 [st (NSys.jo s)]] [Ob.cells (sysC s)] 0 = some (ac, [Ob.cells (sysC s)]))
  (h15 : callv X call false 38 [ac, AV.list LK.clip 1 1 [st w2]] [Ob.cells (sysC s)] 0 = some (ac2, [Ob.cells (sysC s)]))
  (h16 : vend1 [] 0 [Ob.cells (sysC s)] [ac2] = some (unfr (oneOf [ac2]), [Ob.cells (sysC s)])) : vbody Tryd.prog X call lf fg18 Tryd.f18 (codeOf Tryd.f18) [AV.agg (sysC s), i6 n] [] 0 = some (unfr (oneOf [ac2]), [Ob.cells (sysC s)]) :=
  along_sound (ans := [(7, Ans.b false), (14, Ans.l (Ex.exit 0) (rwS3 s n P b4 i0)), (18, Ans.v (i6 q)), (21, Ans.v (i6 r)), (24, Ans.l Ex.normal (rwS9 s n q r P b4 b7 i0)), (25, Ans.b false), (30, Ans.v (AV.eaddr rest2)), (31, Ans.v (st w2)), (34, Ans.l Ex.normal (rwS13 s n q r P rest2 w2 b4 b7 b10 i0)), (35, Ans.b false), (38, Ans.b false), (46, Ans.b true), (55, Ans.b true), (60, Ans.v b), (62, Ans.v ac), (64, Ans.v ac2), (66, Ans.c (unfr (oneOf [ac2])) [Ob.cells (sysC s)])]) (by kernel_rfl) (And.intro h0 (And.intro h1 (And.intro h2 (And.intro h3 (And.intro h4 (And.intro h5 (And.intro h6 (And.intro h7 (And.intro h8 (And.intro h9 (And.intro h10 (And.intro h11 (And.intro h12 (And.intro h13 (And.intro h14 (And.intro h15 (And.intro h16 trivial)))))))))))))))))
theorem rw_pflfffftf (s : NSys) (n : Int) (q : Int) (r : Int) (P : Nat → Int) (rest2 : List AV) (d1 : AV) (d2 : AV) (d3 : AV) (w2 : ByteArray) (b4 : Bool) (b7 : Bool) (b10 : Bool) (X : Ext) (call : Caller) (lf : Nat) (i0 : Nat)
  (h0 : decide (n < NSys.base s) = false)
  (h1 : vexec Tryd.prog X call lf 0 fg18 (Code.loop (loopN Tryd.f18 0)) (rwS8 s n) = some (Ex.exit 0, (rwS3 s n P b4 i0)))
  (h2 : keep [Ob.cells (sysC s)] (binv Tryd.prog BinOp.quo 3 (i6 n) (i6 (P i0))) = some (i6 q, [Ob.cells (sysC s)]))
  (h3 : keep [Ob.cells (sysC s)] (binv Tryd.prog BinOp.rem 3 (i6 n) (i6 (P i0))) = some (i6 r, [Ob.cells (sysC s)]))
  (h4 : vexec Tryd.prog X call lf 0 fg18 (regN Tryd.f18 7) (rwS5 s n q r P b4 i0) = some (Ex.normal, (rwS9 s n q r P b4 b7 i0)))
  (h5 : b7 = false)
  (h6 : keep [Ob.cells (sysC s)] (indexAddrv Tryd.prog 22 [Ob.cells (sysC s)] (lro (List.length (NSys.powers s)) 1 (List.map st (NSys.powers s))) (i6 (↑i0 : Int))) = some (AV.eaddr rest2, [Ob.cells (sysC s)]))
  (h7 : keep [Ob.cells (sysC s)] (loadv Tryd.prog 9 [Ob.cells (sysC s)] (AV.eaddr rest2)) = some (st w2, [Ob.cells (sysC s)]))
  (h8 : vexec Tryd.prog X call lf 0 fg18 (regN Tryd.f18 10) (rwS10 s n q r P rest2 w2 b4 b7 i0) = some (Ex.normal, (rwS13 s n q r P rest2 w2 b4 b7 b10 i0)))
  (h9 : b10 = false)
  (h10 : (r == 0) = false)
  (h11 : (!empB (NSys.jo s)) = true)
  (h12 : NSys.sf s = false)
  (h13 : callv X call true 38 [AV.list LK.clip 1 1 [st w2], AV.list LK.clip 1 1 [st (NSys.jo s)]] [Ob.cells (sysC s)] 0 = some (d1, [Ob.cells (sysC s)]))
  (h14 : callv X call true 18 [AV.agg (sysC s), i6 r] [Ob.cells (sysC s)] 0 = some (d2, [Ob.cells (sysC s)]))
  (h15 : callv X call true 38 [d1, d2] [Ob.cells (sysC s)] 0 = some (d3, [Ob.cells (sysC s)]))
  (h16 : vend1 [] 0 [Ob.cells (sysC s)] [d3] = some (unfr (oneOf [d3]), [Ob.cells (sysC s)])) : vbody Tryd.prog X call lf fg18 Tryd.f18 (codeOf Tryd.f18) [AV.agg (sysC s), i6 n] [] 0 = some (unfr (oneOf [d3]), [Ob.cells (sysC s)]) :=
  along_sound (ans := [(7, Ans.b false), (14, Ans.l (Ex.exit 0) (rwS3 s n P b4 i0)), (18, Ans.v (i6 q)), (21, Ans.v (i6 r)), (24, Ans.l Ex.normal (rwS9 s n q r P b4 b7 i0)), (25, Ans.b false), (30, Ans.v (AV.eaddr rest2)), (31, Ans.v (st w2)), (34, Ans.l Ex.normal (rwS13 s n q r P rest2 w2 b4 b7 b10 i0)), (35, Ans.b false), (38, Ans.b false), (46, Ans.b true), (55, Ans.b false), (60, Ans.v d1), (63, Ans.v d2), (64, Ans.v d3), (66, Ans.c (unfr (oneOf [d3])) [Ob.cells (sysC s)])]) (by kernel_rfl) (And.intro h0 (And.intro h1 (And.intro h2 (And.intro h3 (And.intro h4 (And.intro h5 (And.intro h6 (And.intro h7 (And.intro h8 (And.intro h9 (And.intro h10 (And.intro h11 (And.intro h12 (And.intro h13 (And.intro h14 (And.intro h15 (And.intro h16 trivial)))))))))))))))))
theorem rw_pflffffft (s : NSys) (n : Int) (q : Int) (r : Int) (P : Nat → Int) (rest2 : List AV) (b : AV) (ac : AV) (ac2 : AV) (w2 : ByteArray) (b4 : Bool) (b7 : Bool) (b10 : Bool) (X : Ext) (call : Caller) (lf : Nat) (i0 : Nat)
  (h0 : decide (n < NSys.base s) = false)
  (h1 : vexec Tryd.prog X call lf 0 fg18 (Code.loop (loopN Tryd.f18 0)) (rwS8 s n) = some (Ex.exit 0, (rwS3 s n P b4 i0)))
  (h2 : keep [Ob.cells (sysC s)] (binv Tryd.prog BinOp.quo 3 (i6 n) (i6 (P i0))) = some (i6 q, [Ob.cells (sysC s)]))
  (h3 : keep [Ob.cells (sysC s)] (binv Tryd.prog BinOp.rem 3 (i6 n) (i6 (P i0))) = some (i6 r, [Ob.cells (sysC s)]))
  (h4 : vexec Tryd.prog X call lf 0 fg18 (regN Tryd.f18 7) (rwS5 s n q r P b4 i0) = some (Ex.normal, (rwS9 s n q r P b4 b7 i0)))
  (h5 : b7 = false)
  (h6 : keep [Ob.cells (sysC s)] (indexAddrv Tryd.prog 22 [Ob.cells (sysC s)] (lro (List.length (NSys.powers s)) 1 (List.map st (NSys.powers s))) (i6 (↑i0 : Int))) = some (AV.eaddr rest2, [Ob.cells (sysC s)]))
  (h7 : keep [Ob.cells (sysC s)] (loadv Tryd.prog 9 [Ob.cells (sysC s)] (AV.eaddr rest2)) = some (st w2, [Ob.cells (sysC s)]))
  (h8 : vexec Tryd.prog X call lf 0 fg18 (regN Tryd.f18 10) (rwS10 s n q r P rest2 w2 b4 b7 i0) = some (Ex.normal, (rwS13 s n q r P rest2 w2 b4 b7 b10 i0)))
  (h9 : b10 = false)
  (h10 : (r == 0) = false)
  (h11 : (!empB (NSys.jo s)) = false)
  (h12 : NSys.sf s = true)
  (h13 : callv X call false 18 [AV.agg (sysC s), i6 r] [Ob.cells (sysC s)] 0 = some (b, [Ob.cells (sysC s)]))
  (h14 : callv X call false 38 [b, AV.list LK.clip 0 1 []] [Ob.cells (sysC s)] 0 = some (ac, [Ob.cells (sysC s)]))
  (h15 : callv X call false 38 [ac, AV.list LK.clip 1 1 [st w2]] [Ob.cells (sysC s)] 0 = some (ac2, [Ob.cells (sysC s)]))
  (h16 : vend1 [] 0 [Ob.cells (sysC s)] [ac2] = some (unfr (oneOf [ac2]), [Ob.cells (sysC s)])) : vbody Tryd.prog X call lf fg18 Tryd.f18 (codeOf Tryd.f18) [AV.agg (sysC s), i6 n] [] 0 = some (unfr (oneOf [ac2]), [Ob.cells (sysC s)]) :=
  along_sound (ans := [(7, Ans.b false), (14, Ans.l (Ex.exit 0) (rwS3 s n P b4 i0)), (18, Ans.v (i6 q)), (21, Ans.v (i6 r)), (24, Ans.l Ex.normal (rwS9 s n q r P b4 b7 i0)), (25, Ans.b false), (30, Ans.v (AV.eaddr rest2)), (31, Ans.v (st w2)), (34, Ans.l Ex.normal (rwS13 s n q r P rest2 w2 b4 b7 b10 i0)), (35, Ans.b false), (38, Ans.b false), (46, Ans.b false), (50, Ans.b true), (55, Ans.v b), (57, Ans.v ac), (59, Ans.v ac2), (61, Ans.c (unfr (oneOf [ac2])) [Ob.cells (sysC s)])]) (by kernel_rfl) (And.intro h0 (And.intro h1 (And.intro h2 (And.intro h3 (And.intro h4 (And.intro h5 (And.intro h6 (And.intro h7 (And.intro h8 (And.intro h9 (And.intro h10 (And.intro h11 (And.intro h12 (And.intro h13 (And.intro h14 (And.intro h15 (And.intro h16 trivial)))))))))))))))))
theorem rw_pflffffff (s : NSys) (n : Int) (q : Int) (r : Int) (P : Nat → Int) (rest2 : List AV) (d1 : AV) (d2 : AV) (d3 : AV) (w2 : ByteArray) (b4 : Bool) (b7 : Bool) (b10 : Bool) (X : Ext) (call : Caller) (lf : Nat) (i0 : Nat)
  (h0 : decide (n < NSys.base s) = false)
  (h1 : vexec Tryd.prog X call lf 0 fg18 (Code.loop (loopN Tryd.f18 0)) (rwS8 s n) = some (Ex.exit 0, (rwS3 s n P b4 i0)))
  (h2 : keep [Ob.cells (sysC s)] (binv Tryd.prog BinOp.quo 3 (i6 n) (i6 (P i0))) = some (i6 q, [Ob.cells (sysC s)]))
  (h3 : keep [Ob.cells (sysC s)] (binv Tryd.prog BinOp.rem 3 (i6 n) (i6 (P i0))) = some (i6 r, [Ob.cells (sysC s)]))
  (h4 : vexec Tryd.prog X call lf 0 fg18 (regN Tryd.f18 7) (rwS5 s n q r P b4 i0) = some (Ex.normal, (rwS9 s n q r P b4 b7 i0)))
  (h5 : b7 = false)
  (h6 : keep [Ob.cells (sysC s)] (indexAddrv Tryd.prog 22 [Ob.cells (sysC s)] (lro (List.length (NSys.powers s)) 1 (List.map st (NSys.powers s))) (i6 (↑i0 : Int))) = some (AV.eaddr rest2, [Ob.cells (sysC s)]))
  (h7 : keep [Ob.cells (sysC s)] (loadv Tryd.prog 9 [Ob.cells (sysC s)] (AV.eaddr rest2)) = some (st w2, [Ob.cells (sysC s)]))
  (h8 : vexec Tryd.prog X call lf 0 fg18 (regN Tryd.f18 10) (rwS10 s n q r P rest2 w2 b4 b7 i0) = some (Ex.normal, (rwS13 s n q r P rest2 w2 b4 b7 b10 i0)))
  (h9 : b10 = false)
  (h10 : (r == 0) = false)
  (h11 : (!empB (NSys.jo s)) = false)
  (h12 : NSys.sf s = false)
  (h13 : callv X call true 38 [AV.list LK.clip 1 1 [st w2], AV.list LK.clip 0 1 []] [Ob.cells (sysC s)] 0 = some (d1, [Ob.cells (sysC s)]))
  (h14 : callv X call true 18 [AV.agg (sysC s), i6 r] [Ob.cells (sysC s)] 0 = some (d2, [Ob.cells (sysC s)]))
  (h15 : callv X call true 38 [d1, d2] [Ob.cells (sysC s)] 0 = some (d3, [Ob.cells (sysC s)]))
  (h16 : vend1 [] 0 [Ob.cells (sysC s)] [d3] = some (unfr (oneOf [d3]), [Ob.cells (sysC s)])) : vbody Tryd.prog X call lf fg18 Tryd.f18 (codeOf Tryd.f18) [AV.agg (sysC s), i6 n] [] 0 = some (unfr (oneOf [d3]), [Ob.cells (sysC s)]) :=
  along_sound (ans := [(7, Ans.b false), (14, Ans.l (Ex.exit 0) (rwS3 s n P b4 i0)), (18, Ans.v (i6 q)), (21, Ans.v (i6 r)), (24, Ans.l Ex.normal (rwS9 s n q r P b4 b7 i0)), (25, Ans.b false), (30, Ans.v (AV.eaddr rest2)), (31, Ans.v (st w2)), (34, Ans.l Ex.normal (rwS13 s n q r P rest2 w2 b4 b7 b10 i0)), (35, Ans.b false), (38, Ans.b false), (46, Ans.b false), (50, Ans.b false), (55, Ans.v d1), (58, Ans.v d2), (59, Ans.v d3), (61, Ans.c (unfr (oneOf [d3])) [Ob.cells (sysC s)])]) (by kernel_rfl) (And.intro h0 (And.intro h1 (And.intro h2 (And.intro h3 (And.intro h4 (And.intro h5 (And.intro h6 (And.intro h7 (And.intro h8 (And.intro h9 (And.intro h10 (And.intro h11 (And.intro h12 (And.intro h13 (And.intro h14 (And.intro h15 (And.intro h16 trivial)))))))))))))))))


abbrev D18 : List Nat := [38, 37, 36, 35, 34, 33, 32, 31, 30, 29, 28, 27, 26, 25, 24, 23]
theorem dead18 : (deadC (loopN Tryd.f18 0) ([], [])).2 = D18 := by kernel_rfl
abbrev rwP (s : NSys) (i : Nat) : Int := s.base ^ (i + 1)
def rwB4 (s : NSys) (n : Int) (i : Nat) : Bool := decide ((↑i : Int) < 2) && decide (n ≥ w6 (rwP s i * s.base))
theorem rw_g4 (s : NSys) (n : Int) (X : Ext) (call : Caller) (lf : Nat) (i : Nat) : vexec Tryd.prog X call lf 0 fg18 (regN Tryd.f18 4) (rwS0 s n (rwP s) i) = some (Ex.normal, rwS3 s n (rwP s) (rwB4 s n i) i) := by
  unfold rwB4
  cases h0 : decide ((↑i : Int) < 2) with
  | false => exact rw_g4_f s n (rwP s) X call lf i h0
  | true =>
    cases h1 : decide (n ≥ w6 (rwP s i * s.base)) with
    | true => exact rw_g4_tt s n (rwP s) X call lf i h0 h1
    | false => exact rw_g4_tf s n (rwP s) X call lf i h0 h1
theorem rw_g7 (s : NSys) (n q r : Int) (b4 : Bool) (X : Ext) (call : Caller) (lf : Nat) (i : Nat) : vexec Tryd.prog X call lf 0 fg18 (regN Tryd.f18 7) (rwS5 s n q r (rwP s) b4 i) = some (Ex.normal, rwS9 s n q r (rwP s) b4 (lessL s q (rwP s i) r) i) := by
  unfold lessL
  cases h0 : decide (s.sub > 0) with
  | false => exact rw_g7_f s n q r (rwP s) b4 X call lf i h0
  | true =>
    cases h1 : decide (r ≥ w6 (rwP s i - s.sub)) with
    | false => exact rw_g7_tf s n q r (rwP s) b4 X call lf i h0 h1
    | true =>
      cases h2 : decide (w6 (q + 1) < s.base) with
      | false => exact rw_g7_ttf s n q r (rwP s) b4 X call lf i h0 h1 h2
      | true => exact rw_g7_ttt s n q r (rwP s) b4 X call lf i h0 h1 h2
theorem rw_g10 (s : NSys) (n q r : Int) (rest : List AV) (w : ByteArray) (b4 b7 : Bool) (X : Ext) (call : Caller) (lf : Nat) (i : Nat) : vexec Tryd.prog X call lf 0 fg18 (regN Tryd.f18 10) (rwS10 s n q r (rwP s) rest w b4 b7 i) = some (Ex.normal, rwS13 s n q r (rwP s) rest w b4 b7 (q != 1 || !s.om) i) := by
  cases h0 : (q != 1) with
  | true => exact rw_g10_t s n q r (rwP s) rest w b4 b7 X call lf i h0
  | false =>
    cases h1 : s.om with
    | true => exact rw_g10_ft s n q r (rwP s) rest w b4 b7 X call lf i h0 h1
    | false => exact rw_g10_ff s n q r (rwP s) rest w b4 b7 X call lf i h0 h1
theorem rwB4_lt {s : NSys} {n : Int} (hb : s.base = 10 ∨ s.base = 20) {i : Nat} (hi : i < 2) : rwB4 s n i = decide (n ≥ s.base ^ (i + 2)) := by
  unfold rwB4 rwP
  rw [pow_mul hb hi]
  have : decide ((↑i : Int) < 2) = true := by simp; omega
  rw [this, Bool.true_and]
theorem rw_round {s : NSys} {n : Int} {X : Ext} {call : Caller} {lf : Nat} (hb : s.base = 10 ∨ s.base = 20) {i : Nat} (hi : i < 2) (hn : ¬ s.base ^ (i + 2) > n) :
    ∃ S1, vexec Tryd.prog X call lf 0 fg18 (loopN Tryd.f18 0) (rwS0 s n (rwP s) i) = some (.normal, S1) ∧ forget D18 S1 = rwS0 s n (rwP s) (i + 1) := by
  have h4 : rwB4 s n i = true := by rw [rwB4_lt hb hi]; exact decide_eq_true (by omega)
  refine ⟨_, rw_r0_t s n (rwP s) (rwB4 s n i) X call lf i (rw_g4 s n X call lf i) h4, ?_⟩
  have e : w6 ((i : Int) + 1) = ((i + 1 : Nat) : Int) := wrap_small (by omega)
  have e2 : w6 (rwP s i * s.base) = rwP s (i + 1) := pow_mul hb hi
  unfold rwS4
  rw [e, e2]
  unfold rwS0
  show _ = _
  kernel_rfl
theorem rw_loop {s : NSys} {n : Int} {X : Ext} {call : Caller} {lf : Nat} (hlf : 2 < lf) (hb : s.base = 10 ∨ s.base = 20) :
    vexec Tryd.prog X call lf 0 fg18 (Code.loop (loopN Tryd.f18 0)) (rwS8 s n) = some (Ex.exit 0, rwS3 s n (rwP s) false (powK s n)) := by
  have start : forget D18 (rwS8 s n) = rwS0 s n (rwP s) 0 := by
    have e : rwP s 0 = s.base := by unfold rwP; rw [Nat.zero_add]; exact Int.pow_one _
    unfold rwS0 rwS8
    rw [e]
    show _ = _
    kernel_rfl
  have done : ∀ K, K ≤ 2 → rwB4 s n K = false → (∀ i, i < K → ¬ s.base ^ (i + 2) > n) → vexec Tryd.prog X call lf 0 fg18 (Code.loop (loopN Tryd.f18 0)) (rwS8 s n) = some (Ex.exit 0, rwS3 s n (rwP s) false K) := by
    intro K hK h4 hlt
    refine loop_run (P := Tryd.prog) (X := X) (call := call) (lf := lf) (ro := 0) (fg := fg18) dead18 (rwS0 s n (rwP s)) K (by omega) start (fun i hi => rw_round hb (by omega) (hlt i hi)) ?_ (by simp)
    have := rw_g4 s n X call lf K
    rw [h4] at this
    exact rw_r0_f s n (rwP s) false X call lf K this rfl
  unfold powK
  by_cases h2 : s.base ^ 2 > n
  · rw [if_pos h2]
    exact done 0 (by omega) (by rw [rwB4_lt hb (by omega)]; exact decide_eq_false (by simp only [Nat.zero_add]; omega)) (fun i hi => absurd hi (by omega))
  · rw [if_neg h2]
    by_cases h3 : s.base ^ 3 > n
    · rw [if_pos h3]
      refine done 1 (by omega) (by rw [rwB4_lt hb (by omega)]; exact decide_eq_false (by simp only [Nat.reduceAdd]; omega)) (fun i hi => ?_)
      have : i = 0 := by omega
      subst this
      exact h2
    · rw [if_neg h3]
      refine done 2 (by omega) (by unfold rwB4; rfl) (fun i hi => ?_)
      have : i = 0 ∨ i = 1 := by omega
      rcases this with rfl | rfl
      · exact h2
      · exact h3
/-! ### the specification, by depth -/
def rwordsS (k : Nat) : List AV → Option AV
  | [.agg cs, .int .i64 n] => match sysO cs with
    | some s => if s.base = 10 ∨ s.base = 20 then (match sayO s k n with
      | some l => some (lst l)
      | none => none) else none
    | none => none
  | _ => none
def TR (k : Nat) : Vm.Spec := addS T9 18 fun vs => rwordsS k (roAll vs)
theorem end_lst2 {l : List ByteArray} {S : List Ob} {σ0 : List Ob} {ro : Nat} : vend1 σ0 ro S [lst l] = some (unfr (oneOf [lst l]), S) := by
  have h : AV.thawAll S [lst l] = some [lst l] := by simp [AV.thawAll, AV.thaw, thaw_strs]
  unfold vend1
  rw [h]
  have h2 : AV.ownsAll [lst l] = [] := by simp [AV.ownsAll, AV.owns, owns_strs]
  rw [h2]
  simp only [freezeIds]
  unfold resOf
  split
  · rename_i e _
    cases e
  · rfl
theorem lt_one (w : ByteArray) : AV.lt 0 (.list .clip 1 1 [st w]) = true := rfl
theorem lt_none : AV.lt 0 (.list .clip 0 1 []) = true := rfl
theorem lt_lst (l : List ByteArray) : AV.lt 0 (lst l) = true := by simp only [AV.lt]; exact lt_strs 0 l
theorem lt_two {a b : AV} (ha : AV.lt 0 a = true) (hb : AV.lt 0 b = true) : AV.ltAll 0 [a, b] = true := by simp [AV.ltAll, ha, hb]
theorem is_nil0 : IsS (.list .clip 0 1 []) [] := .inl ⟨_, rfl⟩
section
variable {k : Nat} {σ : List Ob} {ro : Nat} {dr : Bool}
theorem rj {a b : AV} {l m : List ByteArray} (ha : IsS a l) (hb : IsS b m) (hl : AV.ltAll 0 [a, b] = true) (hn : l.length + m.length ≤ 100000000) : callv (X15 []) (callerOf (TR k)) dr 38 [a, b] σ ro = some (lst (l ++ m), σ) := by
  have ht : TR k 38 [a, b] = some (lst (l ++ m)) := by
    have e : TR k 38 [a, b] = rjoinS [a, b] := rfl
    rw [e]
    simp only [rjoinS, isSO_of ha, isSO_of hb]
    rw [if_pos (by omega)]
  have := call_spec (X := X15 []) (dr := dr) (σ := σ) (ro := ro) rfl rfl hl ht (lt_lst _)
  rw [this]
  cases dr <;> rfl
theorem rwc {s : NSys} (hb : s.base = 10 ∨ s.base = 20) {n : Int} {l : List ByteArray} (h : sayO s k n = some l) : callv (X15 []) (callerOf (TR k)) dr 18 [AV.agg (sysC s), i6 n] σ ro = some (lst l, σ) := by
  have ht : TR k 18 [AV.agg (sysC s), i6 n] = some (lst l) := by
    have e : TR k 18 [AV.agg (sysC s), i6 n] = rwordsS k (roAll [AV.agg (sysC s), i6 n]) := rfl
    have e2 : roAll [AV.agg (sysC s), i6 n] = [AV.agg (sysC s), i6 n] := by simp [roAll, roA, roAll_sysC]
    rw [e, e2]
    simp only [rwordsS, sysO_sysC, h]
    rw [if_pos hb]
  have := call_spec (X := X15 []) (dr := dr) (σ := σ) (ro := ro) rfl rfl (by simp [AV.ltAll, AV.lt, lt_sysC]) ht (lt_lst _)
  rw [this]
  cases dr <;> rfl
theorem rw_step {s : NSys} (hb : s.base = 10 ∨ s.base = 20) (hk : k ≤ 20) {n : Int} {l : List ByteArray} (h : sayO s (k + 1) n = some l) :
    ∃ r σ', vbody Tryd.prog (X15 []) (callerOf (TR k)) 3 fg18 Tryd.f18 (codeOf Tryd.f18) [AV.agg (sysC s), i6 n] [] 0 = some (r, σ') ∧ IsS r l ∧ r.pure = true := by
  have hp : 2 ^ k ≤ 2 ^ 20 := Nat.pow_le_pow_right (by decide) hk
  have hj := joinWords_len s
  simp only [sayO] at h
  split at h
  · rename_i hn
    split at h
    · rename_i h0
      split at h
      · rename_i w hw
        simp only [Option.some.injEq] at h
        subst h
        have hi := idx_strs (S := [Ob.cells (sysC s)]) hw
        have e : ((n.toNat : Nat) : Int) = n := Int.toNat_of_nonneg h0
        rw [e] at hi
        exact ⟨_, _, rw_pt s n _ w (X15 []) (callerOf (TR k)) 3 (decide_eq_true hn) hi.1 hi.2, is_one w, rfl⟩
      · cases h
    · cases h
  · rename_i hn
    have hn := decide_eq_false hn
    have h1 := rw_loop (s := s) (n := n) (X := X15 []) (call := callerOf (TR k)) (lf := 3) (by omega) hb
    have h2 := quo_p (S := [Ob.cells (sysC s)]) (n := n) (base_pos hb (powK s n))
    have h3 := rem_p (S := [Ob.cells (sysC s)]) (n := n) (base_pos hb (powK s n))
    have h4 := rw_g7 s n (w6 (n.tdiv (rwP s (powK s n)))) (n.tmod (rwP s (powK s n))) false (X15 []) (callerOf (TR k)) 3 (powK s n)
    split at h
    · rename_i hl
      split at h
      · rename_i a b ha hbb
        simp only [Option.some.injEq] at h
        subst h
        obtain ⟨a1, a2⟩ := sayO_len s k _ a ha
        obtain ⟨b1, b2⟩ := sayO_len s k _ b hbb
        refine ⟨_, _, rw_pflft s n _ _ (rwP s) _ _ _ _ _ _ (X15 []) (callerOf (TR k)) 3 (powK s n) hn h1 h2 h3 h4 hl (rwc hb ha) (rj (is_lst a) (is_one s.le) (lt_two (lt_lst _) (lt_one _)) (by simp only [List.length_cons, List.length_nil]; omega)) (rwc hb hbb)
          (rj (is_lst _) (is_lst b) (lt_two (lt_lst _) (lt_lst _)) (by simp only [List.length_append, List.length_cons, List.length_nil]; omega)) end_lst2, ?_, lt_lst _⟩
        have e : a ++ [s.le] ++ b = a ++ s.le :: b := by simp
        rw [← e]
        exact is_lst _
      · cases h
    · rename_i hl
      have hl := Bool.eq_false_iff.2 hl
      split at h
      · cases h
      · rename_i w hw
        have hi := idx_strs (S := [Ob.cells (sysC s)]) hw
        have h8 := rw_g10 s n (w6 (n.tdiv (rwP s (powK s n)))) (n.tmod (rwP s (powK s n))) ((s.powers.map AV.str).drop (powK s n)) w false (lessL s (w6 (n.tdiv (rwP s (powK s n)))) (rwP s (powK s n)) (n.tmod (rwP s (powK s n)))) (X15 []) (callerOf (TR k)) 3 (powK s n)
        split at h
        · cases h
        · rename_i head hh
          split at hh
          · rename_i hq
            split at hh
            · rename_i a ha
              simp only [Option.some.injEq] at hh
              subst hh
              obtain ⟨a1, a2⟩ := sayO_len s k _ a ha
              have h10 := rwc (dr := false) (σ := [Ob.cells (sysC s)]) (ro := 0) hb ha
              have h11 := rj (k := k) (dr := false) (σ := [Ob.cells (sysC s)]) (ro := 0) (is_lst a) (is_one w) (lt_two (lt_lst _) (lt_one _)) (by simp only [List.length_cons, List.length_nil]; omega)
              split at h
              · rename_i hr
                simp only [Option.some.injEq] at h
                subst h
                exact ⟨_, _, rw_pflfftt s n _ _ (rwP s) _ _ _ _ _ _ _ (X15 []) (callerOf (TR k)) 3 (powK s n) hn h1 h2 h3 h4 hl hi.1 hi.2 h8 hq h10 h11 hr end_lst2, is_lst _, lt_lst _⟩
              · rename_i hr
                have hr := Bool.eq_false_iff.2 hr
                split at h
                · cases h
                · rename_i c hcc
                  obtain ⟨c1, c2⟩ := sayO_len s k _ c hcc
                  have hj2 : (a ++ [w]).length = a.length + 1 := by simp
                  simp only [Option.some.injEq] at h
                  subst h
                  cases hjo : empB s.jo with
                  | true =>
                    have ej : joinWords s = [] := by unfold joinWords; rw [if_pos hjo]
                    rw [ej]
                    cases hsf : s.sf with
                    | true =>
                      refine ⟨_, _, rw_pflfftfft s n _ _ (rwP s) _ _ _ _ _ _ _ _ _ _ (X15 []) (callerOf (TR k)) 3 (powK s n) hn h1 h2 h3 h4 hl hi.1 hi.2 h8 hq h10 h11 hr (by rw [hjo]; rfl) hsf (rwc hb hcc) (rj (is_lst c) is_nil0 (lt_two (lt_lst _) lt_none) (by simp only [List.length_nil]; omega))
                        (rj (is_lst _) (is_lst _) (lt_two (lt_lst _) (lt_lst _)) (by simp only [List.length_append, List.length_cons, List.length_nil]; omega)) end_lst2, ?_, lt_lst _⟩
                      simp only [if_true, List.append_assoc, List.append_nil, List.nil_append]
                      exact is_lst _
                    | false =>
                      refine ⟨_, _, rw_pflfftfff s n _ _ (rwP s) _ _ _ _ _ _ _ _ _ _ (X15 []) (callerOf (TR k)) 3 (powK s n) hn h1 h2 h3 h4 hl hi.1 hi.2 h8 hq h10 h11 hr (by rw [hjo]; rfl) hsf (rj (is_lst _) is_nil0 (lt_two (lt_lst _) lt_none) (by simp only [List.length_append, List.length_cons, List.length_nil]; omega)) (rwc hb hcc)
                        (rj (is_lst _) (is_lst _) (lt_two (lt_lst _) (lt_lst _)) (by simp only [List.length_append, List.length_cons, List.length_nil]; omega)) end_lst2, ?_, lt_lst _⟩
                      simp only [Bool.false_eq_true, if_false, List.append_assoc, List.append_nil, List.nil_append]
                      exact is_lst _
                  | false =>
                    have ej : joinWords s = [s.jo] := by unfold joinWords; rw [hjo]; rfl
                    rw [ej]
                    cases hsf : s.sf with
                    | true =>
                      refine ⟨_, _, rw_pflfftftt s n _ _ (rwP s) _ _ _ _ _ _ _ _ _ _ (X15 []) (callerOf (TR k)) 3 (powK s n) hn h1 h2 h3 h4 hl hi.1 hi.2 h8 hq h10 h11 hr (by rw [hjo]; rfl) hsf (rwc hb hcc) (rj (is_lst c) (is_one s.jo) (lt_two (lt_lst _) (lt_one _)) (by simp only [List.length_cons, List.length_nil]; omega))
                        (rj (is_lst _) (is_lst _) (lt_two (lt_lst _) (lt_lst _)) (by simp only [List.length_append, List.length_cons, List.length_nil]; omega)) end_lst2, ?_, lt_lst _⟩
                      simp only [if_true, List.append_assoc]
                      exact is_lst _
                    | false =>
                      refine ⟨_, _, rw_pflfftftf s n _ _ (rwP s) _ _ _ _ _ _ _ _ _ _ (X15 []) (callerOf (TR k)) 3 (powK s n) hn h1 h2 h3 h4 hl hi.1 hi.2 h8 hq h10 h11 hr (by rw [hjo]; rfl) hsf (rj (is_lst _) (is_one s.jo) (lt_two (lt_lst _) (lt_one _)) (by simp only [List.length_append, List.length_cons, List.length_nil]; omega)) (rwc hb hcc)
                        (rj (is_lst _) (is_lst _) (lt_two (lt_lst _) (lt_lst _)) (by simp only [List.length_append, List.length_cons, List.length_nil]; omega)) end_lst2, ?_, lt_lst _⟩
                      simp only [Bool.false_eq_true, if_false, List.append_assoc]
                      exact is_lst _
            · cases hh
          · rename_i hq
            have hq := Bool.eq_false_iff.2 hq
            simp only [Option.some.injEq] at hh
            subst hh
            split at h
            · rename_i hr
              simp only [Option.some.injEq] at h
              subst h
              exact ⟨_, _, rw_pflffft s n _ _ (rwP s) _ _ _ _ _ (X15 []) (callerOf (TR k)) 3 (powK s n) hn h1 h2 h3 h4 hl hi.1 hi.2 h8 hq hr, is_one w, rfl⟩
            · rename_i hr
              have hr := Bool.eq_false_iff.2 hr
              split at h
              · cases h
              · rename_i c hcc
                obtain ⟨c1, c2⟩ := sayO_len s k _ c hcc
                simp only [Option.some.injEq] at h
                subst h
                cases hjo : empB s.jo with
                | true =>
                  have ej : joinWords s = [] := by unfold joinWords; rw [if_pos hjo]
                  rw [ej]
                  cases hsf : s.sf with
                  | true =>
                    refine ⟨_, _, rw_pflffffft s n _ _ (rwP s) _ _ _ _ _ _ _ _ (X15 []) (callerOf (TR k)) 3 (powK s n) hn h1 h2 h3 h4 hl hi.1 hi.2 h8 hq hr (by rw [hjo]; rfl) hsf (rwc hb hcc) (rj (is_lst c) is_nil0 (lt_two (lt_lst _) lt_none) (by simp only [List.length_nil]; omega))
                      (rj (is_lst _) (is_one w) (lt_two (lt_lst _) (lt_one _)) (by simp only [List.length_append, List.length_cons, List.length_nil]; omega)) end_lst2, ?_, lt_lst _⟩
                    simp only [if_true, List.append_assoc, List.append_nil, List.nil_append]
                    exact is_lst _
                  | false =>
                    refine ⟨_, _, rw_pflffffff s n _ _ (rwP s) _ _ _ _ _ _ _ _ (X15 []) (callerOf (TR k)) 3 (powK s n) hn h1 h2 h3 h4 hl hi.1 hi.2 h8 hq hr (by rw [hjo]; rfl) hsf (rj (is_one w) is_nil0 (lt_two (lt_one _) lt_none) (by simp)) (rwc hb hcc)
                      (rj (is_lst _) (is_lst _) (lt_two (lt_lst _) (lt_lst _)) (by simp only [List.length_append, List.length_cons, List.length_nil]; omega)) end_lst2, ?_, lt_lst _⟩
                    simp only [Bool.false_eq_true, if_false, List.append_assoc, List.append_nil, List.nil_append]
                    exact is_lst _
                | false =>
                  have ej : joinWords s = [s.jo] := by unfold joinWords; rw [hjo]; rfl
                  rw [ej]
                  cases hsf : s.sf with
                  | true =>
                    refine ⟨_, _, rw_pflfffftt s n _ _ (rwP s) _ _ _ _ _ _ _ _ (X15 []) (callerOf (TR k)) 3 (powK s n) hn h1 h2 h3 h4 hl hi.1 hi.2 h8 hq hr (by rw [hjo]; rfl) hsf (rwc hb hcc) (rj (is_lst c) (is_one s.jo) (lt_two (lt_lst _) (lt_one _)) (by simp only [List.length_cons, List.length_nil]; omega))
                      (rj (is_lst _) (is_one w) (lt_two (lt_lst _) (lt_one _)) (by simp only [List.length_append, List.length_cons, List.length_nil]; omega)) end_lst2, ?_, lt_lst _⟩
                    simp only [if_true, List.append_assoc]
                    exact is_lst _
                  | false =>
                    refine ⟨_, _, rw_pflfffftf s n _ _ (rwP s) _ _ _ _ _ _ _ _ (X15 []) (callerOf (TR k)) 3 (powK s n) hn h1 h2 h3 h4 hl hi.1 hi.2 h8 hq hr (by rw [hjo]; rfl) hsf (rj (is_one w) (is_one s.jo) (lt_two (lt_one _) (lt_one _)) (by simp)) (rwc hb hcc)
                      (rj (is_lst _) (is_lst _) (lt_two (lt_lst _) (lt_lst _)) (by simp only [List.length_append, List.length_cons, List.length_nil]; omega)) end_lst2, ?_, lt_lst _⟩
                    simp only [Bool.false_eq_true, if_false, List.append_assoc]
                    exact is_lst _
end
theorem TR_ok [Fixed] (hX : ∀ l, ExtOk Tryd.prog (X15 l)) : ∀ k, k ≤ 20 → SpecOk Tryd.prog (TR k)
  | 0, _ => by
    refine (T9_ok hX).addRo ?_
    intro vs r h
    unfold rwordsS at h
    split at h
    · split at h
      · split at h
        · simp [sayO] at h
        · cases h
      · cases h
    · cases h
  | k + 1, hk => by
    refine (T9_ok hX).addRo ?_
    intro vs r h
    unfold rwordsS at h
    split at h
    · split at h
      · rename_i cs n x s hs
        have e := sysO_eq hs
        subst e
        split at h
        · rename_i hb
          split at h
          · rename_i l hl
            simp only [Option.some.injEq] at h
            subst h
            obtain ⟨r, σ', hv, hr, hp⟩ := rw_step (k := k) hb (by omega) hl
            exact isS_call hr (run_at (hX []) (TR_ok hX k (by omega)) rfl Tryd.func18 rfl hp hv)
          · cases h
        · cases h
      · cases h
    · cases h
end Go.Proofs.Num
end
/- Numeral: Words, from the specifications. -/
section
open Go Go.Vm Go.Proofs
namespace Go.Proofs.Num
/-! ### every number has words -/
theorem w6_id {n : Int} (h1 : -9223372036854775808 ≤ n) (h2 : n ≤ 9223372036854775807) : w6 n = n := by
  unfold w6
  rw [IntKind.wrap_i64]
  omega
/-- What a valid system is, for counting. -/
structure Good (s : NSys) : Prop where
  base : s.base = 10 ∨ s.base = 20
  dig : (s.digits.length : Int) = s.base
  pow : s.powers.length = 3
  sub0 : 0 ≤ s.sub
  sub1 : 2 * s.sub < s.base
theorem good_of {s : NSys} (h : validL s = true) : Good s := by
  simp only [validL, Bool.and_eq_true, Bool.not_eq_true'] at h
  obtain ⟨h1, _, _, h3⟩ := h
  simp only [bad1, Bool.or_eq_false_iff, Bool.and_eq_false_imp, bne_iff_ne, ne_eq, bne_eq_false_iff_eq] at h1
  obtain ⟨hb, hd, hp⟩ := h1
  have hbase : s.base = 10 ∨ s.base = 20 := by
    by_cases e : s.base = 10
    · exact .inl e
    · exact .inr (hb e)
  simp only [good3, Bool.and_eq_true, decide_eq_true_eq] at h3
  obtain ⟨h4, h5, _⟩ := h3
  have hq : w6 (s.base.tdiv 2) * 2 = s.base := by rcases hbase with e | e <;> rw [e] <;> rfl
  exact ⟨hbase, hd, by omega, h4, by omega⟩
section
variable {s : NSys}
theorem pow_le (hg : Good s) (i : Nat) : 1 ≤ s.base ^ i := by
  have h : (0 : Int) < s.base ^ i := Int.pow_pos (by have := hg.base; omega)
  omega
theorem pow_mono (hg : Good s) {i j : Nat} (h : i ≤ j) : s.base ^ i ≤ s.base ^ j := by
  obtain ⟨d, rfl⟩ : ∃ d, j = i + d := ⟨j - i, by omega⟩
  rw [Int.pow_add]
  have h1 := pow_le hg d
  have h2 := pow_le hg i
  have := Int.mul_le_mul_of_nonneg_left h1 (show 0 ≤ s.base ^ i by omega)
  rw [Int.mul_one] at this
  exact this
theorem say_digit (hg : Good s) (k : Nat) {n : Int} (h0 : 0 ≤ n) (hn : n < s.base) : ∃ l, sayO s (k + 1) n = some l := by
  have hl : n.toNat < s.digits.length := by have := hg.dig; omega
  simp only [sayO]
  rw [if_pos hn, if_pos h0, List.getElem?_eq_getElem hl]
  exact ⟨_, rfl⟩
theorem powK_le (s : NSys) (n : Int) : powK s n ≤ 2 := by
  unfold powK
  split
  · omega
  · split <;> omega
/-- The place of a number between the base and 9999. -/
theorem powK_spec (hg : Good s) {n : Int} (hb : s.base ≤ n) (hn : n ≤ 9999) : s.base ^ (powK s n + 1) ≤ n ∧ n < s.base ^ (powK s n + 2) := by
  unfold powK
  split
  · rename_i h
    simp only [Nat.zero_add]
    exact ⟨by rw [Int.pow_one]; exact hb, h⟩
  · rename_i h
    split
    · rename_i h3
      exact ⟨by simpa using h, h3⟩
    · rename_i h3
      refine ⟨by simpa using h3, ?_⟩
      rcases hg.base with e | e <;> rw [e] <;> (show n < _) <;> omega
/-- Quotient and remainder. -/
structure Parts (s : NSys) (n p q r : Int) : Prop where
  eq : n = q * p + r
  q1 : 1 ≤ q
  q2 : q < s.base
  r0 : 0 ≤ r
  r1 : r < p
theorem parts (hg : Good s) {n : Int} (hb : s.base ≤ n) (hn : n ≤ 9999) :
    Parts s n (s.base ^ (powK s n + 1)) (w6 (n.tdiv (s.base ^ (powK s n + 1)))) (n.tmod (s.base ^ (powK s n + 1))) := by
  obtain ⟨h1, h2⟩ := powK_spec hg hb hn
  have h0 : 0 ≤ n := by have := hg.base; omega
  have hp : 0 < s.base ^ (powK s n + 1) := Int.lt_of_lt_of_le (by decide) (pow_le hg _)
  rw [Int.tdiv_eq_ediv_of_nonneg h0, Int.tmod_eq_emod_of_nonneg h0]
  have hpow : s.base ^ (powK s n + 2) = s.base * s.base ^ (powK s n + 1) := by rw [Int.pow_succ, Int.mul_comm]
  generalize s.base ^ (powK s n + 1) = p at *
  have q0 : 1 ≤ n / p := (Int.le_ediv_iff_mul_le hp).2 (by omega)
  have qb : n / p < s.base := Int.ediv_lt_of_lt_mul hp (by rw [← hpow]; exact h2)
  have hbase := hg.base
  rw [w6_id (by omega) (by omega)]
  refine ⟨?_, q0, qb, Int.emod_nonneg _ (by omega), Int.emod_lt_of_pos _ hp⟩
  have := Int.mul_ediv_add_emod n p
  rw [Int.mul_comm p] at this
  omega
theorem pow_at (hg : Good s) {i : Nat} (hi : i ≤ 2) : ∃ w, s.powers[i]? = some w := by
  have : i < s.powers.length := by have := hg.pow; omega
  exact ⟨_, List.getElem?_eq_getElem this⟩
theorem lessL_iff (hg : Good s) {q p r : Int} (hq : q < 100) (hq0 : 0 ≤ q) (hp : p ≤ 1000000) (hp0 : 0 ≤ p) : lessL s q p r = true ↔ 0 < s.sub ∧ p - s.sub ≤ r ∧ q + 1 < s.base := by
  have := hg.sub0
  have := hg.sub1
  have := hg.base
  unfold lessL
  rw [w6_id (by omega) (by omega), w6_id (by omega) (by omega)]
  simp
theorem base_pow (hg : Good s) : ∀ {i : Nat}, i ≤ 2 → s.base ≤ s.base ^ (i + 1) ∧ s.base ^ (i + 1) ≤ 8000 := by
  intro i hi
  have h : i = 0 ∨ i = 1 ∨ i = 2 := by omega
  rcases hg.base with e | e <;> rw [e] <;> rcases h with rfl | rfl | rfl <;> decide
/-- A multiple of a power. -/
theorem say_mult (hg : Good s) (k : Nat) {q : Int} {i : Nat} (hi : i ≤ 2) (hq1 : 1 ≤ q) (hq2 : q < s.base) : ∃ l, sayO s (k + 2) (q * s.base ^ (i + 1)) = some l := by
  obtain ⟨b1, b2⟩ := base_pow hg hi
  have hbase := hg.base
  have hp0 : 0 < s.base ^ (i + 1) := by omega
  have hpb : s.base ≤ q * s.base ^ (i + 1) := by
    have : 1 * s.base ^ (i + 1) ≤ q * s.base ^ (i + 1) := Int.mul_le_mul_of_nonneg_right hq1 (by omega)
    omega
  have hup : q * s.base ^ (i + 1) < s.base ^ (i + 2) := by
    have : s.base ^ (i + 2) = s.base * s.base ^ (i + 1) := by rw [Int.pow_succ, Int.mul_comm]
    rw [this]
    exact Int.mul_lt_mul_of_pos_right hq2 hp0
  have hK : powK s (q * s.base ^ (i + 1)) = i := by
    have h : i = 0 ∨ i = 1 ∨ i = 2 := by omega
    have hlo : s.base ^ (i + 1) ≤ q * s.base ^ (i + 1) := by
      have : 1 * s.base ^ (i + 1) ≤ q * s.base ^ (i + 1) := Int.mul_le_mul_of_nonneg_right hq1 (by omega)
      omega
    generalize q * s.base ^ (i + 1) = n at *
    unfold powK
    rcases h with rfl | rfl | rfl
    · rw [if_pos hup]
    · rw [if_neg (by simpa using hlo), if_pos hup]
    · have : ¬ s.base ^ 2 > n := by
        have h23 : s.base ^ 2 ≤ s.base ^ 3 := by rcases hbase with e | e <;> rw [e] <;> decide
        have : s.base ^ 3 ≤ n := hlo
        omega
      rw [if_neg this, if_neg (by simpa using hlo)]
  have hq : w6 ((q * s.base ^ (i + 1)).tdiv (s.base ^ (i + 1))) = q := by
    rw [Int.mul_tdiv_cancel _ (by omega)]
    exact w6_id (by omega) (by omega)
  have hr : (q * s.base ^ (i + 1)).tmod (s.base ^ (i + 1)) = 0 := Int.mul_tmod_left _ _
  obtain ⟨w, hw⟩ := pow_at hg hi
  obtain ⟨a, ha⟩ := say_digit hg k (n := q) (by omega) hq2
  have hless : lessL s q (s.base ^ (i + 1)) 0 = false := by
    rw [Bool.eq_false_iff]
    intro h
    have := (lessL_iff hg (by omega) (by omega) (by omega) (by omega)).1 h
    have := hg.sub1
    omega
  rw [sayO]
  simp only [hK, hq, hr, hless, hw, ha]
  rw [if_neg (by omega)]
  simp only [Bool.false_eq_true, if_false, beq_self_eq_true, if_true]
  split
  · rename_i h
    split at h <;> cases h
  · exact ⟨_, rfl⟩
theorem say_some (hg : Good s) : ∀ (j k : Nat) {n : Int}, 0 ≤ n → n ≤ 9999 → n < s.base ^ (j + 1) → ∃ l, sayO s (k + j + 3) n = some l
  | 0, k, n, h0, h9, hn => say_digit hg (k + 2) h0 (by rw [Nat.zero_add, Int.pow_one] at hn; exact hn)
  | j + 1, k, n, h0, h9, hn => by
    by_cases hb : n < s.base
    · exact say_digit hg _ h0 hb
    · have hp := parts hg (by omega) h9
      obtain ⟨b1, b2⟩ := base_pow hg (powK_le s n)
      have hbase := hg.base
      obtain ⟨w, hw⟩ := pow_at hg (powK_le s n)
      obtain ⟨k1, k2⟩ := powK_spec hg (by omega) h9
      have hle : powK s n ≤ j := by
        rcases Nat.lt_or_ge j (powK s n) with h | h
        · have := pow_mono hg (show j + 1 + 1 ≤ powK s n + 1 by omega)
          omega
        · exact h
      have hrj : n.tmod (s.base ^ (powK s n + 1)) < s.base ^ (j + 1) := by
        have h3 := hp.r1
        have := pow_mono hg (show powK s n + 1 ≤ j + 1 by omega)
        omega
      generalize hP : s.base ^ (powK s n + 1) = p at *
      generalize hQ : w6 (n.tdiv p) = q at *
      generalize hR : n.tmod p = r at *
      obtain ⟨a, ha⟩ := say_digit hg (k + j + 2) (n := q) (by have := hp.q1; omega) hp.q2
      obtain ⟨c, hc⟩ := say_some hg j k (n := r) hp.r0 (by have := hp.r1; omega) hrj
      have hs0 := hg.sub0
      have hs1 := hg.sub1
      have q1 := hp.q1
      have q2 := hp.q2
      have r0 := hp.r0
      have r1 := hp.r1
      have e3 : k + (j + 1) + 3 = (k + j + 3) + 1 := by omega
      rw [e3, sayO]
      rw [if_neg hb]
      simp only [hP, hQ, hR, hw, ha, hc]
      split
      · rename_i hl
        have hl := (lessL_iff hg (by omega) (by omega) (by omega) (by omega)).1 hl
        obtain ⟨x, hx⟩ := say_digit hg (k + j + 2) (n := p - r) (by omega) (by omega)
        have e1 : w6 (p - r) = p - r := w6_id (by omega) (by omega)
        have e2 : w6 (q + 1) = q + 1 := w6_id (by omega) (by omega)
        have hm : 0 ≤ (q + 1) * p ∧ (q + 1) * p ≤ 20 * 8000 := by
          refine ⟨Int.mul_nonneg (by omega) (by omega), ?_⟩
          exact Int.mul_le_mul (by omega) (by omega) (by omega) (by omega)
        have e4 : w6 ((q + 1) * p) = (q + 1) * p := w6_id (by omega) (by omega)
        obtain ⟨y, hy⟩ := say_mult hg (k + j + 1) (q := q + 1) (powK_le s n) (by omega) hl.2.2
        rw [hP] at hy
        rw [e1, e2, e4, hx, hy]
        exact ⟨_, rfl⟩
      · split
        · rename_i h
          split at h <;> cases h
        · split
          · exact ⟨_, rfl⟩
          · exact ⟨_, rfl⟩
/-- Every number from 0 to 9999 has words. -/
theorem say_all9 (hg : Good s) {n : Int} (h0 : 0 ≤ n) (h9 : n ≤ 9999) : ∃ l, sayO s 6 n = some l := by
  have := say_some hg 3 0 h0 h9 (by rcases hg.base with e | e <;> rw [e] <;> (show n < _) <;> omega)
  exact this
end
end Go.Proofs.Num
end
/- Numeral: Words, the program's. -/
section
open Go Go.Vm Go.Proofs
namespace Go.Proofs.Num
theorem call_ext {X : Ext} {call : Caller} {f : FuncId} {vs : List AV} {r : AV} {σ : List Ob} {ro : Nat} {dr : Bool} (h1 : X.pureFn f = none) (h2 : X.stFn f = none) (hl : AV.ltAll 0 vs = true) (h : call f vs [] 0 = some (r, [])) (hp : r.pure = true) (ha : X.adopt f = false) :
    callv X call dr f vs σ ro = some (unfr r, σ) := by
  unfold callv
  rw [h1, h2]
  simp only [hl, if_true, h, hp, ha]
  simp
theorem unfr_lst (l : List ByteArray) : unfr (.list .fresh l.length 1 (l.map .str)) = lst l := rfl
theorem unfr_joinV (s : NSys) : unfr (joinV s) = joinV s := by unfold joinV; split <;> rfl
theorem pure_joinV (s : NSys) : (joinV s).pure = true := by unfold joinV; split <;> rfl
/-- Words' callees, as say needs them. -/
theorem sayCall {l : List Nat} (hl : memN 34 l = false ∧ memN 35 l = false ∧ memN 36 l = false ∧ memN 37 l = false) {T : Vm.Spec} (t34 : ∀ vs, T 34 vs = powS (roAll vs)) (t35 : ∀ vs, T 35 vs = lessS (roAll vs)) (t36 : ∀ vs, T 36 vs = collS' vs) (t37 : ∀ vs, T 37 vs = joiS (roAll vs)) {s : NSys} (hb : s.base = 10 ∨ s.base = 20)
    (call : Caller) (hc : ∀ f vs σ ro r, callerOf T f vs σ ro = some r → call f vs σ ro = some r) : SayCall (X15 l) call s 0 := by
  have key : ∀ f vs r, T f vs = some r → call f vs [] 0 = some (r, []) := by
    intro f vs r h
    apply hc
    simp only [callerOf, h]
  refine ⟨?_, ?_, ?_, ?_, ?_⟩
  · intro n ro
    have h : T 34 [AV.agg (sysC s), i6 n] = some (.tup [i6 (s.base ^ (powK s n + 1)), i6 (powK s n)]) := by
      have e2 : roAll [AV.agg (sysC s), i6 n] = [AV.agg (sysC s), i6 n] := by simp [roAll, roA, roAll_sysC]
      rw [t34, e2]
      simp only [powS, sysO_sysC]
      rw [if_pos hb]
    exact call_ext (X := X15 l) rfl rfl (by simp [AV.ltAll, AV.lt, lt_sysC]) (key _ _ _ h) rfl hl.1
  · intro q p r ro
    have h : T 35 [AV.agg (sysC s), i6 q, i6 p, i6 r] = some (.bool (lessL s q p r)) := by
      have e2 : roAll [AV.agg (sysC s), i6 q, i6 p, i6 r] = [AV.agg (sysC s), i6 q, i6 p, i6 r] := by simp [roAll, roA, roAll_sysC]
      rw [t35, e2]
      simp only [lessS, sysO_sysC]
    exact call_ext (X := X15 l) rfl rfl (by simp [AV.ltAll, AV.lt, lt_sysC]) (key _ _ _ h) rfl hl.2.1
  · intro ro
    have h : T 37 [AV.agg (sysC s)] = some (joinV s) := by
      rw [t37, roAll_sys]
      simp only [joiS, sysO_sysC]
    have := call_ext (X := X15 l) (dr := true) (σ := sayS s) (ro := ro) rfl rfl (lt_sys s) (key _ _ _ h) (pure_joinV s) hl.2.2.2
    rw [unfr_joinV] at this
    exact this
  · intro ps ls dr ro hlen hlt h1 h2 h3 h4 h5
    have h : T 36 [AV.list .clip ls.length 1 ps] = some (.list .fresh (joinL ls).length 1 ((joinL ls).map .str)) := by
      rw [t36]
      simp only [collS', isSOs_of hlen h5]
      rw [if_pos ⟨trivial, h1, by omega, headNe_of h3 h4⟩]
    exact call_ext (X := X15 l) rfl rfl (by simpa [AV.ltAll, AV.lt] using hlt) (key _ _ _ h) (by simp only [AV.pure, AV.lt]; exact lt_strs 0 _) hl.2.2.1
  · intro n l dr ro h
    simp [sayO] at h
/-! ### Words -/
def wordsO (s : NSys) (n : Int) : Option (List ByteArray × Int) :=
  if validL s = false ∨ n < 0 then some ([], 1) else if n > 9999 then some ([], 2) else match sayO s 6 n with
    | some l => some (l, 0)
    | none => none
def wordsS : List AV → Option AV
  | [.agg cs, .int .i64 n] => match sysO cs with
    | some s => if okS s then (match wordsO s n with
      | some (l, e) => some (.tup [lst l, i6 e])
      | none => none) else none
    | none => none
  | _ => none
def T10 : Vm.Spec := addS (TR 6) 16 fun vs => wordsS (roAll vs)
section
variable [Fixed]
variable (hX : ∀ l, ExtOk Tryd.prog (X15 l))
include hX
/-- nil, told as a list by value. -/
theorem nil_tup {f : FuncId} {vs : List AV} {σ : List Ob} {ro : Nat} {e : Int} {σ' : List Ob} (h : CallAt Tryd.prog f vs σ ro (.tup [.list .nil 0 0 [], i6 e]) σ') : CallAt Tryd.prog f vs σ ro (.tup [lst [], i6 e]) σ' := by
  refine ⟨h.1, fun C w us hσ hs hro hrep => Calls.mono (h.2 C w us hσ hs hro hrep) ?_⟩
  rintro e w' ⟨u, C', h1, h2, h3, h4, h5, h6⟩
  refine ⟨u, C', h1, h2, h3, h4, ?_, by simp [Fresh]⟩
  have := roA_rep C' w' _ _ h5
  exact (by simpa [roA, roAll] using this : Rep C' w' (AV.tup [AV.list LK.ro 0 1 [], i6 _]) u)
theorem words_ok : SpecOk Tryd.prog T10 := by
  have hT := TR_ok hX 6 (by omega)
  refine hT.addRo ?_
  intro vs r h
  unfold wordsS at h
  split at h
  · split at h
    · rename_i cs n x s hs
      have e := sysO_eq hs
      subst e
      split at h
      · rename_i hk
        have hv : ∀ {σ : List Ob} {ro : Nat}, callv (X15 []) (callerOf (TR 6)) false 22 [AV.agg (sysC s)] σ ro = some (bo (validL s), σ) := call_valid hX (fun _ => rfl) rfl hk
        split at h
        · rename_i l c hw
          simp only [Option.some.injEq] at h
          subst h
          unfold wordsO at hw
          split at hw
          · rename_i hbad
            simp only [Option.some.injEq, Prod.mk.injEq] at hw
            obtain ⟨rfl, rfl⟩ := hw
            cases hvv : validL s with
            | false =>
              rw [hvv] at hv
              exact nil_tup hX (run_at (hX []) hT rfl Tryd.func16 rfl rfl (words_pf s n (X15 []) (callerOf (TR 6)) 1 hv))
            | true =>
              rw [hvv] at hv hbad
              have hn : n < 0 := by simpa using hbad
              exact nil_tup hX (run_at (hX []) hT rfl Tryd.func16 rfl rfl (words_ptt s n (X15 []) (callerOf (TR 6)) 1 hv (decide_eq_true hn)))
          · rename_i hgood
            have hvv : validL s = true := by
              cases e : validL s with
              | true => rfl
              | false => exact absurd (.inl e) hgood
            have hn : ¬ n < 0 := fun h => hgood (.inr h)
            rw [hvv] at hv
            split at hw
            · rename_i hbig
              simp only [Option.some.injEq, Prod.mk.injEq] at hw
              obtain ⟨rfl, rfl⟩ := hw
              exact nil_tup hX (run_at (hX []) hT rfl Tryd.func16 rfl rfl (words_ptft s n (X15 []) (callerOf (TR 6)) 1 hv (decide_eq_false hn) (decide_eq_true hbig)))
            · rename_i hbig
              split at hw
              · rename_i l' hl
                simp only [Option.some.injEq, Prod.mk.injEq] at hw
                obtain ⟨rfl, rfl⟩ := hw
                have hb := (good_of hvv).base
                have hB : ∀ call, (∀ f vs σ ro r, callerOf (TR 6) f vs σ ro = some r → call f vs σ ro = some r) → SayCall (X15 []) call s 0 :=
                  fun call hc => sayCall (l := []) ⟨rfl, rfl, rfl, rfl⟩ (T := TR 6) (fun _ => rfl) (fun _ => rfl) (fun _ => rfl) (fun _ => rfl) hb call hc
                obtain ⟨call, hc, hext, hsay⟩ := caller_more (callerOf_ok hT) (S := sayS s) (fun f vs ro => rfl) (sayF s 6) (by
                  intro f vs r ro hr
                  unfold sayF at hr
                  split at hr
                  · split at hr
                    · rename_i a ha
                      simp only [Option.some.injEq] at hr
                      subst hr
                      exact say_all (hX []) hT hb rfl rfl rfl hB 6 (by omega) _ _ ro ha
                    · cases hr
                  · cases hr)
                have h33 : callv (X15 []) call false 33 (sayA n) (sayS s) 0 = some (lst l', sayS s) := callv_say rfl rfl fun ro => by
                  apply hsay
                  simp only [sayF, sayA, hl]
                have h22 : callv (X15 []) call false 22 [AV.agg (sysC s)] [Ob.cells (sysC s)] 0 = some (bo true, [Ob.cells (sysC s)]) := by
                  have ht : TR 6 22 [AV.agg (sysC s)] = some (.bool (validL s)) := (show TR 6 22 [AV.agg (sysC s)] = validS (roAll [AV.agg (sysC s)]) from rfl).trans (validS_sys hX hk)
                  have := call_ext (X := X15 []) (call := call) (dr := false) (σ := [Ob.cells (sysC s)]) (ro := 0) rfl rfl (lt_sys s) (hext 22 [AV.agg (sysC s)] [] 0 (.bool (validL s), []) (by simp only [callerOf, ht])) rfl rfl
                  rw [hvv] at this
                  exact this
                have hend : vend1 [] 0 (sayS s) [lst l', i6 0] = some (AV.tup [lst l', i6 0], sayS s) := by
                  have h : AV.thawAll (sayS s) [lst l', i6 0] = some [lst l', i6 0] := by simp [AV.thawAll, AV.thaw, thaw_strs]
                  unfold vend1
                  rw [h]
                  have h2 : AV.ownsAll [lst l', i6 0] = [] := by simp [AV.ownsAll, AV.owns, owns_strs]
                  rw [h2]
                  simp only [freezeIds]
                  rfl
                have hv := words_ptff s n l'.length (l'.map .str) (X15 []) call 1 h22 (decide_eq_false hn) (decide_eq_false hbig) h33 hend
                exact (body_at (hX []) hc rfl Tryd.func16 rfl hv).clean (by simp only [AV.pure, AV.lt, AV.ltAll, lt_strs, Bool.and_self])
              · cases hw
        · cases h
      · cases h
    · cases h
  · cases h
end
end Go.Proofs.Num
end
/- Numeral: the longest. -/
section
open Go Go.Vm Go.Proofs
namespace Go.Proofs.Num
def fg24 : Nat → List Nat
  | 1005 => [6]
  | _ => []

def loS0 (s : NSys) (n : Int) (B : Nat → Int) (M : Nat → Int) (i0 : Nat) : St :=
  stOf 36 [8, 9, 10, 18, 19, 20, 21, 22, 23, 24, 25, 26, 27, 28, 29, 30, 31, 32, 33] [(0, AV.agg (sysC s)), (1, i6 n), (2, AV.ref 0 0), (4, i6 0), (5, i6 0), (6, i6 (B i0)), (7, i6 (M i0)), (11, AV.agg (sysC s)), (12, bo true), (13, bo false), (14, i6 n), (15, i6 (if false = true then if n < 9999 then 9999 else n else if 9999 < n then 9999 else n)), (16, i6 (w6 ((if false = true then if n < 9999 then 9999 else n else if 9999 < n then 9999 else n) + 1))), (17, i6 (↑i0 : Int))] [Ob.cells (sysC s)]
def loS1 (s : NSys) (n : Int) (e : Int) (l : List ByteArray) (M : Nat → Int) (i0 : Nat) : St :=
  stOf 36 [] [(0, AV.agg (sysC s)), (1, i6 n), (2, AV.ref 0 0), (4, i6 0), (5, i6 0), (6, i6 (↑i0 : Int)), (7, i6 (↑(List.length l) : Int)), (8, i6 (↑i0 : Int)), (9, lro (List.length l) 1 (List.map st l)), (10, i6 e), (11, AV.agg (sysC s)), (12, bo true), (13, bo false), (14, i6 n), (15, i6 (if false = true then if n < 9999 then 9999 else n else if 9999 < n then 9999 else n)), (16, i6 (w6 ((if false = true then if n < 9999 then 9999 else n else if 9999 < n then 9999 else n) + 1))), (17, i6 (w6 ((↑i0 : Int) + 1))), (18, bo true), (19, i6 (↑i0 : Int)), (20, AV.tup [lro (List.length l) 1 (List.map st l), i6 e]), (21, AV.agg (sysC s)), (22, i6 (↑i0 : Int)), (23, AV.tup [lro (List.length l) 1 (List.map st l), i6 e]), (24, lro (List.length l) 1 (List.map st l)), (25, i6 e), (26, lro (List.length l) 1 (List.map st l)), (27, i6 (↑(List.length l) : Int)), (28, i6 (M i0)), (29, bo true), (30, i6 (↑i0 : Int)), (31, lro (List.length l) 1 (List.map st l)), (32, i6 (↑(List.length l) : Int)), (33, i6 (w6 ((↑i0 : Int) + 1)))] [Ob.cells (sysC s)]
def loS2 (s : NSys) (n : Int) (e : Int) (l : List ByteArray) (B : Nat → Int) (M : Nat → Int) (i0 : Nat) : St :=
  stOf 36 [30, 31, 32] [(0, AV.agg (sysC s)), (1, i6 n), (2, AV.ref 0 0), (4, i6 0), (5, i6 0), (6, i6 (B i0)), (7, i6 (M i0)), (8, i6 (↑i0 : Int)), (9, lro (List.length l) 1 (List.map st l)), (10, i6 e), (11, AV.agg (sysC s)), (12, bo true), (13, bo false), (14, i6 n), (15, i6 (if false = true then if n < 9999 then 9999 else n else if 9999 < n then 9999 else n)), (16, i6 (w6 ((if false = true then if n < 9999 then 9999 else n else if 9999 < n then 9999 else n) + 1))), (17, i6 (w6 ((↑i0 : Int) + 1))), (18, bo true), (19, i6 (↑i0 : Int)), (20, AV.tup [lro (List.length l) 1 (List.map st l), i6 e]), (21, AV.agg (sysC s)), (22, i6 (↑i0 : Int)), (23, AV.tup [lro (List.length l) 1 (List.map st l), i6 e]), (24, lro (List.length l) 1 (List.map st l)), (25, i6 e), (26, lro (List.length l) 1 (List.map st l)), (27, i6 (↑(List.length l) : Int)), (28, i6 (M i0)), (29, bo false), (33, i6 (w6 ((↑i0 : Int) + 1)))] [Ob.cells (sysC s)]
def loS3 (s : NSys) (n : Int) (B : Nat → Int) (M : Nat → Int) (i0 : Nat) : St :=
  stOf 36 [8, 9, 10, 19, 20, 21, 22, 23, 24, 25, 26, 27, 28, 29, 30, 31, 32, 33] [(0, AV.agg (sysC s)), (1, i6 n), (2, AV.ref 0 0), (4, i6 0), (5, i6 0), (6, i6 (B i0)), (7, i6 (M i0)), (11, AV.agg (sysC s)), (12, bo true), (13, bo false), (14, i6 n), (15, i6 (if false = true then if n < 9999 then 9999 else n else if 9999 < n then 9999 else n)), (16, i6 (w6 ((if false = true then if n < 9999 then 9999 else n else if 9999 < n then 9999 else n) + 1))), (17, i6 (↑i0 : Int)), (18, bo false)] [Ob.cells (sysC s)]
def loS4 (s : NSys) (n : Int) : St :=
  stOf 36 [] [(0, AV.agg (sysC s)), (1, i6 n), (2, AV.ref 0 0), (4, i6 0), (5, i6 0), (6, i6 0), (7, i6 0), (11, AV.agg (sysC s)), (12, bo true), (13, bo false), (14, i6 n), (15, i6 (if false = true then if n < 9999 then 9999 else n else if 9999 < n then 9999 else n)), (16, i6 (w6 ((if false = true then if n < 9999 then 9999 else n else if 9999 < n then 9999 else n) + 1))), (17, i6 0)] [Ob.cells (sysC s)]
theorem lo_r0_tt (s : NSys) (n : Int) (e : Int) (l : List ByteArray) (B : Nat → Int) (M : Nat → Int) (X : Ext) (call : Caller) (lf : Nat) (i0 : Nat)
  (h0 : decide ((↑i0 : Int) < w6 ((if false = true then if n < 9999 then 9999 else n else if 9999 < n then 9999 else n) + 1)) = true)
  (h1 : callv X call false 16 [AV.agg (sysC s), i6 (↑i0 : Int)] [Ob.cells (sysC s)] 0 = some (AV.tup [lro (List.length l) 1 (List.map st l), i6 e], [Ob.cells (sysC s)]))
  (h2 : decide ((↑(List.length l) : Int) > M i0) = true) : vexec Tryd.prog X call lf 0 fg24 (loopN Tryd.f24 0) (loS0 s n B M i0) = some (Ex.normal, (loS1 s n e l M i0)) :=
  around_sound (ans := [(1, Ans.b true), (9, Ans.v (AV.tup [lro (List.length l) 1 (List.map st l), i6 e])), (19, Ans.b true)]) (by kernel_rfl) (And.intro h0 (And.intro h1 (And.intro h2 trivial)))
theorem lo_r0_tf (s : NSys) (n : Int) (e : Int) (l : List ByteArray) (B : Nat → Int) (M : Nat → Int) (X : Ext) (call : Caller) (lf : Nat) (i0 : Nat)
  (h0 : decide ((↑i0 : Int) < w6 ((if false = true then if n < 9999 then 9999 else n else if 9999 < n then 9999 else n) + 1)) = true)
  (h1 : callv X call false 16 [AV.agg (sysC s), i6 (↑i0 : Int)] [Ob.cells (sysC s)] 0 = some (AV.tup [lro (List.length l) 1 (List.map st l), i6 e], [Ob.cells (sysC s)]))
  (h2 : decide ((↑(List.length l) : Int) > M i0) = false) : vexec Tryd.prog X call lf 0 fg24 (loopN Tryd.f24 0) (loS0 s n B M i0) = some (Ex.normal, (loS2 s n e l B M i0)) :=
  around_sound (ans := [(1, Ans.b true), (9, Ans.v (AV.tup [lro (List.length l) 1 (List.map st l), i6 e])), (19, Ans.b false)]) (by kernel_rfl) (And.intro h0 (And.intro h1 (And.intro h2 trivial)))
theorem lo_r0_f (s : NSys) (n : Int) (B : Nat → Int) (M : Nat → Int) (X : Ext) (call : Caller) (lf : Nat) (i0 : Nat)
  (h0 : decide ((↑i0 : Int) < w6 ((if false = true then if n < 9999 then 9999 else n else if 9999 < n then 9999 else n) + 1)) = false) : vexec Tryd.prog X call lf 0 fg24 (loopN Tryd.f24 0) (loS0 s n B M i0) = some (Ex.exit 0, (loS3 s n B M i0)) :=
  around_sound (ans := [(1, Ans.b false)]) (by kernel_rfl) (And.intro h0 trivial)
theorem lo_ptlf (s : NSys) (n : Int) (B : Nat → Int) (M : Nat → Int) (X : Ext) (call : Caller) (lf : Nat) (i0 : Nat)
  (h0 : callv X call false 22 [AV.agg (sysC s)] [Ob.cells (sysC s)] 0 = some (bo true, [Ob.cells (sysC s)]))
  (h1 : vexec Tryd.prog X call lf 0 fg24 (Code.loop (loopN Tryd.f24 0)) (loS4 s n) = some (Ex.exit 0, (loS3 s n B M i0))) : vbody Tryd.prog X call lf fg24 Tryd.f24 (codeOf Tryd.f24) [AV.agg (sysC s), i6 n] [] 0 = some (AV.tup [i6 (B i0), i6 (M i0)], [Ob.cells (sysC s)]) :=
  along_sound (ans := [(9, Ans.v (bo true)), (17, Ans.l (Ex.exit 0) (loS3 s n B M i0))]) (by kernel_rfl) (And.intro h0 (And.intro h1 trivial))
theorem lo_pf (s : NSys) (n : Int) (X : Ext) (call : Caller) (lf : Nat)
  (h0 : callv X call false 22 [AV.agg (sysC s)] [Ob.cells (sysC s)] 0 = some (bo false, [Ob.cells (sysC s)])) : vbody Tryd.prog X call lf fg24 Tryd.f24 (codeOf Tryd.f24) [AV.agg (sysC s), i6 n] [] 0 = some (AV.tup [i6 0, i6 0], [Ob.cells (sysC s)]) :=
  along_sound (ans := [(9, Ans.v (bo false))]) (by kernel_rfl) (And.intro h0 trivial)
theorem lim_pt (n : Int) (X : Ext) (call : Caller) (lf : Nat)
  (h0 : decide (n > 9999) = true) : vbody Tryd.prog X call lf noFg Tryd.f25 (codeOf Tryd.f25) [i6 n] [] 0 = some (i6 9999, []) :=
  along_sound (ans := [(4, Ans.b true)]) (by kernel_rfl) (And.intro h0 trivial)
theorem lim_pf (n : Int) (X : Ext) (call : Caller) (lf : Nat)
  (h0 : decide (n > 9999) = false) : vbody Tryd.prog X call lf noFg Tryd.f25 (codeOf Tryd.f25) [i6 n] [] 0 = some (i6 n, []) :=
  along_sound (ans := [(4, Ans.b false)]) (by kernel_rfl) (And.intro h0 trivial)

def limO (n : Int) : Int := if 9999 < n then 9999 else n
def longO (s : NSys) : Nat → Int × Int
  | 0 => (0, 0)
  | i + 1 => match sayO s 6 (i : Int) with
    | some l => if (l.length : Int) > (longO s i).2 then ((i : Int), (l.length : Int)) else longO s i
    | none => longO s i
def longestO (s : NSys) (n : Int) : Int × Int := if validL s then longO s (limO n + 1).toNat else (0, 0)
def longestS : List AV → Option AV
  | [.agg cs, .int .i64 n] => match sysO cs with
    | some s => if okS s = true ∧ -9223372036854775808 ≤ n then some (.tup [i6 (longestO s n).1, i6 (longestO s n).2]) else none
    | none => none
  | _ => none
def limS : List AV → Option AV
  | [.int .i64 n] => some (i6 (limO n))
  | _ => none
def T11 : Vm.Spec := addS (addS T10 24 fun vs => longestS (roAll vs)) 25 limS
abbrev D24 : List Nat := [33, 6, 32, 31, 30, 29, 28, 27, 26, 10, 9, 25, 24, 20, 23, 22, 21, 8, 19, 18]
theorem dead24 : deadK fg24 (loopN Tryd.f24 0) = [33, 32, 31, 30, 29, 28, 27, 26, 10, 9, 25, 24, 20, 23, 22, 21, 8, 19, 18] := by kernel_rfl
/-- Words, called. -/
theorem call_words {T : Vm.Spec} (hT : ∀ vs, T 16 vs = wordsS (roAll vs)) {l : List Nat} (hl : memN 16 l = false) {s : NSys} (h : okS s = true) {n c : Int} {ws : List ByteArray} (hw : wordsO s n = some (ws, c)) {dr : Bool} {σ : List Ob} {ro : Nat} :
    callv (X15 l) (callerOf T) dr 16 [AV.agg (sysC s), i6 n] σ ro = some (.tup [lst ws, i6 c], σ) := by
  have e2 : roAll [AV.agg (sysC s), i6 n] = [AV.agg (sysC s), i6 n] := by simp [roAll, roA, roAll_sysC]
  have ht : T 16 [AV.agg (sysC s), i6 n] = some (.tup [lst ws, i6 c]) := by
    rw [hT, e2]
    simp only [wordsS, sysO_sysC, h, if_true, hw]
  have := call_spec (X := X15 l) (T := T) (f := 16) (dr := dr) (σ := σ) (ro := ro) rfl rfl (by simp [AV.ltAll, AV.lt, lt_sysC]) ht (by simp only [AV.pure, AV.lt, AV.ltAll, lt_strs, Bool.and_self])
  rw [this]
  have e : (X15 l).adopt 16 = false := hl
  rw [e]
  cases dr <;> rfl
theorem words_some {s : NSys} (hv : validL s = true) {n : Int} (h0 : 0 ≤ n) (h9 : n ≤ 9999) : ∃ l, sayO s 6 n = some l ∧ wordsO s n = some (l, 0) := by
  obtain ⟨l, hl⟩ := say_all9 (good_of hv) h0 h9
  refine ⟨l, hl, ?_⟩
  unfold wordsO
  rw [if_neg (by rw [hv]; simp; omega), if_neg (by omega), hl]
theorem lim_if (n : Int) : (if false = true then if n < 9999 then 9999 else n else if 9999 < n then 9999 else n) = limO n := rfl
section
variable [Fixed]
variable (hX : ∀ l, ExtOk Tryd.prog (X15 l))
include hX
theorem longest_run {s : NSys} (hk : okS s = true) {n : Int} (hn : -9223372036854775808 ≤ n) : vbody Tryd.prog (X15 []) (callerOf T10) 10001 fg24 Tryd.f24 (codeOf Tryd.f24) [AV.agg (sysC s), i6 n] [] 0 = some (AV.tup [i6 (longestO s n).1, i6 (longestO s n).2], [Ob.cells (sysC s)]) := by
  have hv : ∀ {σ : List Ob} {ro : Nat}, callv (X15 []) (callerOf T10) false 22 [AV.agg (sysC s)] σ ro = some (bo (validL s), σ) := call_valid hX (fun _ => rfl) rfl hk
  unfold longestO
  cases hvv : validL s with
  | false =>
    rw [hvv] at hv
    exact lo_pf s n (X15 []) (callerOf T10) 10001 hv
  | true =>
    rw [hvv] at hv
    rw [if_pos rfl]
    have hlim : limO n ≤ 9999 := by unfold limO; split <;> omega
    have hlim2 : -9223372036854775808 ≤ limO n := by unfold limO; split <;> omega
    have hw : w6 (limO n + 1) = limO n + 1 := w6_id (by omega) (by omega)
    have hloop := loop_runK (P := Tryd.prog) (X := X15 []) (call := callerOf T10) (lf := 10001) (ro := 0) (fg := fg24) dead24 (loS0 s n (fun i => (longO s i).1) (fun i => (longO s i).2)) (limO n + 1).toNat (by omega) (S := loS4 s n)
      (by
        unfold loS0 loS4
        show _ = _
        kernel_rfl)
      (fun i hi => by
        obtain ⟨l, hl, hwo⟩ := words_some (n := (i : Int)) hvv (by omega) (by omega)
        have hc := call_words (T := T10) (fun _ => rfl) (l := []) rfl hk hwo (dr := false) (σ := [Ob.cells (sysC s)]) (ro := 0)
        have hlt : decide ((↑i : Int) < w6 ((if false = true then if n < 9999 then 9999 else n else if 9999 < n then 9999 else n) + 1)) = true := by
          rw [lim_if, hw]
          exact decide_eq_true (by omega)
        have e1 : w6 ((i : Int) + 1) = ((i + 1 : Nat) : Int) := wrap_small (by omega)
        cases hb : decide ((↑l.length : Int) > (longO s i).2) with
        | true =>
          refine ⟨_, lo_r0_tt s n 0 l (fun i => (longO s i).1) (fun i => (longO s i).2) (X15 []) (callerOf T10) 10001 i hlt hc hb, ?_⟩
          have e2 : longO s (i + 1) = ((i : Int), (l.length : Int)) := by
            simp only [longO, hl]
            rw [if_pos (of_decide_eq_true hb)]
          unfold loS1 loS0
          simp only [e1, e2]
          show _ = _
          kernel_rfl
        | false =>
          refine ⟨_, lo_r0_tf s n 0 l (fun i => (longO s i).1) (fun i => (longO s i).2) (X15 []) (callerOf T10) 10001 i hlt hc hb, ?_⟩
          have e2 : longO s (i + 1) = longO s i := by
            simp only [longO, hl]
            rw [if_neg (of_decide_eq_false hb)]
          unfold loS2 loS0
          simp only [e1, e2]
          show _ = _
          kernel_rfl)
      (lo_r0_f s n (fun i => (longO s i).1) (fun i => (longO s i).2) (X15 []) (callerOf T10) 10001 (limO n + 1).toNat (by
        rw [lim_if, hw]
        exact decide_eq_false (by omega))) (by simp)
    exact lo_ptlf s n (fun i => (longO s i).1) (fun i => (longO s i).2) (X15 []) (callerOf T10) 10001 (limO n + 1).toNat hv hloop
theorem T11_ok : SpecOk Tryd.prog T11 := by
  refine (SpecOk.addRo (words_ok hX) ?_).add ?_
  · intro vs r h
    unfold longestS at h
    split at h
    · split at h
      · rename_i cs n x s hs
        have e := sysO_eq hs
        subst e
        split at h
        · rename_i hk
          simp only [Option.some.injEq] at h
          subst h
          exact run_at (hX []) (words_ok hX) rfl Tryd.func24 rfl rfl (longest_run hX hk.1 hk.2)
        · cases h
      · cases h
    · cases h
  · intro vs r h
    unfold limS at h
    split at h
    · rename_i n
      simp only [Option.some.injEq] at h
      subst h
      unfold limO
      by_cases hn : 9999 < n
      · rw [if_pos hn]
        exact run_at (hX []) (words_ok hX) rfl Tryd.func25 rfl rfl (lim_pt n (X15 []) (callerOf T10) 1 (decide_eq_true hn))
      · rw [if_neg hn]
        exact run_at (hX []) (words_ok hX) rfl Tryd.func25 rfl rfl (lim_pf n (X15 []) (callerOf T10) 1 (decide_eq_false hn))
    · cases h
end
end Go.Proofs.Num
end
/- Numeral: the example. -/
section
open Go Go.Vm Go.Proofs
namespace Go.Proofs.Num
def eng : NSys := ⟨10, [ByteArray.mk #[122, 101, 114, 111], ByteArray.mk #[111, 110, 101], ByteArray.mk #[116, 119, 111], ByteArray.mk #[116, 104, 114, 101, 101], ByteArray.mk #[102, 111, 117, 114], ByteArray.mk #[102, 105, 118, 101], ByteArray.mk #[115, 105, 120], ByteArray.mk #[115, 101, 118, 101, 110], ByteArray.mk #[101, 105, 103, 104, 116], ByteArray.mk #[110, 105, 110, 101]],
  [ByteArray.mk #[116, 101, 110], ByteArray.mk #[104, 117, 110, 100, 114, 101, 100], ByteArray.mk #[116, 104, 111, 117, 115, 97, 110, 100]], false, ByteArray.mk #[97, 110, 100], 2, ByteArray.mk #[102, 114, 111, 109], false⟩
theorem eng_ok : okS eng = true := by kernel_rfl
theorem eng_valid : validL eng = true := by kernel_rfl
theorem eng_199 : wordsO eng 199 = some ([ByteArray.mk #[111, 110, 101], ByteArray.mk #[102, 114, 111, 109], ByteArray.mk #[116, 119, 111], ByteArray.mk #[104, 117, 110, 100, 114, 101, 100]], 0) := by kernel_rfl
abbrev eng23L : List ByteArray := [ByteArray.mk #[116, 119, 111], ByteArray.mk #[116, 101, 110], ByteArray.mk #[97, 110, 100], ByteArray.mk #[116, 104, 114, 101, 101]]
theorem eng_23 : wordsO eng 23 = some (eng23L, 0) := by kernel_rfl
theorem eng_long : longestO eng 27 = (11, 4) := by kernel_rfl
def engV : AV := AV.agg [i6 10, AV.list LK.clip 10 1 (eng.digits.map .str), AV.list LK.clip 3 1 (eng.powers.map .str), bo false, st (ByteArray.mk #[97, 110, 100]), i6 2, st (ByteArray.mk #[102, 114, 111, 109]), bo false]
def engS : List AV → Option AV
  | [] => some engV
  | _ => none
def isEng (s : NSys) : Bool := decide (s.base = eng.base) && (decide (s.digits = eng.digits) && (decide (s.powers = eng.powers) && (decide (s.sf = eng.sf) && (decide (s.jo = eng.jo) && (decide (s.sub = eng.sub) && (decide (s.le = eng.le) && decide (s.om = eng.om)))))))
theorem isEng_eq {s : NSys} (h : isEng s = true) : s = eng := by
  simp only [isEng, Bool.and_eq_true, decide_eq_true_eq] at h
  obtain ⟨h1, h2, h3, h4, h5, h6, h7, h8⟩ := h
  cases s
  simp only at h1 h2 h3 h4 h5 h6 h7 h8
  subst h1; subst h2; subst h3; subst h4; subst h5; subst h6; subst h7; subst h8
  rfl
def parseEngS : List AV → Option AV
  | [.agg cs, .list .ro 4 1 ts] => match sysO cs, strsO ts with
    | some s, some l => if isEng s = true ∧ l = eng23L then some (.list .ro 1 1 [i6 23]) else none
    | _, _ => none
  | _ => none
def intsO : List AV → Option (List Int)
  | [] => some []
  | .int .i64 n :: l => match intsO l with
    | some r => some (n :: r)
    | none => none
  | _ => none
theorem intsO_map : ∀ (l : List Int), intsO (l.map i6) = some l
  | [] => rfl
  | s :: l => by simp [intsO, intsO_map l]
theorem intsO_eq : ∀ {cs : List AV} {l : List Int}, intsO cs = some l → cs = l.map i6
  | [], l, h => by simp only [intsO, Option.some.injEq] at h; subst h; rfl
  | c :: cs, l, h => by
    unfold intsO at h
    split at h
    · rename_i e; cases e
    · rename_i s l' e
      simp only [List.cons.injEq] at e
      obtain ⟨rfl, rfl⟩ := e
      split at h
      · rename_i r hr
        simp only [Option.some.injEq] at h
        subst h
        rw [intsO_eq hr]
        rfl
      · cases h
    · cases h
/-- A list of numbers, told somehow. -/
def isIO : AV → Option (List Int)
  | .list _ n sz cs => if n = 0 then some [] else if sz = 1 then (match intsO cs with
    | some l => if n = l.length then some l else none
    | none => none) else none
  | _ => none
theorem isIO_shape {v : AV} {l : List Int} (h : isIO v = some l) : ∃ k sz cs, v = .list k l.length sz cs ∧ (0 < l.length → sz = 1 ∧ cs = l.map i6) := by
  unfold isIO at h
  split at h
  · split at h
    · rename_i e
      simp only [Option.some.injEq] at h
      subst h; subst e
      exact ⟨_, _, _, rfl, fun h => by simp at h⟩
    · split at h
      · rename_i e
        subst e
        split at h
        · rename_i l' hl
          split at h
          · rename_i e
            simp only [Option.some.injEq] at h
            subst h; subst e
            exact ⟨_, _, _, rfl, fun _ => ⟨rfl, intsO_eq hl⟩⟩
          · cases h
        · cases h
      · cases h
  · cases h
def intsS : List AV → Option AV
  | [a, b] => match isIO a, isIO b with
    | some l, some m => if l.length ≤ 140737488355328 then some (.bool (intsL l m)) else none
    | _, _ => none
  | _ => none
def awakeS : List AV → Option AV
  | [] => some (.bool true)
  | _ => none
def T12 : Vm.Spec := addS (addS (addS T11 32 engS) 19 intsS) 20 fun vs => parseEngS (roAll vs)
def T13 : Vm.Spec := addS T12 15 awakeS
def fstO : Option (AV × List Ob) → Option AV
  | some (r, _) => some r
  | none => none
theorem parse_eng [Fixed] : fstO (vbody Tryd.prog (X15 [39]) (vcallW Tryd.prog (X15 [39]) T11 11) 1000 noFg Tryd.f20 (codeOf Tryd.f20) [.agg (sysC eng), lst eng23L] [] 0) = some (.list .ro 1 1 [i6 23]) := by kernel_rfl
theorem awake_run : fstO (vbody Tryd.prog (X15 []) (callerOf T12) 1 noFg Tryd.f15 (codeOf Tryd.f15) [] [] 0) = some (.bool true) := by kernel_rfl
theorem run_of {o : Option (AV × List Ob)} {r : AV} (h : fstO o = some r) : ∃ σ', o = some (r, σ') := by
  cases o with
  | none => cases h
  | some x => simp only [fstO, Option.some.injEq] at h; subst h; exact ⟨_, rfl⟩
section
variable [Fixed]
variable (hX : ∀ l, ExtOk Tryd.prog (X15 l))
include hX
theorem T12_ok : SpecOk Tryd.prog T12 := by
  refine (SpecOk.add (SpecOk.add (T11_ok hX) ?_) ?_).addRo ?_
  · intro vs r h
    unfold engS at h
    split at h
    · simp only [Option.some.injEq] at h
      subst h
      exact run_at (hX []) (T11_ok hX) rfl Tryd.func32 rfl rfl (english_p (X15 []) (callerOf T11) 1)
    · cases h
  · intro vs r h
    unfold intsS at h
    split at h
    · split at h
      · rename_i a b l m ha hb
        split at h
        · rename_i hk
          simp only [Option.some.injEq] at h
          subst h
          obtain ⟨ka, sa, ca, rfl, h1⟩ := isIO_shape ha
          obtain ⟨kb, sb, cb, rfl, h2⟩ := isIO_shape hb
          exact run_at (hX []) (T11_ok hX) rfl Tryd.func19 rfl rfl (ints_spec (X15 []) (callerOf T11) (l.length + 1) ka kb sa sb hk (by omega) h1 h2)
        · cases h
      · cases h
    · cases h
  · intro vs r h
    unfold parseEngS at h
    split at h
    · split at h
      · rename_i cs ts x y s l hs hl
        split at h
        · rename_i hk
          simp only [Option.some.injEq] at h
          subst h
          have e1 := sysO_eq hs
          have e2 := strsO_eq hl
          have e3 := isEng_eq hk.1
          have e4 := hk.2
          subst e1; subst e2; subst e3; subst e4
          obtain ⟨σ', hv⟩ := run_of (parse_eng)
          exact (body_at (hX [39]) (vcallW_ok (hX [39]) (T11_ok hX) 11) rfl Tryd.func20 rfl hv).clean rfl
        · cases h
      · cases h
    · cases h
theorem T13_ok : SpecOk Tryd.prog T13 := by
  refine (T12_ok hX).add ?_
  intro vs r h
  unfold awakeS at h
  split at h
  · simp only [Option.some.injEq] at h
    subst h
    obtain ⟨σ', hv⟩ := run_of awake_run
    exact run_at (hX []) (T12_ok hX) rfl Tryd.func15 rfl rfl hv
  · cases h
end
end Go.Proofs.Num
end
/- Numeral: the law of words. -/
section
open Go Go.Vm Go.Proofs
namespace Go.Proofs.Num
theorem lwa_p (s : NSys) (n : Int) (X : Ext) (call : Caller) (lf : Nat)
  (h0 : callv X call false 13 [AV.agg (sysC s)] [Ob.cells (sysC s)] 0 = some (bo false, [Ob.cells (sysC s)]))
  (h1 : callv X call false 15 [] [Ob.cells (sysC s)] 0 = some (bo true, [Ob.cells (sysC s)])) : vbody Tryd.prog X call lf noFg Tryd.f3 (codeOf Tryd.f3) [AV.agg (sysC s), i6 n] [] 0 = some (bo true, [Ob.cells (sysC s)]) :=
  along_sound (ans := [(5, Ans.v (bo false)), (14, Ans.v (bo true))]) (by kernel_rfl) (And.intro h0 (And.intro h1 trivial))
theorem lwb_p (s : NSys) (n : Int) (X : Ext) (call : Caller) (lf : Nat)
  (h0 : callv X call false 13 [AV.agg (sysC s)] [Ob.cells (sysC s)] 0 = some (bo true, [Ob.cells (sysC s)]))
  (h1 : callv X call false 14 [AV.agg (sysC s)] [Ob.cells (sysC s)] 0 = some (bo false, [Ob.cells (sysC s)]))
  (h2 : callv X call false 15 [] [Ob.cells (sysC s)] 0 = some (bo true, [Ob.cells (sysC s)])) : vbody Tryd.prog X call lf noFg Tryd.f3 (codeOf Tryd.f3) [AV.agg (sysC s), i6 n] [] 0 = some (bo true, [Ob.cells (sysC s)]) :=
  along_sound (ans := [(5, Ans.v (bo true)), (11, Ans.v (bo false)), (17, Ans.v (bo true))]) (by kernel_rfl) (And.intro h0 (And.intro h1 (And.intro h2 trivial)))
theorem lwc_pt (s : NSys) (n : Int) (X : Ext) (call : Caller) (lf : Nat)
  (h0 : callv X call false 13 [AV.agg (sysC s)] [Ob.cells (sysC s)] 0 = some (bo true, [Ob.cells (sysC s)]))
  (h1 : callv X call false 14 [AV.agg (sysC s)] [Ob.cells (sysC s)] 0 = some (bo true, [Ob.cells (sysC s)]))
  (h2 : callv X call false 16 [AV.agg (sysC s), i6 n] [Ob.cells (sysC s)] 0 = some (AV.tup [lro 0 1 [], i6 1], [Ob.cells (sysC s)]))
  (h3 : decide (n < 0) = true)
  (h4 : callv X call false 15 [] [Ob.cells (sysC s)] 0 = some (bo true, [Ob.cells (sysC s)])) : vbody Tryd.prog X call lf noFg Tryd.f3 (codeOf Tryd.f3) [AV.agg (sysC s), i6 n] [] 0 = some (bo true, [Ob.cells (sysC s)]) :=
  along_sound (ans := [(5, Ans.v (bo true)), (11, Ans.v (bo true)), (19, Ans.v (AV.tup [lro 0 1 [], i6 1])), (27, Ans.b true), (30, Ans.v (bo true))]) (by kernel_rfl) (And.intro h0 (And.intro h1 (And.intro h2 (And.intro h3 (And.intro h4 trivial)))))
theorem lwd_pft (s : NSys) (n : Int) (X : Ext) (call : Caller) (lf : Nat)
  (h0 : callv X call false 13 [AV.agg (sysC s)] [Ob.cells (sysC s)] 0 = some (bo true, [Ob.cells (sysC s)]))
  (h1 : callv X call false 14 [AV.agg (sysC s)] [Ob.cells (sysC s)] 0 = some (bo true, [Ob.cells (sysC s)]))
  (h2 : callv X call false 16 [AV.agg (sysC s), i6 n] [Ob.cells (sysC s)] 0 = some (AV.tup [lro 0 1 [], i6 2], [Ob.cells (sysC s)]))
  (h3 : decide (n < 0) = false)
  (h4 : decide (n > 9999) = true)
  (h5 : callv X call false 15 [] [Ob.cells (sysC s)] 0 = some (bo true, [Ob.cells (sysC s)])) : vbody Tryd.prog X call lf noFg Tryd.f3 (codeOf Tryd.f3) [AV.agg (sysC s), i6 n] [] 0 = some (bo true, [Ob.cells (sysC s)]) :=
  along_sound (ans := [(5, Ans.v (bo true)), (11, Ans.v (bo true)), (19, Ans.v (AV.tup [lro 0 1 [], i6 2])), (27, Ans.b false), (31, Ans.b true), (34, Ans.v (bo true))]) (by kernel_rfl) (And.intro h0 (And.intro h1 (And.intro h2 (And.intro h3 (And.intro h4 (And.intro h5 trivial))))))
theorem lwe_pff (s : NSys) (n : Int) (l : List ByteArray) (m : List ByteArray) (X : Ext) (call : Caller) (lf : Nat)
  (h0 : callv X call false 13 [AV.agg (sysC s)] [Ob.cells (sysC s)] 0 = some (bo true, [Ob.cells (sysC s)]))
  (h1 : callv X call false 14 [AV.agg (sysC s)] [Ob.cells (sysC s)] 0 = some (bo true, [Ob.cells (sysC s)]))
  (h2 : callv X call false 16 [AV.agg (sysC s), i6 n] [Ob.cells (sysC s)] 0 = some (AV.tup [lro (List.length l) 1 (List.map st l), i6 0], [Ob.cells (sysC s)]))
  (h3 : decide (n < 0) = false)
  (h4 : decide (n > 9999) = false)
  (h5 : callv X call false 15 [] [Ob.cells (sysC s)] 0 = some (bo true, [Ob.cells (sysC s)]))
  (h6 : callv X call false 18 [AV.agg (sysC s), i6 n] [Ob.cells (sysC s)] 0 = some (lro (List.length m) 1 (List.map st m), [Ob.cells (sysC s)]))
  (h7 : callv X call false 17 [lro (List.length l) 1 (List.map st l), lro (List.length m) 1 (List.map st m)] [Ob.cells (sysC s)] 0 = some (bo true, [Ob.cells (sysC s)])) : vbody Tryd.prog X call lf noFg Tryd.f3 (codeOf Tryd.f3) [AV.agg (sysC s), i6 n] [] 0 = some (bo true, [Ob.cells (sysC s)]) :=
  along_sound (ans := [(5, Ans.v (bo true)), (11, Ans.v (bo true)), (19, Ans.v (AV.tup [lro (List.length l) 1 (List.map st l), i6 0])), (27, Ans.b false), (31, Ans.b false), (34, Ans.v (bo true)), (49, Ans.v (lro (List.length m) 1 (List.map st m))), (51, Ans.v (bo true))]) (by kernel_rfl) (And.intro h0 (And.intro h1 (And.intro h2 (And.intro h3 (And.intro h4 (And.intro h5 (And.intro h6 (And.intro h7 trivial))))))))

/-! ### calls of what is told -/
theorem call_T {T : Vm.Spec} {l : List Nat} {f : FuncId} {vs : List AV} {r r' : AV} {dr : Bool} {σ : List Ob} {ro : Nat} (hf : Nat.beq f 47 = false) (ha : memN f l = false) (hl : AV.ltAll 0 vs = true) (ht : T f vs = some r) (hp : r.pure = true) (hu : unfr r = r') :
    callv (X15 l) (callerOf T) dr f vs σ ro = some (r', σ) := by
  subst hu
  have h1 : (X15 l).pureFn f = none := by
    simp only [X15]
    rw [if_neg (fun e => by rw [e] at hf; cases hf)]
  have := call_spec (X := X15 l) (T := T) (dr := dr) (σ := σ) (ro := ro) h1 rfl hl ht hp
  rw [this]
  have e : (X15 l).adopt f = false := ha
  rw [e]
  cases dr <;> rfl
theorem lt_sysn (s : NSys) (n : Int) : AV.ltAll 0 [AV.agg (sysC s), i6 n] = true := by simp [AV.ltAll, AV.lt, lt_sysC]
theorem ro_sysn (s : NSys) (n : Int) : roAll [AV.agg (sysC s), i6 n] = [AV.agg (sysC s), i6 n] := by simp [roAll, roA, roAll_sysC]
section
variable {s : NSys} {dr : Bool} {σ : List Ob} {ro : Nat}
theorem c_small : callv (X15 []) (callerOf T13) dr 13 [AV.agg (sysC s)] σ ro = some (bo (smallL s), σ) := by
  refine call_T (r := bo (smallL s)) rfl rfl (lt_sys s) ?_ rfl rfl
  show smallS (roAll [AV.agg (sysC s)]) = _
  rw [roAll_sys]; simp only [smallS, sysO_sysC]
theorem c_valid (hk : okS s = true) : callv (X15 []) (callerOf T13) dr 22 [AV.agg (sysC s)] σ ro = some (bo (validL s), σ) := by
  refine call_T (r := bo (validL s)) rfl rfl (lt_sys s) ?_ rfl rfl
  show validS (roAll [AV.agg (sysC s)]) = _
  rw [roAll_sys]; simp only [validS, sysO_sysC, hk, if_true]
theorem c_rvalid (hk : okS s = true) : callv (X15 []) (callerOf T13) dr 14 [AV.agg (sysC s)] σ ro = some (bo (validL s), σ) := by
  refine call_T (r := bo (validL s)) rfl rfl (lt_sys s) ?_ rfl rfl
  show validS (roAll [AV.agg (sysC s)]) = _
  rw [roAll_sys]; simp only [validS, sysO_sysC, hk, if_true]
theorem c_awake : callv (X15 []) (callerOf T13) dr 15 [] σ ro = some (bo true, σ) := call_T (r := bo true) rfl rfl rfl rfl rfl rfl
theorem c_words (hk : okS s = true) {n c : Int} {ws : List ByteArray} (hw : wordsO s n = some (ws, c)) : callv (X15 []) (callerOf T13) dr 16 [AV.agg (sysC s), i6 n] σ ro = some (.tup [lst ws, i6 c], σ) :=
  call_words (fun _ => rfl) rfl hk hw
theorem c_rwords (hb : s.base = 10 ∨ s.base = 20) {n : Int} {l : List ByteArray} (hw : sayO s 6 n = some l) : callv (X15 []) (callerOf T13) dr 18 [AV.agg (sysC s), i6 n] σ ro = some (lst l, σ) := by
  refine call_T (r := lst l) rfl rfl (lt_sysn s n) ?_ (lt_lst l) rfl
  show rwordsS 6 (roAll [AV.agg (sysC s), i6 n]) = _
  rw [ro_sysn]; simp only [rwordsS, sysO_sysC, hw]; rw [if_pos hb]
theorem c_texts {l m : List ByteArray} (hl : l.length ≤ 140737488355328) : callv (X15 []) (callerOf T13) dr 17 [lst l, lst m] σ ro = some (bo (textsL l m), σ) := by
  refine call_T (r := bo (textsL l m)) rfl rfl (lt_two (lt_lst l) (lt_lst m)) ?_ rfl rfl
  show textsS [lst l, lst m] = _
  simp only [textsS, isSO_of (is_lst l), isSO_of (is_lst m), hl, if_true]
end
theorem toList_beq (x : ByteArray) : (x.toList == x.toList) = true := by simp
theorem textsL_refl : ∀ l : List ByteArray, textsL l l = true
  | [] => rfl
  | x :: l => by simp [textsL, textsL_refl l]
theorem say6_len {s : NSys} {n : Int} {l : List ByteArray} (h : sayO s 6 n = some l) : l.length ≤ 140737488355328 := by
  have := (sayO_len s 6 n l h).2
  omega
/-- NumeralWords: true. -/
theorem law_words [Fixed] (hX : ∀ l, ExtOk Tryd.prog (X15 l)) {s : NSys} (hk : okS s = true) (n : Int) : CallAt Tryd.prog 3 [AV.agg (sysC s), i6 n] [] 0 (bo true) [] := by
  have run : ∀ {σ' : List Ob}, vbody Tryd.prog (X15 []) (callerOf T13) 1 noFg Tryd.f3 (codeOf Tryd.f3) [AV.agg (sysC s), i6 n] [] 0 = some (bo true, σ') → CallAt Tryd.prog 3 [AV.agg (sysC s), i6 n] [] 0 (bo true) [] :=
    fun h => run_at (hX []) (T13_ok hX) rfl Tryd.func3 rfl rfl h
  have hs := c_small (s := s) (dr := false) (σ := [Ob.cells (sysC s)]) (ro := 0)
  have hv := c_rvalid (dr := false) (σ := [Ob.cells (sysC s)]) (ro := 0) hk
  cases hsm : smallL s with
  | false =>
    rw [hsm] at hs
    exact run (lwa_p s n (X15 []) (callerOf T13) 1 hs c_awake)
  | true =>
    rw [hsm] at hs
    cases hva : validL s with
    | false =>
      rw [hva] at hv
      exact run (lwb_p s n (X15 []) (callerOf T13) 1 hs hv c_awake)
    | true =>
      rw [hva] at hv
      by_cases h0 : n < 0
      · have hw : wordsO s n = some ([], 1) := by unfold wordsO; rw [if_pos (.inr h0)]
        exact run (lwc_pt s n (X15 []) (callerOf T13) 1 hs hv (c_words hk hw) (decide_eq_true h0) c_awake)
      · by_cases h9 : n > 9999
        · have hw : wordsO s n = some ([], 2) := by unfold wordsO; rw [if_neg (by rw [hva]; simp; omega), if_pos h9]
          exact run (lwd_pft s n (X15 []) (callerOf T13) 1 hs hv (c_words hk hw) (decide_eq_false h0) (decide_eq_true h9) c_awake)
        · obtain ⟨l, hl, hw⟩ := words_some hva (n := n) (by omega) (by omega)
          have ht := c_texts (l := l) (m := l) (dr := false) (σ := [Ob.cells (sysC s)]) (ro := 0) (say6_len hl)
          rw [textsL_refl] at ht
          exact run (lwe_pff s n l l (X15 []) (callerOf T13) 1 hs hv (c_words hk hw) (decide_eq_false h0) (decide_eq_false h9) c_awake (c_rwords (good_of hva).base hl) ht)
end Go.Proofs.Num
end
/- Numeral: from the readings of a row to a system; the two tables; a law's card. -/
section
open Go Go.Vm Go.Proofs Go.Proofs.YtdkoncfpkhapjaaDoor
open Go.RowKit Go.ChangeShapes Go.WideShapes Go.Lib Go.Shelf
namespace Go.Proofs.Num
abbrev tys : List TypeId := [3, 4, 5, 9, 22, 24, 34, 37]
theorem tys_ok : tys.all (okT Tryd.prog tys) = true := by kernel_rfl
theorem strs_shape {B : Nat} : ∀ {xs : List (List AV)}, (∀ x, x ∈ xs → Shape Tryd.prog B 9 x) → ∃ l : List ByteArray, l.length = xs.length ∧ xs.flatten = l.map .str ∧ ∀ w, w ∈ l → w.size ≤ B
  | [], _ => ⟨[], rfl, rfl, fun w h => by simp at h⟩
  | x :: xs, h => by
    obtain ⟨l, h1, h2, h3⟩ := strs_shape (xs := xs) fun y hy => h y (List.mem_cons_of_mem _ hy)
    have hx := h x (List.mem_cons_self ..)
    cases hx with
    | str hu s hs => exact ⟨s :: l, by simp [h1], by simp [h2], fun w hw => by
        rcases List.mem_cons.1 hw with rfl | hw
        · exact hs
        · exact h3 w hw⟩
    | bool hu => rw [Tryd.underlying9] at hu; cases hu
    | int hu => rw [Tryd.underlying9] at hu; cases hu
    | slice hu => rw [Tryd.underlying9] at hu; cases hu
    | struct hu => rw [Tryd.underlying9] at hu; cases hu
theorem int_shape {B : Nat} {t : TypeId} {k : IntKind} (h : Tryd.prog.underlying t = some (.int k)) {x : List AV} (hx : Shape Tryd.prog B t x) : ∃ n : Int, x = [.int k n] ∧ (Lit.int k n).wf = true := by
  cases hx with
  | int hu n hn => rw [h] at hu; simp only [Option.some.injEq, TypeDesc.int.injEq] at hu; subst hu; exact ⟨n, rfl, hn⟩
  | bool hu => rw [h] at hu; cases hu
  | str hu => rw [h] at hu; cases hu
  | slice hu => rw [h] at hu; cases hu
  | struct hu => rw [h] at hu; cases hu
theorem bool_shape {B : Nat} {x : List AV} (hx : Shape Tryd.prog B 4 x) : ∃ b : Bool, x = [.bool b] := by
  cases hx with
  | bool hu b => exact ⟨b, rfl⟩
  | int hu => rw [Tryd.underlying4] at hu; cases hu
  | str hu => rw [Tryd.underlying4] at hu; cases hu
  | slice hu => rw [Tryd.underlying4] at hu; cases hu
  | struct hu => rw [Tryd.underlying4] at hu; cases hu
theorem str_shape {B : Nat} {x : List AV} (hx : Shape Tryd.prog B 9 x) : ∃ s : ByteArray, x = [.str s] ∧ s.size ≤ B := by
  cases hx with
  | str hu s hs => exact ⟨s, rfl, hs⟩
  | int hu => rw [Tryd.underlying9] at hu; cases hu
  | bool hu => rw [Tryd.underlying9] at hu; cases hu
  | slice hu => rw [Tryd.underlying9] at hu; cases hu
  | struct hu => rw [Tryd.underlying9] at hu; cases hu
theorem list_shape {B : Nat} {x : List AV} (hx : Shape Tryd.prog B 22 x) : ∃ l : List ByteArray, x = [lst l] ∧ (∀ w, w ∈ l → w.size ≤ B) ∧ l.length * 16 ≤ B := by
  cases hx with
  | slice hu xs hxs hb =>
    rw [Tryd.underlying22] at hu
    simp only [Option.some.injEq, TypeDesc.slice.injEq] at hu
    subst hu
    obtain ⟨l, h1, h2, h3⟩ := strs_shape hxs
    rw [bytes9] at hb
    refine ⟨l, by rw [h2, cells9, ← h1], h3, by rw [h1]; exact hb⟩
  | int hu => rw [Tryd.underlying22] at hu; cases hu
  | bool hu => rw [Tryd.underlying22] at hu; cases hu
  | str hu => rw [Tryd.underlying22] at hu; cases hu
  | struct hu => rw [Tryd.underlying22] at hu; cases hu
theorem sys_shape {B : Nat} (hB : B ≤ 140737488351232) {x : List AV} (hx : Shape Tryd.prog B 24 x) : ∃ s : NSys, x = sysC s ∧ okS s = true ∧ (-9223372036854775808 ≤ s.sub ∧ s.sub ≤ 9223372036854775807) ∧ (∀ w, w ∈ s.digits ∨ w ∈ s.powers ∨ w = s.jo ∨ w = s.le → w.size ≤ B) := by
  cases hx with
  | struct hu ps hl hp =>
    rw [Tryd.underlying24] at hu
    simp only [Option.some.injEq, TypeDesc.struct.injEq] at hu
    subst hu
    match ps, hl with
    | [p0, p1, p2, p3, p4, p5, p6, p7], _ =>
      obtain ⟨b, rfl, _⟩ := int_shape Tryd.underlying3 (hp 0 _ _ rfl rfl)
      obtain ⟨ds, rfl, hds, hdl⟩ := list_shape (hp 1 _ _ rfl rfl)
      obtain ⟨pw, rfl, hpw, hpl⟩ := list_shape (hp 2 _ _ rfl rfl)
      obtain ⟨sf, rfl⟩ := bool_shape (hp 3 _ _ rfl rfl)
      obtain ⟨jo, rfl, hjo⟩ := str_shape (hp 4 _ _ rfl rfl)
      obtain ⟨su, rfl, hsu⟩ := int_shape Tryd.underlying3 (hp 5 _ _ rfl rfl)
      obtain ⟨le, rfl, hle⟩ := str_shape (hp 6 _ _ rfl rfl)
      obtain ⟨om, rfl⟩ := bool_shape (hp 7 _ _ rfl rfl)
      have sz : ∀ {w : ByteArray}, w.size ≤ B → szB w = true := fun h => Nat.ble_eq_true_of_le (by omega)
      refine ⟨⟨b, ds, pw, sf, jo, su, le, om⟩, rfl, ?_, ?_, ?_⟩
      · simp only [okS, Bool.and_eq_true, List.all_eq_true]
        exact ⟨fun w hw => sz (hds w hw), fun w hw => sz (hpw w hw), sz hjo, sz hle, Nat.ble_eq_true_of_le (by omega)⟩
      · simp only [Lit.wf, Bool.and_eq_true, decide_eq_true_eq] at hsu
        exact hsu
      · rintro w (h | h | rfl | rfl)
        · exact hds w h
        · exact hpw w h
        · exact hjo
        · exact hle
  | int hu => rw [Tryd.underlying24] at hu; cases hu
  | bool hu => rw [Tryd.underlying24] at hu; cases hu
  | str hu => rw [Tryd.underlying24] at hu; cases hu
  | slice hu => rw [Tryd.underlying24] at hu; cases hu
/-! ### the tables -/
abbrev laidL : List (String × DataW Unit) := [("unicode/utf8.acceptRanges", Rows.laid_unicode_utf8_acceptRanges), ("unicode/utf8.first", Rows.laid_unicode_utf8_first)]
theorem accept_eq : Rows.laid_unicode_utf8_acceptRanges (H := Unit) = Lib.acceptData := by kernel_rfl
theorem first_eq : Rows.laid_unicode_utf8_first = Lib.firstData := by kernel_rfl
theorem tabs_of {W : World} (hL : laidMet Tryd.prog laidL W) : Lib.Utf8Tabs 0 1 W := by
  have h1 : (("unicode/utf8.first", Lib.firstData) : String × DataW Unit) ∈ laidL := by rw [← first_eq]; exact .tail _ (.head _)
  have h2 : (("unicode/utf8.acceptRanges", Lib.acceptData) : String × DataW Unit) ∈ laidL := by rw [← accept_eq]; exact .head _
  exact utf8Tabs_of_readsT (U8Types.of196 Tryd.laysValid) ⟨by kernel_rfl, by kernel_rfl, by kernel_rfl, by kernel_rfl, by kernel_rfl, by kernel_rfl, by kernel_rfl⟩ (Lib.laidMet.reads hL h1) (Lib.laidMet.reads hL h2)
theorem laidOut : laidOutB Tryd.prog = true := by kernel_rfl
theorem own : ownKnob Tryd.prog.godebug = none := by kernel_rfl
/-- The witness's world: the tables laid. -/
noncomputable def wit (os : Os) : World := World.laidAll Tryd.prog os laidL
theorem wit_met (os : Os) (args : Array Value) : laidMet Tryd.prog laidL ((wit os).forCall (fun _ _ => 0) ⟨#[], args, []⟩).memory :=
  laidMet_laidAll args (by kernel_rfl) (by kernel_rfl)
theorem laidH {W : World} (h : laidMet Tryd.prog laidL W) : laidMetH Tryd.prog laidL W := by
  have e : (laidL.filter fun x => x.2.handleName?.isSome) = [] := by kernel_rfl
  unfold laidMetH
  rw [e]
  exact h
theorem laidH_of {W : World} (h : laidMetH Tryd.prog laidL W) : laidMet Tryd.prog laidL W := by
  have e : (laidL.filter fun x => x.2.handleName?.isSome) = [] := by kernel_rfl
  unfold laidMetH at h
  rw [e] at h
  exact h
theorem arg_sysB {B : Nat} (hB : B ≤ 140737488351232) {v : AV} (h : ArgIs Tryd.prog B 24 v) : ∃ s : NSys, v = .agg (sysC s) ∧ okS s = true ∧ (∀ w, w ∈ s.digits ∨ w ∈ s.powers ∨ w = s.jo ∨ w = s.le → w.size ≤ B) := by
  obtain ⟨cs, rfl, hc⟩ := h.agg Tryd.underlying24
  obtain ⟨s, rfl, hs, _, hw⟩ := sys_shape hB hc
  exact ⟨s, rfl, hs, hw⟩
theorem arg_sys {v : AV} (h : ArgIs Tryd.prog reachBytes 24 v) : ∃ s : NSys, v = .agg (sysC s) ∧ okS s = true ∧ (-9223372036854775808 ≤ s.sub ∧ s.sub ≤ 9223372036854775807) := by
  obtain ⟨cs, rfl, hc⟩ := h.agg Tryd.underlying24
  obtain ⟨s, rfl, hs, hr, _⟩ := sys_shape (by decide) hc
  exact ⟨s, rfl, hs, hr⟩
theorem arg_int {B : Nat} {t : TypeId} {k : IntKind} (hu : Tryd.prog.underlying t = some (.int k)) {v : AV} (h : ArgIs Tryd.prog B t v) : ∃ n : Int, v = .int k n ∧ k.min ≤ n ∧ n ≤ k.max := by
  obtain ⟨n, hn, hw⟩ := int_shape hu (h.one hu rfl)
  simp only [List.cons.injEq, and_true] at hn
  simp only [Lit.wf, Bool.and_eq_true, decide_eq_true_eq] at hw
  exact ⟨n, hn, hw⟩
theorem arg_list {B : Nat} {v : AV} (h : ArgIs Tryd.prog B 22 v) : ∃ l : List ByteArray, v = lst l ∧ (∀ w, w ∈ l → w.size ≤ B) ∧ l.length * 16 ≤ B := by
  obtain ⟨l, hl, h1, h2⟩ := list_shape (h.one Tryd.underlying22 rfl)
  simp only [List.cons.injEq, and_true] at hl
  exact ⟨l, hl, h1, h2⟩
end Go.Proofs.Num
end
