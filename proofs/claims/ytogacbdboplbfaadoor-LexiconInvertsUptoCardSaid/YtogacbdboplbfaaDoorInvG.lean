/- Part 7 of the texts of this claim: the evaluator, and what it says of the program's functions. -/
import Derived.Test.YtogacbdboplbfaaDoorInvF
import Derived.Test.YtogacbdboplbfaaDoorInvD
import Derived.JoinedCond
set_option linter.unusedSectionVars false
set_option linter.unusedVariables false
set_option linter.unusedSimpArgs false
set_option linter.constructorNameAsVariable false
/- Lexicon: the small functions of the reference: a field, a word, a byte's place. -/
section
open Go Go.Vm Go.Proofs
namespace Go.Proofs.Lex
/-- The place of a byte, or the length. -/
def idxB (c:UInt8) (l:List UInt8):Nat:=l.findIdx (· == c)
theorem idxB_cons (c b:UInt8) (l:List UInt8):idxB c (b::l)=if b=c then 0 else idxB c l + 1:=by
  unfold idxB
  rw [List.findIdx_cons]
  by_cases h:b=c
  · rw [if_pos h]
    have:(b == c)=true:=by simpa using h
    rw [this]
    rfl
  · rw [if_neg h]
    have:(b == c)=false:=by simpa using h
    rw [this]
    rfl
theorem idxB_at {c:UInt8} {l:List UInt8} (h:idxB c l < l.length):l[idxB c l]=c:=by
  have:=List.findIdx_getElem (xs:=l) (p:=(· == c)) (w:=h)
  exact beq_iff_eq.1 this
def mkB (l:List UInt8):ByteArray:=⟨l.toArray⟩
theorem mkB_data (l:List UInt8):(mkB l).data.toList=l:=rfl
theorem mkB_self (s:ByteArray):mkB s.data.toList=s:=by unfold mkB; simp
theorem size_list (s:ByteArray):s.size=s.data.toList.length:=by simp
/-- A string up to its first blank, and the rest. -/
def wordF (s:ByteArray):ByteArray × ByteArray × Bool :=
  if idxB 32 s.data.toList < s.data.toList.length then (mkB (s.data.toList.take (idxB 32 s.data.toList)),mkB (s.data.toList.drop (idxB 32 s.data.toList + 1)),true) else (s,emp,false)
section
variable {X:Ext} {call:Caller} {lf:Nat}
theorem byteN_list {s:ByteArray} {i:Nat} (h:i < s.data.toList.length):byteN s i=s.data.toList[i].toNat:=by
  have h' : i < s.data.size:=by simpa using h
  unfold byteN Array.getD
  rw [dif_pos h']
  rfl
end
section
variable [Fixed] {X:Ext}
abbrev aW:Arg (ByteArray × ByteArray × Bool):=Arg.tup3 aS aS aB
end
end Go.Proofs.Lex
end
/- Lexicon: the reference texts, walked (printed) -/
section
open Go Go.Vm Go.Proofs
namespace Go.Proofs.Lex
end Go.Proofs.Lex
end
/- Lexicon: the reference's text of a record. -/
section
open Go Go.Vm Go.Proofs
namespace Go.Proofs.Lex
section
variable {X:Ext} {call:Caller} {lf:Nat}
end
section
variable [Fixed] {X:Ext}
end
end Go.Proofs.Lex
end
/- Lexicon: where the parts of a text lie; its parts cut at the equals sign. -/
section
open Go Go.Vm Go.Proofs
namespace Go.Proofs.Lex
theorem idxB_append (c:UInt8):∀ (a b:List UInt8),idxB c (a ++ b)=if idxB c a < a.length then idxB c a else a.length + idxB c b
  | [],b=>by simp
  | x :: a, b => by
    rw [List.cons_append,idxB_cons,idxB_cons]
    by_cases h:x=c
    · rw [if_pos h,if_pos h,if_pos (by rw [List.length_cons]; omega)]
    · rw [if_neg h, if_neg h, idxB_append c a b, List.length_cons]
      by_cases h2:idxB c a < a.length
      · rw [if_pos h2,if_pos (by omega)]
      · rw [if_neg h2, if_neg (by omega)]
        omega
def eqL (p:List UInt8):Bool:=decide (idxB 61 p < p.length)
def featL (p:List UInt8):Feat:=⟨mkB (p.take (idxB 61 p)),mkB (p.drop (idxB 61 p + 1))⟩
theorem index_idx (c:UInt8):∀ (l:List UInt8),Lib.index l [c]=if idxB c l < l.length then (idxB c l:Int) else -1
  | []=>by rw [index_nil]; rfl
  | b :: l => by
    rw [index_cons,idxB_cons,index_idx c l,List.length_cons]
    by_cases h:b=c
    · rw [if_pos h,if_pos h,if_pos (by omega)]; rfl
    · rw [if_neg h, if_neg h]
      by_cases h2:idxB c l < l.length
      · have h3 : idxB c l + 1 < l.length + 1 := by omega
        have h4 : ¬ (((idxB c l:Int) == -1)=true):=by simp
        simp only [if_pos h2,if_pos h3,if_neg h4]
        omega
      · have h3 : ¬ idxB c l + 1 < l.length + 1 := by omega
        simp only [if_neg h2,if_neg h3]
        rfl
theorem cut_idx (p:List UInt8):Lib.cut p [61]=if idxB 61 p < p.length then (p.take (idxB 61 p),p.drop (idxB 61 p + 1),true) else (p,[],false):=by
  unfold Lib.cut
  rw [index_idx]
  by_cases h:idxB 61 p < p.length
  · rw [if_pos h, if_pos h]
    simp
  · rw [if_neg h, if_neg h]
    simp
end Go.Proofs.Lex
end
/- Lexicon: the reference's Parse of a record. -/
section
open Go Go.Vm Go.Proofs
namespace Go.Proofs.Lex
/-! ### the parts' text -/
theorem join_snoc (sep x:List UInt8):∀ (r:List (List UInt8)),r ≠ []→Lib.join (r ++ [x]) sep=Lib.join r sep ++ sep ++ x
  | [],h=>absurd rfl h
  | [a],_=>by simp [Lib.join,List.intercalate,List.intersperse]
  | a :: b :: r, _ => by
    have ih:=join_snoc sep x (b::r) (by simp)
    unfold Lib.join List.intercalate at *
    simp only [List.cons_append,List.intersperse_cons_cons,List.flatten_cons,List.append_assoc] at *
    rw [ih]
theorem feat_text {p:List UInt8} (h:eqL p=true):(featL p).name.data.toList ++ [61] ++ (featL p).value.data.toList=p:=by
  have hk:=of_decide_eq_true h
  show p.take (idxB 61 p) ++ [61] ++ p.drop (idxB 61 p + 1)=p
  have e : p.drop (idxB 61 p) = 61 :: p.drop (idxB 61 p + 1) := by
    rw [List.drop_eq_getElem_cons hk,idxB_at hk]
  conv=>rhs; rw [← List.take_append_drop (idxB 61 p) p,e]
  simp
theorem nF_map {P:List (List UInt8)} {i:Nat} (h:i < P.length):nF (P.map featL) i=featL (P.getD i []):=by
  rw [nF,getD_lt (by rw [List.length_map]; exact h),List.getElem_map,getD_lt h]
theorem textN_join {P:List (List UInt8)} (h:P.all eqL=true):∀ i,i ≤ P.length→textN (P.map featL) i=Lib.join (P.take i) [32]
  | 0,_=>by rw [List.take_zero]; rfl
  | i + 1, hi => by
    have ih:=textN_join h i (by omega)
    have hp:eqL (P.getD i [])=true:=by rw [getD_lt hi]; exact List.all_eq_true.1 h _ (List.getElem_mem _)
    have ht:=feat_text hp
    have hs:P.take (i + 1)=P.take i ++ [P.getD i []]:=by rw [List.take_succ_eq_append_getElem hi,getD_lt hi]
    show ((cond (decide (0 < i)) (textN (P.map featL) i ++ [32]) [] ++ (nF (P.map featL) i).name.data.toList) ++ [61]) ++ (nF (P.map featL) i).value.data.toList=_
    rw [nF_map hi,hs,List.append_assoc,List.append_assoc,← List.append_assoc (featL _).name.data.toList,ht]
    cases i with
    | zero=>simp [Lib.join,List.intercalate,List.intersperse]
    | succ i =>
      rw [join_snoc _ _ _ (by intro h0; have:=congrArg List.length h0; rw [List.length_take,List.length_nil] at this; omega),← ih]
      simp
theorem textF_join {P:List (List UInt8)} (h:P.all eqL=true):textF (P.map featL)=Lib.join P [32]:=by
  unfold textF
  rw [List.length_map,textN_join h P.length (Nat.le_refl _),List.take_length]
/-! ### the record of a text -/
def parseB (s:ByteArray):List Feat × Bool:=match parseF s with
  | some F=>(F,true)
  | none=>([],false)
theorem split_mk (s:ByteArray):splitL s blank=(spl s.data.toList).map mkB:=by
  rw [← split_spl,List.map_map]
  have:(mkB ∘ fun x:ByteArray=>x.data.toList)=id:=by funext x; exact mkB_self x
  rw [this,List.map_id]
theorem cutB_mk (p:List UInt8):cutB (mkB p)=eqL p:=by
  unfold cutB cutB3
  rw [mkB_data,cut_idx]
  unfold eqL
  by_cases h:idxB 61 p < p.length
  · rw [if_pos h,decide_eq_true h]
  · rw [if_neg h,decide_eq_false h]
theorem featOf_mk {p:List UInt8} (h:eqL p=true):featOf (mkB p)=featL p:=by
  have hk:=of_decide_eq_true h
  unfold featOf cutB3
  rw [mkB_data,cut_idx,if_pos hk]
  rfl
theorem all_mk (P:List (List UInt8)):(P.map mkB).all cutB=P.all eqL:=by
  rw [List.all_map]
  congr 1
  funext p
  exact cutB_mk p
theorem feats_mk {P:List (List UInt8)} (h:P.all eqL=true):featsOf (P.map mkB)=P.map featL:=by
  unfold featsOf
  rw [List.map_map]
  refine List.map_congr_left fun p hp=>featOf_mk (List.all_eq_true.1 h p hp)
theorem parseF_spl (s:ByteArray) (h:s ≠ emp):parseF s=if (spl s.data.toList).all eqL=true∧validF ((spl s.data.toList).map featL)=true then some ((spl s.data.toList).map featL) else none:=by
  unfold parseF partsF
  rw [if_neg h,split_mk,all_mk,List.length_map]
  by_cases ha:(spl s.data.toList).all eqL=true
  · rw [feats_mk ha]
    by_cases hv:validF ((spl s.data.toList).map featL)=true
    · have h8 : (spl s.data.toList).length ≤ 8 := by
        unfold validF at hv
        simp only [Bool.and_eq_true,decide_eq_true_eq,List.length_map] at hv
        exact hv.2.2
      rw [if_pos ⟨ha,h8,hv⟩,if_pos ⟨ha,hv⟩]
    · rw [if_neg (fun k=>hv k.2.2),if_neg (fun k=>hv k.2)]
  · rw [if_neg (fun k=>ha k.1),if_neg (fun k=>ha k.1)]
end Go.Proofs.Lex
end
/- Lexicon: the reference's Parse of a record, walked. -/
section
open Go Go.Vm Go.Proofs
namespace Go.Proofs.Lex
section
variable [Fixed] {X:Ext}
abbrev aFsB:Arg (List Feat × Bool):=Arg.tup2 aFs aB
def okX (F:List Feat):Prop:=F.length ≤ big∧(textF F).length ≤ big
instance:DecidablePred okX:=fun F=>inferInstanceAs (Decidable (_∧_))
theorem emp_test {s:ByteArray} (h:s ≠ emp):(!s.toList == (ByteArray.mk #[]).toList)=true:=by
  rw [show (s.toList == (ByteArray.mk #[]).toList)=false from eqB_ne.2 h]
  rfl
theorem eq_test {s t:ByteArray} (h:s=t):(!s.toList == t.toList)=false:=by
  rw [show (s.toList == t.toList)=true from eqB_iff.2 h]
  rfl
end
end Go.Proofs.Lex
end
/- Lexicon: the reference lines and the law of inverses, walked (printed) -/
section
open Go Go.Vm Go.Proofs
namespace Go.Proofs.Lex
def fg7:Nat→List Nat
  | 1=>[10,11,12,13,14,15,16,17,18,19,20,21]
  | 3=>[24,25]
  | 4=>[26]
  | 5=>[28,29,30,31,32]
  | 6=>[33,34,35,36,37,38,39]
  | 8=>[41,42,43,44,45]
  | 9=>[46,47,48,49,50,51,52,53,54,55,56,57,58,59,60,61,62]
  | _=>[]
def f7_S0 (x0:Lexm)(s0:ByteArray):St :=
  stOf 63 [] [(0,AV.agg [st (Lexm.id x0),st (Lexm.cat x0),st (Lexm.stem x0),st (Lexm.par x0),lro (List.length (Lexm.feats x0)) 2 (List.flatMap featC (Lexm.feats x0))]),(1,st s0),(2,AV.ref 0 0),(4,bo false)] [Ob.cells [st (Lexm.id x0),st (Lexm.cat x0),st (Lexm.stem x0),st (Lexm.par x0),lro (List.length (Lexm.feats x0)) 2 (List.flatMap featC (Lexm.feats x0))]]
def f7_S1 (x0:Lexm)(s0:ByteArray):St :=
  stOf 63 [10,11,12,13,14,15,16,17,18,19,20,21] [(0,AV.agg [st (Lexm.id x0),st (Lexm.cat x0),st (Lexm.stem x0),st (Lexm.par x0),lro (List.length (Lexm.feats x0)) 2 (List.flatMap featC (Lexm.feats x0))]),(1,st s0),(2,AV.ref 0 0),(4,bo false),(22,bo true)] [Ob.cells [st (Lexm.id x0),st (Lexm.cat x0),st (Lexm.stem x0),st (Lexm.par x0),lro (List.length (Lexm.feats x0)) 2 (List.flatMap featC (Lexm.feats x0))]]
theorem f7_g1_ttt (x0:Lexm)(s0:ByteArray)(X:Ext)(call:Caller)(lf m14:Nat)(c14:List AV)(k14:LK)
 (h0:callv X call false 14 [] [Ob.cells [st (Lexm.id x0),st (Lexm.cat x0),st (Lexm.stem x0),st (Lexm.par x0),lro (List.length (Lexm.feats x0)) 2 (List.flatMap featC (Lexm.feats x0))]] 0=some (bo true,[Ob.cells [st (Lexm.id x0),st (Lexm.cat x0),st (Lexm.stem x0),st (Lexm.par x0),lro (List.length (Lexm.feats x0)) 2 (List.flatMap featC (Lexm.feats x0))]]))
 (h1:bsl Tryd.prog 22 1 [Ob.cells [st (Lexm.id x0),st (Lexm.cat x0),st (Lexm.stem x0),st (Lexm.par x0),lro (List.length (Lexm.feats x0)) 2 (List.flatMap featC (Lexm.feats x0))]] false 0 [(0,AV.agg [st (Lexm.id x0),st (Lexm.cat x0),st (Lexm.stem x0),st (Lexm.par x0),lro (List.length (Lexm.feats x0)) 2 (List.flatMap featC (Lexm.feats x0))])]=some (AV.list k14 m14 5 c14,[Ob.cells [st (Lexm.id x0),st (Lexm.cat x0),st (Lexm.stem x0),st (Lexm.par x0),lro (List.length (Lexm.feats x0)) 2 (List.flatMap featC (Lexm.feats x0))]]))
 (h2:callv X call false 15 [AV.list k14 m14 5 c14] [Ob.cells [st (Lexm.id x0),st (Lexm.cat x0),st (Lexm.stem x0),st (Lexm.par x0),lro (List.length (Lexm.feats x0)) 2 (List.flatMap featC (Lexm.feats x0))]] 0=some (bo true,[Ob.cells [st (Lexm.id x0),st (Lexm.cat x0),st (Lexm.stem x0),st (Lexm.par x0),lro (List.length (Lexm.feats x0)) 2 (List.flatMap featC (Lexm.feats x0))]]))
 (h3:decide ((↑(ByteArray.size s0):Int)>300)=true):vexec Tryd.prog X call lf 0 fg7 (regN Tryd.f7 1) (f7_S0 x0 s0)=some (Ex.normal,(f7_S1 x0 s0)) :=
  around_sound (ans:=[(1,Ans.v (bo true)),(7,Ans.v (AV.list k14 m14 5 c14)),(9,Ans.v (bo true)),(19,Ans.b true)]) (by kernel_rfl) (ai h0 (ai h1 (ai h2 (ai h3 trivial))))
theorem f7_g1_ttf (x0:Lexm)(s0:ByteArray)(X:Ext)(call:Caller)(lf m14:Nat)(c14:List AV)(k14:LK)
 (h0:callv X call false 14 [] [Ob.cells [st (Lexm.id x0),st (Lexm.cat x0),st (Lexm.stem x0),st (Lexm.par x0),lro (List.length (Lexm.feats x0)) 2 (List.flatMap featC (Lexm.feats x0))]] 0=some (bo true,[Ob.cells [st (Lexm.id x0),st (Lexm.cat x0),st (Lexm.stem x0),st (Lexm.par x0),lro (List.length (Lexm.feats x0)) 2 (List.flatMap featC (Lexm.feats x0))]]))
 (h1:bsl Tryd.prog 22 1 [Ob.cells [st (Lexm.id x0),st (Lexm.cat x0),st (Lexm.stem x0),st (Lexm.par x0),lro (List.length (Lexm.feats x0)) 2 (List.flatMap featC (Lexm.feats x0))]] false 0 [(0,AV.agg [st (Lexm.id x0),st (Lexm.cat x0),st (Lexm.stem x0),st (Lexm.par x0),lro (List.length (Lexm.feats x0)) 2 (List.flatMap featC (Lexm.feats x0))])]=some (AV.list k14 m14 5 c14,[Ob.cells [st (Lexm.id x0),st (Lexm.cat x0),st (Lexm.stem x0),st (Lexm.par x0),lro (List.length (Lexm.feats x0)) 2 (List.flatMap featC (Lexm.feats x0))]]))
 (h2:callv X call false 15 [AV.list k14 m14 5 c14] [Ob.cells [st (Lexm.id x0),st (Lexm.cat x0),st (Lexm.stem x0),st (Lexm.par x0),lro (List.length (Lexm.feats x0)) 2 (List.flatMap featC (Lexm.feats x0))]] 0=some (bo true,[Ob.cells [st (Lexm.id x0),st (Lexm.cat x0),st (Lexm.stem x0),st (Lexm.par x0),lro (List.length (Lexm.feats x0)) 2 (List.flatMap featC (Lexm.feats x0))]]))
 (h3:decide ((↑(ByteArray.size s0):Int)>300)=false):vexec Tryd.prog X call lf 0 fg7 (regN Tryd.f7 1) (f7_S0 x0 s0)=some (Ex.normal,stOf 63 [10,11,12,13,14,15,16,17,18,19,20,21] [(0,AV.agg [st (Lexm.id x0),st (Lexm.cat x0),st (Lexm.stem x0),st (Lexm.par x0),lro (List.length (Lexm.feats x0)) 2 (List.flatMap featC (Lexm.feats x0))]),(1,st s0),(2,AV.ref 0 0),(4,bo false),(22,bo false)] [Ob.cells [st (Lexm.id x0),st (Lexm.cat x0),st (Lexm.stem x0),st (Lexm.par x0),lro (List.length (Lexm.feats x0)) 2 (List.flatMap featC (Lexm.feats x0))]]) :=
  around_sound (ans:=[(1,Ans.v (bo true)),(7,Ans.v (AV.list k14 m14 5 c14)),(9,Ans.v (bo true)),(19,Ans.b false)]) (by kernel_rfl) (ai h0 (ai h1 (ai h2 (ai h3 trivial))))
theorem f7_g1_tf (x0:Lexm)(s0:ByteArray)(X:Ext)(call:Caller)(lf m14:Nat)(c14:List AV)(k14:LK)
 (h0:callv X call false 14 [] [Ob.cells [st (Lexm.id x0),st (Lexm.cat x0),st (Lexm.stem x0),st (Lexm.par x0),lro (List.length (Lexm.feats x0)) 2 (List.flatMap featC (Lexm.feats x0))]] 0=some (bo true,[Ob.cells [st (Lexm.id x0),st (Lexm.cat x0),st (Lexm.stem x0),st (Lexm.par x0),lro (List.length (Lexm.feats x0)) 2 (List.flatMap featC (Lexm.feats x0))]]))
 (h1:bsl Tryd.prog 22 1 [Ob.cells [st (Lexm.id x0),st (Lexm.cat x0),st (Lexm.stem x0),st (Lexm.par x0),lro (List.length (Lexm.feats x0)) 2 (List.flatMap featC (Lexm.feats x0))]] false 0 [(0,AV.agg [st (Lexm.id x0),st (Lexm.cat x0),st (Lexm.stem x0),st (Lexm.par x0),lro (List.length (Lexm.feats x0)) 2 (List.flatMap featC (Lexm.feats x0))])]=some (AV.list k14 m14 5 c14,[Ob.cells [st (Lexm.id x0),st (Lexm.cat x0),st (Lexm.stem x0),st (Lexm.par x0),lro (List.length (Lexm.feats x0)) 2 (List.flatMap featC (Lexm.feats x0))]]))
 (h2:callv X call false 15 [AV.list k14 m14 5 c14] [Ob.cells [st (Lexm.id x0),st (Lexm.cat x0),st (Lexm.stem x0),st (Lexm.par x0),lro (List.length (Lexm.feats x0)) 2 (List.flatMap featC (Lexm.feats x0))]] 0=some (bo false,[Ob.cells [st (Lexm.id x0),st (Lexm.cat x0),st (Lexm.stem x0),st (Lexm.par x0),lro (List.length (Lexm.feats x0)) 2 (List.flatMap featC (Lexm.feats x0))]])):vexec Tryd.prog X call lf 0 fg7 (regN Tryd.f7 1) (f7_S0 x0 s0)=some (Ex.normal,(f7_S1 x0 s0)) :=
  around_sound (ans:=[(1,Ans.v (bo true)),(7,Ans.v (AV.list k14 m14 5 c14)),(9,Ans.v (bo false))]) (by kernel_rfl) (ai h0 (ai h1 (ai h2 trivial)))
def f7_S2 (x0:Lexm)(s0:ByteArray)(b22:Bool):St :=
  stOf 63 [10,11,12,13,14,15,16,17,18,19,20,21] [(0,AV.agg [st (Lexm.id x0),st (Lexm.cat x0),st (Lexm.stem x0),st (Lexm.par x0),lro (List.length (Lexm.feats x0)) 2 (List.flatMap featC (Lexm.feats x0))]),(1,st s0),(2,AV.ref 0 0),(4,bo false),(22,bo b22)] [Ob.cells [st (Lexm.id x0),st (Lexm.cat x0),st (Lexm.stem x0),st (Lexm.par x0),lro (List.length (Lexm.feats x0)) 2 (List.flatMap featC (Lexm.feats x0))]]
theorem f7_ptt (x0:Lexm)(s0:ByteArray)(b22:Bool)(X:Ext)(call:Caller)(lf:Nat)
 (h0:vexec Tryd.prog X call lf 0 fg7 (regN Tryd.f7 1) (f7_S0 x0 s0)=some (Ex.normal,(f7_S2 x0 s0 b22)))
 (h1:b22=true)
 (h2:callv X call false 14 [] [Ob.cells [st (Lexm.id x0),st (Lexm.cat x0),st (Lexm.stem x0),st (Lexm.par x0),lro (List.length (Lexm.feats x0)) 2 (List.flatMap featC (Lexm.feats x0))]] 0=some (bo true,[Ob.cells [st (Lexm.id x0),st (Lexm.cat x0),st (Lexm.stem x0),st (Lexm.par x0),lro (List.length (Lexm.feats x0)) 2 (List.flatMap featC (Lexm.feats x0))]])):vbody Tryd.prog X call lf fg7 Tryd.f7 (codeOf Tryd.f7) [AV.agg (lexC x0),st s0] [] 0=some (bo true,[Ob.cells [st (Lexm.id x0),st (Lexm.cat x0),st (Lexm.stem x0),st (Lexm.par x0),lro (List.length (Lexm.feats x0)) 2 (List.flatMap featC (Lexm.feats x0))]]) :=
  along_sound (ans:=[(3,Ans.l Ex.normal (f7_S2 x0 s0 b22)),(4,Ans.b true),(6,Ans.v (bo true))]) (by kernel_rfl) (ai h0 (ai h1 (ai h2 trivial)))
def f7_S3 (x0:Lexm)(s0:ByteArray)(b22:Bool)(x25 a b c d:ByteArray)(e:Nat)(g:List AV)(h:Int):St :=
  stOf 63 [10,11,12,13,14,15,16,17,18,19,20,21,24,25,26,28,29,30,31,32] [(0,AV.agg [st (Lexm.id x0),st (Lexm.cat x0),st (Lexm.stem x0),st (Lexm.par x0),lro (List.length (Lexm.feats x0)) 2 (List.flatMap featC (Lexm.feats x0))]),(1,st s0),(2,AV.ref 0 0),(4,bo false),(5,st x25),(6,AV.ref 1 0),(7,i6 h),(22,bo b22),(27,bo true)] [Ob.cells [st (Lexm.id x0),st (Lexm.cat x0),st (Lexm.stem x0),st (Lexm.par x0),lro (List.length (Lexm.feats x0)) 2 (List.flatMap featC (Lexm.feats x0))],Ob.cells [st a,st b,st c,st d,lro e 2 g]]
theorem f7_g6_ft (x0:Lexm)(s0:ByteArray)(b22:Bool)(X:Ext)(call:Caller)(lf:Nat)(x25 a c d e:ByteArray)(g:Nat)(h:List AV)(j:Int)
 (h0:(j != 0)=false)
 (h1:callv X call false 25 [AV.agg [st (Lexm.id x0),st (Lexm.cat x0),st (Lexm.stem x0),st (Lexm.par x0),lro (List.length (Lexm.feats x0)) 2 (List.flatMap featC (Lexm.feats x0))],AV.agg [st a,st c,st d,st e,lro g 2 h]] [Ob.cells [st (Lexm.id x0),st (Lexm.cat x0),st (Lexm.stem x0),st (Lexm.par x0),lro (List.length (Lexm.feats x0)) 2 (List.flatMap featC (Lexm.feats x0))],Ob.cells [st a,st c,st d,st e,lro g 2 h]] 0=some (bo true,[Ob.cells [st (Lexm.id x0),st (Lexm.cat x0),st (Lexm.stem x0),st (Lexm.par x0),lro (List.length (Lexm.feats x0)) 2 (List.flatMap featC (Lexm.feats x0))],Ob.cells [st a,st c,st d,st e,lro g 2 h]])):vexec Tryd.prog X call lf 0 fg7 (regN Tryd.f7 6) (f7_S3 x0 s0 b22 x25 a c d e g h j)=some (Ex.normal,stOf 63 [10,11,12,13,14,15,16,17,18,19,20,21,24,25,26,28,29,30,31,32,33,34,35,36,37,38,39] [(0,AV.agg [st (Lexm.id x0),st (Lexm.cat x0),st (Lexm.stem x0),st (Lexm.par x0),lro (List.length (Lexm.feats x0)) 2 (List.flatMap featC (Lexm.feats x0))]),(1,st s0),(2,AV.ref 0 0),(4,bo false),(5,st x25),(6,AV.ref 1 0),(7,i6 j),(22,bo b22),(27,bo true),(40,bo false)] [Ob.cells [st (Lexm.id x0),st (Lexm.cat x0),st (Lexm.stem x0),st (Lexm.par x0),lro (List.length (Lexm.feats x0)) 2 (List.flatMap featC (Lexm.feats x0))],Ob.cells [st a,st c,st d,st e,lro g 2 h]]) :=
  around_sound (ans:=[(2,Ans.b false),(9,Ans.v (bo true))]) (by kernel_rfl) (ai h0 (ai h1 trivial))
def f7_S5 (x0:Lexm)(s0:ByteArray)(b22 b40:Bool)(x25 a b c d:ByteArray)(e:Nat)(g:List AV)(h:Int):St :=
  stOf 63 [10,11,12,13,14,15,16,17,18,19,20,21,24,25,26,28,29,30,31,32,33,34,35,36,37,38,39] [(0,AV.agg [st (Lexm.id x0),st (Lexm.cat x0),st (Lexm.stem x0),st (Lexm.par x0),lro (List.length (Lexm.feats x0)) 2 (List.flatMap featC (Lexm.feats x0))]),(1,st s0),(2,AV.ref 0 0),(4,bo false),(5,st x25),(6,AV.ref 1 0),(7,i6 h),(22,bo b22),(27,bo true),(40,bo b40)] [Ob.cells [st (Lexm.id x0),st (Lexm.cat x0),st (Lexm.stem x0),st (Lexm.par x0),lro (List.length (Lexm.feats x0)) 2 (List.flatMap featC (Lexm.feats x0))],Ob.cells [st a,st b,st c,st d,lro e 2 g]]
def f7_S6 (x0:Lexm)(s0:ByteArray)(b22 b40:Bool)(x25 a b c d:ByteArray)(e:Nat)(g:List AV)(h:Int)(j k p q:ByteArray)(r:Nat)(t:List AV)(u:Int):St :=
  stOf 63 [10,11,12,13,14,15,16,17,18,19,20,21,24,25,26,28,29,30,31,32,33,34,35,36,37,38,39,41,42,43,44,45] [(0,AV.agg [st (Lexm.id x0),st (Lexm.cat x0),st (Lexm.stem x0),st (Lexm.par x0),lro (List.length (Lexm.feats x0)) 2 (List.flatMap featC (Lexm.feats x0))]),(1,st s0),(2,AV.ref 0 0),(4,bo false),(5,st x25),(6,AV.ref 1 0),(7,i6 h),(8,AV.ref 2 0),(9,i6 u),(22,bo b22),(27,bo true),(40,bo b40)] [Ob.cells [st (Lexm.id x0),st (Lexm.cat x0),st (Lexm.stem x0),st (Lexm.par x0),lro (List.length (Lexm.feats x0)) 2 (List.flatMap featC (Lexm.feats x0))],Ob.cells [st a,st b,st c,st d,lro e 2 g],Ob.cells [st j,st k,st p,st q,lro r 2 t]]
def f7_S7 (x0:Lexm)(s0:ByteArray)(b22 b40:Bool)(x25 a b c d:ByteArray)(e:Nat)(g:List AV)(h:Int)(j k p q:ByteArray)(r:Nat)(t:List AV)(u:Int):St :=
  stOf 63 [10,11,12,13,14,15,16,17,18,19,20,21,24,25,26,28,29,30,31,32,33,34,35,36,37,38,39,41,42,43,44,45,46,47,48,49,50,51,52,53,54,55,56,57,58,59,60,61,62] [(0,AV.agg [st (Lexm.id x0),st (Lexm.cat x0),st (Lexm.stem x0),st (Lexm.par x0),lro (List.length (Lexm.feats x0)) 2 (List.flatMap featC (Lexm.feats x0))]),(1,st s0),(2,AV.ref 0 0),(4,bo true),(5,st x25),(6,AV.ref 1 0),(7,i6 h),(8,AV.ref 2 0),(9,i6 u),(22,bo b22),(27,bo true),(40,bo b40)] [Ob.cells [st (Lexm.id x0),st (Lexm.cat x0),st (Lexm.stem x0),st (Lexm.par x0),lro (List.length (Lexm.feats x0)) 2 (List.flatMap featC (Lexm.feats x0))],Ob.cells [st a,st b,st c,st d,lro e 2 g],Ob.cells [st j,st k,st p,st q,lro r 2 t]]
theorem f7_g9_tt (x0:Lexm)(s0:ByteArray)(b22 b40:Bool)(X:Ext)(call:Caller)(lf:Nat)(x25 a c d e:ByteArray)(g:Nat)(h:List AV)(j:Int)(k p q r:ByteArray)(t:Nat)(u:List AV)(w:Int)
 (h0:(w == 3)=true)
 (h1:callv X call false 25 [AV.agg [st k,st p,st q,st r,lro t 2 u],AV.agg [st (ByteArray.mk #[]),st (ByteArray.mk #[]),st (ByteArray.mk #[]),st (ByteArray.mk #[]),AV.list LK.nil 0 0 []]] [Ob.cells [st (Lexm.id x0),st (Lexm.cat x0),st (Lexm.stem x0),st (Lexm.par x0),lro (List.length (Lexm.feats x0)) 2 (List.flatMap featC (Lexm.feats x0))],Ob.cells [st a,st c,st d,st e,lro g 2 h],Ob.cells [st k,st p,st q,st r,lro t 2 u]] 0=some (bo true,[Ob.cells [st (Lexm.id x0),st (Lexm.cat x0),st (Lexm.stem x0),st (Lexm.par x0),lro (List.length (Lexm.feats x0)) 2 (List.flatMap featC (Lexm.feats x0))],Ob.cells [st a,st c,st d,st e,lro g 2 h],Ob.cells [st k,st p,st q,st r,lro t 2 u]])):vexec Tryd.prog X call lf 0 fg7 (regN Tryd.f7 9) (f7_S6 x0 s0 b22 b40 x25 a c d e g h j k p q r t u w)=some (Ex.normal,(f7_S7 x0 s0 b22 b40 x25 a c d e g h j k p q r t u w)) :=
  around_sound (ans:=[(2,Ans.b true),(9,Ans.v (bo true))]) (by kernel_rfl) (ai h0 (ai h1 trivial))
theorem f7_g9_ftt (x0:Lexm)(s0:ByteArray)(b22 b40:Bool)(X:Ext)(call:Caller)(lf:Nat)(x25 a c d e:ByteArray)(g:Nat)(h:List AV)(j:Int)(k p q r:ByteArray)(t:Nat)(u:List AV)(w:Int)(x58:ByteArray)
 (h0:(w == 3)=false)
 (h1:(w == 0)=true)
 (h2:callv X call false 21 [AV.agg [st k,st p,st q,st r,lro t 2 u]] [Ob.cells [st (Lexm.id x0),st (Lexm.cat x0),st (Lexm.stem x0),st (Lexm.par x0),lro (List.length (Lexm.feats x0)) 2 (List.flatMap featC (Lexm.feats x0))],Ob.cells [st a,st c,st d,st e,lro g 2 h],Ob.cells [st k,st p,st q,st r,lro t 2 u]] 0=some (st x58,[Ob.cells [st (Lexm.id x0),st (Lexm.cat x0),st (Lexm.stem x0),st (Lexm.par x0),lro (List.length (Lexm.feats x0)) 2 (List.flatMap featC (Lexm.feats x0))],Ob.cells [st a,st c,st d,st e,lro g 2 h],Ob.cells [st k,st p,st q,st r,lro t 2 u]]))
 (h3:(ByteArray.toList x58 == ByteArray.toList s0)=true):vexec Tryd.prog X call lf 0 fg7 (regN Tryd.f7 9) (f7_S6 x0 s0 b22 b40 x25 a c d e g h j k p q r t u w)=some (Ex.normal,(f7_S7 x0 s0 b22 b40 x25 a c d e g h j k p q r t u w)) :=
  around_sound (ans:=[(2,Ans.b false),(12,Ans.b true),(18,Ans.v (st x58)),(22,Ans.b true)]) (by kernel_rfl) (ai h0 (ai h1 (ai h2 (ai h3 trivial))))
def f7_S9 (x0:Lexm)(s0:ByteArray)(b22 b40 b62:Bool)(x25 a b c d:ByteArray)(e:Nat)(g:List AV)(h:Int)(j k p q:ByteArray)(r:Nat)(t:List AV)(u:Int):St :=
  stOf 63 [10,11,12,13,14,15,16,17,18,19,20,21,24,25,26,28,29,30,31,32,33,34,35,36,37,38,39,41,42,43,44,45,46,47,48,49,50,51,52,53,54,55,56,57,58,59,60,61,62] [(0,AV.agg [st (Lexm.id x0),st (Lexm.cat x0),st (Lexm.stem x0),st (Lexm.par x0),lro (List.length (Lexm.feats x0)) 2 (List.flatMap featC (Lexm.feats x0))]),(1,st s0),(2,AV.ref 0 0),(4,bo b62),(5,st x25),(6,AV.ref 1 0),(7,i6 h),(8,AV.ref 2 0),(9,i6 u),(22,bo b22),(27,bo true),(40,bo b40)] [Ob.cells [st (Lexm.id x0),st (Lexm.cat x0),st (Lexm.stem x0),st (Lexm.par x0),lro (List.length (Lexm.feats x0)) 2 (List.flatMap featC (Lexm.feats x0))],Ob.cells [st a,st b,st c,st d,lro e 2 g],Ob.cells [st j,st k,st p,st q,lro r 2 t]]
theorem f7_pftf (x0:Lexm)(s0:ByteArray)(b22 b40 b62:Bool)(X:Ext)(call:Caller)(lf:Nat)(x25 a c d e:ByteArray)(g:Nat)(h:List AV)(j:Int)(k p q r:ByteArray)(t:Nat)(u:List AV)(w:Int)
 (h0:vexec Tryd.prog X call lf 0 fg7 (regN Tryd.f7 1) (f7_S0 x0 s0)=some (Ex.normal,(f7_S2 x0 s0 b22)))
 (h1:b22=false)
 (h2:callv X call false 21 [AV.agg [st (Lexm.id x0),st (Lexm.cat x0),st (Lexm.stem x0),st (Lexm.par x0),lro (List.length (Lexm.feats x0)) 2 (List.flatMap featC (Lexm.feats x0))]] [Ob.cells [st (Lexm.id x0),st (Lexm.cat x0),st (Lexm.stem x0),st (Lexm.par x0),lro (List.length (Lexm.feats x0)) 2 (List.flatMap featC (Lexm.feats x0))]] 0=some (st x25,[Ob.cells [st (Lexm.id x0),st (Lexm.cat x0),st (Lexm.stem x0),st (Lexm.par x0),lro (List.length (Lexm.feats x0)) 2 (List.flatMap featC (Lexm.feats x0))]]))
 (h3:(!ByteArray.toList x25 == ByteArray.toList (ByteArray.mk #[]))=true)
 (h4:callv X call false 23 [st x25] [Ob.cells [st (Lexm.id x0),st (Lexm.cat x0),st (Lexm.stem x0),st (Lexm.par x0),lro (List.length (Lexm.feats x0)) 2 (List.flatMap featC (Lexm.feats x0))]] 0=some (AV.tup [AV.agg [st a,st c,st d,st e,lro g 2 h],i6 j],[Ob.cells [st (Lexm.id x0),st (Lexm.cat x0),st (Lexm.stem x0),st (Lexm.par x0),lro (List.length (Lexm.feats x0)) 2 (List.flatMap featC (Lexm.feats x0))]]))
 (h5:vexec Tryd.prog X call lf 0 fg7 (regN Tryd.f7 6) (f7_S3 x0 s0 b22 x25 a c d e g h j)=some (Ex.normal,(f7_S5 x0 s0 b22 b40 x25 a c d e g h j)))
 (h6:b40=false)
 (h7:callv X call false 23 [st s0] [Ob.cells [st (Lexm.id x0),st (Lexm.cat x0),st (Lexm.stem x0),st (Lexm.par x0),lro (List.length (Lexm.feats x0)) 2 (List.flatMap featC (Lexm.feats x0))],Ob.cells [st a,st c,st d,st e,lro g 2 h]] 0=some (AV.tup [AV.agg [st k,st p,st q,st r,lro t 2 u],i6 w],[Ob.cells [st (Lexm.id x0),st (Lexm.cat x0),st (Lexm.stem x0),st (Lexm.par x0),lro (List.length (Lexm.feats x0)) 2 (List.flatMap featC (Lexm.feats x0))],Ob.cells [st a,st c,st d,st e,lro g 2 h]]))
 (h8:vexec Tryd.prog X call lf 0 fg7 (regN Tryd.f7 9) (f7_S6 x0 s0 b22 b40 x25 a c d e g h j k p q r t u w)=some (Ex.normal,(f7_S9 x0 s0 b22 b40 b62 x25 a c d e g h j k p q r t u w))):vbody Tryd.prog X call lf fg7 Tryd.f7 (codeOf Tryd.f7) [AV.agg (lexC x0),st s0] [] 0=some (bo b62,[Ob.cells [st (Lexm.id x0),st (Lexm.cat x0),st (Lexm.stem x0),st (Lexm.par x0),lro (List.length (Lexm.feats x0)) 2 (List.flatMap featC (Lexm.feats x0))],Ob.cells [st a,st c,st d,st e,lro g 2 h],Ob.cells [st k,st p,st q,st r,lro t 2 u]]) :=
  along_sound (ans:=[(3,Ans.l Ex.normal (f7_S2 x0 s0 b22)),(4,Ans.b false),(7,Ans.v (st x25)),(11,Ans.b true),(15,Ans.v (AV.tup [AV.agg [st a,st c,st d,st e,lro g 2 h],i6 j])),(22,Ans.l Ex.normal (f7_S5 x0 s0 b22 b40 x25 a c d e g h j)),(23,Ans.b false),(26,Ans.v (AV.tup [AV.agg [st k,st p,st q,st r,lro t 2 u],i6 w])),(33,Ans.l Ex.normal (f7_S9 x0 s0 b22 b40 b62 x25 a c d e g h j k p q r t u w))]) (by kernel_rfl) (ai h0 (ai h1 (ai h2 (ai h3 (ai h4 (ai h5 (ai h6 (ai h7 (ai h8 trivial)))))))))
def f7_S10 (x0:Lexm)(s0:ByteArray)(b22:Bool)(x25 a b c d:ByteArray)(e:Nat)(g:List AV)(h:Int):St :=
  stOf 63 [10,11,12,13,14,15,16,17,18,19,20,21,24,25,26,41,42,43,44,45] [(0,AV.agg [st (Lexm.id x0),st (Lexm.cat x0),st (Lexm.stem x0),st (Lexm.par x0),lro (List.length (Lexm.feats x0)) 2 (List.flatMap featC (Lexm.feats x0))]),(1,st s0),(2,AV.ref 0 0),(4,bo false),(5,st x25),(8,AV.ref 1 0),(9,i6 h),(22,bo b22),(27,bo false)] [Ob.cells [st (Lexm.id x0),st (Lexm.cat x0),st (Lexm.stem x0),st (Lexm.par x0),lro (List.length (Lexm.feats x0)) 2 (List.flatMap featC (Lexm.feats x0))],Ob.cells [st a,st b,st c,st d,lro e 2 g]]
def f7_S11 (x0:Lexm)(s0:ByteArray)(b22:Bool)(x25 a b c d:ByteArray)(e:Nat)(g:List AV)(h:Int):St :=
  stOf 63 [10,11,12,13,14,15,16,17,18,19,20,21,24,25,26,41,42,43,44,45,46,47,48,49,50,51,52,53,54,55,56,57,58,59,60,61,62] [(0,AV.agg [st (Lexm.id x0),st (Lexm.cat x0),st (Lexm.stem x0),st (Lexm.par x0),lro (List.length (Lexm.feats x0)) 2 (List.flatMap featC (Lexm.feats x0))]),(1,st s0),(2,AV.ref 0 0),(4,bo true),(5,st x25),(8,AV.ref 1 0),(9,i6 h),(22,bo b22),(27,bo false)] [Ob.cells [st (Lexm.id x0),st (Lexm.cat x0),st (Lexm.stem x0),st (Lexm.par x0),lro (List.length (Lexm.feats x0)) 2 (List.flatMap featC (Lexm.feats x0))],Ob.cells [st a,st b,st c,st d,lro e 2 g]]
theorem f7_g9b_tt (x0:Lexm)(s0:ByteArray)(b22:Bool)(X:Ext)(call:Caller)(lf:Nat)(x25 a c d e:ByteArray)(g:Nat)(h:List AV)(j:Int)
 (h0:(j == 3)=true)
 (h1:callv X call false 25 [AV.agg [st a,st c,st d,st e,lro g 2 h],AV.agg [st (ByteArray.mk #[]),st (ByteArray.mk #[]),st (ByteArray.mk #[]),st (ByteArray.mk #[]),AV.list LK.nil 0 0 []]] [Ob.cells [st (Lexm.id x0),st (Lexm.cat x0),st (Lexm.stem x0),st (Lexm.par x0),lro (List.length (Lexm.feats x0)) 2 (List.flatMap featC (Lexm.feats x0))],Ob.cells [st a,st c,st d,st e,lro g 2 h]] 0=some (bo true,[Ob.cells [st (Lexm.id x0),st (Lexm.cat x0),st (Lexm.stem x0),st (Lexm.par x0),lro (List.length (Lexm.feats x0)) 2 (List.flatMap featC (Lexm.feats x0))],Ob.cells [st a,st c,st d,st e,lro g 2 h]])):vexec Tryd.prog X call lf 0 fg7 (regN Tryd.f7 9) (f7_S10 x0 s0 b22 x25 a c d e g h j)=some (Ex.normal,(f7_S11 x0 s0 b22 x25 a c d e g h j)) :=
  around_sound (ans:=[(2,Ans.b true),(9,Ans.v (bo true))]) (by kernel_rfl) (ai h0 (ai h1 trivial))
theorem f7_g9b_ftt (x0:Lexm)(s0:ByteArray)(b22:Bool)(X:Ext)(call:Caller)(lf:Nat)(x25 a c d e:ByteArray)(g:Nat)(h:List AV)(j:Int)(x58:ByteArray)
 (h0:(j == 3)=false)
 (h1:(j == 0)=true)
 (h2:callv X call false 21 [AV.agg [st a,st c,st d,st e,lro g 2 h]] [Ob.cells [st (Lexm.id x0),st (Lexm.cat x0),st (Lexm.stem x0),st (Lexm.par x0),lro (List.length (Lexm.feats x0)) 2 (List.flatMap featC (Lexm.feats x0))],Ob.cells [st a,st c,st d,st e,lro g 2 h]] 0=some (st x58,[Ob.cells [st (Lexm.id x0),st (Lexm.cat x0),st (Lexm.stem x0),st (Lexm.par x0),lro (List.length (Lexm.feats x0)) 2 (List.flatMap featC (Lexm.feats x0))],Ob.cells [st a,st c,st d,st e,lro g 2 h]]))
 (h3:(ByteArray.toList x58 == ByteArray.toList s0)=true):vexec Tryd.prog X call lf 0 fg7 (regN Tryd.f7 9) (f7_S10 x0 s0 b22 x25 a c d e g h j)=some (Ex.normal,(f7_S11 x0 s0 b22 x25 a c d e g h j)) :=
  around_sound (ans:=[(2,Ans.b false),(12,Ans.b true),(18,Ans.v (st x58)),(22,Ans.b true)]) (by kernel_rfl) (ai h0 (ai h1 (ai h2 (ai h3 trivial))))
def f7_S13 (x0:Lexm)(s0:ByteArray)(b22 b62:Bool)(x25 a b c d:ByteArray)(e:Nat)(g:List AV)(h:Int):St :=
  stOf 63 [10,11,12,13,14,15,16,17,18,19,20,21,24,25,26,41,42,43,44,45,46,47,48,49,50,51,52,53,54,55,56,57,58,59,60,61,62] [(0,AV.agg [st (Lexm.id x0),st (Lexm.cat x0),st (Lexm.stem x0),st (Lexm.par x0),lro (List.length (Lexm.feats x0)) 2 (List.flatMap featC (Lexm.feats x0))]),(1,st s0),(2,AV.ref 0 0),(4,bo b62),(5,st x25),(8,AV.ref 1 0),(9,i6 h),(22,bo b22),(27,bo false)] [Ob.cells [st (Lexm.id x0),st (Lexm.cat x0),st (Lexm.stem x0),st (Lexm.par x0),lro (List.length (Lexm.feats x0)) 2 (List.flatMap featC (Lexm.feats x0))],Ob.cells [st a,st b,st c,st d,lro e 2 g]]
theorem f7_pff (x0:Lexm)(s0:ByteArray)(b22 b62:Bool)(X:Ext)(call:Caller)(lf:Nat)(x25 a c d e:ByteArray)(g:Nat)(h:List AV)(j:Int)
 (h0:vexec Tryd.prog X call lf 0 fg7 (regN Tryd.f7 1) (f7_S0 x0 s0)=some (Ex.normal,(f7_S2 x0 s0 b22)))
 (h1:b22=false)
 (h2:callv X call false 21 [AV.agg [st (Lexm.id x0),st (Lexm.cat x0),st (Lexm.stem x0),st (Lexm.par x0),lro (List.length (Lexm.feats x0)) 2 (List.flatMap featC (Lexm.feats x0))]] [Ob.cells [st (Lexm.id x0),st (Lexm.cat x0),st (Lexm.stem x0),st (Lexm.par x0),lro (List.length (Lexm.feats x0)) 2 (List.flatMap featC (Lexm.feats x0))]] 0=some (st x25,[Ob.cells [st (Lexm.id x0),st (Lexm.cat x0),st (Lexm.stem x0),st (Lexm.par x0),lro (List.length (Lexm.feats x0)) 2 (List.flatMap featC (Lexm.feats x0))]]))
 (h3:(!ByteArray.toList x25 == ByteArray.toList (ByteArray.mk #[]))=false)
 (h4:callv X call false 23 [st s0] [Ob.cells [st (Lexm.id x0),st (Lexm.cat x0),st (Lexm.stem x0),st (Lexm.par x0),lro (List.length (Lexm.feats x0)) 2 (List.flatMap featC (Lexm.feats x0))]] 0=some (AV.tup [AV.agg [st a,st c,st d,st e,lro g 2 h],i6 j],[Ob.cells [st (Lexm.id x0),st (Lexm.cat x0),st (Lexm.stem x0),st (Lexm.par x0),lro (List.length (Lexm.feats x0)) 2 (List.flatMap featC (Lexm.feats x0))]]))
 (h5:vexec Tryd.prog X call lf 0 fg7 (regN Tryd.f7 9) (f7_S10 x0 s0 b22 x25 a c d e g h j)=some (Ex.normal,(f7_S13 x0 s0 b22 b62 x25 a c d e g h j))):vbody Tryd.prog X call lf fg7 Tryd.f7 (codeOf Tryd.f7) [AV.agg (lexC x0),st s0] [] 0=some (bo b62,[Ob.cells [st (Lexm.id x0),st (Lexm.cat x0),st (Lexm.stem x0),st (Lexm.par x0),lro (List.length (Lexm.feats x0)) 2 (List.flatMap featC (Lexm.feats x0))],Ob.cells [st a,st c,st d,st e,lro g 2 h]]) :=
  along_sound (ans:=[(3,Ans.l Ex.normal (f7_S2 x0 s0 b22)),(4,Ans.b false),(7,Ans.v (st x25)),(11,Ans.b false),(15,Ans.v (AV.tup [AV.agg [st a,st c,st d,st e,lro g 2 h],i6 j])),(22,Ans.l Ex.normal (f7_S13 x0 s0 b22 b62 x25 a c d e g h j))]) (by kernel_rfl) (ai h0 (ai h1 (ai h2 (ai h3 (ai h4 (ai h5 trivial))))))
end Go.Proofs.Lex
end
/- Lexicon: the reference's line. -/
section
open Go Go.Vm Go.Proofs
namespace Go.Proofs.Lex
theorem any_hit {s:ByteArray} {k:Nat} {x:UInt8} (hb:∀ i,i < k→∀ b,s.data.toList[i]? = some b → ¬ (b=32 ∨ b=10)) (hx:s.data.toList[k]? = some x) (h:x=32 ∨ x=10):anyBN s=true:=by
  have hno : Lib.NoAny s.data.toList [32, 10] k := fun j b hj hjb => by
    have:=hb j hj b hjb
    rw [Bool.eq_false_iff]
    intro hc
    simp only [List.contains_cons,List.contains_nil,Bool.or_false,Bool.or_eq_true,beq_iff_eq] at hc
    exact this hc
  have hc:[(32:UInt8),10].contains x=true:=by rcases h with rfl | rfl <;> decide
  unfold anyBN Lib.containsAny
  rw [Lib.indexAny_hit hno hx hc]
  exact decide_eq_true (by omega)
theorem textF_nil {F:List Feat} (h:textF F=[]):F=[]:=by
  cases F with
  | nil=>rfl
  | cons f F =>
    exfalso
    have:textF (f::F)=((cond (decide (0 < F.length)) (textN (f::F) F.length ++ [32]) [] ++ (nF (f::F) F.length).name.data.toList) ++ [61]) ++ (nF (f::F) F.length).value.data.toList:=rfl
    rw [this] at h
    simp at h
/-- The line up to the features. -/
def headB (x:Lexm):List UInt8:=x.id.data.toList ++ [32] ++ x.cat.data.toList ++ [32] ++ (dashS x.stem).data.toList ++ [32] ++ (dashS x.par).data.toList
theorem joinB_head (x:Lexm):joinB (lineParts x) blank=if x.feats=[] then headB x else headB x ++ ([32] ++ textF x.feats):=by
  unfold lineParts partsL headB
  by_cases h:x.feats=[]
  · rw [if_pos h, if_pos (by rw [h]; rfl)]
    unfold joinB Lib.join
    simp [List.intercalate,List.intersperse,blank]
  · rw [if_neg h, if_neg (by
      intro e
      have:=congrArg (fun b:ByteArray=>b.data.toList) e
      exact h (textF_nil this))]
    unfold joinB Lib.join textS
    simp [List.intercalate,List.intersperse,blank]
section
variable [Fixed] {X:Ext}
end
end Go.Proofs.Lex
end
/- Lexicon: the reference's ParseLine. -/
section
open Go Go.Vm Go.Proofs
namespace Go.Proofs.Lex
section
variable [Fixed] {X:Ext}
/-- What ref09.ParseLine of this text asks. -/
def V24 (x0:Lexm):Go.Vm.Spec:=(((Go.Vm.Spec.on (fun _ _=>none) 57 (s1 aS aW wordF fun s=>s.size ≤ big)).on 58 (s1 aS aS undashS fun _=>True)).on 59 (s1 aS aFsB parseB fun s=>(s.size + 1) * 33 ≤ big)).on 22 (s1 aL aS lineS fun x=>x=x0)
theorem a59 (hL:XL X) {x0:Lexm} {s:ByteArray} {F:List Feat} {b:Bool} (hs:(s.size + 1) * 33 ≤ big) (e:parseB s=(F,b)) (σ:List Ob):callv X (callerOf (V24 x0)) false 59 [st s] σ 0=some (.tup [featsV F,bo b],σ):=by
  obtain ⟨a1,a2,a3⟩:=hL.ok 59 rfl
  have:=call_on (X:=X) (B:=aFsB) (T:=V24 x0) (y:=parseB s) (vs:=[aS.enc s]) (σ:=σ) (ro:=0) (dr:=false) a1 a2 a3 rfl (s1_at (A:=aS) (B:=aFsB) (g:=parseB) (ok:=fun s=>(s.size + 1) * 33 ≤ big) hs)
  rw [e] at this
  exact this
end
end Go.Proofs.Lex
end
/- Lexicon: plain laws: a line, read again. -/
section
open Go Go.Vm Go.Proofs
namespace Go.Proofs.Lex
theorem spl_free:∀ {p:List UInt8},32 ∉ p→spl p=[p]
  | [],_=>rfl
  | b :: p, h => by
    have hb:b ≠ 32:=fun e=>h (by rw [e]; exact List.mem_cons_self ..)
    have ih:=spl_free (p:=p) fun hp=>h (List.mem_cons_of_mem _ hp)
    show (if b=32 then []::spl p else match spl p with | []=>[[b]] | x::r=>(b::x)::r)=_
    rw [if_neg hb,ih]
theorem spl_cut:∀ {p l:List UInt8},32 ∉ p→spl (p ++ 32::l)=p::spl l
  | [], l, _ => by
    show (if (32:UInt8)=32 then []::spl l else match spl l with | []=>[[32]] | x::r=>(32::x)::r)=_
    rw [if_pos rfl]
  | b :: p, l, h => by
    have hb:b ≠ 32:=fun e=>h (by rw [e]; exact List.mem_cons_self ..)
    have ih:=spl_cut (p:=p) (l:=l) fun hp=>h (List.mem_cons_of_mem _ hp)
    show (if b=32 then []::spl (p ++ 32::l) else match spl (p ++ 32::l) with | []=>[[b]] | x::r=>(b::x)::r)=_
    rw [if_neg hb,ih]
theorem spl_join:∀ (P:List (List UInt8)),P ≠ []→(∀ p ∈ P,32 ∉ p)→spl (Lib.join P [32])=P
  | [],h,_=>absurd rfl h
  | [p], _, h => by
    rw [Lib.join_one]
    exact spl_free (h p (List.mem_cons_self ..))
  | p :: q :: r, _, h => by
    have ih:=spl_join (q::r) (by simp) fun x hx=>h x (List.mem_cons_of_mem _ hx)
    have e : Lib.join (p :: q :: r) [32] = p ++ 32 :: Lib.join (q :: r) [32] := by
      rw [Lib.join_cons,Lib.join_cons]
      show p ++ ([32] ++ q ++ Lib.joinTail [32] r)=_
      simp
    rw [e,spl_cut (h p (List.mem_cons_self ..)),ih]
/-! ### what a name's bytes are -/
theorem name_byte {p : Nat → Bool} {s : ByteArray} (h : allB p s = true) : ∀ b ∈ s.data.toList, p b.toNat = true := fun b hb => by
  obtain ⟨i,hi,rfl⟩:=List.getElem_of_mem hb
  have:=allB_true.1 h i (by rw [size_list]; exact hi)
  rwa [byteN_list hi] at this
theorem nameL_free {s : ByteArray} (h : nameL s = true) : 32 ∉ s.data.toList := fun hb => by
  unfold nameL at h
  rw [Bool.and_eq_true] at h
  have:=name_byte h.1 32 hb
  revert this
  decide
theorem nameF_free {s:ByteArray} (h:nameF s=true):32 ∉ s.data.toList∧61 ∉ s.data.toList:=by
  unfold nameF at h
  rw [Bool.and_eq_true] at h
  refine ⟨fun hb => ?_,fun hb => ?_⟩
  · have := name_byte h.1 32 hb
    revert this
    decide
  · have := name_byte h.1 61 hb
    revert this
    decide
theorem namesF_all {F:List Feat} (h:validF F=true):∀ f ∈ F,nameF f.name=true∧nameF f.value=true:=by
  unfold validF at h
  rw [Bool.and_eq_true] at h
  have:=h.1
  unfold namesF at this
  intro f hf
  have:=List.all_eq_true.1 this f hf
  rwa [Bool.and_eq_true] at this
/-- A feature's text. -/
def nvL (f:Feat):List UInt8:=f.name.data.toList ++ 61::f.value.data.toList
theorem nv_idx {f:Feat} (h:nameF f.name=true):idxB 61 (nvL f)=f.name.data.toList.length:=by
  have h1:=(nameF_free h).2
  unfold nvL
  rw [idxB_append]
  have e : ¬ idxB 61 f.name.data.toList < f.name.data.toList.length:=fun hk=>h1 (by have:=idxB_at hk; rw [← this]; exact List.getElem_mem _)
  rw [if_neg e,idxB_cons,if_pos rfl]
  rfl
theorem nv_eqL {f:Feat} (h:nameF f.name=true):eqL (nvL f)=true:=by
  unfold eqL
  rw [nv_idx h]
  refine decide_eq_true ?_
  unfold nvL
  simp
theorem nv_feat {f:Feat} (h:nameF f.name=true):featL (nvL f)=f:=by
  unfold featL
  rw [nv_idx h]
  unfold nvL
  have h1:(f.name.data.toList ++ 61::f.value.data.toList).take f.name.data.toList.length=f.name.data.toList:=by simp
  have h2 : (f.name.data.toList ++ 61 :: f.value.data.toList).drop (f.name.data.toList.length + 1) = f.value.data.toList := by
    simp [List.drop_append]
  rw [h1,h2,mkB_self,mkB_self]
theorem nv_free {f:Feat} (h1:nameF f.name=true) (h2:nameF f.value=true):32 ∉ nvL f:=by
  unfold nvL
  simp only [List.mem_append,List.mem_cons,not_or]
  exact ⟨(nameF_free h1).1,by decide,(nameF_free h2).1⟩
theorem textF_nv {F:List Feat} (h:∀ f ∈ F,nameF f.name=true∧nameF f.value=true):textF F=Lib.join (F.map nvL) [32]:=by
  have hm : (F.map nvL).map featL = F := by
    rw [List.map_map]
    exact (List.map_congr_left fun f hf=>nv_feat (h f hf).1).trans (List.map_id' _)
  have := textF_join (P := F.map nvL) (by
    rw [List.all_eq_true]
    intro p hp
    obtain ⟨f,hf,rfl⟩:=List.mem_map.1 hp
    exact nv_eqL (h f hf).1)
  rwa [hm] at this
theorem parse_text {F:List Feat} (h:validF F=true):parseF (mkB (textF F))=some F:=by
  have hn:=namesF_all h
  by_cases hF:F=[]
  · subst hF; exact if_pos rfl
  · have ht : textF F ≠ [] := fun e => hF (textF_nil e)
    have hne:mkB (textF F) ≠ emp:=fun e=>ht (congrArg (fun b:ByteArray=>b.data.toList) e)
    have hs : spl (mkB (textF F)).data.toList = F.map nvL := by
      rw [mkB_data,textF_nv hn]
      refine spl_join _ (fun e=>hF (List.map_eq_nil_iff.1 e)) fun p hp => ?_
      obtain ⟨f,hf,rfl⟩:=List.mem_map.1 hp
      exact nv_free (hn f hf).1 (hn f hf).2
    have hm : (F.map nvL).map featL = F := by
      rw [List.map_map]
      exact (List.map_congr_left fun f hf=>nv_feat (hn f hf).1).trans (List.map_id' _)
    rw [parseF_spl _ hne, hs, hm, if_pos ⟨by
      rw [List.all_eq_true]
      intro p hp
      obtain ⟨f,hf,rfl⟩:=List.mem_map.1 hp
      exact nv_eqL (hn f hf).1,h⟩]
/-! ### a line's words -/
theorem lineOk_parts {x:Lexm} (h:lineOk x=true):nameL x.id=true∧nameL x.cat=true∧x.stem ≠ dash∧anyBN x.stem=false∧(x.par=emp ∨ nameL x.par=true)∧x.par ≠ dash∧validF x.feats=true:=by
  unfold lineOk at h
  simp only [Bool.and_eq_true,Bool.or_eq_true,Bool.not_eq_true',decide_eq_true_eq,decide_eq_false_iff_not] at h
  simp only [h,and_self,not_false_eq_true,ne_eq]
theorem any_free {s : ByteArray} (h : anyBN s = false) : 32 ∉ s.data.toList := fun hb => by
  have hk:idxB 32 s.data.toList < s.data.toList.length:=List.findIdx_lt_length_of_exists ⟨32,hb,by simp⟩
  have : anyBN s = true := by
    rcases first_fail (p:=fun j => ¬ (s.data.toList[j]? = some 32 ∨ s.data.toList[j]? = some 10)) s.data.toList.length with hall | ⟨k,hk,hbad,hbef⟩
    · exfalso
      refine hall _ hk (.inl ?_)
      rw [List.getElem?_eq_getElem hk,idxB_at hk]
    · have hb := Classical.not_not.1 hbad
      refine any_hit (k:=k) (x:=s.data.toList[k]) (fun i hi b hib hbb=>hbef i hi ?_) (List.getElem?_eq_getElem hk) ?_
      · rw [hib]
        rcases hbb with rfl | rfl
        · exact .inl rfl
        · exact .inr rfl
      · rw [List.getElem?_eq_getElem hk] at hb
        rcases hb with hb | hb
        · exact .inl (Option.some.inj hb)
        · exact .inr (Option.some.inj hb)
  rw [h] at this
  cases this
theorem dash_free {s:ByteArray} (h:32 ∉ s.data.toList):32 ∉ (dashS s).data.toList:=by
  unfold dashS
  split
  · decide
  · exact h
theorem undash_dash {s:ByteArray} (h:s ≠ dash):undashS (dashS s)=s:=by
  unfold dashS
  by_cases e:s=emp
  · rw [if_pos e,e]; rfl
  · rw [if_neg e]
    exact if_neg h
theorem line_words {x:Lexm} (h:lineOk x=true):spl (lineS x).data.toList=x.id.data.toList::x.cat.data.toList::(dashS x.stem).data.toList::(dashS x.par).data.toList::x.feats.map nvL:=by
  obtain ⟨h1,h2,h3,h4,h5,h6,h7⟩:=lineOk_parts h
  have hn:=namesF_all h7
  have hl : (lineS x).data.toList = Lib.join (x.id.data.toList :: x.cat.data.toList :: (dashS x.stem).data.toList :: (dashS x.par).data.toList :: x.feats.map nvL) [32] := by
    have:lineS x=mkB (joinB (lineParts x) blank):=by unfold lineS; rw [h]; rfl
    rw [this,mkB_data,joinB_head]
    have ht:=textF_nv hn
    by_cases hF:x.feats=[]
    · rw [if_pos hF, hF]
      unfold headB Lib.join
      simp [List.intercalate,List.intersperse]
    · rw [if_neg hF, ht]
      obtain ⟨f, F, hf⟩ : ∃ f F, x.feats = f :: F := by
        cases h:x.feats with
        | nil=>exact absurd h hF
        | cons f F=>exact ⟨f,F,rfl⟩
      rw [hf,List.map_cons]
      unfold headB
      rw [Lib.join_cons,Lib.join_cons]
      simp [Lib.joinTail]
  rw [hl]
  refine spl_join _ (by simp) fun p hp => ?_
  simp only [List.mem_cons,List.mem_map] at hp
  rcases hp with rfl | rfl | rfl | rfl | ⟨f,hf,rfl⟩
  · exact nameL_free h1
  · exact nameL_free h2
  · exact dash_free (any_free h4)
  · refine dash_free ?_
    rcases h5 with h5 | h5
    · rw [h5]; decide
    · exact nameL_free h5
  · exact nv_free (hn f hf).1 (hn f hf).2
/-- ParseLine inverts Line. -/
theorem parse_line {x:Lexm} (h:lineOk x=true):parseL (lineS x)=some x:=by
  obtain ⟨h1,h2,h3,h4,h5,h6,h7⟩:=lineOk_parts h
  have hw:=line_words h
  have hn:=namesF_all h7
  have hsl:=split_mk (lineS x)
  rw [hw] at hsl
  unfold parseL
  rw [hsl]
  unfold parseP
  rw [if_neg (by simp)]
  have hrest : restS ((x.id.data.toList :: x.cat.data.toList :: (dashS x.stem).data.toList :: (dashS x.par).data.toList :: x.feats.map nvL).map mkB) = mkB (textF x.feats) := by
    unfold restS joinB
    simp only [List.map_cons,List.drop_succ_cons,List.drop_zero,List.map_map]
    have:((fun x:ByteArray=>x.data.toList) ∘ (mkB ∘ nvL))=nvL:=by funext y; rfl
    rw [textF_nv hn,this]
    rfl
  rw [hrest,parse_text h7]
  simp only
  have hc : candF ((x.id.data.toList :: x.cat.data.toList :: (dashS x.stem).data.toList :: (dashS x.par).data.toList :: x.feats.map nvL).map mkB) x.feats = x := by
    show (⟨mkB x.id.data.toList,mkB x.cat.data.toList,undashS (mkB (dashS x.stem).data.toList),undashS (mkB (dashS x.par).data.toList),x.feats⟩:Lexm)=x
    rw [mkB_self,mkB_self,mkB_self,mkB_self,undash_dash h3,undash_dash h6]
  rw [hc,if_pos rfl]
theorem line_ne {x : Lexm} (h : lineOk x = true) : lineS x ≠ emp := fun e => by
  have:=line_words h
  rw [e] at this
  have h2:[[]]=_:=this
  simp at h2
theorem parse_inv {s:ByteArray} {x:Lexm} (h:parseL s=some x):lineS x=s:=by
  unfold parseL parseP at h
  split at h
  · cases h
  · split at h
    · cases h
    · split at h
      · rename_i hl
        simp only [Option.some.injEq] at h
        rw [← h]
        exact hl
      · cases h
end Go.Proofs.Lex
end
/- Lexicon: the laws of lines and of parsing, walked (printed) -/
section
open Go Go.Vm Go.Proofs
namespace Go.Proofs.Lex
end Go.Proofs.Lex
end
/- Lexicon: the laws of lines, of parsing, and of both. -/
section
open Go Go.Vm Go.Proofs
namespace Go.Proofs.Lex
/-- What a machine holds of a lexeme's features in the second form. -/
abbrev smallB:Nat:=184549376
def SmallF (F:List Feat):Prop:=F.length ≤ smallB∧∀ f ∈ F,f.name.size ≤ smallB∧f.value.size ≤ smallB
section
variable [Fixed]
theorem okPar_of {s:ByteArray} (h:s.size < lim):okPar s:=by
  refine ⟨h,any_all ?_⟩
  have h2 : (nS (splitL s blank) 2).size ≤ s.size := by
    by_cases hk:2 < (splitL s blank).length
    · exact part_le rfl hk
    · unfold nS
      rw [List.getD_eq_getElem?_getD,List.getElem?_eq_none (by omega)]
      exact Nat.zero_le _
  exact Nat.lt_of_le_of_lt (undashS_le h2) h
theorem short_few {x:Lexm} (h:fewL [x]=true):x.id.size ≤ 60∧x.cat.size ≤ 60∧x.stem.size ≤ 200∧x.par.size ≤ 60∧x.feats.length ≤ 20:=by
  unfold fewL at h
  simp only [List.all_cons,List.all_nil,Bool.and_true,Bool.and_eq_true] at h
  have hs:=h.1
  unfold shortL at hs
  simp only [Bool.and_eq_true,Bool.not_eq_true',decide_eq_false_iff_not] at hs
  refine ⟨?_,?_,?_,?_,?_⟩ <;> omega
theorem valid8 {F:List Feat} (h:validF F=true):F.length ≤ 8:=by
  unfold validF at h
  simp only [Bool.and_eq_true,decide_eq_true_eq] at h
  exact h.2.2
theorem line_small {x:Lexm} (h:fewL [x]=true) (hF:SmallF x.feats) (hok:lineOk x=true):(textF x.feats).length ≤ 2952790100∧(joinB (lineParts x) blank).length ≤ 2952791000:=by
  obtain ⟨h1,h2,h3,h4,h5⟩:=short_few h
  have h8:=valid8 (lineOk_parts hok).2.2.2.2.2.2
  have ht:=textN_bound (B:=smallB) hF.2 x.feats.length (Nat.le_refl _)
  have hm:x.feats.length * (2 * smallB + 2) ≤ 8 * (2 * smallB + 2):=Nat.mul_le_mul_right _ h8
  have e:8 * (2 * smallB + 2)=2952790032:=by decide
  have htl : (textF x.feats).length ≤ 2952790032 := by
    show (textN x.feats x.feats.length).length ≤ _
    omega
  refine ⟨by omega,?_⟩
  rw [joinB_head]
  have d3:=dashS_le h3 (by omega)
  have d4:=dashS_le h4 (by omega)
  rw [size_list] at h1 h2 d3 d4
  have hh : (headB x).length ≤ 400 := by
    unfold headB
    simp only [List.length_append,List.length_singleton]
    omega
  split
  · omega
  · simp only [List.length_append, List.length_singleton]
    omega
end
section
variable [Fixed] {X:Ext}
theorem okLine_few {x:Lexm} (h:fewL [x]=true) (hF:SmallF x.feats):okLine x∧okS x.stem:=by
  obtain ⟨h1,h2,h3,h4,h5⟩:=short_few h
  refine ⟨⟨?_,?_,?_,⟨?_,fun f hf => ?_⟩,any_all ?_,fun hok=>⟨?_,?_⟩,fun hok => ?_⟩,?_⟩
  · show _ ≤ 140737488355328; omega
  · show _ ≤ 140737488355328; omega
  · show _ ≤ 140737488355328; omega
  · show _ ≤ 140737488355328; omega
  · obtain ⟨k1, k2⟩ := hF.2 f hf
    have:smallB=184549376:=rfl
    exact ⟨by show _ ≤ 140737488355328; omega,by show _ ≤ 140737488355328; omega⟩
  · show _ < 4294967281; omega
  · show _ ≤ 140737488355328; omega
  · have := (line_small h hF hok).1
    show _ ≤ 140737488355328; omega
  · have := (line_small h hF hok).2
    show _ ≤ 140737488355328; omega
  · show _ ≤ 140737488355328; omega
theorem line_lim {x:Lexm} (h:fewL [x]=true) (hF:SmallF x.feats):(lineS x).size < lim:=by
  show _ < 4294967281
  cases hok:lineOk x with
  | false =>
    have:lineS x=emp:=by unfold lineS; rw [hok]; rfl
    rw [this]
    decide
  | true =>
    have:lineS x=mkB (joinB (lineParts x) blank):=by unfold lineS; rw [hok]; rfl
    rw [this,size_list,mkB_data]
    have:=(line_small h hF hok).2
    omega
theorem parse_len {s:ByteArray} {x:Lexm} (hs:s.size < lim) (h:parseL s=some x):okF x.feats∧x.feats.length ≤ 8∧(∀ f ∈ x.feats,f.name.size ≤ lim∧f.value.size ≤ lim)∧okLine x:=by
  have hp:=okPar_of hs
  unfold parseL parseP at h
  split at h
  · cases h
  · rename_i h4
    cases hF:parseF (restS (splitL s blank)) with
    | none=>rw [hF] at h; cases h
    | some F =>
      rw [hF] at h
      simp only at h
      split at h
      · simp only [Option.some.injEq] at h
        have hr : (restS (splitL s blank)).size ≤ s.size := by
          have:=joinB_drop_le s 4
          show (joinB ((splitL s blank).drop 4) blank).toArray.size ≤ _
          simpa using this
        have hk:=parseF_ok (Nat.lt_of_le_of_lt hr hs) hF
        have hl:=okLine_cand hp h4 hk
        subst h
        exact ⟨hk.1,hk.2.1,hk.2.2,hl⟩
      · cases h
abbrev resL (s:ByteArray):Lexm × Int:=resE d0L (parseL s)
theorem few_one {x:Lexm} {T:Go.Vm.Spec} {b:Bool} (hL:XL X) (h:T 15 [.list .clip 1 5 (lexC x)]=some (bo b)) (σ:List Ob):callv X (callerOf T) false 15 [.list .clip 1 5 (lexC x)] σ 0=some (bo b,σ):=by
  obtain ⟨a1,a2,a3⟩:=hL.ok 15 rfl
  refine call_on (B:=aB) (y:=b) a1 a2 a3 ?_ h
  have:AV.lt 0 (.list .clip 1 5 (lexC x))=true:=aLs.declt _ [x] (aLs.de [x])
  simp only [AV.ltAll,this,Bool.and_self]
theorem tb_few (x:Lexm):TB 15 [.list .clip 1 5 (lexC x)]=some (bo (fewL [x])):=by
  have hd:aLs.dec (.list .clip 1 5 (lexC x))=some [x]:=aLs.de [x]
  show s1 aLs aB fewL (fun L=>L.length ≤ big) [.list .clip 1 5 (lexC x)]=_
  unfold s1
  rw [sp1_at hd]
  exact if_pos (by show 1 ≤ 140737488355328; omega)
theorem bsl_lex (x:Lexm) (σ:List Ob):bsl Tryd.prog 22 1 σ false 0 [(0,.agg (lexC x))]=some (.list .clip 1 5 (lexC x),σ):=bsl_one Tryd.underlying22 cells33 zero33 rfl rfl (by show 5 ≤ 16777216; omega) (owns_lex _) rfl
variable (hX:ExtOk Tryd.prog X) (hM:XM X) (h14:CallAt Tryd.prog 14 [] [] 0 (bo true) [])
include hX hM h14
theorem on14 {T:Go.Vm.Spec} (h:T 14 []=some (bo true)) (σ:List Ob) (dr:Bool):callv X (callerOf T) dr 14 [] σ 0=some (bo true,σ):=by
  obtain ⟨a1,a2,a3⟩:=hM.ok 14 rfl
  exact call_on (B:=aB) (y:=true) a1 a2 a3 rfl h
end
end Go.Proofs.Lex
end
/- Lexicon: where what is read is of little bulk, no part of it is large; rows of that kind. -/
section
open Go Go.Vm Go.Proofs Go.Proofs.YtogacbdboplbfaaDoor
open Go.RowKit Go.ChangeShapes Go.WideShapes Go.Lib Go.Shelf
namespace Go.Proofs.Lex
section
variable {H:Type}
theorem bulk_pos (d:DataW H):1 ≤ Rows.uptoBulk d:=by
  cases d with
  | lit l=>cases l <;> simp [Rows.uptoBulk]
  | _=>simp [Rows.uptoBulk]
theorem bulk_len:∀ (ds:List (DataW H)),ds.length ≤ Rows.uptoBulkAll ds
  | []=>by simp [Rows.uptoBulkAll]
  | d :: ds => by
    have h1:=bulk_pos d
    have h2:=bulk_len ds
    simp only [Rows.uptoBulkAll,List.length_cons]
    omega
theorem mul_le {a b M N:Nat} (h:a ≤ b) (hM:M ≤ N):a * M ≤ N * b:=by rw [Nat.mul_comm]; exact Nat.mul_le_mul hM h
variable (P:Program) (M:Nat) (tl:List TypeId) (hok:tl.all (Go.Vm.okT P tl)=true) (hM:∀ t ∈ tl,P.bytesOf t ≤ M) (h1:1 ≤ M)
include hok in
theorem okT_slice {t e:TypeId} (ht:t ∈ tl) (hu:P.underlying t=some (.slice e)):e ∈ tl:=by
  have h:=List.all_eq_true.1 hok t ht
  unfold Go.Vm.okT at h
  rw [hu] at h
  simp only [Bool.and_eq_true] at h
  exact memN_iff h.1.2
include hok in
theorem okT_struct {t:TypeId} {fs:Array Field} (ht:t ∈ tl) (hu:P.underlying t=some (.struct fs)):∀ x ∈ fs.toList.map (·.type),x ∈ tl:=by
  have h:=List.all_eq_true.1 hok t ht
  unfold Go.Vm.okT at h
  rw [hu] at h
  simp only [Bool.and_eq_true,List.all_eq_true] at h
  intro x hx
  obtain ⟨f,hf,rfl⟩:=List.mem_map.1 hx
  exact memN_iff (h.1 f hf)
include hok in
theorem okT_other {t:TypeId} (ht:t ∈ tl):(∀ e,P.underlying t ≠ some (.pointer e))∧(∀ k e,P.underlying t ≠ some (.map k e))∧(∀ n e,P.underlying t ≠ some (.array n e)):=by
  have h:=List.all_eq_true.1 hok t ht
  unfold Go.Vm.okT at h
  refine ⟨fun e hu => ?_,fun k e hu => ?_,fun n e hu => ?_⟩ <;> rw [hu] at h <;> simp at h
include hok hM h1
mutual
theorem weights_le:∀ (d:DataW H) (t:TypeId),t ∈ tl→∀ n ∈ DataW.weights P t d,n ≤ (2 * M) * Rows.uptoBulk d
  | .lit l, t, ht, n, hn => by
    cases l with
    | string bs =>
      simp only [DataW.weights,List.mem_singleton] at hn
      subst hn
      simp only [Rows.uptoBulk]
      have:=Nat.mul_le_mul (show 1 ≤ 2 * M by omega) (Nat.le_refl (bs.length + 1))
      omega
    | _=>simp [DataW.weights] at hn
  | .nil,t,ht,n,hn=>by simp [DataW.weights] at hn
  | .ptr d, t, ht, n, hn => by
    simp only [DataW.weights] at hn
    split at hn
    · rename_i e hu
      exact absurd hu ((okT_other P tl hok ht).1 e)
    · simp at hn
  | .slice elems spare, t, ht, n, hn => by
    simp only [DataW.weights] at hn
    split at hn
    · rename_i e hu
      have he:=okT_slice P tl hok ht hu
      simp only [List.mem_cons,List.mem_append] at hn
      simp only [Rows.uptoBulk]
      rw [Nat.mul_add,Nat.mul_add]
      rcases hn with rfl | hn | hn
      · have k1 := bulk_len elems
        have k2:=bulk_len spare
        have k3:=mul_le (show elems.length + spare.length ≤ Rows.uptoBulkAll elems + Rows.uptoBulkAll spare by omega) (show P.bytesOf e ≤ 2 * M by have:=hM e he; omega)
        rw [Nat.mul_add] at k3
        omega
      · have := weightsAll_le elems e he n hn
        omega
      · have := weightsAll_le spare e he n hn
        omega
    · simp at hn
  | .agg parts, t, ht, n, hn => by
    simp only [DataW.weights] at hn
    simp only [Rows.uptoBulk]
    rw [Nat.mul_add]
    split at hn
    · rename_i fs hu
      have:=weightsEach_le parts _ (okT_struct P tl hok ht hu) n hn
      omega
    · rename_i k e hu
      exact absurd hu ((okT_other P tl hok ht).2.2 k e)
    · simp at hn
  | .iface _ _,t,ht,n,hn=>by simp [DataW.weights] at hn
  | .map entries, t, ht, n, hn => by
    simp only [DataW.weights] at hn
    split at hn
    · rename_i k e hu
      exact absurd hu ((okT_other P tl hok ht).2.1 k e)
    · simp at hn
  | .held _,t,ht,n,hn=>by simp [DataW.weights] at hn
theorem weightsAll_le:∀ (ds:List (DataW H)) (e:TypeId),e ∈ tl→∀ n ∈ DataW.weightsAll P e ds,n ≤ (2 * M) * Rows.uptoBulkAll ds
  | [],e,he,n,hn=>by simp [DataW.weightsAll] at hn
  | d :: ds, e, he, n, hn => by
    simp only [DataW.weightsAll,List.mem_append] at hn
    simp only [Rows.uptoBulkAll]
    rw [Nat.mul_add]
    rcases hn with hn | hn
    · have := weights_le d e he n hn
      omega
    · have := weightsAll_le ds e he n hn
      omega
theorem weightsEach_le:∀ (ds:List (DataW H)) (ts:List TypeId),(∀ t ∈ ts,t ∈ tl)→∀ n ∈ DataW.weightsEach P ts ds,n ≤ (2 * M) * Rows.uptoBulkAll ds
  | [],ts,ht,n,hn=>by cases ts <;> simp [DataW.weightsEach] at hn
  | d::ds,[],ht,n,hn=>by simp [DataW.weightsEach] at hn
  | d :: ds, t :: ts, ht, n, hn => by
    simp only [DataW.weightsEach,List.mem_append] at hn
    simp only [Rows.uptoBulkAll]
    rw [Nat.mul_add]
    rcases hn with hn | hn
    · have := weights_le d t (ht t (List.mem_cons_self ..)) n hn
      omega
    · have := weightsEach_le ds ts (fun u hu => ht u (List.mem_cons_of_mem _ hu)) n hn
      omega
end
end
/-- What a world of little bulk says of a lexeme's features. -/
theorem smallF {x:Lexm} (h:LexIn 184549376 x):SmallF x.feats:=by
  obtain ⟨_,_,_,_,h5,h6⟩:=h
  exact ⟨by show _ ≤ 184549376; omega,h5⟩
theorem bytes_all:(tys.all fun t=>Nat.ble (Tryd.prog.bytesOf t) 88)=true:=by kernel_rfl
/-- The bound of the second form's words. -/
abbrev bulkB:Nat:=184549376
theorem small_weights {H:Type} {ts:List TypeId} {ds:List (DataW H)} (ht:∀ t ∈ ts,t ∈ tys) (h:Rows.uptoSmall H ds=true):(DataW.weightsEach Tryd.prog ts ds).all (· ≤ bulkB)=true:=by
  rw [List.all_eq_true]
  intro n hn
  have h1:=weightsEach_le Tryd.prog 88 tys tys_ok (fun t ht=>Nat.le_of_ble_eq_true (List.all_eq_true.1 bytes_all t ht)) (by omega) ds ts ht n hn
  simp only [Rows.uptoSmall,decide_eq_true_eq] at h
  have h2:(2 * 88) * Rows.uptoBulkAll ds ≤ (2 * 88) * 1048576:=Nat.mul_le_mul_left _ h
  simp only [decide_eq_true_eq]
  have:bulkB=184549376:=rfl
  omega
set_option maxRecDepth 100000 in
/-- The second form's frame: the tables laid, and little bulk. -/
theorem upto_returns {H:Type} {enc:TypeId × Value→H} {os:Os} {f:FuncId} {fn:Func} {s:ChangeSpec} (F:Stop.Interp) (hv:s.vars=[]) (started:os.Started) (noInit:Tryd.checked.prog.inits.idxOf? f=none) (hfn:Tryd.checked.prog.funcs[f]? = some fn)
    (args0:Array Value)
    (hvar:(((wit os)).forCall (fun _ _=>0) ⟨#[],args0,[]⟩).variablesB Tryd.checked.prog=true)
    (hr : ((((wit os)).forCall (fun _ _ => 0) ⟨#[], args0, []⟩).heap.toList.drop Tryd.checked.prog.globals.size).take ((begin Tryd.checked.prog (fun _ _ => 0) default).world.heap.size - Tryd.checked.prog.globals.size) =
      (begin Tryd.checked.prog (fun _ _=>0) default).world.heap.toList.drop Tryd.checked.prog.globals.size)
    (hok:Input.okWideB Tryd.checked.prog (((wit os)).forCall (fun _ _=>0) ⟨#[],args0,[]⟩) f ⟨#[],args0,[]⟩=true)
    (hx:(match DataW.whole enc Tryd.checked.prog (((wit os)).forCall (fun _ _=>0) ⟨#[],args0,[]⟩).memory fn.params.toList s.vars false args0.toList 8 with | some x=>Rows.uptoSmall H (x.1 ++ x.2.1) | none=>false)=true)
    (hsz:s.sizedB enc Tryd.checked.prog fn false (((wit os)).forCall (fun _ _=>0) ⟨#[],args0,[]⟩).memory args0 8=true)
    (contract : ∀ (W : World) (base : Nat) (args : Array Value) (ds gs : List (DataW H)) (before : List MemPlace),
      (∀ (j:Nat) t v,fn.params[j]? = some t→args[j]? = some v→Value.okWide Tryd.checked.prog W .any base t v) →
      DataW.Whole enc Tryd.checked.prog fn.params.toList s.vars false W args.toList ds gs before →
      Rows.uptoSmall H (ds ++ gs)=true→laidMetH Tryd.prog laidL W→W.ShapedOpen Tryd.checked.prog →
      Calls Tryd.checked.prog f args W fun e W' => ∃ v,e = .returned v∧s.post enc Tryd.checked.prog fn false true false false W args v W') :
    ReturnsInHanded {} Tryd.checked os f .any (fun w args=>((Rows.OpenSpec.upto s).pre enc Tryd.prog fn [] false w args∧laidMetH Tryd.prog laidL w)∧sizedMet enc Tryd.prog fn (Rows.OpenSpec.upto s) false w args) (((Rows.OpenSpec.upto s).at F).post enc Tryd.prog fn false true false false):=by
  refine returnsInHanded_of_calls own started noInit ?_ ?_
  · refine ⟨wit os, fun _ _ => 0, ⟨#[], args0, []⟩, World.laidAll_os _ _ _, World.shaped_of_B hvar hr, rfl, (Input.okWide_of_okWideB hok).2, ⟨⟨?_, laidH (wit_met os _)⟩, ?_⟩, ?_⟩
    · split at hx
      · rename_i x hw
        exact (OpenSpec.pre_some (s:=Rows.OpenSpec.upto s) (k:=Rows.uptoSmall) rfl [] false _ _).2 ⟨x.1,x.2.1,x.2.2,DataW.Whole_of_whole hw,rfl,hx⟩
      · cases hx
    · exact sizedMet_of_sizedB hsz
    · simp only [Assume.holds]
      exact ⟨by simp,by simp,fun h=>by simp at h,by simp,by simp⟩
  · intro w tape i _ hsh _ hok hpre hholds
    obtain ⟨_,_,_,fn',hfn',_,_,_,_,hval⟩:=hok
    have e:fn' = fn:=Option.some.inj (hfn'.symm.trans hfn)
    subst e
    obtain ⟨⟨hp,hl⟩,_⟩:=hpre
    obtain ⟨ds,gs,before,hw,_,hkk'⟩:=(OpenSpec.pre_some (s:=Rows.OpenSpec.upto s) (k:=Rows.uptoSmall) rfl [] false _ _).1 hp
    have hw' := DataW.Whole.of_heap (w' := w.forCall tape i) (by rfl) hw
    have hl' : laidMetH Tryd.prog laidL (w.forCall tape i):=hl.of_heap (by rfl)
    refine (contract (w.forCall tape i) w.heap.size i.args ds gs before hval hw' hkk' hl' hsh).mono fun e W' ⟨v,he,hpo⟩ => ?_
    subst he
    exact ChangeSpec.post_blind hpo
end Go.Proofs.Lex
end
/- Lexicon: the law of inverses. -/
section
open Go Go.Vm Go.Proofs
namespace Go.Proofs.Lex
section
variable [Fixed] {X:Ext}
/-- What the law of inverses asks. -/
def V7 (x0 y0:Lexm) (s0:ByteArray):Go.Vm.Spec:=((TB.on 21 (s1 aL aS lineS fun x=>x=x0 ∨ x=y0)).on 23 (s1 aS aLE resL fun s=>s=s0 ∨ s=lineS x0)).on 25 (sp2 aL aL fun x y=>if x.feats.length ≤ big then some (aB.enc (decide (x=y))) else none)
variable (hX:ExtOk Tryd.prog X) (hM:XM X) (h14:CallAt Tryd.prog 14 [] [] 0 (bo true) [])
include hX hM h14
theorem V7_ok {x0 y0:Lexm} {s0:ByteArray} (h1:okLine x0) (h2:okLine y0) (h3:okPar s0) (h4:okPar (lineS x0)):SpecOk Tryd.prog (V7 x0 y0 s0):=by
  refine SpecOk.on2 (SpecOk.s1 (SpecOk.s1 (TB_ok hX hM.toXL h14) fun x hx => ?_) fun s hs => ?_) fun x y r hr => ?_
  · rcases hx with rfl | rfl
    · exact call21 hX hM h1
    · exact call21 hX hM h2
  · rcases hs with rfl | rfl
    · exact call23 hX hM h3
    · exact call23 hX hM h4
  · split at hr
    · rename_i hF
      simp only [Option.some.injEq] at hr
      subst hr
      exact call25 hX hM.toXL hF
    · cases hr
omit h14 hX in
theorem b21 {x0 y0 x:Lexm} {s0:ByteArray} (h:x=x0 ∨ x=y0) (σ:List Ob):callv X (callerOf (V7 x0 y0 s0)) false 21 [.agg (lexC x)] σ 0=some (st (lineS x),σ):=by
  obtain ⟨a1,a2,a3⟩:=hM.ok 21 rfl
  exact call_on (B:=aS) (T:=V7 x0 y0 s0) (y:=lineS x) (vs:=[aL.enc x]) a1 a2 a3 (by simp only [AV.ltAll,aL.lt,Bool.and_self]) (s1_at (A:=aL) (B:=aS) (g:=lineS) (ok:=fun x=>x=x0 ∨ x=y0) h)
omit h14 hX in
theorem b23 {x0 y0 x:Lexm} {s0 s:ByteArray} {n:Int} (h:s=s0 ∨ s=lineS x0) (e:resL s=(x,n)) (σ:List Ob):callv X (callerOf (V7 x0 y0 s0)) false 23 [st s] σ 0=some (.tup [.agg (lexC x),i6 n],σ):=by
  obtain ⟨a1,a2,a3⟩:=hM.ok 23 rfl
  have:=call_on (X:=X) (B:=aLE) (T:=V7 x0 y0 s0) (y:=resL s) (vs:=[aS.enc s]) (σ:=σ) (ro:=0) (dr:=false) a1 a2 a3 rfl (s1_at (A:=aS) (B:=aLE) (g:=resL) (ok:=fun s=>s=s0 ∨ s=lineS x0) h)
  rw [e] at this
  exact this
omit h14 hX in
theorem b25 {x0 y0 x:Lexm} {s0:ByteArray} (hl:x.feats.length ≤ big) (σ:List Ob):callv X (callerOf (V7 x0 y0 s0)) false 25 [.agg (lexC x),.agg (lexC x)] σ 0=some (bo true,σ):=by
  obtain ⟨a1,a2,a3⟩:=hM.ok 25 rfl
  refine call_on (B:=aB) (T:=V7 x0 y0 s0) (y:=true) (vs:=[aL.enc x,aL.enc x]) a1 a2 a3 (by simp only [AV.ltAll,aL.lt,Bool.and_self]) ?_
  show sp2 aL aL (fun x y=>if x.feats.length ≤ big then some (aB.enc (decide (x=y))) else none) [aL.enc x,aL.enc x]=_
  rw [sp2_at (aL.de _) (aL.de _),if_pos hl,decide_eq_true rfl]
omit h14 hX in
theorem b25z {x0 y0:Lexm} {s0:ByteArray} (σ:List Ob):callv X (callerOf (V7 x0 y0 s0)) false 25 [.agg (lexC d0L),.agg [st ⟨#[]⟩,st ⟨#[]⟩,st ⟨#[]⟩,st ⟨#[]⟩,.list .nil 0 0 []]] σ 0=some (bo true,σ):=by
  obtain ⟨a1,a2,a3⟩:=hM.ok 25 rfl
  refine call_on (B:=aB) (T:=V7 x0 y0 s0) (y:=true) (vs:=[aL.enc d0L,.agg [st ⟨#[]⟩,st ⟨#[]⟩,st ⟨#[]⟩,st ⟨#[]⟩,.list .nil 0 0 []]]) a1 a2 a3 rfl ?_
  show sp2 aL aL (fun x y=>if x.feats.length ≤ big then some (aB.enc (decide (x=y))) else none) [aL.enc d0L,.agg [st ⟨#[]⟩,st ⟨#[]⟩,st ⟨#[]⟩,st ⟨#[]⟩,.list .nil 0 0 []]]=_
  have hd:aL.dec (.agg [st ⟨#[]⟩,st ⟨#[]⟩,st ⟨#[]⟩,st ⟨#[]⟩,.list .nil 0 0 []])=some d0L:=rfl
  rw [sp2_at (aL.de _) hd,if_pos (show d0L.feats.length ≤ big from Nat.zero_le _),decide_eq_true rfl]
theorem law7u {x:Lexm} {s:ByteArray} (hF:SmallF x.feats):CallAt Tryd.prog 7 [aL.enc x,aS.enc s] [] 0 (aB.enc true) []:=by
  have hL:=hM.toXL
  have hb7:Tryd.f7.body=some (codeOf Tryd.f7):=by kernel_rfl
  cases hf:fewL [x] with
  | false =>
    have hC:=callerOf_ok (TB_ok hX hL h14)
    have t15:=few_one (X:=X) hL (tb_few x)
    rw [hf] at t15
    exact run_res (B:=aB) hX hC (hL.dom 7 rfl rfl) Tryd.func7 hb7 (f7_ptt x s true X (callerOf TB) 0 (f7_g1_tf x s X (callerOf TB) 0 1 (lexC x) .clip (on14 hX hM h14 rfl _ _) (bsl_lex x _) (t15 _)) rfl (on14 hX hM h14 rfl _ _)) rfl
  | true =>
    by_cases h3:(s.size:Int) > 300
    · have hC := callerOf_ok (TB_ok hX hL h14)
      have t15:=few_one (X:=X) hL (tb_few x)
      rw [hf] at t15
      exact run_res (B:=aB) hX hC (hL.dom 7 rfl rfl) Tryd.func7 hb7 (f7_ptt x s true X (callerOf TB) 0 (f7_g1_ttt x s X (callerOf TB) 0 1 (lexC x) .clip (on14 hX hM h14 rfl _ _) (bsl_lex x _) (t15 _) (decide_eq_true h3)) rfl (on14 hX hM h14 rfl _ _)) rfl
    · have hs : s.size < lim := by show _ < 4294967281; omega
      have hok:=okLine_few hf hF
      have hxl : x.feats.length ≤ big := by
        have:=hF.1
        have e:smallB=184549376:=rfl
        show _ ≤ 140737488355328
        omega
      have hll:=line_lim hf hF
      obtain ⟨y,n,hr⟩:∃ y n,resL s=(y,n):=⟨_,_,rfl⟩
      have hyo : okLine y := by
        unfold resL at hr
        cases h:parseL s with
        | none=>rw [h] at hr; simp only [resE,Prod.mk.injEq] at hr; rw [← hr.1]; exact okLine_d0
        | some z=>rw [h] at hr; simp only [resE,Prod.mk.injEq] at hr; rw [← hr.1]; exact (parse_len hs h).2.2.2
      have hC:=callerOf_ok (V7_ok hX hM h14 (x0:=x) (y0:=y) (s0:=s) hok.1 hyo (okPar_of hs) (okPar_of hll))
      have t15:=few_one (X:=X) (T:=V7 x y s) hL (tb_few x)
      rw [hf] at t15
      have r1:=f7_g1_ttf x s X (callerOf (V7 x y s)) 0 1 (lexC x) .clip (on14 hX hM h14 rfl _ _) (bsl_lex x _) (t15 _) (decide_eq_false h3)
      have c23:∀ σ,callv X (callerOf (V7 x y s)) false 23 [st s] σ 0=some (.tup [.agg (lexC y),i6 n],σ):=fun σ=>b23 hM (.inl rfl) hr σ
      have key : (n = 3 ∧ y = d0L) ∨ (n = 0 ∧ lineS y = s) := by
        unfold resL at hr
        cases h:parseL s with
        | none=>rw [h] at hr; simp only [resE,Prod.mk.injEq] at hr; exact .inl ⟨hr.2.symm,hr.1.symm⟩
        | some z=>rw [h] at hr; simp only [resE,Prod.mk.injEq] at hr; exact .inr ⟨hr.2.symm,by rw [← hr.1]; exact parse_inv h⟩
      cases hl:lineOk x with
      | true =>
        have hp:resL (lineS x)=(x,0):=by unfold resL; rw [parse_line hl]; rfl
        have hne:=line_ne hl
        have r6:=f7_g6_ft x s false X (callerOf (V7 x y s)) 0 (lineS x) x.id x.cat x.stem x.par x.feats.length (x.feats.flatMap featC) 0 rfl (b25 hM hxl _)
        rcases key with ⟨rfl,rfl⟩ | ⟨rfl,hys⟩
        · have r9 := f7_g9_tt x s false false X (callerOf (V7 x d0L s)) 0 (lineS x) x.id x.cat x.stem x.par x.feats.length (x.feats.flatMap featC) 0 d0L.id d0L.cat d0L.stem d0L.par d0L.feats.length (d0L.feats.flatMap featC) 3 rfl (b25z hM _)
          exact run_res (B:=aB) hX hC (hL.dom 7 rfl rfl) Tryd.func7 hb7 (f7_pftf x s false false true X (callerOf (V7 x d0L s)) 0 (lineS x) _ _ _ _ _ _ _ _ _ _ _ _ _ _ r1 rfl (b21 hM (.inl rfl) _) (emp_test hne) (b23 hM (.inr rfl) hp _) r6 rfl (c23 _) r9) rfl
        · have r9 := f7_g9_ftt x s false false X (callerOf (V7 x y s)) 0 (lineS x) x.id x.cat x.stem x.par x.feats.length (x.feats.flatMap featC) 0 y.id y.cat y.stem y.par y.feats.length (y.feats.flatMap featC) 0 _ rfl rfl (b21 hM (.inr rfl) _) (eqB_iff.2 hys)
          exact run_res (B:=aB) hX hC (hL.dom 7 rfl rfl) Tryd.func7 hb7 (f7_pftf x s false false true X (callerOf (V7 x y s)) 0 (lineS x) _ _ _ _ _ _ _ _ _ _ _ _ _ _ r1 rfl (b21 hM (.inl rfl) _) (emp_test hne) (b23 hM (.inr rfl) hp _) r6 rfl (c23 _) r9) rfl
      | false =>
        have he:lineS x=emp:=by unfold lineS; rw [hl]; rfl
        rcases key with ⟨rfl,rfl⟩ | ⟨rfl,hys⟩
        · have r9 := f7_g9b_tt x s false X (callerOf (V7 x d0L s)) 0 (lineS x) d0L.id d0L.cat d0L.stem d0L.par d0L.feats.length (d0L.feats.flatMap featC) 3 rfl (b25z hM _)
          exact run_res (B:=aB) hX hC (hL.dom 7 rfl rfl) Tryd.func7 hb7 (f7_pff x s false true X (callerOf (V7 x d0L s)) 0 (lineS x) _ _ _ _ _ _ _ r1 rfl (b21 hM (.inl rfl) _) (eq_test he) (c23 _) r9) rfl
        · have r9 := f7_g9b_ftt x s false X (callerOf (V7 x y s)) 0 (lineS x) y.id y.cat y.stem y.par y.feats.length (y.feats.flatMap featC) 0 _ rfl rfl (b21 hM (.inr rfl) _) (eqB_iff.2 hys)
          exact run_res (B:=aB) hX hC (hL.dom 7 rfl rfl) Tryd.func7 hb7 (f7_pff x s false true X (callerOf (V7 x y s)) 0 (lineS x) _ _ _ _ _ _ _ r1 rfl (b21 hM (.inl rfl) _) (eq_test he) (c23 _) r9) rfl
end
end Go.Proofs.Lex
end
