/- Part 7 of the texts of this claim: the evaluator, and what it says of the program's functions. -/
import Derived.Test.YtogacbdboplbfaaDoorCategoriesF
import Derived.Test.YtogacbdboplbfaaDoorCategoriesD
set_option linter.unusedSectionVars false
set_option linter.unusedVariables false
set_option linter.unusedSimpArgs false
set_option linter.constructorNameAsVariable false
/- Lexicon: the categories of a list, in plain words: each once, in ascending order, and each lexeme is of exactly one. -/
section
open Go Go.Vm Go.Proofs
namespace Go.Proofs.Lex
theorem putS_mem {l:List ByteArray} {c x:ByteArray}:x ∈ putS l c ↔ x ∈ l ∨ x=c:=by
  unfold putS
  split
  · rename_i h
    refine ⟨.inl,fun h' => h'.elim id fun e => ?_⟩
    obtain ⟨y,hy,he⟩:=List.any_eq_true.1 h
    rw [e,← of_decide_eq_true he]
    exact hy
  · simp
theorem putS_nodup {l:List ByteArray} {c:ByteArray} (h:l.Nodup):(putS l c).Nodup:=by
  unfold putS
  split
  · exact h
  · rename_i hn
    refine List.nodup_append.2 ⟨h,by simp,fun a ha b hb e=>hn (List.any_eq_true.2 ⟨a,ha,?_⟩)⟩
    rw [List.mem_singleton] at hb
    rw [e,hb]
    exact decide_eq_true rfl
theorem catsN_nodup (L:List Lexm):∀ i,(catsN L i).Nodup
  | 0=>List.nodup_nil
  | i + 1=>putS_nodup (catsN_nodup L i)
theorem catsN_mem (L:List Lexm) {x:ByteArray}:∀ i,x ∈ catsN L i ↔ ∃ j,j < i∧(nL L j).cat=x
  | 0=>by simp [catsN]
  | i + 1 => by
    unfold catsN
    rw [putS_mem,catsN_mem L i]
    constructor
    · rintro (⟨j, hj, h⟩ | h)
      · exact ⟨j,by omega,h⟩
      · exact ⟨i,by omega,h.symm⟩
    · rintro ⟨j, hj, h⟩
      by_cases hji:j=i
      · subst hji; exact .inr h.symm
      · exact .inl ⟨j,by omega,h⟩
theorem catsN_all {L:List Lexm} {x:ByteArray}:x ∈ catsN L L.length ↔ ∃ y ∈ L,y.cat=x:=by
  rw [catsN_mem]
  constructor
  · rintro ⟨j, hj, h⟩
    exact ⟨nL L j,by rw [nL,getD_lt hj]; exact List.getElem_mem hj,h⟩
  · rintro ⟨y, hy, h⟩
    obtain ⟨j,hj,e⟩:=List.mem_iff_getElem.1 hy
    exact ⟨j,hj,by rw [nL,getD_lt hj,e]; exact h⟩
theorem sortS_perm' (l:List ByteArray):(sortS l).Perm l:=by
  unfold sortS
  refine ((List.mergeSort_perm _ _).map _).trans ?_
  rw [List.map_map]
  have:((fun b:List UInt8=>(⟨b.toArray⟩:ByteArray)) ∘ fun x:ByteArray=>x.data.toList)=id:=by funext x; rfl
  rw [this,List.map_id]
theorem sortS_lt {l:List ByteArray} (h:l.Nodup):(sortS l).Pairwise fun x y=>x.data.toList < y.data.toList:=by
  unfold sortS
  rw [List.pairwise_map]
  have hn:(l.map (·.data.toList)).Nodup:=List.pairwise_map.2 (h.imp fun hne e=>hne (Go.WideShapes.bytes_inj e))
  have hm:=((List.mergeSort_perm (l.map (·.data.toList)) leB).nodup_iff).2 hn
  have hm' : List.Pairwise (fun a b=>a ≠ b) ((l.map (·.data.toList)).mergeSort leB):=hm
  refine ((List.pairwise_mergeSort leB_trans leB_total (l.map (·.data.toList))).and hm').imp fun {a b} hab => ?_
  obtain ⟨h1,h2⟩:=hab
  simp only [leB,decide_eq_true_eq] at h1
  rcases Std.lt_trichotomy a b with h3 | h3 | h3
  · simpa using h3
  · exact absurd h3 h2
  · exact absurd h3 (List.not_lt.2 h1)
theorem ind_sum (c:ByteArray):∀ (l:List ByteArray),l.Nodup→c ∈ l→(l.map fun d=>if c=d then 1 else 0).sum=1
  | [],_,h=>absurd h (by simp)
  | d :: l, hn, h => by
    rw [List.map_cons,List.sum_cons]
    rw [List.nodup_cons] at hn
    by_cases e:c=d
    · subst e
      rw [if_pos rfl]
      have : ∀ (m : List ByteArray), c ∉ m → (m.map fun d => if c = d then 1 else 0).sum = 0 := by
        intro m
        induction m with
        | nil=>intro _; rfl
        | cons y m ih =>
          intro hm
          rw [List.map_cons,List.sum_cons,ih (fun h=>hm (List.mem_cons_of_mem _ h)),if_neg (fun e=>hm (by rw [e]; exact List.mem_cons_self))]
      rw [this l hn.1]
    · rw [if_neg e,ind_sum c l hn.2 (by rcases List.mem_cons.1 h with h | h; exact absurd h e; exact h)]
def cntC (L:List Lexm) (c:ByteArray):Nat:=(L.filter fun x=>decide (x.cat=c)).length
theorem sum_add {α:Type} (f g:α→Nat):∀ (l:List α),(l.map fun x=>f x + g x).sum=(l.map f).sum + (l.map g).sum
  | []=>rfl
  | x :: l => by
    rw [List.map_cons,List.sum_cons,List.map_cons,List.sum_cons,List.map_cons,List.sum_cons,sum_add f g l]
    omega
theorem sum_cnt {l:List ByteArray} (hn:l.Nodup):∀ (L:List Lexm),(∀ y ∈ L,y.cat ∈ l)→(l.map (cntC L)).sum=L.length
  | [], _ => by
    have : ∀ m : List ByteArray, (m.map (cntC [])).sum = 0 := by
      intro m
      induction m with
      | nil=>rfl
      | cons y m ih=>rw [List.map_cons,List.sum_cons,ih]; rfl
    exact this l
  | y :: L, h => by
    have ih:=sum_cnt hn L (fun z hz=>h z (List.mem_cons_of_mem _ hz))
    have e : cntC (y :: L) = fun d => (if y.cat = d then 1 else 0) + cntC L d := by
      funext d
      unfold cntC
      rw [List.filter_cons]
      by_cases hd:y.cat=d
      · rw [if_pos (decide_eq_true hd),if_pos hd,List.length_cons]; omega
      · rw [if_neg (by rw [decide_eq_false hd]; decide),if_neg hd]; omega
    rw [e,sum_add,ih,ind_sum _ _ hn (h y List.mem_cons_self),List.length_cons]
    omega
/-- How many lexemes are of the first categories. -/
def sumC (L:List Lexm) (l:List ByteArray):Nat→Nat
  | 0=>0
  | i + 1=>sumC L l i + cntC L (l.getD i emp)
theorem sumC_take (L:List Lexm) (l:List ByteArray):∀ i,i ≤ l.length→sumC L l i=((l.take i).map (cntC L)).sum
  | 0,_=>rfl
  | i + 1, h => by
    have hi:i < l.length:=h
    unfold sumC
    rw [sumC_take L l i (by omega),← List.take_append_getElem hi,List.map_append,List.sum_append,getD_lt hi]
    simp
theorem sumC_all (L:List Lexm):sumC L (catsS L) (catsS L).length=L.length:=by
  have hp:=sortS_perm' (catsN L L.length)
  rw [sumC_take L _ _ (Nat.le_refl _),List.take_length]
  refine sum_cnt (hp.nodup_iff.2 (catsN_nodup L _)) L fun y hy=>hp.mem_iff.2 (catsN_all.2 ⟨y,hy,rfl⟩)
theorem sumC_mono (L:List Lexm) (l:List ByteArray) (i:Nat):∀ k,sumC L l i ≤ sumC L l (i + k)
  | 0=>Nat.le_refl _
  | k + 1=>Nat.le_trans (sumC_mono L l i k) (Nat.le_add_right _ _)
theorem sumC_le (L:List Lexm) {i:Nat} (h:i ≤ (catsS L).length):sumC L (catsS L) i ≤ L.length:=by
  have:=sumC_mono L (catsS L) i ((catsS L).length - i)
  rw [Nat.add_sub_cancel' h,sumC_all] at this
  exact this
theorem cnt_pos {L:List Lexm} {c:ByteArray} (h:c ∈ catsS L):cntC L c ≠ 0:=by
  obtain ⟨y,hy,e⟩:=catsN_all.1 ((sortS_perm' _).mem_iff.1 h)
  intro h0
  have:=List.eq_nil_of_length_eq_zero h0
  have hm:y ∈ L.filter fun x=>decide (x.cat=c):=List.mem_filter.2 ⟨hy,decide_eq_true e⟩
  rw [this] at hm
  cases hm
theorem cats_lt (L:List Lexm) {i:Nat} (h:i + 1 < (catsS L).length):(!Op.bytesLess ((catsS L).getD i emp).toList ((catsS L).getD (i + 1) emp).toList)=false:=by
  have hp:=List.pairwise_iff_getElem.1 (sortS_lt (catsN_nodup L L.length)) i (i + 1) (by show _ < (catsS L).length; omega) h (by omega)
  rw [getD_lt (show i < (catsS L).length by omega),getD_lt h,bytesLess_eq,Lib.toList_data,Lib.toList_data]
  rw [Bool.not_eq_false',decide_eq_true_eq]
  exact hp
end Go.Proofs.Lex
end
/- Lexicon: the law of Categories, walked (printed) -/
section
open Go Go.Vm Go.Proofs
namespace Go.Proofs.Lex
def f3_F0 (L0:List Lexm)(n0:Nat→Int)(l16:List ByteArray)(i0:Nat):St :=
  stOf 55 [2,6,17,18,19,20,21,22,23,24,25,26,27,28,29,30,31,32,33,34,35,36,37,38,39,40,41,42,43,44,45,46,47,48,49,50] [(0,lro L0.length 5 (List.flatMap lexC L0)),(3,lro l16.length 1 (List.map st l16)),(4,i6 (n0 i0)),(5,i6 (↑i0:Int)),(7,bo true),(8,bo false),(9,bo false),(10,lro L0.length 5 (List.flatMap lexC L0)),(11,bo true),(12,bo false),(13,bo false),(15,lro L0.length 5 (List.flatMap lexC L0)),(16,lro l16.length 1 (List.map st l16))] []
def f3_S0 (L0:List Lexm)(l16:List ByteArray):St :=
  stOf 55 [] [(0,lro L0.length 5 (List.flatMap lexC L0)),(2,bo false),(3,lro l16.length 1 (List.map st l16)),(4,i6 0),(5,i6 0),(7,bo true),(8,bo false),(9,bo false),(10,lro L0.length 5 (List.flatMap lexC L0)),(11,bo true),(12,bo false),(13,bo false),(15,lro L0.length 5 (List.flatMap lexC L0)),(16,lro l16.length 1 (List.map st l16))] []
abbrev f3_D0:List Nat:=[22,21,50,49,48,2,47,46,45,44,43,42,41,40,39,38,37,36,35,34,33,32,31,30,6,29,28,27,26,25,24,23,20,19,18,17]
theorem f3_L0 (L0:List Lexm)(n0:Nat→Int)(l16:List ByteArray)(X:Ext)(call:Caller)(lf n:Nat)(x:Ex) (S' : St)
 (e0:n0 0=0)
 (hn:n<lf)
 (hs:∀ j,j<n→∃ S1,vexec Tryd.prog X call lf 0 noFg (loopN Tryd.f3 0) (f3_F0 L0 n0 l16 j)=some (Ex.normal,S1)∧forget f3_D0 S1=(f3_F0 L0 n0 l16 (j + 1)))
 (he:vexec Tryd.prog X call lf 0 noFg (loopN Tryd.f3 0) (f3_F0 L0 n0 l16 n)=some (x,S'))
 (hx:x ≠ Ex.normal):vexec Tryd.prog X call lf 0 noFg (Go.Code.loop (loopN Tryd.f3 0)) (f3_S0 L0 l16)=some (x,S') :=
  loop_runK (by kernel_rfl) (fun j=>(f3_F0 L0 n0 l16 j)) n hn (by show forget f3_D0 (f3_S0 L0 l16)=(f3_F0 L0 n0 l16 0); unfold f3_F0; rw [e0]; show _=_; kernel_rfl) hs he hx
def f3_S1 (L0:List Lexm)(n0:Nat→Int)(l16:List ByteArray)(i0:Nat)(a:ByteArray)(r26:List AV)(m28:Nat)(c28:List AV):St :=
  stOf 55 [21,22,48,49,50] [(0,lro L0.length 5 (List.flatMap lexC L0)),(2,bo false),(3,lro l16.length 1 (List.map st l16)),(4,i6 (n0 i0)),(5,i6 (↑i0:Int)),(6,i6 (↑m28:Int)),(7,bo true),(8,bo false),(9,bo false),(10,lro L0.length 5 (List.flatMap lexC L0)),(11,bo true),(12,bo false),(13,bo false),(15,lro L0.length 5 (List.flatMap lexC L0)),(16,lro l16.length 1 (List.map st l16)),(17,i6 (↑i0:Int)),(18,lro l16.length 1 (List.map st l16)),(19,i6 (↑l16.length:Int)),(20,bo true),(23,lro L0.length 5 (List.flatMap lexC L0)),(24,lro l16.length 1 (List.map st l16)),(25,i6 (↑i0:Int)),(26,AV.eaddr (st a::r26)),(27,st a),(28,lro m28 5 c28),(29,i6 (↑m28:Int)),(30,i6 (↑m28:Int)),(31,bo true),(32,bo true),(47,bo true)] []
theorem f3_r0_tt (L0:List Lexm)(n0:Nat→Int)(X:Ext)(call:Caller)(lf:Nat)(l16:List ByteArray)(i0:Nat)(a:ByteArray)(r26:List AV)(m28:Nat)(c28:List AV)
 (h0:decide ((↑i0:Int)<(↑l16.length:Int))=true)
 (h1:keep [] (indexAddrv Tryd.prog 25 [] (lro l16.length 1 (List.map st l16)) (i6 (↑i0:Int)))=some (AV.eaddr (st a::r26),[]))
 (h2:callv X call false 17 [lro L0.length 5 (List.flatMap lexC L0),st a] [] 0=some (lro m28 5 c28,[]))
 (h3:((↑m28:Int) == 0)=true):vexec Tryd.prog X call lf 0 noFg (loopN Tryd.f3 0) (f3_F0 L0 n0 l16 i0)=some (Ex.ret,(f3_S1 L0 n0 l16 i0 a r26 m28 c28)) :=
  around_sound (ans:=[(4,Ans.b true),(10,Ans.v (AV.eaddr (st a::r26))),(12,Ans.v (lro m28 5 c28)),(17,Ans.b true)]) (by kernel_rfl) (ai h0 (ai h1 (ai h2 (ai h3 trivial))))
theorem f3_pttltt (L0:List Lexm)(n0:Nat→Int)(X:Ext)(call:Caller)(lf:Nat)(l16:List ByteArray)(i0:Nat)(a:ByteArray)(r26:List AV)(m28:Nat)(c28:List AV)
 (h0:callv X call false 14 [] [] 0=some (bo true,[]))
 (h1:callv X call false 15 [lro L0.length 5 (List.flatMap lexC L0)] [] 0=some (bo true,[]))
 (h2:callv X call false 16 [lro L0.length 5 (List.flatMap lexC L0)] [] 0=some (lro l16.length 1 (List.map st l16),[]))
 (h3:vexec Tryd.prog X call lf 0 noFg (Code.loop (loopN Tryd.f3 0)) (f3_S0 L0 l16)=some (Ex.ret,(f3_S1 L0 n0 l16 i0 a r26 m28 c28))):vbody Tryd.prog X call lf noFg Tryd.f3 (codeOf Tryd.f3) [lexsV L0] [] 0=some (bo false,[]) :=
  along_sound (ans:=[(3,Ans.v (bo true)),(9,Ans.v (bo true)),(16,Ans.v (lro l16.length 1 (List.map st l16))),(22,Ans.l Ex.ret (f3_S1 L0 n0 l16 i0 a r26 m28 c28))]) (by kernel_rfl) (ai h0 (ai h1 (ai h2 (ai h3 trivial))))
def f3_S2 (L0:List Lexm)(n0:Nat→Int)(l16:List ByteArray)(i0:Nat)(a:ByteArray)(r26:List AV)(m28:Nat)(c28:List AV)(b:ByteArray)(r39:List AV)(c:ByteArray)(r43:List AV):St :=
  stOf 55 [21,22,48,49,50] [(0,lro L0.length 5 (List.flatMap lexC L0)),(2,bo false),(3,lro l16.length 1 (List.map st l16)),(4,i6 (n0 i0)),(5,i6 (↑i0:Int)),(6,i6 (↑m28:Int)),(7,bo true),(8,bo false),(9,bo false),(10,lro L0.length 5 (List.flatMap lexC L0)),(11,bo true),(12,bo false),(13,bo false),(15,lro L0.length 5 (List.flatMap lexC L0)),(16,lro l16.length 1 (List.map st l16)),(17,i6 (↑i0:Int)),(18,lro l16.length 1 (List.map st l16)),(19,i6 (↑l16.length:Int)),(20,bo true),(23,lro L0.length 5 (List.flatMap lexC L0)),(24,lro l16.length 1 (List.map st l16)),(25,i6 (↑i0:Int)),(26,AV.eaddr (st a::r26)),(27,st a),(28,lro m28 5 c28),(29,i6 (↑m28:Int)),(30,i6 (↑m28:Int)),(31,bo false),(32,bo false),(33,i6 (↑i0:Int)),(34,bo true),(35,bo true),(36,lro l16.length 1 (List.map st l16)),(37,i6 (↑i0:Int)),(38,i6 (w6 ((↑i0:Int) - 1))),(39,AV.eaddr (st b::r39)),(40,st b),(41,lro l16.length 1 (List.map st l16)),(42,i6 (↑i0:Int)),(43,AV.eaddr (st c::r43)),(44,st c),(45,bo true),(46,bo true),(47,bo true)] []
theorem f3_r0_tftt (L0:List Lexm)(n0:Nat→Int)(X:Ext)(call:Caller)(lf:Nat)(l16:List ByteArray)(i0:Nat)(a:ByteArray)(r26:List AV)(m28:Nat)(c28:List AV)(c:ByteArray)(r39:List AV)(d:ByteArray)(r43:List AV)
 (h0:decide ((↑i0:Int)<(↑l16.length:Int))=true)
 (h1:keep [] (indexAddrv Tryd.prog 25 [] (lro l16.length 1 (List.map st l16)) (i6 (↑i0:Int)))=some (AV.eaddr (st a::r26),[]))
 (h2:callv X call false 17 [lro L0.length 5 (List.flatMap lexC L0),st a] [] 0=some (lro m28 5 c28,[]))
 (h3:((↑m28:Int) == 0)=false)
 (h4:decide ((↑i0:Int)>0)=true)
 (h5:keep [] (indexAddrv Tryd.prog 25 [] (lro l16.length 1 (List.map st l16)) (i6 (w6 ((↑i0:Int) - 1))))=some (AV.eaddr (st c::r39),[]))
 (h6:keep [] (indexAddrv Tryd.prog 25 [] (lro l16.length 1 (List.map st l16)) (i6 (↑i0:Int)))=some (AV.eaddr (st d::r43),[]))
 (h7:(!Op.bytesLess c.toList d.toList)=true):vexec Tryd.prog X call lf 0 noFg (loopN Tryd.f3 0) (f3_F0 L0 n0 l16 i0)=some (Ex.ret,(f3_S2 L0 n0 l16 i0 a r26 m28 c28 c r39 d r43)) :=
  around_sound (ans:=[(4,Ans.b true),(10,Ans.v (AV.eaddr (st a::r26))),(12,Ans.v (lro m28 5 c28)),(17,Ans.b false),(22,Ans.b true),(32,Ans.v (AV.eaddr (st c::r39))),(40,Ans.v (AV.eaddr (st d::r43))),(44,Ans.b true)]) (by kernel_rfl) (ai h0 (ai h1 (ai h2 (ai h3 (ai h4 (ai h5 (ai h6 (ai h7 trivial))))))))
theorem f3_pttltftt (L0:List Lexm)(n0:Nat→Int)(X:Ext)(call:Caller)(lf:Nat)(l16:List ByteArray)(i0:Nat)(a:ByteArray)(r26:List AV)(m28:Nat)(c28:List AV)(b:ByteArray)(r39:List AV)(c:ByteArray)(r43:List AV)
 (h0:callv X call false 14 [] [] 0=some (bo true,[]))
 (h1:callv X call false 15 [lro L0.length 5 (List.flatMap lexC L0)] [] 0=some (bo true,[]))
 (h2:callv X call false 16 [lro L0.length 5 (List.flatMap lexC L0)] [] 0=some (lro l16.length 1 (List.map st l16),[]))
 (h3:vexec Tryd.prog X call lf 0 noFg (Code.loop (loopN Tryd.f3 0)) (f3_S0 L0 l16)=some (Ex.ret,(f3_S2 L0 n0 l16 i0 a r26 m28 c28 b r39 c r43))):vbody Tryd.prog X call lf noFg Tryd.f3 (codeOf Tryd.f3) [lexsV L0] [] 0=some (bo false,[]) :=
  along_sound (ans:=[(3,Ans.v (bo true)),(9,Ans.v (bo true)),(16,Ans.v (lro l16.length 1 (List.map st l16))),(22,Ans.l Ex.ret (f3_S2 L0 n0 l16 i0 a r26 m28 c28 b r39 c r43))]) (by kernel_rfl) (ai h0 (ai h1 (ai h2 (ai h3 trivial))))
theorem f3_s0_tftf (L0:List Lexm)(n0:Nat→Int)(X:Ext)(call:Caller)(lf:Nat)(l16:List ByteArray)(i0:Nat)(a:ByteArray)(r26:List AV)(m28:Nat)(c28:List AV)(c:ByteArray)(r39:List AV)(d:ByteArray)(r43:List AV)
 (h0:decide ((↑i0:Int)<(↑l16.length:Int))=true)
 (h1:keep [] (indexAddrv Tryd.prog 25 [] (lro l16.length 1 (List.map st l16)) (i6 (↑i0:Int)))=some (AV.eaddr (st a::r26),[]))
 (h2:callv X call false 17 [lro L0.length 5 (List.flatMap lexC L0),st a] [] 0=some (lro m28 5 c28,[]))
 (h3:((↑m28:Int) == 0)=false)
 (h4:decide ((↑i0:Int)>0)=true)
 (h5:keep [] (indexAddrv Tryd.prog 25 [] (lro l16.length 1 (List.map st l16)) (i6 (w6 ((↑i0:Int) - 1))))=some (AV.eaddr (st c::r39),[]))
 (h6:keep [] (indexAddrv Tryd.prog 25 [] (lro l16.length 1 (List.map st l16)) (i6 (↑i0:Int)))=some (AV.eaddr (st d::r43),[]))
 (h7:(!Op.bytesLess c.toList d.toList)=false)
 (e0:n0 (i0 + 1)=w6 (n0 i0 + (↑m28:Int)))
 (e1:(↑(i0 + 1):Int)=w6 ((↑i0:Int) + 1)):∃ S1,vexec Tryd.prog X call lf 0 noFg (loopN Tryd.f3 0) (f3_F0 L0 n0 l16 i0)=some (Ex.normal,S1)∧forget f3_D0 S1=(f3_F0 L0 n0 l16 (i0 + 1)) :=
  ⟨stOf 55 [2] [(0,lro L0.length 5 (List.flatMap lexC L0)),(3,lro l16.length 1 (List.map st l16)),(4,i6 (w6 (n0 i0 + (↑m28:Int)))),(5,i6 (w6 ((↑i0:Int) + 1))),(6,i6 (↑m28:Int)),(7,bo true),(8,bo false),(9,bo false),(10,lro L0.length 5 (List.flatMap lexC L0)),(11,bo true),(12,bo false),(13,bo false),(15,lro L0.length 5 (List.flatMap lexC L0)),(16,lro l16.length 1 (List.map st l16)),(17,i6 (↑i0:Int)),(18,lro l16.length 1 (List.map st l16)),(19,i6 (↑l16.length:Int)),(20,bo true),(21,i6 (↑i0:Int)),(22,i6 (w6 ((↑i0:Int) + 1))),(23,lro L0.length 5 (List.flatMap lexC L0)),(24,lro l16.length 1 (List.map st l16)),(25,i6 (↑i0:Int)),(26,AV.eaddr (st a::r26)),(27,st a),(28,lro m28 5 c28),(29,i6 (↑m28:Int)),(30,i6 (↑m28:Int)),(31,bo false),(32,bo false),(33,i6 (↑i0:Int)),(34,bo true),(35,bo true),(36,lro l16.length 1 (List.map st l16)),(37,i6 (↑i0:Int)),(38,i6 (w6 ((↑i0:Int) - 1))),(39,AV.eaddr (st c::r39)),(40,st c),(41,lro l16.length 1 (List.map st l16)),(42,i6 (↑i0:Int)),(43,AV.eaddr (st d::r43)),(44,st d),(45,bo false),(46,bo false),(47,bo false),(48,i6 (n0 i0)),(49,i6 (↑m28:Int)),(50,i6 (w6 (n0 i0 + (↑m28:Int))))] [],around_sound (ans:=[(4,Ans.b true),(10,Ans.v (AV.eaddr (st a::r26))),(12,Ans.v (lro m28 5 c28)),(17,Ans.b false),(22,Ans.b true),(32,Ans.v (AV.eaddr (st c::r39))),(40,Ans.v (AV.eaddr (st d::r43))),(44,Ans.b false)]) (by kernel_rfl) (ai h0 (ai h1 (ai h2 (ai h3 (ai h4 (ai h5 (ai h6 (ai h7 trivial)))))))),by unfold f3_F0; rw [e0,e1]; show _=_; kernel_rfl⟩
theorem f3_s0_tff (L0:List Lexm)(n0:Nat→Int)(X:Ext)(call:Caller)(lf:Nat)(l16:List ByteArray)(i0:Nat)(a:ByteArray)(r26:List AV)(m28:Nat)(c28:List AV)
 (h0:decide ((↑i0:Int)<(↑l16.length:Int))=true)
 (h1:keep [] (indexAddrv Tryd.prog 25 [] (lro l16.length 1 (List.map st l16)) (i6 (↑i0:Int)))=some (AV.eaddr (st a::r26),[]))
 (h2:callv X call false 17 [lro L0.length 5 (List.flatMap lexC L0),st a] [] 0=some (lro m28 5 c28,[]))
 (h3:((↑m28:Int) == 0)=false)
 (h4:decide ((↑i0:Int)>0)=false)
 (e0:n0 (i0 + 1)=w6 (n0 i0 + (↑m28:Int)))
 (e1:(↑(i0 + 1):Int)=w6 ((↑i0:Int) + 1)):∃ S1,vexec Tryd.prog X call lf 0 noFg (loopN Tryd.f3 0) (f3_F0 L0 n0 l16 i0)=some (Ex.normal,S1)∧forget f3_D0 S1=(f3_F0 L0 n0 l16 (i0 + 1)) :=
  ⟨stOf 55 [2] [(0,lro L0.length 5 (List.flatMap lexC L0)),(3,lro l16.length 1 (List.map st l16)),(4,i6 (w6 (n0 i0 + (↑m28:Int)))),(5,i6 (w6 ((↑i0:Int) + 1))),(6,i6 (↑m28:Int)),(7,bo true),(8,bo false),(9,bo false),(10,lro L0.length 5 (List.flatMap lexC L0)),(11,bo true),(12,bo false),(13,bo false),(15,lro L0.length 5 (List.flatMap lexC L0)),(16,lro l16.length 1 (List.map st l16)),(17,i6 (↑i0:Int)),(18,lro l16.length 1 (List.map st l16)),(19,i6 (↑l16.length:Int)),(20,bo true),(21,i6 (↑i0:Int)),(22,i6 (w6 ((↑i0:Int) + 1))),(23,lro L0.length 5 (List.flatMap lexC L0)),(24,lro l16.length 1 (List.map st l16)),(25,i6 (↑i0:Int)),(26,AV.eaddr (st a::r26)),(27,st a),(28,lro m28 5 c28),(29,i6 (↑m28:Int)),(30,i6 (↑m28:Int)),(31,bo false),(32,bo false),(33,i6 (↑i0:Int)),(34,bo false),(35,bo false),(46,bo false),(47,bo false),(48,i6 (n0 i0)),(49,i6 (↑m28:Int)),(50,i6 (w6 (n0 i0 + (↑m28:Int))))] [],around_sound (ans:=[(4,Ans.b true),(10,Ans.v (AV.eaddr (st a::r26))),(12,Ans.v (lro m28 5 c28)),(17,Ans.b false),(22,Ans.b false)]) (by kernel_rfl) (ai h0 (ai h1 (ai h2 (ai h3 (ai h4 trivial))))),by unfold f3_F0; rw [e0,e1]; show _=_; kernel_rfl⟩
def f3_S3 (L0:List Lexm)(n0:Nat→Int)(l16:List ByteArray)(i0:Nat):St :=
  stOf 55 [2,6,21,22,23,24,25,26,27,28,29,30,31,32,33,34,35,36,37,38,39,40,41,42,43,44,45,46,47,48,49,50] [(0,lro L0.length 5 (List.flatMap lexC L0)),(3,lro l16.length 1 (List.map st l16)),(4,i6 (n0 i0)),(5,i6 (↑i0:Int)),(7,bo true),(8,bo false),(9,bo false),(10,lro L0.length 5 (List.flatMap lexC L0)),(11,bo true),(12,bo false),(13,bo false),(15,lro L0.length 5 (List.flatMap lexC L0)),(16,lro l16.length 1 (List.map st l16)),(17,i6 (↑i0:Int)),(18,lro l16.length 1 (List.map st l16)),(19,i6 (↑l16.length:Int)),(20,bo false)] []
theorem f3_r0_f (L0:List Lexm)(n0:Nat→Int)(X:Ext)(call:Caller)(lf:Nat)(l16:List ByteArray)(i0:Nat)
 (h0:decide ((↑i0:Int)<(↑l16.length:Int))=false):vexec Tryd.prog X call lf 0 noFg (loopN Tryd.f3 0) (f3_F0 L0 n0 l16 i0)=some (Ex.exit 0,(f3_S3 L0 n0 l16 i0)) :=
  around_sound (ans:=[(4,Ans.b false)]) (by kernel_rfl) (ai h0 trivial)
theorem f3_pttlft (L0:List Lexm)(n0:Nat→Int)(X:Ext)(call:Caller)(lf:Nat)(l16:List ByteArray)(i0:Nat)
 (h0:callv X call false 14 [] [] 0=some (bo true,[]))
 (h1:callv X call false 15 [lro L0.length 5 (List.flatMap lexC L0)] [] 0=some (bo true,[]))
 (h2:callv X call false 16 [lro L0.length 5 (List.flatMap lexC L0)] [] 0=some (lro l16.length 1 (List.map st l16),[]))
 (h3:vexec Tryd.prog X call lf 0 noFg (Code.loop (loopN Tryd.f3 0)) (f3_S0 L0 l16)=some (Ex.exit 0,(f3_S3 L0 n0 l16 i0)))
 (h4:(n0 i0 == (↑L0.length:Int))=true):vbody Tryd.prog X call lf noFg Tryd.f3 (codeOf Tryd.f3) [lexsV L0] [] 0=some (bo true,[]) :=
  along_sound (ans:=[(3,Ans.v (bo true)),(9,Ans.v (bo true)),(16,Ans.v (lro l16.length 1 (List.map st l16))),(22,Ans.l (Ex.exit 0) (f3_S3 L0 n0 l16 i0)),(27,Ans.b true)]) (by kernel_rfl) (ai h0 (ai h1 (ai h2 (ai h3 (ai h4 trivial)))))
theorem f3_pttlff (L0:List Lexm)(n0:Nat→Int)(X:Ext)(call:Caller)(lf:Nat)(l16:List ByteArray)(i0:Nat)
 (h0:callv X call false 14 [] [] 0=some (bo true,[]))
 (h1:callv X call false 15 [lro L0.length 5 (List.flatMap lexC L0)] [] 0=some (bo true,[]))
 (h2:callv X call false 16 [lro L0.length 5 (List.flatMap lexC L0)] [] 0=some (lro l16.length 1 (List.map st l16),[]))
 (h3:vexec Tryd.prog X call lf 0 noFg (Code.loop (loopN Tryd.f3 0)) (f3_S0 L0 l16)=some (Ex.exit 0,(f3_S3 L0 n0 l16 i0)))
 (h4:(n0 i0 == (↑L0.length:Int))=false):vbody Tryd.prog X call lf noFg Tryd.f3 (codeOf Tryd.f3) [lexsV L0] [] 0=some (bo false,[]) :=
  along_sound (ans:=[(3,Ans.v (bo true)),(9,Ans.v (bo true)),(16,Ans.v (lro l16.length 1 (List.map st l16))),(22,Ans.l (Ex.exit 0) (f3_S3 L0 n0 l16 i0)),(27,Ans.b false)]) (by kernel_rfl) (ai h0 (ai h1 (ai h2 (ai h3 (ai h4 trivial)))))
theorem f3_ptft (L0:List Lexm)(X:Ext)(call:Caller)(lf:Nat)
 (h0:callv X call false 14 [] [] 0=some (bo true,[]))
 (h1:callv X call false 15 [lro L0.length 5 (List.flatMap lexC L0)] [] 0=some (bo false,[]))
 (h2:callv X call false 14 [] [] 0=some (bo true,[])):vbody Tryd.prog X call lf noFg Tryd.f3 (codeOf Tryd.f3) [lexsV L0] [] 0=some (bo true,[]) :=
  along_sound (ans:=[(3,Ans.v (bo true)),(9,Ans.v (bo false)),(15,Ans.v (bo true))]) (by kernel_rfl) (ai h0 (ai h1 (ai h2 trivial)))
def f3_o0 (l16:List ByteArray)(i0 m28:Nat)(a b:ByteArray):Nat :=
  (match decide ((↑i0:Int)<(↑l16.length:Int)) with
  | true=>(match ((↑m28:Int) == 0) with
    | true=>1
    | false=>(match decide ((↑i0:Int)>0) with
      | true=>(match (!Op.bytesLess a.toList b.toList) with
        | true=>2
        | false=>0)
      | false=>0))
  | false=>3)
theorem f3_B0 (L0:List Lexm)(n0:Nat→Int)(X:Ext)(call:Caller)(lf:Nat)(l16:List ByteArray)(i0:Nat)(a:ByteArray)(r26:List AV)(m28:Nat)(c28:List AV)(b:ByteArray)(r39:List AV)(c:ByteArray)(r43:List AV)
 (g0:decide ((↑i0:Int)<(↑l16.length:Int))=true→keep [] (indexAddrv Tryd.prog 25 [] (lro l16.length 1 (List.map st l16)) (i6 (↑i0:Int)))=some (AV.eaddr (st a::r26),[]))
 (g1:decide ((↑i0:Int)<(↑l16.length:Int))=true→callv X call false 17 [lro L0.length 5 (List.flatMap lexC L0),st a] [] 0=some (lro m28 5 c28,[]))
 (g2:decide ((↑i0:Int)<(↑l16.length:Int))=true→((↑m28:Int) == 0)=false→decide ((↑i0:Int)>0)=true→keep [] (indexAddrv Tryd.prog 25 [] (lro l16.length 1 (List.map st l16)) (i6 (w6 ((↑i0:Int) - 1))))=some (AV.eaddr (st b::r39),[]))
 (g3:decide ((↑i0:Int)<(↑l16.length:Int))=true→((↑m28:Int) == 0)=false→decide ((↑i0:Int)>0)=true→keep [] (indexAddrv Tryd.prog 25 [] (lro l16.length 1 (List.map st l16)) (i6 (↑i0:Int)))=some (AV.eaddr (st c::r43),[]))
 (e0:decide ((↑i0:Int)<(↑l16.length:Int))=true→n0 (i0 + 1)=w6 (n0 i0 + (↑m28:Int)))
 (e1:decide ((↑i0:Int)<(↑l16.length:Int))=true→(↑(i0 + 1):Int)=w6 ((↑i0:Int) + 1)) :
    (f3_o0 l16 i0 m28 b c=0→∃ S1,vexec Tryd.prog X call lf 0 noFg (loopN Tryd.f3 0) (f3_F0 L0 n0 l16 i0)=some (Ex.normal,S1)∧forget f3_D0 S1=(f3_F0 L0 n0 l16 (i0 + 1)))∧(f3_o0 l16 i0 m28 b c=1→vexec Tryd.prog X call lf 0 noFg (loopN Tryd.f3 0) (f3_F0 L0 n0 l16 i0)=some (Ex.ret,(f3_S1 L0 n0 l16 i0 a r26 m28 c28)))∧(f3_o0 l16 i0 m28 b c=2→vexec Tryd.prog X call lf 0 noFg (loopN Tryd.f3 0) (f3_F0 L0 n0 l16 i0)=some (Ex.ret,(f3_S2 L0 n0 l16 i0 a r26 m28 c28 b r39 c r43)))∧(f3_o0 l16 i0 m28 b c=3→vexec Tryd.prog X call lf 0 noFg (loopN Tryd.f3 0) (f3_F0 L0 n0 l16 i0)=some (Ex.exit 0,(f3_S3 L0 n0 l16 i0))):=by
  unfold f3_o0
  cases c0:decide ((↑i0:Int)<(↑l16.length:Int)) with
  | true =>
    cases c1:((↑m28:Int) == 0) with
    | true =>
      exact ⟨fun h=>absurd (show (1:Nat)=0 from h) (by decide),fun _=>f3_r0_tt L0 n0 X call lf l16 i0 a r26 m28 c28 c0 (g0 c0) (g1 c0) c1,fun h=>absurd (show (1:Nat)=2 from h) (by decide),fun h=>absurd (show (1:Nat)=3 from h) (by decide)⟩
    | false =>
      cases c2:decide ((↑i0:Int)>0) with
      | true =>
        cases c3:(!Op.bytesLess b.toList c.toList) with
        | true =>
          exact ⟨fun h=>absurd (show (2:Nat)=0 from h) (by decide),fun h=>absurd (show (2:Nat)=1 from h) (by decide),fun _=>f3_r0_tftt L0 n0 X call lf l16 i0 a r26 m28 c28 b r39 c r43 c0 (g0 c0) (g1 c0) c1 c2 (g2 c0 c1 c2) (g3 c0 c1 c2) c3,fun h=>absurd (show (2:Nat)=3 from h) (by decide)⟩
        | false =>
          exact ⟨fun _=>f3_s0_tftf L0 n0 X call lf l16 i0 a r26 m28 c28 b r39 c r43 c0 (g0 c0) (g1 c0) c1 c2 (g2 c0 c1 c2) (g3 c0 c1 c2) c3 (e0 c0) (e1 c0),fun h=>absurd (show (0:Nat)=1 from h) (by decide),fun h=>absurd (show (0:Nat)=2 from h) (by decide),fun h=>absurd (show (0:Nat)=3 from h) (by decide)⟩
      | false =>
        exact ⟨fun _=>f3_s0_tff L0 n0 X call lf l16 i0 a r26 m28 c28 c0 (g0 c0) (g1 c0) c1 c2 (e0 c0) (e1 c0),fun h=>absurd (show (0:Nat)=1 from h) (by decide),fun h=>absurd (show (0:Nat)=2 from h) (by decide),fun h=>absurd (show (0:Nat)=3 from h) (by decide)⟩
  | false =>
    exact ⟨fun h=>absurd (show (3:Nat)=0 from h) (by decide),fun h=>absurd (show (3:Nat)=1 from h) (by decide),fun h=>absurd (show (3:Nat)=2 from h) (by decide),fun _=>f3_r0_f L0 n0 X call lf l16 i0 c0⟩
theorem f3_X0 (L0:List Lexm)(n0:Nat→Int)(X:Ext)(call:Caller)(lf:Nat)(l16:List ByteArray)(i0:Nat)(a:ByteArray)(r26:List AV)(m28:Nat)(c28:List AV)(b:ByteArray)(r39:List AV)(c:ByteArray)(r43:List AV)
 (g0:decide ((↑i0:Int)<(↑l16.length:Int))=true→keep [] (indexAddrv Tryd.prog 25 [] (lro l16.length 1 (List.map st l16)) (i6 (↑i0:Int)))=some (AV.eaddr (st a::r26),[]))
 (g1:decide ((↑i0:Int)<(↑l16.length:Int))=true→callv X call false 17 [lro L0.length 5 (List.flatMap lexC L0),st a] [] 0=some (lro m28 5 c28,[]))
 (g2:decide ((↑i0:Int)<(↑l16.length:Int))=true→((↑m28:Int) == 0)=false→decide ((↑i0:Int)>0)=true→keep [] (indexAddrv Tryd.prog 25 [] (lro l16.length 1 (List.map st l16)) (i6 (w6 ((↑i0:Int) - 1))))=some (AV.eaddr (st b::r39),[]))
 (g3:decide ((↑i0:Int)<(↑l16.length:Int))=true→((↑m28:Int) == 0)=false→decide ((↑i0:Int)>0)=true→keep [] (indexAddrv Tryd.prog 25 [] (lro l16.length 1 (List.map st l16)) (i6 (↑i0:Int)))=some (AV.eaddr (st c::r43),[])) :
    (f3_o0 l16 i0 m28 b c=1→vexec Tryd.prog X call lf 0 noFg (loopN Tryd.f3 0) (f3_F0 L0 n0 l16 i0)=some (Ex.ret,(f3_S1 L0 n0 l16 i0 a r26 m28 c28)))∧(f3_o0 l16 i0 m28 b c=2→vexec Tryd.prog X call lf 0 noFg (loopN Tryd.f3 0) (f3_F0 L0 n0 l16 i0)=some (Ex.ret,(f3_S2 L0 n0 l16 i0 a r26 m28 c28 b r39 c r43)))∧(f3_o0 l16 i0 m28 b c=3→vexec Tryd.prog X call lf 0 noFg (loopN Tryd.f3 0) (f3_F0 L0 n0 l16 i0)=some (Ex.exit 0,(f3_S3 L0 n0 l16 i0))):=by
  unfold f3_o0
  cases c0:decide ((↑i0:Int)<(↑l16.length:Int)) with
  | true =>
    cases c1:((↑m28:Int) == 0) with
    | true =>
      exact ⟨fun _=>f3_r0_tt L0 n0 X call lf l16 i0 a r26 m28 c28 c0 (g0 c0) (g1 c0) c1,fun h=>absurd (show (1:Nat)=2 from h) (by decide),fun h=>absurd (show (1:Nat)=3 from h) (by decide)⟩
    | false =>
      cases c2:decide ((↑i0:Int)>0) with
      | true =>
        cases c3:(!Op.bytesLess b.toList c.toList) with
        | true =>
          exact ⟨fun h=>absurd (show (2:Nat)=1 from h) (by decide),fun _=>f3_r0_tftt L0 n0 X call lf l16 i0 a r26 m28 c28 b r39 c r43 c0 (g0 c0) (g1 c0) c1 c2 (g2 c0 c1 c2) (g3 c0 c1 c2) c3,fun h=>absurd (show (2:Nat)=3 from h) (by decide)⟩
        | false =>
          exact ⟨fun h=>absurd (show (0:Nat)=1 from h) (by decide),fun h=>absurd (show (0:Nat)=2 from h) (by decide),fun h=>absurd (show (0:Nat)=3 from h) (by decide)⟩
      | false =>
        exact ⟨fun h=>absurd (show (0:Nat)=1 from h) (by decide),fun h=>absurd (show (0:Nat)=2 from h) (by decide),fun h=>absurd (show (0:Nat)=3 from h) (by decide)⟩
  | false =>
    exact ⟨fun h=>absurd (show (3:Nat)=1 from h) (by decide),fun h=>absurd (show (3:Nat)=2 from h) (by decide),fun _=>f3_r0_f L0 n0 X call lf l16 i0 c0⟩
theorem f3_M (L0:List Lexm)(n0:Nat→Int)(l16:List ByteArray)(X:Ext)(call:Caller)(lf n:Nat)(a:Nat→ByteArray)(r26:Nat→List AV)(m28:Nat→Nat)(c28:Nat→List AV)(b:Nat→ByteArray)(r39:Nat→List AV)(c:Nat→ByteArray)(r43:Nat→List AV)
 (z0:n0 0=0)
 (hn:n<lf)
 (g0:∀ i0,i0 ≤ n→decide ((↑i0:Int)<(↑l16.length:Int))=true→keep [] (indexAddrv Tryd.prog 25 [] (lro l16.length 1 (List.map st l16)) (i6 (↑i0:Int)))=some (AV.eaddr (st (a i0)::(r26 i0)),[]))
 (g1:∀ i0,i0 ≤ n→decide ((↑i0:Int)<(↑l16.length:Int))=true→callv X call false 17 [lro L0.length 5 (List.flatMap lexC L0),st (a i0)] [] 0=some (lro (m28 i0) 5 (c28 i0),[]))
 (g2:∀ i0,i0 ≤ n→decide ((↑i0:Int)<(↑l16.length:Int))=true→((↑(m28 i0):Int) == 0)=false→decide ((↑i0:Int)>0)=true→keep [] (indexAddrv Tryd.prog 25 [] (lro l16.length 1 (List.map st l16)) (i6 (w6 ((↑i0:Int) - 1))))=some (AV.eaddr (st (b i0)::(r39 i0)),[]))
 (g3:∀ i0,i0 ≤ n→decide ((↑i0:Int)<(↑l16.length:Int))=true→((↑(m28 i0):Int) == 0)=false→decide ((↑i0:Int)>0)=true→keep [] (indexAddrv Tryd.prog 25 [] (lro l16.length 1 (List.map st l16)) (i6 (↑i0:Int)))=some (AV.eaddr (st (c i0)::(r43 i0)),[]))
 (e0:∀ i0,i0<n→decide ((↑i0:Int)<(↑l16.length:Int))=true→n0 (i0 + 1)=w6 (n0 i0 + (↑(m28 i0):Int)))
 (e1:∀ i0,i0<n→decide ((↑i0:Int)<(↑l16.length:Int))=true→(↑(i0 + 1):Int)=w6 ((↑i0:Int) + 1))
 (hz:∀ j,j<n→f3_o0 l16 j (m28 j) (b j) (c j)=0) :
    (f3_o0 l16 n (m28 n) (b n) (c n)=1→callv X call false 14 [] [] 0=some (bo true,[])→callv X call false 15 [lro L0.length 5 (List.flatMap lexC L0)] [] 0=some (bo true,[])→callv X call false 16 [lro L0.length 5 (List.flatMap lexC L0)] [] 0=some (lro l16.length 1 (List.map st l16),[])→vbody Tryd.prog X call lf noFg Tryd.f3 (codeOf Tryd.f3) [lexsV L0] [] 0=some (bo false,[]))∧(f3_o0 l16 n (m28 n) (b n) (c n)=2→callv X call false 14 [] [] 0=some (bo true,[])→callv X call false 15 [lro L0.length 5 (List.flatMap lexC L0)] [] 0=some (bo true,[])→callv X call false 16 [lro L0.length 5 (List.flatMap lexC L0)] [] 0=some (lro l16.length 1 (List.map st l16),[])→vbody Tryd.prog X call lf noFg Tryd.f3 (codeOf Tryd.f3) [lexsV L0] [] 0=some (bo false,[]))∧(f3_o0 l16 n (m28 n) (b n) (c n)=3→callv X call false 14 [] [] 0=some (bo true,[])→callv X call false 15 [lro L0.length 5 (List.flatMap lexC L0)] [] 0=some (bo true,[])→callv X call false 16 [lro L0.length 5 (List.flatMap lexC L0)] [] 0=some (lro l16.length 1 (List.map st l16),[])→(n0 n == (↑L0.length:Int))=true→vbody Tryd.prog X call lf noFg Tryd.f3 (codeOf Tryd.f3) [lexsV L0] [] 0=some (bo true,[]))∧(f3_o0 l16 n (m28 n) (b n) (c n)=3→callv X call false 14 [] [] 0=some (bo true,[])→callv X call false 15 [lro L0.length 5 (List.flatMap lexC L0)] [] 0=some (bo true,[])→callv X call false 16 [lro L0.length 5 (List.flatMap lexC L0)] [] 0=some (lro l16.length 1 (List.map st l16),[])→(n0 n == (↑L0.length:Int))=false→vbody Tryd.prog X call lf noFg Tryd.f3 (codeOf Tryd.f3) [lexsV L0] [] 0=some (bo false,[])):=by
  have key:∀ j,j<n→_:=fun j hj=>(f3_B0 L0 n0 X call lf l16 j (a j) (r26 j) (m28 j) (c28 j) (b j) (r39 j) (c j) (r43 j) (g0 j (Nat.le_of_lt hj)) (g1 j (Nat.le_of_lt hj)) (g2 j (Nat.le_of_lt hj)) (g3 j (Nat.le_of_lt hj)) (e0 j hj) (e1 j hj)).1 (hz j hj)
  have kn:=f3_X0 L0 n0 X call lf l16 n (a n) (r26 n) (m28 n) (c28 n) (b n) (r39 n) (c n) (r43 n) (g0 n (Nat.le_refl n)) (g1 n (Nat.le_refl n)) (g2 n (Nat.le_refl n)) (g3 n (Nat.le_refl n))
  exact ⟨fun hk q0 q1 q2=>f3_pttltt L0 n0 X call lf l16 n (a n) (r26 n) (m28 n) (c28 n) q0 q1 q2 (f3_L0 L0 n0 l16 X call lf n _ _ z0 hn key (kn.1 hk) (by simp)),
    fun hk q0 q1 q2=>f3_pttltftt L0 n0 X call lf l16 n (a n) (r26 n) (m28 n) (c28 n) (b n) (r39 n) (c n) (r43 n) q0 q1 q2 (f3_L0 L0 n0 l16 X call lf n _ _ z0 hn key (kn.2.1 hk) (by simp)),
    fun hk q0 q1 q2 q3=>f3_pttlft L0 n0 X call lf l16 n q0 q1 q2 (f3_L0 L0 n0 l16 X call lf n _ _ z0 hn key (kn.2.2 hk) (by simp)) q3,
    fun hk q0 q1 q2 q3=>f3_pttlff L0 n0 X call lf l16 n q0 q1 q2 (f3_L0 L0 n0 l16 X call lf n _ _ z0 hn key (kn.2.2 hk) (by simp)) q3⟩
end Go.Proofs.Lex
end
/- Lexicon: the law of Categories. -/
section
open Go Go.Vm Go.Proofs
namespace Go.Proofs.Lex
section
variable [Fixed] {X:Ext}
/-- The example, the test of a list, Categories and Category. -/
def TC:Go.Vm.Spec:=(TB.on 16 (s1 aLs aSs catsS fun L=>(L.length + 1) * 17 ≤ big)).on 17 (sp2 aLs aS fun L s=>if okLsB L=true then some (aLs.enc (L.filter fun x=>decide (x.cat=s))) else none)
theorem TC_ok (hX:ExtOk Tryd.prog X) (hL:XL X) (hM:XM X) (h14:CallAt Tryd.prog 14 [] [] 0 (bo true) []):SpecOk Tryd.prog TC:=by
  refine SpecOk.on2 (SpecOk.s1 (TB_ok hX hL h14) fun L h=>call16 hX hM h) fun L s r h => ?_
  split at h
  · rename_i hk
    simp only [Option.some.injEq] at h
    subst h
    exact call17 hX hL (okLsB_iff.1 hk)
  · cases h
theorem law3 (hX:ExtOk Tryd.prog X) (hL:XL X) (hM:XM X) (h14:CallAt Tryd.prog 14 [] [] 0 (bo true) []) {L:List Lexm} (hok:okLs L) (hf:fewL L=true):CallAt Tryd.prog 3 [aLs.enc L] [] 0 (aB.enc true) []:=by
  have hC:=callerOf_ok (TC_ok hX hL hM h14)
  have hk:=okLsB_iff.2 hok
  have hl:=okLs_len hok
  have h89:L.length * 89 ≤ 140737488355328:=hok.1
  have hcl : (catsS L).length ≤ L.length := by
    have:=catsN_len L L.length
    have h:=sortS_len (catsN L L.length)
    show (sortS _).length ≤ _
    omega
  have hcb:(catsS L).length ≤ big:=Nat.le_trans hcl hl
  have c14 : callv X (callerOf TC) false 14 [] [] 0 = some (bo true, []) := by
    obtain ⟨a1,a2,a3⟩:=hL.ok 14 rfl
    exact call_on (B:=aB) (y:=true) (T:=TC) a1 a2 a3 rfl rfl
  have c15 : callv X (callerOf TC) false 15 [aLs.enc L] [] 0 = some (bo true, []) := by
    obtain ⟨a1,a2,a3⟩:=hL.ok 15 rfl
    rw [← hf]
    exact call_on (B:=aB) (y:=fewL L) (T:=TC) a1 a2 a3 (by simp only [AV.ltAll,aLs.lt,Bool.and_self]) (s1_at (A:=aLs) (B:=aB) (g:=fewL) (ok:=fun L=>L.length ≤ big) hl)
  have c16 : callv X (callerOf TC) false 16 [aLs.enc L] [] 0 = some (lro (catsS L).length 1 ((catsS L).map st), []) := by
    obtain ⟨a1,a2,a3⟩:=hL.ok 16 rfl
    have:=call_on (B:=aSs) (y:=catsS L) (T:=TC) (σ:=[]) (ro:=0) (dr:=false) (vs:=[aLs.enc L]) a1 a2 a3 (by simp only [AV.ltAll,aLs.lt,Bool.and_self]) (s1_at (A:=aLs) (B:=aSs) (g:=catsS) (x:=L) (ok:=fun L=>(L.length + 1) * 17 ≤ big) (by show _ ≤ 140737488355328; omega))
    rw [aSs_enc] at this
    exact this
  have c17 : ∀ s, callv X (callerOf TC) false 17 [aLs.enc L, aS.enc s] [] 0 = some (lexsV (L.filter fun x => decide (x.cat = s)), []) := by
    intro s
    obtain ⟨a1,a2,a3⟩:=hL.ok 17 rfl
    refine call_on (B:=aLs) (y:=L.filter fun x=>decide (x.cat=s)) (T:=TC) (vs:=[aLs.enc L,aS.enc s]) a1 a2 a3 (by simp only [AV.ltAll,aLs.lt,aS.lt,Bool.and_self]) ?_
    show sp2 aLs aS _ [aLs.enc L,aS.enc s]=_
    rw [sp2_at (aLs.de _) (aS.de _),if_pos hk]
  have hlt:∀ {i:Nat},decide ((i:Int) < ((catsS L).length:Int))=true→i < (catsS L).length:=fun h=>by simpa using h
  have hm : ∀ {i : Nat}, i < (catsS L).length → (((cntC L (nS (catsS L) i) : Nat) : Int) == 0) = false := fun {i} h => by
    have:=cnt_pos (L:=L) (c:=nS (catsS L) i) (by unfold nS; rw [getD_lt h]; exact List.getElem_mem h)
    simpa using this
  have key := f3_M L (fun i => (sumC L (catsS L) i : Int)) (catsS L) X (callerOf TC) ((catsS L).length + 1) (catsS L).length
    (fun i=>nS (catsS L) i) (fun i=>tS (catsS L) i) (fun i=>cntC L (nS (catsS L) i)) (fun i=>_) (fun i=>nS (catsS L) (i - 1)) (fun i=>tS (catsS L) (i - 1)) (fun i=>nS (catsS L) i) (fun i=>tS (catsS L) i)
    rfl (Nat.lt_succ_self _)
    (fun i _ h=>at_strs (hlt h))
    (fun i _ h=>c17 _)
    (fun i _ h _ h0 => by
      have h0' : 0 < i:=by simpa using h0
      have e : w6 ((i : Int) - 1) = ((i - 1 : Nat) : Int) := by
        have:=hlt h
        unfold w6
        rw [IntKind.wrap_i64]
        have:(catsS L).length ≤ 140737488355328:=hcb
        omega
      rw [e]
      exact at_strs (by have:=hlt h; omega))
    (fun i _ h _ _=>at_strs (hlt h))
    (fun i hi h => by
      have h1:=sumC_le L (i:=i + 1) (hlt h)
      have h2:sumC L (catsS L) (i + 1)=sumC L (catsS L) i + cntC L (nS (catsS L) i):=rfl
      rw [h2] at h1
      show ((sumC L (catsS L) (i + 1):Nat):Int)=w6 (((sumC L (catsS L) i:Nat):Int) + ((cntC L (nS (catsS L) i):Nat):Int))
      rw [h2]
      unfold w6
      rw [IntKind.wrap_i64]
      have:L.length ≤ 140737488355328:=hl
      omega)
    (fun i hi h=>up (hlt h) hcb)
    (fun i hi => by
      show (match decide ((i:Int) < ((catsS L).length:Int)) with | true=>_ | false=>_)=0
      rw [decide_eq_true (by omega:(i:Int) < ((catsS L).length:Int))]
      show (match (((cntC L (nS (catsS L) i):Nat):Int) == 0) with | true=>_ | false=>_)=0
      rw [hm hi]
      show (match decide ((i:Int) > 0) with | true=>_ | false=>_)=0
      cases h0:decide ((i:Int) > 0) with
      | false=>rfl
      | true =>
        have h0' : 0 < i:=by simpa using h0
        show (match (!Op.bytesLess (nS (catsS L) (i - 1)).toList (nS (catsS L) i).toList) with | true=>_ | false=>_)=0
        have:=cats_lt L (i:=i - 1) (by omega)
        rw [Nat.sub_add_cancel h0'] at this
        rw [show (!Op.bytesLess (nS (catsS L) (i - 1)).toList (nS (catsS L) i).toList)=false from this])
  have ho : f3_o0 (catsS L) (catsS L).length (cntC L (nS (catsS L) (catsS L).length)) (nS (catsS L) ((catsS L).length - 1)) (nS (catsS L) (catsS L).length) = 3 := by
    unfold f3_o0
    rw [decide_eq_false (by omega : ¬ ((catsS L).length:Int) < ((catsS L).length:Int))]
  exact run_res (B:=aB) hX hC (hL.dom 3 rfl rfl) Tryd.func3 (by kernel_rfl) (key.2.2.1 ho c14 c15 c16 (by rw [sumC_all]; exact beq_self_eq_true _)) (aB.de true)
theorem law3a (hX:ExtOk Tryd.prog X) (hL:XL X) (hM:XM X) (h14:CallAt Tryd.prog 14 [] [] 0 (bo true) []) {L:List Lexm} (hl:L.length ≤ big):CallAt Tryd.prog 3 [aLs.enc L] [] 0 (aB.enc true) []:=by
  cases hf:fewL L with
  | true=>exact law3 hX hL hM h14 (okLs_few hf) hf
  | false =>
    have c15:=tb15 (X:=X) hL hl [] false
    rw [hf] at c15
    exact run_res (B:=aB) hX (callerOf_ok (TB_ok hX hL h14)) (hL.dom 3 rfl rfl) Tryd.func3 (by kernel_rfl) (f3_ptft L X (callerOf TB) 0 (tb14 hL _ _) c15 (tb14 hL _ _)) rfl
end
end Go.Proofs.Lex
end
