/- Part 8 of the texts of this claim: the evaluator, and what it says of the program's functions. -/
import Derived.Test.YtogacbdboplbfaaGreatDoorValidG
set_option linter.unusedSectionVars false
set_option linter.unusedVariables false
set_option linter.unusedSimpArgs false
set_option linter.constructorNameAsVariable false
/- Lexicon: the reference's words, told. -/
section
open Go Go.Vm Go.Proofs
namespace Go.Proofs.Lex
theorem badK_false {s:ByteArray} {k:Nat} (h:∀ j,j < k→posR s j < s.size ∧ ¬ badK s j) (hk:posR s k < s.size) (hb:badK s k):Lib.validD s.data.toList=false:=by
  rw [valid_run k h,valid_next hk,if_pos hb]
theorem vops_mid {P:Program} {X:Ext} {call:Caller} {ro:Nat} {ops:Array Oper} {o:Oper} {v:AV} {σ:List Ob} {l2:List Oper} {S' : St}:∀ {l1:List Oper} {S Sa:St},vops P X call false ro ops l1 S=some Sa→wantedv ops Sa o=some true→evOp P X call false ro Sa o=some (v,σ)→vops P X call false ro ops l2 (putSlot Sa o.dst v σ)=some S' → vops P X call false ro ops (l1 ++ o::l2) S=some S'
  | [], S, Sa, h1, hw, he, h2 => by
    simp only [vops,Option.some.injEq] at h1
    subst h1
    simp only [List.nil_append,vops,hw,he,Bool.false_eq_true,if_false]
    exact h2
  | x :: l1, S, Sa, h1, hw, he, h2 => by
    simp only [vops,List.cons_append] at h1 ⊢
    split at h1
    · split at h1
      · exact vops_mid h1 hw he h2
      · cases h1
    · exact vops_mid h1 hw he h2
    · cases h1
def overW (a:List Lett) (s:ByteArray):Nat→Nat→Bool
  | 0,_=>false
  | n + 1,k=>if posR s k < s.size then (if hasR a (rnS s k) then overW a s n (k + 1) else false) else true
theorem over_run (a:List Lett) (s:ByteArray):∀ (d j m:Nat),(∀ i,j ≤ i→i < j + d→okK a s i)→overW a s (m + d) j=overW a s m (j + d)
  | 0,j,m,_=>rfl
  | d + 1, j, m, h => by
    obtain ⟨h1,h2⟩:=h j (Nat.le_refl _) (by omega)
    show (if posR s j < s.size then (if hasR a (rnS s j) then overW a s (m + d) (j + 1) else false) else true)=_
    rw [if_pos h1,if_pos h2,over_run a s d (j + 1) m fun i hi1 hi2=>h i (by omega) (by omega)]
    congr 1
    omega
theorem over_at {a:List Lett} {s:ByteArray} {k:Nat} (h:∀ j,j < k→okK a s j):overW a s (s.size + 1) 0=overW a s (s.size - k + 1) k:=by
  have hk:=pos_le fun j hj=>(h j hj).1
  have:=over_run a s k 0 (s.size - k + 1) fun i _ hi=>h i (by omega)
  rw [Nat.zero_add] at this
  rw [← this]
  congr 1
  omega
theorem over_end {a:List Lett} {s:ByteArray} {k:Nat} (h:∀ j,j < k→okK a s j) (he : ¬ posR s k < s.size):overW a s (s.size + 1) 0=true:=by
  rw [over_at h]
  show (if _ then _ else _)=_
  rw [if_neg he]
theorem over_bad {a:List Lett} {s:ByteArray} {k:Nat} (h:∀ j,j < k→okK a s j) (he:posR s k < s.size) (hb:hasR a (rnS s k)=false):overW a s (s.size + 1) 0=false:=by
  rw [over_at h]
  show (if _ then (if _ then _ else _) else _)=_
  rw [if_pos he,if_neg (by rw [hb]; simp)]
/-- The reference's words are the words. -/
def isWordR (a:List Lett) (s:ByteArray):Bool:=(Lib.validD s.data.toList && overW a s (s.size + 1) 0) && decide ((runesN s:Int) ≤ 40)
theorem word_eq (a:List Lett) (s:ByteArray):isWordR a s=isWordF a s:=by
  unfold isWordR isWordF
  cases Lib.validD s.data.toList with
  | false=>rfl
  | true =>
    rw [Bool.true_and,Bool.true_and]
    rcases first_fail (p:=fun k=>okK a s k) (s.size + 1) with hall | ⟨k,hk,hbad,hbef⟩
    · exfalso
      have:=pos_ge s (s.size + 1) fun j hj=>(hall j hj).1
      have h2:=(hall s.size (by omega)).1
      have h3:=pos_ge s s.size fun j hj=>(hall j (by omega)).1
      omega
    · by_cases hp : posR s k < s.size
      · have hb : hasR a (rnS s k) = false := by
          rw [Bool.eq_false_iff]
          exact fun h=>hbad ⟨hp,h⟩
        rw [over_bad hbef hp hb,word_bad hbef hp hb]
        rfl
      · rw [over_end hbef hp,word_end hbef hp,Bool.true_and,runes_end (fun j hj=>(hbef j hj).1) hp (pos_le fun j hj=>(hbef j hj).1)]
section
variable [Fixed] {X:Ext}
theorem run84 (hX:ExtOk Tryz.prog X) {call:Caller} (hC:CallOk Tryz.prog call) (s:ByteArray) (hs:s.size ≤ big) :
    RunAt Tryz.prog X call 0 [] (opsF Tryz.f84 1) (opsF Tryz.f84 2) (body84 Tryz.f84) 8 (A84 s) s dk84 (fun _ r => F84 s r) 7 (fun k => ∀ j, j < k → posR s j < s.size ∧ ¬ badK s j)
      (fun T=>nth T.tmps 2=bo false∧Lib.validD s.data.toList=false):=by
  have hs' : s.size ≤ 140737488355328:=hs
  refine ⟨⟨[opF Tryz.f84 1 0],opF Tryz.f84 1 1,9,.tmp 5,B84 s,6,opF Tryz.f84 2 0,opF Tryz.f84 2 1,ops84_1,?_,by kernel_rfl,by kernel_rfl,by kernel_rfl,Tryz.underlying9,?_,ops84_2,by kernel_rfl,by kernel_rfl,by kernel_rfl,by kernel_rfl,by kernel_rfl,by kernel_rfl,?_,?_,?_⟩,fun j hj=>absurd hj (Nat.not_lt_zero _),?_⟩
  · show _=_; kernel_rfl
  · show _=_; kernel_rfl
  · intro r; show _=_; kernel_rfl
  · intro k r; show _=_; kernel_rfl
  · intro k r
    have:(F84 s r).tmps.length=28:=by show _=_; kernel_rfl
    exact ⟨by rw [this]; decide,by rw [this]; decide⟩
  · intro k r hI hpos
    have next : ¬ badK s k → ∀ j, j < k + 1 → posR s j < s.size ∧ ¬ badK s j := fun hb j hj => by
      by_cases e:j=k
      · subst e; exact ⟨hpos,hb⟩
      · exact hI j (by omega)
    have hbi:=bad_iff hpos
    by_cases hz:(Utf8.decode s (posR s k)).1=65533
    · have hz' : (((Utf8.decode s (posR s k)).1 : Int) == 65533) = true := by rw [hz]; rfl
      have hw:w6 ((posR s k:Int) + 3)=((posR s k + 3:Nat):Int):=by rw [w6_id (by omega) (by omega)]; omega
      by_cases hl:s.size < posR s k + 3
      · have hb : badK s k := hbi.2 ⟨hz, .inl hl⟩
        obtain ⟨T,h1,h2⟩:=r84_t2 (X:=X) (call:=call) (lf:=0) s r (posR s k) ((Utf8.decode s (posR s k)).1:Int) hz' (by rw [hw]; exact decide_eq_true (by omega))
        refine (SR.exec hX hC (lf:=0) (fg:=noFg) (by kernel_rfl) h1).mono ?_
        rintro x T' ⟨rfl,rfl⟩
        exact .inr ⟨rfl,h2,badK_false hI hpos hb⟩
      · have hslc : slc Tryz.prog 9 [] false 0 (st s) (some (i6 (posR s k))) (some (i6 (w6 ((posR s k : Int) + 3)))) none = some (st (s.extract (posR s k) (posR s k + 3)), []) := by
          rw [hw,ex_mk]
          exact slcM (by omega) (by omega)
        by_cases hu:s.extract (posR s k) (posR s k + 3)=fffd
        · have hb : ¬ badK s k := fun h => by
            rcases (hbi.1 h).2 with h2 | h2
            · exact hl h2
            · exact h2 hu
          obtain ⟨T,h1,h2⟩:=r84_t4 (X:=X) (call:=call) (lf:=0) s _ r (posR s k) ((Utf8.decode s (posR s k)).1:Int) hz' (by rw [hw]; exact decide_eq_false (by omega)) hslc (eq_test hu)
          refine (SR.exec hX hC (lf:=0) (fg:=noFg) (by kernel_rfl) h1).mono ?_
          rintro x T' ⟨rfl,rfl⟩
          exact .inl ⟨rfl,next hb,h2⟩
        · have hb : badK s k := hbi.2 ⟨hz, .inr hu⟩
          obtain ⟨T,h1,h2⟩:=r84_t3 (X:=X) (call:=call) (lf:=0) s _ r (posR s k) ((Utf8.decode s (posR s k)).1:Int) hz' (by rw [hw]; exact decide_eq_false (by omega)) hslc (by rw [eqB_ne.2 hu]; rfl)
          refine (SR.exec hX hC (lf:=0) (fg:=noFg) (by kernel_rfl) h1).mono ?_
          rintro x T' ⟨rfl,rfl⟩
          exact .inr ⟨rfl,h2,badK_false hI hpos hb⟩
    · have hb : ¬ badK s k := fun h => hz h.1
      obtain ⟨T,h1,h2⟩:=r84_t1 (X:=X) (call:=call) (lf:=0) s r (posR s k) ((Utf8.decode s (posR s k)).1:Int) (beq_eq_false_iff_ne.2 (by omega))
      refine (SR.exec hX hC (lf:=0) (fg:=noFg) (by kernel_rfl) h1).mono ?_
      rintro x T' ⟨rfl,rfl⟩
      exact .inl ⟨rfl,next hb,h2⟩
theorem vend84 (T:St) (b:Bool) (h:nth T.tmps 2=bo b):vend Tryz.prog Tryz.f84 [] 0 T=some (bo b,T.st):=by
  have hr:resultsv Tryz.prog T Tryz.f84.results.toList=some [nth T.tmps 2]:=by kernel_rfl
  unfold vend
  rw [hr,h]
  exact vend1_plain rfl
/-- ref01.UTF8. -/
theorem callUtf (hX:ExtOk Tryz.prog X) {s:ByteArray} (hs:s.size ≤ big):CallAt Tryz.prog 84 [aS.enc s] [] 0 (aB.enc (Lib.validD s.data.toList)) []:=by
  have hC:=callerOf_ok (SpecOk.none' (P:=Tryz.prog))
  refine call_rel (B:=aB) (fn:=Tryz.f84) (c:=code84 Tryz.f84) (R:=fun x T=>x = .ret∧nth T.tmps 2=bo (Lib.validD s.data.toList)) Tryz.func84 is84 (of_decide_eq_false (by kernel_rfl)) ?_ ?_
  · refine SR.seq (SR.exec hX hC (lf := 0) (fg := noFg) (by kernel_rfl) (r84_0 s)) (fun T hT => ?_) (fun z T hz hh => absurd hh.1 hz)
    obtain ⟨-,rfl⟩:=hT
    refine SR.seq (SR.rangeS hX hC (run84 hX hC s hs)) (fun T hT => ?_) (fun z T hz hh => ?_)
    · rcases hT with ⟨-, k, r, hI, hpos, rfl⟩ | ⟨h, -⟩
      · obtain ⟨T', h1, h2⟩ := r84_6 (X := X) (call := callerOf fun _ _ => none) (lf := 0) s r
        refine (SR.exec hX hC (lf:=0) (fg:=noFg) (by kernel_rfl) h1).mono ?_
        rintro x T'' ⟨rfl,rfl⟩
        exact ⟨rfl,by rw [h2,valid_run k hI,valid_end hpos]⟩
      · cases h
    · rcases hh with ⟨h, -⟩ | ⟨rfl, h4, hb⟩
      · exact absurd h hz
      · exact ⟨rfl,by rw [h4,hb]⟩
  · rintro x T ⟨rfl, h4⟩
    exact ⟨.inr rfl,bo _,T.st,vend84 T _ h4,rfl⟩
end
/-! ### Over -/
def body57 (fn:Func):Code := .block 1 (.seq (rgF fn 5) (.seq (rgF fn 6) (.cond (.tmp 18) (.seq (rgF fn 7) .ret) .skip)))
def code57 (fn:Func):Code := .seq (rgF fn 0) (.seq (.seq (rgF fn 1) (.cond (.tmp 9) (.seq (rgF fn 2) .ret) .skip)) (.seq (.seq (rgF fn 3) (.block 0 (.loop (.seq (rgF fn 4) (.seq (.cond (.tmp 13) .skip (.exit 0)) (body57 fn)))))) (.seq (rgF fn 8) .ret)))
theorem is57:Tryz.f57.body=some (code57 Tryz.f57):=by kernel_rfl
def dk57:List Nat:=[6,12,13,14,15,16,17,18]
def A57 (a:List Lett) (s:ByteArray):St:=stOf 19 [] [(0,lettsV a),(1,st s),(4,bo false)] []
def B57 (a:List Lett) (s:ByteArray):St:=stOf 19 [] [(0,lettsV a),(1,st s),(4,bo false),(7,st s),(8,bo true),(9,bo false)] []
def C57 (a:List Lett) (s:ByteArray):St:=stOf 19 [] [(0,lettsV a),(1,st s),(4,bo false),(7,st s),(8,bo true),(9,bo false),(10,st s)] []
def F57 (a:List Lett) (s:ByteArray) (r:Nat):St:=stOf 19 dk57 [(0,lettsV a),(1,st s),(4,bo false),(7,st s),(8,bo true),(9,bo false),(10,st s),(11,ptrV r)] []
def G57 (a:List Lett) (s:ByteArray) (r p:Nat) (z:Int):St:=⟨setN (setN (F57 a s r).tmps 12 (.tup [bo true,i6 p,i3 z])) 13 (bo true),(F57 a s r).st⟩
section
variable {X:Ext} {call:Caller} {lf:Nat}
theorem r57_0 (a:List Lett) (s:ByteArray):vexec Tryz.prog X call lf 0 noFg (rgF Tryz.f57 0) (stOf 19 [] [(0,lettsV a),(1,st s)] [])=some (.normal,A57 a s):=by show _=_; kernel_rfl
theorem r57_1 (a:List Lett) (s:ByteArray) (h:callv X call false 84 [st s] [] 0=some (bo true,[])):vexec Tryz.prog X call lf 0 noFg (.seq (rgF Tryz.f57 1) (.cond (.tmp 9) (.seq (rgF Tryz.f57 2) .ret) .skip)) (A57 a s)=some (.normal,B57 a s) :=
  around_sound (ans:=[(2,Ans.v (bo true))]) (by kernel_rfl) (And.intro h trivial)
theorem f57_bad (a:List Lett) (s:ByteArray) (h:callv X call false 84 [st s] [] 0=some (bo false,[])):vbody Tryz.prog X call lf noFg Tryz.f57 (codeOf Tryz.f57) [lettsV a,st s] [] 0=some (bo false,[]) :=
  along_sound (ans:=[(4,Ans.v (bo false))]) (by kernel_rfl) (And.intro h trivial)
theorem r57_t (a:List Lett) (s:ByteArray) (r p:Nat) (z q:Int) (h:callv X call false 40 [lettsV a,i3 z] [] 0=some (i6 q,[])) (h2:decide (q < 0)=false) :
    ∃ T,vexec Tryz.prog X call lf 0 noFg (body57 Tryz.f57) (G57 a s r p z)=some (.normal,T)∧forget dk57 T=F57 a s r :=
  ⟨stOf 19 [] [(0,lettsV a),(1,st s),(4,bo false),(7,st s),(8,bo true),(9,bo false),(10,st s),(11,ptrV r),(6,i3 z),(12,.tup [bo true,i6 p,i3 z]),(13,bo true),(14,i3 z),(15,lettsV a),(16,i3 z),(17,i6 q),(18,bo false)] [],around_sound (ans:=[(6,Ans.v (i6 q)),(7,Ans.b false)]) (by kernel_rfl) (And.intro h (And.intro h2 trivial)),by show _=_; kernel_rfl⟩
theorem r57_f (a:List Lett) (s:ByteArray) (r p:Nat) (z q:Int) (h:callv X call false 40 [lettsV a,i3 z] [] 0=some (i6 q,[])) (h2:decide (q < 0)=true) :
    ∃ T,vexec Tryz.prog X call lf 0 noFg (body57 Tryz.f57) (G57 a s r p z)=some (.ret,T)∧nth T.tmps 4=bo false :=
  ⟨stOf 19 [] [(0,lettsV a),(1,st s),(4,bo false),(7,st s),(8,bo true),(9,bo false),(10,st s),(11,ptrV r),(6,i3 z),(12,.tup [bo true,i6 p,i3 z]),(13,bo true),(14,i3 z),(15,lettsV a),(16,i3 z),(17,i6 q),(18,bo true)] [],around_sound (ans:=[(6,Ans.v (i6 q)),(7,Ans.b true)]) (by kernel_rfl) (And.intro h (And.intro h2 trivial)),by show _=_; kernel_rfl⟩
theorem r57_8 (a:List Lett) (s:ByteArray) (r:Nat) :
    ∃ T,vexec Tryz.prog X call lf 0 noFg (.seq (rgF Tryz.f57 8) .ret) ⟨setN (setN (F57 a s r).tmps 12 (.tup [bo false])) 13 (bo false),(F57 a s r).st⟩=some (.ret,T)∧nth T.tmps 4=bo true :=
  ⟨stOf 19 [6,14,15,16,17,18] [(0,lettsV a),(1,st s),(4,bo true),(7,st s),(8,bo true),(9,bo false),(10,st s),(11,ptrV r),(12,.tup [bo false]),(13,bo false)] [],by show _=_; kernel_rfl,by show _=_; kernel_rfl⟩
theorem ops57_3:(opsF Tryz.f57 3).toList=[opF Tryz.f57 3 0] ++ [opF Tryz.f57 3 1]:=by kernel_rfl
theorem ops57_4:(opsF Tryz.f57 4).toList=[opF Tryz.f57 4 0,opF Tryz.f57 4 1]:=by kernel_rfl
end
section
variable [Fixed] {X:Ext}
def W57:Go.Vm.Spec:=(Go.Vm.Spec.on (fun _ _=>none) 84 (s1 aS aB (fun s=>Lib.validD s.data.toList) fun s=>s.size ≤ big)).on 40 (sp2 aTs aR fun a n=>if a.length ≤ big then some (aI.enc (idxT a n)) else none)
theorem W57_ok (hX:ExtOk Tryz.prog X) (hL:XL X):SpecOk Tryz.prog W57:=by
  refine SpecOk.on2 (SpecOk.s1 SpecOk.none' fun s h=>callUtf hX h) fun a n r h => ?_
  exact on_cond (α:=Nat) (β:=Nat) (Q:=fun r=>CallAt Tryz.prog 40 [aTs.enc a,aR.enc n] [] 0 r []) h fun e=>callIdx hX hL e
theorem z84 (hL:XL X) {s:ByteArray} {b:Bool} (hs:s.size ≤ big) (hb:Lib.validD s.data.toList=b) (σ:List Ob):callv X (callerOf W57) false 84 [st s] σ 0=some (bo b,σ):=by
  obtain ⟨a1,a2,a3⟩:=hL.ok 84 rfl
  rw [← hb]
  exact call_on (B:=aB) (T:=W57) (y:=Lib.validD s.data.toList) (vs:=[aS.enc s]) a1 a2 a3 rfl (s1_at (A:=aS) (B:=aB) (g:=fun s=>Lib.validD s.data.toList) (ok:=fun s=>s.size ≤ big) hs)
theorem z40 (hL:XL X) {a:List Lett} (n:Int) (hl:a.length ≤ big) (σ:List Ob):callv X (callerOf W57) false 40 [lettsV a,i3 n] σ 0=some (i6 (idxT a n),σ) :=
  on_two (A:=aTs) (B:=aR) (D:=aI) (T:=W57) (z:=idxT a n) hL rfl rfl (if_pos hl) _ _
theorem run57 (hX:ExtOk Tryz.prog X) (hL:XL X) {a:List Lett} (hl:a.length ≤ big) (s:ByteArray) :
    RunAt Tryz.prog X (callerOf W57) 0 [] (opsF Tryz.f57 3) (opsF Tryz.f57 4) (body57 Tryz.f57) 13 (B57 a s) s dk57 (fun _ r => F57 a s r) 12 (fun k => ∀ j, j < k → okK a s j)
      (fun T=>nth T.tmps 4=bo false∧overW a s (s.size + 1) 0=false):=by
  have hC:=callerOf_ok (W57_ok hX hL)
  refine ⟨⟨[opF Tryz.f57 3 0],opF Tryz.f57 3 1,9,.tmp 10,C57 a s,11,opF Tryz.f57 4 0,opF Tryz.f57 4 1,ops57_3,?_,by kernel_rfl,by kernel_rfl,by kernel_rfl,Tryz.underlying9,?_,ops57_4,by kernel_rfl,by kernel_rfl,by kernel_rfl,by kernel_rfl,by kernel_rfl,by kernel_rfl,?_,?_,?_⟩,fun j hj=>absurd hj (Nat.not_lt_zero _),?_⟩
  · show _=_; kernel_rfl
  · show _=_; kernel_rfl
  · intro r; show _=_; kernel_rfl
  · intro k r; show _=_; kernel_rfl
  · intro k r
    have:(F57 a s r).tmps.length=19:=by show _=_; kernel_rfl
    exact ⟨by rw [this]; decide,by rw [this]; decide⟩
  · intro k r hI hpos
    have hc:=z40 (X:=X) hL (a:=a) (rnS s k) hl []
    have hh:=hasR_idx a (rnS s k)
    cases hb:hasR a (rnS s k) with
    | true =>
      rw [hb] at hh
      obtain ⟨T,h1,h2⟩:=r57_t (X:=X) (call:=callerOf W57) (lf:=0) a s r (posR s k) (rnS s k) _ hc (by simpa using hh.symm)
      refine (SR.exec hX hC (lf:=0) (fg:=noFg) (by kernel_rfl) h1).mono ?_
      rintro x T' ⟨rfl,rfl⟩
      refine .inl ⟨rfl,fun j hj => ?_,h2⟩
      by_cases e:j=k
      · subst e; exact ⟨hpos,hb⟩
      · exact hI j (by omega)
    | false =>
      rw [hb] at hh
      obtain ⟨T,h1,h2⟩:=r57_f (X:=X) (call:=callerOf W57) (lf:=0) a s r (posR s k) (rnS s k) _ hc (by simpa using hh.symm)
      refine (SR.exec hX hC (lf:=0) (fg:=noFg) (by kernel_rfl) h1).mono ?_
      rintro x T' ⟨rfl,rfl⟩
      exact .inr ⟨rfl,h2,over_bad hI hpos hb⟩
theorem vend57 (T:St) (b:Bool) (h:nth T.tmps 4=bo b):vend Tryz.prog Tryz.f57 [] 0 T=some (bo b,T.st):=by
  have hr:resultsv Tryz.prog T Tryz.f57.results.toList=some [nth T.tmps 4]:=by kernel_rfl
  unfold vend
  rw [hr,h]
  exact vend1_plain rfl
def overF (a:List Lett) (s:ByteArray):Bool:=Lib.validD s.data.toList && overW a s (s.size + 1) 0
/-- ref01.Over. -/
theorem callOver (hX:ExtOk Tryz.prog X) (hL:XL X) {a:List Lett} {s:ByteArray} (hl:a.length ≤ big) (hs:s.size ≤ big):CallAt Tryz.prog 57 [aTs.enc a,aS.enc s] [] 0 (aB.enc (overF a s)) []:=by
  have hC:=callerOf_ok (W57_ok hX hL)
  unfold overF
  cases hv:Lib.validD s.data.toList with
  | false=>exact run_res (B:=aB) hX hC (hL.dom 57 rfl rfl) Tryz.func57 (by kernel_rfl) (f57_bad (lf:=0) a s (z84 hL hs hv [])) rfl
  | true =>
    rw [Bool.true_and]
    refine call_rel (B:=aB) (fn:=Tryz.f57) (c:=code57 Tryz.f57) (R:=fun x T=>x = .ret∧nth T.tmps 4=bo (overW a s (s.size + 1) 0)) Tryz.func57 is57 (of_decide_eq_false (by kernel_rfl)) ?_ ?_
    · refine SR.seq (SR.exec hX hC (lf := 0) (fg := noFg) (by kernel_rfl) (r57_0 a s)) (fun T hT => ?_) (fun z T hz hh => absurd hh.1 hz)
      obtain ⟨-,rfl⟩:=hT
      refine SR.seq (SR.exec hX hC (lf:=0) (fg:=noFg) (by kernel_rfl) (r57_1 a s (z84 hL hs hv []))) (fun T hT => ?_) (fun z T hz hh=>absurd hh.1 hz)
      obtain ⟨-,rfl⟩:=hT
      refine SR.seq (SR.rangeS hX hC (run57 hX hL hl s)) (fun T hT => ?_) (fun z T hz hh => ?_)
      · rcases hT with ⟨-, k, r, hI, hpos, rfl⟩ | ⟨h, -⟩
        · obtain ⟨T', h1, h2⟩ := r57_8 (X := X) (call := callerOf W57) (lf := 0) a s r
          refine (SR.exec hX hC (lf:=0) (fg:=noFg) (by kernel_rfl) h1).mono ?_
          rintro x T'' ⟨rfl,rfl⟩
          exact ⟨rfl,by rw [h2,over_end hI hpos]⟩
        · cases h
      · rcases hh with ⟨h, -⟩ | ⟨rfl, h4, hb⟩
        · exact absurd h hz
        · exact ⟨rfl,by rw [h4,hb]⟩
    · rintro x T ⟨rfl, h4⟩
      exact ⟨.inr rfl,bo _,T.st,vend57 T _ h4,rfl⟩
end
end Go.Proofs.Lex
end
/- Lexicon: the reference of Valid, told; the law. -/
section
open Go Go.Vm Go.Proofs
namespace Go.Proofs.Lex
section
variable {X:Ext} {call:Caller} {lf:Nat}
def A42 (a:List Lett) (s:ByteArray):St:=stOf 14 [] [(0,lettsV a),(1,st s),(4,bo false)] []
def B42 (a:List Lett) (s:ByteArray):St:=stOf 14 [] [(0,lettsV a),(1,st s),(4,bo false),(5,lettsV a),(6,st s)] []
def C42 (a:List Lett) (s:ByteArray):St:=stOf 14 [] [(0,lettsV a),(1,st s),(4,bo false),(5,lettsV a),(6,st s),(7,bo true),(8,bo true),(9,st s)] []
def D42 (a:List Lett) (s:ByteArray) (n:Nat):St:=stOf 14 [10] [(0,lettsV a),(1,st s),(4,bo (decide ((n:Int) ≤ 40))),(5,lettsV a),(6,st s),(7,bo true),(8,bo true),(9,st s),(11,i6 n),(12,bo (decide ((n:Int) ≤ 40))),(13,bo (decide ((n:Int) ≤ 40)))] []
def code42 (fn:Func):Code := .seq (rgF fn 0) (.seq (rgF fn 1) .ret)
theorem is42:Tryz.f42.body=some (code42 Tryz.f42):=by kernel_rfl
theorem r42_0 (a:List Lett) (s:ByteArray):vexec Tryz.prog X call lf 0 noFg (rgF Tryz.f42 0) (stOf 14 [] [(0,lettsV a),(1,st s)] [])=some (.normal,A42 a s):=by show _=_; kernel_rfl
theorem f42_bad (a:List Lett) (s:ByteArray) (h:callv X call false 57 [lettsV a,st s] [] 0=some (bo false,[])):vbody Tryz.prog X call lf noFg Tryz.f42 (codeOf Tryz.f42) [lettsV a,st s] [] 0=some (bo false,[]) :=
  along_sound (ans:=[(5,Ans.v (bo false))]) (by kernel_rfl) (And.intro h trivial)
theorem ops42:(opsF Tryz.f42 1).toList=([opF Tryz.f42 1 0,opF Tryz.f42 1 1] ++ opF Tryz.f42 1 2::[opF Tryz.f42 1 3,opF Tryz.f42 1 4]) ++ opF Tryz.f42 1 5::opF Tryz.f42 1 6::[opF Tryz.f42 1 7,opF Tryz.f42 1 8,opF Tryz.f42 1 9]:=by kernel_rfl
theorem pre42 (a:List Lett) (s:ByteArray) (h:callv X call false 57 [lettsV a,st s] [] 0=some (bo true,[])) :
    vops Tryz.prog X call false 0 (opsF Tryz.f42 1) ([opF Tryz.f42 1 0,opF Tryz.f42 1 1] ++ opF Tryz.f42 1 2::[opF Tryz.f42 1 3,opF Tryz.f42 1 4]) (A42 a s)=some (C42 a s):=by
  refine vops_mid (Sa:=B42 a s) (v:=bo true) (σ:=[]) (by show _=_; kernel_rfl) (by show _=_; kernel_rfl) ?_ (by show _=_; kernel_rfl)
  have e:evOp Tryz.prog X call false 0 (B42 a s) (opF Tryz.f42 1 2)=callv X call false 57 [lettsV a,st s] [] 0:=by show _=_; kernel_rfl
  rw [e,h]
theorem post42 (a:List Lett) (s:ByteArray) (n:Nat):vops Tryz.prog X call false 0 (opsF Tryz.f42 1) [opF Tryz.f42 1 7,opF Tryz.f42 1 8,opF Tryz.f42 1 9] ⟨setN (setN (C42 a s).tmps 10 .any) 11 (.int .i64 n),(C42 a s).st⟩=some (D42 a s n):=by show _=_; kernel_rfl
end
section
variable [Fixed] {X:Ext}
def W42:Go.Vm.Spec:=Go.Vm.Spec.on (fun _ _=>none) 57 (sp2 aTs aS fun a s=>if a.length ≤ big∧s.size ≤ big then some (aB.enc (overF a s)) else none)
theorem W42_ok (hX:ExtOk Tryz.prog X) (hL:XL X):SpecOk Tryz.prog W42:=by
  refine SpecOk.on2 SpecOk.none' fun a s r h => ?_
  exact on_cond (α:=Nat) (β:=Nat) (Q:=fun r=>CallAt Tryz.prog 57 [aTs.enc a,aS.enc s] [] 0 r []) h fun e=>callOver hX hL e.1 e.2
theorem vend42 (T:St) (b:Bool) (h:nth T.tmps 4=bo b):vend Tryz.prog Tryz.f42 [] 0 T=some (bo b,T.st):=by
  have hr:resultsv Tryz.prog T Tryz.f42.results.toList=some [nth T.tmps 4]:=by kernel_rfl
  unfold vend
  rw [hr,h]
  exact vend1_plain rfl
theorem under95:Tryz.prog.underlying 95=some (.slice 21):=by kernel_rfl
/-- ref01.IsWord. -/
theorem callWord (hX:ExtOk Tryz.prog X) (hL:XL X) {a:List Lett} {s:ByteArray} (hl:a.length ≤ big) (hs:s.size ≤ 70368744177664):CallAt Tryz.prog 42 [aTs.enc a,aS.enc s] [] 0 (aB.enc (isWordR a s)) []:=by
  have hC:=callerOf_ok (W42_ok hX hL)
  have hsb:s.size ≤ big:=by show _ ≤ 140737488355328; omega
  have c57 : ∀ {b : Bool}, overF a s = b → callv X (callerOf W42) false 57 [lettsV a, st s] [] 0 = some (bo b, []) := fun {b} e =>
    on_two (A:=aTs) (B:=aS) (D:=aB) (T:=W42) (z:=b) hL rfl rfl (by rw [if_pos ⟨hl,hsb⟩,e]) _ _
  have hw:isWordR a s=(overF a s && decide ((runesN s:Int) ≤ 40)):=rfl
  rw [hw]
  cases ho:overF a s with
  | false=>exact run_res (B:=aB) hX hC (hL.dom 42 rfl rfl) Tryz.func42 (by kernel_rfl) (f42_bad (lf:=0) a s (c57 ho)) rfl
  | true =>
    rw [Bool.true_and]
    refine call_rel (B:=aB) (fn:=Tryz.f42) (c:=code42 Tryz.f42) (R:=fun x T=>x = .ret∧nth T.tmps 4=bo (decide ((runesN s:Int) ≤ 40))) Tryz.func42 is42 (of_decide_eq_false (by kernel_rfl)) ?_ ?_
    · refine SR.seq (SR.exec hX hC (lf := 0) (fg := noFg) (by kernel_rfl) (r42_0 a s)) (fun T hT => ?_) (fun z T hz hh => absurd hh.1 hz)
      obtain ⟨-,rfl⟩:=hT
      refine SR.seq (SR.runesLen hX hC (oc := opF Tryz.f42 1 5) (ol := opF Tryz.f42 1 6) (s := 9) (d := 95) (e := 21) (x := .tmp 9) (dc := 10) (dl := 11) (str := s) (c := { callee := .builtin .len, args := #[.tmp 10], argTypes := #[95] }) (S3 := D42 a s (runesN s)) ops42 (pre42 a s (c57 ho))
        (by kernel_rfl) (by show _=_; kernel_rfl) (by kernel_rfl) (by show _=_; kernel_rfl) Tryz.underlying9 under95 Tryz.underlying21 hs (by kernel_rfl) rfl rfl rfl (by show _=_; kernel_rfl) (by kernel_rfl) ?_ (post42 a s (runesN s))) (fun T hT => ?_) (fun z T hz hh=>absurd hh.1 hz)
      · have : (C42 a s).tmps.length = 14 := by show _ = _; kernel_rfl
        rw [this]
        decide
      · obtain ⟨-, rfl⟩ := hT
        refine SR.ret ⟨rfl,?_⟩
        have:∀ n:Nat,nth (D42 a s n).tmps 4=bo (decide ((n:Int) ≤ 40)):=fun n=>by show _=_; kernel_rfl
        exact this _
    · rintro x T ⟨rfl, h4⟩
      exact ⟨.inr rfl,bo _,T.st,vend42 T _ h4,rfl⟩
/-- Sizes that a machine bears, of a reference's lexeme. -/
def W19:Go.Vm.Spec:=((Go.Vm.Spec.on (fun _ _=>none) 41 (s1 aS aB nameL okS)).on 43 (s1 aFs aB validF okF)).on 42 (sp2 aTs aS fun a s=>if a.length ≤ big∧s.size ≤ 70368744177664 then some (aB.enc (isWordR a s)) else none)
theorem W19_ok (hX:ExtOk Tryz.prog X) (hL:XL X):SpecOk Tryz.prog W19:=by
  refine SpecOk.on2 (SpecOk.s1 (SpecOk.s1 SpecOk.none' fun s h=>call49 hX hL h) fun F h=>call50 hX hL h) fun a s r h => ?_
  exact on_cond (α:=Nat) (β:=Nat) (Q:=fun r=>CallAt Tryz.prog 42 [aTs.enc a,aS.enc s] [] 0 r []) h fun e=>callWord hX hL e.1 e.2
theorem y41 (hL:XL X) {s:ByteArray} (h:okS s) (σ:List Ob):callv X (callerOf W19) false 41 [st s] σ 0=some (bo (nameL s),σ):=by
  obtain ⟨a1,a2,a3⟩:=hL.ok 41 rfl
  exact call_on (B:=aB) (T:=W19) (y:=nameL s) (vs:=[aS.enc s]) a1 a2 a3 rfl (s1_at (A:=aS) (B:=aB) (g:=nameL) (ok:=okS) h)
theorem y43 (hL:XL X) {F:List Feat} (h:okF F) (σ:List Ob):callv X (callerOf W19) false 43 [featsV F] σ 0=some (bo (validF F),σ):=by
  obtain ⟨a1,a2,a3⟩:=hL.ok 43 rfl
  exact call_on (B:=aB) (T:=W19) (y:=validF F) (vs:=[aFs.enc F]) a1 a2 a3 (by simp only [AV.ltAll,aFs.lt,Bool.and_self]) (s1_at (A:=aFs) (B:=aB) (g:=validF) (ok:=okF) h)
theorem y42 (hL:XL X) {a:List Lett} {s:ByteArray} (hl:a.length ≤ big) (hs:s.size ≤ 70368744177664) (σ:List Ob):callv X (callerOf W19) false 42 [lettsV a,st s] σ 0=some (bo (isWordF a s),σ):=by
  rw [← word_eq]
  exact on_two (A:=aTs) (B:=aS) (D:=aB) (T:=W19) (z:=isWordR a s) hL rfl rfl (if_pos ⟨hl,hs⟩) _ _
/-- A lexeme that is short enough. -/
structure okW (x:Lexm):Prop extends okV x where
  short:x.stem.size ≤ 70368744177664
instance (a:List Lett):DecidablePred fun x:Lexm=>a.length ≤ big∧okS x.id∧okS x.cat∧okS x.par∧okF x.feats∧x.stem.size ≤ 70368744177664:=fun x=>inferInstanceAs (Decidable (_∧_))
/-- ref09.Lexeme. -/
theorem callLexeme (hX:ExtOk Tryz.prog X) (hL:XL X) {a:List Lett} {x:Lexm} (hl:a.length ≤ big) (hx:okW x):CallAt Tryz.prog 19 [aTs.enc a,aL.enc x] [] 0 (aB.enc (lexO a x)) []:=by
  have hC:=callerOf_ok (W19_ok hX hL)
  have M:=f90019_P0 a x X (callerOf W19) 0 (nameL x.id) (nameL x.cat) (isWordF a x.stem) (validF x.feats) (nameL x.par) (isWordF a x.stem) (validF x.feats) (y41 hL hx.id _) (fun _=>y41 hL hx.cat _) (fun _ _ _=>y42 hL hl hx.short _) (fun _ _ _ _=>y43 hL hx.feats _) (fun _ _ _=>y41 hL hx.par _) (fun _ _ _ _=>y42 hL hl hx.short _) (fun _ _ _ _ _=>y43 hL hx.feats _)
  have hq : f90019_q0 x (nameL x.id) (nameL x.cat) (isWordF a x.stem) (validF x.feats) (nameL x.par) (isWordF a x.stem) (validF x.feats) = if lexO a x then 0 else 1 := by
    unfold f90019_q0 lexO
    by_cases e:x.par=emp
    · rw [show (x.par.toList == (ByteArray.mk #[]).toList) = true from eqB_iff.2 e, decide_eq_true e]
      cases nameL x.id <;> cases nameL x.cat <;> cases isWordF a x.stem <;> cases validF x.feats <;> rfl
    · rw [show (x.par.toList == (ByteArray.mk #[]).toList) = false from eqB_ne.2 e, decide_eq_false e]
      cases nameL x.id <;> cases nameL x.cat <;> cases nameL x.par <;> cases isWordF a x.stem <;> cases validF x.feats <;> rfl
  cases h:lexO a x with
  | true=>exact run_res (B:=aB) hX hC (hL.dom 19 rfl rfl) Tryz.func19 (by kernel_rfl) (M.1 (by rw [hq,h]; rfl)) rfl
  | false=>exact run_res (B:=aB) hX hC (hL.dom 19 rfl rfl) Tryz.func19 (by kernel_rfl) (M.2 (by rw [hq,h]; rfl)) rfl
/-- What the reference's Valid of this lexicon asks. -/
def W7 (a0:List Lett) (L0:List Lexm):Go.Vm.Spec:=((Go.Vm.Spec.on (fun _ _=>none) 18 (s1 aTs aB alphaF fun a=>a.length ≤ big)).on 19 (sp2 aTs aL fun a x=>if a=a0∧x ∈ L0 then some (aB.enc (lexO a x)) else none)).on 20 (sp2 aLs aS fun L s=>if L.length ≤ big then some (aI.enc (idxP (fun x=>decide (x.id=s)) L)) else none)
theorem W7_ok (hX:ExtOk Tryz.prog X) (hL:XL X) {a0:List Lett} {L0:List Lexm} (ha:a0.length ≤ big) (hk:∀ x ∈ L0,okW x):SpecOk Tryz.prog (W7 a0 L0):=by
  refine SpecOk.on2 (SpecOk.on2 (SpecOk.s1 SpecOk.none' fun a h => ?_) fun a x r h => ?_) fun L s r h => ?_
  · rw [← alpha_eq]
    exact callAlpha hX hL h
  · exact on_cond (α:=Nat) (β:=Nat) (Q:=fun r=>CallAt Tryz.prog 19 [aTs.enc a,aL.enc x] [] 0 r []) h fun ⟨e1,e2⟩=>by subst e1; exact callLexeme hX hL ha (hk x e2)
  · exact on_cond (α:=Nat) (β:=Nat) (Q:=fun r=>CallAt Tryz.prog 20 [aLs.enc L,aS.enc s] [] 0 r []) h fun e=>call29 hX hL e
theorem v18 (hL:XL X) {a0:List Lett} {L0:List Lexm} {a:List Lett} {b:Bool} (h:a.length ≤ big) (e:alphaF a=b) (σ:List Ob):callv X (callerOf (W7 a0 L0)) false 18 [lettsV a] σ 0=some (bo b,σ):=by
  obtain ⟨a1,a2,a3⟩:=hL.ok 18 rfl
  rw [← e]
  exact call_on (B:=aB) (T:=W7 a0 L0) (y:=alphaF a) (vs:=[aTs.enc a]) a1 a2 a3 (by simp only [AV.ltAll,aTs.lt,Bool.and_self]) (s1_at (A:=aTs) (B:=aB) (g:=alphaF) (ok:=fun a=>a.length ≤ big) h)
theorem seen_idx {L:List Lexm} {i:Nat} (hi:i < L.length):decide (idxP (fun x=>decide (x.id=(nL L i).id)) L=(i:Int)) = !seenI L i:=by
  rcases idxP_cases (fun x=>decide (x.id=(nL L i).id)) L with ⟨_,hall⟩ | ⟨k,hk,e,hp,hb⟩
  · exact absurd (decide_eq_true rfl) (hall i hi)
  · have hki : ¬ i < k := fun h => hb i h (decide_eq_true rfl)
    rw [e]
    by_cases h:k=i
    · subst h
      rw [decide_eq_true rfl]
      have : seenI L k = false := by
        rw [Bool.eq_false_iff]
        intro hs
        unfold seenI at hs
        rw [seen_iff (by omega)] at hs
        obtain ⟨j,hj,ej⟩:=hs
        exact hb j hj (decide_eq_true ej)
      rw [this]
      rfl
    · rw [decide_eq_false (by omega)]
      have : seenI L i = true := by
        unfold seenI
        rw [seen_iff (by omega)]
        exact ⟨k,by omega,of_decide_eq_true hp⟩
      rw [this]
      rfl
/-- ref09.Valid. -/
theorem callRef (hX:ExtOk Tryz.prog X) (hL:XL X) {a:List Lett} {L:List Lexm} (ha:a.length ≤ big) (hl:L.length ≤ big) (hk:∀ x ∈ L,okW x):CallAt Tryz.prog 7 [aTs.enc a,aLs.enc L] [] 0 (aB.enc (validLex a L)) []:=by
  have hC:=callerOf_ok (W7_ok hX hL ha hk)
  have hb:Tryz.f7.body=some (codeOf Tryz.f7):=by kernel_rfl
  cases hal:alphaF a with
  | false =>
    have:validLex a L=false:=by unfold validLex; rw [hal]; rfl
    rw [this]
    exact run_res (B:=aB) hX hC (hL.dom 7 rfl rfl) Tryz.func7 hb (f9007_pf a L X _ 0 (v18 hL ha hal [])) rfl
  | true =>
    have c18:=v18 (X:=X) hL (a0:=a) (L0:=L) ha hal []
    by_cases h256:(L.length:Int) > 256
    · have : validLex a L = false := by unfold validLex; rw [hal, decide_eq_false (by omega)]; rfl
      rw [this]
      exact run_res (B:=aB) hX hC (hL.dom 7 rfl rfl) Tryz.func7 hb (f9007_ptt a L X _ 0 c18 (decide_eq_true h256)) rfl
    have hbase:validLex a L=(List.range L.length).all (okI a L):=by unfold validLex; rw [hal,decide_eq_true (show L.length ≤ 256 by omega)]; rfl
    have lt:∀ {i:Nat},decide ((i:Int) < (L.length:Int))=true→i < L.length:=fun h=>by have:=of_decide_eq_true h; omega
    have c19 : ∀ {i : Nat}, i < L.length → callv X (callerOf (W7 a L)) false 19 [lettsV a, .agg (lexC (nL L i))] [] 0 = some (bo (lexO a (nL L i)), []) := fun {i} h =>
      on_two (A:=aTs) (B:=aL) (D:=aB) (T:=W7 a L) (z:=lexO a (nL L i)) hL rfl rfl (if_pos ⟨rfl,by rw [nL,getD_lt h]; exact List.getElem_mem h⟩) _ _
    have c20 : ∀ s : ByteArray, callv X (callerOf (W7 a L)) false 20 [lexsV L, st s] [] 0 = some (i6 (idxP (fun x => decide (x.id = s)) L), []) := fun s =>
      on_two (A:=aLs) (B:=aS) (D:=aI) (T:=W7 a L) (z:=idxP (fun x=>decide (x.id=s)) L) hL rfl rfl (if_pos hl) _ _
    have M := fun n hn hz => f9007_M a L X (callerOf (W7 a L)) (L.length + 1) n (fun i => (nL L i).id) (fun i => (nL L i).cat) (fun i => (nL L i).stem) (fun i => (nL L i).par) (fun i => (nL L i).feats.length) (fun i => (nL L i).feats.flatMap featC) (fun i => tL L i)
      (fun i=>(nL L i).id) (fun i=>(nL L i).cat) (fun i=>(nL L i).stem) (fun i=>(nL L i).par) (fun i=>(nL L i).feats.length) (fun i=>(nL L i).feats.flatMap featC) (fun i=>tL L i) (fun i=>idxP (fun x=>decide (x.id=(nL L i).id)) L) (fun i=>lexO a (nL L i)) hn
      (fun i _ h=>at_lex (lt h)) (fun i _ h=>c19 (lt h)) (fun i _ h _=>at_lex (lt h)) (fun i _ _ _=>c20 _) (fun i _ h=>up (lt h) hl) hz
    have ho : ∀ j, j < L.length → f9007_o0 L j (idxP (fun x => decide (x.id = (nL L j).id)) L) (lexO a (nL L j)) = if okI a L j then 0 else 1 := fun j hj => by
      unfold f9007_o0 okI
      rw [decide_eq_true (by omega),← seen_idx hj]
      by_cases e:idxP (fun x=>decide (x.id=(nL L j).id)) L=(j:Int)
      · rw [decide_eq_true e, show (idxP (fun x => decide (x.id = (nL L j).id)) L != (j : Int)) = false from by rw [e]; simp]
        cases lexO a (nL L j) <;> rfl
      · rw [decide_eq_false e, show (idxP (fun x => decide (x.id = (nL L j).id)) L != (j : Int)) = true from by simpa using e]
        cases lexO a (nL L j) <;> rfl
    rcases first_fail (p:=fun j=>okI a L j=true) L.length with hall | ⟨k,hk',hbad,hbef⟩
    · have hv : validLex a L = true := by rw [hbase, List.all_eq_true]; exact fun j hj => hall j (List.mem_range.1 hj)
      rw [hv]
      have m:=M L.length (Nat.lt_succ_self _) fun j hj=>by rw [ho j hj,if_pos (hall j hj)]
      exact run_res (B:=aB) hX hC (hL.dom 7 rfl rfl) Tryz.func7 hb (m.2.2 (by unfold f9007_o0; rw [decide_eq_false (by omega)]) c18 (decide_eq_false h256)) rfl
    · have hv : validLex a L = false := by
        rw [hbase,Bool.eq_false_iff]
        intro hc
        exact hbad (List.all_eq_true.1 hc k (List.mem_range.2 hk'))
      rw [hv]
      have m:=M k (by omega) fun j hj=>by rw [ho j (by omega),if_pos (hbef j hj)]
      exact run_res (B:=aB) hX hC (hL.dom 7 rfl rfl) Tryz.func7 hb (m.1 (by rw [ho k hk',if_neg hbad]) c18 (decide_eq_false h256)) rfl
/-- What the law asks. -/
def W3 (a0:List Lett) (L0:List Lexm):Go.Vm.Spec:=(TB.on 6 (sp2 aTs aLs fun a L=>if a=a0∧L=L0 then some (aB.enc (validLex a L)) else none)).on 7 (sp2 aTs aLs fun a L=>if a=a0∧L=L0 then some (aB.enc (validLex a L)) else none)
theorem law3v (hX:ExtOk Tryz.prog X) (hM:XV X) (h14:CallAt Tryz.prog 4 [] [] 0 (bo true) []) {a:List Lett} {L:List Lexm} (ha:a.length ≤ big) (hl:L.length ≤ big) (hok:∀ x ∈ L,okV x):CallAt Tryz.prog 3 [aTs.enc a,aLs.enc L] [] 0 (aB.enc true) []:=by
  have hL:=hM.toXM.toXL
  have hb:Tryz.f3.body=some (codeOf Tryz.f3):=by kernel_rfl
  have t15:TB 5 [lexsV L]=some (bo (fewL L)):=s1_at (A:=aLs) (B:=aB) (g:=fewL) (ok:=fun L=>L.length ≤ big) hl
  have c15 : ∀ {T : Go.Vm.Spec} {b : Bool} (_ : T 5 [lexsV L] = some (bo b)) (σ : List Ob), callv X (callerOf T) false 5 [lexsV L] σ 0 = some (bo b, σ) := fun {T b} h σ => by
    obtain ⟨a1,a2,a3⟩:=hL.ok 5 rfl
    refine call_on (B:=aB) (T:=T) (y:=b) (vs:=[aLs.enc L]) a1 a2 a3 (by simp only [AV.ltAll,aLs.lt,Bool.and_self]) h
  have o14 : ∀ {T : Go.Vm.Spec} (_ : T 4 [] = some (bo true)) (σ : List Ob), callv X (callerOf T) false 4 [] σ 0 = some (bo true, σ) := fun {T} h σ => by
    obtain ⟨a1,a2,a3⟩:=hL.ok 4 rfl
    exact call_on (B:=aB) (y:=true) a1 a2 a3 rfl h
  cases hf:fewL L with
  | false =>
    rw [hf] at t15
    exact run_res (B:=aB) hX (callerOf_ok (TB_ok hX hL h14)) (hL.dom 3 rfl rfl) Tryz.func3 hb (f9003_ptt a L true X (callerOf TB) 0 (f9003_g1_tf a L X (callerOf TB) 0 (o14 rfl _) (c15 t15 _)) rfl (o14 rfl _)) rfl
  | true =>
    rw [hf] at t15
    by_cases h70:(a.length:Int) > 70
    · exact run_res (B:=aB) hX (callerOf_ok (TB_ok hX hL h14)) (hL.dom 3 rfl rfl) Tryz.func3 hb (f9003_ptt a L true X (callerOf TB) 0 (f9003_g1_ttt a L X (callerOf TB) 0 (o14 rfl _) (c15 t15 _) (decide_eq_true h70)) rfl (o14 rfl _)) rfl
    have hk : ∀ x ∈ L, okW x := fun x hx => by
      refine ⟨hok x hx,?_⟩
      unfold fewL at hf
      rw [Bool.and_eq_true] at hf
      have hs:=List.all_eq_true.1 hf.1 x hx
      unfold shortL at hs
      simp only [Bool.and_eq_true,Bool.not_eq_true',decide_eq_false_iff_not] at hs
      have:=hs.1.1.2
      omega
    have hC := callerOf_ok (T := W3 a L) (P := Tryz.prog) (by
      refine SpecOk.on2 (SpecOk.on2 (TB_ok hX hL h14) fun b K r h => ?_) fun b K r h => ?_
      · exact on_cond (α:=Nat) (β:=Nat) (Q:=fun r=>CallAt Tryz.prog 6 [aTs.enc b,aLs.enc K] [] 0 r []) h fun ⟨e1,e2⟩=>by subst e1 e2; exact call38 hX hM ha hl hok
      · exact on_cond (α:=Nat) (β:=Nat) (Q:=fun r=>CallAt Tryz.prog 7 [aTs.enc b,aLs.enc K] [] 0 r []) h fun ⟨e1,e2⟩=>by subst e1 e2; exact callRef hX hL ha hl hk)
    have r1:=f9003_g1_ttf a L X (callerOf (W3 a L)) 0 (o14 rfl _) (c15 (T:=W3 a L) t15 _) (decide_eq_false h70)
    have c6 : ∀ {b : Bool}, validLex a L = b → ∀ σ, callv X (callerOf (W3 a L)) false 6 [lettsV a, lexsV L] σ 0 = some (bo b, σ) := fun {b} e σ =>
      on_two (A:=aTs) (B:=aLs) (D:=aB) (T:=W3 a L) (z:=b) hL rfl rfl (by rw [if_pos ⟨rfl,rfl⟩,e]) false σ
    have c7 : ∀ {b : Bool}, validLex a L = b → ∀ σ, callv X (callerOf (W3 a L)) false 7 [lettsV a, lexsV L] σ 0 = some (bo b, σ) := fun {b} e σ =>
      on_two (A:=aTs) (B:=aLs) (D:=aB) (T:=W3 a L) (z:=b) hL rfl rfl (by rw [if_pos ⟨rfl,rfl⟩,e]) false σ
    cases hv:validLex a L with
    | true=>exact run_res (B:=aB) hX hC (hL.dom 3 rfl rfl) Tryz.func3 hb (f9003_pftt a L false X (callerOf (W3 a L)) 0 r1 rfl (c6 hv _) (c7 hv _)) rfl
    | false=>exact run_res (B:=aB) hX hC (hL.dom 3 rfl rfl) Tryz.func3 hb (f9003_pfff a L false X (callerOf (W3 a L)) 0 r1 rfl (c6 hv _) (c7 hv _)) rfl
end
end Go.Proofs.Lex
end
