/- Part 7 of the texts of this claim: the evaluator, and what it says of the program's functions. -/
import Derived.Test.YtogacbdboplbfaaDoorHomonymsE
import Derived.Test.YtogacbdboplbfaaDoorHomonymsF
import Derived.Test.YtogacbdboplbfaaDoorHomonymsD
set_option linter.unusedSectionVars false
set_option linter.unusedVariables false
set_option linter.unusedSimpArgs false
set_option linter.constructorNameAsVariable false
/- Lexicon: Concat, Grow, and filter by a closure that captures nothing (printed) -/
section
open Go Go.Vm Go.Proofs
namespace Go.Proofs.Lex
end Go.Proofs.Lex
end
/- Lexicon: slices.Concat of two lists of lexemes. -/
section
open Go Go.Vm Go.Proofs
namespace Go.Proofs.Lex
section
variable [Fixed] {X:Ext}
end
end Go.Proofs.Lex
end
/- Lexicon: Merge, walked (printed) -/
section
open Go Go.Vm Go.Proofs
namespace Go.Proofs.Lex
end Go.Proofs.Lex
end
/- Lexicon: Merge, the program's and the reference's. -/
section
open Go Go.Vm Go.Proofs
namespace Go.Proofs.Lex
section
variable [Fixed] {X:Ext} {call:Caller} {lf:Nat}
end
end Go.Proofs.Lex
end
/- Lexicon: groups of identifiers by stem, as they lie in a map of rows. -/
section
open Go Go.Vm Go.Proofs
namespace Go.Proofs.Lex
/-- The stems of the first lexemes, in the order of their first. -/
def stemsN (L:List Lexm):Nat→List ByteArray
  | 0=>[]
  | i + 1=>putS (stemsN L i) (nL L i).stem
/-- The identifiers of the lexemes with a stem. -/
def idsOf (L:List Lexm) (s:ByteArray):List ByteArray:=(L.filter fun x=>decide (x.stem=s)).map (·.id)
abbrev Grp:Type:=ByteArray × List ByteArray
def grpN (L:List Lexm) (i:Nat):List Grp:=(stemsN L i).map fun s=>(s,idsOf (L.take i) s)
theorem putS_iff {l:List ByteArray} {c:ByteArray}:(l.any fun x=>decide (x=c))=true ↔ c ∈ l:=by
  rw [List.any_eq_true]
  constructor
  · rintro ⟨x, hx, h⟩
    rw [← of_decide_eq_true h]; exact hx
  · intro h
    exact ⟨c,h,decide_eq_true rfl⟩
theorem putS_in {l:List ByteArray} {c:ByteArray} (h:c ∈ l):putS l c=l:=by
  unfold putS
  rw [if_pos (putS_iff.2 h)]
theorem putS_out {l:List ByteArray} {c:ByteArray} (h:c ∉ l):putS l c=l ++ [c]:=by
  unfold putS
  rw [if_neg (fun k=>h (putS_iff.1 k))]
theorem mem_putS {l:List ByteArray} {c x:ByteArray}:x ∈ putS l c ↔ x ∈ l ∨ x=c:=by
  by_cases h:c ∈ l
  · rw [putS_in h]
    exact ⟨.inl,fun k=>k.elim id fun e=>e ▸ h⟩
  · rw [putS_out h]
    simp
theorem nodup_putS {l:List ByteArray} {c:ByteArray} (h:l.Nodup):(putS l c).Nodup:=by
  by_cases hc:c ∈ l
  · rw [putS_in hc]; exact h
  · rw [putS_out hc]
    refine List.nodup_append.2 ⟨h,by simp,fun a ha b hb e=>hc ?_⟩
    rw [List.mem_singleton] at hb
    rw [← hb,← e]
    exact ha
theorem stemsN_nodup (L:List Lexm):∀ i,(stemsN L i).Nodup
  | 0=>List.nodup_nil
  | i + 1=>nodup_putS (stemsN_nodup L i)
theorem stemsN_mem (L:List Lexm) {s:ByteArray}:∀ i,s ∈ stemsN L i ↔ ∃ j,j < i∧(nL L j).stem=s
  | 0=>by simp [stemsN]
  | i + 1 => by
    unfold stemsN
    rw [mem_putS,stemsN_mem L i]
    constructor
    · rintro (⟨j, hj, h⟩ | h)
      · exact ⟨j,by omega,h⟩
      · exact ⟨i,by omega,h.symm⟩
    · rintro ⟨j, hj, h⟩
      by_cases hji:j=i
      · subst hji; exact .inr h.symm
      · exact .inl ⟨j,by omega,h⟩
theorem stemsN_len (L:List Lexm):∀ i,(stemsN L i).length ≤ i
  | 0=>Nat.le_refl _
  | i + 1 => by
    have ih:=stemsN_len L i
    unfold stemsN putS
    split
    · omega
    · rw [List.length_append,List.length_singleton]; omega
theorem idsOf_succ [Fixed] {L:List Lexm} {i:Nat} (h:i < L.length) (s:ByteArray):idsOf (L.take (i + 1)) s=idsOf (L.take i) s ++ if (nL L i).stem=s then [(nL L i).id] else []:=by
  unfold idsOf
  rw [take_filter h,List.map_append,nL,getD_lt h]
  by_cases hs:L[i].stem=s
  · rw [if_pos (decide_eq_true hs),if_pos hs]; rfl
  · rw [if_neg (by simpa using hs),if_neg hs]; rfl
theorem idsOf_out {L:List Lexm} {i:Nat} (h:i ≤ L.length) {s:ByteArray} (hs:s ∉ stemsN L i):idsOf (L.take i) s=[]:=by
  unfold idsOf
  rw [List.map_eq_nil_iff,List.filter_eq_nil_iff]
  intro x hx hd
  refine hs ((stemsN_mem L i).2 ?_)
  obtain ⟨j,hj,e⟩:=List.mem_iff_getElem.1 hx
  have hj' : j < i:=by rw [List.length_take] at hj; omega
  refine ⟨j,hj',?_⟩
  rw [nL,getD_lt (by omega)]
  rw [List.getElem_take] at e
  rw [e]
  exact of_decide_eq_true hd
/-- A lexeme with a new stem. -/
theorem grpN_new [Fixed] {L:List Lexm} {i:Nat} (h:i < L.length) (hs:(nL L i).stem ∉ stemsN L i):grpN L (i + 1)=grpN L i ++ [((nL L i).stem,[(nL L i).id])]:=by
  unfold grpN
  rw [stemsN,putS_out hs,List.map_append]
  congr 1
  · refine List.map_congr_left fun t ht => ?_
    rw [idsOf_succ h,if_neg (fun he=>hs (by rw [he]; exact ht)),List.append_nil]
  · rw [List.map_singleton, idsOf_succ h, if_pos rfl, idsOf_out (Nat.le_of_lt h) hs]
    rfl
/-- .. with one that has been seen. -/
theorem grpN_old [Fixed] {L:List Lexm} {i:Nat} (h:i < L.length) (hs:(nL L i).stem ∈ stemsN L i):∃ pre g post,grpN L i=pre ++ ((nL L i).stem,g)::post∧(∀ p ∈ pre,p.1 ≠ (nL L i).stem)∧grpN L (i + 1)=pre ++ ((nL L i).stem,g ++ [(nL L i).id])::post∧g.length ≤ i:=by
  obtain ⟨a,b,e⟩:=List.append_of_mem hs
  have hn:=stemsN_nodup L i
  rw [e,List.nodup_append] at hn
  have ha:∀ t ∈ a,t ≠ (nL L i).stem:=fun t ht=>hn.2.2 t ht _ List.mem_cons_self
  have hb:∀ t ∈ b,t ≠ (nL L i).stem:=fun t ht he=>(List.nodup_cons.1 hn.2.1).1 (by rw [← he]; exact ht)
  refine ⟨a.map fun s=>(s,idsOf (L.take i) s),idsOf (L.take i) (nL L i).stem,b.map fun s=>(s,idsOf (L.take i) s),?_,?_,?_,?_⟩
  · unfold grpN
    rw [e,List.map_append]
    rfl
  · intro p hp
    obtain ⟨t,ht,rfl⟩:=List.mem_map.1 hp
    exact ha t ht
  · unfold grpN
    rw [stemsN,putS_in hs,e,List.map_append,List.map_cons,idsOf_succ h,if_pos rfl]
    congr 1
    · exact List.map_congr_left fun t ht=>by rw [idsOf_succ h,if_neg (fun e=>ha t ht e.symm),List.append_nil]
    · congr 1
      exact List.map_congr_left fun t ht=>by rw [idsOf_succ h,if_neg (fun e=>hb t ht e.symm),List.append_nil]
  · unfold idsOf
    rw [List.length_map]
    exact Nat.le_trans (List.length_filter_le _ _) (by rw [List.length_take]; omega)
/-! ### in the store -/
def esG:Nat→List Grp→List (AV × AV)
  | _,[]=>[]
  | b,p::gs=>(st p.1,.own b p.2.length)::esG (b + 1) gs
def rowO (l:List ByteArray):Ob := .arr l.length 1 (l.map st)
def froO (l:List ByteArray):Ob := .fro l.length 1 (l.map st)
def stG (gs:List Grp):List Ob := .mapo (esG 1 gs)::gs.map fun p=>rowO p.2
theorem esG_append:∀ (b:Nat) (l m:List Grp),esG b (l ++ m)=esG b l ++ esG (b + l.length) m
  | b,[],m=>rfl
  | b, p :: l, m => by
    show _::esG (b + 1) (l ++ m)=_::(esG (b + 1) l ++ esG (b + (l.length + 1)) m)
    rw [esG_append (b + 1) l m]
    congr 3
    omega
theorem look_pre {s:ByteArray} {E:List (AV × AV)}:∀ (b:Nat) (l:List Grp),(∀ p ∈ l,p.1 ≠ s)→lookupEs (st s) (esG b l ++ E)=lookupEs (st s) E
  | _,[],_=>rfl
  | b, p :: l, h => by
    have ih:=look_pre (s:=s) (E:=E) (b + 1) l fun q hq=>h q (List.mem_cons_of_mem _ hq)
    have hp : ¬ s=p.1:=fun e=>h p List.mem_cons_self e.symm
    show lookupEs (st s) ((st p.1,AV.own b p.2.length)::(esG (b + 1) l ++ E))=_
    rw [lookupEs]
    simp only [if_neg hp]
    exact ih
theorem look_one {s t:ByteArray} {v:AV} (h : ¬ s=t):lookupEs (st s) [(st t,v)]=some none:=by
  unfold lookupEs
  simp only [if_neg h]
  rfl
theorem look_hit {s:ByteArray} {v:AV} {E:List (AV × AV)}:lookupEs (st s) ((st s,v)::E)=some (some v):=by
  unfold lookupEs
  simp only [if_true]
theorem put_pre {s:ByteArray} {v:AV} {E E' : List (AV × AV)} (hE:putEs (st s) v E=some E'):∀ (b:Nat) (l:List Grp),(∀ p ∈ l,p.1 ≠ s)→putEs (st s) v (esG b l ++ E)=some (esG b l ++ E')
  | _,[],_=>hE
  | b, p :: l, h => by
    have ih:=put_pre hE (b + 1) l fun q hq=>h q (List.mem_cons_of_mem _ hq)
    have hp : ¬ s=p.1:=fun e=>h p List.mem_cons_self e.symm
    show putEs (st s) v ((st p.1,AV.own b p.2.length)::(esG (b + 1) l ++ E))=some ((st p.1,AV.own b p.2.length)::(esG (b + 1) l ++ E'))
    unfold putEs
    simp only [look_one hp,ih]
theorem put_hit {s:ByteArray} {v w:AV} {E:List (AV × AV)}:putEs (st s) v ((st s,w)::E)=some ((st s,v)::E):=by
  unfold putEs
  simp only [look_hit]
theorem del_pre {s:ByteArray} {E E' : List (AV × AV)} (hE:delEs (st s) E=some E'):∀ (b:Nat) (l:List Grp),(∀ p ∈ l,p.1 ≠ s)→delEs (st s) (esG b l ++ E)=some (esG b l ++ E')
  | _,[],_=>hE
  | b, p :: l, h => by
    have ih:=del_pre hE (b + 1) l fun q hq=>h q (List.mem_cons_of_mem _ hq)
    have hp : ¬ s=p.1:=fun e=>h p List.mem_cons_self e.symm
    show delEs (st s) ((st p.1,AV.own b p.2.length)::(esG (b + 1) l ++ E))=some ((st p.1,AV.own b p.2.length)::(esG (b + 1) l ++ E'))
    unfold delEs
    simp only [look_one hp,ih]
theorem del_hit {s:ByteArray} {w:AV} {E:List (AV × AV)}:delEs (st s) ((st s,w)::E)=some E:=by
  unfold delEs
  simp only [look_hit]
theorem under61:Tryd.prog.underlying 61=some (.map 9 25):=by kernel_rfl
theorem zero25:zerov Tryd.prog 25=some (.list .nil 0 0 []):=by kernel_rfl
theorem look61 {E:List (AV × AV)} {σ:List Ob} {s:ByteArray} {r:Option AV} (h:lookupEs (st s) E=some r):keep (.mapo E::σ) (lookupv Tryd.prog 61 (.mapo E::σ) (.map 0) (st s) false)=some (r.getD (.list .nil 0 0 []),.mapo E::σ):=by
  unfold lookupv entriesOf
  rw [under61]
  simp only [Tryd.underlying9,List.getElem?_cons_zero,h,zero25]
  rw [if_pos (show isKey TypeDesc.string (st s)=true from rfl)]
  cases r <;> rfl
theorem put61 {E E' : List (AV × AV)} {σ:List Ob} {s:ByteArray} {v:AV} (h:putEs (st s) v E=some E'):unit1 (mapUpdatev Tryd.prog 61 (.mapo E::σ) 0 (.map 0) (st s) v)=some (.undef,.mapo E' :: σ):=by
  unfold mapUpdatev
  rw [under61]
  simp only [Tryd.underlying9,List.getElem?_cons_zero,h]
  rw [if_pos ⟨show isKey TypeDesc.string (st s)=true from rfl,Nat.le_refl _⟩]
  rfl
theorem del61 {E E' : List (AV × AV)} {σ:List Ob} {s:ByteArray} (h:delEs (st s) E=some E'):Option.map (fun σ=>(AV.tup [],σ)) (deletev Tryd.prog 61 (.mapo E::σ) 0 (.map 0) (st s))=some (.tup [],.mapo E' :: σ):=by
  unfold deletev
  rw [under61]
  simp only [Tryd.underlying9,List.getElem?_cons_zero,h]
  rw [if_pos ⟨show isKey TypeDesc.string (st s)=true from rfl,Nat.le_refl _⟩]
  rfl
section
variable [Fixed]
/-- One lexeme more. -/
theorem roundG {L:List Lexm} {i:Nat} (h:i < L.length) (hb:L.length * 17 ≤ 140737488355328):∃ v w σ,keep (stG (grpN L i)) (lookupv Tryd.prog 61 (stG (grpN L i)) (.map 0) (st (nL L i).stem) false)=some (v,stG (grpN L i)) ∧
    appendv Tryd.prog 25 (stG (grpN L i)) 0 v (.list .clip 1 1 [st (nL L i).id])=some (w,σ)∧unit1 (mapUpdatev Tryd.prog 61 σ 0 (.map 0) (st (nL L i).stem) w)=some (.undef,stG (grpN L (i + 1))):=by
  by_cases hs:(nL L i).stem ∈ stemsN L i
  · obtain ⟨pre, g, post, e, hp, e', hg⟩ := grpN_old h hs
    have hE:esG 1 (grpN L i)=esG 1 pre ++ (st (nL L i).stem,.own (1 + pre.length) g.length)::esG (1 + pre.length + 1) post:=by rw [e,esG_append]; rfl
    have hE' : esG 1 (grpN L (i + 1)) = esG 1 pre ++ (st (nL L i).stem, .own (1 + pre.length) (g.length + 1)) :: esG (1 + pre.length + 1) post := by
      rw [e',esG_append]
      show _ ++ (_,AV.own _ (g ++ [(nL L i).id]).length)::_=_
      rw [List.length_append]
      rfl
    refine ⟨_,.own (1 + pre.length) (g.length + 1),.mapo (esG 1 (grpN L i))::(grpN L (i + 1)).map fun p=>rowO p.2,look61 (r:=some (.own (1 + pre.length) g.length)) ?_,?_,put61 ?_⟩
    · rw [hE,look_pre _ _ hp,look_hit]
    · have ho : (stG (grpN L i))[1 + pre.length]? = some (.arr g.length (Tryd.prog.cellsOf 9) (g.map st)) := by
        unfold stG
        rw [cells9,e,List.map_append,Nat.add_comm 1,List.getElem?_cons_succ,List.getElem?_append_right (by rw [List.length_map]; exact Nat.le_refl _),List.length_map,Nat.sub_self]
        rfl
      have hx:appended (stG (grpN L i)) (Tryd.prog.cellsOf 9) (.list .clip 1 1 [st (nL L i).id])=some (1,[st (nL L i).id]):=by rw [cells9]; rfl
      show appendv Tryd.prog 25 (stG (grpN L i)) 0 (.own (1 + pre.length) g.length) _=_
      rw [grow_own Tryd.underlying25 zero9 (by rw [cells9]; rfl) ho (Nat.zero_le _) hx rfl (by decide) (by rw [bytes9]; omega)]
      refine congrArg (fun x=>some (AV.own (1 + pre.length) (g.length + 1),x)) ?_
      unfold stG
      rw [cells9,Nat.add_comm 1]
      show _::setOb ((grpN L i).map _) pre.length _=_
      refine congrArg (fun x=>Ob.mapo (esG 1 (grpN L i))::x) ?_
      rw [e,e',List.map_append,List.map_append,List.map_cons,List.map_cons]
      have : ∀ (l : List Ob) (x y : Ob) (m : List Ob), setOb (l ++ x :: m) l.length y = l ++ y :: m := by
        intro l x y m
        induction l with
        | nil=>rfl
        | cons a l ih=>show a::setOb (l ++ x::m) l.length y=_; rw [ih]; rfl
      have h2:=this (pre.map fun p=>rowO p.2) (rowO g) (.arr (g.length + 1) 1 (g.map st ++ [st (nL L i).id])) (post.map fun p=>rowO p.2)
      rw [List.length_map] at h2
      refine h2.trans ?_
      refine congrArg (fun x=>(pre.map fun p=>rowO p.2) ++ x::post.map fun p=>rowO p.2) ?_
      unfold rowO
      rw [List.length_append,List.map_append]
      rfl
    · rw [hE, hE']
      exact put_pre put_hit _ _ hp
  · have hp : ∀ p ∈ grpN L i, p.1 ≠ (nL L i).stem := by
      intro p hp e
      obtain ⟨t,ht,rfl⟩:=List.mem_map.1 hp
      exact hs (e ▸ ht)
    have e' := grpN_new h hs
    have hlen:(stG (grpN L i)).length=1 + (grpN L i).length:=by show ((grpN L i).map _).length + 1=_; rw [List.length_map]; omega
    have hg:=gr_step (σ0:=stG (grpN L i)) (A:=Cod.str) (l:=[]) (m:=[(nL L i).id]) (lk := .nil) (sz0:=0) rowS (.inl rfl) (appended_row (lk := .clip) [(nL L i).id]) (by show (0 + 1) * 17 ≤ 140737488355328; decide)
    refine ⟨_,.own (1 + (grpN L i).length) 1,.mapo (esG 1 (grpN L i))::(grpN L (i + 1)).map fun p=>rowO p.2,look61 (r:=none) ?_,?_,put61 ?_⟩
    · have := look_pre (s := (nL L i).stem) (E := []) 1 (grpN L i) hp
      rw [List.append_nil] at this
      rw [this]
      rfl
    · rw [← hlen]
      refine hg.trans ?_
      refine congrArg (fun x=>some (AV.own (stG (grpN L i)).length 1,x)) ?_
      rw [e',List.map_append]
      rfl
    · rw [e', esG_append]
      have:=put_pre (s:=(nL L i).stem) (v := .own (1 + (grpN L i).length) 1) (E:=[]) (E' := [(st (nL L i).stem,.own (1 + (grpN L i).length) 1)]) rfl 1 (grpN L i) hp
      rw [List.append_nil] at this
      rw [this]
      rfl
end
end Go.Proofs.Lex
end
/- Lexicon: Homonyms, walked (printed) -/
section
open Go Go.Vm Go.Proofs
namespace Go.Proofs.Lex
def f18_F0 (L0:List Lexm)(S0:Nat→List Ob)(i0:Nat):St :=
  stOf 52 [5,14,15,16,17,18,19,20,21,22,23,24,25,26,27,28] [(0,lro L0.length 5 (List.flatMap lexC L0)),(2,AV.list LK.nil 0 0 []),(3,AV.map 0),(10,AV.map 0),(11,lro L0.length 5 (List.flatMap lexC L0)),(12,i6 (↑L0.length:Int)),(13,i6 (↑i0:Int))] (S0 i0)
def f18_S0 (L0:List Lexm):St :=
  stOf 52 [] [(0,lro L0.length 5 (List.flatMap lexC L0)),(2,AV.list LK.nil 0 0 []),(3,AV.map 0),(10,AV.map 0),(11,lro L0.length 5 (List.flatMap lexC L0)),(12,i6 (↑L0.length:Int)),(13,i6 0)] [Ob.mapo []]
abbrev f18_D0:List Nat:=[28,27,26,25,24,23,22,21,20,19,18,17,5,16,15,14]
theorem f18_L0 (L0:List Lexm)(S0:Nat→List Ob)(X:Ext)(call:Caller)(lf n:Nat)(x:Ex) (S' : St)
 (e0:S0 0=[Ob.mapo []])
 (hn:n<lf)
 (hs:∀ j,j<n→∃ Sx,vexec Tryd.prog X call lf 0 fg18 (loopN Tryd.f18 0) (f18_F0 L0 S0 j)=some (Ex.normal,Sx)∧forget f18_D0 Sx=(f18_F0 L0 S0 (j + 1)))
 (he:vexec Tryd.prog X call lf 0 fg18 (loopN Tryd.f18 0) (f18_F0 L0 S0 n)=some (x,S'))
 (hx:x ≠ Ex.normal):vexec Tryd.prog X call lf 0 fg18 (Go.Code.loop (loopN Tryd.f18 0)) (f18_S0 L0)=some (x,S') :=
  loop_runK (by kernel_rfl) (fun j=>(f18_F0 L0 S0 j)) n hn (by show forget f18_D0 (f18_S0 L0)=(f18_F0 L0 S0 0); unfold f18_F0; rw [e0]; show _=_; kernel_rfl) hs he hx
def f18_S1 (L0:List Lexm)(v23:AV)(i0:Nat)(a b c d:ByteArray)(e:Nat)(g r15:List AV)(v27:AV)(sq18:List Ob):St :=
  stOf 52 [] [(0,lro L0.length 5 (List.flatMap lexC L0)),(2,AV.list LK.nil 0 0 []),(3,AV.map 0),(5,AV.eaddr [st a,st b,st c,st d,lro e 2 g]),(10,AV.map 0),(11,lro L0.length 5 (List.flatMap lexC L0)),(12,i6 (↑L0.length:Int)),(13,i6 (w6 ((↑i0:Int) + 1))),(14,bo true),(15,AV.eaddr (st a::st b::st c::st d::lro e 2 g::r15)),(16,AV.agg [st a,st b,st c,st d,lro e 2 g]),(17,AV.map 0),(18,AV.eaddr [st c,st d,lro e 2 g]),(19,st c),(20,AV.map 0),(21,AV.eaddr [st c,st d,lro e 2 g]),(22,st c),(23,v23),(24,AV.eaddr [st a,st b,st c,st d,lro e 2 g]),(25,st a),(26,AV.list LK.clip 1 1 [st a]),(27,v27),(28,i6 (w6 ((↑i0:Int) + 1)))] sq18
theorem f18_s0_t (L0:List Lexm)(v23:AV)(X:Ext)(call:Caller)(lf:Nat)(S0:Nat→List Ob)(i0:Nat)(a d e g:ByteArray)(h:Nat)(j r15:List AV)(v27:AV)(s27 sq18:List Ob)
 (h0:decide ((↑i0:Int)<(↑L0.length:Int))=true)
 (h1:keep (S0 i0) (indexAddrv Tryd.prog 22 (S0 i0) (lro L0.length 5 (List.flatMap lexC L0)) (i6 (↑i0:Int)))=some (AV.eaddr (st a::st d::st e::st g::lro h 2 j::r15),S0 i0))
 (h2:keep (S0 i0) (lookupv Tryd.prog 61 (S0 i0) (AV.map 0) (st e) false)=some (v23,S0 i0))
 (h3:appendv Tryd.prog 25 (S0 i0) 0 v23 (AV.list LK.clip 1 1 [st a])=some (v27,s27))
 (h4:unit1 (mapUpdatev Tryd.prog 61 s27 0 (AV.map 0) (st e) v27)=some (AV.undef,sq18))
 (e0:(↑(i0 + 1):Int)=w6 ((↑i0:Int) + 1))
 (e1:S0 (i0 + 1)=sq18):∃ Sx,vexec Tryd.prog X call lf 0 fg18 (loopN Tryd.f18 0) (f18_F0 L0 S0 i0)=some (Ex.normal,Sx)∧forget f18_D0 Sx=(f18_F0 L0 S0 (i0 + 1)) :=
  ⟨(f18_S1 L0 v23 i0 a d e g h j r15 v27 sq18),around_sound (ans:=[(1,Ans.b true),(4,Ans.v (AV.eaddr (st a::st d::st e::st g::lro h 2 j::r15))),(13,Ans.v v23),(17,Ans.c v27 s27),(18,Ans.c AV.undef sq18)]) (by kernel_rfl) (ai h0 (ai h1 (ai h2 (ai h3 (ai h4 trivial))))),by unfold f18_F0; rw [e0,e1]; show _=_; kernel_rfl⟩
def f18_S2 (L0:List Lexm)(S0:Nat→List Ob)(i0:Nat):St :=
  stOf 52 [5,15,16,17,18,19,20,21,22,23,24,25,26,27,28] [(0,lro L0.length 5 (List.flatMap lexC L0)),(2,AV.list LK.nil 0 0 []),(3,AV.map 0),(10,AV.map 0),(11,lro L0.length 5 (List.flatMap lexC L0)),(12,i6 (↑L0.length:Int)),(13,i6 (↑i0:Int)),(14,bo false)] (S0 i0)
theorem f18_r0_f (L0:List Lexm)(X:Ext)(call:Caller)(lf:Nat)(S0:Nat→List Ob)(i0:Nat)
 (h0:decide ((↑i0:Int)<(↑L0.length:Int))=false):vexec Tryd.prog X call lf 0 fg18 (loopN Tryd.f18 0) (f18_F0 L0 S0 i0)=some (Ex.exit 0,(f18_S2 L0 S0 i0)) :=
  around_sound (ans:=[(1,Ans.b false)]) (by kernel_rfl) (ai h0 trivial)
def f18_F1 (L0:List Lexm)(i0:Nat)(S1:Nat→List Ob)(o6:Nat→AV)(i1:Nat):St :=
  stOf 52 [5,8,9,15,16,17,18,19,20,21,22,23,24,25,26,27,28,32,33,34,35,36,37,38,39,40,41,42,43,44,45,46,47,48,49,50] [(0,lro L0.length 5 (List.flatMap lexC L0)),(2,AV.list LK.nil 0 0 []),(3,AV.map 0),(6,o6 i1),(10,AV.map 0),(11,lro L0.length 5 (List.flatMap lexC L0)),(12,i6 (↑L0.length:Int)),(13,i6 (↑i0:Int)),(14,bo false),(29,lro L0.length 5 (List.flatMap lexC L0)),(30,i6 (↑L0.length:Int)),(31,i6 (↑i1:Int))] (S1 i1)
def f18_S3 (L0:List Lexm)(S0:Nat→List Ob)(i0:Nat):St :=
  stOf 52 [5,15,16,17,18,19,20,21,22,23,24,25,26,27,28] [(0,lro L0.length 5 (List.flatMap lexC L0)),(2,AV.list LK.nil 0 0 []),(3,AV.map 0),(6,AV.list LK.nil 0 0 []),(10,AV.map 0),(11,lro L0.length 5 (List.flatMap lexC L0)),(12,i6 (↑L0.length:Int)),(13,i6 (↑i0:Int)),(14,bo false),(29,lro L0.length 5 (List.flatMap lexC L0)),(30,i6 (↑L0.length:Int)),(31,i6 0)] (S0 i0)
abbrev f18_D1:List Nat:=[50,49,48,47,46,45,44,43,42,41,40,39,9,38,37,36,35,8,34,33,32]
theorem f18_L1 (L0:List Lexm)(S0:Nat→List Ob)(i0:Nat)(S1:Nat→List Ob)(o6:Nat→AV)(X:Ext)(call:Caller)(lf n:Nat)(x:Ex) (S' : St)
 (e0:o6 0=AV.list LK.nil 0 0 [])
 (e1:S1 0=S0 i0)
 (hn:n<lf)
 (hs:∀ j,j<n→∃ Sx,vexec Tryd.prog X call lf 0 fg18 (loopN Tryd.f18 1) (f18_F1 L0 i0 S1 o6 j)=some (Ex.normal,Sx)∧forget f18_D1 Sx=(f18_F1 L0 i0 S1 o6 (j + 1)))
 (he:vexec Tryd.prog X call lf 0 fg18 (loopN Tryd.f18 1) (f18_F1 L0 i0 S1 o6 n)=some (x,S'))
 (hx:x ≠ Ex.normal):vexec Tryd.prog X call lf 0 fg18 (Go.Code.loop (loopN Tryd.f18 1)) (f18_S3 L0 S0 i0)=some (x,S') :=
  loop_runK (by kernel_rfl) (fun j=>(f18_F1 L0 i0 S1 o6 j)) n hn (by show forget f18_D1 (f18_S3 L0 S0 i0)=(f18_F1 L0 i0 S1 o6 0); unfold f18_F1; rw [e0,e1]; show _=_; kernel_rfl) hs he hx
theorem f18_s1_tt (L0:List Lexm)(d38 m38:Nat)(v44:AV)(s44:List Ob)(X:Ext)(call:Caller)(lf i0:Nat)(S1:Nat→List Ob)(o6:Nat→AV)(i1:Nat)(a d e g:ByteArray)(h:Nat)(j r33:List AV)(m45:Nat)(c45:List AV)(k45:LK)(v46:AV)(s46 sq28:List Ob)
 (h0:decide ((↑i1:Int)<(↑L0.length:Int))=true)
 (h1:keep (S1 i1) (indexAddrv Tryd.prog 22 (S1 i1) (lro L0.length 5 (List.flatMap lexC L0)) (i6 (↑i1:Int)))=some (AV.eaddr (st a::st d::st e::st g::lro h 2 j::r33),S1 i1))
 (h2:keep (S1 i1) (lookupv Tryd.prog 61 (S1 i1) (AV.map 0) (st e) false)=some (AV.own d38 m38,S1 i1))
 (h3:decide ((↑m38:Int)>1)=true)
 (h4:callv X call false 42 [AV.own d38 m38] (S1 i1) 0=some (v44,s44))
 (h5:bsl Tryd.prog 28 1 s44 false 0 [(0,v44)]=some (AV.list k45 m45 1 c45,s44))
 (h6:appendv Tryd.prog 28 s44 0 (o6 i1) (AV.list k45 m45 1 c45)=some (v46,s46))
 (h7:Option.map (fun σ=>(AV.tup [],σ)) (deletev Tryd.prog 61 s46 0 (AV.map 0) (st e))=some (AV.tup [],sq28))
 (e0:o6 (i1 + 1)=v46)
 (e1:(↑(i1 + 1):Int)=w6 ((↑i1:Int) + 1))
 (e2:S1 (i1 + 1)=sq28):∃ Sx,vexec Tryd.prog X call lf 0 fg18 (loopN Tryd.f18 1) (f18_F1 L0 i0 S1 o6 i1)=some (Ex.normal,Sx)∧forget f18_D1 Sx=(f18_F1 L0 i0 S1 o6 (i1 + 1)) :=
  ⟨stOf 52 [5,15,16,17,18,19,20,21,22,23,24,25,26,27,28] [(0,lro L0.length 5 (List.flatMap lexC L0)),(2,AV.list LK.nil 0 0 []),(3,AV.map 0),(6,v46),(8,AV.eaddr [st a,st d,st e,st g,lro h 2 j]),(9,AV.own d38 m38),(10,AV.map 0),(11,lro L0.length 5 (List.flatMap lexC L0)),(12,i6 (↑L0.length:Int)),(13,i6 (↑i0:Int)),(14,bo false),(29,lro L0.length 5 (List.flatMap lexC L0)),(30,i6 (↑L0.length:Int)),(31,i6 (w6 ((↑i1:Int) + 1))),(32,bo true),(33,AV.eaddr (st a::st d::st e::st g::lro h 2 j::r33)),(34,AV.agg [st a,st d,st e,st g,lro h 2 j]),(35,AV.map 0),(36,AV.eaddr [st e,st g,lro h 2 j]),(37,st e),(38,AV.own d38 m38),(39,AV.own d38 m38),(40,i6 (↑m38:Int)),(41,bo true),(42,o6 i1),(43,AV.own d38 m38),(44,v44),(45,AV.list k45 m45 1 c45),(46,v46),(47,AV.map 0),(48,AV.eaddr [st e,st g,lro h 2 j]),(49,st e),(50,i6 (w6 ((↑i1:Int) + 1)))] sq28,around_sound (ans:=[(1,Ans.b true),(4,Ans.v (AV.eaddr (st a::st d::st e::st g::lro h 2 j::r33))),(10,Ans.v (AV.own d38 m38)),(15,Ans.b true),(20,Ans.c v44 s44),(21,Ans.v (AV.list k45 m45 1 c45)),(22,Ans.c v46 s46),(28,Ans.c (AV.tup []) sq28)]) (by kernel_rfl) (ai h0 (ai h1 (ai h2 (ai h3 (ai h4 (ai h5 (ai h6 (ai h7 trivial)))))))),by unfold f18_F1; rw [e0,e1,e2]; show _=_; kernel_rfl⟩
theorem f18_s1_tf (L0:List Lexm)(d38 m38:Nat)(X:Ext)(call:Caller)(lf i0:Nat)(S1:Nat→List Ob)(o6:Nat→AV)(i1:Nat)(a d e g:ByteArray)(h:Nat)(j r33:List AV)(sq21:List Ob)
 (h0:decide ((↑i1:Int)<(↑L0.length:Int))=true)
 (h1:keep (S1 i1) (indexAddrv Tryd.prog 22 (S1 i1) (lro L0.length 5 (List.flatMap lexC L0)) (i6 (↑i1:Int)))=some (AV.eaddr (st a::st d::st e::st g::lro h 2 j::r33),S1 i1))
 (h2:keep (S1 i1) (lookupv Tryd.prog 61 (S1 i1) (AV.map 0) (st e) false)=some (AV.own d38 m38,S1 i1))
 (h3:decide ((↑m38:Int)>1)=false)
 (h4:Option.map (fun σ=>(AV.tup [],σ)) (deletev Tryd.prog 61 (S1 i1) 0 (AV.map 0) (st e))=some (AV.tup [],sq21))
 (e0:o6 (i1 + 1)=o6 i1)
 (e1:(↑(i1 + 1):Int)=w6 ((↑i1:Int) + 1))
 (e2:S1 (i1 + 1)=sq21):∃ Sx,vexec Tryd.prog X call lf 0 fg18 (loopN Tryd.f18 1) (f18_F1 L0 i0 S1 o6 i1)=some (Ex.normal,Sx)∧forget f18_D1 Sx=(f18_F1 L0 i0 S1 o6 (i1 + 1)) :=
  ⟨stOf 52 [5,15,16,17,18,19,20,21,22,23,24,25,26,27,28,42,43,44,45,46] [(0,lro L0.length 5 (List.flatMap lexC L0)),(2,AV.list LK.nil 0 0 []),(3,AV.map 0),(6,o6 i1),(8,AV.eaddr [st a,st d,st e,st g,lro h 2 j]),(9,AV.own d38 m38),(10,AV.map 0),(11,lro L0.length 5 (List.flatMap lexC L0)),(12,i6 (↑L0.length:Int)),(13,i6 (↑i0:Int)),(14,bo false),(29,lro L0.length 5 (List.flatMap lexC L0)),(30,i6 (↑L0.length:Int)),(31,i6 (w6 ((↑i1:Int) + 1))),(32,bo true),(33,AV.eaddr (st a::st d::st e::st g::lro h 2 j::r33)),(34,AV.agg [st a,st d,st e,st g,lro h 2 j]),(35,AV.map 0),(36,AV.eaddr [st e,st g,lro h 2 j]),(37,st e),(38,AV.own d38 m38),(39,AV.own d38 m38),(40,i6 (↑m38:Int)),(41,bo false),(47,AV.map 0),(48,AV.eaddr [st e,st g,lro h 2 j]),(49,st e),(50,i6 (w6 ((↑i1:Int) + 1)))] sq21,around_sound (ans:=[(1,Ans.b true),(4,Ans.v (AV.eaddr (st a::st d::st e::st g::lro h 2 j::r33))),(10,Ans.v (AV.own d38 m38)),(15,Ans.b false),(21,Ans.c (AV.tup []) sq21)]) (by kernel_rfl) (ai h0 (ai h1 (ai h2 (ai h3 (ai h4 trivial))))),by unfold f18_F1; rw [e0,e1,e2]; show _=_; kernel_rfl⟩
def f18_S4 (L0:List Lexm)(i0:Nat)(S1:Nat→List Ob)(o6:Nat→AV)(i1:Nat):St :=
  stOf 52 [5,8,9,15,16,17,18,19,20,21,22,23,24,25,26,27,28,33,34,35,36,37,38,39,40,41,42,43,44,45,46,47,48,49,50] [(0,lro L0.length 5 (List.flatMap lexC L0)),(2,AV.list LK.nil 0 0 []),(3,AV.map 0),(6,o6 i1),(10,AV.map 0),(11,lro L0.length 5 (List.flatMap lexC L0)),(12,i6 (↑L0.length:Int)),(13,i6 (↑i0:Int)),(14,bo false),(29,lro L0.length 5 (List.flatMap lexC L0)),(30,i6 (↑L0.length:Int)),(31,i6 (↑i1:Int)),(32,bo false)] (S1 i1)
theorem f18_r1_f (L0:List Lexm)(X:Ext)(call:Caller)(lf i0:Nat)(S1:Nat→List Ob)(o6:Nat→AV)(i1:Nat)
 (h0:decide ((↑i1:Int)<(↑L0.length:Int))=false):vexec Tryd.prog X call lf 0 fg18 (loopN Tryd.f18 1) (f18_F1 L0 i0 S1 o6 i1)=some (Ex.exit 2,(f18_S4 L0 i0 S1 o6 i1)) :=
  around_sound (ans:=[(1,Ans.b false)]) (by kernel_rfl) (ai h0 trivial)
theorem f18_plflf (L0:List Lexm)(X:Ext)(call:Caller)(lf:Nat)(S0:Nat→List Ob)(i0:Nat)(S1:Nat→List Ob)(o6:Nat→AV)(i1:Nat)(rE:AV)(sE:List Ob)
 (h0:vexec Tryd.prog X call lf 0 fg18 (Code.loop (loopN Tryd.f18 0)) (f18_S0 L0)=some (Ex.exit 0,(f18_S2 L0 S0 i0)))
 (h1:vexec Tryd.prog X call lf 0 fg18 (Code.loop (loopN Tryd.f18 1)) (f18_S3 L0 S0 i0)=some (Ex.exit 2,(f18_S4 L0 i0 S1 o6 i1)))
 (h2:vend1 [] 0 (S1 i1) [o6 i1]=some (rE,sE)):vbody Tryd.prog X call lf fg18 Tryd.f18 (codeOf Tryd.f18) [lexsV L0] [] 0=some (rE,sE) :=
  along_sound (ans:=[(9,Ans.l (Ex.exit 0) (f18_S2 L0 S0 i0)),(16,Ans.l (Ex.exit 2) (f18_S4 L0 i0 S1 o6 i1)),(20,Ans.c rE sE)]) (by kernel_rfl) (ai h0 (ai h1 (ai h2 trivial)))
def f18n_F1 (L0:List Lexm)(i0:Nat)(S1:Nat→List Ob)(o6:Nat→AV)(i1:Nat):St :=
  stOf 52 [5,8,9,15,16,17,18,19,20,21,22,23,24,25,26,27,28,32,33,34,35,36,37,38,39,40,41,42,43,44,45,46,47,48,49,50] [(0,lro L0.length 5 (List.flatMap lexC L0)),(2,AV.list LK.nil 0 0 []),(3,AV.map 0),(6,o6 i1),(10,AV.map 0),(11,lro L0.length 5 (List.flatMap lexC L0)),(12,i6 (↑L0.length:Int)),(13,i6 (↑i0:Int)),(14,bo false),(29,lro L0.length 5 (List.flatMap lexC L0)),(30,i6 (↑L0.length:Int)),(31,i6 (↑i1:Int))] (S1 i1)
theorem f18n_s1_t (L0:List Lexm)(X:Ext)(call:Caller)(lf i0:Nat)(S1:Nat→List Ob)(o6:Nat→AV)(i1:Nat)(a d e g:ByteArray)(h:Nat)(j r33:List AV)(sq21:List Ob)
 (h0:decide ((↑i1:Int)<(↑L0.length:Int))=true)
 (h1:keep (S1 i1) (indexAddrv Tryd.prog 22 (S1 i1) (lro L0.length 5 (List.flatMap lexC L0)) (i6 (↑i1:Int)))=some (AV.eaddr (st a::st d::st e::st g::lro h 2 j::r33),S1 i1))
 (h2:keep (S1 i1) (lookupv Tryd.prog 61 (S1 i1) (AV.map 0) (st e) false)=some (AV.list LK.nil 0 0 [],S1 i1))
 (h3:Option.map (fun σ=>(AV.tup [],σ)) (deletev Tryd.prog 61 (S1 i1) 0 (AV.map 0) (st e))=some (AV.tup [],sq21))
 (e0:o6 (i1 + 1)=o6 i1)
 (e1:(↑(i1 + 1):Int)=w6 ((↑i1:Int) + 1))
 (e2:S1 (i1 + 1)=sq21):∃ Sx,vexec Tryd.prog X call lf 0 fg18 (loopN Tryd.f18 1) (f18n_F1 L0 i0 S1 o6 i1)=some (Ex.normal,Sx)∧forget f18_D1 Sx=(f18n_F1 L0 i0 S1 o6 (i1 + 1)) :=
  ⟨stOf 52 [5,15,16,17,18,19,20,21,22,23,24,25,26,27,28,42,43,44,45,46] [(0,lro L0.length 5 (List.flatMap lexC L0)),(2,AV.list LK.nil 0 0 []),(3,AV.map 0),(6,o6 i1),(8,AV.eaddr [st a,st d,st e,st g,lro h 2 j]),(9,AV.list LK.nil 0 0 []),(10,AV.map 0),(11,lro L0.length 5 (List.flatMap lexC L0)),(12,i6 (↑L0.length:Int)),(13,i6 (↑i0:Int)),(14,bo false),(29,lro L0.length 5 (List.flatMap lexC L0)),(30,i6 (↑L0.length:Int)),(31,i6 (w6 ((↑i1:Int) + 1))),(32,bo true),(33,AV.eaddr (st a::st d::st e::st g::lro h 2 j::r33)),(34,AV.agg [st a,st d,st e,st g,lro h 2 j]),(35,AV.map 0),(36,AV.eaddr [st e,st g,lro h 2 j]),(37,st e),(38,AV.list LK.nil 0 0 []),(39,AV.list LK.nil 0 0 []),(40,i6 0),(41,bo false),(47,AV.map 0),(48,AV.eaddr [st e,st g,lro h 2 j]),(49,st e),(50,i6 (w6 ((↑i1:Int) + 1)))] sq21,around_sound (ans:=[(1,Ans.b true),(4,Ans.v (AV.eaddr (st a::st d::st e::st g::lro h 2 j::r33))),(10,Ans.v (AV.list LK.nil 0 0 [])),(21,Ans.c (AV.tup []) sq21)]) (by kernel_rfl) (ai h0 (ai h1 (ai h2 (ai h3 trivial)))),by unfold f18n_F1; rw [e0,e1,e2]; show _=_; kernel_rfl⟩
end Go.Proofs.Lex
end
/- Lexicon: Homonyms: the second loop's states. -/
section
open Go Go.Vm Go.Proofs
namespace Go.Proofs.Lex
def gF (L:List Lexm) (s:ByteArray):Grp:=(s,idsOf L s)
def dnG (L:List Lexm) (i:Nat):List Grp:=(stemsN L i).map (gF L)
def rsG (L:List Lexm) (i:Nat):List Grp:=((stemsN L L.length).drop (stemsN L i).length).map (gF L)
def manyG (l:List Grp):List (List ByteArray):=(l.filter fun p=>decide (1 < p.2.length)).map (·.2)
/-- The homonyms of a list. -/
def homS (L:List Lexm):List (List ByteArray):=manyG (grpN L L.length)
def frzO (p:Grp):Ob:=if 1 < p.2.length then froO p.2 else rowO p.2
theorem grpN_all (L:List Lexm):grpN L L.length=(stemsN L L.length).map (gF L):=by
  unfold grpN
  rw [List.take_length]
  rfl
theorem stemsN_pre (L:List Lexm) (i:Nat):∀ k,∃ t,stemsN L (i + k)=stemsN L i ++ t
  | 0=>⟨[],by simp⟩
  | k + 1 => by
    obtain ⟨t,e⟩:=stemsN_pre L i k
    show ∃ t,putS (stemsN L (i + k)) (nL L (i + k)).stem=stemsN L i ++ t
    by_cases h:(nL L (i + k)).stem ∈ stemsN L (i + k)
    · rw [putS_in h]; exact ⟨t,e⟩
    · rw [putS_out h,e]; exact ⟨t ++ [(nL L (i + k)).stem],by rw [List.append_assoc]⟩
theorem stemsN_split {L:List Lexm} {i:Nat} (h:i ≤ L.length):stemsN L L.length=stemsN L i ++ (stemsN L L.length).drop (stemsN L i).length:=by
  obtain ⟨t,e⟩:=stemsN_pre L i (L.length - i)
  rw [Nat.add_sub_cancel' h] at e
  rw [e,List.drop_left]
theorem dn_rs {L:List Lexm} {i:Nat} (h:i ≤ L.length):grpN L L.length=dnG L i ++ rsG L i:=by
  rw [grpN_all,dnG,rsG,← List.map_append,← stemsN_split h]
theorem rs_new {L:List Lexm} {i:Nat} (h:i < L.length) (hs:(nL L i).stem ∉ stemsN L i):rsG L i=gF L (nL L i).stem::rsG L (i + 1)∧dnG L (i + 1)=dnG L i ++ [gF L (nL L i).stem]:=by
  have e1:=stemsN_split (Nat.le_of_lt h)
  have e2:=stemsN_split (show i + 1 ≤ L.length from h)
  have e3:stemsN L (i + 1)=stemsN L i ++ [(nL L i).stem]:=putS_out hs
  refine ⟨?_,by rw [dnG,e3,List.map_append]; rfl⟩
  unfold rsG
  rw [← List.map_cons]
  congr 1
  have e4 : stemsN L i ++ (stemsN L L.length).drop (stemsN L i).length = stemsN L i ++ ((nL L i).stem :: (stemsN L L.length).drop (stemsN L (i + 1)).length) := by
    rw [← e1]
    conv=>lhs; rw [e2,e3,List.append_assoc]
    rw [← e3]
    rfl
  exact List.append_cancel_left e4
theorem rs_old {L:List Lexm} {i:Nat} (hs:(nL L i).stem ∈ stemsN L i):stemsN L (i + 1)=stemsN L i:=putS_in hs
theorem rs_out {L:List Lexm} {i:Nat} (h:i ≤ L.length) {s:ByteArray} (hs:s ∈ stemsN L i):∀ p ∈ rsG L i,p.1 ≠ s:=by
  intro p hp e
  obtain ⟨t,ht,rfl⟩:=List.mem_map.1 hp
  have hn:=stemsN_nodup L L.length
  rw [stemsN_split h,List.nodup_append] at hn
  exact hn.2.2 s hs t ht e.symm
def rowsB (L:List Lexm) (i:Nat):List Ob:=(dnG L i).map frzO ++ (rsG L i).map fun p=>rowO p.2
theorem rowsB_len {L:List Lexm} {i:Nat} (h:i ≤ L.length):(rowsB L i).length=(grpN L L.length).length:=by
  rw [dn_rs h,rowsB,List.length_append,List.length_append,List.length_map,List.length_map]
section
variable [Fixed] {X:Ext}
def S18 (L:List Lexm) (i:Nat):List Ob := .mapo (esG (1 + (dnG L i).length) (rsG L i))::grS Cod.str.list (rowsB L i) (manyG (dnG L i))
def o18 (L:List Lexm) (i:Nat):AV:=grV nil0 (1 + (grpN L L.length).length) (manyG (dnG L i)).length
theorem grS_cons {α:Type} {A:Cod α} {x:Ob} {σ:List Ob} {l:List α}:x::grS A σ l=grS A (x::σ) l:=by
  unfold grS
  split <;> rfl
theorem manyG_append (l:List Grp) (p:Grp):manyG (l ++ [p])=manyG l ++ if 1 < p.2.length then [p.2] else []:=by
  unfold manyG
  rw [List.filter_append,List.map_append]
  by_cases h:1 < p.2.length
  · rw [if_pos h]; simp [h]
  · rw [if_neg h]; simp [h]
theorem setOb_mid (l:List Ob) (x y:Ob) (m:List Ob):setOb (l ++ x::m) l.length y=l ++ y::m:=by
  induction l with
  | nil=>rfl
  | cons a l ih=>show a::setOb (l ++ x::m) l.length y=_; rw [ih]; rfl
theorem setOb_app {σ:List Ob} {i:Nat} {y:Ob} (τ:List Ob) (h:i < σ.length):setOb (σ ++ τ) i y=setOb σ i y ++ τ:=by
  induction σ generalizing i with
  | nil=>exact absurd h (Nat.not_lt_zero _)
  | cons a σ ih =>
    cases i with
    | zero=>rfl
    | succ i=>show a::setOb (σ ++ τ) i y=_; rw [ih (Nat.lt_of_succ_lt_succ h)]; rfl
theorem setOb_gr {α:Type} {A:Cod α} {σ:List Ob} {i:Nat} {y:Ob} {l:List α} (h:i < σ.length):setOb (grS A σ l) i y=grS A (setOb σ i y) l:=by
  unfold grS
  split
  · rfl
  · exact setOb_app _ h
theorem flatS (l:List ByteArray):l.flatMap Cod.str.enc=l.map st:=by
  induction l with
  | nil=>rfl
  | cons x l ih=>rw [List.flatMap_cons,ih]; rfl
theorem encSs (l:List ByteArray):Cod.str.list.enc l=[lro l.length 1 (l.map st)]:=by
  rw [← flatS]
  rfl
theorem rowSs:RowT Cod.str.list 28 25 24:=⟨by kernel_rfl,by kernel_rfl,⟨_,zero25,rfl⟩,by kernel_rfl,by kernel_rfl⟩
/-- A row of one's own, given to Clip. -/
theorem clip_own {T:Go.Vm.Spec} (hL:XL X) {σ:List Ob} {id:Nat} {g:List ByteArray} (ho:σ[id]? = some (rowO g)) (ht:T 42 [aSs.enc g]=some (aSs.enc g)):callv X (callerOf T) false 42 [.own id g.length] σ 0=some (lro g.length 1 (g.map st),setOb σ id (froO g)):=by
  obtain ⟨a1,a2,a3⟩:=hL.ok 42 rfl
  have e:aSs.enc g=lro g.length 1 (g.map st):=aSs_enc g
  rw [e] at ht
  have hn:AV.ltAll 0 [AV.own id g.length]=false:=by simp only [AV.ltAll,AV.lt]; rfl
  have hth : AV.thawAll σ [.own id g.length] = some [lro g.length 1 (g.map st)] := by
    have ho' : σ[id]? = some (.arr g.length 1 (g.map st)):=ho
    simp [AV.thawAll,AV.thaw,ho']
  have hlt : AV.ltAll 0 [lro g.length 1 (g.map st)] = true := by
    rw [← e]
    simp only [AV.ltAll,aSs.lt,Bool.and_self]
  have hfz : freezeIds 0 σ (AV.ownsAll [.own id g.length]) = some (setOb σ id (froO g)) := by
    have ho' : σ[id]? = some (.arr g.length 1 (g.map st)):=ho
    simp [AV.ownsAll,AV.owns,freezeIds,freezeId,ho',froO]
  have hp:(lro g.length 1 (g.map st)).pure=true:=by rw [← e]; exact aSs.lt g
  unfold callv
  rw [a1,a2]
  simp only [hn,Bool.false_eq_true,if_false,hth,hlt,if_true,hfz,callerOf,ht,hp,a3]
  rfl
theorem bsl_row (g:List ByteArray) (σ:List Ob):bsl Tryd.prog 28 1 σ false 0 [(0,lro g.length 1 (g.map st))]=some (.list .clip 1 1 [lro g.length 1 (g.map st)],σ):=by
  unfold bsl byValue
  have hA:AV.owns (lro g.length 1 (g.map st))=[]:=owns_strs g
  simp only [List.map_cons,List.map_nil,AV.ownsAll,hA,List.append_nil,if_true]
  show _=_
  kernel_rfl
end
end Go.Proofs.Lex
end
/- Lexicon: Homonyms told. -/
section
open Go Go.Vm Go.Proofs
namespace Go.Proofs.Lex
section
variable [Fixed] {X:Ext}
def T42:Go.Vm.Spec:=Go.Vm.Spec.on (fun _ _=>none) 42 (sp1 aSs fun l=>some (aSs.enc l))
theorem T42_ok (hX:ExtOk Tryd.prog X) (hL:XL X):SpecOk Tryd.prog T42:=by
  refine SpecOk.on1 SpecOk.none' fun l r h => ?_
  simp only [Option.some.injEq] at h
  subst h
  exact clip42 hX hL l
theorem T42_at (l:List ByteArray):T42 42 [aSs.enc l]=some (aSs.enc l):=by
  show sp1 aSs (fun l=>some (aSs.enc l)) [aSs.enc l]=_
  rw [sp1_at (aSs.de _)]
theorem manyG_len (L:List Lexm) (i:Nat):(manyG (dnG L i)).length ≤ i:=by
  unfold manyG dnG
  rw [List.length_map]
  refine Nat.le_trans (List.length_filter_le _ _) ?_
  rw [List.length_map]
  exact stemsN_len L i
theorem look_none {L:List Lexm} {i:Nat} {s:ByteArray} (h:∀ p ∈ rsG L i,p.1 ≠ s) (b:Nat):lookupEs (st s) (esG b (rsG L i))=some none:=by
  have:=look_pre (s:=s) (E:=[]) b (rsG L i) h
  rw [List.append_nil] at this
  rw [this]
  rfl
theorem del_none {L:List Lexm} {i:Nat} {s:ByteArray} (h:∀ p ∈ rsG L i,p.1 ≠ s) (b:Nat):delEs (st s) (esG b (rsG L i))=some (esG b (rsG L i)):=by
  have:=del_pre (s:=s) (E:=[]) (E' := []) rfl b (rsG L i) h
  rw [List.append_nil] at this
  exact this
theorem step18 (hL:XL X) {L:List Lexm} {n i lf:Nat} (h:i < L.length) (hb:L.length * 89 ≤ 140737488355328) :
    ∃ Sx,vexec Tryd.prog X (callerOf T42) lf 0 fg18 (loopN Tryd.f18 1) (f18_F1 L n (S18 L) (o18 L) i)=some (.normal,Sx)∧forget f18_D1 Sx=f18_F1 L n (S18 L) (o18 L) (i + 1):=by
  have hd:decide ((i:Int) < (L.length:Int))=true:=decide_eq_true (by omega)
  have hu:=up h (by show _ ≤ 140737488355328; omega:L.length ≤ big)
  have hil:=Nat.le_of_lt h
  by_cases hs:(nL L i).stem ∈ stemsN L i
  · have hout := rs_out hil hs
    have e:stemsN L (i + 1)=stemsN L i:=rs_old hs
    have eS:S18 L (i + 1)=S18 L i:=by unfold S18 rowsB dnG rsG; rw [e]
    have eo:o18 L (i + 1)=o18 L i:=by unfold o18 dnG; rw [e]
    exact f18n_s1_t L X (callerOf T42) lf n (S18 L) (o18 L) i (nL L i).id (nL L i).cat (nL L i).stem (nL L i).par (nL L i).feats.length ((nL L i).feats.flatMap featC) (tL L i) (S18 L i) hd (at_lex h)
      (look61 (r:=none) (look_none hout _)) (del61 (del_none hout _)) eo hu eS
  · obtain ⟨e1, e2⟩ := rs_new h hs
    have hlen:(dnG L (i + 1)).length=(dnG L i).length + 1:=by rw [e2,List.length_append]; rfl
    have hE : esG (1 + (dnG L i).length) (rsG L i) = (st (nL L i).stem, .own (1 + (dnG L i).length) (idsOf L (nL L i).stem).length) :: esG (1 + (dnG L (i + 1)).length) (rsG L (i + 1)) := by
      rw [e1,hlen]
      rfl
    have hrow : rowsB L i = (dnG L i).map frzO ++ rowO (idsOf L (nL L i).stem) :: (rsG L (i + 1)).map fun p => rowO p.2 := by
      unfold rowsB
      rw [e1]
      rfl
    have hrow' : rowsB L (i + 1) = (dnG L i).map frzO ++ frzO (gF L (nL L i).stem) :: (rsG L (i + 1)).map fun p => rowO p.2 := by
      unfold rowsB
      rw [e2,List.map_append,List.append_assoc]
      rfl
    have hlook:=look61 (σ:=grS Cod.str.list (rowsB L i) (manyG (dnG L i))) (r:=some (.own (1 + (dnG L i).length) (idsOf L (nL L i).stem).length)) (show lookupEs (st (nL L i).stem) (esG (1 + (dnG L i).length) (rsG L i))=_ by rw [hE]; exact look_hit)
    have hmany:=manyG_append (dnG L i) (gF L (nL L i).stem)
    rw [← e2] at hmany
    by_cases hg:1 < (idsOf L (nL L i).stem).length
    · have hm : manyG (dnG L (i + 1)) = manyG (dnG L i) ++ [idsOf L (nL L i).stem] := by rw [hmany, if_pos (show 1 < (gF L (nL L i).stem).2.length from hg)]; rfl
      have hfz:frzO (gF L (nL L i).stem)=froO (idsOf L (nL L i).stem):=if_pos hg
      have hl1:(dnG L i).length < (rowsB L i).length:=by rw [hrow,List.length_append,List.length_cons,List.length_map]; omega
      have hset : setOb (S18 L i) (1 + (dnG L i).length) (froO (idsOf L (nL L i).stem)) = .mapo (esG (1 + (dnG L i).length) (rsG L i)) :: grS Cod.str.list (rowsB L (i + 1)) (manyG (dnG L i)) := by
        unfold S18
        rw [Nat.add_comm 1]
        show _::setOb (grS _ _ _) (dnG L i).length _=_
        rw [setOb_gr hl1,hrow,hrow',hfz]
        have:=setOb_mid ((dnG L i).map frzO) (rowO (idsOf L (nL L i).stem)) (froO (idsOf L (nL L i).stem)) ((rsG L (i + 1)).map fun p=>rowO p.2)
        rw [List.length_map] at this
        rw [this]
      have hget : (S18 L i)[1 + (dnG L i).length]? = some (rowO (idsOf L (nL L i).stem)) := by
        unfold S18 grS
        rw [Nat.add_comm 1,List.getElem?_cons_succ]
        have hin : ∀ τ, (rowsB L i ++ τ)[(dnG L i).length]? = some (rowO (idsOf L (nL L i).stem)) := fun τ => by
          rw [List.getElem?_append_left hl1,hrow,List.getElem?_append_right (by rw [List.length_map]; exact Nat.le_refl _),List.length_map,Nat.sub_self]
          rfl
        split
        · have := hin []
          rwa [List.append_nil] at this
        · exact hin _
      have happ := gr_step (σ0 := .mapo (esG (1 + (dnG L i).length) (rsG L i)) :: rowsB L (i + 1)) (A := Cod.str.list) (l := manyG (dnG L i)) (m := [idsOf L (nL L i).stem]) (lk := .nil) (sz0 := 0) rowSs (.inl rfl) (appended_row (lk := .clip) [idsOf L (nL L i).stem]) (by
        show ((manyG (dnG L i)).length + 1) * 25 ≤ 140737488355328
        have:=manyG_len L i
        omega)
      rw [← grS_cons,← grS_cons] at happ
      have hn1 : (Ob.mapo (esG (1 + (dnG L i).length) (rsG L i)) :: rowsB L (i + 1)).length = 1 + (grpN L L.length).length := by
        rw [List.length_cons,rowsB_len h]
        omega
      rw [hn1,← hm] at happ
      have hds:=del61 (σ:=grS Cod.str.list (rowsB L (i + 1)) (manyG (dnG L (i + 1)))) (show delEs (st (nL L i).stem) (esG (1 + (dnG L i).length) (rsG L i))=_ by rw [hE]; exact del_hit)
      refine f18_s1_tt L (1 + (dnG L i).length) (idsOf L (nL L i).stem).length _ _ X (callerOf T42) lf n (S18 L) (o18 L) i (nL L i).id (nL L i).cat (nL L i).stem (nL L i).par (nL L i).feats.length ((nL L i).feats.flatMap featC) (tL L i) 1 _ .clip _ _ _ hd (at_lex h) hlook (decide_eq_true (by omega)) (clip_own hL hget (T42_at _)) (bsl_row _ _) ?_ hds rfl hu rfl
      rw [hset]
      have e3:[idsOf L (nL L i).stem].flatMap Cod.str.list.enc=[lro (idsOf L (nL L i).stem).length 1 ((idsOf L (nL L i).stem).map st)]:=by rw [List.flatMap_cons,List.flatMap_nil,List.append_nil,encSs]
      rw [e3] at happ
      unfold o18
      exact happ
    · have hm : manyG (dnG L (i + 1)) = manyG (dnG L i) := by rw [hmany, if_neg (show ¬ 1 < (gF L (nL L i).stem).2.length from hg), List.append_nil]
      have hfz:frzO (gF L (nL L i).stem)=rowO (idsOf L (nL L i).stem):=if_neg hg
      have hds:=del61 (σ:=grS Cod.str.list (rowsB L i) (manyG (dnG L i))) (show delEs (st (nL L i).stem) (esG (1 + (dnG L i).length) (rsG L i))=_ by rw [hE]; exact del_hit)
      refine f18_s1_tf L (1 + (dnG L i).length) (idsOf L (nL L i).stem).length X (callerOf T42) lf n (S18 L) (o18 L) i (nL L i).id (nL L i).cat (nL L i).stem (nL L i).par (nL L i).feats.length ((nL L i).feats.flatMap featC) (tL L i) _ hd (at_lex h) hlook (decide_eq_false (by omega)) hds ?_ hu ?_
      · unfold o18
        rw [hm]
      · unfold S18
        rw [hm,hrow',hfz,← hrow]
/-- lexicon.Homonyms. -/
theorem call18 (hX:ExtOk Tryd.prog X) (hL:XL X) {L:List Lexm} (hb:L.length * 89 ≤ big):CallAt Tryd.prog 18 [aLs.enc L] [] 0 (aSss.enc (homS L)) []:=by
  have hb' : L.length * 89 ≤ 140737488355328:=hb
  have hC:=callerOf_ok (T42_ok hX hL)
  let S0:Nat→List Ob:=fun i=>stG (grpN L i)
  have l0 : vexec Tryd.prog X (callerOf T42) (L.length + 1) 0 fg18 (.loop (loopN Tryd.f18 0)) (f18_S0 L) = some (.exit 0, f18_S2 L S0 L.length) := by
    refine f18_L0 L S0 X (callerOf T42) (L.length + 1) L.length _ _ rfl (Nat.lt_succ_self _) (fun j hj => ?_) (f18_r0_f L X (callerOf T42) (L.length + 1) S0 L.length (decide_eq_false (by omega))) (by simp)
    obtain ⟨v,w,σ,h1,h2,h3⟩:=roundG (L:=L) hj (by omega)
    exact f18_s0_t L v X (callerOf T42) (L.length + 1) S0 j (nL L j).id (nL L j).cat (nL L j).stem (nL L j).par (nL L j).feats.length ((nL L j).feats.flatMap featC) (tL L j) w σ _ (decide_eq_true (by omega)) (at_lex hj) h1 h2 h3 (up hj (by show _ ≤ 140737488355328; omega)) rfl
  have e0 : S18 L 0 = S0 L.length := by
    show S18 L 0=stG (grpN L L.length)
    unfold S18 stG
    have h1:rsG L 0=grpN L L.length:=by rw [grpN_all]; rfl
    have h2:rowsB L 0=(grpN L L.length).map fun p=>rowO p.2:=by rw [← h1]; rfl
    rw [h1,h2]
    rfl
  have l1 : vexec Tryd.prog X (callerOf T42) (L.length + 1) 0 fg18 (.loop (loopN Tryd.f18 1)) (f18_S3 L S0 L.length) = some (.exit 2, f18_S4 L L.length (S18 L) (o18 L) L.length) :=
    f18_L1 L S0 L.length (S18 L) (o18 L) X (callerOf T42) (L.length + 1) L.length _ _ rfl e0 (Nat.lt_succ_self _) (fun j hj=>step18 hL hj hb') (f18_r1_f L X (callerOf T42) (L.length + 1) L.length (S18 L) (o18 L) L.length (decide_eq_false (by omega))) (by simp)
  have hm : manyG (dnG L L.length) = homS L := by
    unfold homS
    rw [grpN_all]
    rfl
  obtain ⟨r,σ',h1,h2,-⟩:=gr_end (A:=Cod.str.list) (lk := .nil) (sz0:=0) (σ1:=[]) (σ0 := .mapo (esG (1 + (dnG L L.length).length) (rsG L L.length))::rowsB L L.length) (manyG (dnG L L.length))
  have hn1 : (Ob.mapo (esG (1 + (dnG L L.length).length) (rsG L L.length)) :: rowsB L L.length).length = 1 + (grpN L L.length).length := by
    rw [List.length_cons,rowsB_len (Nat.le_refl _)]
    omega
  rw [hn1,← grS_cons] at h1
  rw [hm] at h2
  exact run_res (B:=aSss) hX hC (hL.dom 18 rfl rfl) Tryd.func18 (by kernel_rfl) (f18_plflf L X (callerOf T42) (L.length + 1) S0 L.length (S18 L) (o18 L) L.length r _ l0 l1 h1) h2
end
end Go.Proofs.Lex
end
/- Lexicon: the reference of Homonyms and the law, walked (printed) -/
section
open Go Go.Vm Go.Proofs
namespace Go.Proofs.Lex
def fg19:Nat→List Nat
  | 5004=>[1]
  | 5009=>[1]
  | 5016=>[1]
  | _=>[]
def f19_F0 (L0:List Lexm)(S0:Nat→List Ob)(o3:Nat→AV)(i0:Nat):St :=
  stOf 68 [4,5,6,7,9,10,12,17,18,19,20,21,22,23,24,25,26,27,28,29,30,31,32,33,34,35,36,37,38,39,40,41,42,43,44,45,46,47,48,49,50,51,52,53,54,55,56,57,58,59,60,61,62,63,64,65,66] [(0,lro L0.length 5 (List.flatMap lexC L0)),(2,AV.list LK.nil 0 0 []),(3,o3 i0),(13,AV.list LK.clip 0 1 []),(14,lro L0.length 5 (List.flatMap lexC L0)),(15,i6 (↑L0.length:Int)),(16,i6 (↑i0:Int))] (S0 i0)
def f19_S0 (L0:List Lexm):St :=
  stOf 68 [] [(0,lro L0.length 5 (List.flatMap lexC L0)),(2,AV.list LK.nil 0 0 []),(3,AV.list LK.clip 0 1 []),(13,AV.list LK.clip 0 1 []),(14,lro L0.length 5 (List.flatMap lexC L0)),(15,i6 (↑L0.length:Int)),(16,i6 0)] []
abbrev f19_D0:List Nat:=[66,65,64,63,62,61,60,59,58,57,56,12,55,54,53,52,51,50,10,49,48,47,46,45,44,43,42,41,40,39,38,37,36,35,34,33,9,32,31,30,29,28,27,26,25,7,6,24,23,22,21,4,5,20,19,18,17]
theorem f19_L0 (L0:List Lexm)(S0:Nat→List Ob)(o3:Nat→AV)(X:Ext)(call:Caller)(lf n:Nat)(x:Ex) (S' : St)
 (e0:o3 0=AV.list LK.clip 0 1 [])
 (e1:S0 0=[])
 (hn:n<lf)
 (hs:∀ j,j<n→∃ Sx,vexec Tryd.prog X call lf 0 fg19 (loopN Tryd.f19 0) (f19_F0 L0 S0 o3 j)=some (Ex.normal,Sx)∧forget f19_D0 Sx=(f19_F0 L0 S0 o3 (j + 1)))
 (he:vexec Tryd.prog X call lf 0 fg19 (loopN Tryd.f19 0) (f19_F0 L0 S0 o3 n)=some (x,S'))
 (hx:x ≠ Ex.normal):vexec Tryd.prog X call lf 0 fg19 (Go.Code.loop (loopN Tryd.f19 0)) (f19_S0 L0)=some (x,S') :=
  loop_runK (by kernel_rfl) (fun j=>(f19_F0 L0 S0 o3 j)) n hn (by show forget f19_D0 (f19_S0 L0)=(f19_F0 L0 S0 o3 0); unfold f19_F0; rw [e0,e1]; show _=_; kernel_rfl) hs he hx
def f19_F1 (L0 L1 L2:List Lexm)(b7:Nat→Bool)(t1:List Ob)(o3:Nat→AV)(i0:Nat)(a b c d:ByteArray)(e:Nat)(g r19:List AV)(i1:Nat):St :=
  stOf 68 [9,10,12,30,31,32,33,34,35,36,37,38,39,40,41,42,43,44,45,46,47,48,49,50,51,52,53,54,55,56,57,58,59,60,61,62,63,64,65,66] [(0,lro L0.length 5 (List.flatMap lexC L0)),(2,AV.list LK.nil 0 0 []),(3,o3 i0),(4,i6 (↑i0:Int)),(5,AV.eaddr [st a,st b,st c,st d,lro e 2 g]),(6,lro L1.length 5 (List.flatMap lexC L1)),(7,bo (b7 i1)),(13,AV.list LK.clip 0 1 []),(14,lro L0.length 5 (List.flatMap lexC L0)),(15,i6 (↑L0.length:Int)),(16,i6 (↑i0:Int)),(17,bo true),(18,i6 (↑i0:Int)),(19,AV.eaddr (st a::st b::st c::st d::lro e 2 g::r19)),(20,AV.agg [st a,st b,st c,st d,lro e 2 g]),(21,lro L0.length 5 (List.flatMap lexC L0)),(22,AV.eaddr [st c,st d,lro e 2 g]),(23,st c),(24,lro L1.length 5 (List.flatMap lexC L1)),(25,lro L0.length 5 (List.flatMap lexC L0)),(26,i6 (↑i0:Int)),(27,lro L2.length 5 (List.flatMap lexC L2)),(28,i6 (↑L2.length:Int)),(29,i6 (↑i1:Int))] t1
def f19_S1 (L0 L1 L2:List Lexm)(S0:Nat→List Ob)(o3:Nat→AV)(i0:Nat)(a b c d:ByteArray)(e:Nat)(g r19:List AV):St :=
  stOf 68 [9,10,12,30,31,32,33,34,35,36,37,38,39,40,41,42,43,44,45,46,47,48,49,50,51,52,53,54,55,56,57,58,59,60,61,62,63,64,65,66] [(0,lro L0.length 5 (List.flatMap lexC L0)),(2,AV.list LK.nil 0 0 []),(3,o3 i0),(4,i6 (↑i0:Int)),(5,AV.eaddr [st a,st b,st c,st d,lro e 2 g]),(6,lro L1.length 5 (List.flatMap lexC L1)),(7,bo true),(13,AV.list LK.clip 0 1 []),(14,lro L0.length 5 (List.flatMap lexC L0)),(15,i6 (↑L0.length:Int)),(16,i6 (↑i0:Int)),(17,bo true),(18,i6 (↑i0:Int)),(19,AV.eaddr (st a::st b::st c::st d::lro e 2 g::r19)),(20,AV.agg [st a,st b,st c,st d,lro e 2 g]),(21,lro L0.length 5 (List.flatMap lexC L0)),(22,AV.eaddr [st c,st d,lro e 2 g]),(23,st c),(24,lro L1.length 5 (List.flatMap lexC L1)),(25,lro L0.length 5 (List.flatMap lexC L0)),(26,i6 (↑i0:Int)),(27,lro L2.length 5 (List.flatMap lexC L2)),(28,i6 (↑L2.length:Int)),(29,i6 0)] (S0 i0)
abbrev f19_D1:List Nat:=[41,40,39,38,37,36,35,34,33,9,32,31,30]
theorem f19_L1 (L0 L1 L2:List Lexm)(b7:Nat→Bool)(t1:List Ob)(S0:Nat→List Ob)(o3:Nat→AV)(i0:Nat)(a b c d:ByteArray)(e:Nat)(g r19:List AV)(X:Ext)(call:Caller)(lf n:Nat)(x:Ex) (S' : St)
 (e0:b7 0=true)
 (e1:t1=S0 i0)
 (hn:n<lf)
 (hs:∀ j,j<n→∃ Sx,vexec Tryd.prog X call lf 0 fg19 (loopN Tryd.f19 1) (f19_F1 L0 L1 L2 b7 t1 o3 i0 a b c d e g r19 j)=some (Ex.normal,Sx)∧forget f19_D1 Sx=(f19_F1 L0 L1 L2 b7 t1 o3 i0 a b c d e g r19 (j + 1)))
 (he:vexec Tryd.prog X call lf 0 fg19 (loopN Tryd.f19 1) (f19_F1 L0 L1 L2 b7 t1 o3 i0 a b c d e g r19 n)=some (x,S'))
 (hx:x ≠ Ex.normal):vexec Tryd.prog X call lf 0 fg19 (Go.Code.loop (loopN Tryd.f19 1)) (f19_S1 L0 L1 L2 S0 o3 i0 a b c d e g r19)=some (x,S') :=
  loop_runK (by kernel_rfl) (fun j=>(f19_F1 L0 L1 L2 b7 t1 o3 i0 a b c d e g r19 j)) n hn (by show forget f19_D1 (f19_S1 L0 L1 L2 S0 o3 i0 a b c d e g r19)=(f19_F1 L0 L1 L2 b7 t1 o3 i0 a b c d e g r19 0); unfold f19_F1; rw [e0,e1]; show _=_; kernel_rfl) hs he hx
theorem f19_s1_ttt (L0 L1 L2:List Lexm)(b7:Nat→Bool)(t1:List Ob)(X:Ext)(call:Caller)(lf:Nat)(o3:Nat→AV)(i0:Nat)(a c d e:ByteArray)(g:Nat)(h r19:List AV)(i1:Nat)(j k p q:ByteArray)(r:Nat)(t r31:List AV)
 (h0:decide ((↑i1:Int)<(↑L2.length:Int))=true)
 (h1:keep t1 (indexAddrv Tryd.prog 22 t1 (lro L2.length 5 (List.flatMap lexC L2)) (i6 (↑i1:Int)))=some (AV.eaddr (st j::st k::st p::st q::lro r 2 t::r31),t1))
 (h2:b7 i1=true)
 (h3:(!ByteArray.toList p == ByteArray.toList d)=true)
 (e0:b7 (i1 + 1)=true)
 (e1:(↑(i1 + 1):Int)=w6 ((↑i1:Int) + 1)):∃ Sx,vexec Tryd.prog X call lf 0 fg19 (loopN Tryd.f19 1) (f19_F1 L0 L1 L2 b7 t1 o3 i0 a c d e g h r19 i1)=some (Ex.normal,Sx)∧forget f19_D1 Sx=(f19_F1 L0 L1 L2 b7 t1 o3 i0 a c d e g h r19 (i1 + 1)) :=
  ⟨stOf 68 [10,12,42,43,44,45,46,47,48,49,50,51,52,53,54,55,56,57,58,59,60,61,62,63,64,65,66] [(0,lro L0.length 5 (List.flatMap lexC L0)),(2,AV.list LK.nil 0 0 []),(3,o3 i0),(4,i6 (↑i0:Int)),(5,AV.eaddr [st a,st c,st d,st e,lro g 2 h]),(6,lro L1.length 5 (List.flatMap lexC L1)),(7,bo true),(9,AV.eaddr [st j,st k,st p,st q,lro r 2 t]),(13,AV.list LK.clip 0 1 []),(14,lro L0.length 5 (List.flatMap lexC L0)),(15,i6 (↑L0.length:Int)),(16,i6 (↑i0:Int)),(17,bo true),(18,i6 (↑i0:Int)),(19,AV.eaddr (st a::st c::st d::st e::lro g 2 h::r19)),(20,AV.agg [st a,st c,st d,st e,lro g 2 h]),(21,lro L0.length 5 (List.flatMap lexC L0)),(22,AV.eaddr [st d,st e,lro g 2 h]),(23,st d),(24,lro L1.length 5 (List.flatMap lexC L1)),(25,lro L0.length 5 (List.flatMap lexC L0)),(26,i6 (↑i0:Int)),(27,lro L2.length 5 (List.flatMap lexC L2)),(28,i6 (↑L2.length:Int)),(29,i6 (w6 ((↑i1:Int) + 1))),(30,bo true),(31,AV.eaddr (st j::st k::st p::st q::lro r 2 t::r31)),(32,AV.agg [st j,st k,st p,st q,lro r 2 t]),(33,bo true),(34,bo true),(35,AV.eaddr [st p,st q,lro r 2 t]),(36,st p),(37,AV.eaddr [st d,st e,lro g 2 h]),(38,st d),(39,bo true),(40,bo true),(41,i6 (w6 ((↑i1:Int) + 1)))] t1,around_sound (ans:=[(1,Ans.b true),(4,Ans.v (AV.eaddr (st j::st k::st p::st q::lro r 2 t::r31))),(7,Ans.b true),(18,Ans.b true)]) (by kernel_rfl) (ai h0 (ai h1 (ai h2 (ai h3 trivial)))),by unfold f19_F1; rw [e0,e1]; show _=_; kernel_rfl⟩
theorem f19_s1_ttf (L0 L1 L2:List Lexm)(b7:Nat→Bool)(t1:List Ob)(X:Ext)(call:Caller)(lf:Nat)(o3:Nat→AV)(i0:Nat)(a c d e:ByteArray)(g:Nat)(h r19:List AV)(i1:Nat)(j k p q:ByteArray)(r:Nat)(t r31:List AV)
 (h0:decide ((↑i1:Int)<(↑L2.length:Int))=true)
 (h1:keep t1 (indexAddrv Tryd.prog 22 t1 (lro L2.length 5 (List.flatMap lexC L2)) (i6 (↑i1:Int)))=some (AV.eaddr (st j::st k::st p::st q::lro r 2 t::r31),t1))
 (h2:b7 i1=true)
 (h3:(!ByteArray.toList p == ByteArray.toList d)=false)
 (e0:b7 (i1 + 1)=false)
 (e1:(↑(i1 + 1):Int)=w6 ((↑i1:Int) + 1)):∃ Sx,vexec Tryd.prog X call lf 0 fg19 (loopN Tryd.f19 1) (f19_F1 L0 L1 L2 b7 t1 o3 i0 a c d e g h r19 i1)=some (Ex.normal,Sx)∧forget f19_D1 Sx=(f19_F1 L0 L1 L2 b7 t1 o3 i0 a c d e g h r19 (i1 + 1)) :=
  ⟨stOf 68 [10,12,42,43,44,45,46,47,48,49,50,51,52,53,54,55,56,57,58,59,60,61,62,63,64,65,66] [(0,lro L0.length 5 (List.flatMap lexC L0)),(2,AV.list LK.nil 0 0 []),(3,o3 i0),(4,i6 (↑i0:Int)),(5,AV.eaddr [st a,st c,st d,st e,lro g 2 h]),(6,lro L1.length 5 (List.flatMap lexC L1)),(7,bo false),(9,AV.eaddr [st j,st k,st p,st q,lro r 2 t]),(13,AV.list LK.clip 0 1 []),(14,lro L0.length 5 (List.flatMap lexC L0)),(15,i6 (↑L0.length:Int)),(16,i6 (↑i0:Int)),(17,bo true),(18,i6 (↑i0:Int)),(19,AV.eaddr (st a::st c::st d::st e::lro g 2 h::r19)),(20,AV.agg [st a,st c,st d,st e,lro g 2 h]),(21,lro L0.length 5 (List.flatMap lexC L0)),(22,AV.eaddr [st d,st e,lro g 2 h]),(23,st d),(24,lro L1.length 5 (List.flatMap lexC L1)),(25,lro L0.length 5 (List.flatMap lexC L0)),(26,i6 (↑i0:Int)),(27,lro L2.length 5 (List.flatMap lexC L2)),(28,i6 (↑L2.length:Int)),(29,i6 (w6 ((↑i1:Int) + 1))),(30,bo true),(31,AV.eaddr (st j::st k::st p::st q::lro r 2 t::r31)),(32,AV.agg [st j,st k,st p,st q,lro r 2 t]),(33,bo true),(34,bo true),(35,AV.eaddr [st p,st q,lro r 2 t]),(36,st p),(37,AV.eaddr [st d,st e,lro g 2 h]),(38,st d),(39,bo false),(40,bo false),(41,i6 (w6 ((↑i1:Int) + 1)))] t1,around_sound (ans:=[(1,Ans.b true),(4,Ans.v (AV.eaddr (st j::st k::st p::st q::lro r 2 t::r31))),(7,Ans.b true),(18,Ans.b false)]) (by kernel_rfl) (ai h0 (ai h1 (ai h2 (ai h3 trivial)))),by unfold f19_F1; rw [e0,e1]; show _=_; kernel_rfl⟩
theorem f19_s1_tf (L0 L1 L2:List Lexm)(b7:Nat→Bool)(t1:List Ob)(X:Ext)(call:Caller)(lf:Nat)(o3:Nat→AV)(i0:Nat)(a c d e:ByteArray)(g:Nat)(h r19:List AV)(i1:Nat)(j k p q:ByteArray)(r:Nat)(t r31:List AV)
 (h0:decide ((↑i1:Int)<(↑L2.length:Int))=true)
 (h1:keep t1 (indexAddrv Tryd.prog 22 t1 (lro L2.length 5 (List.flatMap lexC L2)) (i6 (↑i1:Int)))=some (AV.eaddr (st j::st k::st p::st q::lro r 2 t::r31),t1))
 (h2:b7 i1=false)
 (e0:b7 (i1 + 1)=false)
 (e1:(↑(i1 + 1):Int)=w6 ((↑i1:Int) + 1)):∃ Sx,vexec Tryd.prog X call lf 0 fg19 (loopN Tryd.f19 1) (f19_F1 L0 L1 L2 b7 t1 o3 i0 a c d e g h r19 i1)=some (Ex.normal,Sx)∧forget f19_D1 Sx=(f19_F1 L0 L1 L2 b7 t1 o3 i0 a c d e g h r19 (i1 + 1)) :=
  ⟨stOf 68 [10,12,42,43,44,45,46,47,48,49,50,51,52,53,54,55,56,57,58,59,60,61,62,63,64,65,66] [(0,lro L0.length 5 (List.flatMap lexC L0)),(2,AV.list LK.nil 0 0 []),(3,o3 i0),(4,i6 (↑i0:Int)),(5,AV.eaddr [st a,st c,st d,st e,lro g 2 h]),(6,lro L1.length 5 (List.flatMap lexC L1)),(7,bo false),(9,AV.eaddr [st j,st k,st p,st q,lro r 2 t]),(13,AV.list LK.clip 0 1 []),(14,lro L0.length 5 (List.flatMap lexC L0)),(15,i6 (↑L0.length:Int)),(16,i6 (↑i0:Int)),(17,bo true),(18,i6 (↑i0:Int)),(19,AV.eaddr (st a::st c::st d::st e::lro g 2 h::r19)),(20,AV.agg [st a,st c,st d,st e,lro g 2 h]),(21,lro L0.length 5 (List.flatMap lexC L0)),(22,AV.eaddr [st d,st e,lro g 2 h]),(23,st d),(24,lro L1.length 5 (List.flatMap lexC L1)),(25,lro L0.length 5 (List.flatMap lexC L0)),(26,i6 (↑i0:Int)),(27,lro L2.length 5 (List.flatMap lexC L2)),(28,i6 (↑L2.length:Int)),(29,i6 (w6 ((↑i1:Int) + 1))),(30,bo true),(31,AV.eaddr (st j::st k::st p::st q::lro r 2 t::r31)),(32,AV.agg [st j,st k,st p,st q,lro r 2 t]),(33,bo false),(34,bo false),(40,bo false),(41,i6 (w6 ((↑i1:Int) + 1)))] t1,around_sound (ans:=[(1,Ans.b true),(4,Ans.v (AV.eaddr (st j::st k::st p::st q::lro r 2 t::r31))),(7,Ans.b false)]) (by kernel_rfl) (ai h0 (ai h1 (ai h2 trivial))),by unfold f19_F1; rw [e0,e1]; show _=_; kernel_rfl⟩
def f19_S2 (L0 L1 L2:List Lexm)(b7:Nat→Bool)(t1:List Ob)(o3:Nat→AV)(i0:Nat)(a b c d:ByteArray)(e:Nat)(g r19:List AV)(i1:Nat):St :=
  stOf 68 [9,10,12,31,32,33,34,35,36,37,38,39,40,41,42,43,44,45,46,47,48,49,50,51,52,53,54,55,56,57,58,59,60,61,62,63,64,65,66] [(0,lro L0.length 5 (List.flatMap lexC L0)),(2,AV.list LK.nil 0 0 []),(3,o3 i0),(4,i6 (↑i0:Int)),(5,AV.eaddr [st a,st b,st c,st d,lro e 2 g]),(6,lro L1.length 5 (List.flatMap lexC L1)),(7,bo (b7 i1)),(13,AV.list LK.clip 0 1 []),(14,lro L0.length 5 (List.flatMap lexC L0)),(15,i6 (↑L0.length:Int)),(16,i6 (↑i0:Int)),(17,bo true),(18,i6 (↑i0:Int)),(19,AV.eaddr (st a::st b::st c::st d::lro e 2 g::r19)),(20,AV.agg [st a,st b,st c,st d,lro e 2 g]),(21,lro L0.length 5 (List.flatMap lexC L0)),(22,AV.eaddr [st c,st d,lro e 2 g]),(23,st c),(24,lro L1.length 5 (List.flatMap lexC L1)),(25,lro L0.length 5 (List.flatMap lexC L0)),(26,i6 (↑i0:Int)),(27,lro L2.length 5 (List.flatMap lexC L2)),(28,i6 (↑L2.length:Int)),(29,i6 (↑i1:Int)),(30,bo false)] t1
theorem f19_r1_f (L0 L1 L2:List Lexm)(b7:Nat→Bool)(t1:List Ob)(X:Ext)(call:Caller)(lf:Nat)(o3:Nat→AV)(i0:Nat)(a c d e:ByteArray)(g:Nat)(h r19:List AV)(i1:Nat)
 (h0:decide ((↑i1:Int)<(↑L2.length:Int))=false):vexec Tryd.prog X call lf 0 fg19 (loopN Tryd.f19 1) (f19_F1 L0 L1 L2 b7 t1 o3 i0 a c d e g h r19 i1)=some (Ex.exit 2,(f19_S2 L0 L1 L2 b7 t1 o3 i0 a c d e g h r19 i1)) :=
  around_sound (ans:=[(1,Ans.b false)]) (by kernel_rfl) (ai h0 trivial)
theorem f19_s0_tlft (L0 L1 L2:List Lexm)(b7:Nat→Bool)(t1:List Ob)(X:Ext)(call:Caller)(lf:Nat)(S0:Nat→List Ob)(o3:Nat→AV)(i0:Nat)(a c d e:ByteArray)(g:Nat)(h r19:List AV)(i1:Nat)
 (h0:decide ((↑i0:Int)<(↑L0.length:Int))=true)
 (h1:keep (S0 i0) (indexAddrv Tryd.prog 22 (S0 i0) (lro L0.length 5 (List.flatMap lexC L0)) (i6 (↑i0:Int)))=some (AV.eaddr (st a::st c::st d::st e::lro g 2 h::r19),S0 i0))
 (h2:callv X call false 34 [lro L0.length 5 (List.flatMap lexC L0),st d] (S0 i0) 0=some (lro L1.length 5 (List.flatMap lexC L1),S0 i0))
 (h3:slc Tryd.prog 22 (S0 i0) false 0 (lro L0.length 5 (List.flatMap lexC L0)) none (some (i6 (↑i0:Int))) none=some (lro L2.length 5 (List.flatMap lexC L2),S0 i0))
 (h4:vexec Tryd.prog X call lf 0 fg19 (Code.loop (loopN Tryd.f19 1)) (f19_S1 L0 L1 L2 S0 o3 i0 a c d e g h r19)=some (Ex.exit 2,(f19_S2 L0 L1 L2 b7 t1 o3 i0 a c d e g h r19 i1)))
 (h5:decide ((↑L1.length:Int)<2)=true)
 (e0:o3 (i0 + 1)=o3 i0)
 (e1:(↑(i0 + 1):Int)=w6 ((↑i0:Int) + 1))
 (e2:S0 (i0 + 1)=t1):∃ Sx,vexec Tryd.prog X call lf 0 fg19 (loopN Tryd.f19 0) (f19_F0 L0 S0 o3 i0)=some (Ex.normal,Sx)∧forget f19_D0 Sx=(f19_F0 L0 S0 o3 (i0 + 1)) :=
  ⟨stOf 68 [9,10,12,31,32,33,34,35,36,37,38,39,40,41,49,50,51,52,53,54,55,56,57,58,59,60,61,62,63,64,65] [(0,lro L0.length 5 (List.flatMap lexC L0)),(2,AV.list LK.nil 0 0 []),(3,o3 i0),(4,i6 (↑i0:Int)),(5,AV.eaddr [st a,st c,st d,st e,lro g 2 h]),(6,lro L1.length 5 (List.flatMap lexC L1)),(7,bo (b7 i1)),(13,AV.list LK.clip 0 1 []),(14,lro L0.length 5 (List.flatMap lexC L0)),(15,i6 (↑L0.length:Int)),(16,i6 (w6 ((↑i0:Int) + 1))),(17,bo true),(18,i6 (↑i0:Int)),(19,AV.eaddr (st a::st c::st d::st e::lro g 2 h::r19)),(20,AV.agg [st a,st c,st d,st e,lro g 2 h]),(21,lro L0.length 5 (List.flatMap lexC L0)),(22,AV.eaddr [st d,st e,lro g 2 h]),(23,st d),(24,lro L1.length 5 (List.flatMap lexC L1)),(25,lro L0.length 5 (List.flatMap lexC L0)),(26,i6 (↑i0:Int)),(27,lro L2.length 5 (List.flatMap lexC L2)),(28,i6 (↑L2.length:Int)),(29,i6 (↑i1:Int)),(30,bo false),(42,lro L1.length 5 (List.flatMap lexC L1)),(43,i6 (↑L1.length:Int)),(44,bo true),(45,bo true),(48,bo true),(66,i6 (w6 ((↑i0:Int) + 1)))] t1,around_sound (ans:=[(1,Ans.b true),(5,Ans.v (AV.eaddr (st a::st c::st d::st e::lro g 2 h::r19))),(11,Ans.v (lro L1.length 5 (List.flatMap lexC L1))),(18,Ans.v (lro L2.length 5 (List.flatMap lexC L2))),(21,Ans.l (Ex.exit 2) (f19_S2 L0 L1 L2 b7 t1 o3 i0 a c d e g h r19 i1)),(25,Ans.b true)]) (by kernel_rfl) (ai h0 (ai h1 (ai h2 (ai h3 (ai h4 (ai h5 trivial)))))),by unfold f19_F0; rw [e0,e1,e2]; show _=_; kernel_rfl⟩
def f19_F2 (L0 L1 L2:List Lexm)(b7:Nat→Bool)(o3:Nat→AV)(i0:Nat)(a b c d:ByteArray)(e:Nat)(g r19:List AV)(i1:Nat)(S2:Nat→List Ob)(o10:Nat→AV)(i2:Nat):St :=
  stOf 68 [9,12,31,32,33,34,35,36,37,38,39,40,41,53,54,55,56,57,58,59,60,61,62,63,64,65,66] [(0,lro L0.length 5 (List.flatMap lexC L0)),(2,AV.list LK.nil 0 0 []),(3,o3 i0),(4,i6 (↑i0:Int)),(5,AV.eaddr [st a,st b,st c,st d,lro e 2 g]),(6,lro L1.length 5 (List.flatMap lexC L1)),(7,bo (b7 i1)),(10,o10 i2),(13,AV.list LK.clip 0 1 []),(14,lro L0.length 5 (List.flatMap lexC L0)),(15,i6 (↑L0.length:Int)),(16,i6 (↑i0:Int)),(17,bo true),(18,i6 (↑i0:Int)),(19,AV.eaddr (st a::st b::st c::st d::lro e 2 g::r19)),(20,AV.agg [st a,st b,st c,st d,lro e 2 g]),(21,lro L0.length 5 (List.flatMap lexC L0)),(22,AV.eaddr [st c,st d,lro e 2 g]),(23,st c),(24,lro L1.length 5 (List.flatMap lexC L1)),(25,lro L0.length 5 (List.flatMap lexC L0)),(26,i6 (↑i0:Int)),(27,lro L2.length 5 (List.flatMap lexC L2)),(28,i6 (↑L2.length:Int)),(29,i6 (↑i1:Int)),(30,bo false),(42,lro L1.length 5 (List.flatMap lexC L1)),(43,i6 (↑L1.length:Int)),(44,bo false),(45,bo false),(46,bo true),(47,bo false),(48,bo false),(49,AV.list LK.clip 0 1 []),(50,lro L1.length 5 (List.flatMap lexC L1)),(51,i6 (↑L1.length:Int)),(52,i6 (↑i2:Int))] (S2 i2)
def f19_S3 (L0 L1 L2:List Lexm)(b7:Nat→Bool)(t1:List Ob)(o3:Nat→AV)(i0:Nat)(a b c d:ByteArray)(e:Nat)(g r19:List AV)(i1:Nat):St :=
  stOf 68 [9,12,31,32,33,34,35,36,37,38,39,40,41,53,54,55,56,57,58,59,60,61,62,63,64,65,66] [(0,lro L0.length 5 (List.flatMap lexC L0)),(2,AV.list LK.nil 0 0 []),(3,o3 i0),(4,i6 (↑i0:Int)),(5,AV.eaddr [st a,st b,st c,st d,lro e 2 g]),(6,lro L1.length 5 (List.flatMap lexC L1)),(7,bo (b7 i1)),(10,AV.list LK.clip 0 1 []),(13,AV.list LK.clip 0 1 []),(14,lro L0.length 5 (List.flatMap lexC L0)),(15,i6 (↑L0.length:Int)),(16,i6 (↑i0:Int)),(17,bo true),(18,i6 (↑i0:Int)),(19,AV.eaddr (st a::st b::st c::st d::lro e 2 g::r19)),(20,AV.agg [st a,st b,st c,st d,lro e 2 g]),(21,lro L0.length 5 (List.flatMap lexC L0)),(22,AV.eaddr [st c,st d,lro e 2 g]),(23,st c),(24,lro L1.length 5 (List.flatMap lexC L1)),(25,lro L0.length 5 (List.flatMap lexC L0)),(26,i6 (↑i0:Int)),(27,lro L2.length 5 (List.flatMap lexC L2)),(28,i6 (↑L2.length:Int)),(29,i6 (↑i1:Int)),(30,bo false),(42,lro L1.length 5 (List.flatMap lexC L1)),(43,i6 (↑L1.length:Int)),(44,bo false),(45,bo false),(46,bo true),(47,bo false),(48,bo false),(49,AV.list LK.clip 0 1 []),(50,lro L1.length 5 (List.flatMap lexC L1)),(51,i6 (↑L1.length:Int)),(52,i6 0)] t1
abbrev f19_D2:List Nat:=[61,60,59,58,57,56,12,55,54,53]
theorem f19_L2 (L0 L1 L2:List Lexm)(b7:Nat→Bool)(t1:List Ob)(o3:Nat→AV)(i0:Nat)(a b c d:ByteArray)(e:Nat)(g r19:List AV)(i1:Nat)(S2:Nat→List Ob)(o10:Nat→AV)(X:Ext)(call:Caller)(lf n:Nat)(x:Ex) (S' : St)
 (e0:o10 0=AV.list LK.clip 0 1 [])
 (e1:S2 0=t1)
 (hn:n<lf)
 (hs:∀ j,j<n→∃ Sx,vexec Tryd.prog X call lf 0 fg19 (loopN Tryd.f19 2) (f19_F2 L0 L1 L2 b7 o3 i0 a b c d e g r19 i1 S2 o10 j)=some (Ex.normal,Sx)∧forget f19_D2 Sx=(f19_F2 L0 L1 L2 b7 o3 i0 a b c d e g r19 i1 S2 o10 (j + 1)))
 (he:vexec Tryd.prog X call lf 0 fg19 (loopN Tryd.f19 2) (f19_F2 L0 L1 L2 b7 o3 i0 a b c d e g r19 i1 S2 o10 n)=some (x,S'))
 (hx:x ≠ Ex.normal):vexec Tryd.prog X call lf 0 fg19 (Go.Code.loop (loopN Tryd.f19 2)) (f19_S3 L0 L1 L2 b7 t1 o3 i0 a b c d e g r19 i1)=some (x,S') :=
  loop_runK (by kernel_rfl) (fun j=>(f19_F2 L0 L1 L2 b7 o3 i0 a b c d e g r19 i1 S2 o10 j)) n hn (by show forget f19_D2 (f19_S3 L0 L1 L2 b7 t1 o3 i0 a b c d e g r19 i1)=(f19_F2 L0 L1 L2 b7 o3 i0 a b c d e g r19 i1 S2 o10 0); unfold f19_F2; rw [e0,e1]; show _=_; kernel_rfl) hs he hx
theorem f19_s2_t (L0 L1 L2:List Lexm)(b7:Nat→Bool)(X:Ext)(call:Caller)(lf:Nat)(o3:Nat→AV)(i0:Nat)(a d e g:ByteArray)(h:Nat)(j r19:List AV)(i1:Nat)(S2:Nat→List Ob)(o10:Nat→AV)(i2:Nat)(k p q r:ByteArray)(t:Nat)(u r54:List AV)(v60:AV)(s60:List Ob)
 (h0:decide ((↑i2:Int)<(↑L1.length:Int))=true)
 (h1:keep (S2 i2) (indexAddrv Tryd.prog 22 (S2 i2) (lro L1.length 5 (List.flatMap lexC L1)) (i6 (↑i2:Int)))=some (AV.eaddr (st k::st p::st q::st r::lro t 2 u::r54),S2 i2))
 (h2:appendv Tryd.prog 25 (S2 i2) 0 (o10 i2) (AV.list LK.clip 1 1 [st k])=some (v60,s60))
 (e0:o10 (i2 + 1)=v60)
 (e1:(↑(i2 + 1):Int)=w6 ((↑i2:Int) + 1))
 (e2:S2 (i2 + 1)=s60):∃ Sx,vexec Tryd.prog X call lf 0 fg19 (loopN Tryd.f19 2) (f19_F2 L0 L1 L2 b7 o3 i0 a d e g h j r19 i1 S2 o10 i2)=some (Ex.normal,Sx)∧forget f19_D2 Sx=(f19_F2 L0 L1 L2 b7 o3 i0 a d e g h j r19 i1 S2 o10 (i2 + 1)) :=
  ⟨stOf 68 [9,31,32,33,34,35,36,37,38,39,40,41,62,63,64,65,66] [(0,lro L0.length 5 (List.flatMap lexC L0)),(2,AV.list LK.nil 0 0 []),(3,o3 i0),(4,i6 (↑i0:Int)),(5,AV.eaddr [st a,st d,st e,st g,lro h 2 j]),(6,lro L1.length 5 (List.flatMap lexC L1)),(7,bo (b7 i1)),(10,v60),(12,AV.eaddr [st k,st p,st q,st r,lro t 2 u]),(13,AV.list LK.clip 0 1 []),(14,lro L0.length 5 (List.flatMap lexC L0)),(15,i6 (↑L0.length:Int)),(16,i6 (↑i0:Int)),(17,bo true),(18,i6 (↑i0:Int)),(19,AV.eaddr (st a::st d::st e::st g::lro h 2 j::r19)),(20,AV.agg [st a,st d,st e,st g,lro h 2 j]),(21,lro L0.length 5 (List.flatMap lexC L0)),(22,AV.eaddr [st e,st g,lro h 2 j]),(23,st e),(24,lro L1.length 5 (List.flatMap lexC L1)),(25,lro L0.length 5 (List.flatMap lexC L0)),(26,i6 (↑i0:Int)),(27,lro L2.length 5 (List.flatMap lexC L2)),(28,i6 (↑L2.length:Int)),(29,i6 (↑i1:Int)),(30,bo false),(42,lro L1.length 5 (List.flatMap lexC L1)),(43,i6 (↑L1.length:Int)),(44,bo false),(45,bo false),(46,bo true),(47,bo false),(48,bo false),(49,AV.list LK.clip 0 1 []),(50,lro L1.length 5 (List.flatMap lexC L1)),(51,i6 (↑L1.length:Int)),(52,i6 (w6 ((↑i2:Int) + 1))),(53,bo true),(54,AV.eaddr (st k::st p::st q::st r::lro t 2 u::r54)),(55,AV.agg [st k,st p,st q,st r,lro t 2 u]),(56,o10 i2),(57,AV.eaddr [st k,st p,st q,st r,lro t 2 u]),(58,st k),(59,AV.list LK.clip 1 1 [st k]),(60,v60),(61,i6 (w6 ((↑i2:Int) + 1)))] s60,around_sound (ans:=[(1,Ans.b true),(4,Ans.v (AV.eaddr (st k::st p::st q::st r::lro t 2 u::r54))),(11,Ans.c v60 s60)]) (by kernel_rfl) (ai h0 (ai h1 (ai h2 trivial))),by unfold f19_F2; rw [e0,e1,e2]; show _=_; kernel_rfl⟩
def f19_S4 (L0 L1 L2:List Lexm)(b7:Nat→Bool)(o3:Nat→AV)(i0:Nat)(a b c d:ByteArray)(e:Nat)(g r19:List AV)(i1:Nat)(S2:Nat→List Ob)(o10:Nat→AV)(i2:Nat):St :=
  stOf 68 [9,12,31,32,33,34,35,36,37,38,39,40,41,54,55,56,57,58,59,60,61,62,63,64,65,66] [(0,lro L0.length 5 (List.flatMap lexC L0)),(2,AV.list LK.nil 0 0 []),(3,o3 i0),(4,i6 (↑i0:Int)),(5,AV.eaddr [st a,st b,st c,st d,lro e 2 g]),(6,lro L1.length 5 (List.flatMap lexC L1)),(7,bo (b7 i1)),(10,o10 i2),(13,AV.list LK.clip 0 1 []),(14,lro L0.length 5 (List.flatMap lexC L0)),(15,i6 (↑L0.length:Int)),(16,i6 (↑i0:Int)),(17,bo true),(18,i6 (↑i0:Int)),(19,AV.eaddr (st a::st b::st c::st d::lro e 2 g::r19)),(20,AV.agg [st a,st b,st c,st d,lro e 2 g]),(21,lro L0.length 5 (List.flatMap lexC L0)),(22,AV.eaddr [st c,st d,lro e 2 g]),(23,st c),(24,lro L1.length 5 (List.flatMap lexC L1)),(25,lro L0.length 5 (List.flatMap lexC L0)),(26,i6 (↑i0:Int)),(27,lro L2.length 5 (List.flatMap lexC L2)),(28,i6 (↑L2.length:Int)),(29,i6 (↑i1:Int)),(30,bo false),(42,lro L1.length 5 (List.flatMap lexC L1)),(43,i6 (↑L1.length:Int)),(44,bo false),(45,bo false),(46,bo true),(47,bo false),(48,bo false),(49,AV.list LK.clip 0 1 []),(50,lro L1.length 5 (List.flatMap lexC L1)),(51,i6 (↑L1.length:Int)),(52,i6 (↑i2:Int)),(53,bo false)] (S2 i2)
theorem f19_r2_f (L0 L1 L2:List Lexm)(b7:Nat→Bool)(X:Ext)(call:Caller)(lf:Nat)(o3:Nat→AV)(i0:Nat)(a c d e:ByteArray)(g:Nat)(h r19:List AV)(i1:Nat)(S2:Nat→List Ob)(o10:Nat→AV)(i2:Nat)
 (h0:decide ((↑i2:Int)<(↑L1.length:Int))=false):vexec Tryd.prog X call lf 0 fg19 (loopN Tryd.f19 2) (f19_F2 L0 L1 L2 b7 o3 i0 a c d e g h r19 i1 S2 o10 i2)=some (Ex.exit 4,(f19_S4 L0 L1 L2 b7 o3 i0 a c d e g h r19 i1 S2 o10 i2)) :=
  around_sound (ans:=[(1,Ans.b false)]) (by kernel_rfl) (ai h0 trivial)
theorem f19_s0_tlfftlf (L0 L1 L2:List Lexm)(b7:Nat→Bool)(t1 t64:List Ob)(v64:AV)(X:Ext)(call:Caller)(lf:Nat)(S0:Nat→List Ob)(o3:Nat→AV)(i0:Nat)(a d e g:ByteArray)(h:Nat)(j r19:List AV)(i1:Nat)(S2:Nat→List Ob)(o10:Nat→AV)(i2:Nat)(v65:AV)(s65:List Ob)
 (h0:decide ((↑i0:Int)<(↑L0.length:Int))=true)
 (h1:keep (S0 i0) (indexAddrv Tryd.prog 22 (S0 i0) (lro L0.length 5 (List.flatMap lexC L0)) (i6 (↑i0:Int)))=some (AV.eaddr (st a::st d::st e::st g::lro h 2 j::r19),S0 i0))
 (h2:callv X call false 34 [lro L0.length 5 (List.flatMap lexC L0),st e] (S0 i0) 0=some (lro L1.length 5 (List.flatMap lexC L1),S0 i0))
 (h3:slc Tryd.prog 22 (S0 i0) false 0 (lro L0.length 5 (List.flatMap lexC L0)) none (some (i6 (↑i0:Int))) none=some (lro L2.length 5 (List.flatMap lexC L2),S0 i0))
 (h4:vexec Tryd.prog X call lf 0 fg19 (Code.loop (loopN Tryd.f19 1)) (f19_S1 L0 L1 L2 S0 o3 i0 a d e g h j r19)=some (Ex.exit 2,(f19_S2 L0 L1 L2 b7 t1 o3 i0 a d e g h j r19 i1)))
 (h5:decide ((↑L1.length:Int)<2)=false)
 (h6:b7 i1=true)
 (h7:vexec Tryd.prog X call lf 0 fg19 (Code.loop (loopN Tryd.f19 2)) (f19_S3 L0 L1 L2 b7 t1 o3 i0 a d e g h j r19 i1)=some (Ex.exit 4,(f19_S4 L0 L1 L2 b7 o3 i0 a d e g h j r19 i1 S2 o10 i2)))
 (h8:bsl Tryd.prog 28 1 (S2 i2) false 0 [(0,o10 i2)]=some (v64,t64))
 (h9:appendv Tryd.prog 28 t64 0 (o3 i0) v64=some (v65,s65))
 (e0:o3 (i0 + 1)=v65)
 (e1:(↑(i0 + 1):Int)=w6 ((↑i0:Int) + 1))
 (e2:S0 (i0 + 1)=s65):∃ Sx,vexec Tryd.prog X call lf 0 fg19 (loopN Tryd.f19 0) (f19_F0 L0 S0 o3 i0)=some (Ex.normal,Sx)∧forget f19_D0 Sx=(f19_F0 L0 S0 o3 (i0 + 1)) :=
  ⟨stOf 68 [9,12,31,32,33,34,35,36,37,38,39,40,41,54,55,56,57,58,59,60,61] [(0,lro L0.length 5 (List.flatMap lexC L0)),(2,AV.list LK.nil 0 0 []),(3,v65),(4,i6 (↑i0:Int)),(5,AV.eaddr [st a,st d,st e,st g,lro h 2 j]),(6,lro L1.length 5 (List.flatMap lexC L1)),(7,bo (b7 i1)),(10,o10 i2),(13,AV.list LK.clip 0 1 []),(14,lro L0.length 5 (List.flatMap lexC L0)),(15,i6 (↑L0.length:Int)),(16,i6 (w6 ((↑i0:Int) + 1))),(17,bo true),(18,i6 (↑i0:Int)),(19,AV.eaddr (st a::st d::st e::st g::lro h 2 j::r19)),(20,AV.agg [st a,st d,st e,st g,lro h 2 j]),(21,lro L0.length 5 (List.flatMap lexC L0)),(22,AV.eaddr [st e,st g,lro h 2 j]),(23,st e),(24,lro L1.length 5 (List.flatMap lexC L1)),(25,lro L0.length 5 (List.flatMap lexC L0)),(26,i6 (↑i0:Int)),(27,lro L2.length 5 (List.flatMap lexC L2)),(28,i6 (↑L2.length:Int)),(29,i6 (↑i1:Int)),(30,bo false),(42,lro L1.length 5 (List.flatMap lexC L1)),(43,i6 (↑L1.length:Int)),(44,bo false),(45,bo false),(46,bo true),(47,bo false),(48,bo false),(49,AV.list LK.clip 0 1 []),(50,lro L1.length 5 (List.flatMap lexC L1)),(51,i6 (↑L1.length:Int)),(52,i6 (↑i2:Int)),(53,bo false),(62,o3 i0),(63,o10 i2),(64,v64),(65,v65),(66,i6 (w6 ((↑i0:Int) + 1)))] s65,around_sound (ans:=[(1,Ans.b true),(5,Ans.v (AV.eaddr (st a::st d::st e::st g::lro h 2 j::r19))),(11,Ans.v (lro L1.length 5 (List.flatMap lexC L1))),(18,Ans.v (lro L2.length 5 (List.flatMap lexC L2))),(21,Ans.l (Ex.exit 2) (f19_S2 L0 L1 L2 b7 t1 o3 i0 a d e g h j r19 i1)),(25,Ans.b false),(28,Ans.b true),(40,Ans.l (Ex.exit 4) (f19_S4 L0 L1 L2 b7 o3 i0 a d e g h j r19 i1 S2 o10 i2)),(44,Ans.c v64 t64),(45,Ans.c v65 s65)]) (by kernel_rfl) (ai h0 (ai h1 (ai h2 (ai h3 (ai h4 (ai h5 (ai h6 (ai h7 (ai h8 (ai h9 trivial)))))))))),by unfold f19_F0; rw [e0,e1,e2]; show _=_; kernel_rfl⟩
theorem f19_s0_tlfff (L0 L1 L2:List Lexm)(b7:Nat→Bool)(t1:List Ob)(X:Ext)(call:Caller)(lf:Nat)(S0:Nat→List Ob)(o3:Nat→AV)(i0:Nat)(a c d e:ByteArray)(g:Nat)(h r19:List AV)(i1:Nat)
 (h0:decide ((↑i0:Int)<(↑L0.length:Int))=true)
 (h1:keep (S0 i0) (indexAddrv Tryd.prog 22 (S0 i0) (lro L0.length 5 (List.flatMap lexC L0)) (i6 (↑i0:Int)))=some (AV.eaddr (st a::st c::st d::st e::lro g 2 h::r19),S0 i0))
 (h2:callv X call false 34 [lro L0.length 5 (List.flatMap lexC L0),st d] (S0 i0) 0=some (lro L1.length 5 (List.flatMap lexC L1),S0 i0))
 (h3:slc Tryd.prog 22 (S0 i0) false 0 (lro L0.length 5 (List.flatMap lexC L0)) none (some (i6 (↑i0:Int))) none=some (lro L2.length 5 (List.flatMap lexC L2),S0 i0))
 (h4:vexec Tryd.prog X call lf 0 fg19 (Code.loop (loopN Tryd.f19 1)) (f19_S1 L0 L1 L2 S0 o3 i0 a c d e g h r19)=some (Ex.exit 2,(f19_S2 L0 L1 L2 b7 t1 o3 i0 a c d e g h r19 i1)))
 (h5:decide ((↑L1.length:Int)<2)=false)
 (h6:b7 i1=false)
 (e0:o3 (i0 + 1)=o3 i0)
 (e1:(↑(i0 + 1):Int)=w6 ((↑i0:Int) + 1))
 (e2:S0 (i0 + 1)=t1):∃ Sx,vexec Tryd.prog X call lf 0 fg19 (loopN Tryd.f19 0) (f19_F0 L0 S0 o3 i0)=some (Ex.normal,Sx)∧forget f19_D0 Sx=(f19_F0 L0 S0 o3 (i0 + 1)) :=
  ⟨stOf 68 [9,10,12,31,32,33,34,35,36,37,38,39,40,41,49,50,51,52,53,54,55,56,57,58,59,60,61,62,63,64,65] [(0,lro L0.length 5 (List.flatMap lexC L0)),(2,AV.list LK.nil 0 0 []),(3,o3 i0),(4,i6 (↑i0:Int)),(5,AV.eaddr [st a,st c,st d,st e,lro g 2 h]),(6,lro L1.length 5 (List.flatMap lexC L1)),(7,bo (b7 i1)),(13,AV.list LK.clip 0 1 []),(14,lro L0.length 5 (List.flatMap lexC L0)),(15,i6 (↑L0.length:Int)),(16,i6 (w6 ((↑i0:Int) + 1))),(17,bo true),(18,i6 (↑i0:Int)),(19,AV.eaddr (st a::st c::st d::st e::lro g 2 h::r19)),(20,AV.agg [st a,st c,st d,st e,lro g 2 h]),(21,lro L0.length 5 (List.flatMap lexC L0)),(22,AV.eaddr [st d,st e,lro g 2 h]),(23,st d),(24,lro L1.length 5 (List.flatMap lexC L1)),(25,lro L0.length 5 (List.flatMap lexC L0)),(26,i6 (↑i0:Int)),(27,lro L2.length 5 (List.flatMap lexC L2)),(28,i6 (↑L2.length:Int)),(29,i6 (↑i1:Int)),(30,bo false),(42,lro L1.length 5 (List.flatMap lexC L1)),(43,i6 (↑L1.length:Int)),(44,bo false),(45,bo false),(46,bo false),(47,bo true),(48,bo true),(66,i6 (w6 ((↑i0:Int) + 1)))] t1,around_sound (ans:=[(1,Ans.b true),(5,Ans.v (AV.eaddr (st a::st c::st d::st e::lro g 2 h::r19))),(11,Ans.v (lro L1.length 5 (List.flatMap lexC L1))),(18,Ans.v (lro L2.length 5 (List.flatMap lexC L2))),(21,Ans.l (Ex.exit 2) (f19_S2 L0 L1 L2 b7 t1 o3 i0 a c d e g h r19 i1)),(25,Ans.b false),(28,Ans.b false)]) (by kernel_rfl) (ai h0 (ai h1 (ai h2 (ai h3 (ai h4 (ai h5 (ai h6 trivial))))))),by unfold f19_F0; rw [e0,e1,e2]; show _=_; kernel_rfl⟩
def f19_S5 (L0:List Lexm)(S0:Nat→List Ob)(o3:Nat→AV)(i0:Nat):St :=
  stOf 68 [4,5,6,7,9,10,12,18,19,20,21,22,23,24,25,26,27,28,29,30,31,32,33,34,35,36,37,38,39,40,41,42,43,44,45,46,47,48,49,50,51,52,53,54,55,56,57,58,59,60,61,62,63,64,65,66] [(0,lro L0.length 5 (List.flatMap lexC L0)),(2,AV.list LK.nil 0 0 []),(3,o3 i0),(13,AV.list LK.clip 0 1 []),(14,lro L0.length 5 (List.flatMap lexC L0)),(15,i6 (↑L0.length:Int)),(16,i6 (↑i0:Int)),(17,bo false)] (S0 i0)
theorem f19_r0_f (L0:List Lexm)(X:Ext)(call:Caller)(lf:Nat)(S0:Nat→List Ob)(o3:Nat→AV)(i0:Nat)
 (h0:decide ((↑i0:Int)<(↑L0.length:Int))=false):vexec Tryd.prog X call lf 0 fg19 (loopN Tryd.f19 0) (f19_F0 L0 S0 o3 i0)=some (Ex.exit 0,(f19_S5 L0 S0 o3 i0)) :=
  around_sound (ans:=[(1,Ans.b false)]) (by kernel_rfl) (ai h0 trivial)
theorem f19_plf (L0:List Lexm)(X:Ext)(call:Caller)(lf:Nat)(S0:Nat→List Ob)(o3:Nat→AV)(i0:Nat)(rE:AV)(sE:List Ob)
 (h0:vexec Tryd.prog X call lf 0 fg19 (Code.loop (loopN Tryd.f19 0)) (f19_S0 L0)=some (Ex.exit 0,(f19_S5 L0 S0 o3 i0)))
 (h1:vend1 [] 0 (S0 i0) [o3 i0]=some (rE,sE)):vbody Tryd.prog X call lf fg19 Tryd.f19 (codeOf Tryd.f19) [lexsV L0] [] 0=some (rE,sE) :=
  along_sound (ans:=[(9,Ans.l (Ex.exit 0) (f19_S5 L0 S0 o3 i0)),(13,Ans.c rE sE)]) (by kernel_rfl) (ai h0 (ai h1 trivial))
def f19_o1 (L2:List Lexm)(b7:Nat→Bool)(a:ByteArray)(i1:Nat)(b:ByteArray):Nat :=
  (match decide ((↑i1:Int)<(↑L2.length:Int)) with
  | true=>(match b7 i1 with
    | true=>(match (!ByteArray.toList b == ByteArray.toList a) with
      | true=>0
      | false=>0)
    | false=>0)
  | false=>1)
theorem f19_B1 (L0 L1 L2:List Lexm)(b7:Nat→Bool)(t1:List Ob)(X:Ext)(call:Caller)(lf:Nat)(o3:Nat→AV)(i0:Nat)(a b c d:ByteArray)(e:Nat)(g r19:List AV)(i1:Nat)(j k p q:ByteArray)(r:Nat)(t r31:List AV)
 (g0:decide ((↑i1:Int)<(↑L2.length:Int))=true→keep t1 (indexAddrv Tryd.prog 22 t1 (lro L2.length 5 (List.flatMap lexC L2)) (i6 (↑i1:Int)))=some (AV.eaddr (st j::st k::st p::st q::lro r 2 t::r31),t1))
 (e0:decide ((↑i1:Int)<(↑L2.length:Int))=true→b7 i1=true→(!ByteArray.toList p == ByteArray.toList c)=true→b7 (i1 + 1)=true)
 (e1:decide ((↑i1:Int)<(↑L2.length:Int))=true→(↑(i1 + 1):Int)=w6 ((↑i1:Int) + 1))
 (e2:decide ((↑i1:Int)<(↑L2.length:Int))=true→b7 i1=true→(!ByteArray.toList p == ByteArray.toList c)=false→b7 (i1 + 1)=false)
 (e3:decide ((↑i1:Int)<(↑L2.length:Int))=true→b7 i1=false→b7 (i1 + 1)=false) :
    (f19_o1 L2 b7 c i1 p=0→∃ Sx,vexec Tryd.prog X call lf 0 fg19 (loopN Tryd.f19 1) (f19_F1 L0 L1 L2 b7 t1 o3 i0 a b c d e g r19 i1)=some (Ex.normal,Sx)∧forget f19_D1 Sx=(f19_F1 L0 L1 L2 b7 t1 o3 i0 a b c d e g r19 (i1 + 1)))∧(f19_o1 L2 b7 c i1 p=1→vexec Tryd.prog X call lf 0 fg19 (loopN Tryd.f19 1) (f19_F1 L0 L1 L2 b7 t1 o3 i0 a b c d e g r19 i1)=some (Ex.exit 2,(f19_S2 L0 L1 L2 b7 t1 o3 i0 a b c d e g r19 i1))):=by
  unfold f19_o1
  cases c0:decide ((↑i1:Int)<(↑L2.length:Int)) with
  | true =>
    cases c1:b7 i1 with
    | true =>
      cases c2:(!ByteArray.toList p == ByteArray.toList c) with
      | true =>
        exact ⟨fun _=>f19_s1_ttt L0 L1 L2 b7 t1 X call lf o3 i0 a b c d e g r19 i1 j k p q r t r31 c0 (g0 c0) c1 c2 (e0 c0 c1 c2) (e1 c0),fun h=>absurd (show (0:Nat)=1 from h) (by decide)⟩
      | false =>
        exact ⟨fun _=>f19_s1_ttf L0 L1 L2 b7 t1 X call lf o3 i0 a b c d e g r19 i1 j k p q r t r31 c0 (g0 c0) c1 c2 (e2 c0 c1 c2) (e1 c0),fun h=>absurd (show (0:Nat)=1 from h) (by decide)⟩
    | false =>
      exact ⟨fun _=>f19_s1_tf L0 L1 L2 b7 t1 X call lf o3 i0 a b c d e g r19 i1 j k p q r t r31 c0 (g0 c0) c1 (e3 c0 c1) (e1 c0),fun h=>absurd (show (0:Nat)=1 from h) (by decide)⟩
  | false =>
    exact ⟨fun h=>absurd (show (1:Nat)=0 from h) (by decide),fun _=>f19_r1_f L0 L1 L2 b7 t1 X call lf o3 i0 a b c d e g r19 i1 c0⟩
def f4_F0 (L0:List Lexm)(m15:Nat)(c15:List AV)(m17:Nat)(c17:List AV)(i0:Nat):St :=
  stOf 39 [2,5,26,27,28,29,30,31,32,33,34,35,36,37,38] [(0,lro L0.length 5 (List.flatMap lexC L0)),(3,lro m15 1 c15),(4,lro m17 1 c17),(6,bo true),(7,bo false),(8,bo false),(9,lro L0.length 5 (List.flatMap lexC L0)),(10,bo true),(11,bo false),(12,bo false),(14,lro L0.length 5 (List.flatMap lexC L0)),(15,lro m15 1 c15),(16,lro L0.length 5 (List.flatMap lexC L0)),(17,lro m17 1 c17),(18,lro m15 1 c15),(19,i6 (↑m15:Int)),(20,lro m17 1 c17),(21,i6 (↑m17:Int)),(22,bo false),(23,lro m15 1 c15),(24,i6 (↑m15:Int)),(25,i6 (↑i0:Int))] []
def f4_S0 (L0:List Lexm)(m15:Nat)(c15:List AV)(m17:Nat)(c17:List AV):St :=
  stOf 39 [] [(0,lro L0.length 5 (List.flatMap lexC L0)),(2,bo false),(3,lro m15 1 c15),(4,lro m17 1 c17),(6,bo true),(7,bo false),(8,bo false),(9,lro L0.length 5 (List.flatMap lexC L0)),(10,bo true),(11,bo false),(12,bo false),(14,lro L0.length 5 (List.flatMap lexC L0)),(15,lro m15 1 c15),(16,lro L0.length 5 (List.flatMap lexC L0)),(17,lro m17 1 c17),(18,lro m15 1 c15),(19,i6 (↑m15:Int)),(20,lro m17 1 c17),(21,i6 (↑m17:Int)),(22,bo false),(23,lro m15 1 c15),(24,i6 (↑m15:Int)),(25,i6 0)] []
abbrev f4_D0:List Nat:=[38,2,37,36,35,34,33,32,31,30,29,28,5,27,26]
theorem f4_L0 (L0:List Lexm)(m15:Nat)(c15:List AV)(m17:Nat)(c17:List AV)(X:Ext)(call:Caller)(lf n:Nat)(x:Ex) (S' : St)
 (hn:n<lf)
 (hs:∀ j,j<n→∃ Sx,vexec Tryd.prog X call lf 0 noFg (loopN Tryd.f4 0) (f4_F0 L0 m15 c15 m17 c17 j)=some (Ex.normal,Sx)∧forget f4_D0 Sx=(f4_F0 L0 m15 c15 m17 c17 (j + 1)))
 (he:vexec Tryd.prog X call lf 0 noFg (loopN Tryd.f4 0) (f4_F0 L0 m15 c15 m17 c17 n)=some (x,S'))
 (hx:x ≠ Ex.normal):vexec Tryd.prog X call lf 0 noFg (Go.Code.loop (loopN Tryd.f4 0)) (f4_S0 L0 m15 c15 m17 c17)=some (x,S') :=
  loop_runK (by kernel_rfl) (fun j=>(f4_F0 L0 m15 c15 m17 c17 j)) n hn (by show forget f4_D0 (f4_S0 L0 m15 c15 m17 c17)=(f4_F0 L0 m15 c15 m17 c17 0); unfold f4_F0; show _=_; kernel_rfl) hs he hx
theorem f4_s0_tt (L0:List Lexm)(X:Ext)(call:Caller)(lf m15:Nat)(c15:List AV)(m17:Nat)(c17:List AV)(i0:Nat)(a:List ByteArray)(r30:List AV)(c:List ByteArray)(r34:List AV)
 (h0:decide ((↑i0:Int)<(↑m15:Int))=true)
 (h1:keep [] (indexAddrv Tryd.prog 28 [] (lro m15 1 c15) (i6 (↑i0:Int)))=some (AV.eaddr (lro a.length 1 (List.map st a)::r30),[]))
 (h2:keep [] (indexAddrv Tryd.prog 28 [] (lro m17 1 c17) (i6 (↑i0:Int)))=some (AV.eaddr (lro c.length 1 (List.map st c)::r34),[]))
 (h3:callv X call true 20 [lro a.length 1 (List.map st a),lro c.length 1 (List.map st c)] [] 0=some (bo true,[]))
 (e0:(↑(i0 + 1):Int)=w6 ((↑i0:Int) + 1)):∃ Sx,vexec Tryd.prog X call lf 0 noFg (loopN Tryd.f4 0) (f4_F0 L0 m15 c15 m17 c17 i0)=some (Ex.normal,Sx)∧forget f4_D0 Sx=(f4_F0 L0 m15 c15 m17 c17 (i0 + 1)) :=
  ⟨stOf 39 [2] [(0,lro L0.length 5 (List.flatMap lexC L0)),(3,lro m15 1 c15),(4,lro m17 1 c17),(5,i6 (↑i0:Int)),(6,bo true),(7,bo false),(8,bo false),(9,lro L0.length 5 (List.flatMap lexC L0)),(10,bo true),(11,bo false),(12,bo false),(14,lro L0.length 5 (List.flatMap lexC L0)),(15,lro m15 1 c15),(16,lro L0.length 5 (List.flatMap lexC L0)),(17,lro m17 1 c17),(18,lro m15 1 c15),(19,i6 (↑m15:Int)),(20,lro m17 1 c17),(21,i6 (↑m17:Int)),(22,bo false),(23,lro m15 1 c15),(24,i6 (↑m15:Int)),(25,i6 (w6 ((↑i0:Int) + 1))),(26,bo true),(27,i6 (↑i0:Int)),(28,lro m15 1 c15),(29,i6 (↑i0:Int)),(30,AV.eaddr (lro a.length 1 (List.map st a)::r30)),(31,lro a.length 1 (List.map st a)),(32,lro m17 1 c17),(33,i6 (↑i0:Int)),(34,AV.eaddr (lro c.length 1 (List.map st c)::r34)),(35,lro c.length 1 (List.map st c)),(36,bo true),(37,bo false),(38,i6 (w6 ((↑i0:Int) + 1)))] [],around_sound (ans:=[(1,Ans.b true),(9,Ans.v (AV.eaddr (lro a.length 1 (List.map st a)::r30))),(13,Ans.v (AV.eaddr (lro c.length 1 (List.map st c)::r34))),(15,Ans.v (bo true))]) (by kernel_rfl) (ai h0 (ai h1 (ai h2 (ai h3 trivial)))),by unfold f4_F0; rw [e0]; show _=_; kernel_rfl⟩
def f4_S1 (L0:List Lexm)(m15:Nat)(c15:List AV)(m17:Nat)(c17:List AV)(i0:Nat)(a:List ByteArray)(r30:List AV)(b:List ByteArray)(r34:List AV):St :=
  stOf 39 [38] [(0,lro L0.length 5 (List.flatMap lexC L0)),(2,bo false),(3,lro m15 1 c15),(4,lro m17 1 c17),(5,i6 (↑i0:Int)),(6,bo true),(7,bo false),(8,bo false),(9,lro L0.length 5 (List.flatMap lexC L0)),(10,bo true),(11,bo false),(12,bo false),(14,lro L0.length 5 (List.flatMap lexC L0)),(15,lro m15 1 c15),(16,lro L0.length 5 (List.flatMap lexC L0)),(17,lro m17 1 c17),(18,lro m15 1 c15),(19,i6 (↑m15:Int)),(20,lro m17 1 c17),(21,i6 (↑m17:Int)),(22,bo false),(23,lro m15 1 c15),(24,i6 (↑m15:Int)),(25,i6 (↑i0:Int)),(26,bo true),(27,i6 (↑i0:Int)),(28,lro m15 1 c15),(29,i6 (↑i0:Int)),(30,AV.eaddr (lro a.length 1 (List.map st a)::r30)),(31,lro a.length 1 (List.map st a)),(32,lro m17 1 c17),(33,i6 (↑i0:Int)),(34,AV.eaddr (lro b.length 1 (List.map st b)::r34)),(35,lro b.length 1 (List.map st b)),(36,bo false),(37,bo true)] []
theorem f4_r0_tf (L0:List Lexm)(X:Ext)(call:Caller)(lf m15:Nat)(c15:List AV)(m17:Nat)(c17:List AV)(i0:Nat)(a:List ByteArray)(r30:List AV)(c:List ByteArray)(r34:List AV)
 (h0:decide ((↑i0:Int)<(↑m15:Int))=true)
 (h1:keep [] (indexAddrv Tryd.prog 28 [] (lro m15 1 c15) (i6 (↑i0:Int)))=some (AV.eaddr (lro a.length 1 (List.map st a)::r30),[]))
 (h2:keep [] (indexAddrv Tryd.prog 28 [] (lro m17 1 c17) (i6 (↑i0:Int)))=some (AV.eaddr (lro c.length 1 (List.map st c)::r34),[]))
 (h3:callv X call true 20 [lro a.length 1 (List.map st a),lro c.length 1 (List.map st c)] [] 0=some (bo false,[])):vexec Tryd.prog X call lf 0 noFg (loopN Tryd.f4 0) (f4_F0 L0 m15 c15 m17 c17 i0)=some (Ex.ret,(f4_S1 L0 m15 c15 m17 c17 i0 a r30 c r34)) :=
  around_sound (ans:=[(1,Ans.b true),(9,Ans.v (AV.eaddr (lro a.length 1 (List.map st a)::r30))),(13,Ans.v (AV.eaddr (lro c.length 1 (List.map st c)::r34))),(15,Ans.v (bo false))]) (by kernel_rfl) (ai h0 (ai h1 (ai h2 (ai h3 trivial))))
theorem f4_pttfltf (L0:List Lexm)(X:Ext)(call:Caller)(lf m15:Nat)(c15:List AV)(m17:Nat)(c17:List AV)(i0:Nat)(a:List ByteArray)(r30:List AV)(c:List ByteArray)(r34:List AV)
 (h0:callv X call false 14 [] [] 0=some (bo true,[]))
 (h1:callv X call false 15 [lro L0.length 5 (List.flatMap lexC L0)] [] 0=some (bo true,[]))
 (h2:callv X call false 18 [lro L0.length 5 (List.flatMap lexC L0)] [] 0=some (lro m15 1 c15,[]))
 (h3:callv X call false 19 [lro L0.length 5 (List.flatMap lexC L0)] [] 0=some (lro m17 1 c17,[]))
 (h4:((↑m15:Int) != (↑m17:Int))=false)
 (h5:vexec Tryd.prog X call lf 0 noFg (Code.loop (loopN Tryd.f4 0)) (f4_S0 L0 m15 c15 m17 c17)=some (Ex.ret,(f4_S1 L0 m15 c15 m17 c17 i0 a r30 c r34))):vbody Tryd.prog X call lf noFg Tryd.f4 (codeOf Tryd.f4) [lexsV L0] [] 0=some (bo false,[]) :=
  along_sound (ans:=[(3,Ans.v (bo true)),(9,Ans.v (bo true)),(16,Ans.v (lro m15 1 c15)),(18,Ans.v (lro m17 1 c17)),(26,Ans.b false),(32,Ans.l Ex.ret (f4_S1 L0 m15 c15 m17 c17 i0 a r30 c r34))]) (by kernel_rfl) (ai h0 (ai h1 (ai h2 (ai h3 (ai h4 (ai h5 trivial))))))
def f4_S2 (L0:List Lexm)(m15:Nat)(c15:List AV)(m17:Nat)(c17:List AV)(i0:Nat):St :=
  stOf 39 [2,5,27,28,29,30,31,32,33,34,35,36,37,38] [(0,lro L0.length 5 (List.flatMap lexC L0)),(3,lro m15 1 c15),(4,lro m17 1 c17),(6,bo true),(7,bo false),(8,bo false),(9,lro L0.length 5 (List.flatMap lexC L0)),(10,bo true),(11,bo false),(12,bo false),(14,lro L0.length 5 (List.flatMap lexC L0)),(15,lro m15 1 c15),(16,lro L0.length 5 (List.flatMap lexC L0)),(17,lro m17 1 c17),(18,lro m15 1 c15),(19,i6 (↑m15:Int)),(20,lro m17 1 c17),(21,i6 (↑m17:Int)),(22,bo false),(23,lro m15 1 c15),(24,i6 (↑m15:Int)),(25,i6 (↑i0:Int)),(26,bo false)] []
theorem f4_r0_f (L0:List Lexm)(X:Ext)(call:Caller)(lf m15:Nat)(c15:List AV)(m17:Nat)(c17:List AV)(i0:Nat)
 (h0:decide ((↑i0:Int)<(↑m15:Int))=false):vexec Tryd.prog X call lf 0 noFg (loopN Tryd.f4 0) (f4_F0 L0 m15 c15 m17 c17 i0)=some (Ex.exit 0,(f4_S2 L0 m15 c15 m17 c17 i0)) :=
  around_sound (ans:=[(1,Ans.b false)]) (by kernel_rfl) (ai h0 trivial)
theorem f4_pttflf (L0:List Lexm)(X:Ext)(call:Caller)(lf m15:Nat)(c15:List AV)(m17:Nat)(c17:List AV)(i0:Nat)
 (h0:callv X call false 14 [] [] 0=some (bo true,[]))
 (h1:callv X call false 15 [lro L0.length 5 (List.flatMap lexC L0)] [] 0=some (bo true,[]))
 (h2:callv X call false 18 [lro L0.length 5 (List.flatMap lexC L0)] [] 0=some (lro m15 1 c15,[]))
 (h3:callv X call false 19 [lro L0.length 5 (List.flatMap lexC L0)] [] 0=some (lro m17 1 c17,[]))
 (h4:((↑m15:Int) != (↑m17:Int))=false)
 (h5:vexec Tryd.prog X call lf 0 noFg (Code.loop (loopN Tryd.f4 0)) (f4_S0 L0 m15 c15 m17 c17)=some (Ex.exit 0,(f4_S2 L0 m15 c15 m17 c17 i0))):vbody Tryd.prog X call lf noFg Tryd.f4 (codeOf Tryd.f4) [lexsV L0] [] 0=some (bo true,[]) :=
  along_sound (ans:=[(3,Ans.v (bo true)),(9,Ans.v (bo true)),(16,Ans.v (lro m15 1 c15)),(18,Ans.v (lro m17 1 c17)),(26,Ans.b false),(32,Ans.l (Ex.exit 0) (f4_S2 L0 m15 c15 m17 c17 i0))]) (by kernel_rfl) (ai h0 (ai h1 (ai h2 (ai h3 (ai h4 (ai h5 trivial))))))
theorem f4_ptft (L0:List Lexm)(X:Ext)(call:Caller)(lf:Nat)
 (h0:callv X call false 14 [] [] 0=some (bo true,[]))
 (h1:callv X call false 15 [lro L0.length 5 (List.flatMap lexC L0)] [] 0=some (bo false,[]))
 (h2:callv X call false 14 [] [] 0=some (bo true,[])):vbody Tryd.prog X call lf noFg Tryd.f4 (codeOf Tryd.f4) [lexsV L0] [] 0=some (bo true,[]) :=
  along_sound (ans:=[(3,Ans.v (bo true)),(9,Ans.v (bo false)),(15,Ans.v (bo true))]) (by kernel_rfl) (ai h0 (ai h1 (ai h2 trivial)))
def f4_o0 (m15 i0:Nat)(b0:Bool):Nat :=
  (match decide ((↑i0:Int)<(↑m15:Int)) with
  | true=>(match b0 with
    | true=>0
    | false=>1)
  | false=>2)
theorem f4_B0 (L0:List Lexm)(X:Ext)(call:Caller)(lf m15:Nat)(c15:List AV)(m17:Nat)(c17:List AV)(i0:Nat)(a:List ByteArray)(r30:List AV)(b:List ByteArray)(r34:List AV)(b0:Bool)
 (g0:decide ((↑i0:Int)<(↑m15:Int))=true→keep [] (indexAddrv Tryd.prog 28 [] (lro m15 1 c15) (i6 (↑i0:Int)))=some (AV.eaddr (lro a.length 1 (List.map st a)::r30),[]))
 (g1:decide ((↑i0:Int)<(↑m15:Int))=true→keep [] (indexAddrv Tryd.prog 28 [] (lro m17 1 c17) (i6 (↑i0:Int)))=some (AV.eaddr (lro b.length 1 (List.map st b)::r34),[]))
 (g2:decide ((↑i0:Int)<(↑m15:Int))=true→callv X call true 20 [lro a.length 1 (List.map st a),lro b.length 1 (List.map st b)] [] 0=some (bo b0,[]))
 (e0:decide ((↑i0:Int)<(↑m15:Int))=true→(↑(i0 + 1):Int)=w6 ((↑i0:Int) + 1)) :
    (f4_o0 m15 i0 b0=0→∃ Sx,vexec Tryd.prog X call lf 0 noFg (loopN Tryd.f4 0) (f4_F0 L0 m15 c15 m17 c17 i0)=some (Ex.normal,Sx)∧forget f4_D0 Sx=(f4_F0 L0 m15 c15 m17 c17 (i0 + 1)))∧(f4_o0 m15 i0 b0=1→vexec Tryd.prog X call lf 0 noFg (loopN Tryd.f4 0) (f4_F0 L0 m15 c15 m17 c17 i0)=some (Ex.ret,(f4_S1 L0 m15 c15 m17 c17 i0 a r30 b r34)))∧(f4_o0 m15 i0 b0=2→vexec Tryd.prog X call lf 0 noFg (loopN Tryd.f4 0) (f4_F0 L0 m15 c15 m17 c17 i0)=some (Ex.exit 0,(f4_S2 L0 m15 c15 m17 c17 i0))):=by
  unfold f4_o0
  cases c0:decide ((↑i0:Int)<(↑m15:Int)) with
  | true =>
    cases c1:b0 with
    | true =>
      exact ⟨fun _=>f4_s0_tt L0 X call lf m15 c15 m17 c17 i0 a r30 b r34 c0 (g0 c0) (g1 c0) (by have:=(g2 c0); rw [c1] at this; exact this) (e0 c0),fun h=>absurd (show (0:Nat)=1 from h) (by decide),fun h=>absurd (show (0:Nat)=2 from h) (by decide)⟩
    | false =>
      exact ⟨fun h=>absurd (show (1:Nat)=0 from h) (by decide),fun _=>f4_r0_tf L0 X call lf m15 c15 m17 c17 i0 a r30 b r34 c0 (g0 c0) (g1 c0) (by have:=(g2 c0); rw [c1] at this; exact this),fun h=>absurd (show (1:Nat)=2 from h) (by decide)⟩
  | false =>
    exact ⟨fun h=>absurd (show (2:Nat)=0 from h) (by decide),fun h=>absurd (show (2:Nat)=1 from h) (by decide),fun _=>f4_r0_f L0 X call lf m15 c15 m17 c17 i0 c0⟩
theorem f4_X0 (L0:List Lexm)(X:Ext)(call:Caller)(lf m15:Nat)(c15:List AV)(m17:Nat)(c17:List AV)(i0:Nat)(a:List ByteArray)(r30:List AV)(b:List ByteArray)(r34:List AV)(b0:Bool)
 (g0:decide ((↑i0:Int)<(↑m15:Int))=true→keep [] (indexAddrv Tryd.prog 28 [] (lro m15 1 c15) (i6 (↑i0:Int)))=some (AV.eaddr (lro a.length 1 (List.map st a)::r30),[]))
 (g1:decide ((↑i0:Int)<(↑m15:Int))=true→keep [] (indexAddrv Tryd.prog 28 [] (lro m17 1 c17) (i6 (↑i0:Int)))=some (AV.eaddr (lro b.length 1 (List.map st b)::r34),[]))
 (g2:decide ((↑i0:Int)<(↑m15:Int))=true→callv X call true 20 [lro a.length 1 (List.map st a),lro b.length 1 (List.map st b)] [] 0=some (bo b0,[])) :
    (f4_o0 m15 i0 b0=1→vexec Tryd.prog X call lf 0 noFg (loopN Tryd.f4 0) (f4_F0 L0 m15 c15 m17 c17 i0)=some (Ex.ret,(f4_S1 L0 m15 c15 m17 c17 i0 a r30 b r34)))∧(f4_o0 m15 i0 b0=2→vexec Tryd.prog X call lf 0 noFg (loopN Tryd.f4 0) (f4_F0 L0 m15 c15 m17 c17 i0)=some (Ex.exit 0,(f4_S2 L0 m15 c15 m17 c17 i0))):=by
  unfold f4_o0
  cases c0:decide ((↑i0:Int)<(↑m15:Int)) with
  | true =>
    cases c1:b0 with
    | true =>
      exact ⟨fun h=>absurd (show (0:Nat)=1 from h) (by decide),fun h=>absurd (show (0:Nat)=2 from h) (by decide)⟩
    | false =>
      exact ⟨fun _=>f4_r0_tf L0 X call lf m15 c15 m17 c17 i0 a r30 b r34 c0 (g0 c0) (g1 c0) (by have:=(g2 c0); rw [c1] at this; exact this),fun h=>absurd (show (1:Nat)=2 from h) (by decide)⟩
  | false =>
    exact ⟨fun h=>absurd (show (2:Nat)=1 from h) (by decide),fun _=>f4_r0_f L0 X call lf m15 c15 m17 c17 i0 c0⟩
theorem f4_M (L0:List Lexm)(m15:Nat)(c15:List AV)(m17:Nat)(c17:List AV)(X:Ext)(call:Caller)(lf n:Nat)(a:Nat→List ByteArray)(r30:Nat→List AV)(b:Nat→List ByteArray)(r34:Nat→List AV)(b0:Nat→Bool)
 (hn:n<lf)
 (g0:∀ i0,i0 ≤ n→decide ((↑i0:Int)<(↑m15:Int))=true→keep [] (indexAddrv Tryd.prog 28 [] (lro m15 1 c15) (i6 (↑i0:Int)))=some (AV.eaddr (lro (List.length (a i0)) 1 (List.map st (a i0))::(r30 i0)),[]))
 (g1:∀ i0,i0 ≤ n→decide ((↑i0:Int)<(↑m15:Int))=true→keep [] (indexAddrv Tryd.prog 28 [] (lro m17 1 c17) (i6 (↑i0:Int)))=some (AV.eaddr (lro (List.length (b i0)) 1 (List.map st (b i0))::(r34 i0)),[]))
 (g2:∀ i0,i0 ≤ n→decide ((↑i0:Int)<(↑m15:Int))=true→callv X call true 20 [lro (List.length (a i0)) 1 (List.map st (a i0)),lro (List.length (b i0)) 1 (List.map st (b i0))] [] 0=some (bo (b0 i0),[]))
 (e0:∀ i0,i0<n→decide ((↑i0:Int)<(↑m15:Int))=true→(↑(i0 + 1):Int)=w6 ((↑i0:Int) + 1))
 (hz:∀ j,j<n→f4_o0 m15 j (b0 j)=0) :
    (f4_o0 m15 n (b0 n)=1→callv X call false 14 [] [] 0=some (bo true,[])→callv X call false 15 [lro L0.length 5 (List.flatMap lexC L0)] [] 0=some (bo true,[])→callv X call false 18 [lro L0.length 5 (List.flatMap lexC L0)] [] 0=some (lro m15 1 c15,[])→callv X call false 19 [lro L0.length 5 (List.flatMap lexC L0)] [] 0=some (lro m17 1 c17,[])→((↑m15:Int) != (↑m17:Int))=false→vbody Tryd.prog X call lf noFg Tryd.f4 (codeOf Tryd.f4) [lexsV L0] [] 0=some (bo false,[]))∧(f4_o0 m15 n (b0 n)=2→callv X call false 14 [] [] 0=some (bo true,[])→callv X call false 15 [lro L0.length 5 (List.flatMap lexC L0)] [] 0=some (bo true,[])→callv X call false 18 [lro L0.length 5 (List.flatMap lexC L0)] [] 0=some (lro m15 1 c15,[])→callv X call false 19 [lro L0.length 5 (List.flatMap lexC L0)] [] 0=some (lro m17 1 c17,[])→((↑m15:Int) != (↑m17:Int))=false→vbody Tryd.prog X call lf noFg Tryd.f4 (codeOf Tryd.f4) [lexsV L0] [] 0=some (bo true,[])):=by
  have key:∀ j,j<n→_:=fun j hj=>(f4_B0 L0 X call lf m15 c15 m17 c17 j (a j) (r30 j) (b j) (r34 j) (b0 j) (g0 j (Nat.le_of_lt hj)) (g1 j (Nat.le_of_lt hj)) (g2 j (Nat.le_of_lt hj)) (e0 j hj)).1 (hz j hj)
  have kn:=f4_X0 L0 X call lf m15 c15 m17 c17 n (a n) (r30 n) (b n) (r34 n) (b0 n) (g0 n (Nat.le_refl n)) (g1 n (Nat.le_refl n)) (g2 n (Nat.le_refl n))
  exact ⟨fun hk q0 q1 q2 q3 q4=>f4_pttfltf L0 X call lf m15 c15 m17 c17 n (a n) (r30 n) (b n) (r34 n) q0 q1 q2 q3 q4 (f4_L0 L0 m15 c15 m17 c17 X call lf n _ _ hn key (kn.1 hk) (by simp)),
    fun hk q0 q1 q2 q3 q4=>f4_pttflf L0 X call lf m15 c15 m17 c17 n q0 q1 q2 q3 q4 (f4_L0 L0 m15 c15 m17 c17 X call lf n _ _ hn key (kn.2 hk) (by simp))⟩
end Go.Proofs.Lex
end
/- Lexicon: the reference of Homonyms, told. -/
section
open Go Go.Vm Go.Proofs
namespace Go.Proofs.Lex
section
variable [Fixed] {X:Ext}
def S19:List (List ByteArray)→List Ob
  | []=>[]
  | g::gs=>froO g :: .arr (gs.length + 1) 1 ((g::gs).flatMap Cod.str.list.enc)::gs.map froO
def o19 (l:List (List ByteArray)):AV:=if l.length=0 then .list .clip 0 1 [] else .own 1 l.length
theorem step_out {l:List (List ByteArray)} {g:List ByteArray} (hb:(l.length + 1) * 25 ≤ 140737488355328) :
    appendv Tryd.prog 28 (S19 l ++ [froO g]) 0 (o19 l) (.list .clip 1 1 [lro g.length 1 (g.map st)])=some (o19 (l ++ [g]),S19 (l ++ [g])):=by
  have e3:[g].flatMap Cod.str.list.enc=[lro g.length 1 (g.map st)]:=by rw [List.flatMap_cons,List.flatMap_nil,List.append_nil,encSs]
  cases l with
  | nil =>
    have happ:=gr_step (σ0:=[froO g]) (A:=Cod.str.list) (l:=[]) (m:=[g]) (lk := .clip) (sz0:=1) rowSs (.inr rfl) (appended_row (lk := .clip) [g]) (by show (0 + 1) * 25 ≤ 140737488355328; decide)
    rw [e3] at happ
    refine happ.trans ?_
    rfl
  | cons g0 gs =>
    have ho:(S19 (g0::gs) ++ [froO g])[1]? = some (.arr (gs.length + 1) (Tryd.prog.cellsOf 25) ((g0::gs).flatMap Cod.str.list.enc)):=by rw [rowSs.cells]; rfl
    have hx:appended (S19 (g0::gs) ++ [froO g]) (Tryd.prog.cellsOf 25) (.list .clip 1 1 [lro g.length 1 (g.map st)])=some (1,[g].flatMap Cod.str.list.enc):=by rw [rowSs.cells,e3]; rfl
    obtain ⟨z,hz,hzl⟩:=rowSs.zero
    have hb2:(gs.length + 1 + 1) * (Tryd.prog.bytesOf 25 + 1) ≤ 140737488355328:=by rw [rowSs.bytes]; exact hb
    have h:=grow_own (ro:=0) rowSs.und hz (by rw [hzl,rowSs.cells]) ho (Nat.zero_le _) hx (Cod.flat_owns (A:=Cod.str.list) [g]) (by decide) hb2
    refine h.trans ?_
    rw [rowSs.cells]
    show some (AV.own 1 (gs.length + 1 + 1),froO g0::Ob.arr (gs.length + 1 + 1) 1 ((g0::gs).flatMap Cod.str.list.enc ++ [g].flatMap Cod.str.list.enc)::(gs.map froO ++ [froO g]))=some (o19 (g0::(gs ++ [g])),froO g0::Ob.arr ((gs ++ [g]).length + 1) 1 ((g0::(gs ++ [g])).flatMap Cod.str.list.enc)::(gs ++ [g]).map froO)
    have e1:(gs ++ [g]).length=gs.length + 1:=by rw [List.length_append]; rfl
    have e2:(g0::(gs ++ [g])).flatMap Cod.str.list.enc=(g0::gs).flatMap Cod.str.list.enc ++ [g].flatMap Cod.str.list.enc:=by rw [← List.flatMap_append]; rfl
    rw [e1,e2,List.map_append]
    unfold o19
    rw [if_neg (by rw [List.length_cons]; omega),List.length_cons,e1]
    rfl
theorem end19 (l:List (List ByteArray)):∃ r σ',vend1 [] 0 (S19 l) [o19 l]=some (r,σ')∧aSss.dec r=some l:=by
  cases l with
  | nil=>exact ⟨_,_,rfl,rfl⟩
  | cons g gs =>
    have ho:o19 (g::gs) = .own 1 (gs.length + 1):=rfl
    rw [ho]
    refine ⟨.list .fresh (gs.length + 1) 1 ((g::gs).flatMap Cod.str.list.enc),froO g :: .fro (gs.length + 1) 1 ((g::gs).flatMap Cod.str.list.enc)::gs.map froO,?_,?_⟩
    · unfold S19
      simp only [vend1,AV.thawAll,AV.thaw,AV.ownsAll,AV.owns,freezeIds,freezeId,setOb,List.getElem?_cons_succ,List.getElem?_cons_zero,List.append_nil,Nat.zero_le,if_true]
      rfl
    · show (if (g :: gs).length = 0 then some [] else if 1 = Cod.str.list.k then Cod.str.list.many (g :: gs).length ((g :: gs).flatMap Cod.str.list.enc) else none) = some (g :: gs)
      rw [if_neg (by rw [List.length_cons]; omega),if_pos (show 1=Cod.str.list.k from rfl),Cod.many_de]
theorem bsl_own {σ:List Ob} {id:Nat} {g:List ByteArray} (ho:σ[id]? = some (rowO g)):bsl Tryd.prog 28 1 σ false 0 [(0,.own id g.length)]=some (.list .clip 1 1 [lro g.length 1 (g.map st)],setOb σ id (froO g)):=by
  have ho' : σ[id]? = some (.arr g.length 1 (g.map st)):=ho
  unfold bsl byValue
  have h1:AV.ownsAll ([((0:Nat),AV.own id g.length)].map (·.2))=[id]:=rfl
  have h2:AV.thawAll σ ([((0:Nat),AV.own id g.length)].map (·.2))=some [lro g.length 1 (g.map st)]:=by simp [AV.thawAll,AV.thaw,ho']
  have h3:freezeIds 0 σ [id]=some (setOb σ id (froO g)):=by simp [freezeIds,freezeId,ho',froO]
  rw [h1,if_neg (by simp),h2,h3]
  show _=_
  kernel_rfl
theorem slc_pre {L:List Lexm} {i:Nat} (h:i ≤ L.length) (hb:L.length ≤ 140737488355328) (σ:List Ob):slc Tryd.prog 22 σ false 0 (lexsV L) none (some (i6 (i:Int))) none=some (lexsV (L.take i),σ):=by
  have hown:AV.owns (lexsV L)=[]:=owns_lexs L
  have hl : ∀ (L : List Lexm) (i : Nat), (L.flatMap lexC).take (i * 5) = (L.take i).flatMap lexC := by
    intro L
    induction L with
    | nil=>intro i; simp
    | cons x L ih =>
      intro i
      cases i with
      | zero=>simp
      | succ i =>
        rw [List.flatMap_cons,List.take_succ_cons,List.flatMap_cons,← ih i]
        have hx:(lexC x).length=5:=rfl
        rw [List.take_append,hx,List.take_of_length_le (by rw [hx]; omega)]
        congr 2
        omega
  unfold slc cutOwn
  simp only [Bool.false_eq_true,if_false]
  unfold byValue1
  rw [if_pos hown]
  simp only
  unfold slicev
  rw [Tryd.underlying22]
  simp only [lexsV,rowL.cells]
  rw [if_pos ⟨.inr rfl,info33,by simp⟩]
  simp only [boundv]
  have h1:(0:Int) ≤ (i:Int):=by omega
  simp [keep,h,lexsV,List.length_take,hl,Nat.min_eq_left h]
end
end Go.Proofs.Lex
end
/- Lexicon: Merge told; the law. -/
section
open Go Go.Vm Go.Proofs
namespace Go.Proofs.Lex
section
variable [Fixed] {X:Ext}
end
end Go.Proofs.Lex
end
/- Lexicon: the law of Merge. -/
section
open Go Go.Vm Go.Proofs
namespace Go.Proofs.Lex
section
variable [Fixed] {X:Ext}
end
end Go.Proofs.Lex
end
/- Lexicon: the reference of Homonyms; the law. -/
section
open Go Go.Vm Go.Proofs
namespace Go.Proofs.Lex
section
variable [Fixed] {X:Ext}
def V34:Go.Vm.Spec:=Go.Vm.Spec.on (fun _ _=>none) 34 (sp2 aLs aS fun L s=>if L.length * 89 ≤ big then some (aLs.enc (L.filter fun x=>decide (x.stem=s))) else none)
theorem V34_ok (hX:ExtOk Tryd.prog X) (hL:XL X):SpecOk Tryd.prog V34:=by
  refine SpecOk.on2 SpecOk.none' fun L s r h => ?_
  split at h
  · rename_i hF
    simp only [Option.some.injEq] at h
    subst h
    exact call34 hX hL hF
  · cases h
theorem V34_at {L:List Lexm} {s:ByteArray} (hl:L.length * 89 ≤ big):V34 34 [aLs.enc L,aS.enc s]=some (aLs.enc (L.filter fun x=>decide (x.stem=s))):=by
  show sp2 aLs aS (fun L s=>if L.length * 89 ≤ big then some (aLs.enc (L.filter fun x=>decide (x.stem=s))) else none) [aLs.enc L,aS.enc s]=_
  rw [sp2_at (aLs.de _) (aS.de _),if_pos hl]
/-- Whether none of the first lexemes has the stem. -/
def newS (L:List Lexm) (s:ByteArray) (j:Nat):Bool := !(stemsN L j).any fun x=>decide (x=s)
theorem newS_f {L:List Lexm} {s:ByteArray} {j:Nat} (h:s ∈ stemsN L j):newS L s j=false:=by
  unfold newS
  rw [putS_iff.2 h]
  rfl
theorem newS_t {L:List Lexm} {s:ByteArray} {j:Nat} (h:s ∉ stemsN L j):newS L s j=true:=by
  unfold newS
  rw [Bool.not_eq_true',Bool.eq_false_iff]
  exact fun k=>h (putS_iff.1 k)
theorem newS_succ (L:List Lexm) (s:ByteArray) (j:Nat):newS L s (j + 1)=(newS L s j && !decide ((nL L j).stem=s)):=by
  by_cases h1:s ∈ stemsN L j
  · rw [newS_f h1,newS_f (show s ∈ putS _ _ from mem_putS.2 (.inl h1))]; rfl
  · by_cases h2 : (nL L j).stem = s
    · rw [newS_f (show s ∈ putS _ _ from mem_putS.2 (.inr h2.symm)),decide_eq_true h2,Bool.not_true,Bool.and_false]
    · rw [newS_t h1,newS_t (show s ∉ putS _ _ from fun h=>by rcases mem_putS.1 h with h | h; exact h1 h; exact h2 h.symm),decide_eq_false h2]; rfl
theorem nL_take {L:List Lexm} {i j:Nat} (h:j < i) (hi:i ≤ L.length):nL (L.take i) j=nL L j:=by
  rw [nL,nL,getD_lt (by rw [List.length_take]; omega),getD_lt (by omega),List.getElem_take]
theorem step19 (hL:XL X) {L:List Lexm} {i lf:Nat} (h:i < L.length) (hb:L.length * 89 ≤ 140737488355328) (hlf:L.length < lf) :
    ∃ Sx,vexec Tryd.prog X (callerOf V34) lf 0 fg19 (loopN Tryd.f19 0) (f19_F0 L (fun i=>S19 (manyG (dnG L i))) (fun i=>o19 (manyG (dnG L i))) i)=some (.normal,Sx)∧forget f19_D0 Sx=f19_F0 L (fun i=>S19 (manyG (dnG L i))) (fun i=>o19 (manyG (dnG L i))) (i + 1):=by
  have hd:decide ((i:Int) < (L.length:Int))=true:=decide_eq_true (by omega)
  have hbb:L.length ≤ big:=by show _ ≤ 140737488355328; omega
  have hu:=up h hbb
  have hil:=Nat.le_of_lt h
  have hti:(L.take i).length=i:=by rw [List.length_take]; omega
  let s:=(nL L i).stem
  let L1:=L.filter fun x=>decide (x.stem=s)
  let S0:Nat→List Ob:=fun i=>S19 (manyG (dnG L i))
  let o3:Nat→AV:=fun i=>o19 (manyG (dnG L i))
  have c34 : callv X (callerOf V34) false 34 [lexsV L, st s] (S0 i) 0 = some (lexsV L1, S0 i) := by
    obtain ⟨a1,a2,a3⟩:=hL.ok 34 rfl
    exact call_on (B:=aLs) (y:=L1) (T:=V34) (vs:=[aLs.enc L,aS.enc s]) a1 a2 a3 (by simp only [AV.ltAll,aLs.lt,aS.lt,Bool.and_self]) (V34_at hb)
  have l1 : vexec Tryd.prog X (callerOf V34) lf 0 fg19 (.loop (loopN Tryd.f19 1)) (f19_S1 L L1 (L.take i) S0 o3 i (nL L i).id (nL L i).cat s (nL L i).par (nL L i).feats.length ((nL L i).feats.flatMap featC) (tL L i)) = some (.exit 2, f19_S2 L L1 (L.take i) (newS L s) (S0 i) o3 i (nL L i).id (nL L i).cat s (nL L i).par (nL L i).feats.length ((nL L i).feats.flatMap featC) (tL L i) i) := by
    refine f19_L1 L L1 (L.take i) (newS L s) (S0 i) S0 o3 i _ _ _ _ _ _ _ X (callerOf V34) lf i _ _ rfl rfl (by omega) (fun j hj => ?_) (f19_r1_f L L1 (L.take i) (newS L s) (S0 i) X (callerOf V34) lf o3 i _ _ _ _ _ _ _ i (by rw [hti]; exact decide_eq_false (by omega))) (by simp)
    have hjt:j < (L.take i).length:=by omega
    have hne : (!(nL (L.take i) j).stem.toList == s.toList) = !decide ((nL L j).stem = s) := by
      rw [nL_take hj hil]
      congr 1
      by_cases he:(nL L j).stem=s
      · rw [decide_eq_true he,eqB_iff.2 he]
      · rw [decide_eq_false he, Bool.eq_false_iff]
        exact fun k=>he (eqB_iff.1 k)
    have hs:=newS_succ L s j
    refine (f19_B1 L L1 (L.take i) (newS L s) (S0 i) X (callerOf V34) lf o3 i (nL L i).id (nL L i).cat s (nL L i).par _ _ _ j _ _ _ _ _ _ _ (fun _=>at_lex hjt) (fun _ h1 h2 => ?_) (fun _=>up hjt (by rw [hti]; exact Nat.le_trans hil hbb)) (fun _ h1 h2 => ?_) (fun _ h1 => ?_)).1 ?_
    · rw [hs,h1,← hne,h2]; rfl
    · rw [hs,h1,← hne,h2]; rfl
    · rw [hs,h1]; rfl
    · unfold f19_o1
      rw [decide_eq_true (by omega:(j:Int) < ((L.take i).length:Int))]
      cases newS L s j
      · rfl
      · cases (!(nL (L.take i) j).stem.toList == s.toList) <;> rfl
  have hL1:L1.map (·.id)=idsOf L s:=rfl
  have hlen1:L1.length=(idsOf L s).length:=by rw [← hL1,List.length_map]
  have hL1le:L1.length ≤ L.length:=List.length_filter_le _ _
  by_cases h2:(L1.length:Int) < 2
  · have hsame : manyG (dnG L (i + 1)) = manyG (dnG L i) := by
      by_cases hs:s ∈ stemsN L i
      · unfold dnG; rw [rs_old hs]
      · rw [(rs_new h hs).2,manyG_append,if_neg (by show ¬ 1 < (idsOf L s).length; omega),List.append_nil]
    exact f19_s0_tlft L L1 (L.take i) (newS L s) (S0 i) X (callerOf V34) lf S0 o3 i _ _ _ _ _ _ _ i hd (at_lex h) c34 (slc_pre hil hbb _) l1 (decide_eq_true h2) (by show o19 _=o19 _; rw [hsame]) hu (by show S19 _=S19 _; rw [hsame])
  · by_cases hs : s ∈ stemsN L i
    · have hsame : manyG (dnG L (i + 1)) = manyG (dnG L i) := by unfold dnG; rw [rs_old hs]
      exact f19_s0_tlfff L L1 (L.take i) (newS L s) (S0 i) X (callerOf V34) lf S0 o3 i _ _ _ _ _ _ _ i hd (at_lex h) c34 (slc_pre hil hbb _) l1 (decide_eq_false h2) (newS_f hs) (by show o19 _=o19 _; rw [hsame]) hu (by show S19 _=S19 _; rw [hsame])
    · have hnew : manyG (dnG L (i + 1)) = manyG (dnG L i) ++ [idsOf L s] := by
        rw [(rs_new h hs).2,manyG_append,if_pos (by show 1 < (idsOf L s).length; omega)]
        rfl
      let S2:Nat→List Ob:=fun j=>grS Cod.str (S0 i) ((L1.take j).map (·.id))
      let o10:Nat→AV:=fun j=>grV (.list .clip 0 1 []) (S0 i).length ((L1.take j).map (·.id)).length
      have hstep : ∀ j, j < L1.length → (L1.take (j + 1)).map (·.id) = (L1.take j).map (·.id) ++ [(nL L1 j).id] := fun j hj => by
        rw [List.take_succ_eq_append_getElem hj,List.map_append,nL,getD_lt hj]
        rfl
      have l2 : vexec Tryd.prog X (callerOf V34) lf 0 fg19 (.loop (loopN Tryd.f19 2)) (f19_S3 L L1 (L.take i) (newS L s) (S0 i) o3 i (nL L i).id (nL L i).cat s (nL L i).par (nL L i).feats.length ((nL L i).feats.flatMap featC) (tL L i) i) = some (.exit 4, f19_S4 L L1 (L.take i) (newS L s) o3 i (nL L i).id (nL L i).cat s (nL L i).par (nL L i).feats.length ((nL L i).feats.flatMap featC) (tL L i) i S2 o10 L1.length) := by
        refine f19_L2 L L1 (L.take i) (newS L s) (S0 i) o3 i _ _ _ _ _ _ _ i S2 o10 X (callerOf V34) lf L1.length _ _ rfl rfl (by omega) (fun j hj => ?_) (f19_r2_f L L1 (L.take i) (newS L s) X (callerOf V34) lf o3 i _ _ _ _ _ _ _ i S2 o10 L1.length (decide_eq_false (by omega))) (by simp)
        refine f19_s2_t L L1 (L.take i) (newS L s) X (callerOf V34) lf o3 i _ _ _ _ _ _ _ i S2 o10 j _ _ _ _ _ _ _ (o10 (j + 1)) (S2 (j + 1)) (decide_eq_true (by omega)) (at_lex hj) ?_ rfl (up hj (Nat.le_trans hL1le hbb)) rfl
        have hg := gr_step (σ0 := S0 i) (A := Cod.str) (l := (L1.take j).map (·.id)) (m := [(nL L1 j).id]) (lk := .clip) (sz0 := 1) rowS (.inr rfl) (appended_row (lk := .clip) [(nL L1 j).id]) (by
          have:((L1.take j).map (·.id)).length ≤ L1.length:=by rw [List.length_map,List.length_take]; omega
          show ((((L1.take j).map (·.id)).length + 1) * 17 ≤ 140737488355328)
          omega)
        rw [← hstep j hj] at hg
        exact hg
      have hfull:(L1.take L1.length).map (·.id)=idsOf L s:=by rw [List.take_length]; exact hL1
      have hpos : ¬ (idsOf L s).length=0:=by omega
      have hS2 : S2 L1.length = S0 i ++ [rowO (idsOf L s)] := by
        show grS Cod.str (S0 i) ((L1.take L1.length).map (·.id))=_
        rw [hfull,grS,if_neg hpos,flatS]
        rfl
      have ho10 : o10 L1.length = .own (S0 i).length (idsOf L s).length := by
        show grV _ _ ((L1.take L1.length).map (·.id)).length=_
        rw [hfull]
        exact if_neg hpos
      have hbsl : bsl Tryd.prog 28 1 (S2 L1.length) false 0 [(0, o10 L1.length)] = some (.list .clip 1 1 [lro (idsOf L s).length 1 ((idsOf L s).map st)], S0 i ++ [froO (idsOf L s)]) := by
        rw [hS2,ho10]
        have:=bsl_own (σ:=S0 i ++ [rowO (idsOf L s)]) (id:=(S0 i).length) (g:=idsOf L s) (by simp)
        rw [this,setOb_mid]
      have happ:=step_out (l:=manyG (dnG L i)) (g:=idsOf L s) (by have:=manyG_len L i; omega)
      refine f19_s0_tlfftlf L L1 (L.take i) (newS L s) (S0 i) _ _ X (callerOf V34) lf S0 o3 i _ _ _ _ _ _ _ i S2 o10 L1.length _ _ hd (at_lex h) c34 (slc_pre hil hbb _) l1 (decide_eq_false h2) (newS_t hs) l2 hbsl happ (by show o19 _=o19 _; rw [hnew]) hu (by show S19 _=S19 _; rw [hnew])
/-- ref09.Homonyms. -/
theorem call19 (hX:ExtOk Tryd.prog X) (hL:XL X) {L:List Lexm} (hb:L.length * 89 ≤ big):CallAt Tryd.prog 19 [aLs.enc L] [] 0 (aSss.enc (homS L)) []:=by
  have hb' : L.length * 89 ≤ 140737488355328:=hb
  have hC:=callerOf_ok (V34_ok hX hL)
  have l0:=f19_L0 L (fun i=>S19 (manyG (dnG L i))) (fun i=>o19 (manyG (dnG L i))) X (callerOf V34) (L.length + 1) L.length _ _ rfl rfl (Nat.lt_succ_self _) (fun j hj=>step19 hL hj hb' (Nat.lt_succ_self _)) (f19_r0_f L X (callerOf V34) (L.length + 1) _ _ L.length (decide_eq_false (by omega))) (by simp)
  obtain ⟨r,σ',h1,h2⟩:=end19 (manyG (dnG L L.length))
  have hm : manyG (dnG L L.length) = homS L := by
    unfold homS
    rw [grpN_all]
    rfl
  rw [hm] at h2
  exact run_res (B:=aSss) hX hC (hL.dom 19 rfl rfl) Tryd.func19 (by kernel_rfl) (f19_plf L X (callerOf V34) (L.length + 1) _ _ L.length r _ l0 h1) h2
/-! ### the law -/
theorem idsOf_len (L:List Lexm) (s:ByteArray):(idsOf L s).length ≤ L.length:=by
  unfold idsOf
  rw [List.length_map]
  exact List.length_filter_le _ _
theorem homS_len {L:List Lexm} {g:List ByteArray} (h:g ∈ homS L):g.length ≤ L.length:=by
  unfold homS manyG at h
  obtain ⟨p,hp,rfl⟩:=List.mem_map.1 h
  have:=(List.mem_filter.1 hp).1
  rw [grpN_all] at this
  obtain ⟨s,-,rfl⟩:=List.mem_map.1 this
  exact idsOf_len L s
theorem homS_many (L:List Lexm):(homS L).length ≤ L.length:=by
  have:=manyG_len L L.length
  unfold homS
  rw [grpN_all]
  exact this
def nH (l:List (List ByteArray)) (i:Nat):List ByteArray:=l.getD i []
theorem flatSs (l:List (List ByteArray)):l.flatMap Cod.str.list.enc=l.map fun g=>lro g.length 1 (g.map st):=by
  induction l with
  | nil=>rfl
  | cons x l ih=>rw [List.flatMap_cons,ih,encSs]; rfl
theorem at_grp {l:List (List ByteArray)} {i:Nat} (h:i < l.length) (σ:List Ob):keep σ (indexAddrv Tryd.prog 28 σ (lro l.length 1 (l.map fun g=>lro g.length 1 (g.map st))) (i6 (i:Int)))=some (.eaddr (lro (nH l i).length 1 ((nH l i).map st)::(l.map fun g=>lro g.length 1 (g.map st)).drop (i + 1)),σ):=by
  rw [at_list rowSs.und rowSs.cells (by kernel_rfl) h]
  rw [nH,getD_lt h,← List.getElem_cons_drop (by rw [List.length_map]; exact h),List.getElem_map]
def TH:Go.Vm.Spec:=((TB.on 18 (s1 aLs aSss homS fun L=>L.length * 89 ≤ big)).on 19 (s1 aLs aSss homS fun L=>L.length * 89 ≤ big)).on 20 (sp2 aSs aSs fun l m=>if l.length ≤ big then some (aB.enc (decide (l=m))) else none)
theorem TH_ok (hX:ExtOk Tryd.prog X) (hL:XL X) (h14:CallAt Tryd.prog 14 [] [] 0 (bo true) []):SpecOk Tryd.prog TH:=by
  refine SpecOk.on2 (SpecOk.s1 (SpecOk.s1 (TB_ok hX hL h14) fun L h=>call18 hX hL h) fun L h=>call19 hX hL h) fun l m r h => ?_
  split at h
  · rename_i hF
    simp only [Option.some.injEq] at h
    subst h
    exact call20 hX hL hF
  · cases h
theorem law4 (hX:ExtOk Tryd.prog X) (hL:XL X) (h14:CallAt Tryd.prog 14 [] [] 0 (bo true) []) {L:List Lexm} (hok:okLs L) (hf:fewL L=true):CallAt Tryd.prog 4 [aLs.enc L] [] 0 (aB.enc true) []:=by
  have hC:=callerOf_ok (TH_ok hX hL h14)
  have hl:=okLs_len hok
  have hn:=homS_many L
  have hlt:∀ {i:Nat},decide ((i:Int) < ((homS L).length:Int))=true→i < (homS L).length:=fun h=>by simpa using h
  have c14 : callv X (callerOf TH) false 14 [] [] 0 = some (bo true, []) := by
    obtain ⟨a1,a2,a3⟩:=hL.ok 14 rfl
    exact call_on (B:=aB) (y:=true) (T:=TH) a1 a2 a3 rfl rfl
  have c15 : callv X (callerOf TH) false 15 [aLs.enc L] [] 0 = some (bo true, []) := by
    obtain ⟨a1,a2,a3⟩:=hL.ok 15 rfl
    rw [← hf]
    exact call_on (B:=aB) (y:=fewL L) (T:=TH) a1 a2 a3 (by simp only [AV.ltAll,aLs.lt,Bool.and_self]) (s1_at (A:=aLs) (B:=aB) (g:=fewL) (ok:=fun L=>L.length ≤ big) hl)
  have enc:aSss.enc (homS L)=lro (homS L).length 1 ((homS L).map fun g=>lro g.length 1 (g.map st)):=by rw [← flatSs]; rfl
  have c2 : ∀ f, lexW f = true → TH f [aLs.enc L] = some (aSss.enc (homS L)) → callv X (callerOf TH) false f [aLs.enc L] [] 0 = some (lro (homS L).length 1 ((homS L).map fun g => lro g.length 1 (g.map st)), []) := fun f hw h => by
    obtain ⟨a1,a2,a3⟩:=hL.ok f hw
    rw [← enc]
    exact call_on (B:=aSss) (y:=homS L) (T:=TH) (vs:=[aLs.enc L]) a1 a2 a3 (by simp only [AV.ltAll,aLs.lt,Bool.and_self]) h
  have c18:=c2 18 rfl (s1_at (A:=aLs) (B:=aSss) (g:=homS) (ok:=fun L=>L.length * 89 ≤ big) hok.1)
  have c19:=c2 19 rfl (s1_at (A:=aLs) (B:=aSss) (g:=homS) (ok:=fun L=>L.length * 89 ≤ big) hok.1)
  have c20 : ∀ g : List ByteArray, g.length ≤ big → callv X (callerOf TH) true 20 [lro g.length 1 (g.map st), lro g.length 1 (g.map st)] [] 0 = some (bo true, []) := fun g hg => by
    obtain ⟨a1,a2,a3⟩:=hL.ok 20 rfl
    have h3 : TH 20 [aSs.enc g, aSs.enc g] = some (aB.enc (decide (g = g))) := by
      show sp2 aSs aSs (fun l m=>if l.length ≤ big then some (aB.enc (decide (l=m))) else none) [aSs.enc g,aSs.enc g]=_
      rw [sp2_at (aSs.de _) (aSs.de _),if_pos hg]
    rw [decide_eq_true rfl] at h3
    have:=call_on (B:=aB) (y:=true) (T:=TH) (vs:=[aSs.enc g,aSs.enc g]) (σ:=[]) (ro:=0) (dr:=true) a1 a2 a3 (by simp only [AV.ltAll,aSs.lt,Bool.and_self]) h3
    rw [aSs_enc] at this
    exact this
  have key := f4_M L (homS L).length _ (homS L).length _ X (callerOf TH) ((homS L).length + 1) (homS L).length (fun i => nH (homS L) i) (fun i => ((homS L).map fun g => lro g.length 1 (g.map st)).drop (i + 1)) (fun i => nH (homS L) i) (fun i => ((homS L).map fun g => lro g.length 1 (g.map st)).drop (i + 1)) (fun _ => true) (Nat.lt_succ_self _)
    (fun i _ h=>at_grp (hlt h) []) (fun i _ h=>at_grp (hlt h) [])
    (fun i _ h=>c20 _ (Nat.le_trans (homS_len (by rw [nH,getD_lt (hlt h)]; exact List.getElem_mem (hlt h))) hl))
    (fun i hi h=>up (hlt h) (Nat.le_trans hn hl))
    (fun i hi => by
      unfold f4_o0
      rw [decide_eq_true (by omega:(i:Int) < ((homS L).length:Int))])
  refine run_res (B:=aB) hX hC (hL.dom 4 rfl rfl) Tryd.func4 (by kernel_rfl) (key.2 ?_ c14 c15 c18 c19 (by simp)) (aB.de true)
  unfold f4_o0
  rw [decide_eq_false (by omega : ¬ ((homS L).length:Int) < ((homS L).length:Int))]
theorem law4a (hX:ExtOk Tryd.prog X) (hL:XL X) (h14:CallAt Tryd.prog 14 [] [] 0 (bo true) []) {L:List Lexm} (hl:L.length ≤ big):CallAt Tryd.prog 4 [aLs.enc L] [] 0 (aB.enc true) []:=by
  cases hf:fewL L with
  | true=>exact law4 hX hL h14 (okLs_few hf) hf
  | false =>
    have c15:=tb15 (X:=X) hL hl [] false
    rw [hf] at c15
    exact run_res (B:=aB) hX (callerOf_ok (TB_ok hX hL h14)) (hL.dom 4 rfl rfl) Tryd.func4 (by kernel_rfl) (f4_ptft L X (callerOf TB) 0 (tb14 hL _ _) c15 (tb14 hL _ _)) rfl
end
end Go.Proofs.Lex
end
