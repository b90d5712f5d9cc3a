/- Texts that the walks of package find lean on: part 1. -/
import Derived.Laws.StructEq
import Derived.RangeFuncFrom
import Derived.RangeFuncLeaves
import Derived.Test.YtbbienodbjfgoaaGreatProg
import Derived.KernelRfl
import Derived.Test.YtbbienodbjfgoaaGreatB0
set_option linter.unusedVariables false
set_option linter.unusedSimpArgs false

/- Regions that draw their order, over the parts of memory; what is asked at a call. -/
namespace Go.Lag
open Go Go.RowKit


variable {r : Option Nat} {P : Program} {m : Nat} {ds : List Deferred} {Q : Exit → Act → World → Prop} {l : Env} {w w' : World} {ops : Array Oper} {rest os : List Oper}
variable {H H' H0 R R' pre F : List Assn} {A A' B : Assn} {ty t e : TypeId} {x y z : Operand} {α : Type}
variable {T : Nat → Bool} {fuel : Nat} {listed : Array Bool} {d : Nat} {op : Op} {pos : String} {af : Array Edge} {v : Value} {K : Value → List Assn → Prop}

/-- A region that draws its order; H0: what all operations but the last ones (T) keep. -/
def AnyH (r : Option Nat) (P : Program) (m : Nat) (ds : List Deferred) (ops : Array Oper) (Q : Exit → Act → World → Prop) (T : Nat → Bool) (H0 : List Assn) (fuel : Nat) (listed : Array Bool) (l : Env) (H : List Assn) : Prop :=
  ∀ w, Holds H w → Any r P m ds ops Q T (Holds H0) fuel listed l w
theorem Dr {id : Nat} (T : Nat → Bool) (H0 : List Assn) (hs : SubH H0 H) (h : AnyH r P m ds os.toArray Q T H0 os.length (Array.replicate os.length false) l H) (hall : os.all plainOp = true := by rfl) [hm : TMixed P] :
    WH r P m ds (.region id os.toArray true) Q l H := fun w hw a ha => by
  refine wpIn_region_any hm.h (AnyA.any (all_plain hall) _ _ _ _ (T := T) (S := Holds H0) ?_)
  have := h { w with drawn := w.drawn + 1 } (hw.g0 ⟨rfl, rfl, rfl, Nat.le_refl _, fun _ _ _ => rfl⟩) a ha
  simpa using this
theorem Drq {id : Nat} {y : Code} (T : Nat → Bool) (H0 : List Assn) (hs : SubH H0 H) (h : AnyH r P m ds os.toArray (Exit.then (y.wpIn (FW r) 0 P Q) Q) T H0 os.length (Array.replicate os.length false) l H) (hall : os.all plainOp = true := by rfl) [hm : TMixed P] :
    WH r P m ds (.seq (.region id os.toArray true) y) Q l H := Sq (Dr T H0 hs h hall)

def okTake (os : List Oper) (T : Nat → Bool) (Wl : List Nat) (listed : Array Bool) (i : Nat) : Bool := !T i && waits os.toArray T Wl listed i && Region.free .any os.toArray listed i && (Region.ready .any os.toArray listed).contains i
theorem Tk (i : Nat) (Wl : List Nat) (hi : os[i]? = some ⟨some d, op, ty, pos, af, none⟩) (hy : YldH P op ty l H0 v) (h : AnyH r P m ds os.toArray Q T H0 fuel (listed.setIfInBounds i true) ((d, v) :: l) H)
    (hs : SubH H0 H := by repeat (first | exact SubH.refl | exact SubH.nil | refine SubH.cons (by repeat (first | exact Pick.head | apply Pick.tail)) ?_ | refine SubH.skip ?_))
    (hall : os.all plainOp = true := by rfl) (hd : Nat.blt d m = true := by rfl) (hc : okTake os T Wl listed i = true := by kernel_rfl) : AnyH r P m ds os.toArray Q T H0 (fuel + 1) listed l H := fun w hw =>
  Any.take i hi hall hd Wl hc (hs.holds hw) (fun w' hw' => hy w' hw') (h w hw)
theorem TkG (i : Nat) (Wl : List Nat) {j t : Nat} {b c : Bool} (hi : os[i]? = some ⟨some d, op, ty, pos, af, some (j, b)⟩) (hb : c = b) (hy : YldH P op ty l H0 v) (h : AnyH r P m ds os.toArray Q T H0 fuel (listed.setIfInBounds i true) ((d, v) :: l) H)
    (hs : SubH H0 H := by repeat (first | exact SubH.refl | exact SubH.nil | refine SubH.cons (by repeat (first | exact Pick.head | apply Pick.tail)) ?_ | refine SubH.skip ?_))
    (hj : (os.toArray[j]?).bind (·.dst) = some t := by rfl) (ht : lk t l = some (.bool c) := by rfl) (hall : os.all plainOp = true := by rfl) (hd : Nat.blt d m = true := by rfl) (hc : okTake os T Wl listed i = true := by kernel_rfl) : AnyH r P m ds os.toArray Q T H0 (fuel + 1) listed l H := fun w hw =>
  Any.takeG i hi hall hd Wl hc hj ht hb (hs.holds hw) (fun w' hw' => hy w' hw') (h w hw)
theorem TkF (i : Nat) (Wl : List Nat) {j t : Nat} {b c : Bool} (hi : os[i]? = some ⟨some d, op, ty, pos, af, some (j, b)⟩) (hb : c = !b) (h : AnyH r P m ds os.toArray Q T H0 fuel (listed.setIfInBounds i true) ((d, undef) :: l) H)
    (hs : SubH H0 H := by repeat (first | exact SubH.refl | exact SubH.nil | refine SubH.cons (by repeat (first | exact Pick.head | apply Pick.tail)) ?_ | refine SubH.skip ?_))
    (hj : (os.toArray[j]?).bind (·.dst) = some t := by rfl) (ht : lk t l = some (.bool c) := by rfl) (hall : os.all plainOp = true := by rfl) (hd : Nat.blt d m = true := by rfl) (hc : okTake os T Wl listed i = true := by kernel_rfl) : AnyH r P m ds os.toArray Q T H0 (fuel + 1) listed l H := fun w hw =>
  Any.off i hi hall hd Wl hc hj ht hb (hs.holds hw) (h w hw)
theorem TkU (i : Nat) (Wl : List Nat) {j t : Nat} {b : Bool} (hi : os[i]? = some ⟨some d, op, ty, pos, af, some (j, b)⟩) (h : AnyH r P m ds os.toArray Q T H0 fuel (listed.setIfInBounds i true) ((d, undef) :: l) H)
    (hs : SubH H0 H := by repeat (first | exact SubH.refl | exact SubH.nil | refine SubH.cons (by repeat (first | exact Pick.head | apply Pick.tail)) ?_ | refine SubH.skip ?_))
    (hj : (os.toArray[j]?).bind (·.dst) = some t := by rfl) (ht : lk t l = some undef := by rfl) (hall : os.all plainOp = true := by rfl) (hd : Nat.blt d m = true := by rfl) (hc : okTake os T Wl listed i = true := by kernel_rfl) : AnyH r P m ds os.toArray Q T H0 (fuel + 1) listed l H := fun w hw =>
  Any.offU i hi hall hd Wl hc hj ht (hs.holds hw) (h w hw)

/-- The only one that may come up. -/
theorem Gx (i : Nat) (hi : os[i]? = some ⟨some d, op, ty, pos, af, none⟩) (hy : DoesH r P op ty l H K) (h : ∀ v H', K v H' → (T i = false → SubH H0 H') ∧ AnyH r P m ds os.toArray Q T H0 fuel (listed.setIfInBounds i true) ((d, v) :: l) H')
    (hd : Nat.blt d m = true := by rfl) (hr : Region.ready .any os.toArray listed = [i] := by kernel_rfl) : AnyH r P m ds os.toArray Q T H0 (fuel + 1) listed l H := fun w hw =>
  Any.go i hi hr hd ((hy w hw).mono fun v w' ⟨H', hk, hh⟩ => ⟨fun hT => ((h v H' hk).1 hT).holds hh, (h v H' hk).2 w' hh⟩)
theorem Gxn (i : Nat) (hi : os[i]? = some ⟨none, op, ty, pos, af, none⟩) (hy : DoesH r P op ty l H K) (h : ∀ v H', K v H' → (T i = false → SubH H0 H') ∧ AnyH r P m ds os.toArray Q T H0 fuel (listed.setIfInBounds i true) l H')
    (hr : Region.ready .any os.toArray listed = [i] := by kernel_rfl) : AnyH r P m ds os.toArray Q T H0 (fuel + 1) listed l H := fun w hw =>
  Any.goN i hi hr ((hy w hw).mono fun v w' ⟨H', hk, hh⟩ => ⟨fun hT => ((h v H' hk).1 hT).holds hh, (h v H' hk).2 w' hh⟩)
theorem GxG (i : Nat) {j t : Nat} {b c : Bool} (hi : os[i]? = some ⟨some d, op, ty, pos, af, some (j, b)⟩) (hb : c = b) (hy : DoesH r P op ty l H K) (h : ∀ v H', K v H' → (T i = false → SubH H0 H') ∧ AnyH r P m ds os.toArray Q T H0 fuel (listed.setIfInBounds i true) ((d, v) :: l) H')
    (hj : (os.toArray[j]?).bind (·.dst) = some t := by rfl) (ht : lk t l = some (.bool c) := by rfl) (hd : Nat.blt d m = true := by rfl) (hr : Region.ready .any os.toArray listed = [i] := by kernel_rfl) : AnyH r P m ds os.toArray Q T H0 (fuel + 1) listed l H := fun w hw =>
  Any.goG i hi hr hd hj ht hb ((hy w hw).mono fun v w' ⟨H', hk, hh⟩ => ⟨fun hT => ((h v H' hk).1 hT).holds hh, (h v H' hk).2 w' hh⟩)
theorem GxnG (i : Nat) {j t : Nat} {b c : Bool} (hi : os[i]? = some ⟨none, op, ty, pos, af, some (j, b)⟩) (hb : c = b) (hy : DoesH r P op ty l H K) (h : ∀ v H', K v H' → (T i = false → SubH H0 H') ∧ AnyH r P m ds os.toArray Q T H0 fuel (listed.setIfInBounds i true) l H')
    (hj : (os.toArray[j]?).bind (·.dst) = some t := by rfl) (ht : lk t l = some (.bool c) := by rfl) (hr : Region.ready .any os.toArray listed = [i] := by kernel_rfl) : AnyH r P m ds os.toArray Q T H0 (fuel + 1) listed l H := fun w hw =>
  Any.goNG i hi hr hj ht hb ((hy w hw).mono fun v w' ⟨H', hk, hh⟩ => ⟨fun hT => ((h v H' hk).1 hT).holds hh, (h v H' hk).2 w' hh⟩)
theorem GxF (i : Nat) {j t : Nat} {b c : Bool} (hi : os[i]? = some ⟨some d, op, ty, pos, af, some (j, b)⟩) (hb : c = !b) (h : AnyH r P m ds os.toArray Q T H0 fuel (listed.setIfInBounds i true) ((d, undef) :: l) H)
    (hj : (os.toArray[j]?).bind (·.dst) = some t := by rfl) (ht : lk t l = some (.bool c) := by rfl) (hT : T i = true := by rfl) (hd : Nat.blt d m = true := by rfl) (hr : Region.ready .any os.toArray listed = [i] := by kernel_rfl) : AnyH r P m ds os.toArray Q T H0 (fuel + 1) listed l H := fun w hw =>
  Any.goOff i hi hr hd hj ht hb hT (h w hw)
theorem GxU (i : Nat) {j t : Nat} {b : Bool} (hi : os[i]? = some ⟨some d, op, ty, pos, af, some (j, b)⟩) (h : AnyH r P m ds os.toArray Q T H0 fuel (listed.setIfInBounds i true) ((d, undef) :: l) H)
    (hj : (os.toArray[j]?).bind (·.dst) = some t := by rfl) (ht : lk t l = some undef := by rfl) (hT : T i = true := by rfl) (hd : Nat.blt d m = true := by rfl) (hr : Region.ready .any os.toArray listed = [i] := by kernel_rfl) : AnyH r P m ds os.toArray Q T H0 (fuel + 1) listed l H := fun w hw =>
  Any.goOffU i hi hr hd hj ht hT (h w hw)
def OpH (r : Option Nat) (P : Program) (m : Nat) (ds : List Deferred) (ops : Array Oper) (Q : Exit → Act → World → Prop) (T : Nat → Bool) (H0 : List Assn) (fuel : Nat) (listed : Array Bool) (i : Nat) (l : Env) (H : List Assn) : Prop :=
  ∀ w, Holds H w → AnyOp r P m ds ops Q T (Holds H0) fuel listed i l w
theorem Tw (i j : Nat) (hi : OpH r P m ds ops Q T H0 fuel listed i l H) (hj : OpH r P m ds ops Q T H0 fuel listed j l H) (hr : Region.ready .any ops listed = [i, j] := by kernel_rfl) : AnyH r P m ds ops Q T H0 (fuel + 1) listed l H := fun w hw =>
  Any.two i j hr (hi w hw) (hj w hw)
theorem Og {i : Nat} (hi : os[i]? = some ⟨some d, op, ty, pos, af, none⟩) (hy : DoesH r P op ty l H K) (h : ∀ v H', K v H' → (T i = false → SubH H0 H') ∧ AnyH r P m ds os.toArray Q T H0 fuel (listed.setIfInBounds i true) ((d, v) :: l) H')
    (hd : Nat.blt d m = true := by rfl) : OpH r P m ds os.toArray Q T H0 fuel listed i l H := fun w hw =>
  opA_go hi hd ((hy w hw).mono fun v w' ⟨H', hk, hh⟩ => ⟨fun hT => ((h v H' hk).1 hT).holds hh, (h v H' hk).2 w' hh⟩)
/-- All have come up. -/
theorem An (h : PostH m ds .normal Q l H) (hr : Region.ready .any ops listed = [] := by kernel_rfl) : AnyH r P m ds ops Q T H0 fuel listed l H := fun w hw => Any.done hr (h w hw)
theorem Anq {y : Code} (h : WH r P m ds y Q l H) (hr : Region.ready .any ops listed = [] := by kernel_rfl) : AnyH r P m ds ops (Exit.then (y.wpIn (FW r) 0 P Q) Q) T H0 fuel listed l H := An (Pq h) hr
/-! ### A test whose text only the frame knows -/
theorem GcD (k : Nat) {p : Prop} [Decidable p] (hT : p → RegH r P m ds ops Q rest l H) (hF : ¬ p → RegH r P m ds ops Q rest l H) (hk : lk k l = some (.bool (decide p)) := by rfl) : RegH r P m ds ops Q rest l H := by
  by_cases h : p
  · exact hT h
  · exact hF h
theorem GcB (k : Nat) {b : Bool} (hT : b = true → RegH r P m ds ops Q rest l H) (hF : b = false → RegH r P m ds ops Q rest l H) (hk : lk k l = some (.bool b) := by rfl) : RegH r P m ds ops Q rest l H := by
  cases h : b with
  | true => exact hT h
  | false => exact hF h
theorem GcDA (k : Nat) {p : Prop} [Decidable p] (hT : p → AnyH r P m ds ops Q T H0 fuel listed l H) (hF : ¬ p → AnyH r P m ds ops Q T H0 fuel listed l H) (hk : lk k l = some (.bool (decide p)) := by rfl) : AnyH r P m ds ops Q T H0 fuel listed l H := by
  by_cases h : p
  · exact hT h
  · exact hF h
theorem GcBA (k : Nat) {b : Bool} (hT : b = true → AnyH r P m ds ops Q T H0 fuel listed l H) (hF : b = false → AnyH r P m ds ops Q T H0 fuel listed l H) (hk : lk k l = some (.bool b) := by rfl) : AnyH r P m ds ops Q T H0 fuel listed l H := by
  cases h : b with
  | true => exact hT h
  | false => exact hF h
theorem YldH.does (h : YldH P op ty l H v) : DoesH r P op ty l H fun u H' => v = u ∧ H = H' := fun w hw => (h w hw).does ⟨H, ⟨rfl, rfl⟩, hw⟩
theorem nb_i {b : Bool} (h : (!b) = true) : b = false := by simpa using h
theorem FzA {E : Elem α} {v : Value} {xs : List α} (h : ∀ Z, SlZ E Z v xs → AnyH r P m ds ops Q T H0 fuel listed l (.zm Z :: R)) (hp : Pick (.rw E e v xs) H R := by repeat (first | exact Pick.head | apply Pick.tail)) (h0 : Nat.blt 0 E.sz = true := by rfl) : AnyH r P m ds ops Q T H0 fuel listed l H := fun w hw => by
  obtain ⟨Z, h1, h2⟩ := (hw.pick hp).fz (by simpa using h0)
  exact h Z h1 w h2
/-! ### Operations under one guard, joined again -/
theorem Oper.wpIn_q {G : Fence} {n : Nat} {o : Oper} {a : Act} {w : World} {K K' : Act → World → Prop} {Q Q' : Exit → Act → World → Prop} (h : ∀ a w, K a w → K' a w) (hp : ∀ c a w, Q (.panic c) a w → Q' (.panic c) a w) (ho : LetsOut Q → LetsOut Q')
    (hh : o.wpIn G n P a w K Q) : o.wpIn G n P a w K' Q' := by
  unfold Oper.wpIn at *
  refine ⟨hh.1, ?_⟩
  have hh := hh.2
  generalize (o.semAt G.round a.eval).run P w = r at *
  cases r with
  | ok x w' =>
    cases x <;> simp only [Oper.uponIn] at hh ⊢ <;>
      first
        | exact h _ _ hh
        | exact ⟨hh.1, CallsIn.mono hh.2 (fun e w'' he => by cases e <;> first | exact h _ _ he | exact hp _ _ _ he | exact ho he)⟩
        | exact ⟨hh.1, RowsIn.mono hh.2 (fun _ _ he => h _ _ he)⟩
        | exact ⟨hh.1, RoundIn.mono hh.2 (fun e w'' he => by cases e <;> first | exact h _ _ he | exact hp _ _ _ he | exact ho he)⟩
  | halt x w' => cases x <;> simp only [Oper.uponIn] at hh ⊢ <;> first | exact hh | exact hp _ _ _ hh
def Qn (K : Act → World → Prop) (Q : Exit → Act → World → Prop) : Exit → Act → World → Prop
  | .normal, a, w => K a w
  | e, a, w => Q e a w
theorem wpListIn_split {G : Fence} {n : Nat} {Q : Exit → Act → World → Prop} {K : Act → World → Prop} (ys : List Oper) (hk : ∀ a w, K a w → wpListIn G n P ops Q ys a w) : ∀ (xs : List Oper) (a : Act) (w : World), wpListIn G n P ops (Qn K Q) xs a w → wpListIn G n P ops Q (xs ++ ys) a w
  | [], a, w, h => hk a w h
  | o :: xs, a, w, h => by
    simp only [wpListIn, List.cons_append] at h ⊢
    split
    · rename_i hw
      rw [if_pos hw] at h
      exact Oper.wpIn_q (fun a w h => wpListIn_split ys hk xs a w h) (fun _ _ _ h => h) (fun ⟨a, w, h⟩ => ⟨a, w, h⟩) h
    · rename_i hw
      rw [if_neg hw] at h
      exact ⟨h.1, wpListIn_split ys hk xs _ w h.2⟩
/-- v where the guard lets by. -/
def gv (c b : Bool) (v : Value) : Value := if c = b then v else undef
/-- All are under this guard; who they write. -/
def offAll (j : Nat) (b : Bool) (m : Nat) : List Oper → Bool
  | [] => true
  | o :: os => (match o.dst, o.guard with | some d, some (i, g) => Nat.beq i j && (g == b) && Nat.blt d m | _, _ => false) && offAll j b m os
def dsts (os : List Oper) : List Nat := os.filterMap (·.dst)
def strip (D : List Nat) : Env → Env
  | [] => []
  | (k, v) :: r => bif D.any (Nat.beq k) then strip D r else (k, v) :: r
theorem lk_strip {D : List Nat} {t : Nat} (ht : D.any (Nat.beq t) = false) : ∀ l : Env, lk t (strip D l) = lk t l
  | [] => rfl
  | (k, v) :: r => by
    unfold strip
    cases hk : D.any (Nat.beq k) with
    | true =>
      simp only [cond_true]
      rw [lk_strip ht r]
      simp only [lk]
      cases hb : Nat.beq t k with
      | true => rw [Nat.eq_of_beq_eq_true hb] at ht; rw [ht] at hk; cases hk
      | false => rfl
    | false => rfl
/-- What the operations under the guard leave. -/
def Qg (m : Nat) (ds : List Deferred) (D : List Nat) (d : Nat) (v : Value) (l : Env) (H : List Assn) : Act → World → Prop := fun a w => (∃ l', Has m ds l' a ∧ lk d l' = some v ∧ strip D l' = l) ∧ Holds H w
theorem Gg {D : List Nat} {d' : Nat} {v : Value} {l' : Env} {Q : Exit → Act → World → Prop} {H' : List Assn} (hk : lk d' l' = some v := by rfl) (hs : strip D l' = l := by rfl)
    (hH : SubH H H' := by repeat (first | exact SubH.refl | exact SubH.nil | refine SubH.cons (by repeat (first | exact Pick.head | apply Pick.tail)) ?_ | refine SubH.skip ?_)) : RegH r P m ds ops (Qn (Qg m ds D d' v l H) Q) [] l' H' := fun w hw a ha => ⟨⟨l', ha, hk, hs⟩, hH.holds hw⟩
theorem wpListIn_off {Q : Exit → Act → World → Prop} {j t : Nat} {b c : Bool} (hj : (ops[j]?).bind (·.dst) = some t) (hc : c = !b) : ∀ (os : List Oper) (a : Act) (w : World), offAll j b m os = true → a.tmps[t]? = some (.bool c) → (dsts os).any (Nat.beq t) = false →
    (∀ a', a'.defers = a.defers → a'.tmps.size = a.tmps.size → (∀ k, (dsts os).any (Nat.beq k) = false → a'.tmps[k]? = a.tmps[k]?) → (∀ k, (dsts os).any (Nat.beq k) = true → k < a.tmps.size → a'.tmps[k]? = some undef) → Q .normal a' w) → wpListIn (FW r) 0 P ops Q os a w
  | [], a, w, _, _, _, h => h a rfl rfl (fun _ _ => rfl) (fun k hk => by simp [dsts] at hk)
  | o :: os, a, w, h1, h2, h3, h => by
    simp only [offAll, Bool.and_eq_true] at h1
    obtain ⟨h1, h4⟩ := h1
    obtain ⟨dst, op, ty, pos, af, gd⟩ := o
    cases dst with
    | none => simp at h1
    | some d =>
    cases gd with
    | none => simp at h1
    | some g =>
    obtain ⟨i, g⟩ := g
    simp only [Bool.and_eq_true, beq_iff_eq] at h1
    obtain ⟨⟨hi, hg⟩, hd⟩ := h1
    have hi := Nat.eq_of_beq_eq_true hi
    subst hi hg
    have hw : Region.wanted ⟨some d, op, ty, pos, af, some (i, g)⟩ (yielded ops a.tmps) = false := by
      cases g <;> simp [Region.wanted, yielded, hj, h2, hc]
    simp only [wpListIn, hw, if_false, Bool.false_eq_true]
    have hnd : t ≠ d := fun e => by subst e; simp [dsts] at h3
    have h3' : (dsts os).any (Nat.beq t) = false := by
      simp only [dsts, List.filterMap_cons, List.any_cons, Bool.or_eq_false_iff] at h3; exact h3.2
    refine ⟨fun _ _ => trivial, ?_⟩
    refine wpListIn_off hj hc os _ w h4 (by simp [Act.put, Array.getElem?_setIfInBounds, Ne.symm hnd, h2]) h3' fun a' q1 q2 q3 q4 => h a' q1 (by rw [q2]; simp [Act.put]) (fun k hk => ?_) fun k hk hlt => ?_
    · simp only [dsts, List.filterMap_cons, List.any_cons, Bool.or_eq_false_iff] at hk
      have hkd : d ≠ k := fun e => by subst e; simp at hk
      rw [q3 k hk.2]; simp [Act.put, Array.getElem?_setIfInBounds, hkd]
    · cases hk2 : (dsts os).any (Nat.beq k) with
      | true => exact q4 k hk2 (by simpa [Act.put] using hlt)
      | false =>
        have hkd : d = k := by
          simp only [dsts, List.filterMap_cons, List.any_cons, Bool.or_eq_true] at hk
          rcases hk with hk | hk
          · exact (Nat.eq_of_beq_eq_true hk).symm
          · have hk2' : (List.filterMap (·.dst) os).any (Nat.beq k) = false := hk2
            rw [hk2'] at hk; cases hk
        subst hkd
        rw [q3 d hk2]; simp [Act.put, hlt]
/-- Operations under one guard: walked where it lets by, then joined; what is kept is what slot d holds. -/
theorem Ga (n j : Nat) (b : Bool) (d : Nat) {L : List Oper} {t : Nat} {c : Bool} {v : Value} {Q : Exit → Act → World → Prop} (hT : c = b → RegH r P m ds ops (Qn (Qg m ds (dsts (L.take n)) d v l H) Q) (L.take n) l H) (h : RegH r P m ds ops Q (L.drop n) ((d, gv c b v) :: l) H)
    (hoff : offAll j b m (L.take n) = true := by rfl) (hj : (ops[j]?).bind (·.dst) = some t := by rfl) (ht : lk t l = some (.bool c) := by rfl) (hd : (dsts (L.take n)).any (Nat.beq d) = true := by rfl) (hm : Nat.blt d m = true := by rfl)
    (hl : l.all (fun p => !(dsts (L.take n)).any (Nat.beq p.1)) = true := by rfl) : RegH r P m ds ops Q L l H := fun w hw a ha => by
  have hD : ∀ k u, lk k l = some u → (dsts (L.take n)).any (Nat.beq k) = false := fun k u hk => by
    have : ∃ p ∈ l, p.1 = k := by
      clear hl ht hT h hw ha
      induction l with
      | nil => simp [lk] at hk
      | cons p r ih =>
        obtain ⟨q, x⟩ := p
        simp only [lk] at hk
        cases hb : Nat.beq k q with
        | true => exact ⟨_, List.mem_cons_self .., (Nat.eq_of_beq_eq_true hb).symm⟩
        | false => simp [hb] at hk; obtain ⟨p, hp, e⟩ := ih hk; exact ⟨p, List.mem_cons_of_mem _ hp, e⟩
    obtain ⟨p, hp, rfl⟩ := this
    simpa using List.all_eq_true.1 hl p hp
  have key : wpListIn (FW r) 0 P ops (Qn (fun a w => Has m ds ((d, gv c b v) :: l) a ∧ Holds H w) Q) (L.take n) a w := by
    by_cases hc : c = b
    · have h1 := hT hc w hw a ha
      have : ∀ (xs : List Oper) (a : Act) (w : World), wpListIn (FW r) 0 P ops (Qn (Qg m ds (dsts (L.take n)) d v l H) Q) xs a w → wpListIn (FW r) 0 P ops (Qn (fun a w => Has m ds ((d, gv c b v) :: l) a ∧ Holds H w) Q) xs a w := by
        intro xs
        induction xs with
        | nil =>
          rintro a w ⟨⟨l', hl', hk, hs⟩, hh⟩
          refine ⟨⟨hl'.size, hl'.defers, fun k u hku => ?_⟩, hh⟩
          simp only [lk] at hku
          cases hb : Nat.beq k d with
          | true =>
            have := Nat.eq_of_beq_eq_true hb; subst this
            simp [hb] at hku
            rw [← hku]; simp only [gv, if_pos hc]; exact hl'.at_ _ _ hk
          | false =>
            simp [hb] at hku
            have h2 := hD k u hku
            rw [← hs, lk_strip h2] at hku
            exact hl'.at_ _ _ hku
        | cons o xs ih =>
          intro a w h
          simp only [wpListIn] at h ⊢
          split
          · rename_i hw; rw [if_pos hw] at h
            exact Oper.wpIn_q (fun a w h => ih a w h) (fun _ _ _ h => h) (fun ⟨a, w, h⟩ => ⟨a, w, h⟩) h
          · rename_i hw; rw [if_neg hw] at h; exact ⟨h.1, ih _ w h.2⟩
      exact this _ a w h1
    · have hc' : c = !b := by cases b <;> cases c <;> simp_all
      refine wpListIn_off hj hc' _ a w hoff (ha.at_ _ _ ht) (hD _ _ ht) fun a' q1 q2 q3 q4 => ⟨⟨q2.trans ha.size, q1.trans ha.defers, fun k u hku => ?_⟩, hw⟩
      simp only [lk] at hku
      cases hb : Nat.beq k d with
      | true =>
        have := Nat.eq_of_beq_eq_true hb; subst this
        simp [hb] at hku
        rw [← hku]; simp only [gv, if_neg hc]
        exact q4 k hd (by rw [ha.size]; simpa using hm)
      | false =>
        simp [hb] at hku
        rw [q3 k (hD k u hku)]; exact ha.at_ _ _ hku
  have := wpListIn_split (Q := Q) (L.drop n) (fun a w hq => h w hq.2 a hq.1) _ a w key
  rwa [List.take_append_drop] at this
theorem Yg {dst : Nat} {j t : Nat} {b c : Bool} (hc : c = b) (hy : YldH P op ty l H v) (h : RegH r P m ds ops Q rest ((dst, v) :: l) H) (hj : (ops[j]?).bind (·.dst) = some t := by rfl) (ht : lk t l = some (.bool c) := by rfl)
    (hp : plainOp (bare op ty) = true := by rfl) (hd : Nat.blt dst m = true := by rfl) : RegH r P m ds ops Q (⟨some dst, op, ty, pos, af, some (j, b)⟩ :: rest) l H := Gt hc (Y hy h hp hd) hj ht
theorem PkA {k : Operand} {c p : Bool} (hc : ev l k = some (.bool c) := by rfl) (hx : ev l x = some (gv c true (.bool p)) := by rfl) (hy : ev l y = some (.bool false) := by rfl) : YldH P (.pick k x y) ty l H (.bool (c && p)) := fun _ _ => by
  cases c with
  | true => exact y_pickT hc rfl hx
  | false => exact y_pickF hc rfl hy
theorem PkO {k : Operand} {c p : Bool} (hc : ev l k = some (.bool c) := by rfl) (hy : ev l y = some (gv c false (.bool p)) := by rfl) (hx : ev l x = some (.bool true) := by rfl) : YldH P (.pick k x y) ty l H (.bool (c || p)) := fun _ _ => by
  cases c with
  | true => exact y_pickT hc rfl hx
  | false => exact y_pickF hc rfl hy
end Go.Lag

/- Structs compared. -/
namespace Go.Lag
open Go Go.RowKit
variable {P : Program} {r : Option Nat} {l : Env} {w : World} {ty t d e : TypeId} {x y : Operand}

/-- A struct type whose leaves can be compared cell by cell: for each field (offset, leaf or the leaves of a struct). -/
structure EqT (P : Program) (t : TypeId) (fs : List (Nat × TypeId)) : Prop where
  u : P.underlying t = some (.struct (P.fieldsOf t))
  s : P.stoodInHeld t = false
  g : P.eqGuardType P.depth t = false
  f : ((P.fieldsOf t).toList.map fun (f : Field) => (f.name != "_", f.offset, f.type)) = fs.map fun p => (true, p)

/-- Two cells of a leaf type. -/
def leafEq : Value → Value → Option Bool
  | .int k a, .int k' b => if k = k' then some (decide (a = b)) else none
  | .bool a, .bool b => some (a == b)
  | .string a, .string b => some (decide (a = b))
  | _, _ => none
inductive Leaf (P : Program) (t : TypeId) : Prop where
  | int (k : IntKind) (h : P.underlying t = some (.int k))
  | bool (h : P.underlying t = some .bool)
  | str (h : P.underlying t = some .string)

/-- Parts that are equal or not: (part of x, part of y, answer). -/
theorem run_eqFields (dep : Nat) (xs ys : Array Value) : ∀ (fs : List Field) (qs : List Bool), fs.length = qs.length →
    (∀ (i : Nat) (f : Field) (b : Bool), fs[i]? = some f → qs[i]? = some b → f.name ≠ "_" ∧ ∃ u v, (part f.type xs f.offset).run P w = .ok u w ∧ (part f.type ys f.offset).run P w = .ok v w ∧ (Op.equalIn dep f.type u v).run P w = .ok b w) →
    (Op.eqFields dep xs ys fs).run P w = .ok (qs.all id) w := by
  intro fs
  induction fs with
  | nil => intro qs hl _; cases qs with
    | nil => simp [Op.eqFields]
    | cons => simp at hl
  | cons f fs ih =>
    intro qs hl h
    cases qs with
    | nil => simp at hl
    | cons q qs =>
      obtain ⟨h1, u, v, h2, h3, h4⟩ := h 0 f q rfl rfl
      simp only [Op.eqFields, ne_eq, h1, not_false_eq_true, if_true, Sem.run_bind, h2, Result.andThen_ok, h3, h4]
      cases q with
      | false => simp
      | true =>
        simp only [Bool.not_true, Bool.false_eq_true, if_false]
        rw [ih qs (by simpa using hl) (fun i f b hi hb => h (i + 1) f b (by simpa using hi) (by simpa using hb))]
        simp
theorem part_leaf {cs : List Value} {o : Nat} {ft : TypeId} {v : Value} (hT : rowT P ft = some false) (hv : cs[o]? = some v) : (part ft cs.toArray o).run P w = .ok v w := by
  simp [part, run_isAgg hT, hv]

/-- A span. -/
structure SpanT (P : Program) (t : TypeId) (a : TypeId) : Prop where
  q : EqT P t [(0, a), (1, a)]
  i : P.underlying a = some (.int .i64)
  n : rowT P a = some false
theorem run_span {a : TypeId} (h : SpanT P t a) (dep : Nat) (lo hi lo' hi' : Int) :
    (Op.equalIn (dep + 2) t (.agg #[.int .i64 lo, .int .i64 hi]) (.agg #[.int .i64 lo', .int .i64 hi'])).run P w = .ok (decide (lo = lo') && decide (hi = hi')) w := by
  rw [run_equalIn_agg _ _ _ _ _ h.q.u h.q.s]
  have hf := h.q.f
  match hfs : (P.fieldsOf t).toList with
  | [f1, f2] =>
    rw [hfs] at hf
    simp at hf
    obtain ⟨⟨n1, o1, t1⟩, n2, o2, t2⟩ := hf
    rw [run_eqFields (w := w) (dep + 1) _ _ [f1, f2] [decide (lo = lo'), decide (hi = hi')] rfl]
    · simp
    · intro i f b hi' hb
      match i with
      | 0 =>
        simp at hi' hb; subst hi' hb
        refine ⟨n1, _, _, part_leaf (cs := [_, _]) (by rw [t1]; exact h.n) (by rw [o1]; rfl), part_leaf (cs := [_, _]) (by rw [t1]; exact h.n) (by rw [o1]; rfl), ?_⟩
        rw [run_equalIn_int w dep _ _ _ _ _ (by rw [t1]; exact h.i)]; rw [show (∀ a b : Int, (a == b) = decide (a = b)) from fun a b => by by_cases h : a = b <;> simp [h]]
      | 1 =>
        simp at hi' hb; subst hi' hb
        refine ⟨n2, _, _, part_leaf (cs := [_, _]) (by rw [t2]; exact h.n) (by rw [o2]; rfl), part_leaf (cs := [_, _]) (by rw [t2]; exact h.n) (by rw [o2]; rfl), ?_⟩
        rw [run_equalIn_int w dep _ _ _ _ _ (by rw [t2]; exact h.i)]; rw [show (∀ a b : Int, (a == b) = decide (a = b)) from fun a b => by by_cases h : a = b <;> simp [h]]
      | i + 2 => simp at hi'
  | [] => simp [hfs] at hf
  | [_] => simp [hfs] at hf
  | _ :: _ :: _ :: _ => simp [hfs] at hf
theorem y_eqlSp {u a : TypeId} {lo hi lo' hi' : Int} (h : SpanT P t a) (hx : ev l x = some (.agg [.int .i64 lo, .int .i64 hi].toArray)) (hy : ev l y = some (.agg [.int .i64 lo', .int .i64 hi'].toArray)) :
    Yld P (.binOp .eql t x y u) ty l w (.bool (decide (lo = lo') && decide (hi = hi'))) := fun ρ hρ => by
  simp [execOp, bare, hρ _ _ hx, hρ _ _ hy, run_eqGuard_agg w _ _ _ _ _ _ h.q.g, run_eql_struct, run_span (w := w) h 9998]
end Go.Lag

/- What the store of reports is. -/
namespace Go.Lag
open Go Go.RowKit
def voidB (l : List Rep) (known k : Int) : Bool := l.any fun x => decide (x.kind = 8) && decide (x.known ≤ known) && decide (x.of = k)
def cntB (l : List Rep) (known : Int) (x : Rep) : Bool := !decide (x.kind = 8) && decide (x.known ≤ known) && !voidB l known x.id
/-- The reports that count. -/
def countL (l : List Rep) (known : Int) : List Rep := l.filter (cntB l known)
theorem void_t {l : List Rep} {i : Nat} {x : Rep} {m : List (Int × Bool)} {known : Int} (hx : l[i]? = some x) (hv : ∀ k, (aget m k).getD false = voidB (l.take i) known k) (h1 : x.kind = 8) (h2 : x.known ≤ known) :
    ∀ k, (aget (aset m x.of true) k).getD false = voidB (l.take (i + 1)) known k := by
  intro k
  rw [aget_aset, take_get hx]
  simp only [voidB, List.any_append] at hv ⊢
  rw [← hv k]
  by_cases h : x.of = k <;> simp [h, h1, h2]
theorem void_f {l : List Rep} {i : Nat} {x : Rep} {m : List (Int × Bool)} {known : Int} (hx : l[i]? = some x) (hv : ∀ k, (aget m k).getD false = voidB (l.take i) known k) (h : (decide (x.kind = 8) && decide (x.known ≤ known)) = false) :
    ∀ k, (aget m k).getD false = voidB (l.take (i + 1)) known k := by
  intro k
  rw [take_get hx]
  simp only [voidB, List.any_append] at hv ⊢
  rw [← hv k]
  simp [h]
def putAll (m : List (Int × Rep)) (ks : List Int) (x : Rep) : List (Int × Rep) := ks.foldl (fun m k => aset m k x) m
def makerM (l : List Rep) : List (Int × Rep) := l.foldl (fun m x => putAll m (makesL x) x) []
def userM (l : List Rep) : List (Int × Rep) := l.foldl (fun m x => putAll m (usesL x) x) []
def hid1 (m : List (Int × Bool)) (x : Rep) : List (Int × Bool) := if x.kind = 5 then aset m x.parcel true else if x.kind = 6 then aset m x.parcel false else m
def hidM (l : List Rep) : List (Int × Bool) := l.foldl hid1 []
theorem putAll_succ {m : List (Int × Rep)} {ks : List Int} {x : Rep} {j : Nat} {k : Int} (h : ks[j]? = some k) : aset (putAll m (ks.take j) x) k x = putAll m (ks.take (j + 1)) x := by
  rw [take_get h]; simp [putAll]
theorem putAll_end {m : List (Int × Rep)} {ks : List Int} {x : Rep} {j : Nat} (h : ¬ (j : Int) < (ks.length : Int)) : putAll m (ks.take j) x = putAll m ks x := by rw [take_all h]
theorem makerM_succ {l : List Rep} {i : Nat} {x : Rep} (h : l[i]? = some x) : putAll (makerM (l.take i)) (makesL x) x = makerM (l.take (i + 1)) := by
  rw [take_get h]; simp [makerM]
theorem userM_succ {l : List Rep} {i : Nat} {x : Rep} (h : l[i]? = some x) : putAll (userM (l.take i)) (usesL x) x = userM (l.take (i + 1)) := by
  rw [take_get h]; simp [userM]
theorem hidM_succ {l : List Rep} {i : Nat} {x : Rep} (h : l[i]? = some x) : hid1 (hidM (l.take i)) x = hidM (l.take (i + 1)) := by
  rw [take_get h]; simp [hidM]

/-- The store of these reports lies at s; their parts lie as1 they lay in wp. -/
def StoX (wp w : World) (s : Nat) (l : List Rep) (lv : Value) (mb ub hb : Nat) (om ou oh : Obj) : Prop :=
  At w s (.cells [lv, .map (some mb), .map (some ub), .map (some hb)].toArray 139 (0, 0)) ∧ SlR (ER wp) w lv l ∧
    At w mb om ∧ MapR (RepV wp) om (makerM l) ∧ At w ub ou ∧ MapR (RepV wp) ou (userM l) ∧ At w hb oh ∧ MapR EB oh (hidM l) ∧ Ext wp w
structure Sto (wp w : World) (s : Nat) (l : List Rep) : Prop where
  ex : ∃ lv mb ub hb om ou oh, StoX wp w s l lv mb ub hb om ou oh
theorem StoX.ext {wp w w' : World} {s : Nat} {l : List Rep} {lv : Value} {mb ub hb : Nat} {om ou oh : Obj} (h : StoX wp w s l lv mb ub hb om ou oh) (e : Ext w w') : StoX wp w' s l lv mb ub hb om ou oh := by
  obtain ⟨h1, h2, h3, h4, h5, h6, h7, h8, h9⟩ := h
  exact ⟨h1.ext e, h2.ext e, h3.ext e, h4, h5.ext e, h6, h7.ext e, h8, h9.trans e⟩
theorem Sto.ext {wp w w' : World} {s : Nat} {l : List Rep} (h : Sto wp w s l) (e : Ext w w') : Sto wp w' s l := by
  obtain ⟨lv, mb, ub, hb, om, ou, oh, h1, h2, h3, h4, h5, h6, h7, h8, h9⟩ := h.ex
  exact ⟨lv, mb, ub, hb, om, ou, oh, h1.ext e, h2.ext e, h3.ext e, h4, h5.ext e, h6, h7.ext e, h8, h9.trans e⟩
theorem SlP.old {α : Type} {E : Elem α} {wp w : World} {v : Value} {xs : List α} (h : SlR E wp v xs) (h0 : 0 < E.sz) (e : Ext wp w) : SlP E wp.heap.size wp.heap.size wp.heap.size w v xs :=
  ⟨(h.toF h0 (fun k hk => Or.inl hk)).ext e, e.le⟩
def thereB (l : List Rep) (p : Int) : Bool := (aget (makerM l) p).isSome && !(aget (userM l) p).isSome
/-! ### Why a report is refused -/
def relE (l : List Rep) (of_ : Int) : Int :=
  let i := idxF (fun x => decide (x.id = of_)) l
  if i < 0 then 5 else match l[i.toNat]? with
    | none => 0
    | some x => if (l.drop (i + 1).toNat).any (fun y => !decide (x.kind = 4) && (touchesL x ++ makesL x).any fun p => namesB y p) then 8 else 0
theorem relE_8 {l : List Rep} {of_ : Int} {x y : Rep} {j : Nat} (h : ¬ idxF (fun x => decide (x.id = of_)) l < 0) (hx : l[(idxF (fun x => decide (x.id = of_)) l).toNat]? = some x)
    (hy : (l.drop (idxF (fun x => decide (x.id = of_)) l + 1).toNat)[j]? = some y) (h1 : ¬ x.kind = 4) (h2 : ((touchesL x ++ makesL x).any fun p => namesB y p) = true) : 8 = relE l of_ := by
  have : (l.drop (idxF (fun x => decide (x.id = of_)) l + 1).toNat).any (fun y => !decide (x.kind = 4) && (touchesL x ++ makesL x).any fun p => namesB y p) = true :=
    List.any_eq_true.2 ⟨y, List.mem_of_getElem? hy, by simp only [h2, h1]; rfl⟩
  simp only [relE, if_neg h, hx, this, if_true]
theorem relE_0 {l : List Rep} {of_ : Int} {x : Rep} {j : Nat} (h : ¬ idxF (fun x => decide (x.id = of_)) l < 0) (hx : l[(idxF (fun x => decide (x.id = of_)) l).toNat]? = some x)
    (hj : ¬ (j : Int) < ((l.drop (idxF (fun x => decide (x.id = of_)) l + 1).toNat).length : Int)) (hno : ∀ y ∈ (l.drop (idxF (fun x => decide (x.id = of_)) l + 1).toNat).take j, (!decide (x.kind = 4) && (touchesL x ++ makesL x).any fun p => namesB y p) = false) : 0 = relE l of_ := by
  have : (l.drop (idxF (fun x => decide (x.id = of_)) l + 1).toNat).any (fun y => !decide (x.kind = 4) && (touchesL x ++ makesL x).any fun p => namesB y p) = false := by
    rw [List.any_eq_false]; intro y hy; rw [take_all hj] at hno; simp only [hno y hy]; decide
  simp only [relE, if_neg h, hx, this]; rfl
def mkOf (l : List Rep) (p : Int) : Rep := (aget (makerM l) p).getD Rep.zero
def hidB (l : List Rep) (p : Int) : Bool := (aget (hidM l) p).getD false
def adm1 (l : List Rep) (x : Rep) (p : Int) : Bool := !thereB l p || (decide (x.kind = 7) && !decide ((mkOf l p).kind = 1))
def adm2 (l : List Rep) (x : Rep) (p : Int) : Bool := !(hidB l p == decide (x.kind = 6))
def adm3 (x y : Rep) : Bool := decide (x.hour < y.hour) && (touchesL x).any fun p => namesB y p
def admE (l : List Rep) (x : Rep) : Int :=
  if (touchesL x).any (adm1 l x) then 30 else if (touchesL x).any (adm2 l x) then 31 else if l.any (adm3 x) then 7
  else if decide (x.kind = 7) && !decide ((mkOf l x.parcel).goods = (mkOf l x.other).goods) then 8 else 0
def lastKnown (l : List Rep) : Int := match l[((l.length : Int) - 1).toNat]? with | some y => y.known | none => 0
def folE (l : List Rep) (x : Rep) : Int :=
  if (200 : Int) ≤ l.length then 2 else if !reportB x then 1 else if l.any (fun y => decide (y.id = x.id)) then 6
  else if decide ((0 : Int) < l.length) && decide (x.known < lastKnown l) then 7
  else if x.kind = 8 then relE (countL l x.known) x.of else admE (countL l x.known) x
/-- The first refused report and why. -/
def checkE (l : List Rep) : Int × Int := match (List.range l.length).find? (fun i => !decide (folE (l.take i) (l[i]?.getD Rep.zero) = 0)) with
  | some i => ((i : Int), folE (l.take i) (l[i]?.getD Rep.zero))
  | none => (0, 0)
theorem any_of_get {α : Type} {p : α → Bool} {l : List α} {i : Nat} {x : α} (h : l[i]? = some x) (hp : p x = true) : l.any p = true := List.any_eq_true.2 ⟨x, List.mem_of_getElem? h, hp⟩
theorem any_of_none {α : Type} {p : α → Bool} {l : List α} {i : Nat} (hi : ¬ (i : Int) < (l.length : Int)) (h : ∀ y ∈ l.take i, p y = false) : l.any p = false := by
  rw [List.any_eq_false]; intro x hx; simp [all_take_end hi h x hx]
theorem mkOf_some {l : List Rep} {p : Int} {x : Rep} (h : aget (makerM l) p = some x) : mkOf l p = x := by simp [mkOf, h]
theorem mkOf_none {l : List Rep} {p : Int} (h : aget (makerM l) p = none) : mkOf l p = Rep.zero := by simp [mkOf, h]
theorem admE_30 {l : List Rep} {x : Rep} {i : Nat} {p : Int} (hp : (touchesL x)[i]? = some p) (h : adm1 l x p = true) : 30 = admE l x := by
  simp only [admE, any_of_get hp h, if_true]
theorem admE_31 {l : List Rep} {x : Rep} {i j : Nat} {p : Int} (h1 : ∀ y ∈ (touchesL x).take j, adm1 l x y = false) (hj : ¬ (j : Int) < ((touchesL x).length : Int)) (hp : (touchesL x)[i]? = some p) (h : adm2 l x p = true) : 31 = admE l x := by
  simp only [admE, any_of_none hj h1, any_of_get hp h, if_true]; rfl
theorem admE_7 {l : List Rep} {x y : Rep} {i j k : Nat} (h1 : ∀ y ∈ (touchesL x).take j, adm1 l x y = false) (hj : ¬ (j : Int) < ((touchesL x).length : Int))
    (h2 : ∀ y ∈ (touchesL x).take k, adm2 l x y = false) (hk : ¬ (k : Int) < ((touchesL x).length : Int)) (hp : l[i]? = some y) (h : adm3 x y = true) : 7 = admE l x := by
  simp only [admE, any_of_none hj h1, any_of_none hk h2, any_of_get hp h, if_true]; rfl
theorem admE_end {l : List Rep} {x : Rep} {i j k : Nat} (h1 : ∀ y ∈ (touchesL x).take j, adm1 l x y = false) (hj : ¬ (j : Int) < ((touchesL x).length : Int))
    (h2 : ∀ y ∈ (touchesL x).take k, adm2 l x y = false) (hk : ¬ (k : Int) < ((touchesL x).length : Int)) (h3 : ∀ y ∈ l.take i, adm3 x y = false) (hi : ¬ (i : Int) < (l.length : Int)) :
    (if decide (x.kind = 7) && !decide ((mkOf l x.parcel).goods = (mkOf l x.other).goods) then 8 else 0) = admE l x := by
  simp only [admE, any_of_none hj h1, any_of_none hk h2, any_of_none hi h3]; rfl
theorem report_small {x : Rep} (h : reportB x = true) : Small x ∧ x.parts.length ≤ 1000 := by
  simp only [reportB, Bool.and_eq_true, equalB_eq, decide_eq_true_eq] at h
  obtain ⟨⟨⟨h1, h2⟩, h3⟩, h4⟩ := h
  have hc : x.count = (fieldsR x).count := congrArg Rep.count h2
  have hpt : x.parts = (fieldsR x).parts := congrArg Rep.parts h2
  simp only [inB, Bool.and_eq_true, decide_eq_true_eq] at h3
  obtain ⟨h3, h3'⟩ := h3
  clear h2 h4
  have h5 : (0 ≤ x.count ∧ x.count ≤ 8) ∧ x.parts.length ≤ 1000 := by
    unfold fieldsR at hc hpt
    unfold fieldsB at h1
    split at h1
    · simp_all [Rep.zero]
    · split at h1
      · simp_all [Rep.zero, inB]; omega
      · split at h1
        · rename_i q1 q2 q3; simp only [if_neg q1, if_neg q2, if_pos q3, Rep.zero] at hc; simp only [inB, Bool.and_eq_true, decide_eq_true_eq] at h1; omega
        · split at h1
          · simp_all [Rep.zero]
          · split at h1
            · simp_all [Rep.zero]
            · split at h1
              · simp_all [Rep.zero]
              · split at h1
                · simp_all [Rep.zero]
                · split at h1
                  · simp_all [Rep.zero]
                  · cases h1
  exact ⟨⟨by omega, by omega, h5.1.1, h5.1.2⟩, h5.2⟩
theorem countL_len {l : List Rep} {n : Nat} (k : Int) (h : l.length ≤ n) : (countL l k).length ≤ n := Nat.le_trans (List.length_filter_le _ _) h
theorem rep_ok {x : Rep} (h : repE x = 0) : reportB x = true := by
  cases hr : reportB x with
  | true => rfl
  | false => simp [repE, hr] at h
theorem rep_no {x : Rep} (h : ¬ repE x = 0) : reportB x = false := by
  cases hr : reportB x with
  | true => simp [repE, hr] at h
  | false => rfl
section
variable {l : List Rep} {x : Rep}
theorem fol_2 (h1 : (200 : Int) ≤ l.length) : 2 = folE l x := by simp only [folE, if_pos h1]
theorem fol_1 (h1 : ¬ (200 : Int) ≤ l.length) (h2 : reportB x = false) : 1 = folE l x := by simp only [folE, if_neg h1, h2]; rfl
theorem fol_6 (h1 : ¬ (200 : Int) ≤ l.length) (h2 : reportB x = true) (h3 : l.any (fun y => decide (y.id = x.id)) = true) : 6 = folE l x := by simp only [folE, if_neg h1, h2, h3]; rfl
theorem lastKnown_eq {z : Rep} (h : l[((l.length : Int) - 1).toNat]? = some z) : lastKnown l = z.known := by simp only [lastKnown, h]
theorem fol_7 {z : Rep} (h1 : ¬ (200 : Int) ≤ l.length) (h2 : reportB x = true) (h3 : l.any (fun y => decide (y.id = x.id)) = false) (h4 : (0 : Int) < l.length) (h5 : l[((l.length : Int) - 1).toNat]? = some z) (h6 : x.known < z.known) : 7 = folE l x := by
  simp only [folE, if_neg h1, h2, h3, lastKnown_eq h5, h4, h6]; rfl
theorem last_no {z : Rep} (h5 : l[((l.length : Int) - 1).toNat]? = some z) (h6 : ¬ x.known < z.known) : ¬ x.known < lastKnown l := by rwa [lastKnown_eq h5]
theorem last_and (h4 : (0 : Int) < l.length → ¬ x.known < lastKnown l) : (decide ((0 : Int) < l.length) && decide (x.known < lastKnown l)) = false := by
  by_cases h : (0 : Int) < l.length
  · simp [h4 h]
  · rw [decide_eq_false h]; rfl
theorem fol_8 (h1 : ¬ (200 : Int) ≤ l.length) (h2 : reportB x = true) (h3 : l.any (fun y => decide (y.id = x.id)) = false) (h4 : (0 : Int) < l.length → ¬ x.known < lastKnown l) (h5 : x.kind = 8) : relE (countL l x.known) x.of = folE l x := by
  simp only [folE, if_neg h1, h2, h3, last_and h4, if_pos h5]; rfl
theorem fol_a (h1 : ¬ (200 : Int) ≤ l.length) (h2 : reportB x = true) (h3 : l.any (fun y => decide (y.id = x.id)) = false) (h4 : (0 : Int) < l.length → ¬ x.known < lastKnown l) (h5 : ¬ x.kind = 8) : admE (countL l x.known) x = folE l x := by
  simp only [folE, if_neg h1, h2, h3, last_and h4, if_neg h5]; rfl
end
theorem count_mem {l : List Rep} {k : Int} {x : Rep} (h : x ∈ countL l k) : x ∈ l := (List.mem_filter.1 h).1
theorem fol_rep {l : List Rep} {x : Rep} (h : folE l x = 0) : reportB x = true := by
  cases hr : reportB x with
  | true => rfl
  | false => simp only [folE, hr] at h; split at h <;> simp at h
theorem getD_get {l : List Rep} {i : Nat} {x : Rep} (h : l[i]? = some x) : l[i]?.getD Rep.zero = x := by simp [h]
theorem check_found {l : List Rep} {i : Nat} {x : Rep} (hno : ∀ j, j < i → folE (l.take j) (l[j]?.getD Rep.zero) = 0) (hx : l[i]? = some x) (h : ¬ folE (l.take i) x = 0) : ((i : Int), folE (l.take i) x) = checkE l := by
  have hi := (List.getElem?_eq_some_iff.1 hx).1
  have : (List.range l.length).find? (fun i => !decide (folE (l.take i) (l[i]?.getD Rep.zero) = 0)) = some i := by
    rw [List.find?_range_eq_some]
    refine ⟨by simp only [getD_get hx, h]; rfl, by simpa using hi, fun j hj => by simp only [hno j hj]; rfl⟩
  simp only [checkE, this, getD_get hx]
theorem check_none {l : List Rep} {i : Nat} (hno : ∀ j, j < i → folE (l.take j) (l[j]?.getD Rep.zero) = 0) (hi : ¬ (i : Int) < (l.length : Int)) : ((0 : Int), (0 : Int)) = checkE l := by
  have : (List.range l.length).find? (fun i => !decide (folE (l.take i) (l[i]?.getD Rep.zero) = 0)) = none := by
    rw [List.find?_eq_none]; intro j hj; simp at hj ⊢; exact hno j (by omega)
  simp only [checkE, this]
theorem check_step {l : List Rep} {i : Nat} {x : Rep} (hno : ∀ j, j < i → folE (l.take j) (l[j]?.getD Rep.zero) = 0) (hx : l[i]? = some x) (h : folE (l.take i) x = 0) : ∀ j, j < i + 1 → folE (l.take j) (l[j]?.getD Rep.zero) = 0 := by
  intro j hj
  by_cases hji : j = i
  · subst hji; rw [getD_get hx]; exact h
  · exact hno j (by omega)
theorem reps_step {l : List Rep} {i : Nat} {x : Rep} (hr : ∀ y ∈ l.take i, reportB y = true) (hx : l[i]? = some x) (h : folE (l.take i) x = 0) : ∀ y ∈ l.take (i + 1), reportB y = true := by
  rw [take_get hx]; intro y hy
  rcases List.mem_append.1 hy with h1 | h1
  · exact hr y h1
  · simp at h1; subst h1; exact fol_rep h
theorem check_all {l : List Rep} (h : (checkE l).2 = 0) : ∀ j, j < l.length → folE (l.take j) (l[j]?.getD Rep.zero) = 0 := by
  unfold checkE at h
  split at h
  · rename_i i hi
    rw [List.find?_range_eq_some] at hi
    simp at h hi
    exact absurd h hi.1
  · rename_i hi
    rw [List.find?_eq_none] at hi
    intro j hj
    have := hi j (by simpa using hj)
    simpa using this
theorem check_reps {l : List Rep} (h : (checkE l).2 = 0) : ∀ x ∈ l, reportB x = true := by
  intro x hx
  obtain ⟨i, hi⟩ := List.mem_iff_getElem?.1 hx
  have h1 := check_all h i (List.getElem?_eq_some_iff.1 hi).1
  rw [getD_get hi] at h1
  exact fol_rep h1
end Go.Lag

/- Aliases and descriptions. -/
namespace Go.Lag
open Go Go.RowKit
theorem aget_putAll {ks : List Int} {x : Rep} : ∀ {m : List (Int × Rep)} {p : Int} {y : Rep}, aget (putAll m ks x) p = some y → (p ∈ ks ∧ y = x) ∨ aget m p = some y := by
  induction ks with
  | nil => intro m p y h; exact .inr h
  | cons k ks ih =>
    intro m p y h
    rcases ih (m := aset m k x) h with ⟨h1, h2⟩ | h1
    · exact .inl ⟨List.mem_cons_of_mem _ h1, h2⟩
    · rw [aget_aset] at h1
      by_cases hk : k = p
      · subst hk; simp at h1; exact .inl ⟨List.mem_cons_self, h1.symm⟩
      · simp [hk] at h1; exact .inr h1
theorem fold_mem (f : Rep → List Int) : ∀ (l : List Rep) (m : List (Int × Rep)) (p : Int) (y : Rep), aget (l.foldl (fun m x => putAll m (f x) x) m) p = some y → (y ∈ l ∧ p ∈ f y) ∨ aget m p = some y := by
  intro l
  induction l with
  | nil => intro m p y h; exact .inr h
  | cons x l ih =>
    intro m p y h
    rcases ih _ _ _ h with h1 | h1
    · exact .inl ⟨List.mem_cons_of_mem _ h1.1, h1.2⟩
    · rcases aget_putAll h1 with ⟨h2, rfl⟩ | h2
      · exact .inl ⟨List.mem_cons_self, h2⟩
      · exact .inr h2
theorem maker_mem {l : List Rep} {p : Int} {x : Rep} (h : aget (makerM l) p = some x) : x ∈ l ∧ p ∈ makesL x := by
  rcases fold_mem makesL l [] p x h with h1 | h1
  · exact h1
  · simp [aget_nil] at h1
theorem user_mem {l : List Rep} {p : Int} {x : Rep} (h : aget (userM l) p = some x) : x ∈ l ∧ p ∈ usesL x := by
  rcases fold_mem usesL l [] p x h with h1 | h1
  · exact h1
  · simp [aget_nil] at h1
theorem usesL_len (x : Rep) (h : x.parts.length ≤ 1000) : (usesL x).length ≤ 1000 := by
  unfold usesL; repeat' split
  all_goals first | assumption | simp

/-! ### The parcel that another one is the same as, again and again -/
def aliasN (us : List (Int × Rep)) : Nat → Int → Int
  | 0, p => p
  | n + 1, p => match aget us p with
    | some u => if u.kind = 7 then aliasN us n u.parcel else p
    | none => p
def aliasL (l : List Rep) (p : Int) : Int := aliasN (userM l) (l.length + 1) p
/-- Aliases come to an end. -/
structure Ends (l : List Rep) (rank : Int → Nat) : Prop where
  le : ∀ p, rank p ≤ l.length
  lt : ∀ p u, aget (userM l) p = some u → u.kind = 7 → rank u.parcel < rank p
theorem aliasN_enough {us : List (Int × Rep)} {rank : Int → Nat} (h : ∀ p u, aget us p = some u → u.kind = 7 → rank u.parcel < rank p) : ∀ (n m : Nat) (p : Int), rank p < n → rank p < m → aliasN us n p = aliasN us m p := by
  intro n
  induction n with
  | zero => intro m p hn; omega
  | succ n ih =>
    intro m p hn hm
    cases m with
    | zero => omega
    | succ m =>
      simp only [aliasN]
      cases hp : aget us p with
      | none => rfl
      | some u =>
        by_cases hk : u.kind = 7
        · simp only [hk, if_true]
          have := h p u hp hk
          exact ih m u.parcel (by omega) (by omega)
        · simp [hk]
theorem alias_step {l : List Rep} {rank : Int → Nat} (h : Ends l rank) {p : Int} {u : Rep} (hp : aget (userM l) p = some u) (hk : u.kind = 7) : aliasL l p = aliasL l u.parcel := by
  have h1 := h.lt p u hp hk
  have h2 := h.le p
  conv => lhs; unfold aliasL; simp only [aliasN, hp, hk, if_true]
  exact aliasN_enough h.lt _ _ _ (by omega) (by omega)
theorem alias_none {l : List Rep} {p : Int} (hp : aget (userM l) p = none) : aliasL l p = p := by simp [aliasL, aliasN, hp]
theorem alias_other {l : List Rep} {p : Int} {u : Rep} (hp : aget (userM l) p = some u) (hk : ¬ u.kind = 7) : aliasL l p = p := by simp [aliasL, aliasN, hp, hk]

/-! ### Goods and marks -/
def commonL (xs : List ByteArray) (other : ByteArray) : ByteArray := match xs[0]? with
  | some x => if xs.any (fun s => !decide (s = x)) then other else x
  | none => other
def descN (mk : List (Int × Rep)) : Nat → Int → ByteArray × ByteArray
  | 0, _ => (noBytes, noBytes)
  | n + 1, p =>
    let x := (aget mk p).getD Rep.zero
    if x.kind = 1 then (x.goods, x.mark)
    else (commonL ((usesL x).map fun q => (descN mk n q).1) bs109_105_120_101_100, commonL ((usesL x).map fun q => (descN mk n q).2) noBytes)
/-- What every parcel was made of was made before. -/
structure Made (l : List Rep) (rank : Int → Nat) : Prop where
  ne : ∀ p x, aget (makerM l) p = some x → ¬ x.kind = 1 → usesL x ≠ []
  lt : ∀ p x, aget (makerM l) p = some x → ¬ x.kind = 1 → ∀ q ∈ usesL x, (aget (makerM l) q).isSome = true ∧ rank q < rank p
theorem map_take_succ {α β : Type} {f : α → β} {l : List α} {i : Nat} {x : α} (h : l[i]? = some x) : (l.take i).map f ++ [f x] = (l.take (i + 1)).map f := by rw [take_get h]; simp
theorem map_take_end {α β : Type} {f : α → β} {l : List α} {i : Nat} (h : ¬ (i : Int) < (l.length : Int)) : (l.take i).map f = l.map f := by rw [take_all h]
theorem common_eq {xs : List ByteArray} {x other : ByteArray} (h : xs[0]? = some x) (b : Bool) (hb : xs.any (fun s => !decide (s = x)) = b) : commonL xs other = if b then other else x := by
  simp only [commonL, h, hb]
theorem desc_found {mk : List (Int × Rep)} {n : Nat} {p : Int} {x : Rep} (h : aget mk p = some x) (hk : x.kind = 1) : descN mk (n + 1) p = (x.goods, x.mark) := by simp [descN, h, hk]
theorem desc_other {mk : List (Int × Rep)} {n : Nat} {p : Int} {x : Rep} (h : aget mk p = some x) (hk : ¬ x.kind = 1) : descN mk (n + 1) p = (commonL ((usesL x).map fun q => (descN mk n q).1) bs109_105_120_101_100, commonL ((usesL x).map fun q => (descN mk n q).2) noBytes) := by simp [descN, h, hk]
/-! ### What is said of a weight -/
def aboutN (x : Rep) : Int := if x.kind = 1 then 10 * x.id else if x.kind = 4 then x.parcel else 0
def wB (l : List Rep) (p : Int) (x : Rep) : Bool := decide (0 < aboutN x) && decide (aliasL l (aboutN x) = p)
def weighL (l : List Rep) (p : Int) : List Rep := l.filter (wB l p)
theorem pre_filter {l : List Rep} {i : Nat} {x : Rep} {p : Rep → Bool} (hx : l[i]? = some x) (hp : p x = true) : (l.take i).filter p ++ [x] <+: l.filter p := by
  rw [filter_take_t hx rfl hp]
  exact List.IsPrefix.filter _ (List.take_prefix _ _)
def lowF (a : Int) (xs : List Rep) : Int := xs.foldl (fun a x => max a x.low) a
def highF (a : Int) (xs : List Rep) : Int := xs.foldl (fun a x => min a x.high) a
theorem lowF_snoc (a : Int) (xs : List Rep) (x : Rep) : lowF a (xs ++ [x]) = max (lowF a xs) x.low := by simp [lowF]
theorem highF_snoc (a : Int) (xs : List Rep) (x : Rep) : highF a (xs ++ [x]) = min (highF a xs) x.high := by simp [highF]
/-- What is said of a parcel; n: enough for its description. -/
def parcelP (l : List Rep) (n : Nat) (p : Int) : Par :=
  let x := mkOf l p
  ⟨p, x.id, ((aget (userM l) p).getD Rep.zero).id, (descN (makerM l) n p).2, (descN (makerM l) n p).1, lowF 1 (weighL l p), highF 100000000 (weighL l p),
    if x.kind = 1 then x.party else 0, if x.kind = 1 then x.cell else 0, x.hour, decide (x.kind = 1), thereB l p && hidB l p⟩
end Go.Lag

/- Reports in frozen memory; the store and the beach there. -/
namespace Go.Lag
open Go Go.RowKit

/-- A report whose parts lie in Z. -/
def EZ (Z : Hp) : Elem Rep where
  sz := 15
  rep cs x := ∃ pv, cs = repCells x pv ∧ SlZ (EI .i64) Z pv x.parts
  len := by rintro cs x ⟨pv, rfl, _⟩; rfl
  one := by
    rintro cs x ⟨pv, rfl, h⟩ u hu
    simp only [List.mem_cons, List.not_mem_nil, or_false] at hu
    rcases hu with rfl | rfl | rfl | rfl | rfl | rfl | rfl | rfl | rfl | rfl | rfl | rfl | rfl | rfl | rfl <;> first | rfl | exact h.one
theorem repAll {α : Type} {E : Elem α} {Z : Hp} {x : Rep} {pv : Value} {xs : List α} (h : SlZ E Z pv xs) : (repCells x pv).all (·.oneCell') = true := by
  simp only [List.all_cons, List.all_nil, h.one]; rfl
theorem EZ.mono {Z Z' : Hp} (hz : ZLe Z Z') : ∀ cs x, (EZ Z).rep cs x → (EZ Z').rep cs x := fun cs x ⟨pv, h1, h2⟩ => ⟨pv, h1, h2.mono hz⟩
theorem SlZ.up {Z Z' : Hp} {v : Value} {xs : List Rep} (h : SlZ (EZ Z) Z v xs) (hz : ZLe Z Z') : SlZ (EZ Z') Z' v xs := (h.mono hz).imp' rfl (EZ.mono hz)
def RZ (Z : Hp) (v : Value) (x : Rep) : Prop := ∃ pv, v = repV x pv ∧ SlZ (EI .i64) Z pv x.parts
theorem RZ.mono {Z Z' : Hp} (hz : ZLe Z Z') : ∀ v x, RZ Z v x → RZ Z' v x := fun v x ⟨pv, h1, h2⟩ => ⟨pv, h1, h2.mono hz⟩
abbrev repZero : Value := .agg #[.int .i64 0, .int .i64 0, .int .i64 0, .int .u8 0, .int .i64 0, .int .i64 0, .slice none 0 0, .int .i64 0, .string ⟨#[]⟩, .string ⟨#[]⟩, .int .i64 0, .int .i64 0, .int .i64 0, .int .i64 0, .int .i64 0]
/-- What a look-up of a report finds. -/
theorem lookR {Z : Hp} {b : Nat} {m : List (Int × Rep)} (h : MapZ (RZ Z) Z b m) (k : Int) : ∃ pv, SlZ (EI .i64) Z pv ((aget m k).getD Rep.zero).parts ∧ LookZ Z repZero b k (repV ((aget m k).getD Rep.zero) pv) (aget m k).isSome := by
  obtain ⟨v, h1, h2⟩ := h.look repZero k
  rcases h2 with ⟨a, h3, pv, rfl, h4⟩ | ⟨h3, rfl⟩
  · rw [h3] at h1 ⊢; exact ⟨pv, h4, h1⟩
  · rw [h3] at h1 ⊢; exact ⟨.slice none 0 0, SlZ.nil _ _, h1⟩

/-- The store of these reports at s. -/
structure StoZ (Z : Hp) (s : Nat) (l : List Rep) (lv : Value) (mb ub hb : Nat) : Prop where
  at_ : Z s = some (.cells [lv, .map (some mb), .map (some ub), .map (some hb)].toArray 139 (0, 0))
  ls : SlZ (EZ Z) Z lv l
  mm : MapZ (RZ Z) Z mb (makerM l)
  us : MapZ (RZ Z) Z ub (userM l)
  hd : MapZ EB Z hb (hidM l)
theorem StoZ.mono {Z Z' : Hp} {s : Nat} {l : List Rep} {lv : Value} {mb ub hb : Nat} (h : StoZ Z s l lv mb ub hb) (hz : ZLe Z Z') : StoZ Z' s l lv mb ub hb :=
  ⟨hz _ _ h.at_, h.ls.up hz, h.mm.mono hz (RZ.mono hz), h.us.mono hz (RZ.mono hz), h.hd.mono hz fun _ _ q => q⟩
def Sto' (Z : Hp) (s : Nat) (l : List Rep) : Prop := ∃ lv mb ub hb, StoZ Z s l lv mb ub hb
/-! ### Reports of one's own are frozen, beside those that are -/
theorem Holds.fzR {Z : Hp} {R : List Assn} {w : World} {e : TypeId} {v : Value} {xs : List Rep} (h : Holds (.rw (EZ Z) e v xs :: .zm Z :: R) w) : ∃ Z', ZLe Z Z' ∧ SlZ (EZ Z') Z' v xs ∧ Holds (.zm Z' :: R) w := by
  classical
  have h1 : OwnS (EZ Z) w 0 e v xs := h.head
  have h2 : ZOk Z w := h.tail.head
  have hap := (List.pairwise_cons.1 h.apart).1
  obtain ⟨Z1, q1, q2, q3⟩ := OwnS.slz h1 (by show 0 < 15; decide)
  have hle : ZLe Z (fun b => if (Z1 b).isSome = true then Z1 b else Z b) := fun b o hb => by
    have : ¬ (Z1 b).isSome = true := fun hz => (hap (.zm Z) (List.mem_cons_self ..)).ne rfl b (by simp [Assn.fp, hb]) (q1 b hz)
    simp [this, hb]
  have hle1 : ZLe Z1 (fun b => if (Z1 b).isSome = true then Z1 b else Z b) := fun b o hb => by simp [hb]
  refine ⟨_, hle, (q3.mono hle1).imp' rfl (EZ.mono hle), ?_⟩
  have ht := h.tail.tail
  have hap2 := (List.pairwise_cons.1 h.tail.apart).1
  refine ⟨fun A hA => ?_, List.pairwise_cons.2 ⟨fun B hB => ?_, ht.apart⟩⟩
  · rcases List.mem_cons.1 hA with rfl | hA
    · intro b o hb
      by_cases hz : (Z1 b).isSome = true
      · simp only [hz, if_true] at hb; exact q2 b o hb
      · simp only [hz] at hb; exact h2 b o (by simpa using hb)
    · exact ht.all A hA
  · cases hb : B.ro with
    | true => exact .inl ⟨rfl, hb⟩
    | false =>
      refine .inr fun k hk hk2 => ?_
      by_cases hz : (Z1 k).isSome = true
      · rcases hap B (List.mem_cons_of_mem _ hB) with ⟨_, h3⟩ | h3
        · rw [hb] at h3; cases h3
        · exact h3 k (q1 k hz) hk2
      · rcases hap2 B hB with ⟨_, h3⟩ | h3
        · rw [hb] at h3; cases h3
        · exact h3 k (by simpa [Assn.fp, hz] using hk) hk2
theorem FzRP {m : Nat} {ds : List Deferred} {Q : Exit → Act → World → Prop} {l : Env} {H R R' : List Assn} {x : Exit} {Z : Hp} {e : TypeId} {v : Value} {xs : List Rep} (h : ∀ Z', ZLe Z Z' → SlZ (EZ Z') Z' v xs → PostH m ds x Q l (.zm Z' :: R'))
    (hp : Pick (.rw (EZ Z) e v xs) H R := by repeat (first | exact Pick.head | apply Pick.tail)) (hq : Pick (.zm Z) R R' := by repeat (first | exact Pick.head | apply Pick.tail)) : PostH m ds x Q l H := fun w hw => by
  have h1 : Holds (.rw (EZ Z) e v xs :: .zm Z :: R') w := hw.perm (hp.trans (hq.cons _))
  obtain ⟨Z', q1, q2, q3⟩ := h1.fzR
  exact h Z' q1 q2 w q3
/-- Parts of one's own are frozen, beside what is. -/
theorem Holds.fzL {As R : List Assn} {Z : Hp} {w : World} (h : Holds (As ++ .zm Z :: R) w) (hro : ∀ A ∈ As, A.ro = false) : ∃ Z', ZLe Z Z' ∧ (∀ A ∈ As, ∀ b o, A.fp b → w.heap[b]? = some o → Z' b = some o) ∧ Holds (.zm Z' :: R) w := by
  classical
  have hap := List.pairwise_append.1 h.apart
  have h2 : ZOk Z w := h.right.head
  have hne : ∀ A ∈ As, ∀ b, A.fp b → ¬ (Z b).isSome = true := fun A hA b hb hz => (hap.2.2 A hA (.zm Z) (List.mem_cons_self ..)).ne (hro A hA) b hz hb
  refine ⟨fun b => if ∃ A ∈ As, A.fp b then w.heap[b]? else Z b, fun b o hb => ?_, fun A hA b o hf hb => ?_, ?_⟩
  · have : ¬ ∃ A ∈ As, A.fp b := fun ⟨A, hA, hf⟩ => hne A hA b hf (by simp [hb])
    simp [this, hb]
  · have : ∃ A ∈ As, A.fp b := ⟨A, hA, hf⟩
    simp only [this, if_true]; exact hb
  · have ht := h.right.tail
    have hap2 := (List.pairwise_cons.1 h.right.apart).1
    refine ⟨fun A hA => ?_, List.pairwise_cons.2 ⟨fun B hB => ?_, ht.apart⟩⟩
    · rcases List.mem_cons.1 hA with rfl | hA
      · intro b o hb
        by_cases hz : ∃ A ∈ As, A.fp b
        · simpa only [hz, if_true] using hb
        · simp only [hz, if_false] at hb; exact h2 b o hb
      · exact ht.all A hA
    · cases hb : B.ro with
      | true => exact .inl ⟨rfl, hb⟩
      | false =>
        refine .inr fun k hk hk2 => ?_
        by_cases hz : ∃ A ∈ As, A.fp k
        · obtain ⟨A, hA, hf⟩ := hz
          rcases hap.2.2 A hA B (List.mem_cons_of_mem _ hB) with ⟨h3, _⟩ | h3
          · rw [hro A hA] at h3; cases h3
          · exact h3 k hf hk2
        · rcases hap2 B hB with ⟨_, h3⟩ | h3
          · rw [hb] at h3; cases h3
          · have hk : (if ∃ A ∈ As, A.fp k then w.heap[k]? else Z k).isSome = true := hk
            rw [if_neg hz] at hk; exact h3 k hk hk2
theorem frozCl {As : List Assn} {Z' : Hp} {w : World} {R : List Assn} {b : Nat} {cs : List Value} {e : TypeId} (h : Holds (As ++ R) w) (hf : ∀ A ∈ As, ∀ b o, A.fp b → w.heap[b]? = some o → Z' b = some o) (hA : Assn.cl b cs e ∈ As) : Z' b = some (.cells cs.toArray e (0, 0)) :=
  hf _ hA b _ rfl (h.all _ (List.mem_append_left _ hA))
theorem frozMp {α : Type} {As : List Assn} {Z' : Hp} {w : World} {R : List Assn} {b : Nat} {E : Value → α → Prop} {m : List (Int × α)} (h : Holds (As ++ R) w) (hf : ∀ A ∈ As, ∀ b o, A.fp b → w.heap[b]? = some o → Z' b = some o) (hA : Assn.mp E b m ∈ As) : MapZ E Z' b m := by
  obtain ⟨o, h1, h2⟩ := h.all _ (List.mem_append_left _ hA)
  exact ⟨o, hf _ hA b o rfl h1, h2⟩
theorem FzSto {m : Nat} {ds : List Deferred} {Q : Exit → Act → World → Prop} {l_ : Env} {R : List Assn} {x : Exit} {Z : Hp} {s mb ub hb : Nat} {l : List Rep} {lv : Value} (hl : SlZ (EZ Z) Z lv l)
    (h : ∀ Z', ZLe Z Z' → StoZ Z' s l lv mb ub hb → PostH m ds x Q l_ (.zm Z' :: R)) :
    PostH m ds x Q l_ (.cl s [lv, .map (some mb), .map (some ub), .map (some hb)] 139 :: .mp (RZ Z) mb (makerM l) :: .mp (RZ Z) ub (userM l) :: .mp EB hb (hidM l) :: .zm Z :: R) := fun w hw => by
  have hw' : Holds ([.cl s [lv, .map (some mb), .map (some ub), .map (some hb)] 139, .mp (RZ Z) mb (makerM l), .mp (RZ Z) ub (userM l), .mp EB hb (hidM l)] ++ .zm Z :: R) w := hw
  obtain ⟨Z', q1, q2, q3⟩ := hw'.fzL (by intro A hA; simp at hA; rcases hA with rfl | rfl | rfl | rfl <;> rfl)
  exact h Z' q1 ⟨frozCl hw' q2 (by simp), hl.up q1, (frozMp hw' q2 (by simp)).mono (ZLe.refl _) (RZ.mono q1), (frozMp hw' q2 (by simp)).mono (ZLe.refl _) (RZ.mono q1), frozMp hw' q2 (by simp)⟩ w q3
section
variable {r : Option Nat} {P : Program} {m : Nat} {ds : List Deferred} {Q : Exit → Act → World → Prop} {l : Env} {ops : Array Oper} {rest : List Oper} {H : List Assn} {ty t e : TypeId} {x y : Operand}
/-- The address of a report in a slice. -/
theorem IxR {d : Nat} {pos : String} {af : Array Edge} {Z : Hp} {v : Value} {xs : List Rep} {k : IntKind} {i : Nat} [hT : TSlice P t e] [hs : TSize P e 15]
    (h : ∀ a b o pv, xs[i]? = some a → SlZ (EI .i64) Z pv a.parts → CZ Z b o (repCells a pv) → RegH r P m ds ops Q rest ((d, ptr b o) :: l) H) (hx : ev l x = some v := by rfl) (hy : ev l y = some (.int k (i : Int)) := by rfl)
    (hv : SlZ (EZ Z) Z v xs := by assumption) (h0 : i < xs.length := by omega) (hd : Nat.blt d m = true := by rfl) : RegH r P m ds ops Q (⟨some d, .indexAddr t x y, ty, pos, af, none⟩ :: rest) l H := by
  exact Ix (E := EZ Z) (fun a b o cs h1 ⟨pv, h2, h2'⟩ h3 => h a b o pv (by simpa using h1) h2' (h2 ▸ h3)) hx hy hv (by omega) rfl hd
end
end Go.Lag
namespace Go.Lag
theorem SlZ.atR {Z : Hp} {v : Value} {xs : List Rep} (h : SlZ (EZ Z) Z v xs) (i : Nat) (hi : i < xs.length) : ∃ a b o pv, xs[i]? = some a ∧ ElemAt v 15 i b o ∧ SlZ (EI .i64) Z pv a.parts ∧ CZ Z b o (repCells a pv) := by
  obtain ⟨b, o, cs, h1, ⟨pv, rfl, h2⟩, h3⟩ := h.elem (i := i) (a := xs[i]) (by simp [hi])
  exact ⟨_, b, o, pv, by simp [hi], h1, h2, h3⟩
end Go.Lag

/- Ranges over functions. -/
namespace Go.Lag
open Go Go.RowKit
variable {P : Program} {m : Nat} {ds : List Deferred} {Q : Exit → Act → World → Prop} {l : Env} {w : World} {α : Type}

/-- Neither cells nor a map. -/
def Odd (o : Obj) : Prop := o.isCells = false ∧ ∀ es c, o ≠ .map es c

/-- It abides new blocks, and a turn of a block from B on that is odd. -/
structure Abides (B : Nat) (J : World → Prop) : Prop where
  grow : ∀ W W', J W → W.grownBy W' none → J W'
  odd : ∀ W W' k o, J W → W.grownBy W' (some k) → B ≤ k → At W k o → Odd o → J W'

/-- A call of yield. -/
def YieldS (P : Program) (j : Nat) (args : List Value) (w : World) (K : Bool → World → Prop) : Prop :=
  YieldAt (FW none) 0 P j args.toArray w fun e W' => ∃ b, e = .returned (.bool b) ∧ K b W'

theorem d_yield {f : Operand} {j : Nat} {as1 : List Operand} {vs : List Value} {ts : Array TypeId} {ty : TypeId} {R : Bool → World → Prop} {K : Value → World → Prop}
    (hf : ev l f = some (.func (.yield j) #[] #[])) (ha : evs l as1 = some vs) (hY : YieldS P j vs w R) (h : ∀ b w', R b w' → K (.bool b) w') :
    Does none P (.call { callee := .value f, args := as1.toArray, argTypes := ts }) ty l w K := fun ρ hρ => by
  obtain ⟨fn, tmps, assign, body, h1, h2⟩ := hY
  simp [execOp, bare, resolve, hρ _ _ hf, hρ.list ha, Deferred.ofValue, invoke, h1, upon]
  exact RoundIn.mono h2 fun e w' ⟨b, he, hb⟩ => ⟨_, he, h b w' hb⟩

/-- What an iterator does: it hands yield the elements of one of the lists in S, each once, in turn, until yield says false. -/
def Seq (P : Program) (g : FuncId) (caps : List Value) (Need : World → Prop) (E : Value → α → Prop) (S : List α → Prop) : Prop :=
  ∀ (j : Nat) (J : List α → World → Prop) (Jx : World → Prop) (w : World), (∀ pre W, J pre W → Need W) → (∀ pre, Abides w.heap.size (J pre)) → Abides w.heap.size Jx →
    (∀ pre x v W, J pre W → E v x → (∃ xs, S xs ∧ (pre ++ [x]) <+: xs) → YieldS P j [v] W fun b W' => if b then J (pre ++ [x]) W' else Jx W') →
    J [] w → Ret P g ([Value.func (.yield j) #[] #[]] ++ caps).toArray w fun _ w' => (∃ xs, S xs ∧ J xs w') ∨ Jx w'

abbrev dfr : Obj := .deferred (some [])
/-- How the body of a round is left. -/
def RoundP (J : World → Prop) (Jx : Code → World → Prop) (L D : Nat) (rc : LoopState → Option Code → Obj) : Exit → Act → World → Prop
  | .normal, _, W => J W ∧ At W L (rc .busy none) ∧ At W D dfr
  | .ret, _, W => Jx .ret W ∧ At W L (rc .busy none) ∧ At W D dfr
  | .exit id, _, W => Jx (.exit id) W ∧ At W L (rc .busy none) ∧ At W D dfr
  | _, _, _ => False
def BeginA (P : Program) (L : Nat) (rc : LoopState → Option Code → Obj) (body : Code) (R : Exit → Act → World → Prop) (a : Act) (w : World) : Prop :=
  At w L (rc .ready none) ∧ ∀ w₂, w.grownBy w₂ (some L) → w₂.heap.size = w.heap.size → At w₂ L (rc .busy none) → body.wpIn (FW (some L)) 0 P R a w₂

theorem Post.begin {L : Nat} {rc : LoopState → Option Code → Obj} {body : Code} {R : Exit → Act → World → Prop} (hL : At w L (rc .ready none))
    (h : ∀ w₂, w.grownBy w₂ (some L) → w₂.heap.size = w.heap.size → At w₂ L (rc .busy none) → W (some L) P m ds body R l w₂) : Post m ds .normal (Exit.then (BeginA P L rc body R) (fun _ _ _ => False)) l w :=
  fun a ha => ⟨hL, fun w₂ g s h1 => h w₂ g s h1 a ha⟩
theorem Post.round_end {J : World → Prop} {Jx : Code → World → Prop} {L D : Nat} {rc : LoopState → Option Code → Obj} (hJ : J w) (hL : At w L (rc .busy none)) (hD : At w D dfr) : Post m ds .normal (RoundP J Jx L D rc) l w :=
  fun a ha => ⟨hJ, hL, hD⟩
theorem Post.round_exit {J : World → Prop} {Jx : Code → World → Prop} {L D id : Nat} {rc : LoopState → Option Code → Obj} (hJ : Jx (.exit id) w) (hL : At w L (rc .busy none)) (hD : At w D dfr) : Post m ds (.exit id) (RoundP J Jx L D rc) l w :=
  fun a ha => ⟨hJ, hL, hD⟩
theorem Post.round_ret {J : World → Prop} {Jx : Code → World → Prop} {L D : Nat} {rc : LoopState → Option Code → Obj} (hJ : Jx .ret w) (hL : At w L (rc .busy none)) (hD : At w D dfr) : Post m ds .ret (RoundP J Jx L D rc) l w :=
  fun a ha => ⟨hJ, hL, hD⟩

theorem at_putObj {L : Nat} {o : Obj} (h : At w L o) (o' : Obj) : At (w.putObj L o') L o' := World.putObj_heap_same (Array.getElem?_eq_some_iff.1 h).1

theorem Abides.put {B : Nat} {J : World → Prop} (h : Abides B J) {L : Nat} {o : Obj} (hJ : J w) (hB : B ≤ L) (hL : At w L o) (ho : Odd o) (o' : Obj) : J (w.putObj L o') := h.odd _ _ L o hJ (grownBy_putObj' w L o') hB hL ho
theorem odd_loop (r : Loop) : Odd (.loop r) := ⟨rfl, by intro _ _ h; cases h⟩

/-- for x := range f { .. }. -/
theorem W.rangeF {g : Operand} {p : Nat} {assign body : Code} {k : FuncId} {caps : List Value} {Need : World → Prop} {E : Value → α → Prop} {S : List α → Prop}
    (hg : ev l g = some (.func (.func k) #[] caps.toArray)) (hp : Nat.blt p m = true) (he : Enters P k = true) (hseq : Seq P k caps Need E S)
    (J : List α → World → Prop) (Jx : Code → World → Prop) (hneed : ∀ pre W, J pre W → Need W) (hJ : ∀ pre, Abides w.heap.size (J pre)) (hJx : ∀ c, Abides w.heap.size (Jx c)) (h0 : J [] w)
    (hround : ∀ (L D : Nat) (rc : LoopState → Option Code → Obj) (pre : List α) (x : α) (v : Value) (W' : World), D = w.heap.size → L = w.heap.size + 1 → J pre W' → E v x → (∃ xs, S xs ∧ (pre ++ [x]) <+: xs) →
      At W' L (rc .ready none) → At W' D dfr → W (some L) P m [] assign (Exit.then (BeginA P L rc body (RoundP (J (pre ++ [x])) Jx L D rc)) (fun _ _ _ => False)) ((p, v) :: l) W')
    (hdone : ∀ (D : Nat) (xs : List α) (W' : World), w.heap.size ≤ D → S xs → J xs W' → At W' D dfr → Post m ({ target := .collected D, args := #[] } :: ds) .normal Q l W')
    (hstop : ∀ (D : Nat) (c : Code) (W' : World), w.heap.size ≤ D → Jx c W' → At W' D dfr → W none P m ({ target := .collected D, args := #[] } :: ds) c Q l W') :
    W none P m ds (.rangeFunc g #[p] assign body) Q l w := fun a ha => by
  have hlt : p < m := by simpa using hp
  refine wpIn_rangeFunc ?_
  intro fn hfn
  obtain ⟨rec, hrec⟩ : ∃ rec : LoopState → Option Code → Loop, rec = fun st pe => { state := st, pending := pe, fn, tmps := a.tmps, params := #[p], assign, body, defers := w.heap.size } := ⟨_, rfl⟩
  obtain ⟨W1, hW1⟩ : ∃ W1, (w.alloc dfr).alloc (.loop (rec .ready none)) = W1 := ⟨_, rfl⟩
  have hg1 : w.grownBy W1 none := by
    rw [← hW1]
    exact gtrans (World.grownBy_alloc w _ none) (World.grownBy_alloc _ _ none)
  have hL1 : At W1 (w.heap.size + 1) (.loop (rec .ready none)) := by
    rw [← hW1]; have := World.alloc_heap_new (w.alloc dfr) (.loop (rec .ready none)); rwa [World.size_alloc] at this
  have hK1 : At W1 w.heap.size dfr := by
    rw [← hW1]; exact (Below.heap_alloc _ _ _ (by simp)).trans (World.alloc_heap_new w _)
  have hs1 : W1.heap.size = w.heap.size + 2 := by rw [← hW1]; simp
  have hI1 : J [] W1 := (hJ []).grow _ _ h0 hg1
  refine ⟨w.heap.size + 1, [{ target := .collected w.heap.size, args := #[] }], W1, { target := .fn (.func k) caps.toArray, args := #[.func (.yield (w.heap.size + 1)) #[] #[]] }, W1, k,
    #[.func (.yield (w.heap.size + 1)) #[] #[]] ++ caps.toArray, W1, ?_, ?_, ?_, ?_, (fun h => by cases h), ?_⟩
  · rw [← hW1, hrec]; exact run_enterLoop_outer _ _ _ _ _
  · simp only [resolve, ha.ev hg]
    simp [go_sem]
  · intro f' _; trivial
  · simp [invoke, run_callFunc he]
  · have habJ : ∀ pre, Abides W1.heap.size (fun W => J pre W ∧ At W (w.heap.size + 1) (.loop (rec .ready none)) ∧ At W w.heap.size dfr) := fun pre =>
      ⟨fun A B ⟨h1, h2, h3⟩ gg => ⟨(hJ pre).grow _ _ h1 gg, h2.g0 gg, h3.g0 gg⟩, fun A B kk o ⟨h1, h2, h3⟩ gg hb ho hodd =>
        ⟨(hJ pre).odd _ _ _ _ h1 gg (by omega) ho hodd, h2.g gg (by simp; omega), h3.g gg (by simp; omega)⟩⟩
    have habX : Abides W1.heap.size (fun W => ∃ c, Jx c W ∧ At W (w.heap.size + 1) (.loop (rec .done (some c))) ∧ At W w.heap.size dfr) :=
      ⟨fun A B ⟨c, h1, h2, h3⟩ gg => ⟨c, (hJx c).grow _ _ h1 gg, h2.g0 gg, h3.g0 gg⟩, fun A B kk o ⟨c, h1, h2, h3⟩ gg hb ho hodd =>
        ⟨c, (hJx c).odd _ _ _ _ h1 gg (by omega) ho hodd, h2.g gg (by simp; omega), h3.g gg (by simp; omega)⟩⟩
    have key := hseq (w.heap.size + 1) (fun pre W => J pre W ∧ At W (w.heap.size + 1) (.loop (rec .ready none)) ∧ At W w.heap.size dfr)
      (fun W => ∃ c, Jx c W ∧ At W (w.heap.size + 1) (.loop (rec .done (some c))) ∧ At W w.heap.size dfr) W1 (fun pre W h => hneed pre W h.1) habJ habX ?_ ⟨hI1, hL1, hK1⟩
    · have hargs : (#[.func (.yield (w.heap.size + 1)) #[] #[]] ++ caps.toArray : Array Value) = ([Value.func (.yield (w.heap.size + 1)) #[] #[]] ++ caps).toArray := by simp
      rw [hargs]
      refine CallsIn.mono key ?_
      rintro e W2 ⟨v, rfl, h⟩
      rcases h with ⟨xs, hS, hj, hl, hk⟩ | ⟨c, hj, hl, hk⟩
      · refine ⟨none, _, by have := run_endLoop (P := P) hl (by rw [hrec]; simp); rw [hrec] at this; exact this, ?_⟩
        exact hdone _ xs _ (Nat.le_refl _) hS ((hJ xs).put hj (by omega) hl (odd_loop _) _) (hk.g (grownBy_putObj' _ _ _) (by simp)) _ ⟨ha.size, by simp [ha.defers], ha.at_⟩
      · refine ⟨some c, _, by have := run_endLoop (P := P) hl (by rw [hrec]; simp); rw [hrec] at this; exact this, ?_⟩
        exact hstop _ c _ (Nat.le_refl _) ((hJx c).put hj (by omega) hl (odd_loop _) _) (hk.g (grownBy_putObj' _ _ _) (by simp)) _ ⟨ha.size, by simp [ha.defers], ha.at_⟩
    · rintro pre x v W' ⟨hj, hl, hk⟩ hE hpre
      have hy := run_yield (P := P) (args := #[v]) hl (by rw [hrec]; rfl)
      rw [hrec] at hy
      refine ⟨fn, _, assign, body, hy, roundIn_of_wpIn hfn ?_⟩
      have hput : Has m [] ((p, v) :: l) { tmps := a.tmps.setIfInBounds p v, defers := [] } := by
        have h := ha.put hlt v
        exact ⟨h.size, rfl, h.at_⟩
      have h1 := hround (w.heap.size + 1) w.heap.size (fun st pe => .loop (rec st pe)) pre x v W' rfl rfl hj hE hpre hl hk _ hput
      have htm : ((#[p] : Array Tmp).zip #[v]).foldl (fun tmps (t, a) => tmps.setIfInBounds t a) a.tmps = a.tmps.setIfInBounds p v := by simp
      rw [htm]
      refine wpIn_mono h1 ?_
      intro e a1 w1 hq
      cases e with
      | normal =>
        obtain ⟨hl1, hbody⟩ := hq
        refine ⟨_, run_beginRound hl1 (by rw [hrec]), ?_⟩
        have hb := hbody _ (grownBy_putObj' w1 _ _) (by simp) (at_putObj hl1 _)
        rw [hrec] at hb ⊢
        refine wpIn_mono hb ?_
        intro e a2 w2 hq2
        have fin : ∀ (jump : Option Code), At w2 (w.heap.size + 1) (.loop (rec .busy none)) → (Instr.endRound (w.heap.size + 1) jump).run P w2 = .ok (.bool jump.isNone) (w2.putObj (w.heap.size + 1) (.loop (rec (if jump.isNone then .ready else .done) jump))) := fun jump h => by
          have := run_endRound (P := P) jump h
          rw [hrec] at this ⊢
          exact this
        rw [hrec] at fin
        cases e with
        | normal =>
          obtain ⟨q1, q2, q3⟩ := hq2
          refine ⟨_, _, fin none q2, true, rfl, ?_⟩
          refine ⟨(hJ _).put q1 (by omega) q2 (odd_loop _) _, ?_, q3.g (grownBy_putObj' _ _ _) (by simp)⟩
          first | exact at_putObj q2 _ | (rw [hrec]; exact at_putObj q2 _)
        | ret =>
          obtain ⟨q1, q2, q3⟩ := hq2
          refine ⟨_, _, fin (some .ret) q2, false, rfl, ?_⟩
          refine ⟨.ret, (hJx _).put q1 (by omega) q2 (odd_loop _) _, ?_, q3.g (grownBy_putObj' _ _ _) (by simp)⟩
          first | exact at_putObj q2 _ | (rw [hrec]; exact at_putObj q2 _)
        | exit id =>
          obtain ⟨q1, q2, q3⟩ := hq2
          refine ⟨_, _, fin (some (.exit id)) q2, false, rfl, ?_⟩
          refine ⟨.exit id, (hJx _).put q1 (by omega) q2 (odd_loop _) _, ?_, q3.g (grownBy_putObj' _ _ _) (by simp)⟩
          first | exact at_putObj q2 _ | (rw [hrec]; exact at_putObj q2 _)
        | _ => exact hq2.elim
      | _ => exact hq.elim

/-! ### Functions that hold such a range -/
def RetPostM (P : Program) (fn : Func) (R : Value → World → Prop) : Exit → Act → World → Prop := bodyPostM (FW none) 0 P fn fun e w' => ∃ v, e = .returned v ∧ R v w'
theorem Ret.of_WM {f : FuncId} {fn : Func} {c : Code} {args : List Value} {R : Value → World → Prop} (k : Nat) (hf : P.funcs[f]? = some fn) (hb : fn.body = some c) (hk : fn.ntmps = k)
    (hle : Nat.ble args.length k = true) (h : W none P k [] c (RetPostM P fn R) (env0 0 args) w) : Ret P f args.toArray w R := by
  subst hk
  exact callsIn_of_wp_marks hf hb trivial (h _ (has_enter (Nat.le_of_ble_eq_true hle))) rfl
theorem resultsR_run {fn : Func} {a : Act} {vs : List Value} {xs : List ResultVar} (hfn : fn.results = xs.toArray) (ha : Has m ds l a) (hv : ResOk P w l xs vs) : (results fn a.tmps).run P w = .ok (oneOrTuple vs) w := by
  unfold results
  rw [hfn, Sem.run_bind, List.mapM_toArray, Sem.run_map, mapM_resultsR ha _ (fun t => rfl) (fun b t => rfl) xs vs hv]
  simp only [Result.andThen_ok, Sem.run_pure]
  congr 1
  match vs with
  | [] => simp [oneOrTuple]
  | [v] => simp [oneOrTuple]
  | _ :: _ :: _ => simp [oneOrTuple]
/-- The way out of a function with no mark (yet). -/
theorem Post.resultM0 {fn : Func} {R : Value → World → Prop} {vs : List Value} {xs : List ResultVar} (hfn : fn.results = xs.toArray) (hv : ResOk P w l xs vs) (hR : R (oneOrTuple vs) w) :
    Post m [] .ret (RetPostM P fn R) l w := fun a ha => by
  show LeavesInM _ _ _ _ _ _ a.defers _ _
  rw [ha.defers]
  exact ⟨_, resultsR_run hfn ha hv, _, rfl, hR⟩
/-- .. and with one mark. -/
theorem Post.resultM1 {fn : Func} {R : Value → World → Prop} {vs : List Value} {xs : List ResultVar} {D : Nat} {as1 : Array Value} (hfn : fn.results = xs.toArray) (hD : At w D dfr)
    (h : ∀ w', w.grownBy w' (some D) → w'.heap.size = w.heap.size → ResOk P w' l xs vs ∧ R (oneOrTuple vs) w') : Post m [{ target := .collected D, args := as1 }] .ret (RetPostM P fn R) l w := fun a ha => by
  show LeavesInM _ _ _ _ _ _ a.defers _ _
  rw [ha.defers]
  obtain ⟨h1, h2⟩ := h (w.putObj D (.deferred none)) (grownBy_putObj' _ _ _) (by simp)
  exact ⟨by simp, .inl ⟨D, _, rfl, run_takeDeferred hD, _, resultsR_run hfn ha h1, _, rfl, h2⟩⟩
theorem At.oddC {W W' : World} {k b : Nat} {o : Obj} {cs : Array Value} {e : TypeId} {fr : Nat × Nat} (h : At W b (.cells cs e fr)) (g : W.grownBy W' (some k)) (hk : At W k o) (ho : Odd o) : At W' b (.cells cs e fr) := by
  refine h.g g ?_
  intro hb
  cases hb
  unfold At at h hk
  rw [h] at hk; cases hk
  exact absurd ho.1 (by simp [Obj.isCells])
theorem OwnS.odd {α : Type} {E : Elem α} {W W' : World} {k base : Nat} {e : TypeId} {v : Value} {xs : List α} {o : Obj} (h : OwnS E W base e v xs) (g : W.grownBy W' (some k)) (hk : At W k o) (ho : Odd o) : OwnS E W' base e v xs := by
  refine h.g g ?_
  intro b hb he
  cases he
  obtain ⟨cs, ⟨_, _, h3⟩, _⟩ := h
  rcases h3 with ⟨rfl, _⟩ | ⟨q, off, cap, cur, rfl, _, hq, _⟩
  · cases hb
  · have : q = k := by simpa [Value.ownBlock] using hb
    subst this
    unfold At at hq hk
    rw [hq] at hk; cases hk
    exact absurd ho.1 (by simp [Obj.isCells])
end Go.Lag

/- Ranges over functions, over the parts of memory. -/
namespace Go.Lag
open Go Go.RowKit
variable {P : Program} {m : Nat} {ds : List Deferred} {Q : Exit → Act → World → Prop} {l : Env} {w w' : World} {ops : Array Oper} {rest os : List Oper}
variable {H H' H0 H1 R R' pre F : List Assn} {ty t e : TypeId} {x y z : Operand} {α : Type}

def YieldH (P : Program) (j : Nat) (args : List Value) (H : List Assn) (K : Bool → List Assn → Prop) : Prop :=
  ∀ F w, Holds (H ++ F) w → YieldS P j args w fun b w' => ∃ H', K b H' ∧ Holds (H' ++ F) w'
theorem Take.all : Take H H [] := ⟨fun B hB => by simpa using hB, fun w hw => by simpa using hw⟩
theorem Take.skip {A : Assn} (h : Take pre H R) : Take pre (A :: H) (A :: R) :=
  ⟨fun B hB => by
    rcases List.mem_cons.1 ((List.perm_middle.mem_iff).1 hB) with rfl | hB
    · exact List.mem_cons_self ..
    · exact List.mem_cons_of_mem _ (h.mem B hB), fun w hw => by
    have h2 := h.holds w hw.tail
    have : Holds (A :: (pre ++ R)) w := ⟨fun B hB => by
      rcases List.mem_cons.1 hB with rfl | hB
      · exact hw.head
      · exact h2.all B hB, List.pairwise_cons.2 ⟨fun B hB => (List.pairwise_cons.1 hw.apart).1 B (h.mem B hB), h2.apart⟩⟩
    exact this.perm List.perm_middle.symm⟩
/-- A call of yield; H1: what the one who ranges holds. -/
theorem Yc {f : Operand} {j : Nat} {as1 : List Operand} {vs : List Value} {ts : Array TypeId} {K : Bool → List Assn → Prop} (hY : YieldH P j vs H1 K) (hf : ev l f = some (.func (.yield j) #[] #[]) := by rfl) (ha : evs l as1 = some vs := by rfl) (ht : Take H1 H R := by repeat (first | exact Take.all | apply Take.skip)) :
    DoesH none P (.call { callee := .value f, args := as1.toArray, argTypes := ts }) ty l H fun v H' => ∃ b H2, K b H2 ∧ v = .bool b ∧ H' = R ++ H2 := fun w hw =>
  d_yield hf ha (hY R w (ht.holds w hw)) fun b w' ⟨H2, h1, h2⟩ => ⟨_, ⟨b, H2, h1, rfl, rfl⟩, h2.perm List.perm_append_comm⟩

/-- What an iterator does: it hands yield the elements of one of the lists in S, each once, in turn, until yield says false. -/
def SeqH (P : Program) (g : FuncId) (caps : List Value) (own : List Assn) (E : Value → α → Prop) (S : List α → Prop) : Prop :=
  ∀ (j : Nat) (J : List α → List Assn → Prop) (Jx : List Assn → Prop) (H0 : List Assn),
    (∀ pre x v H, J pre H → E v x → (∃ xs, S xs ∧ (pre ++ [x]) <+: xs) → YieldH P j [v] H fun b H' => if b then J (pre ++ [x]) H' else Jx H') →
    J [] H0 → ∀ w, Holds (own ++ H0) w → Ret P g ([Value.func (.yield j) #[] #[]] ++ caps).toArray w fun _ w' => ∃ H', ((∃ xs, S xs ∧ J xs H') ∨ Jx H') ∧ Holds (own ++ H') w'

/-- The way out of an iterator. -/
def PostQ (P : Program) (fn : Func) (own : List Assn) (S : List α → Prop) (J : List α → List Assn → Prop) (Jx : List Assn → Prop) : Exit → Act → World → Prop := RetPost P fn fun _ w' => ∃ H', ((∃ xs, S xs ∧ J xs H') ∨ Jx H') ∧ Holds (own ++ H') w'
theorem SeqH.of {g : FuncId} {caps : List Value} {own : List Assn} {E : Value → α → Prop} {S : List α → Prop} {fn : Func} {c : Code} (k : Nat) (hf : P.funcs[g]? = some fn) (hb : fn.body = some c) (hk : fn.ntmps = k) (hle : Nat.ble (caps.length + 1) k = true)
    (h : ∀ (j : Nat) (J : List α → List Assn → Prop) (Jx : List Assn → Prop) (H0 : List Assn), (∀ pre x v H, J pre H → E v x → (∃ xs, S xs ∧ (pre ++ [x]) <+: xs) → YieldH P j [v] H fun b H' => if b then J (pre ++ [x]) H' else Jx H') → J [] H0 →
      WH none P k [] c (PostQ P fn own S J Jx) (env0 0 (Value.func (.yield j) #[] #[] :: caps)) (own ++ H0)) : SeqH P g caps own E S := fun j J Jx H0 hY h0 w hw =>
  Ret.of_W k hf hb hk (by simpa using hle) (h j J Jx H0 hY h0 w hw)
theorem RnQ {fn : Func} {own : List Assn} {S : List α → Prop} {J : List α → List Assn → Prop} {Jx : List Assn → Prop} (H' : List Assn) (hJ : (∃ xs, S xs ∧ J xs H') ∨ Jx H')
    (hH : SubH (own ++ H') H := by (try simp only [List.nil_append, List.cons_append]); repeat (first | exact SubH.refl | exact SubH.nil | refine SubH.cons (by repeat (first | exact Pick.head | apply Pick.tail)) ?_ | refine SubH.skip ?_))
    (hfn : fn.results = #[] := by rfl) : PostH m [] .normal (PostQ P fn own S J Jx) l H := fun w hw => Post.resultN hfn ⟨H', hJ, hH.holds hw⟩
theorem RvQ {fn : Func} {own : List Assn} {S : List α → Prop} {J : List α → List Assn → Prop} {Jx : List Assn → Prop} (H' : List Assn) (hJ : (∃ xs, S xs ∧ J xs H') ∨ Jx H')
    (hH : SubH (own ++ H') H := by (try simp only [List.nil_append, List.cons_append]); repeat (first | exact SubH.refl | exact SubH.nil | refine SubH.cons (by repeat (first | exact Pick.head | apply Pick.tail)) ?_ | refine SubH.skip ?_))
    (hfn : fn.results = #[] := by rfl) : PostH m [] .ret (PostQ P fn own S J Jx) l H := fun w hw => Post.result (vs := []) (xs := []) (by rw [hfn]) rfl ⟨H', hJ, hH.holds hw⟩

/-- How the body of a round is left. -/
def RoundF (J : List Assn → Prop) (Jx : Code → List Assn → Prop) (L D : Nat) (rc : LoopState → Option Code → Obj) (F : List Assn) : Exit → Act → World → Prop
  | .normal, _, W => ∃ H, J H ∧ Holds (.ob L (rc .busy none) :: .ob D dfr :: (H ++ F)) W
  | .ret, _, W => ∃ H, Jx .ret H ∧ Holds (.ob L (rc .busy none) :: .ob D dfr :: (H ++ F)) W
  | .exit id, _, W => ∃ H, Jx (.exit id) H ∧ Holds (.ob L (rc .busy none) :: .ob D dfr :: (H ++ F)) W
  | _, _, _ => False
theorem Bg {L : Nat} {rc : LoopState → Option Code → Obj} {body : Code} {Rr : Exit → Act → World → Prop} (h : WH (some L) P m ds body Rr l (.ob L (rc .busy none) :: H)) :
    PostH m ds .normal (Exit.then (BeginA P L rc body Rr) (fun _ _ _ => False)) l (.ob L (rc .ready none) :: H) := fun w hw =>
  Post.begin hw.head fun w₂ g s h1 => h w₂ (hw.put rfl g (fun k hk => by cases hk; rfl) h1 fun k hk => .inl hk)
theorem Bg2 {L : Nat} {rc : LoopState → Option Code → Obj} {body : Code} {Rr : Exit → Act → World → Prop} (h : WH (some L) P m ds body Rr l (.ob L (rc .busy none) :: R)) (hp : Pick (.ob L (rc .ready none)) H R := by repeat (first | exact Pick.head | apply Pick.tail)) :
    PostH m ds .normal (Exit.then (BeginA P L rc body Rr) (fun _ _ _ => False)) l H := fun w hw => Bg h w (hw.pick hp)
theorem Fe {J : List Assn → Prop} {Jx : Code → List Assn → Prop} {L D : Nat} {rc : LoopState → Option Code → Obj} (H' : List Assn) (hJ : J H') (hs : SubH (.ob L (rc .busy none) :: .ob D dfr :: (H' ++ F)) H := by (try simp only [List.nil_append, List.cons_append]); repeat (first | exact SubH.refl | exact SubH.nil | refine SubH.cons (by repeat (first | exact Pick.head | apply Pick.tail)) ?_ | refine SubH.skip ?_)) : PostH m ds .normal (RoundF J Jx L D rc F) l H := fun w hw a ha => ⟨H', hJ, hs.holds hw⟩
theorem Fx {J : List Assn → Prop} {Jx : Code → List Assn → Prop} {L D id : Nat} {rc : LoopState → Option Code → Obj} (H' : List Assn) (hJ : Jx (.exit id) H') (hs : SubH (.ob L (rc .busy none) :: .ob D dfr :: (H' ++ F)) H := by (try simp only [List.nil_append, List.cons_append]); repeat (first | exact SubH.refl | exact SubH.nil | refine SubH.cons (by repeat (first | exact Pick.head | apply Pick.tail)) ?_ | refine SubH.skip ?_)) : PostH m ds (.exit id) (RoundF J Jx L D rc F) l H := fun w hw a ha => ⟨H', hJ, hs.holds hw⟩
theorem Fr {J : List Assn → Prop} {Jx : Code → List Assn → Prop} {L D : Nat} {rc : LoopState → Option Code → Obj} (H' : List Assn) (hJ : Jx .ret H') (hs : SubH (.ob L (rc .busy none) :: .ob D dfr :: (H' ++ F)) H := by (try simp only [List.nil_append, List.cons_append]); repeat (first | exact SubH.refl | exact SubH.nil | refine SubH.cons (by repeat (first | exact Pick.head | apply Pick.tail)) ?_ | refine SubH.skip ?_)) : PostH m ds .ret (RoundF J Jx L D rc F) l H := fun w hw a ha => ⟨H', hJ, hs.holds hw⟩

theorem Holds.putObj {L : Nat} {o o' : Obj} (h : Holds (.ob L o :: H) w) : Holds (.ob L o' :: H) (w.putObj L o') :=
  h.put rfl (grownBy_putObj' w L o') (fun k hk => by cases hk; rfl) (at_putObj (o := o) h.head o') fun k hk => .inl hk

/-- for x := range f { .. }. -/
theorem Rf {g : Operand} {p : Nat} {assign body : Code} {k : FuncId} {caps : List Value} {own : List Assn} {E : Value → α → Prop} {S : List α → Prop} [he : TEnter P k]
    (hseq : SeqH P k caps own E S) (J : List α → List Assn → Prop) (Jx : Code → List Assn → Prop) (H0 : List Assn) (h0 : J [] H0)
    (hround : ∀ (F : List Assn) (L D : Nat) (rc : LoopState → Option Code → Obj) (pre : List α) (x : α) (v : Value) (H1 : List Assn), J pre H1 → E v x → (∃ xs, S xs ∧ (pre ++ [x]) <+: xs) →
      WH (some L) P m [] assign (Exit.then (BeginA P L rc body (RoundF (J (pre ++ [x])) Jx L D rc F)) (fun _ _ _ => False)) ((p, v) :: l) (.ob L (rc .ready none) :: .ob D dfr :: (H1 ++ F)))
    (hdone : ∀ (D : Nat) (xs : List α) (H1 : List Assn), S xs → J xs H1 → PostH m ({ target := .collected D, args := #[] } :: ds) .normal Q l (.ob D dfr :: (own ++ H1)))
    (hstop : ∀ (D : Nat) (c : Code) (H1 : List Assn), Jx c H1 → WH none P m ({ target := .collected D, args := #[] } :: ds) c Q l (.ob D dfr :: (own ++ H1)))
    (ht : Take own H R := by repeat (first | exact Take.nil | (apply Take.ro; (· rfl); (· repeat (first | exact List.Mem.head _ | refine List.Mem.tail _ ?_))) | (apply Take.rw; (· repeat (first | exact Pick.head | apply Pick.tail)))))
    (hsub : SubH (own ++ H0) (own ++ R) := by (try simp only [List.nil_append, List.cons_append]); repeat (first | exact SubH.refl | exact SubH.nil | refine SubH.cons (by repeat (first | exact Pick.head | apply Pick.tail)) ?_ | refine SubH.skip ?_))
    (hg : ev l g = some (.func (.func k) #[] caps.toArray) := by rfl) (hp : Nat.blt p m = true := by rfl) :
    WH none P m ds (.rangeFunc g #[p] assign body) Q l H := fun w hw a ha => by
  have hlt : p < m := by simpa using hp
  have hw := hsub.holds (ht.holds w hw)
  refine wpIn_rangeFunc ?_
  intro fn hfn
  obtain ⟨rec, hrec⟩ : ∃ rec : LoopState → Option Code → Loop, rec = fun st pe => { state := st, pending := pe, fn, tmps := a.tmps, params := #[p], assign, body, defers := w.heap.size } := ⟨_, rfl⟩
  obtain ⟨W1, hW1⟩ : ∃ W1, (w.alloc dfr).alloc (.loop (rec .ready none)) = W1 := ⟨_, rfl⟩
  have hK0 : Holds (.ob w.heap.size dfr :: (own ++ H0)) (w.alloc dfr) := hw.push (World.grownBy_alloc w _ none) (World.alloc_heap_new w _) fun k hk => by cases hk; exact Nat.le_refl _
  have hI1 : Holds (.ob (w.heap.size + 1) (.loop (rec .ready none)) :: .ob w.heap.size dfr :: (own ++ H0)) W1 := by
    rw [← hW1]
    refine hK0.push (World.grownBy_alloc _ _ none) ?_ fun k hk => by cases hk; simp
    have := World.alloc_heap_new (w.alloc dfr) (.loop (rec .ready none)); rwa [World.size_alloc] at this
  refine ⟨w.heap.size + 1, [{ target := .collected w.heap.size, args := #[] }], W1, { target := .fn (.func k) caps.toArray, args := #[.func (.yield (w.heap.size + 1)) #[] #[]] }, W1, k,
    #[.func (.yield (w.heap.size + 1)) #[] #[]] ++ caps.toArray, W1, ?_, ?_, ?_, ?_, (fun h => by cases h), ?_⟩
  · rw [← hW1, hrec]; exact run_enterLoop_outer _ _ _ _ _
  · simp only [resolve, ha.ev hg]
    simp [go_sem]
  · intro f' _; trivial
  · simp [invoke, run_callFunc he.h]
  · have key := hseq (w.heap.size + 1) (fun pre H => ∃ H1, J pre H1 ∧ H = .ob (w.heap.size + 1) (.loop (rec .ready none)) :: .ob w.heap.size dfr :: H1)
      (fun H => ∃ c H1, Jx c H1 ∧ H = .ob (w.heap.size + 1) (.loop (rec .done (some c))) :: .ob w.heap.size dfr :: H1) _ ?_ ⟨H0, h0, rfl⟩ W1 (hI1.perm ?_)
    · have hargs : (#[.func (.yield (w.heap.size + 1)) #[] #[]] ++ caps.toArray : Array Value) = ([Value.func (.yield (w.heap.size + 1)) #[] #[]] ++ caps).toArray := by simp
      rw [hargs]
      refine CallsIn.mono key ?_
      rintro e W2 ⟨v, rfl, H', h, hH⟩
      rcases h with ⟨xs, hS, H1, hj, rfl⟩ | ⟨c, H1, hj, rfl⟩
      · have hH := hH.perm (H' := .ob (w.heap.size + 1) (.loop (rec .ready none)) :: .ob w.heap.size dfr :: (own ++ H1)) (by
          refine List.perm_middle.trans (List.Perm.cons _ List.perm_middle))
        refine ⟨none, _, by have := run_endLoop (P := P) hH.head (by rw [hrec]; simp); rw [hrec] at this; exact this, ?_⟩
        exact hdone _ xs _ hS hj _ (hH.putObj (o' := _)).tail _ ⟨ha.size, by simp [ha.defers], ha.at_⟩
      · have hH := hH.perm (H' := .ob (w.heap.size + 1) (.loop (rec .done (some c))) :: .ob w.heap.size dfr :: (own ++ H1)) (by
          refine List.perm_middle.trans (List.Perm.cons _ List.perm_middle))
        refine ⟨some c, _, by have := run_endLoop (P := P) hH.head (by rw [hrec]; simp); rw [hrec] at this; exact this, ?_⟩
        exact hstop _ c _ hj _ (hH.putObj (o' := _)).tail _ ⟨ha.size, by simp [ha.defers], ha.at_⟩
    · rintro pre x v H ⟨H1, hj, rfl⟩ hE hpre F W' hW'
      have hl := hW'.head
      have hy := run_yield (P := P) (args := #[v]) hl (by rw [hrec]; rfl)
      rw [hrec] at hy
      refine ⟨fn, _, assign, body, hy, roundIn_of_wpIn hfn ?_⟩
      have hput : Has m [] ((p, v) :: l) { tmps := a.tmps.setIfInBounds p v, defers := [] } := by
        have h := ha.put hlt v
        exact ⟨h.size, rfl, h.at_⟩
      have h1 := hround F (w.heap.size + 1) w.heap.size (fun st pe => .loop (rec st pe)) pre x v H1 hj hE hpre W' hW' _ hput
      have htm : ((#[p] : Array Tmp).zip #[v]).foldl (fun tmps (t, a) => tmps.setIfInBounds t a) a.tmps = a.tmps.setIfInBounds p v := by simp
      rw [htm]
      refine wpIn_mono h1 ?_
      intro e a1 w1 hq
      cases e with
      | normal =>
        obtain ⟨hl1, hbody⟩ := hq
        refine ⟨_, run_beginRound hl1 (by rw [hrec]), ?_⟩
        have hb := hbody _ (grownBy_putObj' w1 _ _) (by simp) (at_putObj hl1 _)
        rw [hrec] at hb ⊢
        refine wpIn_mono hb ?_
        intro e a2 w2 hq2
        have fin : ∀ (jump : Option Code), At w2 (w.heap.size + 1) (.loop (rec .busy none)) → (Instr.endRound (w.heap.size + 1) jump).run P w2 = .ok (.bool jump.isNone) (w2.putObj (w.heap.size + 1) (.loop (rec (if jump.isNone then .ready else .done) jump))) := fun jump h => by
          have := run_endRound (P := P) jump h
          rw [hrec] at this ⊢
          exact this
        rw [hrec] at fin
        cases e with
        | normal =>
          obtain ⟨H2, q1, q2⟩ := hq2
          refine ⟨_, _, fin none q2.head, true, rfl, ?_⟩
          exact ⟨_, ⟨H2, q1, rfl⟩, by first | exact q2.putObj | (rw [hrec]; exact q2.putObj)⟩
        | ret =>
          obtain ⟨H2, q1, q2⟩ := hq2
          refine ⟨_, _, fin (some .ret) q2.head, false, rfl, ?_⟩
          exact ⟨_, ⟨.ret, H2, q1, rfl⟩, by first | exact q2.putObj | (rw [hrec]; exact q2.putObj)⟩
        | exit id =>
          obtain ⟨H2, q1, q2⟩ := hq2
          refine ⟨_, _, fin (some (.exit id)) q2.head, false, rfl, ?_⟩
          exact ⟨_, ⟨.exit id, H2, q1, rfl⟩, by first | exact q2.putObj | (rw [hrec]; exact q2.putObj)⟩
        | _ => exact hq2.elim
      | _ => exact hq.elim
    · refine (List.Perm.trans ?_ List.perm_middle.symm)
      exact List.Perm.cons _ List.perm_middle.symm

/-! ### Functions that hold such a range -/
def PostM (P : Program) (fn : Func) (K : Value → List Assn → Prop) (F : List Assn) : Exit → Act → World → Prop := RetPostM P fn fun v w' => ∃ H', K v H' ∧ Holds (H' ++ F) w'
theorem Sp.ofM {f : FuncId} {fn : Func} {c : Code} {args : List Value} {K : Value → List Assn → Prop} (k : Nat) (hf : P.funcs[f]? = some fn) (hb : fn.body = some c) (hk : fn.ntmps = k)
    (hle : Nat.ble args.length k = true) (h : ∀ F, WH none P k [] c (PostM P fn K F) (env0 0 args) (pre ++ F)) : Sp P f args pre K :=
  fun F w hw => Ret.of_WM k hf hb hk hle (h F w hw)
/-- Results, read out of memory where they lie there. -/
def ResH (P : Program) (H : List Assn) (l : Env) (xs : List ResultVar) (vs : List Value) : Prop := ∀ w, Holds H w → ResOk P w l xs vs
theorem ResH.nil : ResH P H l [] [] := fun _ _ => rfl
theorem ResH.tmp {k : Nat} {v : Value} {xs : List ResultVar} {vs : List Value} (h : ResH P H l xs vs) (hk : lk k l = some v := by rfl) : ResH P H l (.tmp k :: xs) (v :: vs) := fun w hw => ⟨v, vs, rfl, hk, h w hw⟩
theorem ResH.cell {k b n : Nat} {e : TypeId} {cs : List Value} {xs : List ResultVar} {vs : List Value} [hT : TRow P t true] [hs : TSize P t n] (h : ResH P H l xs vs) (hk : lk k l = some (ptr b 0) := by rfl)
    (hb : Assn.cl b cs e ∈ H := by repeat (first | exact List.Mem.head _ | refine List.Mem.tail _ ?_)) (hn : cs.length = n := by rfl) : ResH P H l (.cell k t :: xs) (.agg cs.toArray :: vs) := fun w hw =>
  ⟨_, vs, rfl, b, 0, cs, hk, rfl, hT.h, hs.h.trans (by rw [hn]), At.cells (hw.all _ hb), h w hw⟩
/-- A return of results that lie in memory. -/
theorem RvC {fn : Func} {K : Value → List Assn → Prop} {vs : List Value} {xs : List ResultVar} {v : Value} (H' : List Assn) (hr : ResH P H l xs vs) (hK : K v H')
    (hH : SubH (H' ++ F) H := by (try simp only [List.nil_append, List.cons_append]); repeat (first | exact SubH.refl | exact SubH.nil | refine SubH.cons (by repeat (first | exact Pick.head | apply Pick.tail)) ?_ | refine SubH.skip ?_))
    (hfn : fn.results = xs.toArray := by rfl) (hv1 : v = oneOrTuple vs := by rfl) : PostH m [] .ret (PostV P fn K F) l H := fun w hw => Post.resultR hfn (hr w hw) ⟨H', hv1 ▸ hK, hH.holds hw⟩
theorem RvM0 {fn : Func} {K : Value → List Assn → Prop} {vs : List Value} {xs : List ResultVar} {v : Value} (H' : List Assn) (hr : ResH P H l xs vs) (hK : K v H')
    (hH : SubH (H' ++ F) H := by (try simp only [List.nil_append, List.cons_append]); repeat (first | exact SubH.refl | exact SubH.nil | refine SubH.cons (by repeat (first | exact Pick.head | apply Pick.tail)) ?_ | refine SubH.skip ?_))
    (hfn : fn.results = xs.toArray := by rfl) (hv1 : v = oneOrTuple vs := by rfl) : PostH m [] .ret (PostM P fn K F) l H := fun w hw => Post.resultM0 hfn (hr w hw) ⟨H', hv1 ▸ hK, hH.holds hw⟩
/-- .. behind one range. -/
theorem RvM1 {fn : Func} {K : Value → List Assn → Prop} {vs : List Value} {xs : List ResultVar} {D : Nat} {as1 : Array Value} {v : Value} (H' : List Assn) (hp : Pick (.ob D dfr) H R) (hr : ResH P R l xs vs) (hK : K v H')
    (hH : SubH (H' ++ F) R := by (try simp only [List.nil_append, List.cons_append]); repeat (first | exact SubH.refl | exact SubH.nil | refine SubH.cons (by repeat (first | exact Pick.head | apply Pick.tail)) ?_ | refine SubH.skip ?_))
    (hfn : fn.results = xs.toArray := by rfl) (hv1 : v = oneOrTuple vs := by rfl) : PostH m [{ target := .collected D, args := as1 }] .ret (PostM P fn K F) l H := fun w hw => by
  have hw1 := hw.pick hp
  refine Post.resultM1 (vs := vs) hfn hw1.head fun w' g _ => ?_
  have hR : Holds R w' := ⟨fun A hA => Assn.g (hw1.tail.all A hA) g fun k hk e => (List.pairwise_cons.1 hw1.apart).1 A hA |>.ne rfl k hk (by cases e; rfl), hw1.tail.apart⟩
  exact ⟨hr w' hR, H', hv1 ▸ hK, hH.holds hR⟩
end Go.Lag

namespace Go.Lag
open Go Go.Proofs

instance : TRow Tryz.prog 1 false := ⟨by kernel_rfl⟩
instance : TSize Tryz.prog 1 1 := ⟨by kernel_rfl⟩
instance : TZero Tryz.prog 1 (.nilFunc) := ⟨by kernel_rfl⟩
instance : TBytes Tryz.prog 1 8 := ⟨by kernel_rfl⟩
instance : TRow Tryz.prog 2 false := ⟨by kernel_rfl⟩
instance : TSize Tryz.prog 2 1 := ⟨by kernel_rfl⟩
instance : TZero Tryz.prog 2 (.int .i64 0) := ⟨by kernel_rfl⟩
instance : TBytes Tryz.prog 2 8 := ⟨by kernel_rfl⟩
instance : TRow Tryz.prog 3 false := ⟨by kernel_rfl⟩
instance : TSize Tryz.prog 3 1 := ⟨by kernel_rfl⟩
instance : TZero Tryz.prog 3 (.int .i64 0) := ⟨by kernel_rfl⟩
instance : TBytes Tryz.prog 3 8 := ⟨by kernel_rfl⟩
instance : TRow Tryz.prog 4 false := ⟨by kernel_rfl⟩
instance : TSize Tryz.prog 4 1 := ⟨by kernel_rfl⟩
instance : TZero Tryz.prog 4 (.bool false) := ⟨by kernel_rfl⟩
instance : TBytes Tryz.prog 4 1 := ⟨by kernel_rfl⟩
instance : TBool Tryz.prog 4 := ⟨by kernel_rfl⟩
instance : TRow Tryz.prog 5 false := ⟨by kernel_rfl⟩
instance : TSize Tryz.prog 5 1 := ⟨by kernel_rfl⟩
instance : TZero Tryz.prog 5 (.int .u8 0) := ⟨by kernel_rfl⟩
instance : TBytes Tryz.prog 5 1 := ⟨by kernel_rfl⟩
instance : TU8 Tryz.prog 5 := ⟨by kernel_rfl⟩
instance : TRow Tryz.prog 6 false := ⟨by kernel_rfl⟩
instance : TSize Tryz.prog 6 1 := ⟨by kernel_rfl⟩
instance : TZero Tryz.prog 6 (.int .u8 0) := ⟨by kernel_rfl⟩
instance : TBytes Tryz.prog 6 1 := ⟨by kernel_rfl⟩
instance : TU8 Tryz.prog 6 := ⟨by kernel_rfl⟩
instance : TRow Tryz.prog 7 true := ⟨by kernel_rfl⟩
instance : TSize Tryz.prog 7 4 := ⟨by kernel_rfl⟩
instance : TZero Tryz.prog 7 (.agg #[.int .i64 0, .int .i64 0, .bool false, .int .u8 0]) := ⟨by kernel_rfl⟩
instance : TBytes Tryz.prog 7 24 := ⟨by kernel_rfl⟩
instance : TField Tryz.prog 7 0 0 := ⟨by kernel_rfl⟩
instance : TPart Tryz.prog 7 0 0 2 := ⟨by kernel_rfl⟩
instance : TField Tryz.prog 7 1 1 := ⟨by kernel_rfl⟩
instance : TPart Tryz.prog 7 1 1 3 := ⟨by kernel_rfl⟩
instance : TField Tryz.prog 7 2 2 := ⟨by kernel_rfl⟩
instance : TPart Tryz.prog 7 2 2 4 := ⟨by kernel_rfl⟩
instance : TField Tryz.prog 7 3 3 := ⟨by kernel_rfl⟩
instance : TPart Tryz.prog 7 3 3 6 := ⟨by kernel_rfl⟩
instance : TPlaces Tryz.prog 7 [(0, 1), (1, 1), (2, 1), (3, 1)] := ⟨by kernel_rfl⟩
instance : TRow Tryz.prog 8 true := ⟨by kernel_rfl⟩
instance : TSize Tryz.prog 8 4 := ⟨by kernel_rfl⟩
instance : TZero Tryz.prog 8 (.agg #[.int .i64 0, .int .i64 0, .bool false, .int .u8 0]) := ⟨by kernel_rfl⟩
instance : TBytes Tryz.prog 8 24 := ⟨by kernel_rfl⟩
instance : TField Tryz.prog 8 0 0 := ⟨by kernel_rfl⟩
instance : TPart Tryz.prog 8 0 0 2 := ⟨by kernel_rfl⟩
instance : TField Tryz.prog 8 1 1 := ⟨by kernel_rfl⟩
instance : TPart Tryz.prog 8 1 1 3 := ⟨by kernel_rfl⟩
instance : TField Tryz.prog 8 2 2 := ⟨by kernel_rfl⟩
instance : TPart Tryz.prog 8 2 2 4 := ⟨by kernel_rfl⟩
instance : TField Tryz.prog 8 3 3 := ⟨by kernel_rfl⟩
instance : TPart Tryz.prog 8 3 3 6 := ⟨by kernel_rfl⟩
instance : TPlaces Tryz.prog 8 [(0, 1), (1, 1), (2, 1), (3, 1)] := ⟨by kernel_rfl⟩
instance : TRow Tryz.prog 9 false := ⟨by kernel_rfl⟩
instance : TSize Tryz.prog 9 1 := ⟨by kernel_rfl⟩
instance : TZero Tryz.prog 9 (.string ⟨#[]⟩) := ⟨by kernel_rfl⟩
instance : TBytes Tryz.prog 9 16 := ⟨by kernel_rfl⟩
instance : TStr Tryz.prog 9 := ⟨by kernel_rfl⟩
instance : TRow Tryz.prog 10 false := ⟨by kernel_rfl⟩
instance : TSize Tryz.prog 10 1 := ⟨by kernel_rfl⟩
instance : TZero Tryz.prog 10 (.string ⟨#[]⟩) := ⟨by kernel_rfl⟩
instance : TBytes Tryz.prog 10 16 := ⟨by kernel_rfl⟩
instance : TStr Tryz.prog 10 := ⟨by kernel_rfl⟩
instance : TRow Tryz.prog 11 false := ⟨by kernel_rfl⟩
instance : TSize Tryz.prog 11 1 := ⟨by kernel_rfl⟩
instance : TZero Tryz.prog 11 (.string ⟨#[]⟩) := ⟨by kernel_rfl⟩
instance : TBytes Tryz.prog 11 16 := ⟨by kernel_rfl⟩
instance : TStr Tryz.prog 11 := ⟨by kernel_rfl⟩
instance : TRow Tryz.prog 12 false := ⟨by kernel_rfl⟩
instance : TSize Tryz.prog 12 1 := ⟨by kernel_rfl⟩
instance : TZero Tryz.prog 12 (.int .u64 0) := ⟨by kernel_rfl⟩
instance : TBytes Tryz.prog 12 8 := ⟨by kernel_rfl⟩
instance : TRow Tryz.prog 13 true := ⟨by kernel_rfl⟩
instance : TSize Tryz.prog 13 2 := ⟨by kernel_rfl⟩
instance : TZero Tryz.prog 13 (.agg #[.string ⟨#[]⟩, .int .u64 0]) := ⟨by kernel_rfl⟩
instance : TBytes Tryz.prog 13 24 := ⟨by kernel_rfl⟩
instance : TField Tryz.prog 13 0 0 := ⟨by kernel_rfl⟩
instance : TPart Tryz.prog 13 0 0 9 := ⟨by kernel_rfl⟩
instance : TField Tryz.prog 13 1 1 := ⟨by kernel_rfl⟩
instance : TPart Tryz.prog 13 1 1 12 := ⟨by kernel_rfl⟩
instance : TPlaces Tryz.prog 13 [(0, 1), (1, 1)] := ⟨by kernel_rfl⟩
instance : TRow Tryz.prog 14 true := ⟨by kernel_rfl⟩
instance : TSize Tryz.prog 14 2 := ⟨by kernel_rfl⟩
instance : TZero Tryz.prog 14 (.agg #[.string ⟨#[]⟩, .int .u64 0]) := ⟨by kernel_rfl⟩
instance : TBytes Tryz.prog 14 24 := ⟨by kernel_rfl⟩
instance : TField Tryz.prog 14 0 0 := ⟨by kernel_rfl⟩
instance : TPart Tryz.prog 14 0 0 9 := ⟨by kernel_rfl⟩
instance : TField Tryz.prog 14 1 1 := ⟨by kernel_rfl⟩
instance : TPart Tryz.prog 14 1 1 12 := ⟨by kernel_rfl⟩
instance : TPlaces Tryz.prog 14 [(0, 1), (1, 1)] := ⟨by kernel_rfl⟩
instance : TRow Tryz.prog 15 false := ⟨by kernel_rfl⟩
instance : TSize Tryz.prog 15 1 := ⟨by kernel_rfl⟩
instance : TZero Tryz.prog 15 (.pointer none) := ⟨by kernel_rfl⟩
instance : TBytes Tryz.prog 15 8 := ⟨by kernel_rfl⟩
instance : TRow Tryz.prog 16 false := ⟨by kernel_rfl⟩
instance : TSize Tryz.prog 16 1 := ⟨by kernel_rfl⟩
instance : TZero Tryz.prog 16 (.pointer none) := ⟨by kernel_rfl⟩
instance : TBytes Tryz.prog 16 8 := ⟨by kernel_rfl⟩
instance : TRow Tryz.prog 17 false := ⟨by kernel_rfl⟩
instance : TSize Tryz.prog 17 1 := ⟨by kernel_rfl⟩
instance : TZero Tryz.prog 17 (.pointer none) := ⟨by kernel_rfl⟩
instance : TBytes Tryz.prog 17 8 := ⟨by kernel_rfl⟩
instance : TRow Tryz.prog 18 true := ⟨by kernel_rfl⟩
instance : TSize Tryz.prog 18 1 := ⟨by kernel_rfl⟩
instance : TZero Tryz.prog 18 (.agg #[.pointer none]) := ⟨by kernel_rfl⟩
instance : TBytes Tryz.prog 18 8 := ⟨by kernel_rfl⟩
instance : TField Tryz.prog 18 0 0 := ⟨by kernel_rfl⟩
instance : TPart Tryz.prog 18 0 0 17 := ⟨by kernel_rfl⟩
instance : TPlaces Tryz.prog 18 [(0, 1)] := ⟨by kernel_rfl⟩
instance : TRow Tryz.prog 19 true := ⟨by kernel_rfl⟩
instance : TSize Tryz.prog 19 1 := ⟨by kernel_rfl⟩
instance : TZero Tryz.prog 19 (.agg #[.pointer none]) := ⟨by kernel_rfl⟩
instance : TBytes Tryz.prog 19 8 := ⟨by kernel_rfl⟩
instance : TField Tryz.prog 19 0 0 := ⟨by kernel_rfl⟩
instance : TPart Tryz.prog 19 0 0 17 := ⟨by kernel_rfl⟩
instance : TPlaces Tryz.prog 19 [(0, 1)] := ⟨by kernel_rfl⟩
instance : TRow Tryz.prog 21 false := ⟨by kernel_rfl⟩
instance : TSize Tryz.prog 21 1 := ⟨by kernel_rfl⟩
instance : TZero Tryz.prog 21 (.int .i32 0) := ⟨by kernel_rfl⟩
instance : TBytes Tryz.prog 21 4 := ⟨by kernel_rfl⟩
instance : TRow Tryz.prog 22 false := ⟨by kernel_rfl⟩
instance : TSize Tryz.prog 22 1 := ⟨by kernel_rfl⟩
instance : TZero Tryz.prog 22 (.slice none 0 0) := ⟨by kernel_rfl⟩
instance : TBytes Tryz.prog 22 24 := ⟨by kernel_rfl⟩
instance : TSlice Tryz.prog 22 92 := ⟨by kernel_rfl⟩
instance : TRow Tryz.prog 23 false := ⟨by kernel_rfl⟩
instance : TSize Tryz.prog 23 1 := ⟨by kernel_rfl⟩
instance : TZero Tryz.prog 23 (.nilFunc) := ⟨by kernel_rfl⟩
instance : TBytes Tryz.prog 23 8 := ⟨by kernel_rfl⟩
instance : TRow Tryz.prog 24 false := ⟨by kernel_rfl⟩
instance : TSize Tryz.prog 24 1 := ⟨by kernel_rfl⟩
instance : TZero Tryz.prog 24 (.nilFunc) := ⟨by kernel_rfl⟩
instance : TBytes Tryz.prog 24 8 := ⟨by kernel_rfl⟩
instance : TRow Tryz.prog 25 false := ⟨by kernel_rfl⟩
instance : TSize Tryz.prog 25 1 := ⟨by kernel_rfl⟩
instance : TZero Tryz.prog 25 (.slice none 0 0) := ⟨by kernel_rfl⟩
instance : TBytes Tryz.prog 25 24 := ⟨by kernel_rfl⟩
instance : TSlice Tryz.prog 25 3 := ⟨by kernel_rfl⟩
instance : TRow Tryz.prog 26 false := ⟨by kernel_rfl⟩
instance : TSize Tryz.prog 26 1 := ⟨by kernel_rfl⟩
instance : TZero Tryz.prog 26 (.int .i64 0) := ⟨by kernel_rfl⟩
instance : TBytes Tryz.prog 26 8 := ⟨by kernel_rfl⟩
instance : TRow Tryz.prog 28 false := ⟨by kernel_rfl⟩
instance : TSize Tryz.prog 28 1 := ⟨by kernel_rfl⟩
instance : TZero Tryz.prog 28 (.nilFunc) := ⟨by kernel_rfl⟩
instance : TBytes Tryz.prog 28 8 := ⟨by kernel_rfl⟩
instance : TRow Tryz.prog 29 false := ⟨by kernel_rfl⟩
instance : TSize Tryz.prog 29 1 := ⟨by kernel_rfl⟩
instance : TZero Tryz.prog 29 (.nilFunc) := ⟨by kernel_rfl⟩
instance : TBytes Tryz.prog 29 8 := ⟨by kernel_rfl⟩
instance : TRow Tryz.prog 30 false := ⟨by kernel_rfl⟩
instance : TSize Tryz.prog 30 1 := ⟨by kernel_rfl⟩
instance : TZero Tryz.prog 30 (.nilFunc) := ⟨by kernel_rfl⟩
instance : TBytes Tryz.prog 30 8 := ⟨by kernel_rfl⟩
instance : TRow Tryz.prog 31 false := ⟨by kernel_rfl⟩
instance : TSize Tryz.prog 31 1 := ⟨by kernel_rfl⟩
instance : TZero Tryz.prog 31 (.slice none 0 0) := ⟨by kernel_rfl⟩
instance : TBytes Tryz.prog 31 24 := ⟨by kernel_rfl⟩
instance : TSlice Tryz.prog 31 42 := ⟨by kernel_rfl⟩
instance : TRow Tryz.prog 33 false := ⟨by kernel_rfl⟩
instance : TSize Tryz.prog 33 1 := ⟨by kernel_rfl⟩
instance : TZero Tryz.prog 33 (.nilFunc) := ⟨by kernel_rfl⟩
instance : TBytes Tryz.prog 33 8 := ⟨by kernel_rfl⟩
instance : TRow Tryz.prog 34 true := ⟨by kernel_rfl⟩
instance : TSize Tryz.prog 34 2 := ⟨by kernel_rfl⟩
instance : TZero Tryz.prog 34 (.agg #[.int .i64 0, .slice none 0 0]) := ⟨by kernel_rfl⟩
instance : TBytes Tryz.prog 34 32 := ⟨by kernel_rfl⟩
instance : TField Tryz.prog 34 0 0 := ⟨by kernel_rfl⟩
instance : TPart Tryz.prog 34 0 0 3 := ⟨by kernel_rfl⟩
instance : TField Tryz.prog 34 1 1 := ⟨by kernel_rfl⟩
instance : TPart Tryz.prog 34 1 1 25 := ⟨by kernel_rfl⟩
instance : TPlaces Tryz.prog 34 [(0, 1), (1, 1)] := ⟨by kernel_rfl⟩
instance : TRow Tryz.prog 35 true := ⟨by kernel_rfl⟩
instance : TSize Tryz.prog 35 2 := ⟨by kernel_rfl⟩
instance : TZero Tryz.prog 35 (.agg #[.int .i64 0, .slice none 0 0]) := ⟨by kernel_rfl⟩
instance : TBytes Tryz.prog 35 32 := ⟨by kernel_rfl⟩
instance : TField Tryz.prog 35 0 0 := ⟨by kernel_rfl⟩
instance : TPart Tryz.prog 35 0 0 3 := ⟨by kernel_rfl⟩
instance : TField Tryz.prog 35 1 1 := ⟨by kernel_rfl⟩
instance : TPart Tryz.prog 35 1 1 25 := ⟨by kernel_rfl⟩
instance : TPlaces Tryz.prog 35 [(0, 1), (1, 1)] := ⟨by kernel_rfl⟩
instance : TRow Tryz.prog 37 false := ⟨by kernel_rfl⟩
instance : TSize Tryz.prog 37 1 := ⟨by kernel_rfl⟩
instance : TZero Tryz.prog 37 (.nilFunc) := ⟨by kernel_rfl⟩
instance : TBytes Tryz.prog 37 8 := ⟨by kernel_rfl⟩
instance : TRow Tryz.prog 38 false := ⟨by kernel_rfl⟩
instance : TSize Tryz.prog 38 1 := ⟨by kernel_rfl⟩
instance : TZero Tryz.prog 38 (.nilFunc) := ⟨by kernel_rfl⟩
instance : TBytes Tryz.prog 38 8 := ⟨by kernel_rfl⟩
instance : TRow Tryz.prog 39 true := ⟨by kernel_rfl⟩
instance : TSize Tryz.prog 39 2 := ⟨by kernel_rfl⟩
instance : TZero Tryz.prog 39 (.agg #[.int .i64 0, .int .i64 0]) := ⟨by kernel_rfl⟩
instance : TBytes Tryz.prog 39 16 := ⟨by kernel_rfl⟩
instance : TField Tryz.prog 39 0 0 := ⟨by kernel_rfl⟩
instance : TPart Tryz.prog 39 0 0 3 := ⟨by kernel_rfl⟩
instance : TField Tryz.prog 39 1 1 := ⟨by kernel_rfl⟩
instance : TPart Tryz.prog 39 1 1 3 := ⟨by kernel_rfl⟩
instance : TPlaces Tryz.prog 39 [(0, 1), (1, 1)] := ⟨by kernel_rfl⟩
instance : TRow Tryz.prog 40 true := ⟨by kernel_rfl⟩
instance : TSize Tryz.prog 40 2 := ⟨by kernel_rfl⟩
instance : TZero Tryz.prog 40 (.agg #[.int .i64 0, .int .i64 0]) := ⟨by kernel_rfl⟩
instance : TBytes Tryz.prog 40 16 := ⟨by kernel_rfl⟩
instance : TField Tryz.prog 40 0 0 := ⟨by kernel_rfl⟩
instance : TPart Tryz.prog 40 0 0 3 := ⟨by kernel_rfl⟩
instance : TField Tryz.prog 40 1 1 := ⟨by kernel_rfl⟩
instance : TPart Tryz.prog 40 1 1 3 := ⟨by kernel_rfl⟩
instance : TPlaces Tryz.prog 40 [(0, 1), (1, 1)] := ⟨by kernel_rfl⟩
instance : TRow Tryz.prog 41 true := ⟨by kernel_rfl⟩
instance : TSize Tryz.prog 41 12 := ⟨by kernel_rfl⟩
instance : TZero Tryz.prog 41 (.agg #[.int .i64 0, .int .i64 0, .int .i64 0, .string ⟨#[]⟩, .string ⟨#[]⟩, .int .i64 0, .int .i64 0, .int .i64 0, .int .i64 0, .int .i64 0, .bool false, .bool false]) := ⟨by kernel_rfl⟩
instance : TBytes Tryz.prog 41 104 := ⟨by kernel_rfl⟩
instance : TField Tryz.prog 41 0 0 := ⟨by kernel_rfl⟩
instance : TPart Tryz.prog 41 0 0 3 := ⟨by kernel_rfl⟩
instance : TField Tryz.prog 41 1 1 := ⟨by kernel_rfl⟩
instance : TPart Tryz.prog 41 1 1 3 := ⟨by kernel_rfl⟩
instance : TField Tryz.prog 41 2 2 := ⟨by kernel_rfl⟩
instance : TPart Tryz.prog 41 2 2 3 := ⟨by kernel_rfl⟩
instance : TField Tryz.prog 41 3 3 := ⟨by kernel_rfl⟩
instance : TPart Tryz.prog 41 3 3 9 := ⟨by kernel_rfl⟩
instance : TField Tryz.prog 41 4 4 := ⟨by kernel_rfl⟩
instance : TPart Tryz.prog 41 4 4 9 := ⟨by kernel_rfl⟩
instance : TField Tryz.prog 41 5 5 := ⟨by kernel_rfl⟩
instance : TPart Tryz.prog 41 5 5 40 := ⟨by kernel_rfl⟩
instance : TField Tryz.prog 41 6 7 := ⟨by kernel_rfl⟩
instance : TPart Tryz.prog 41 6 7 3 := ⟨by kernel_rfl⟩
instance : TField Tryz.prog 41 7 8 := ⟨by kernel_rfl⟩
instance : TPart Tryz.prog 41 7 8 3 := ⟨by kernel_rfl⟩
instance : TField Tryz.prog 41 8 9 := ⟨by kernel_rfl⟩
instance : TPart Tryz.prog 41 8 9 3 := ⟨by kernel_rfl⟩
instance : TField Tryz.prog 41 9 10 := ⟨by kernel_rfl⟩
instance : TPart Tryz.prog 41 9 10 4 := ⟨by kernel_rfl⟩
instance : TField Tryz.prog 41 10 11 := ⟨by kernel_rfl⟩
instance : TPart Tryz.prog 41 10 11 4 := ⟨by kernel_rfl⟩
instance : TPlaces Tryz.prog 41 [(0, 1), (1, 1), (2, 1), (3, 1), (4, 1), (5, 2), (7, 1), (8, 1), (9, 1), (10, 1), (11, 1)] := ⟨by kernel_rfl⟩
instance : TRow Tryz.prog 42 true := ⟨by kernel_rfl⟩
instance : TSize Tryz.prog 42 12 := ⟨by kernel_rfl⟩
instance : TZero Tryz.prog 42 (.agg #[.int .i64 0, .int .i64 0, .int .i64 0, .string ⟨#[]⟩, .string ⟨#[]⟩, .int .i64 0, .int .i64 0, .int .i64 0, .int .i64 0, .int .i64 0, .bool false, .bool false]) := ⟨by kernel_rfl⟩
instance : TBytes Tryz.prog 42 104 := ⟨by kernel_rfl⟩
instance : TField Tryz.prog 42 0 0 := ⟨by kernel_rfl⟩
instance : TPart Tryz.prog 42 0 0 3 := ⟨by kernel_rfl⟩
instance : TField Tryz.prog 42 1 1 := ⟨by kernel_rfl⟩
instance : TPart Tryz.prog 42 1 1 3 := ⟨by kernel_rfl⟩
instance : TField Tryz.prog 42 2 2 := ⟨by kernel_rfl⟩
instance : TPart Tryz.prog 42 2 2 3 := ⟨by kernel_rfl⟩
instance : TField Tryz.prog 42 3 3 := ⟨by kernel_rfl⟩
instance : TPart Tryz.prog 42 3 3 9 := ⟨by kernel_rfl⟩
instance : TField Tryz.prog 42 4 4 := ⟨by kernel_rfl⟩
instance : TPart Tryz.prog 42 4 4 9 := ⟨by kernel_rfl⟩
instance : TField Tryz.prog 42 5 5 := ⟨by kernel_rfl⟩
instance : TPart Tryz.prog 42 5 5 40 := ⟨by kernel_rfl⟩
instance : TField Tryz.prog 42 6 7 := ⟨by kernel_rfl⟩
instance : TPart Tryz.prog 42 6 7 3 := ⟨by kernel_rfl⟩
instance : TField Tryz.prog 42 7 8 := ⟨by kernel_rfl⟩
instance : TPart Tryz.prog 42 7 8 3 := ⟨by kernel_rfl⟩
instance : TField Tryz.prog 42 8 9 := ⟨by kernel_rfl⟩
instance : TPart Tryz.prog 42 8 9 3 := ⟨by kernel_rfl⟩
instance : TField Tryz.prog 42 9 10 := ⟨by kernel_rfl⟩
instance : TPart Tryz.prog 42 9 10 4 := ⟨by kernel_rfl⟩
instance : TField Tryz.prog 42 10 11 := ⟨by kernel_rfl⟩
instance : TPart Tryz.prog 42 10 11 4 := ⟨by kernel_rfl⟩
instance : TPlaces Tryz.prog 42 [(0, 1), (1, 1), (2, 1), (3, 1), (4, 1), (5, 2), (7, 1), (8, 1), (9, 1), (10, 1), (11, 1)] := ⟨by kernel_rfl⟩
instance : TRow Tryz.prog 44 false := ⟨by kernel_rfl⟩
instance : TSize Tryz.prog 44 1 := ⟨by kernel_rfl⟩
instance : TZero Tryz.prog 44 (.nilFunc) := ⟨by kernel_rfl⟩
instance : TBytes Tryz.prog 44 8 := ⟨by kernel_rfl⟩
instance : TRow Tryz.prog 45 false := ⟨by kernel_rfl⟩
instance : TSize Tryz.prog 45 1 := ⟨by kernel_rfl⟩
instance : TZero Tryz.prog 45 (.nilFunc) := ⟨by kernel_rfl⟩
instance : TBytes Tryz.prog 45 8 := ⟨by kernel_rfl⟩
instance : TRow Tryz.prog 47 false := ⟨by kernel_rfl⟩
instance : TSize Tryz.prog 47 1 := ⟨by kernel_rfl⟩
instance : TZero Tryz.prog 47 (.nilFunc) := ⟨by kernel_rfl⟩
instance : TBytes Tryz.prog 47 8 := ⟨by kernel_rfl⟩
instance : TRow Tryz.prog 48 false := ⟨by kernel_rfl⟩
instance : TSize Tryz.prog 48 1 := ⟨by kernel_rfl⟩
instance : TZero Tryz.prog 48 (.nilFunc) := ⟨by kernel_rfl⟩
instance : TBytes Tryz.prog 48 8 := ⟨by kernel_rfl⟩
instance : TRow Tryz.prog 50 false := ⟨by kernel_rfl⟩
instance : TSize Tryz.prog 50 1 := ⟨by kernel_rfl⟩
instance : TZero Tryz.prog 50 (.nilFunc) := ⟨by kernel_rfl⟩
instance : TBytes Tryz.prog 50 8 := ⟨by kernel_rfl⟩
instance : TRow Tryz.prog 51 false := ⟨by kernel_rfl⟩
instance : TSize Tryz.prog 51 1 := ⟨by kernel_rfl⟩
instance : TZero Tryz.prog 51 (.nilFunc) := ⟨by kernel_rfl⟩
instance : TBytes Tryz.prog 51 8 := ⟨by kernel_rfl⟩
instance : TRow Tryz.prog 52 false := ⟨by kernel_rfl⟩
instance : TSize Tryz.prog 52 1 := ⟨by kernel_rfl⟩
instance : TZero Tryz.prog 52 (.nilFunc) := ⟨by kernel_rfl⟩
instance : TBytes Tryz.prog 52 8 := ⟨by kernel_rfl⟩
instance : TRow Tryz.prog 53 false := ⟨by kernel_rfl⟩
instance : TSize Tryz.prog 53 1 := ⟨by kernel_rfl⟩
instance : TZero Tryz.prog 53 (.nilFunc) := ⟨by kernel_rfl⟩
instance : TBytes Tryz.prog 53 8 := ⟨by kernel_rfl⟩
instance : TRow Tryz.prog 54 false := ⟨by kernel_rfl⟩
instance : TSize Tryz.prog 54 1 := ⟨by kernel_rfl⟩
instance : TZero Tryz.prog 54 (.slice none 0 0) := ⟨by kernel_rfl⟩
instance : TBytes Tryz.prog 54 24 := ⟨by kernel_rfl⟩
instance : TSlice Tryz.prog 54 262 := ⟨by kernel_rfl⟩
instance : TRow Tryz.prog 55 true := ⟨by kernel_rfl⟩
instance : TSize Tryz.prog 55 4 := ⟨by kernel_rfl⟩
instance : TZero Tryz.prog 55 (.agg #[.int .i64 0, .int .i64 0, .slice none 0 0, .slice none 0 0]) := ⟨by kernel_rfl⟩
instance : TBytes Tryz.prog 55 64 := ⟨by kernel_rfl⟩
instance : TField Tryz.prog 55 0 0 := ⟨by kernel_rfl⟩
instance : TPart Tryz.prog 55 0 0 3 := ⟨by kernel_rfl⟩
instance : TField Tryz.prog 55 1 1 := ⟨by kernel_rfl⟩
instance : TPart Tryz.prog 55 1 1 3 := ⟨by kernel_rfl⟩
instance : TField Tryz.prog 55 2 2 := ⟨by kernel_rfl⟩
instance : TPart Tryz.prog 55 2 2 25 := ⟨by kernel_rfl⟩
instance : TField Tryz.prog 55 3 3 := ⟨by kernel_rfl⟩
instance : TPart Tryz.prog 55 3 3 54 := ⟨by kernel_rfl⟩
instance : TPlaces Tryz.prog 55 [(0, 1), (1, 1), (2, 1), (3, 1)] := ⟨by kernel_rfl⟩
instance : TRow Tryz.prog 56 true := ⟨by kernel_rfl⟩
instance : TSize Tryz.prog 56 4 := ⟨by kernel_rfl⟩
instance : TZero Tryz.prog 56 (.agg #[.int .i64 0, .int .i64 0, .slice none 0 0, .slice none 0 0]) := ⟨by kernel_rfl⟩
instance : TBytes Tryz.prog 56 64 := ⟨by kernel_rfl⟩
instance : TField Tryz.prog 56 0 0 := ⟨by kernel_rfl⟩
instance : TPart Tryz.prog 56 0 0 3 := ⟨by kernel_rfl⟩
instance : TField Tryz.prog 56 1 1 := ⟨by kernel_rfl⟩
instance : TPart Tryz.prog 56 1 1 3 := ⟨by kernel_rfl⟩
instance : TField Tryz.prog 56 2 2 := ⟨by kernel_rfl⟩
instance : TPart Tryz.prog 56 2 2 25 := ⟨by kernel_rfl⟩
instance : TField Tryz.prog 56 3 3 := ⟨by kernel_rfl⟩
instance : TPart Tryz.prog 56 3 3 54 := ⟨by kernel_rfl⟩
instance : TPlaces Tryz.prog 56 [(0, 1), (1, 1), (2, 1), (3, 1)] := ⟨by kernel_rfl⟩
instance : TRow Tryz.prog 57 false := ⟨by kernel_rfl⟩
instance : TSize Tryz.prog 57 1 := ⟨by kernel_rfl⟩
instance : TZero Tryz.prog 57 (.slice none 0 0) := ⟨by kernel_rfl⟩
instance : TBytes Tryz.prog 57 24 := ⟨by kernel_rfl⟩
instance : TSlice Tryz.prog 57 82 := ⟨by kernel_rfl⟩
instance : TRow Tryz.prog 58 false := ⟨by kernel_rfl⟩
instance : TSize Tryz.prog 58 1 := ⟨by kernel_rfl⟩
instance : TZero Tryz.prog 58 (.slice none 0 0) := ⟨by kernel_rfl⟩
instance : TBytes Tryz.prog 58 24 := ⟨by kernel_rfl⟩
instance : TSlice Tryz.prog 58 151 := ⟨by kernel_rfl⟩
instance : TRow Tryz.prog 59 true := ⟨by kernel_rfl⟩
instance : TSize Tryz.prog 59 6 := ⟨by kernel_rfl⟩
instance : TZero Tryz.prog 59 (.agg #[.int .i64 0, .int .i64 0, .slice none 0 0, .slice none 0 0, .slice none 0 0, .slice none 0 0]) := ⟨by kernel_rfl⟩
instance : TBytes Tryz.prog 59 112 := ⟨by kernel_rfl⟩
instance : TField Tryz.prog 59 0 0 := ⟨by kernel_rfl⟩
instance : TPart Tryz.prog 59 0 0 56 := ⟨by kernel_rfl⟩
instance : TField Tryz.prog 59 1 4 := ⟨by kernel_rfl⟩
instance : TPart Tryz.prog 59 1 4 57 := ⟨by kernel_rfl⟩
instance : TField Tryz.prog 59 2 5 := ⟨by kernel_rfl⟩
instance : TPart Tryz.prog 59 2 5 58 := ⟨by kernel_rfl⟩
instance : TPlaces Tryz.prog 59 [(0, 4), (4, 1), (5, 1)] := ⟨by kernel_rfl⟩
instance : TRow Tryz.prog 60 true := ⟨by kernel_rfl⟩
instance : TSize Tryz.prog 60 6 := ⟨by kernel_rfl⟩
instance : TZero Tryz.prog 60 (.agg #[.int .i64 0, .int .i64 0, .slice none 0 0, .slice none 0 0, .slice none 0 0, .slice none 0 0]) := ⟨by kernel_rfl⟩
instance : TBytes Tryz.prog 60 112 := ⟨by kernel_rfl⟩
instance : TField Tryz.prog 60 0 0 := ⟨by kernel_rfl⟩
instance : TPart Tryz.prog 60 0 0 56 := ⟨by kernel_rfl⟩
instance : TField Tryz.prog 60 1 4 := ⟨by kernel_rfl⟩
instance : TPart Tryz.prog 60 1 4 57 := ⟨by kernel_rfl⟩
instance : TField Tryz.prog 60 2 5 := ⟨by kernel_rfl⟩
instance : TPart Tryz.prog 60 2 5 58 := ⟨by kernel_rfl⟩
instance : TPlaces Tryz.prog 60 [(0, 4), (4, 1), (5, 1)] := ⟨by kernel_rfl⟩
instance : TRow Tryz.prog 61 false := ⟨by kernel_rfl⟩
instance : TSize Tryz.prog 61 1 := ⟨by kernel_rfl⟩
instance : TZero Tryz.prog 61 (.slice none 0 0) := ⟨by kernel_rfl⟩
instance : TBytes Tryz.prog 61 24 := ⟨by kernel_rfl⟩
instance : TSlice Tryz.prog 61 264 := ⟨by kernel_rfl⟩
instance : TRow Tryz.prog 62 false := ⟨by kernel_rfl⟩
instance : TSize Tryz.prog 62 1 := ⟨by kernel_rfl⟩
instance : TZero Tryz.prog 62 (.slice none 0 0) := ⟨by kernel_rfl⟩
instance : TBytes Tryz.prog 62 24 := ⟨by kernel_rfl⟩
instance : TSlice Tryz.prog 62 153 := ⟨by kernel_rfl⟩
instance : TRow Tryz.prog 63 false := ⟨by kernel_rfl⟩
instance : TSize Tryz.prog 63 1 := ⟨by kernel_rfl⟩
instance : TZero Tryz.prog 63 (.nilFunc) := ⟨by kernel_rfl⟩
instance : TBytes Tryz.prog 63 8 := ⟨by kernel_rfl⟩
instance : TRow Tryz.prog 64 false := ⟨by kernel_rfl⟩
instance : TSize Tryz.prog 64 1 := ⟨by kernel_rfl⟩
instance : TZero Tryz.prog 64 (.nilFunc) := ⟨by kernel_rfl⟩
instance : TBytes Tryz.prog 64 8 := ⟨by kernel_rfl⟩
instance : TRow Tryz.prog 65 false := ⟨by kernel_rfl⟩
instance : TSize Tryz.prog 65 1 := ⟨by kernel_rfl⟩
instance : TZero Tryz.prog 65 (.slice none 0 0) := ⟨by kernel_rfl⟩
instance : TBytes Tryz.prog 65 24 := ⟨by kernel_rfl⟩
instance : TSlice Tryz.prog 65 74 := ⟨by kernel_rfl⟩
instance : TRow Tryz.prog 66 false := ⟨by kernel_rfl⟩
instance : TSize Tryz.prog 66 1 := ⟨by kernel_rfl⟩
instance : TZero Tryz.prog 66 (.slice none 0 0) := ⟨by kernel_rfl⟩
instance : TBytes Tryz.prog 66 24 := ⟨by kernel_rfl⟩
instance : TSlice Tryz.prog 66 25 := ⟨by kernel_rfl⟩
instance : TRow Tryz.prog 67 true := ⟨by kernel_rfl⟩
instance : TSize Tryz.prog 67 3 := ⟨by kernel_rfl⟩
instance : TZero Tryz.prog 67 (.agg #[.slice none 0 0, .slice none 0 0, .slice none 0 0]) := ⟨by kernel_rfl⟩
instance : TBytes Tryz.prog 67 72 := ⟨by kernel_rfl⟩
instance : TField Tryz.prog 67 0 0 := ⟨by kernel_rfl⟩
instance : TPart Tryz.prog 67 0 0 25 := ⟨by kernel_rfl⟩
instance : TField Tryz.prog 67 1 1 := ⟨by kernel_rfl⟩
instance : TPart Tryz.prog 67 1 1 65 := ⟨by kernel_rfl⟩
instance : TField Tryz.prog 67 2 2 := ⟨by kernel_rfl⟩
instance : TPart Tryz.prog 67 2 2 66 := ⟨by kernel_rfl⟩
instance : TPlaces Tryz.prog 67 [(0, 1), (1, 1), (2, 1)] := ⟨by kernel_rfl⟩
instance : TRow Tryz.prog 68 true := ⟨by kernel_rfl⟩
instance : TSize Tryz.prog 68 3 := ⟨by kernel_rfl⟩
instance : TZero Tryz.prog 68 (.agg #[.slice none 0 0, .slice none 0 0, .slice none 0 0]) := ⟨by kernel_rfl⟩
instance : TBytes Tryz.prog 68 72 := ⟨by kernel_rfl⟩
instance : TField Tryz.prog 68 0 0 := ⟨by kernel_rfl⟩
instance : TPart Tryz.prog 68 0 0 25 := ⟨by kernel_rfl⟩
instance : TField Tryz.prog 68 1 1 := ⟨by kernel_rfl⟩
instance : TPart Tryz.prog 68 1 1 65 := ⟨by kernel_rfl⟩
instance : TField Tryz.prog 68 2 2 := ⟨by kernel_rfl⟩
instance : TPart Tryz.prog 68 2 2 66 := ⟨by kernel_rfl⟩
instance : TPlaces Tryz.prog 68 [(0, 1), (1, 1), (2, 1)] := ⟨by kernel_rfl⟩
instance : TRow Tryz.prog 70 false := ⟨by kernel_rfl⟩
instance : TSize Tryz.prog 70 1 := ⟨by kernel_rfl⟩
instance : TZero Tryz.prog 70 (.nilFunc) := ⟨by kernel_rfl⟩
instance : TBytes Tryz.prog 70 8 := ⟨by kernel_rfl⟩
instance : TRow Tryz.prog 72 false := ⟨by kernel_rfl⟩
instance : TSize Tryz.prog 72 1 := ⟨by kernel_rfl⟩
instance : TZero Tryz.prog 72 (.nilFunc) := ⟨by kernel_rfl⟩
instance : TBytes Tryz.prog 72 8 := ⟨by kernel_rfl⟩
instance : TRow Tryz.prog 73 true := ⟨by kernel_rfl⟩
instance : TSize Tryz.prog 73 3 := ⟨by kernel_rfl⟩
instance : TZero Tryz.prog 73 (.agg #[.int .i64 0, .int .i64 0, .int .i64 0]) := ⟨by kernel_rfl⟩
instance : TBytes Tryz.prog 73 24 := ⟨by kernel_rfl⟩
instance : TField Tryz.prog 73 0 0 := ⟨by kernel_rfl⟩
instance : TPart Tryz.prog 73 0 0 3 := ⟨by kernel_rfl⟩
instance : TField Tryz.prog 73 1 1 := ⟨by kernel_rfl⟩
instance : TPart Tryz.prog 73 1 1 3 := ⟨by kernel_rfl⟩
instance : TField Tryz.prog 73 2 2 := ⟨by kernel_rfl⟩
instance : TPart Tryz.prog 73 2 2 3 := ⟨by kernel_rfl⟩
instance : TPlaces Tryz.prog 73 [(0, 1), (1, 1), (2, 1)] := ⟨by kernel_rfl⟩
instance : TRow Tryz.prog 74 true := ⟨by kernel_rfl⟩
instance : TSize Tryz.prog 74 3 := ⟨by kernel_rfl⟩
instance : TZero Tryz.prog 74 (.agg #[.int .i64 0, .int .i64 0, .int .i64 0]) := ⟨by kernel_rfl⟩
instance : TBytes Tryz.prog 74 24 := ⟨by kernel_rfl⟩
instance : TField Tryz.prog 74 0 0 := ⟨by kernel_rfl⟩
instance : TPart Tryz.prog 74 0 0 3 := ⟨by kernel_rfl⟩
instance : TField Tryz.prog 74 1 1 := ⟨by kernel_rfl⟩
instance : TPart Tryz.prog 74 1 1 3 := ⟨by kernel_rfl⟩
instance : TField Tryz.prog 74 2 2 := ⟨by kernel_rfl⟩
instance : TPart Tryz.prog 74 2 2 3 := ⟨by kernel_rfl⟩
instance : TPlaces Tryz.prog 74 [(0, 1), (1, 1), (2, 1)] := ⟨by kernel_rfl⟩
instance : TRow Tryz.prog 76 false := ⟨by kernel_rfl⟩
instance : TSize Tryz.prog 76 1 := ⟨by kernel_rfl⟩
instance : TZero Tryz.prog 76 (.nilFunc) := ⟨by kernel_rfl⟩
instance : TBytes Tryz.prog 76 8 := ⟨by kernel_rfl⟩
instance : TRow Tryz.prog 78 false := ⟨by kernel_rfl⟩
instance : TSize Tryz.prog 78 1 := ⟨by kernel_rfl⟩
instance : TZero Tryz.prog 78 (.nilFunc) := ⟨by kernel_rfl⟩
instance : TBytes Tryz.prog 78 8 := ⟨by kernel_rfl⟩
instance : TRow Tryz.prog 79 false := ⟨by kernel_rfl⟩
instance : TSize Tryz.prog 79 1 := ⟨by kernel_rfl⟩
instance : TZero Tryz.prog 79 (.nilFunc) := ⟨by kernel_rfl⟩
instance : TBytes Tryz.prog 79 8 := ⟨by kernel_rfl⟩
instance : TRow Tryz.prog 80 true := ⟨by kernel_rfl⟩
instance : TSize Tryz.prog 80 2 := ⟨by kernel_rfl⟩
instance : TZero Tryz.prog 80 (.agg #[.int .i64 0, .int .i64 0]) := ⟨by kernel_rfl⟩
instance : TBytes Tryz.prog 80 16 := ⟨by kernel_rfl⟩
instance : TField Tryz.prog 80 0 0 := ⟨by kernel_rfl⟩
instance : TPart Tryz.prog 80 0 0 3 := ⟨by kernel_rfl⟩
instance : TField Tryz.prog 80 1 1 := ⟨by kernel_rfl⟩
instance : TPart Tryz.prog 80 1 1 3 := ⟨by kernel_rfl⟩
instance : TPlaces Tryz.prog 80 [(0, 1), (1, 1)] := ⟨by kernel_rfl⟩
instance : TRow Tryz.prog 81 true := ⟨by kernel_rfl⟩
instance : TSize Tryz.prog 81 7 := ⟨by kernel_rfl⟩
instance : TZero Tryz.prog 81 (.agg #[.int .i64 0, .int .i64 0, .int .i64 0, .int .i64 0, .int .i64 0, .int .i64 0, .int .i64 0]) := ⟨by kernel_rfl⟩
instance : TBytes Tryz.prog 81 56 := ⟨by kernel_rfl⟩
instance : TField Tryz.prog 81 0 0 := ⟨by kernel_rfl⟩
instance : TPart Tryz.prog 81 0 0 3 := ⟨by kernel_rfl⟩
instance : TField Tryz.prog 81 1 1 := ⟨by kernel_rfl⟩
instance : TPart Tryz.prog 81 1 1 80 := ⟨by kernel_rfl⟩
instance : TField Tryz.prog 81 2 3 := ⟨by kernel_rfl⟩
instance : TPart Tryz.prog 81 2 3 80 := ⟨by kernel_rfl⟩
instance : TField Tryz.prog 81 3 5 := ⟨by kernel_rfl⟩
instance : TPart Tryz.prog 81 3 5 80 := ⟨by kernel_rfl⟩
instance : TPlaces Tryz.prog 81 [(0, 1), (1, 2), (3, 2), (5, 2)] := ⟨by kernel_rfl⟩
instance : TRow Tryz.prog 82 true := ⟨by kernel_rfl⟩
instance : TSize Tryz.prog 82 7 := ⟨by kernel_rfl⟩
instance : TZero Tryz.prog 82 (.agg #[.int .i64 0, .int .i64 0, .int .i64 0, .int .i64 0, .int .i64 0, .int .i64 0, .int .i64 0]) := ⟨by kernel_rfl⟩
instance : TBytes Tryz.prog 82 56 := ⟨by kernel_rfl⟩
instance : TField Tryz.prog 82 0 0 := ⟨by kernel_rfl⟩
instance : TPart Tryz.prog 82 0 0 3 := ⟨by kernel_rfl⟩
instance : TField Tryz.prog 82 1 1 := ⟨by kernel_rfl⟩
instance : TPart Tryz.prog 82 1 1 80 := ⟨by kernel_rfl⟩
instance : TField Tryz.prog 82 2 3 := ⟨by kernel_rfl⟩
instance : TPart Tryz.prog 82 2 3 80 := ⟨by kernel_rfl⟩
instance : TField Tryz.prog 82 3 5 := ⟨by kernel_rfl⟩
instance : TPart Tryz.prog 82 3 5 80 := ⟨by kernel_rfl⟩
instance : TPlaces Tryz.prog 82 [(0, 1), (1, 2), (3, 2), (5, 2)] := ⟨by kernel_rfl⟩
instance : TRow Tryz.prog 83 false := ⟨by kernel_rfl⟩
instance : TSize Tryz.prog 83 1 := ⟨by kernel_rfl⟩
instance : TZero Tryz.prog 83 (.nilFunc) := ⟨by kernel_rfl⟩
instance : TBytes Tryz.prog 83 8 := ⟨by kernel_rfl⟩
instance : TRow Tryz.prog 84 false := ⟨by kernel_rfl⟩
instance : TSize Tryz.prog 84 1 := ⟨by kernel_rfl⟩
instance : TZero Tryz.prog 84 (.nilFunc) := ⟨by kernel_rfl⟩
instance : TBytes Tryz.prog 84 8 := ⟨by kernel_rfl⟩
instance : TRow Tryz.prog 85 false := ⟨by kernel_rfl⟩
instance : TSize Tryz.prog 85 1 := ⟨by kernel_rfl⟩
instance : TZero Tryz.prog 85 (.nilFunc) := ⟨by kernel_rfl⟩
instance : TBytes Tryz.prog 85 8 := ⟨by kernel_rfl⟩
instance : TRow Tryz.prog 86 false := ⟨by kernel_rfl⟩
instance : TSize Tryz.prog 86 1 := ⟨by kernel_rfl⟩
instance : TZero Tryz.prog 86 (.nilFunc) := ⟨by kernel_rfl⟩
instance : TBytes Tryz.prog 86 8 := ⟨by kernel_rfl⟩
instance : TRow Tryz.prog 87 false := ⟨by kernel_rfl⟩
instance : TSize Tryz.prog 87 1 := ⟨by kernel_rfl⟩
instance : TZero Tryz.prog 87 (.nilFunc) := ⟨by kernel_rfl⟩
instance : TBytes Tryz.prog 87 8 := ⟨by kernel_rfl⟩
instance : TRow Tryz.prog 88 false := ⟨by kernel_rfl⟩
instance : TSize Tryz.prog 88 1 := ⟨by kernel_rfl⟩
instance : TZero Tryz.prog 88 (.nilFunc) := ⟨by kernel_rfl⟩
instance : TBytes Tryz.prog 88 8 := ⟨by kernel_rfl⟩
instance : TRow Tryz.prog 89 false := ⟨by kernel_rfl⟩
instance : TSize Tryz.prog 89 1 := ⟨by kernel_rfl⟩
instance : TZero Tryz.prog 89 (.nilFunc) := ⟨by kernel_rfl⟩
instance : TBytes Tryz.prog 89 8 := ⟨by kernel_rfl⟩
instance : TRow Tryz.prog 90 false := ⟨by kernel_rfl⟩
instance : TSize Tryz.prog 90 1 := ⟨by kernel_rfl⟩
instance : TZero Tryz.prog 90 (.nilFunc) := ⟨by kernel_rfl⟩
instance : TBytes Tryz.prog 90 8 := ⟨by kernel_rfl⟩
instance : TRow Tryz.prog 91 true := ⟨by kernel_rfl⟩
instance : TSize Tryz.prog 91 15 := ⟨by kernel_rfl⟩
instance : TZero Tryz.prog 91 (.agg #[.int .i64 0, .int .i64 0, .int .i64 0, .int .u8 0, .int .i64 0, .int .i64 0, .slice none 0 0, .int .i64 0, .string ⟨#[]⟩, .string ⟨#[]⟩, .int .i64 0, .int .i64 0, .int .i64 0, .int .i64 0, .int .i64 0]) := ⟨by kernel_rfl⟩
instance : TBytes Tryz.prog 91 152 := ⟨by kernel_rfl⟩
instance : TField Tryz.prog 91 0 0 := ⟨by kernel_rfl⟩
instance : TPart Tryz.prog 91 0 0 3 := ⟨by kernel_rfl⟩
instance : TField Tryz.prog 91 1 1 := ⟨by kernel_rfl⟩
instance : TPart Tryz.prog 91 1 1 3 := ⟨by kernel_rfl⟩
instance : TField Tryz.prog 91 2 2 := ⟨by kernel_rfl⟩
instance : TPart Tryz.prog 91 2 2 3 := ⟨by kernel_rfl⟩
instance : TField Tryz.prog 91 3 3 := ⟨by kernel_rfl⟩
instance : TPart Tryz.prog 91 3 3 5 := ⟨by kernel_rfl⟩
instance : TField Tryz.prog 91 4 4 := ⟨by kernel_rfl⟩
instance : TPart Tryz.prog 91 4 4 3 := ⟨by kernel_rfl⟩
instance : TField Tryz.prog 91 5 5 := ⟨by kernel_rfl⟩
instance : TPart Tryz.prog 91 5 5 3 := ⟨by kernel_rfl⟩
instance : TField Tryz.prog 91 6 6 := ⟨by kernel_rfl⟩
instance : TPart Tryz.prog 91 6 6 25 := ⟨by kernel_rfl⟩
instance : TField Tryz.prog 91 7 7 := ⟨by kernel_rfl⟩
instance : TPart Tryz.prog 91 7 7 3 := ⟨by kernel_rfl⟩
instance : TField Tryz.prog 91 8 8 := ⟨by kernel_rfl⟩
instance : TPart Tryz.prog 91 8 8 9 := ⟨by kernel_rfl⟩
instance : TField Tryz.prog 91 9 9 := ⟨by kernel_rfl⟩
instance : TPart Tryz.prog 91 9 9 9 := ⟨by kernel_rfl⟩
instance : TField Tryz.prog 91 10 10 := ⟨by kernel_rfl⟩
instance : TPart Tryz.prog 91 10 10 40 := ⟨by kernel_rfl⟩
instance : TField Tryz.prog 91 11 12 := ⟨by kernel_rfl⟩
instance : TPart Tryz.prog 91 11 12 3 := ⟨by kernel_rfl⟩
instance : TField Tryz.prog 91 12 13 := ⟨by kernel_rfl⟩
instance : TPart Tryz.prog 91 12 13 3 := ⟨by kernel_rfl⟩
instance : TField Tryz.prog 91 13 14 := ⟨by kernel_rfl⟩
instance : TPart Tryz.prog 91 13 14 3 := ⟨by kernel_rfl⟩
instance : TPlaces Tryz.prog 91 [(0, 1), (1, 1), (2, 1), (3, 1), (4, 1), (5, 1), (6, 1), (7, 1), (8, 1), (9, 1), (10, 2), (12, 1), (13, 1), (14, 1)] := ⟨by kernel_rfl⟩
instance : TRow Tryz.prog 92 true := ⟨by kernel_rfl⟩
instance : TSize Tryz.prog 92 15 := ⟨by kernel_rfl⟩
instance : TZero Tryz.prog 92 (.agg #[.int .i64 0, .int .i64 0, .int .i64 0, .int .u8 0, .int .i64 0, .int .i64 0, .slice none 0 0, .int .i64 0, .string ⟨#[]⟩, .string ⟨#[]⟩, .int .i64 0, .int .i64 0, .int .i64 0, .int .i64 0, .int .i64 0]) := ⟨by kernel_rfl⟩
instance : TBytes Tryz.prog 92 152 := ⟨by kernel_rfl⟩
instance : TField Tryz.prog 92 0 0 := ⟨by kernel_rfl⟩
instance : TPart Tryz.prog 92 0 0 3 := ⟨by kernel_rfl⟩
instance : TField Tryz.prog 92 1 1 := ⟨by kernel_rfl⟩
instance : TPart Tryz.prog 92 1 1 3 := ⟨by kernel_rfl⟩
instance : TField Tryz.prog 92 2 2 := ⟨by kernel_rfl⟩
instance : TPart Tryz.prog 92 2 2 3 := ⟨by kernel_rfl⟩
instance : TField Tryz.prog 92 3 3 := ⟨by kernel_rfl⟩
instance : TPart Tryz.prog 92 3 3 5 := ⟨by kernel_rfl⟩
instance : TField Tryz.prog 92 4 4 := ⟨by kernel_rfl⟩
instance : TPart Tryz.prog 92 4 4 3 := ⟨by kernel_rfl⟩
instance : TField Tryz.prog 92 5 5 := ⟨by kernel_rfl⟩
instance : TPart Tryz.prog 92 5 5 3 := ⟨by kernel_rfl⟩
instance : TField Tryz.prog 92 6 6 := ⟨by kernel_rfl⟩
instance : TPart Tryz.prog 92 6 6 25 := ⟨by kernel_rfl⟩
instance : TField Tryz.prog 92 7 7 := ⟨by kernel_rfl⟩
instance : TPart Tryz.prog 92 7 7 3 := ⟨by kernel_rfl⟩
instance : TField Tryz.prog 92 8 8 := ⟨by kernel_rfl⟩
instance : TPart Tryz.prog 92 8 8 9 := ⟨by kernel_rfl⟩
instance : TField Tryz.prog 92 9 9 := ⟨by kernel_rfl⟩
instance : TPart Tryz.prog 92 9 9 9 := ⟨by kernel_rfl⟩
instance : TField Tryz.prog 92 10 10 := ⟨by kernel_rfl⟩
instance : TPart Tryz.prog 92 10 10 40 := ⟨by kernel_rfl⟩
instance : TField Tryz.prog 92 11 12 := ⟨by kernel_rfl⟩
instance : TPart Tryz.prog 92 11 12 3 := ⟨by kernel_rfl⟩
instance : TField Tryz.prog 92 12 13 := ⟨by kernel_rfl⟩
instance : TPart Tryz.prog 92 12 13 3 := ⟨by kernel_rfl⟩
instance : TField Tryz.prog 92 13 14 := ⟨by kernel_rfl⟩
instance : TPart Tryz.prog 92 13 14 3 := ⟨by kernel_rfl⟩
instance : TPlaces Tryz.prog 92 [(0, 1), (1, 1), (2, 1), (3, 1), (4, 1), (5, 1), (6, 1), (7, 1), (8, 1), (9, 1), (10, 2), (12, 1), (13, 1), (14, 1)] := ⟨by kernel_rfl⟩
instance : TRow Tryz.prog 93 false := ⟨by kernel_rfl⟩
instance : TSize Tryz.prog 93 1 := ⟨by kernel_rfl⟩
instance : TZero Tryz.prog 93 (.nilFunc) := ⟨by kernel_rfl⟩
instance : TBytes Tryz.prog 93 8 := ⟨by kernel_rfl⟩
instance : TRow Tryz.prog 95 false := ⟨by kernel_rfl⟩
instance : TSize Tryz.prog 95 1 := ⟨by kernel_rfl⟩
instance : TZero Tryz.prog 95 (.nilFunc) := ⟨by kernel_rfl⟩
instance : TBytes Tryz.prog 95 8 := ⟨by kernel_rfl⟩
instance : TRow Tryz.prog 96 false := ⟨by kernel_rfl⟩
instance : TSize Tryz.prog 96 1 := ⟨by kernel_rfl⟩
instance : TZero Tryz.prog 96 (.nilFunc) := ⟨by kernel_rfl⟩
instance : TBytes Tryz.prog 96 8 := ⟨by kernel_rfl⟩
instance : TRow Tryz.prog 98 false := ⟨by kernel_rfl⟩
instance : TSize Tryz.prog 98 1 := ⟨by kernel_rfl⟩
instance : TZero Tryz.prog 98 (.nilFunc) := ⟨by kernel_rfl⟩
instance : TBytes Tryz.prog 98 8 := ⟨by kernel_rfl⟩
instance : TRow Tryz.prog 99 false := ⟨by kernel_rfl⟩
instance : TSize Tryz.prog 99 1 := ⟨by kernel_rfl⟩
instance : TZero Tryz.prog 99 (.nilFunc) := ⟨by kernel_rfl⟩
instance : TBytes Tryz.prog 99 8 := ⟨by kernel_rfl⟩
instance : TRow Tryz.prog 100 false := ⟨by kernel_rfl⟩
instance : TSize Tryz.prog 100 1 := ⟨by kernel_rfl⟩
instance : TZero Tryz.prog 100 (.nilFunc) := ⟨by kernel_rfl⟩
instance : TBytes Tryz.prog 100 8 := ⟨by kernel_rfl⟩
instance : TRow Tryz.prog 101 false := ⟨by kernel_rfl⟩
instance : TSize Tryz.prog 101 1 := ⟨by kernel_rfl⟩
instance : TZero Tryz.prog 101 (.nilFunc) := ⟨by kernel_rfl⟩
instance : TBytes Tryz.prog 101 8 := ⟨by kernel_rfl⟩
instance : TRow Tryz.prog 102 false := ⟨by kernel_rfl⟩
instance : TSize Tryz.prog 102 1 := ⟨by kernel_rfl⟩
instance : TZero Tryz.prog 102 (.nilFunc) := ⟨by kernel_rfl⟩
instance : TBytes Tryz.prog 102 8 := ⟨by kernel_rfl⟩
instance : TRow Tryz.prog 103 false := ⟨by kernel_rfl⟩
instance : TSize Tryz.prog 103 1 := ⟨by kernel_rfl⟩
instance : TZero Tryz.prog 103 (.nilFunc) := ⟨by kernel_rfl⟩
instance : TBytes Tryz.prog 103 8 := ⟨by kernel_rfl⟩
instance : TRow Tryz.prog 104 false := ⟨by kernel_rfl⟩
instance : TSize Tryz.prog 104 1 := ⟨by kernel_rfl⟩
instance : TZero Tryz.prog 104 (.nilFunc) := ⟨by kernel_rfl⟩
instance : TBytes Tryz.prog 104 8 := ⟨by kernel_rfl⟩
instance : TRow Tryz.prog 105 false := ⟨by kernel_rfl⟩
instance : TSize Tryz.prog 105 1 := ⟨by kernel_rfl⟩
instance : TZero Tryz.prog 105 (.nilFunc) := ⟨by kernel_rfl⟩
instance : TBytes Tryz.prog 105 8 := ⟨by kernel_rfl⟩
instance : TRow Tryz.prog 106 false := ⟨by kernel_rfl⟩
instance : TSize Tryz.prog 106 1 := ⟨by kernel_rfl⟩
instance : TZero Tryz.prog 106 (.nilFunc) := ⟨by kernel_rfl⟩
instance : TBytes Tryz.prog 106 8 := ⟨by kernel_rfl⟩
instance : TRow Tryz.prog 107 false := ⟨by kernel_rfl⟩
instance : TSize Tryz.prog 107 1 := ⟨by kernel_rfl⟩
instance : TZero Tryz.prog 107 (.nilFunc) := ⟨by kernel_rfl⟩
instance : TBytes Tryz.prog 107 8 := ⟨by kernel_rfl⟩
instance : TRow Tryz.prog 108 false := ⟨by kernel_rfl⟩
instance : TSize Tryz.prog 108 1 := ⟨by kernel_rfl⟩
instance : TZero Tryz.prog 108 (.nilFunc) := ⟨by kernel_rfl⟩
instance : TBytes Tryz.prog 108 8 := ⟨by kernel_rfl⟩
instance : TRow Tryz.prog 109 false := ⟨by kernel_rfl⟩
instance : TSize Tryz.prog 109 1 := ⟨by kernel_rfl⟩
instance : TZero Tryz.prog 109 (.nilFunc) := ⟨by kernel_rfl⟩
instance : TBytes Tryz.prog 109 8 := ⟨by kernel_rfl⟩
instance : TRow Tryz.prog 110 false := ⟨by kernel_rfl⟩
instance : TSize Tryz.prog 110 1 := ⟨by kernel_rfl⟩
instance : TZero Tryz.prog 110 (.nilFunc) := ⟨by kernel_rfl⟩
instance : TBytes Tryz.prog 110 8 := ⟨by kernel_rfl⟩
instance : TRow Tryz.prog 111 false := ⟨by kernel_rfl⟩
instance : TSize Tryz.prog 111 1 := ⟨by kernel_rfl⟩
instance : TZero Tryz.prog 111 (.pointer none) := ⟨by kernel_rfl⟩
instance : TBytes Tryz.prog 111 8 := ⟨by kernel_rfl⟩
instance : TRow Tryz.prog 113 false := ⟨by kernel_rfl⟩
instance : TSize Tryz.prog 113 1 := ⟨by kernel_rfl⟩
instance : TZero Tryz.prog 113 (.nilFunc) := ⟨by kernel_rfl⟩
instance : TBytes Tryz.prog 113 8 := ⟨by kernel_rfl⟩
instance : TRow Tryz.prog 114 false := ⟨by kernel_rfl⟩
instance : TSize Tryz.prog 114 1 := ⟨by kernel_rfl⟩
instance : TZero Tryz.prog 114 (.map none) := ⟨by kernel_rfl⟩
instance : TBytes Tryz.prog 114 8 := ⟨by kernel_rfl⟩
instance : TMap Tryz.prog 114 4 := ⟨by kernel_rfl⟩
instance : TRow Tryz.prog 115 false := ⟨by kernel_rfl⟩
instance : TSize Tryz.prog 115 1 := ⟨by kernel_rfl⟩
instance : TZero Tryz.prog 115 (.nilFunc) := ⟨by kernel_rfl⟩
instance : TBytes Tryz.prog 115 8 := ⟨by kernel_rfl⟩
instance : TRow Tryz.prog 116 false := ⟨by kernel_rfl⟩
instance : TSize Tryz.prog 116 1 := ⟨by kernel_rfl⟩
instance : TZero Tryz.prog 116 (.nilFunc) := ⟨by kernel_rfl⟩
instance : TBytes Tryz.prog 116 8 := ⟨by kernel_rfl⟩
instance : TRow Tryz.prog 117 false := ⟨by kernel_rfl⟩
instance : TSize Tryz.prog 117 1 := ⟨by kernel_rfl⟩
instance : TZero Tryz.prog 117 (.nilFunc) := ⟨by kernel_rfl⟩
instance : TBytes Tryz.prog 117 8 := ⟨by kernel_rfl⟩
instance : TRow Tryz.prog 118 false := ⟨by kernel_rfl⟩
instance : TSize Tryz.prog 118 1 := ⟨by kernel_rfl⟩
instance : TZero Tryz.prog 118 (.nilFunc) := ⟨by kernel_rfl⟩
instance : TBytes Tryz.prog 118 8 := ⟨by kernel_rfl⟩
instance : TRow Tryz.prog 119 false := ⟨by kernel_rfl⟩
instance : TSize Tryz.prog 119 1 := ⟨by kernel_rfl⟩
instance : TZero Tryz.prog 119 (.pointer none) := ⟨by kernel_rfl⟩
instance : TBytes Tryz.prog 119 8 := ⟨by kernel_rfl⟩
instance : TRow Tryz.prog 120 false := ⟨by kernel_rfl⟩
instance : TSize Tryz.prog 120 1 := ⟨by kernel_rfl⟩
instance : TZero Tryz.prog 120 (.map none) := ⟨by kernel_rfl⟩
instance : TBytes Tryz.prog 120 8 := ⟨by kernel_rfl⟩
instance : TMap Tryz.prog 120 42 := ⟨by kernel_rfl⟩
instance : TRow Tryz.prog 121 true := ⟨by kernel_rfl⟩
instance : TSize Tryz.prog 121 3 := ⟨by kernel_rfl⟩
instance : TZero Tryz.prog 121 (.agg #[.pointer none, .slice none 0 0, .map none]) := ⟨by kernel_rfl⟩
instance : TBytes Tryz.prog 121 40 := ⟨by kernel_rfl⟩
instance : TField Tryz.prog 121 0 0 := ⟨by kernel_rfl⟩
instance : TPart Tryz.prog 121 0 0 119 := ⟨by kernel_rfl⟩
instance : TField Tryz.prog 121 1 1 := ⟨by kernel_rfl⟩
instance : TPart Tryz.prog 121 1 1 25 := ⟨by kernel_rfl⟩
instance : TField Tryz.prog 121 2 2 := ⟨by kernel_rfl⟩
instance : TPart Tryz.prog 121 2 2 120 := ⟨by kernel_rfl⟩
instance : TPlaces Tryz.prog 121 [(0, 1), (1, 1), (2, 1)] := ⟨by kernel_rfl⟩
instance : TRow Tryz.prog 122 true := ⟨by kernel_rfl⟩
instance : TSize Tryz.prog 122 3 := ⟨by kernel_rfl⟩
instance : TZero Tryz.prog 122 (.agg #[.pointer none, .slice none 0 0, .map none]) := ⟨by kernel_rfl⟩
instance : TBytes Tryz.prog 122 40 := ⟨by kernel_rfl⟩
instance : TField Tryz.prog 122 0 0 := ⟨by kernel_rfl⟩
instance : TPart Tryz.prog 122 0 0 119 := ⟨by kernel_rfl⟩
instance : TField Tryz.prog 122 1 1 := ⟨by kernel_rfl⟩
instance : TPart Tryz.prog 122 1 1 25 := ⟨by kernel_rfl⟩
instance : TField Tryz.prog 122 2 2 := ⟨by kernel_rfl⟩
instance : TPart Tryz.prog 122 2 2 120 := ⟨by kernel_rfl⟩
instance : TPlaces Tryz.prog 122 [(0, 1), (1, 1), (2, 1)] := ⟨by kernel_rfl⟩
instance : TRow Tryz.prog 123 false := ⟨by kernel_rfl⟩
instance : TSize Tryz.prog 123 1 := ⟨by kernel_rfl⟩
instance : TZero Tryz.prog 123 (.nilFunc) := ⟨by kernel_rfl⟩
instance : TBytes Tryz.prog 123 8 := ⟨by kernel_rfl⟩
instance : TRow Tryz.prog 124 false := ⟨by kernel_rfl⟩
instance : TSize Tryz.prog 124 1 := ⟨by kernel_rfl⟩
instance : TZero Tryz.prog 124 (.nilFunc) := ⟨by kernel_rfl⟩
instance : TBytes Tryz.prog 124 8 := ⟨by kernel_rfl⟩
instance : TRow Tryz.prog 126 false := ⟨by kernel_rfl⟩
instance : TSize Tryz.prog 126 1 := ⟨by kernel_rfl⟩
instance : TZero Tryz.prog 126 (.nilFunc) := ⟨by kernel_rfl⟩
instance : TBytes Tryz.prog 126 8 := ⟨by kernel_rfl⟩
instance : TRow Tryz.prog 127 false := ⟨by kernel_rfl⟩
instance : TSize Tryz.prog 127 1 := ⟨by kernel_rfl⟩
instance : TZero Tryz.prog 127 (.pointer none) := ⟨by kernel_rfl⟩
instance : TBytes Tryz.prog 127 8 := ⟨by kernel_rfl⟩
instance : TRow Tryz.prog 128 false := ⟨by kernel_rfl⟩
instance : TSize Tryz.prog 128 1 := ⟨by kernel_rfl⟩
instance : TZero Tryz.prog 128 (.nilFunc) := ⟨by kernel_rfl⟩
instance : TBytes Tryz.prog 128 8 := ⟨by kernel_rfl⟩
instance : TRow Tryz.prog 130 false := ⟨by kernel_rfl⟩
instance : TSize Tryz.prog 130 1 := ⟨by kernel_rfl⟩
instance : TZero Tryz.prog 130 (.slice none 0 0) := ⟨by kernel_rfl⟩
instance : TBytes Tryz.prog 130 24 := ⟨by kernel_rfl⟩
instance : TSlice Tryz.prog 130 4 := ⟨by kernel_rfl⟩
instance : TRow Tryz.prog 132 false := ⟨by kernel_rfl⟩
instance : TSize Tryz.prog 132 1 := ⟨by kernel_rfl⟩
instance : TZero Tryz.prog 132 (.nilFunc) := ⟨by kernel_rfl⟩
instance : TBytes Tryz.prog 132 8 := ⟨by kernel_rfl⟩
instance : TRow Tryz.prog 133 false := ⟨by kernel_rfl⟩
instance : TSize Tryz.prog 133 1 := ⟨by kernel_rfl⟩
instance : TZero Tryz.prog 133 (.nilFunc) := ⟨by kernel_rfl⟩
instance : TBytes Tryz.prog 133 8 := ⟨by kernel_rfl⟩
instance : TRow Tryz.prog 134 false := ⟨by kernel_rfl⟩
instance : TSize Tryz.prog 134 1 := ⟨by kernel_rfl⟩
instance : TZero Tryz.prog 134 (.nilFunc) := ⟨by kernel_rfl⟩
instance : TBytes Tryz.prog 134 8 := ⟨by kernel_rfl⟩
instance : TRow Tryz.prog 135 false := ⟨by kernel_rfl⟩
instance : TSize Tryz.prog 135 1 := ⟨by kernel_rfl⟩
instance : TZero Tryz.prog 135 (.map none) := ⟨by kernel_rfl⟩
instance : TBytes Tryz.prog 135 8 := ⟨by kernel_rfl⟩
instance : TMap Tryz.prog 135 3 := ⟨by kernel_rfl⟩
instance : TRow Tryz.prog 137 false := ⟨by kernel_rfl⟩
instance : TSize Tryz.prog 137 1 := ⟨by kernel_rfl⟩
instance : TZero Tryz.prog 137 (.map none) := ⟨by kernel_rfl⟩
instance : TBytes Tryz.prog 137 8 := ⟨by kernel_rfl⟩
instance : TMap Tryz.prog 137 92 := ⟨by kernel_rfl⟩
instance : TRow Tryz.prog 138 true := ⟨by kernel_rfl⟩
instance : TSize Tryz.prog 138 4 := ⟨by kernel_rfl⟩
instance : TZero Tryz.prog 138 (.agg #[.slice none 0 0, .map none, .map none, .map none]) := ⟨by kernel_rfl⟩
instance : TBytes Tryz.prog 138 48 := ⟨by kernel_rfl⟩
instance : TField Tryz.prog 138 0 0 := ⟨by kernel_rfl⟩
instance : TPart Tryz.prog 138 0 0 22 := ⟨by kernel_rfl⟩
instance : TField Tryz.prog 138 1 1 := ⟨by kernel_rfl⟩
instance : TPart Tryz.prog 138 1 1 137 := ⟨by kernel_rfl⟩
instance : TField Tryz.prog 138 2 2 := ⟨by kernel_rfl⟩
instance : TPart Tryz.prog 138 2 2 137 := ⟨by kernel_rfl⟩
instance : TField Tryz.prog 138 3 3 := ⟨by kernel_rfl⟩
instance : TPart Tryz.prog 138 3 3 114 := ⟨by kernel_rfl⟩
instance : TPlaces Tryz.prog 138 [(0, 1), (1, 1), (2, 1), (3, 1)] := ⟨by kernel_rfl⟩
instance : TRow Tryz.prog 139 true := ⟨by kernel_rfl⟩
instance : TSize Tryz.prog 139 4 := ⟨by kernel_rfl⟩
instance : TZero Tryz.prog 139 (.agg #[.slice none 0 0, .map none, .map none, .map none]) := ⟨by kernel_rfl⟩
instance : TBytes Tryz.prog 139 48 := ⟨by kernel_rfl⟩
instance : TField Tryz.prog 139 0 0 := ⟨by kernel_rfl⟩
instance : TPart Tryz.prog 139 0 0 22 := ⟨by kernel_rfl⟩
instance : TField Tryz.prog 139 1 1 := ⟨by kernel_rfl⟩
instance : TPart Tryz.prog 139 1 1 137 := ⟨by kernel_rfl⟩
instance : TField Tryz.prog 139 2 2 := ⟨by kernel_rfl⟩
instance : TPart Tryz.prog 139 2 2 137 := ⟨by kernel_rfl⟩
instance : TField Tryz.prog 139 3 3 := ⟨by kernel_rfl⟩
instance : TPart Tryz.prog 139 3 3 114 := ⟨by kernel_rfl⟩
instance : TPlaces Tryz.prog 139 [(0, 1), (1, 1), (2, 1), (3, 1)] := ⟨by kernel_rfl⟩
instance : TRow Tryz.prog 140 false := ⟨by kernel_rfl⟩
instance : TSize Tryz.prog 140 1 := ⟨by kernel_rfl⟩
instance : TZero Tryz.prog 140 (.nilFunc) := ⟨by kernel_rfl⟩
instance : TBytes Tryz.prog 140 8 := ⟨by kernel_rfl⟩
instance : TRow Tryz.prog 142 false := ⟨by kernel_rfl⟩
instance : TSize Tryz.prog 142 1 := ⟨by kernel_rfl⟩
instance : TZero Tryz.prog 142 (.nilFunc) := ⟨by kernel_rfl⟩
instance : TBytes Tryz.prog 142 8 := ⟨by kernel_rfl⟩
instance : TRow Tryz.prog 144 false := ⟨by kernel_rfl⟩
instance : TSize Tryz.prog 144 1 := ⟨by kernel_rfl⟩
instance : TZero Tryz.prog 144 (.nilFunc) := ⟨by kernel_rfl⟩
instance : TBytes Tryz.prog 144 8 := ⟨by kernel_rfl⟩
instance : TRow Tryz.prog 145 false := ⟨by kernel_rfl⟩
instance : TSize Tryz.prog 145 1 := ⟨by kernel_rfl⟩
instance : TZero Tryz.prog 145 (.nilFunc) := ⟨by kernel_rfl⟩
instance : TBytes Tryz.prog 145 8 := ⟨by kernel_rfl⟩
instance : TRow Tryz.prog 146 true := ⟨by kernel_rfl⟩
instance : TSize Tryz.prog 146 2 := ⟨by kernel_rfl⟩
instance : TZero Tryz.prog 146 (.agg #[.int .i64 0, .bool false]) := ⟨by kernel_rfl⟩
instance : TBytes Tryz.prog 146 16 := ⟨by kernel_rfl⟩
instance : TField Tryz.prog 146 0 0 := ⟨by kernel_rfl⟩
instance : TPart Tryz.prog 146 0 0 3 := ⟨by kernel_rfl⟩
instance : TField Tryz.prog 146 1 1 := ⟨by kernel_rfl⟩
instance : TPart Tryz.prog 146 1 1 4 := ⟨by kernel_rfl⟩
instance : TPlaces Tryz.prog 146 [(0, 1), (1, 1)] := ⟨by kernel_rfl⟩
instance : TRow Tryz.prog 147 true := ⟨by kernel_rfl⟩
instance : TSize Tryz.prog 147 2 := ⟨by kernel_rfl⟩
instance : TZero Tryz.prog 147 (.agg #[.int .i64 0, .bool false]) := ⟨by kernel_rfl⟩
instance : TBytes Tryz.prog 147 16 := ⟨by kernel_rfl⟩
instance : TField Tryz.prog 147 0 0 := ⟨by kernel_rfl⟩
instance : TPart Tryz.prog 147 0 0 3 := ⟨by kernel_rfl⟩
instance : TField Tryz.prog 147 1 1 := ⟨by kernel_rfl⟩
instance : TPart Tryz.prog 147 1 1 4 := ⟨by kernel_rfl⟩
instance : TPlaces Tryz.prog 147 [(0, 1), (1, 1)] := ⟨by kernel_rfl⟩
instance : TRow Tryz.prog 148 false := ⟨by kernel_rfl⟩
instance : TSize Tryz.prog 148 1 := ⟨by kernel_rfl⟩
instance : TZero Tryz.prog 148 (.nilFunc) := ⟨by kernel_rfl⟩
instance : TBytes Tryz.prog 148 8 := ⟨by kernel_rfl⟩
instance : TRow Tryz.prog 149 false := ⟨by kernel_rfl⟩
instance : TSize Tryz.prog 149 1 := ⟨by kernel_rfl⟩
instance : TZero Tryz.prog 149 (.nilFunc) := ⟨by kernel_rfl⟩
instance : TBytes Tryz.prog 149 8 := ⟨by kernel_rfl⟩
instance : TRow Tryz.prog 150 true := ⟨by kernel_rfl⟩
instance : TSize Tryz.prog 150 2 := ⟨by kernel_rfl⟩
instance : TZero Tryz.prog 150 (.agg #[.string ⟨#[]⟩, .int .u8 0]) := ⟨by kernel_rfl⟩
instance : TBytes Tryz.prog 150 24 := ⟨by kernel_rfl⟩
instance : TField Tryz.prog 150 0 0 := ⟨by kernel_rfl⟩
instance : TPart Tryz.prog 150 0 0 9 := ⟨by kernel_rfl⟩
instance : TField Tryz.prog 150 1 1 := ⟨by kernel_rfl⟩
instance : TPart Tryz.prog 150 1 1 5 := ⟨by kernel_rfl⟩
instance : TPlaces Tryz.prog 150 [(0, 1), (1, 1)] := ⟨by kernel_rfl⟩
instance : TRow Tryz.prog 151 true := ⟨by kernel_rfl⟩
instance : TSize Tryz.prog 151 2 := ⟨by kernel_rfl⟩
instance : TZero Tryz.prog 151 (.agg #[.string ⟨#[]⟩, .int .u8 0]) := ⟨by kernel_rfl⟩
instance : TBytes Tryz.prog 151 24 := ⟨by kernel_rfl⟩
instance : TField Tryz.prog 151 0 0 := ⟨by kernel_rfl⟩
instance : TPart Tryz.prog 151 0 0 9 := ⟨by kernel_rfl⟩
instance : TField Tryz.prog 151 1 1 := ⟨by kernel_rfl⟩
instance : TPart Tryz.prog 151 1 1 5 := ⟨by kernel_rfl⟩
instance : TPlaces Tryz.prog 151 [(0, 1), (1, 1)] := ⟨by kernel_rfl⟩
instance : TRow Tryz.prog 152 true := ⟨by kernel_rfl⟩
instance : TSize Tryz.prog 152 14 := ⟨by kernel_rfl⟩
instance : TZero Tryz.prog 152 (.agg #[.int .i64 0, .int .i64 0, .int .u8 0, .int .i64 0, .int .i64 0, .int .i64 0, .string ⟨#[]⟩, .string ⟨#[]⟩, .int .i64 0, .int .i64 0, .int .i64 0, .int .i64 0, .int .i64 0, .int .i64 0]) := ⟨by kernel_rfl⟩
instance : TBytes Tryz.prog 152 128 := ⟨by kernel_rfl⟩
instance : TField Tryz.prog 152 0 0 := ⟨by kernel_rfl⟩
instance : TPart Tryz.prog 152 0 0 3 := ⟨by kernel_rfl⟩
instance : TField Tryz.prog 152 1 1 := ⟨by kernel_rfl⟩
instance : TPart Tryz.prog 152 1 1 3 := ⟨by kernel_rfl⟩
instance : TField Tryz.prog 152 2 2 := ⟨by kernel_rfl⟩
instance : TPart Tryz.prog 152 2 2 5 := ⟨by kernel_rfl⟩
instance : TField Tryz.prog 152 3 3 := ⟨by kernel_rfl⟩
instance : TPart Tryz.prog 152 3 3 3 := ⟨by kernel_rfl⟩
instance : TField Tryz.prog 152 4 4 := ⟨by kernel_rfl⟩
instance : TPart Tryz.prog 152 4 4 3 := ⟨by kernel_rfl⟩
instance : TField Tryz.prog 152 5 5 := ⟨by kernel_rfl⟩
instance : TPart Tryz.prog 152 5 5 3 := ⟨by kernel_rfl⟩
instance : TField Tryz.prog 152 6 6 := ⟨by kernel_rfl⟩
instance : TPart Tryz.prog 152 6 6 9 := ⟨by kernel_rfl⟩
instance : TField Tryz.prog 152 7 7 := ⟨by kernel_rfl⟩
instance : TPart Tryz.prog 152 7 7 9 := ⟨by kernel_rfl⟩
instance : TField Tryz.prog 152 8 8 := ⟨by kernel_rfl⟩
instance : TPart Tryz.prog 152 8 8 40 := ⟨by kernel_rfl⟩
instance : TField Tryz.prog 152 9 10 := ⟨by kernel_rfl⟩
instance : TPart Tryz.prog 152 9 10 3 := ⟨by kernel_rfl⟩
instance : TField Tryz.prog 152 10 11 := ⟨by kernel_rfl⟩
instance : TPart Tryz.prog 152 10 11 3 := ⟨by kernel_rfl⟩
instance : TField Tryz.prog 152 11 12 := ⟨by kernel_rfl⟩
instance : TPart Tryz.prog 152 11 12 3 := ⟨by kernel_rfl⟩
instance : TField Tryz.prog 152 12 13 := ⟨by kernel_rfl⟩
instance : TPart Tryz.prog 152 12 13 3 := ⟨by kernel_rfl⟩
instance : TPlaces Tryz.prog 152 [(0, 1), (1, 1), (2, 1), (3, 1), (4, 1), (5, 1), (6, 1), (7, 1), (8, 2), (10, 1), (11, 1), (12, 1), (13, 1)] := ⟨by kernel_rfl⟩
instance : TRow Tryz.prog 153 true := ⟨by kernel_rfl⟩
instance : TSize Tryz.prog 153 14 := ⟨by kernel_rfl⟩
instance : TZero Tryz.prog 153 (.agg #[.int .i64 0, .int .i64 0, .int .u8 0, .int .i64 0, .int .i64 0, .int .i64 0, .string ⟨#[]⟩, .string ⟨#[]⟩, .int .i64 0, .int .i64 0, .int .i64 0, .int .i64 0, .int .i64 0, .int .i64 0]) := ⟨by kernel_rfl⟩
instance : TBytes Tryz.prog 153 128 := ⟨by kernel_rfl⟩
instance : TField Tryz.prog 153 0 0 := ⟨by kernel_rfl⟩
instance : TPart Tryz.prog 153 0 0 3 := ⟨by kernel_rfl⟩
instance : TField Tryz.prog 153 1 1 := ⟨by kernel_rfl⟩
instance : TPart Tryz.prog 153 1 1 3 := ⟨by kernel_rfl⟩
instance : TField Tryz.prog 153 2 2 := ⟨by kernel_rfl⟩
instance : TPart Tryz.prog 153 2 2 5 := ⟨by kernel_rfl⟩
instance : TField Tryz.prog 153 3 3 := ⟨by kernel_rfl⟩
instance : TPart Tryz.prog 153 3 3 3 := ⟨by kernel_rfl⟩
instance : TField Tryz.prog 153 4 4 := ⟨by kernel_rfl⟩
instance : TPart Tryz.prog 153 4 4 3 := ⟨by kernel_rfl⟩
instance : TField Tryz.prog 153 5 5 := ⟨by kernel_rfl⟩
instance : TPart Tryz.prog 153 5 5 3 := ⟨by kernel_rfl⟩
instance : TField Tryz.prog 153 6 6 := ⟨by kernel_rfl⟩
instance : TPart Tryz.prog 153 6 6 9 := ⟨by kernel_rfl⟩
instance : TField Tryz.prog 153 7 7 := ⟨by kernel_rfl⟩
instance : TPart Tryz.prog 153 7 7 9 := ⟨by kernel_rfl⟩
instance : TField Tryz.prog 153 8 8 := ⟨by kernel_rfl⟩
instance : TPart Tryz.prog 153 8 8 40 := ⟨by kernel_rfl⟩
instance : TField Tryz.prog 153 9 10 := ⟨by kernel_rfl⟩
instance : TPart Tryz.prog 153 9 10 3 := ⟨by kernel_rfl⟩
instance : TField Tryz.prog 153 10 11 := ⟨by kernel_rfl⟩
instance : TPart Tryz.prog 153 10 11 3 := ⟨by kernel_rfl⟩
instance : TField Tryz.prog 153 11 12 := ⟨by kernel_rfl⟩
instance : TPart Tryz.prog 153 11 12 3 := ⟨by kernel_rfl⟩
instance : TField Tryz.prog 153 12 13 := ⟨by kernel_rfl⟩
instance : TPart Tryz.prog 153 12 13 3 := ⟨by kernel_rfl⟩
instance : TPlaces Tryz.prog 153 [(0, 1), (1, 1), (2, 1), (3, 1), (4, 1), (5, 1), (6, 1), (7, 1), (8, 2), (10, 1), (11, 1), (12, 1), (13, 1)] := ⟨by kernel_rfl⟩
instance : TRow Tryz.prog 155 false := ⟨by kernel_rfl⟩
instance : TSize Tryz.prog 155 1 := ⟨by kernel_rfl⟩
instance : TZero Tryz.prog 155 (.nilFunc) := ⟨by kernel_rfl⟩
instance : TBytes Tryz.prog 155 8 := ⟨by kernel_rfl⟩
instance : TRow Tryz.prog 156 false := ⟨by kernel_rfl⟩
instance : TSize Tryz.prog 156 1 := ⟨by kernel_rfl⟩
instance : TZero Tryz.prog 156 (.slice none 0 0) := ⟨by kernel_rfl⟩
instance : TBytes Tryz.prog 156 24 := ⟨by kernel_rfl⟩
instance : TSlice Tryz.prog 156 162 := ⟨by kernel_rfl⟩
instance : TRow Tryz.prog 157 true := ⟨by kernel_rfl⟩
instance : TSize Tryz.prog 157 2 := ⟨by kernel_rfl⟩
instance : TZero Tryz.prog 157 (.agg #[.int .i64 0, .slice none 0 0]) := ⟨by kernel_rfl⟩
instance : TBytes Tryz.prog 157 32 := ⟨by kernel_rfl⟩
instance : TField Tryz.prog 157 0 0 := ⟨by kernel_rfl⟩
instance : TPart Tryz.prog 157 0 0 3 := ⟨by kernel_rfl⟩
instance : TField Tryz.prog 157 1 1 := ⟨by kernel_rfl⟩
instance : TPart Tryz.prog 157 1 1 156 := ⟨by kernel_rfl⟩
instance : TPlaces Tryz.prog 157 [(0, 1), (1, 1)] := ⟨by kernel_rfl⟩
instance : TRow Tryz.prog 158 true := ⟨by kernel_rfl⟩
instance : TSize Tryz.prog 158 2 := ⟨by kernel_rfl⟩
instance : TZero Tryz.prog 158 (.agg #[.int .i64 0, .slice none 0 0]) := ⟨by kernel_rfl⟩
instance : TBytes Tryz.prog 158 32 := ⟨by kernel_rfl⟩
instance : TField Tryz.prog 158 0 0 := ⟨by kernel_rfl⟩
instance : TPart Tryz.prog 158 0 0 3 := ⟨by kernel_rfl⟩
instance : TField Tryz.prog 158 1 1 := ⟨by kernel_rfl⟩
instance : TPart Tryz.prog 158 1 1 156 := ⟨by kernel_rfl⟩
instance : TPlaces Tryz.prog 158 [(0, 1), (1, 1)] := ⟨by kernel_rfl⟩
instance : TRow Tryz.prog 160 false := ⟨by kernel_rfl⟩
instance : TSize Tryz.prog 160 1 := ⟨by kernel_rfl⟩
instance : TZero Tryz.prog 160 (.nilFunc) := ⟨by kernel_rfl⟩
instance : TBytes Tryz.prog 160 8 := ⟨by kernel_rfl⟩
instance : TRow Tryz.prog 161 true := ⟨by kernel_rfl⟩
instance : TSize Tryz.prog 161 2 := ⟨by kernel_rfl⟩
instance : TZero Tryz.prog 161 (.agg #[.int .i64 0, .int .i64 0]) := ⟨by kernel_rfl⟩
instance : TBytes Tryz.prog 161 16 := ⟨by kernel_rfl⟩
instance : TField Tryz.prog 161 0 0 := ⟨by kernel_rfl⟩
instance : TPart Tryz.prog 161 0 0 3 := ⟨by kernel_rfl⟩
instance : TField Tryz.prog 161 1 1 := ⟨by kernel_rfl⟩
instance : TPart Tryz.prog 161 1 1 3 := ⟨by kernel_rfl⟩
instance : TPlaces Tryz.prog 161 [(0, 1), (1, 1)] := ⟨by kernel_rfl⟩
instance : TRow Tryz.prog 162 true := ⟨by kernel_rfl⟩
instance : TSize Tryz.prog 162 2 := ⟨by kernel_rfl⟩
instance : TZero Tryz.prog 162 (.agg #[.int .i64 0, .int .i64 0]) := ⟨by kernel_rfl⟩
instance : TBytes Tryz.prog 162 16 := ⟨by kernel_rfl⟩
instance : TField Tryz.prog 162 0 0 := ⟨by kernel_rfl⟩
instance : TPart Tryz.prog 162 0 0 3 := ⟨by kernel_rfl⟩
instance : TField Tryz.prog 162 1 1 := ⟨by kernel_rfl⟩
instance : TPart Tryz.prog 162 1 1 3 := ⟨by kernel_rfl⟩
instance : TPlaces Tryz.prog 162 [(0, 1), (1, 1)] := ⟨by kernel_rfl⟩
instance : TRow Tryz.prog 163 false := ⟨by kernel_rfl⟩
instance : TSize Tryz.prog 163 1 := ⟨by kernel_rfl⟩
instance : TZero Tryz.prog 163 (.slice none 0 0) := ⟨by kernel_rfl⟩
instance : TBytes Tryz.prog 163 24 := ⟨by kernel_rfl⟩
instance : TSlice Tryz.prog 163 156 := ⟨by kernel_rfl⟩
instance : TRow Tryz.prog 164 true := ⟨by kernel_rfl⟩
instance : TSize Tryz.prog 164 1 := ⟨by kernel_rfl⟩
instance : TZero Tryz.prog 164 (.agg #[.slice none 0 0]) := ⟨by kernel_rfl⟩
instance : TBytes Tryz.prog 164 24 := ⟨by kernel_rfl⟩
instance : TField Tryz.prog 164 0 0 := ⟨by kernel_rfl⟩
instance : TPart Tryz.prog 164 0 0 163 := ⟨by kernel_rfl⟩
instance : TPlaces Tryz.prog 164 [(0, 1)] := ⟨by kernel_rfl⟩
instance : TRow Tryz.prog 165 true := ⟨by kernel_rfl⟩
instance : TSize Tryz.prog 165 1 := ⟨by kernel_rfl⟩
instance : TZero Tryz.prog 165 (.agg #[.slice none 0 0]) := ⟨by kernel_rfl⟩
instance : TBytes Tryz.prog 165 24 := ⟨by kernel_rfl⟩
instance : TField Tryz.prog 165 0 0 := ⟨by kernel_rfl⟩
instance : TPart Tryz.prog 165 0 0 163 := ⟨by kernel_rfl⟩
instance : TPlaces Tryz.prog 165 [(0, 1)] := ⟨by kernel_rfl⟩
instance : TRow Tryz.prog 167 false := ⟨by kernel_rfl⟩
instance : TSize Tryz.prog 167 1 := ⟨by kernel_rfl⟩
instance : TZero Tryz.prog 167 (.nilFunc) := ⟨by kernel_rfl⟩
instance : TBytes Tryz.prog 167 8 := ⟨by kernel_rfl⟩
instance : TRow Tryz.prog 168 false := ⟨by kernel_rfl⟩
instance : TSize Tryz.prog 168 1 := ⟨by kernel_rfl⟩
instance : TZero Tryz.prog 168 (.pointer none) := ⟨by kernel_rfl⟩
instance : TBytes Tryz.prog 168 8 := ⟨by kernel_rfl⟩
instance : TRow Tryz.prog 170 false := ⟨by kernel_rfl⟩
instance : TSize Tryz.prog 170 1 := ⟨by kernel_rfl⟩
instance : TZero Tryz.prog 170 (.nilFunc) := ⟨by kernel_rfl⟩
instance : TBytes Tryz.prog 170 8 := ⟨by kernel_rfl⟩
instance : TRow Tryz.prog 171 false := ⟨by kernel_rfl⟩
instance : TSize Tryz.prog 171 1 := ⟨by kernel_rfl⟩
instance : TZero Tryz.prog 171 (.slice none 0 0) := ⟨by kernel_rfl⟩
instance : TBytes Tryz.prog 171 24 := ⟨by kernel_rfl⟩
instance : TSlice Tryz.prog 171 176 := ⟨by kernel_rfl⟩
instance : TRow Tryz.prog 172 false := ⟨by kernel_rfl⟩
instance : TSize Tryz.prog 172 1 := ⟨by kernel_rfl⟩
instance : TZero Tryz.prog 172 (.slice none 0 0) := ⟨by kernel_rfl⟩
instance : TBytes Tryz.prog 172 24 := ⟨by kernel_rfl⟩
instance : TSlice Tryz.prog 172 178 := ⟨by kernel_rfl⟩
instance : TRow Tryz.prog 173 true := ⟨by kernel_rfl⟩
instance : TSize Tryz.prog 173 10 := ⟨by kernel_rfl⟩
instance : TZero Tryz.prog 173 (.agg #[.int .i64 0, .int .i64 0, .slice none 0 0, .slice none 0 0, .slice none 0 0, .slice none 0 0, .slice none 0 0, .int .i64 0, .slice none 0 0, .slice none 0 0]) := ⟨by kernel_rfl⟩
instance : TBytes Tryz.prog 173 192 := ⟨by kernel_rfl⟩
instance : TField Tryz.prog 173 0 0 := ⟨by kernel_rfl⟩
instance : TPart Tryz.prog 173 0 0 60 := ⟨by kernel_rfl⟩
instance : TField Tryz.prog 173 1 6 := ⟨by kernel_rfl⟩
instance : TPart Tryz.prog 173 1 6 61 := ⟨by kernel_rfl⟩
instance : TField Tryz.prog 173 2 7 := ⟨by kernel_rfl⟩
instance : TPart Tryz.prog 173 2 7 3 := ⟨by kernel_rfl⟩
instance : TField Tryz.prog 173 3 8 := ⟨by kernel_rfl⟩
instance : TPart Tryz.prog 173 3 8 171 := ⟨by kernel_rfl⟩
instance : TField Tryz.prog 173 4 9 := ⟨by kernel_rfl⟩
instance : TPart Tryz.prog 173 4 9 172 := ⟨by kernel_rfl⟩
instance : TPlaces Tryz.prog 173 [(0, 6), (6, 1), (7, 1), (8, 1), (9, 1)] := ⟨by kernel_rfl⟩
instance : TRow Tryz.prog 174 true := ⟨by kernel_rfl⟩
instance : TSize Tryz.prog 174 10 := ⟨by kernel_rfl⟩
instance : TZero Tryz.prog 174 (.agg #[.int .i64 0, .int .i64 0, .slice none 0 0, .slice none 0 0, .slice none 0 0, .slice none 0 0, .slice none 0 0, .int .i64 0, .slice none 0 0, .slice none 0 0]) := ⟨by kernel_rfl⟩
instance : TBytes Tryz.prog 174 192 := ⟨by kernel_rfl⟩
instance : TField Tryz.prog 174 0 0 := ⟨by kernel_rfl⟩
instance : TPart Tryz.prog 174 0 0 60 := ⟨by kernel_rfl⟩
instance : TField Tryz.prog 174 1 6 := ⟨by kernel_rfl⟩
instance : TPart Tryz.prog 174 1 6 61 := ⟨by kernel_rfl⟩
instance : TField Tryz.prog 174 2 7 := ⟨by kernel_rfl⟩
instance : TPart Tryz.prog 174 2 7 3 := ⟨by kernel_rfl⟩
instance : TField Tryz.prog 174 3 8 := ⟨by kernel_rfl⟩
instance : TPart Tryz.prog 174 3 8 171 := ⟨by kernel_rfl⟩
instance : TField Tryz.prog 174 4 9 := ⟨by kernel_rfl⟩
instance : TPart Tryz.prog 174 4 9 172 := ⟨by kernel_rfl⟩
instance : TPlaces Tryz.prog 174 [(0, 6), (6, 1), (7, 1), (8, 1), (9, 1)] := ⟨by kernel_rfl⟩
instance : TRow Tryz.prog 175 true := ⟨by kernel_rfl⟩
instance : TSize Tryz.prog 175 25 := ⟨by kernel_rfl⟩
instance : TZero Tryz.prog 175 (.agg #[.int .i64 0, .int .i64 0, .int .i64 0, .int .i64 0, .int .i64 0, .int .u8 0, .int .i64 0, .int .i64 0, .int .i64 0, .string ⟨#[]⟩, .string ⟨#[]⟩, .int .i64 0, .int .i64 0, .int .i64 0, .int .i64 0, .int .i64 0, .int .i64 0, .int .i64 0, .int .i64 0, .int .i64 0, .int .i64 0, .int .i64 0, .int .i64 0, .int .i64 0, .int .i64 0]) := ⟨by kernel_rfl⟩
instance : TBytes Tryz.prog 175 216 := ⟨by kernel_rfl⟩
instance : TField Tryz.prog 175 0 0 := ⟨by kernel_rfl⟩
instance : TPart Tryz.prog 175 0 0 74 := ⟨by kernel_rfl⟩
instance : TField Tryz.prog 175 1 3 := ⟨by kernel_rfl⟩
instance : TPart Tryz.prog 175 1 3 153 := ⟨by kernel_rfl⟩
instance : TField Tryz.prog 175 2 17 := ⟨by kernel_rfl⟩
instance : TPart Tryz.prog 175 2 17 82 := ⟨by kernel_rfl⟩
instance : TField Tryz.prog 175 3 24 := ⟨by kernel_rfl⟩
instance : TPart Tryz.prog 175 3 24 3 := ⟨by kernel_rfl⟩
instance : TPlaces Tryz.prog 175 [(0, 3), (3, 14), (17, 7), (24, 1)] := ⟨by kernel_rfl⟩
instance : TRow Tryz.prog 176 true := ⟨by kernel_rfl⟩
instance : TSize Tryz.prog 176 25 := ⟨by kernel_rfl⟩
instance : TZero Tryz.prog 176 (.agg #[.int .i64 0, .int .i64 0, .int .i64 0, .int .i64 0, .int .i64 0, .int .u8 0, .int .i64 0, .int .i64 0, .int .i64 0, .string ⟨#[]⟩, .string ⟨#[]⟩, .int .i64 0, .int .i64 0, .int .i64 0, .int .i64 0, .int .i64 0, .int .i64 0, .int .i64 0, .int .i64 0, .int .i64 0, .int .i64 0, .int .i64 0, .int .i64 0, .int .i64 0, .int .i64 0]) := ⟨by kernel_rfl⟩
instance : TBytes Tryz.prog 176 216 := ⟨by kernel_rfl⟩
instance : TField Tryz.prog 176 0 0 := ⟨by kernel_rfl⟩
instance : TPart Tryz.prog 176 0 0 74 := ⟨by kernel_rfl⟩
instance : TField Tryz.prog 176 1 3 := ⟨by kernel_rfl⟩
instance : TPart Tryz.prog 176 1 3 153 := ⟨by kernel_rfl⟩
instance : TField Tryz.prog 176 2 17 := ⟨by kernel_rfl⟩
instance : TPart Tryz.prog 176 2 17 82 := ⟨by kernel_rfl⟩
instance : TField Tryz.prog 176 3 24 := ⟨by kernel_rfl⟩
instance : TPart Tryz.prog 176 3 24 3 := ⟨by kernel_rfl⟩
instance : TPlaces Tryz.prog 176 [(0, 3), (3, 14), (17, 7), (24, 1)] := ⟨by kernel_rfl⟩
instance : TRow Tryz.prog 177 true := ⟨by kernel_rfl⟩
instance : TSize Tryz.prog 177 13 := ⟨by kernel_rfl⟩
instance : TZero Tryz.prog 177 (.agg #[.int .i64 0, .int .i64 0, .int .i64 0, .string ⟨#[]⟩, .string ⟨#[]⟩, .int .i64 0, .int .i64 0, .int .i64 0, .int .i64 0, .int .i64 0, .bool false, .bool false, .int .i64 0]) := ⟨by kernel_rfl⟩
instance : TBytes Tryz.prog 177 112 := ⟨by kernel_rfl⟩
instance : TField Tryz.prog 177 0 0 := ⟨by kernel_rfl⟩
instance : TPart Tryz.prog 177 0 0 42 := ⟨by kernel_rfl⟩
instance : TField Tryz.prog 177 1 12 := ⟨by kernel_rfl⟩
instance : TPart Tryz.prog 177 1 12 3 := ⟨by kernel_rfl⟩
instance : TPlaces Tryz.prog 177 [(0, 12), (12, 1)] := ⟨by kernel_rfl⟩
instance : TRow Tryz.prog 178 true := ⟨by kernel_rfl⟩
instance : TSize Tryz.prog 178 13 := ⟨by kernel_rfl⟩
instance : TZero Tryz.prog 178 (.agg #[.int .i64 0, .int .i64 0, .int .i64 0, .string ⟨#[]⟩, .string ⟨#[]⟩, .int .i64 0, .int .i64 0, .int .i64 0, .int .i64 0, .int .i64 0, .bool false, .bool false, .int .i64 0]) := ⟨by kernel_rfl⟩
instance : TBytes Tryz.prog 178 112 := ⟨by kernel_rfl⟩
instance : TField Tryz.prog 178 0 0 := ⟨by kernel_rfl⟩
instance : TPart Tryz.prog 178 0 0 42 := ⟨by kernel_rfl⟩
instance : TField Tryz.prog 178 1 12 := ⟨by kernel_rfl⟩
instance : TPart Tryz.prog 178 1 12 3 := ⟨by kernel_rfl⟩
instance : TPlaces Tryz.prog 178 [(0, 12), (12, 1)] := ⟨by kernel_rfl⟩
instance : TRow Tryz.prog 179 false := ⟨by kernel_rfl⟩
instance : TSize Tryz.prog 179 1 := ⟨by kernel_rfl⟩
instance : TZero Tryz.prog 179 (.nilFunc) := ⟨by kernel_rfl⟩
instance : TBytes Tryz.prog 179 8 := ⟨by kernel_rfl⟩
instance : TRow Tryz.prog 180 false := ⟨by kernel_rfl⟩
instance : TSize Tryz.prog 180 1 := ⟨by kernel_rfl⟩
instance : TZero Tryz.prog 180 (.nilFunc) := ⟨by kernel_rfl⟩
instance : TBytes Tryz.prog 180 8 := ⟨by kernel_rfl⟩
instance : TRow Tryz.prog 181 false := ⟨by kernel_rfl⟩
instance : TSize Tryz.prog 181 1 := ⟨by kernel_rfl⟩
instance : TZero Tryz.prog 181 (.nilFunc) := ⟨by kernel_rfl⟩
instance : TBytes Tryz.prog 181 8 := ⟨by kernel_rfl⟩
instance : TRow Tryz.prog 182 false := ⟨by kernel_rfl⟩
instance : TSize Tryz.prog 182 1 := ⟨by kernel_rfl⟩
instance : TZero Tryz.prog 182 (.nilFunc) := ⟨by kernel_rfl⟩
instance : TBytes Tryz.prog 182 8 := ⟨by kernel_rfl⟩
instance : TRow Tryz.prog 183 false := ⟨by kernel_rfl⟩
instance : TSize Tryz.prog 183 1 := ⟨by kernel_rfl⟩
instance : TZero Tryz.prog 183 (.nilFunc) := ⟨by kernel_rfl⟩
instance : TBytes Tryz.prog 183 8 := ⟨by kernel_rfl⟩
instance : TRow Tryz.prog 184 true := ⟨by kernel_rfl⟩
instance : TSize Tryz.prog 184 2 := ⟨by kernel_rfl⟩
instance : TZero Tryz.prog 184 (.agg #[.slice none 0 0, .slice none 0 0]) := ⟨by kernel_rfl⟩
instance : TBytes Tryz.prog 184 48 := ⟨by kernel_rfl⟩
instance : TField Tryz.prog 184 0 0 := ⟨by kernel_rfl⟩
instance : TPart Tryz.prog 184 0 0 62 := ⟨by kernel_rfl⟩
instance : TField Tryz.prog 184 1 1 := ⟨by kernel_rfl⟩
instance : TPart Tryz.prog 184 1 1 62 := ⟨by kernel_rfl⟩
instance : TPlaces Tryz.prog 184 [(0, 1), (1, 1)] := ⟨by kernel_rfl⟩
instance : TRow Tryz.prog 185 true := ⟨by kernel_rfl⟩
instance : TSize Tryz.prog 185 2 := ⟨by kernel_rfl⟩
instance : TZero Tryz.prog 185 (.agg #[.slice none 0 0, .slice none 0 0]) := ⟨by kernel_rfl⟩
instance : TBytes Tryz.prog 185 48 := ⟨by kernel_rfl⟩
instance : TField Tryz.prog 185 0 0 := ⟨by kernel_rfl⟩
instance : TPart Tryz.prog 185 0 0 62 := ⟨by kernel_rfl⟩
instance : TField Tryz.prog 185 1 1 := ⟨by kernel_rfl⟩
instance : TPart Tryz.prog 185 1 1 62 := ⟨by kernel_rfl⟩
instance : TPlaces Tryz.prog 185 [(0, 1), (1, 1)] := ⟨by kernel_rfl⟩
instance : TRow Tryz.prog 186 false := ⟨by kernel_rfl⟩
instance : TSize Tryz.prog 186 1 := ⟨by kernel_rfl⟩
instance : TZero Tryz.prog 186 (.pointer none) := ⟨by kernel_rfl⟩
instance : TBytes Tryz.prog 186 8 := ⟨by kernel_rfl⟩
instance : TRow Tryz.prog 188 false := ⟨by kernel_rfl⟩
instance : TSize Tryz.prog 188 1 := ⟨by kernel_rfl⟩
instance : TZero Tryz.prog 188 (.nilFunc) := ⟨by kernel_rfl⟩
instance : TBytes Tryz.prog 188 8 := ⟨by kernel_rfl⟩
instance : TRow Tryz.prog 189 false := ⟨by kernel_rfl⟩
instance : TSize Tryz.prog 189 1 := ⟨by kernel_rfl⟩
instance : TZero Tryz.prog 189 (.nilFunc) := ⟨by kernel_rfl⟩
instance : TBytes Tryz.prog 189 8 := ⟨by kernel_rfl⟩
instance : TRow Tryz.prog 190 false := ⟨by kernel_rfl⟩
instance : TSize Tryz.prog 190 1 := ⟨by kernel_rfl⟩
instance : TZero Tryz.prog 190 (.nilFunc) := ⟨by kernel_rfl⟩
instance : TBytes Tryz.prog 190 8 := ⟨by kernel_rfl⟩
instance : TRow Tryz.prog 191 false := ⟨by kernel_rfl⟩
instance : TSize Tryz.prog 191 1 := ⟨by kernel_rfl⟩
instance : TZero Tryz.prog 191 (.pointer none) := ⟨by kernel_rfl⟩
instance : TBytes Tryz.prog 191 8 := ⟨by kernel_rfl⟩
instance : TRow Tryz.prog 192 false := ⟨by kernel_rfl⟩
instance : TSize Tryz.prog 192 1 := ⟨by kernel_rfl⟩
instance : TZero Tryz.prog 192 (.slice none 0 0) := ⟨by kernel_rfl⟩
instance : TBytes Tryz.prog 192 24 := ⟨by kernel_rfl⟩
instance : TSlice Tryz.prog 192 186 := ⟨by kernel_rfl⟩
instance : TRow Tryz.prog 193 true := ⟨by kernel_rfl⟩
instance : TSize Tryz.prog 193 25 := ⟨by kernel_rfl⟩
instance : TZero Tryz.prog 193 (.agg #[.int .i64 0, .int .i64 0, .int .i64 0, .int .u8 0, .int .i64 0, .int .i64 0, .int .i64 0, .string ⟨#[]⟩, .string ⟨#[]⟩, .int .i64 0, .int .i64 0, .int .i64 0, .int .i64 0, .int .i64 0, .int .i64 0, .pointer none, .slice none 0 0, .int .i64 0, .int .i64 0, .int .i64 0, .int .i64 0, .int .i64 0, .int .i64 0, .int .i64 0, .int .i64 0]) := ⟨by kernel_rfl⟩
instance : TBytes Tryz.prog 193 232 := ⟨by kernel_rfl⟩
instance : TField Tryz.prog 193 0 0 := ⟨by kernel_rfl⟩
instance : TPart Tryz.prog 193 0 0 3 := ⟨by kernel_rfl⟩
instance : TField Tryz.prog 193 1 1 := ⟨by kernel_rfl⟩
instance : TPart Tryz.prog 193 1 1 153 := ⟨by kernel_rfl⟩
instance : TField Tryz.prog 193 2 15 := ⟨by kernel_rfl⟩
instance : TPart Tryz.prog 193 2 15 191 := ⟨by kernel_rfl⟩
instance : TField Tryz.prog 193 3 16 := ⟨by kernel_rfl⟩
instance : TPart Tryz.prog 193 3 16 192 := ⟨by kernel_rfl⟩
instance : TField Tryz.prog 193 4 17 := ⟨by kernel_rfl⟩
instance : TPart Tryz.prog 193 4 17 40 := ⟨by kernel_rfl⟩
instance : TField Tryz.prog 193 5 19 := ⟨by kernel_rfl⟩
instance : TPart Tryz.prog 193 5 19 40 := ⟨by kernel_rfl⟩
instance : TField Tryz.prog 193 6 21 := ⟨by kernel_rfl⟩
instance : TPart Tryz.prog 193 6 21 3 := ⟨by kernel_rfl⟩
instance : TField Tryz.prog 193 7 22 := ⟨by kernel_rfl⟩
instance : TPart Tryz.prog 193 7 22 3 := ⟨by kernel_rfl⟩
instance : TField Tryz.prog 193 8 23 := ⟨by kernel_rfl⟩
instance : TPart Tryz.prog 193 8 23 40 := ⟨by kernel_rfl⟩
instance : TPlaces Tryz.prog 193 [(0, 1), (1, 14), (15, 1), (16, 1), (17, 2), (19, 2), (21, 1), (22, 1), (23, 2)] := ⟨by kernel_rfl⟩
instance : TRow Tryz.prog 194 true := ⟨by kernel_rfl⟩
instance : TSize Tryz.prog 194 25 := ⟨by kernel_rfl⟩
instance : TZero Tryz.prog 194 (.agg #[.int .i64 0, .int .i64 0, .int .i64 0, .int .u8 0, .int .i64 0, .int .i64 0, .int .i64 0, .string ⟨#[]⟩, .string ⟨#[]⟩, .int .i64 0, .int .i64 0, .int .i64 0, .int .i64 0, .int .i64 0, .int .i64 0, .pointer none, .slice none 0 0, .int .i64 0, .int .i64 0, .int .i64 0, .int .i64 0, .int .i64 0, .int .i64 0, .int .i64 0, .int .i64 0]) := ⟨by kernel_rfl⟩
instance : TBytes Tryz.prog 194 232 := ⟨by kernel_rfl⟩
instance : TField Tryz.prog 194 0 0 := ⟨by kernel_rfl⟩
instance : TPart Tryz.prog 194 0 0 3 := ⟨by kernel_rfl⟩
instance : TField Tryz.prog 194 1 1 := ⟨by kernel_rfl⟩
instance : TPart Tryz.prog 194 1 1 153 := ⟨by kernel_rfl⟩
instance : TField Tryz.prog 194 2 15 := ⟨by kernel_rfl⟩
instance : TPart Tryz.prog 194 2 15 191 := ⟨by kernel_rfl⟩
instance : TField Tryz.prog 194 3 16 := ⟨by kernel_rfl⟩
instance : TPart Tryz.prog 194 3 16 192 := ⟨by kernel_rfl⟩
instance : TField Tryz.prog 194 4 17 := ⟨by kernel_rfl⟩
instance : TPart Tryz.prog 194 4 17 40 := ⟨by kernel_rfl⟩
instance : TField Tryz.prog 194 5 19 := ⟨by kernel_rfl⟩
instance : TPart Tryz.prog 194 5 19 40 := ⟨by kernel_rfl⟩
instance : TField Tryz.prog 194 6 21 := ⟨by kernel_rfl⟩
instance : TPart Tryz.prog 194 6 21 3 := ⟨by kernel_rfl⟩
instance : TField Tryz.prog 194 7 22 := ⟨by kernel_rfl⟩
instance : TPart Tryz.prog 194 7 22 3 := ⟨by kernel_rfl⟩
instance : TField Tryz.prog 194 8 23 := ⟨by kernel_rfl⟩
instance : TPart Tryz.prog 194 8 23 40 := ⟨by kernel_rfl⟩
instance : TPlaces Tryz.prog 194 [(0, 1), (1, 14), (15, 1), (16, 1), (17, 2), (19, 2), (21, 1), (22, 1), (23, 2)] := ⟨by kernel_rfl⟩
instance : TRow Tryz.prog 195 false := ⟨by kernel_rfl⟩
instance : TSize Tryz.prog 195 1 := ⟨by kernel_rfl⟩
instance : TZero Tryz.prog 195 (.nilFunc) := ⟨by kernel_rfl⟩
instance : TBytes Tryz.prog 195 8 := ⟨by kernel_rfl⟩
instance : TRow Tryz.prog 196 false := ⟨by kernel_rfl⟩
instance : TSize Tryz.prog 196 1 := ⟨by kernel_rfl⟩
instance : TZero Tryz.prog 196 (.slice none 0 0) := ⟨by kernel_rfl⟩
instance : TBytes Tryz.prog 196 24 := ⟨by kernel_rfl⟩
instance : TSlice Tryz.prog 196 201 := ⟨by kernel_rfl⟩
instance : TRow Tryz.prog 198 false := ⟨by kernel_rfl⟩
instance : TSize Tryz.prog 198 1 := ⟨by kernel_rfl⟩
instance : TZero Tryz.prog 198 (.nilFunc) := ⟨by kernel_rfl⟩
instance : TBytes Tryz.prog 198 8 := ⟨by kernel_rfl⟩
instance : TRow Tryz.prog 199 false := ⟨by kernel_rfl⟩
instance : TSize Tryz.prog 199 1 := ⟨by kernel_rfl⟩
instance : TZero Tryz.prog 199 (.nilFunc) := ⟨by kernel_rfl⟩
instance : TBytes Tryz.prog 199 8 := ⟨by kernel_rfl⟩
instance : TRow Tryz.prog 200 true := ⟨by kernel_rfl⟩
instance : TSize Tryz.prog 200 2 := ⟨by kernel_rfl⟩
instance : TZero Tryz.prog 200 (.agg #[.int .i64 0, .int .i64 0]) := ⟨by kernel_rfl⟩
instance : TBytes Tryz.prog 200 16 := ⟨by kernel_rfl⟩
instance : TField Tryz.prog 200 0 0 := ⟨by kernel_rfl⟩
instance : TPart Tryz.prog 200 0 0 3 := ⟨by kernel_rfl⟩
instance : TField Tryz.prog 200 1 1 := ⟨by kernel_rfl⟩
instance : TPart Tryz.prog 200 1 1 3 := ⟨by kernel_rfl⟩
instance : TPlaces Tryz.prog 200 [(0, 1), (1, 1)] := ⟨by kernel_rfl⟩
instance : TRow Tryz.prog 201 true := ⟨by kernel_rfl⟩
instance : TSize Tryz.prog 201 2 := ⟨by kernel_rfl⟩
instance : TZero Tryz.prog 201 (.agg #[.int .i64 0, .int .i64 0]) := ⟨by kernel_rfl⟩
instance : TBytes Tryz.prog 201 16 := ⟨by kernel_rfl⟩
instance : TField Tryz.prog 201 0 0 := ⟨by kernel_rfl⟩
instance : TPart Tryz.prog 201 0 0 3 := ⟨by kernel_rfl⟩
instance : TField Tryz.prog 201 1 1 := ⟨by kernel_rfl⟩
instance : TPart Tryz.prog 201 1 1 3 := ⟨by kernel_rfl⟩
instance : TPlaces Tryz.prog 201 [(0, 1), (1, 1)] := ⟨by kernel_rfl⟩
instance : TRow Tryz.prog 202 false := ⟨by kernel_rfl⟩
instance : TSize Tryz.prog 202 1 := ⟨by kernel_rfl⟩
instance : TZero Tryz.prog 202 (.nilFunc) := ⟨by kernel_rfl⟩
instance : TBytes Tryz.prog 202 8 := ⟨by kernel_rfl⟩
instance : TRow Tryz.prog 203 false := ⟨by kernel_rfl⟩
instance : TSize Tryz.prog 203 1 := ⟨by kernel_rfl⟩
instance : TZero Tryz.prog 203 (.nilFunc) := ⟨by kernel_rfl⟩
instance : TBytes Tryz.prog 203 8 := ⟨by kernel_rfl⟩
instance : TRow Tryz.prog 204 false := ⟨by kernel_rfl⟩
instance : TSize Tryz.prog 204 1 := ⟨by kernel_rfl⟩
instance : TZero Tryz.prog 204 (.nilFunc) := ⟨by kernel_rfl⟩
instance : TBytes Tryz.prog 204 8 := ⟨by kernel_rfl⟩
instance : TRow Tryz.prog 205 false := ⟨by kernel_rfl⟩
instance : TSize Tryz.prog 205 1 := ⟨by kernel_rfl⟩
instance : TZero Tryz.prog 205 (.nilFunc) := ⟨by kernel_rfl⟩
instance : TBytes Tryz.prog 205 8 := ⟨by kernel_rfl⟩
instance : TRow Tryz.prog 206 false := ⟨by kernel_rfl⟩
instance : TSize Tryz.prog 206 1 := ⟨by kernel_rfl⟩
instance : TZero Tryz.prog 206 (.pointer none) := ⟨by kernel_rfl⟩
instance : TBytes Tryz.prog 206 8 := ⟨by kernel_rfl⟩
instance : TRow Tryz.prog 207 false := ⟨by kernel_rfl⟩
instance : TSize Tryz.prog 207 1 := ⟨by kernel_rfl⟩
instance : TZero Tryz.prog 207 (.nilFunc) := ⟨by kernel_rfl⟩
instance : TBytes Tryz.prog 207 8 := ⟨by kernel_rfl⟩
instance : TRow Tryz.prog 208 true := ⟨by kernel_rfl⟩
instance : TSize Tryz.prog 208 5 := ⟨by kernel_rfl⟩
instance : TZero Tryz.prog 208 (.agg #[.slice none 0 0, .slice none 0 0, .slice none 0 0, .slice none 0 0, .slice none 0 0]) := ⟨by kernel_rfl⟩
instance : TBytes Tryz.prog 208 120 := ⟨by kernel_rfl⟩
instance : TField Tryz.prog 208 0 0 := ⟨by kernel_rfl⟩
instance : TPart Tryz.prog 208 0 0 68 := ⟨by kernel_rfl⟩
instance : TField Tryz.prog 208 1 3 := ⟨by kernel_rfl⟩
instance : TPart Tryz.prog 208 1 3 25 := ⟨by kernel_rfl⟩
instance : TField Tryz.prog 208 2 4 := ⟨by kernel_rfl⟩
instance : TPart Tryz.prog 208 2 4 25 := ⟨by kernel_rfl⟩
instance : TPlaces Tryz.prog 208 [(0, 3), (3, 1), (4, 1)] := ⟨by kernel_rfl⟩
instance : TRow Tryz.prog 209 true := ⟨by kernel_rfl⟩
instance : TSize Tryz.prog 209 5 := ⟨by kernel_rfl⟩
instance : TZero Tryz.prog 209 (.agg #[.slice none 0 0, .slice none 0 0, .slice none 0 0, .slice none 0 0, .slice none 0 0]) := ⟨by kernel_rfl⟩
instance : TBytes Tryz.prog 209 120 := ⟨by kernel_rfl⟩
instance : TField Tryz.prog 209 0 0 := ⟨by kernel_rfl⟩
instance : TPart Tryz.prog 209 0 0 68 := ⟨by kernel_rfl⟩
instance : TField Tryz.prog 209 1 3 := ⟨by kernel_rfl⟩
instance : TPart Tryz.prog 209 1 3 25 := ⟨by kernel_rfl⟩
instance : TField Tryz.prog 209 2 4 := ⟨by kernel_rfl⟩
instance : TPart Tryz.prog 209 2 4 25 := ⟨by kernel_rfl⟩
instance : TPlaces Tryz.prog 209 [(0, 3), (3, 1), (4, 1)] := ⟨by kernel_rfl⟩
instance : TRow Tryz.prog 210 false := ⟨by kernel_rfl⟩
instance : TSize Tryz.prog 210 1 := ⟨by kernel_rfl⟩
instance : TZero Tryz.prog 210 (.nilFunc) := ⟨by kernel_rfl⟩
instance : TBytes Tryz.prog 210 8 := ⟨by kernel_rfl⟩
instance : TRow Tryz.prog 211 false := ⟨by kernel_rfl⟩
instance : TSize Tryz.prog 211 1 := ⟨by kernel_rfl⟩
instance : TZero Tryz.prog 211 (.slice none 0 0) := ⟨by kernel_rfl⟩
instance : TBytes Tryz.prog 211 24 := ⟨by kernel_rfl⟩
instance : TSlice Tryz.prog 211 215 := ⟨by kernel_rfl⟩
instance : TRow Tryz.prog 212 true := ⟨by kernel_rfl⟩
instance : TSize Tryz.prog 212 2 := ⟨by kernel_rfl⟩
instance : TZero Tryz.prog 212 (.agg #[.slice none 0 0, .slice none 0 0]) := ⟨by kernel_rfl⟩
instance : TBytes Tryz.prog 212 48 := ⟨by kernel_rfl⟩
instance : TField Tryz.prog 212 0 0 := ⟨by kernel_rfl⟩
instance : TPart Tryz.prog 212 0 0 211 := ⟨by kernel_rfl⟩
instance : TField Tryz.prog 212 1 1 := ⟨by kernel_rfl⟩
instance : TPart Tryz.prog 212 1 1 25 := ⟨by kernel_rfl⟩
instance : TPlaces Tryz.prog 212 [(0, 1), (1, 1)] := ⟨by kernel_rfl⟩
instance : TRow Tryz.prog 213 true := ⟨by kernel_rfl⟩
instance : TSize Tryz.prog 213 2 := ⟨by kernel_rfl⟩
instance : TZero Tryz.prog 213 (.agg #[.slice none 0 0, .slice none 0 0]) := ⟨by kernel_rfl⟩
instance : TBytes Tryz.prog 213 48 := ⟨by kernel_rfl⟩
instance : TField Tryz.prog 213 0 0 := ⟨by kernel_rfl⟩
instance : TPart Tryz.prog 213 0 0 211 := ⟨by kernel_rfl⟩
instance : TField Tryz.prog 213 1 1 := ⟨by kernel_rfl⟩
instance : TPart Tryz.prog 213 1 1 25 := ⟨by kernel_rfl⟩
instance : TPlaces Tryz.prog 213 [(0, 1), (1, 1)] := ⟨by kernel_rfl⟩
instance : TRow Tryz.prog 214 true := ⟨by kernel_rfl⟩
instance : TSize Tryz.prog 214 5 := ⟨by kernel_rfl⟩
instance : TZero Tryz.prog 214 (.agg #[.int .i64 0, .int .i64 0, .int .i64 0, .int .i64 0, .int .i64 0]) := ⟨by kernel_rfl⟩
instance : TBytes Tryz.prog 214 40 := ⟨by kernel_rfl⟩
instance : TField Tryz.prog 214 0 0 := ⟨by kernel_rfl⟩
instance : TPart Tryz.prog 214 0 0 3 := ⟨by kernel_rfl⟩
instance : TField Tryz.prog 214 1 1 := ⟨by kernel_rfl⟩
instance : TPart Tryz.prog 214 1 1 3 := ⟨by kernel_rfl⟩
instance : TField Tryz.prog 214 2 2 := ⟨by kernel_rfl⟩
instance : TPart Tryz.prog 214 2 2 3 := ⟨by kernel_rfl⟩
instance : TField Tryz.prog 214 3 3 := ⟨by kernel_rfl⟩
instance : TPart Tryz.prog 214 3 3 3 := ⟨by kernel_rfl⟩
instance : TField Tryz.prog 214 4 4 := ⟨by kernel_rfl⟩
instance : TPart Tryz.prog 214 4 4 3 := ⟨by kernel_rfl⟩
instance : TPlaces Tryz.prog 214 [(0, 1), (1, 1), (2, 1), (3, 1), (4, 1)] := ⟨by kernel_rfl⟩
instance : TRow Tryz.prog 215 true := ⟨by kernel_rfl⟩
instance : TSize Tryz.prog 215 5 := ⟨by kernel_rfl⟩
instance : TZero Tryz.prog 215 (.agg #[.int .i64 0, .int .i64 0, .int .i64 0, .int .i64 0, .int .i64 0]) := ⟨by kernel_rfl⟩
instance : TBytes Tryz.prog 215 40 := ⟨by kernel_rfl⟩
instance : TField Tryz.prog 215 0 0 := ⟨by kernel_rfl⟩
instance : TPart Tryz.prog 215 0 0 3 := ⟨by kernel_rfl⟩
instance : TField Tryz.prog 215 1 1 := ⟨by kernel_rfl⟩
instance : TPart Tryz.prog 215 1 1 3 := ⟨by kernel_rfl⟩
instance : TField Tryz.prog 215 2 2 := ⟨by kernel_rfl⟩
instance : TPart Tryz.prog 215 2 2 3 := ⟨by kernel_rfl⟩
instance : TField Tryz.prog 215 3 3 := ⟨by kernel_rfl⟩
instance : TPart Tryz.prog 215 3 3 3 := ⟨by kernel_rfl⟩
instance : TField Tryz.prog 215 4 4 := ⟨by kernel_rfl⟩
instance : TPart Tryz.prog 215 4 4 3 := ⟨by kernel_rfl⟩
instance : TPlaces Tryz.prog 215 [(0, 1), (1, 1), (2, 1), (3, 1), (4, 1)] := ⟨by kernel_rfl⟩
instance : TRow Tryz.prog 216 false := ⟨by kernel_rfl⟩
instance : TSize Tryz.prog 216 1 := ⟨by kernel_rfl⟩
instance : TZero Tryz.prog 216 (.nilFunc) := ⟨by kernel_rfl⟩
instance : TBytes Tryz.prog 216 8 := ⟨by kernel_rfl⟩
instance : TRow Tryz.prog 217 false := ⟨by kernel_rfl⟩
instance : TSize Tryz.prog 217 1 := ⟨by kernel_rfl⟩
instance : TZero Tryz.prog 217 (.nilFunc) := ⟨by kernel_rfl⟩
instance : TBytes Tryz.prog 217 8 := ⟨by kernel_rfl⟩
instance : TRow Tryz.prog 218 false := ⟨by kernel_rfl⟩
instance : TSize Tryz.prog 218 1 := ⟨by kernel_rfl⟩
instance : TZero Tryz.prog 218 (.nilFunc) := ⟨by kernel_rfl⟩
instance : TBytes Tryz.prog 218 8 := ⟨by kernel_rfl⟩
instance : TRow Tryz.prog 219 false := ⟨by kernel_rfl⟩
instance : TSize Tryz.prog 219 1 := ⟨by kernel_rfl⟩
instance : TZero Tryz.prog 219 (.nilFunc) := ⟨by kernel_rfl⟩
instance : TBytes Tryz.prog 219 8 := ⟨by kernel_rfl⟩
instance : TRow Tryz.prog 220 false := ⟨by kernel_rfl⟩
instance : TSize Tryz.prog 220 1 := ⟨by kernel_rfl⟩
instance : TZero Tryz.prog 220 (.nilFunc) := ⟨by kernel_rfl⟩
instance : TBytes Tryz.prog 220 8 := ⟨by kernel_rfl⟩
instance : TRow Tryz.prog 221 false := ⟨by kernel_rfl⟩
instance : TSize Tryz.prog 221 1 := ⟨by kernel_rfl⟩
instance : TZero Tryz.prog 221 (.nilFunc) := ⟨by kernel_rfl⟩
instance : TBytes Tryz.prog 221 8 := ⟨by kernel_rfl⟩
instance : TRow Tryz.prog 222 false := ⟨by kernel_rfl⟩
instance : TSize Tryz.prog 222 1 := ⟨by kernel_rfl⟩
instance : TZero Tryz.prog 222 (.slice none 0 0) := ⟨by kernel_rfl⟩
instance : TBytes Tryz.prog 222 24 := ⟨by kernel_rfl⟩
instance : TSlice Tryz.prog 222 226 := ⟨by kernel_rfl⟩
instance : TRow Tryz.prog 224 false := ⟨by kernel_rfl⟩
instance : TSize Tryz.prog 224 1 := ⟨by kernel_rfl⟩
instance : TZero Tryz.prog 224 (.nilFunc) := ⟨by kernel_rfl⟩
instance : TBytes Tryz.prog 224 8 := ⟨by kernel_rfl⟩
instance : TRow Tryz.prog 225 true := ⟨by kernel_rfl⟩
instance : TSize Tryz.prog 225 7 := ⟨by kernel_rfl⟩
instance : TZero Tryz.prog 225 (.agg #[.int .i64 0, .int .i64 0, .int .i64 0, .int .i64 0, .int .i64 0, .bool false, .int .i64 0]) := ⟨by kernel_rfl⟩
instance : TBytes Tryz.prog 225 56 := ⟨by kernel_rfl⟩
instance : TField Tryz.prog 225 0 0 := ⟨by kernel_rfl⟩
instance : TPart Tryz.prog 225 0 0 215 := ⟨by kernel_rfl⟩
instance : TField Tryz.prog 225 1 5 := ⟨by kernel_rfl⟩
instance : TPart Tryz.prog 225 1 5 4 := ⟨by kernel_rfl⟩
instance : TField Tryz.prog 225 2 6 := ⟨by kernel_rfl⟩
instance : TPart Tryz.prog 225 2 6 3 := ⟨by kernel_rfl⟩
instance : TPlaces Tryz.prog 225 [(0, 5), (5, 1), (6, 1)] := ⟨by kernel_rfl⟩
instance : TRow Tryz.prog 226 true := ⟨by kernel_rfl⟩
instance : TSize Tryz.prog 226 7 := ⟨by kernel_rfl⟩
instance : TZero Tryz.prog 226 (.agg #[.int .i64 0, .int .i64 0, .int .i64 0, .int .i64 0, .int .i64 0, .bool false, .int .i64 0]) := ⟨by kernel_rfl⟩
instance : TBytes Tryz.prog 226 56 := ⟨by kernel_rfl⟩
instance : TField Tryz.prog 226 0 0 := ⟨by kernel_rfl⟩
instance : TPart Tryz.prog 226 0 0 215 := ⟨by kernel_rfl⟩
instance : TField Tryz.prog 226 1 5 := ⟨by kernel_rfl⟩
instance : TPart Tryz.prog 226 1 5 4 := ⟨by kernel_rfl⟩
instance : TField Tryz.prog 226 2 6 := ⟨by kernel_rfl⟩
instance : TPart Tryz.prog 226 2 6 3 := ⟨by kernel_rfl⟩
instance : TPlaces Tryz.prog 226 [(0, 5), (5, 1), (6, 1)] := ⟨by kernel_rfl⟩
instance : TRow Tryz.prog 227 false := ⟨by kernel_rfl⟩
instance : TSize Tryz.prog 227 1 := ⟨by kernel_rfl⟩
instance : TZero Tryz.prog 227 (.nilFunc) := ⟨by kernel_rfl⟩
instance : TBytes Tryz.prog 227 8 := ⟨by kernel_rfl⟩
instance : TRow Tryz.prog 228 false := ⟨by kernel_rfl⟩
instance : TSize Tryz.prog 228 1 := ⟨by kernel_rfl⟩
instance : TZero Tryz.prog 228 (.nilFunc) := ⟨by kernel_rfl⟩
instance : TBytes Tryz.prog 228 8 := ⟨by kernel_rfl⟩
instance : TRow Tryz.prog 229 false := ⟨by kernel_rfl⟩
instance : TSize Tryz.prog 229 1 := ⟨by kernel_rfl⟩
instance : TZero Tryz.prog 229 (.nilFunc) := ⟨by kernel_rfl⟩
instance : TBytes Tryz.prog 229 8 := ⟨by kernel_rfl⟩
instance : TRow Tryz.prog 230 true := ⟨by kernel_rfl⟩
instance : TSize Tryz.prog 230 2 := ⟨by kernel_rfl⟩
instance : TZero Tryz.prog 230 (.agg #[.int .i64 0, .int .i64 0]) := ⟨by kernel_rfl⟩
instance : TBytes Tryz.prog 230 16 := ⟨by kernel_rfl⟩
instance : TRow Tryz.prog 231 false := ⟨by kernel_rfl⟩
instance : TSize Tryz.prog 231 1 := ⟨by kernel_rfl⟩
instance : TZero Tryz.prog 231 (.nilFunc) := ⟨by kernel_rfl⟩
instance : TBytes Tryz.prog 231 8 := ⟨by kernel_rfl⟩
instance : TRow Tryz.prog 232 false := ⟨by kernel_rfl⟩
instance : TSize Tryz.prog 232 1 := ⟨by kernel_rfl⟩
instance : TZero Tryz.prog 232 (.nilFunc) := ⟨by kernel_rfl⟩
instance : TBytes Tryz.prog 232 8 := ⟨by kernel_rfl⟩
instance : TRow Tryz.prog 233 false := ⟨by kernel_rfl⟩
instance : TSize Tryz.prog 233 1 := ⟨by kernel_rfl⟩
instance : TZero Tryz.prog 233 (.nilFunc) := ⟨by kernel_rfl⟩
instance : TBytes Tryz.prog 233 8 := ⟨by kernel_rfl⟩
instance : TRow Tryz.prog 234 false := ⟨by kernel_rfl⟩
instance : TSize Tryz.prog 234 1 := ⟨by kernel_rfl⟩
instance : TZero Tryz.prog 234 (.nilFunc) := ⟨by kernel_rfl⟩
instance : TBytes Tryz.prog 234 8 := ⟨by kernel_rfl⟩
instance : TRow Tryz.prog 235 false := ⟨by kernel_rfl⟩
instance : TSize Tryz.prog 235 1 := ⟨by kernel_rfl⟩
instance : TZero Tryz.prog 235 (.nilFunc) := ⟨by kernel_rfl⟩
instance : TBytes Tryz.prog 235 8 := ⟨by kernel_rfl⟩
instance : TRow Tryz.prog 236 false := ⟨by kernel_rfl⟩
instance : TSize Tryz.prog 236 1 := ⟨by kernel_rfl⟩
instance : TZero Tryz.prog 236 (.nilFunc) := ⟨by kernel_rfl⟩
instance : TBytes Tryz.prog 236 8 := ⟨by kernel_rfl⟩
instance : TRow Tryz.prog 237 false := ⟨by kernel_rfl⟩
instance : TSize Tryz.prog 237 1 := ⟨by kernel_rfl⟩
instance : TZero Tryz.prog 237 (.nilFunc) := ⟨by kernel_rfl⟩
instance : TBytes Tryz.prog 237 8 := ⟨by kernel_rfl⟩
instance : TRow Tryz.prog 238 false := ⟨by kernel_rfl⟩
instance : TSize Tryz.prog 238 1 := ⟨by kernel_rfl⟩
instance : TZero Tryz.prog 238 (.nilFunc) := ⟨by kernel_rfl⟩
instance : TBytes Tryz.prog 238 8 := ⟨by kernel_rfl⟩
instance : TRow Tryz.prog 239 false := ⟨by kernel_rfl⟩
instance : TSize Tryz.prog 239 1 := ⟨by kernel_rfl⟩
instance : TZero Tryz.prog 239 (.nilFunc) := ⟨by kernel_rfl⟩
instance : TBytes Tryz.prog 239 8 := ⟨by kernel_rfl⟩
instance : TRow Tryz.prog 240 false := ⟨by kernel_rfl⟩
instance : TSize Tryz.prog 240 1 := ⟨by kernel_rfl⟩
instance : TZero Tryz.prog 240 (.nilFunc) := ⟨by kernel_rfl⟩
instance : TBytes Tryz.prog 240 8 := ⟨by kernel_rfl⟩
instance : TRow Tryz.prog 241 false := ⟨by kernel_rfl⟩
instance : TSize Tryz.prog 241 1 := ⟨by kernel_rfl⟩
instance : TZero Tryz.prog 241 (.nilFunc) := ⟨by kernel_rfl⟩
instance : TBytes Tryz.prog 241 8 := ⟨by kernel_rfl⟩
instance : TRow Tryz.prog 242 false := ⟨by kernel_rfl⟩
instance : TSize Tryz.prog 242 1 := ⟨by kernel_rfl⟩
instance : TZero Tryz.prog 242 (.nilFunc) := ⟨by kernel_rfl⟩
instance : TBytes Tryz.prog 242 8 := ⟨by kernel_rfl⟩
instance : TRow Tryz.prog 243 false := ⟨by kernel_rfl⟩
instance : TSize Tryz.prog 243 1 := ⟨by kernel_rfl⟩
instance : TZero Tryz.prog 243 (.nilFunc) := ⟨by kernel_rfl⟩
instance : TBytes Tryz.prog 243 8 := ⟨by kernel_rfl⟩
instance : TRow Tryz.prog 244 false := ⟨by kernel_rfl⟩
instance : TSize Tryz.prog 244 1 := ⟨by kernel_rfl⟩
instance : TZero Tryz.prog 244 (.nilFunc) := ⟨by kernel_rfl⟩
instance : TBytes Tryz.prog 244 8 := ⟨by kernel_rfl⟩
instance : TRow Tryz.prog 245 false := ⟨by kernel_rfl⟩
instance : TSize Tryz.prog 245 1 := ⟨by kernel_rfl⟩
instance : TZero Tryz.prog 245 (.nilFunc) := ⟨by kernel_rfl⟩
instance : TBytes Tryz.prog 245 8 := ⟨by kernel_rfl⟩
instance : TRow Tryz.prog 246 false := ⟨by kernel_rfl⟩
instance : TSize Tryz.prog 246 1 := ⟨by kernel_rfl⟩
instance : TZero Tryz.prog 246 (.nilFunc) := ⟨by kernel_rfl⟩
instance : TBytes Tryz.prog 246 8 := ⟨by kernel_rfl⟩
instance : TRow Tryz.prog 247 false := ⟨by kernel_rfl⟩
instance : TSize Tryz.prog 247 1 := ⟨by kernel_rfl⟩
instance : TZero Tryz.prog 247 (.slice none 0 0) := ⟨by kernel_rfl⟩
instance : TBytes Tryz.prog 247 24 := ⟨by kernel_rfl⟩
instance : TSlice Tryz.prog 247 320 := ⟨by kernel_rfl⟩
instance : TRow Tryz.prog 249 false := ⟨by kernel_rfl⟩
instance : TSize Tryz.prog 249 1 := ⟨by kernel_rfl⟩
instance : TZero Tryz.prog 249 (.nilFunc) := ⟨by kernel_rfl⟩
instance : TBytes Tryz.prog 249 8 := ⟨by kernel_rfl⟩
instance : TRow Tryz.prog 250 false := ⟨by kernel_rfl⟩
instance : TSize Tryz.prog 250 1 := ⟨by kernel_rfl⟩
instance : TZero Tryz.prog 250 (.nilFunc) := ⟨by kernel_rfl⟩
instance : TBytes Tryz.prog 250 8 := ⟨by kernel_rfl⟩
instance : TRow Tryz.prog 251 false := ⟨by kernel_rfl⟩
instance : TSize Tryz.prog 251 1 := ⟨by kernel_rfl⟩
instance : TZero Tryz.prog 251 (.nilFunc) := ⟨by kernel_rfl⟩
instance : TBytes Tryz.prog 251 8 := ⟨by kernel_rfl⟩
instance : TRow Tryz.prog 252 false := ⟨by kernel_rfl⟩
instance : TSize Tryz.prog 252 1 := ⟨by kernel_rfl⟩
instance : TZero Tryz.prog 252 (.nilFunc) := ⟨by kernel_rfl⟩
instance : TBytes Tryz.prog 252 8 := ⟨by kernel_rfl⟩
instance : TRow Tryz.prog 253 false := ⟨by kernel_rfl⟩
instance : TSize Tryz.prog 253 1 := ⟨by kernel_rfl⟩
instance : TZero Tryz.prog 253 (.nilFunc) := ⟨by kernel_rfl⟩
instance : TBytes Tryz.prog 253 8 := ⟨by kernel_rfl⟩
instance : TRow Tryz.prog 254 false := ⟨by kernel_rfl⟩
instance : TSize Tryz.prog 254 1 := ⟨by kernel_rfl⟩
instance : TZero Tryz.prog 254 (.nilFunc) := ⟨by kernel_rfl⟩
instance : TBytes Tryz.prog 254 8 := ⟨by kernel_rfl⟩
instance : TRow Tryz.prog 255 false := ⟨by kernel_rfl⟩
instance : TSize Tryz.prog 255 1 := ⟨by kernel_rfl⟩
instance : TZero Tryz.prog 255 (.nilFunc) := ⟨by kernel_rfl⟩
instance : TBytes Tryz.prog 255 8 := ⟨by kernel_rfl⟩
instance : TRow Tryz.prog 256 false := ⟨by kernel_rfl⟩
instance : TSize Tryz.prog 256 1 := ⟨by kernel_rfl⟩
instance : TZero Tryz.prog 256 (.nilFunc) := ⟨by kernel_rfl⟩
instance : TBytes Tryz.prog 256 8 := ⟨by kernel_rfl⟩
instance : TRow Tryz.prog 257 false := ⟨by kernel_rfl⟩
instance : TSize Tryz.prog 257 1 := ⟨by kernel_rfl⟩
instance : TZero Tryz.prog 257 (.nilFunc) := ⟨by kernel_rfl⟩
instance : TBytes Tryz.prog 257 8 := ⟨by kernel_rfl⟩
instance : TRow Tryz.prog 259 false := ⟨by kernel_rfl⟩
instance : TSize Tryz.prog 259 1 := ⟨by kernel_rfl⟩
instance : TZero Tryz.prog 259 (.nilFunc) := ⟨by kernel_rfl⟩
instance : TBytes Tryz.prog 259 8 := ⟨by kernel_rfl⟩
instance : TRow Tryz.prog 260 false := ⟨by kernel_rfl⟩
instance : TSize Tryz.prog 260 1 := ⟨by kernel_rfl⟩
instance : TZero Tryz.prog 260 (.slice none 0 0) := ⟨by kernel_rfl⟩
instance : TBytes Tryz.prog 260 24 := ⟨by kernel_rfl⟩
instance : TSlice Tryz.prog 260 9 := ⟨by kernel_rfl⟩
instance : TRow Tryz.prog 261 true := ⟨by kernel_rfl⟩
instance : TSize Tryz.prog 261 2 := ⟨by kernel_rfl⟩
instance : TZero Tryz.prog 261 (.agg #[.int .i64 0, .int .i64 0]) := ⟨by kernel_rfl⟩
instance : TBytes Tryz.prog 261 16 := ⟨by kernel_rfl⟩
instance : TField Tryz.prog 261 0 0 := ⟨by kernel_rfl⟩
instance : TPart Tryz.prog 261 0 0 3 := ⟨by kernel_rfl⟩
instance : TField Tryz.prog 261 1 1 := ⟨by kernel_rfl⟩
instance : TPart Tryz.prog 261 1 1 3 := ⟨by kernel_rfl⟩
instance : TPlaces Tryz.prog 261 [(0, 1), (1, 1)] := ⟨by kernel_rfl⟩
instance : TRow Tryz.prog 262 true := ⟨by kernel_rfl⟩
instance : TSize Tryz.prog 262 2 := ⟨by kernel_rfl⟩
instance : TZero Tryz.prog 262 (.agg #[.int .i64 0, .int .i64 0]) := ⟨by kernel_rfl⟩
instance : TBytes Tryz.prog 262 16 := ⟨by kernel_rfl⟩
instance : TField Tryz.prog 262 0 0 := ⟨by kernel_rfl⟩
instance : TPart Tryz.prog 262 0 0 3 := ⟨by kernel_rfl⟩
instance : TField Tryz.prog 262 1 1 := ⟨by kernel_rfl⟩
instance : TPart Tryz.prog 262 1 1 3 := ⟨by kernel_rfl⟩
instance : TPlaces Tryz.prog 262 [(0, 1), (1, 1)] := ⟨by kernel_rfl⟩
instance : TRow Tryz.prog 263 true := ⟨by kernel_rfl⟩
instance : TSize Tryz.prog 263 9 := ⟨by kernel_rfl⟩
instance : TZero Tryz.prog 263 (.agg #[.int .i64 0, .int .i64 0, .int .i64 0, .int .i64 0, .int .i64 0, .int .i64 0, .int .i64 0, .int .i64 0, .int .i64 0]) := ⟨by kernel_rfl⟩
instance : TBytes Tryz.prog 263 72 := ⟨by kernel_rfl⟩
instance : TField Tryz.prog 263 0 0 := ⟨by kernel_rfl⟩
instance : TPart Tryz.prog 263 0 0 3 := ⟨by kernel_rfl⟩
instance : TField Tryz.prog 263 1 1 := ⟨by kernel_rfl⟩
instance : TPart Tryz.prog 263 1 1 3 := ⟨by kernel_rfl⟩
instance : TField Tryz.prog 263 2 2 := ⟨by kernel_rfl⟩
instance : TPart Tryz.prog 263 2 2 3 := ⟨by kernel_rfl⟩
instance : TField Tryz.prog 263 3 3 := ⟨by kernel_rfl⟩
instance : TPart Tryz.prog 263 3 3 3 := ⟨by kernel_rfl⟩
instance : TField Tryz.prog 263 4 4 := ⟨by kernel_rfl⟩
instance : TPart Tryz.prog 263 4 4 80 := ⟨by kernel_rfl⟩
instance : TField Tryz.prog 263 5 6 := ⟨by kernel_rfl⟩
instance : TPart Tryz.prog 263 5 6 80 := ⟨by kernel_rfl⟩
instance : TField Tryz.prog 263 6 8 := ⟨by kernel_rfl⟩
instance : TPart Tryz.prog 263 6 8 3 := ⟨by kernel_rfl⟩
instance : TPlaces Tryz.prog 263 [(0, 1), (1, 1), (2, 1), (3, 1), (4, 2), (6, 2), (8, 1)] := ⟨by kernel_rfl⟩
instance : TRow Tryz.prog 264 true := ⟨by kernel_rfl⟩
instance : TSize Tryz.prog 264 9 := ⟨by kernel_rfl⟩
instance : TZero Tryz.prog 264 (.agg #[.int .i64 0, .int .i64 0, .int .i64 0, .int .i64 0, .int .i64 0, .int .i64 0, .int .i64 0, .int .i64 0, .int .i64 0]) := ⟨by kernel_rfl⟩
instance : TBytes Tryz.prog 264 72 := ⟨by kernel_rfl⟩
instance : TField Tryz.prog 264 0 0 := ⟨by kernel_rfl⟩
instance : TPart Tryz.prog 264 0 0 3 := ⟨by kernel_rfl⟩
instance : TField Tryz.prog 264 1 1 := ⟨by kernel_rfl⟩
instance : TPart Tryz.prog 264 1 1 3 := ⟨by kernel_rfl⟩
instance : TField Tryz.prog 264 2 2 := ⟨by kernel_rfl⟩
instance : TPart Tryz.prog 264 2 2 3 := ⟨by kernel_rfl⟩
instance : TField Tryz.prog 264 3 3 := ⟨by kernel_rfl⟩
instance : TPart Tryz.prog 264 3 3 3 := ⟨by kernel_rfl⟩
instance : TField Tryz.prog 264 4 4 := ⟨by kernel_rfl⟩
instance : TPart Tryz.prog 264 4 4 80 := ⟨by kernel_rfl⟩
instance : TField Tryz.prog 264 5 6 := ⟨by kernel_rfl⟩
instance : TPart Tryz.prog 264 5 6 80 := ⟨by kernel_rfl⟩
instance : TField Tryz.prog 264 6 8 := ⟨by kernel_rfl⟩
instance : TPart Tryz.prog 264 6 8 3 := ⟨by kernel_rfl⟩
instance : TPlaces Tryz.prog 264 [(0, 1), (1, 1), (2, 1), (3, 1), (4, 2), (6, 2), (8, 1)] := ⟨by kernel_rfl⟩
instance : TRow Tryz.prog 265 true := ⟨by kernel_rfl⟩
instance : TSize Tryz.prog 265 6 := ⟨by kernel_rfl⟩
instance : TZero Tryz.prog 265 (.agg #[.int .i64 0, .int .i64 0, .slice none 0 0, .slice none 0 0, .slice none 0 0, .int .i64 0]) := ⟨by kernel_rfl⟩
instance : TBytes Tryz.prog 265 96 := ⟨by kernel_rfl⟩
instance : TField Tryz.prog 265 0 0 := ⟨by kernel_rfl⟩
instance : TPart Tryz.prog 265 0 0 56 := ⟨by kernel_rfl⟩
instance : TField Tryz.prog 265 1 4 := ⟨by kernel_rfl⟩
instance : TPart Tryz.prog 265 1 4 61 := ⟨by kernel_rfl⟩
instance : TField Tryz.prog 265 2 5 := ⟨by kernel_rfl⟩
instance : TPart Tryz.prog 265 2 5 3 := ⟨by kernel_rfl⟩
instance : TPlaces Tryz.prog 265 [(0, 4), (4, 1), (5, 1)] := ⟨by kernel_rfl⟩
instance : TRow Tryz.prog 266 true := ⟨by kernel_rfl⟩
instance : TSize Tryz.prog 266 6 := ⟨by kernel_rfl⟩
instance : TZero Tryz.prog 266 (.agg #[.int .i64 0, .int .i64 0, .slice none 0 0, .slice none 0 0, .slice none 0 0, .int .i64 0]) := ⟨by kernel_rfl⟩
instance : TBytes Tryz.prog 266 96 := ⟨by kernel_rfl⟩
instance : TField Tryz.prog 266 0 0 := ⟨by kernel_rfl⟩
instance : TPart Tryz.prog 266 0 0 56 := ⟨by kernel_rfl⟩
instance : TField Tryz.prog 266 1 4 := ⟨by kernel_rfl⟩
instance : TPart Tryz.prog 266 1 4 61 := ⟨by kernel_rfl⟩
instance : TField Tryz.prog 266 2 5 := ⟨by kernel_rfl⟩
instance : TPart Tryz.prog 266 2 5 3 := ⟨by kernel_rfl⟩
instance : TPlaces Tryz.prog 266 [(0, 4), (4, 1), (5, 1)] := ⟨by kernel_rfl⟩
instance : TRow Tryz.prog 268 false := ⟨by kernel_rfl⟩
instance : TSize Tryz.prog 268 1 := ⟨by kernel_rfl⟩
instance : TZero Tryz.prog 268 (.nilFunc) := ⟨by kernel_rfl⟩
instance : TBytes Tryz.prog 268 8 := ⟨by kernel_rfl⟩
instance : TRow Tryz.prog 269 false := ⟨by kernel_rfl⟩
instance : TSize Tryz.prog 269 1 := ⟨by kernel_rfl⟩
instance : TZero Tryz.prog 269 (.pointer none) := ⟨by kernel_rfl⟩
instance : TBytes Tryz.prog 269 8 := ⟨by kernel_rfl⟩
instance : TRow Tryz.prog 270 false := ⟨by kernel_rfl⟩
instance : TSize Tryz.prog 270 1 := ⟨by kernel_rfl⟩
instance : TZero Tryz.prog 270 (.slice none 0 0) := ⟨by kernel_rfl⟩
instance : TBytes Tryz.prog 270 24 := ⟨by kernel_rfl⟩
instance : TSlice Tryz.prog 270 274 := ⟨by kernel_rfl⟩
instance : TRow Tryz.prog 271 false := ⟨by kernel_rfl⟩
instance : TSize Tryz.prog 271 1 := ⟨by kernel_rfl⟩
instance : TZero Tryz.prog 271 (.nilFunc) := ⟨by kernel_rfl⟩
instance : TBytes Tryz.prog 271 8 := ⟨by kernel_rfl⟩
instance : TRow Tryz.prog 272 false := ⟨by kernel_rfl⟩
instance : TSize Tryz.prog 272 1 := ⟨by kernel_rfl⟩
instance : TZero Tryz.prog 272 (.int .u64 0) := ⟨by kernel_rfl⟩
instance : TBytes Tryz.prog 272 8 := ⟨by kernel_rfl⟩
instance : TRow Tryz.prog 273 true := ⟨by kernel_rfl⟩
instance : TSize Tryz.prog 273 5 := ⟨by kernel_rfl⟩
instance : TZero Tryz.prog 273 (.agg #[.int .u64 0, .int .u64 0, .int .u64 0, .int .u64 0, .int .u64 0]) := ⟨by kernel_rfl⟩
instance : TBytes Tryz.prog 273 40 := ⟨by kernel_rfl⟩
instance : TRow Tryz.prog 274 true := ⟨by kernel_rfl⟩
instance : TSize Tryz.prog 274 5 := ⟨by kernel_rfl⟩
instance : TZero Tryz.prog 274 (.agg #[.int .u64 0, .int .u64 0, .int .u64 0, .int .u64 0, .int .u64 0]) := ⟨by kernel_rfl⟩
instance : TBytes Tryz.prog 274 40 := ⟨by kernel_rfl⟩
instance : TRow Tryz.prog 275 false := ⟨by kernel_rfl⟩
instance : TSize Tryz.prog 275 1 := ⟨by kernel_rfl⟩
instance : TZero Tryz.prog 275 (.nilFunc) := ⟨by kernel_rfl⟩
instance : TBytes Tryz.prog 275 8 := ⟨by kernel_rfl⟩
instance : TRow Tryz.prog 276 false := ⟨by kernel_rfl⟩
instance : TSize Tryz.prog 276 1 := ⟨by kernel_rfl⟩
instance : TZero Tryz.prog 276 (.nilFunc) := ⟨by kernel_rfl⟩
instance : TBytes Tryz.prog 276 8 := ⟨by kernel_rfl⟩
instance : TRow Tryz.prog 277 false := ⟨by kernel_rfl⟩
instance : TSize Tryz.prog 277 1 := ⟨by kernel_rfl⟩
instance : TZero Tryz.prog 277 (.nilFunc) := ⟨by kernel_rfl⟩
instance : TBytes Tryz.prog 277 8 := ⟨by kernel_rfl⟩
instance : TRow Tryz.prog 278 false := ⟨by kernel_rfl⟩
instance : TSize Tryz.prog 278 1 := ⟨by kernel_rfl⟩
instance : TZero Tryz.prog 278 (.nilFunc) := ⟨by kernel_rfl⟩
instance : TBytes Tryz.prog 278 8 := ⟨by kernel_rfl⟩
instance : TRow Tryz.prog 279 false := ⟨by kernel_rfl⟩
instance : TSize Tryz.prog 279 1 := ⟨by kernel_rfl⟩
instance : TZero Tryz.prog 279 (.nilFunc) := ⟨by kernel_rfl⟩
instance : TBytes Tryz.prog 279 8 := ⟨by kernel_rfl⟩
instance : TRow Tryz.prog 280 false := ⟨by kernel_rfl⟩
instance : TSize Tryz.prog 280 1 := ⟨by kernel_rfl⟩
instance : TZero Tryz.prog 280 (.nilFunc) := ⟨by kernel_rfl⟩
instance : TBytes Tryz.prog 280 8 := ⟨by kernel_rfl⟩
instance : TRow Tryz.prog 281 false := ⟨by kernel_rfl⟩
instance : TSize Tryz.prog 281 1 := ⟨by kernel_rfl⟩
instance : TZero Tryz.prog 281 (.nilFunc) := ⟨by kernel_rfl⟩
instance : TBytes Tryz.prog 281 8 := ⟨by kernel_rfl⟩
instance : TRow Tryz.prog 282 false := ⟨by kernel_rfl⟩
instance : TSize Tryz.prog 282 1 := ⟨by kernel_rfl⟩
instance : TZero Tryz.prog 282 (.nilFunc) := ⟨by kernel_rfl⟩
instance : TBytes Tryz.prog 282 8 := ⟨by kernel_rfl⟩
instance : TRow Tryz.prog 283 false := ⟨by kernel_rfl⟩
instance : TSize Tryz.prog 283 1 := ⟨by kernel_rfl⟩
instance : TZero Tryz.prog 283 (.nilFunc) := ⟨by kernel_rfl⟩
instance : TBytes Tryz.prog 283 8 := ⟨by kernel_rfl⟩
instance : TRow Tryz.prog 284 false := ⟨by kernel_rfl⟩
instance : TSize Tryz.prog 284 1 := ⟨by kernel_rfl⟩
instance : TZero Tryz.prog 284 (.nilFunc) := ⟨by kernel_rfl⟩
instance : TBytes Tryz.prog 284 8 := ⟨by kernel_rfl⟩
instance : TRow Tryz.prog 285 false := ⟨by kernel_rfl⟩
instance : TSize Tryz.prog 285 1 := ⟨by kernel_rfl⟩
instance : TZero Tryz.prog 285 (.nilFunc) := ⟨by kernel_rfl⟩
instance : TBytes Tryz.prog 285 8 := ⟨by kernel_rfl⟩
instance : TRow Tryz.prog 286 false := ⟨by kernel_rfl⟩
instance : TSize Tryz.prog 286 1 := ⟨by kernel_rfl⟩
instance : TZero Tryz.prog 286 (.nilFunc) := ⟨by kernel_rfl⟩
instance : TBytes Tryz.prog 286 8 := ⟨by kernel_rfl⟩
instance : TRow Tryz.prog 288 false := ⟨by kernel_rfl⟩
instance : TSize Tryz.prog 288 1 := ⟨by kernel_rfl⟩
instance : TZero Tryz.prog 288 (.nilFunc) := ⟨by kernel_rfl⟩
instance : TBytes Tryz.prog 288 8 := ⟨by kernel_rfl⟩
instance : TRow Tryz.prog 289 false := ⟨by kernel_rfl⟩
instance : TSize Tryz.prog 289 1 := ⟨by kernel_rfl⟩
instance : TZero Tryz.prog 289 (.nilFunc) := ⟨by kernel_rfl⟩
instance : TBytes Tryz.prog 289 8 := ⟨by kernel_rfl⟩
instance : TRow Tryz.prog 290 true := ⟨by kernel_rfl⟩
instance : TSize Tryz.prog 290 5 := ⟨by kernel_rfl⟩
instance : TZero Tryz.prog 290 (.agg #[.nilFunc, .nilFunc, .nilFunc, .nilFunc, .nilFunc]) := ⟨by kernel_rfl⟩
instance : TBytes Tryz.prog 290 40 := ⟨by kernel_rfl⟩
instance : TRow Tryz.prog 291 false := ⟨by kernel_rfl⟩
instance : TSize Tryz.prog 291 1 := ⟨by kernel_rfl⟩
instance : TZero Tryz.prog 291 (.nilFunc) := ⟨by kernel_rfl⟩
instance : TBytes Tryz.prog 291 8 := ⟨by kernel_rfl⟩
instance : TRow Tryz.prog 293 false := ⟨by kernel_rfl⟩
instance : TSize Tryz.prog 293 1 := ⟨by kernel_rfl⟩
instance : TZero Tryz.prog 293 (.nilFunc) := ⟨by kernel_rfl⟩
instance : TBytes Tryz.prog 293 8 := ⟨by kernel_rfl⟩
instance : TRow Tryz.prog 294 false := ⟨by kernel_rfl⟩
instance : TSize Tryz.prog 294 1 := ⟨by kernel_rfl⟩
instance : TZero Tryz.prog 294 (.nilFunc) := ⟨by kernel_rfl⟩
instance : TBytes Tryz.prog 294 8 := ⟨by kernel_rfl⟩
instance : TRow Tryz.prog 295 false := ⟨by kernel_rfl⟩
instance : TSize Tryz.prog 295 1 := ⟨by kernel_rfl⟩
instance : TZero Tryz.prog 295 (.nilFunc) := ⟨by kernel_rfl⟩
instance : TBytes Tryz.prog 295 8 := ⟨by kernel_rfl⟩
instance : TRow Tryz.prog 296 false := ⟨by kernel_rfl⟩
instance : TSize Tryz.prog 296 1 := ⟨by kernel_rfl⟩
instance : TZero Tryz.prog 296 (.nilFunc) := ⟨by kernel_rfl⟩
instance : TBytes Tryz.prog 296 8 := ⟨by kernel_rfl⟩
instance : TRow Tryz.prog 297 false := ⟨by kernel_rfl⟩
instance : TSize Tryz.prog 297 1 := ⟨by kernel_rfl⟩
instance : TZero Tryz.prog 297 (.nilFunc) := ⟨by kernel_rfl⟩
instance : TBytes Tryz.prog 297 8 := ⟨by kernel_rfl⟩
instance : TRow Tryz.prog 298 false := ⟨by kernel_rfl⟩
instance : TSize Tryz.prog 298 1 := ⟨by kernel_rfl⟩
instance : TZero Tryz.prog 298 (.nilFunc) := ⟨by kernel_rfl⟩
instance : TBytes Tryz.prog 298 8 := ⟨by kernel_rfl⟩
instance : TRow Tryz.prog 299 false := ⟨by kernel_rfl⟩
instance : TSize Tryz.prog 299 1 := ⟨by kernel_rfl⟩
instance : TZero Tryz.prog 299 (.nilFunc) := ⟨by kernel_rfl⟩
instance : TBytes Tryz.prog 299 8 := ⟨by kernel_rfl⟩
instance : TRow Tryz.prog 300 false := ⟨by kernel_rfl⟩
instance : TSize Tryz.prog 300 1 := ⟨by kernel_rfl⟩
instance : TZero Tryz.prog 300 (.nilFunc) := ⟨by kernel_rfl⟩
instance : TBytes Tryz.prog 300 8 := ⟨by kernel_rfl⟩
instance : TRow Tryz.prog 301 false := ⟨by kernel_rfl⟩
instance : TSize Tryz.prog 301 1 := ⟨by kernel_rfl⟩
instance : TZero Tryz.prog 301 (.nilFunc) := ⟨by kernel_rfl⟩
instance : TBytes Tryz.prog 301 8 := ⟨by kernel_rfl⟩
instance : TRow Tryz.prog 302 false := ⟨by kernel_rfl⟩
instance : TSize Tryz.prog 302 1 := ⟨by kernel_rfl⟩
instance : TZero Tryz.prog 302 (.nilFunc) := ⟨by kernel_rfl⟩
instance : TBytes Tryz.prog 302 8 := ⟨by kernel_rfl⟩
instance : TRow Tryz.prog 303 false := ⟨by kernel_rfl⟩
instance : TSize Tryz.prog 303 1 := ⟨by kernel_rfl⟩
instance : TZero Tryz.prog 303 (.nilFunc) := ⟨by kernel_rfl⟩
instance : TBytes Tryz.prog 303 8 := ⟨by kernel_rfl⟩
instance : TRow Tryz.prog 304 false := ⟨by kernel_rfl⟩
instance : TSize Tryz.prog 304 1 := ⟨by kernel_rfl⟩
instance : TZero Tryz.prog 304 (.nilFunc) := ⟨by kernel_rfl⟩
instance : TBytes Tryz.prog 304 8 := ⟨by kernel_rfl⟩
instance : TRow Tryz.prog 305 false := ⟨by kernel_rfl⟩
instance : TSize Tryz.prog 305 1 := ⟨by kernel_rfl⟩
instance : TZero Tryz.prog 305 (.nilFunc) := ⟨by kernel_rfl⟩
instance : TBytes Tryz.prog 305 8 := ⟨by kernel_rfl⟩
instance : TRow Tryz.prog 306 false := ⟨by kernel_rfl⟩
instance : TSize Tryz.prog 306 1 := ⟨by kernel_rfl⟩
instance : TZero Tryz.prog 306 (.map none) := ⟨by kernel_rfl⟩
instance : TBytes Tryz.prog 306 8 := ⟨by kernel_rfl⟩
instance : TRow Tryz.prog 307 false := ⟨by kernel_rfl⟩
instance : TSize Tryz.prog 307 1 := ⟨by kernel_rfl⟩
instance : TZero Tryz.prog 307 (.nilFunc) := ⟨by kernel_rfl⟩
instance : TBytes Tryz.prog 307 8 := ⟨by kernel_rfl⟩
instance : TRow Tryz.prog 308 false := ⟨by kernel_rfl⟩
instance : TSize Tryz.prog 308 1 := ⟨by kernel_rfl⟩
instance : TZero Tryz.prog 308 (.nilFunc) := ⟨by kernel_rfl⟩
instance : TBytes Tryz.prog 308 8 := ⟨by kernel_rfl⟩
instance : TRow Tryz.prog 309 false := ⟨by kernel_rfl⟩
instance : TSize Tryz.prog 309 1 := ⟨by kernel_rfl⟩
instance : TZero Tryz.prog 309 (.nilFunc) := ⟨by kernel_rfl⟩
instance : TBytes Tryz.prog 309 8 := ⟨by kernel_rfl⟩
instance : TRow Tryz.prog 310 false := ⟨by kernel_rfl⟩
instance : TSize Tryz.prog 310 1 := ⟨by kernel_rfl⟩
instance : TZero Tryz.prog 310 (.nilFunc) := ⟨by kernel_rfl⟩
instance : TBytes Tryz.prog 310 8 := ⟨by kernel_rfl⟩
instance : TRow Tryz.prog 311 false := ⟨by kernel_rfl⟩
instance : TSize Tryz.prog 311 1 := ⟨by kernel_rfl⟩
instance : TZero Tryz.prog 311 (.nilFunc) := ⟨by kernel_rfl⟩
instance : TBytes Tryz.prog 311 8 := ⟨by kernel_rfl⟩
instance : TRow Tryz.prog 312 false := ⟨by kernel_rfl⟩
instance : TSize Tryz.prog 312 1 := ⟨by kernel_rfl⟩
instance : TZero Tryz.prog 312 (.nilFunc) := ⟨by kernel_rfl⟩
instance : TBytes Tryz.prog 312 8 := ⟨by kernel_rfl⟩
instance : TRow Tryz.prog 313 false := ⟨by kernel_rfl⟩
instance : TSize Tryz.prog 313 1 := ⟨by kernel_rfl⟩
instance : TZero Tryz.prog 313 (.nilFunc) := ⟨by kernel_rfl⟩
instance : TBytes Tryz.prog 313 8 := ⟨by kernel_rfl⟩
instance : TRow Tryz.prog 314 false := ⟨by kernel_rfl⟩
instance : TSize Tryz.prog 314 1 := ⟨by kernel_rfl⟩
instance : TZero Tryz.prog 314 (.nilFunc) := ⟨by kernel_rfl⟩
instance : TBytes Tryz.prog 314 8 := ⟨by kernel_rfl⟩
instance : TRow Tryz.prog 315 false := ⟨by kernel_rfl⟩
instance : TSize Tryz.prog 315 1 := ⟨by kernel_rfl⟩
instance : TZero Tryz.prog 315 (.nilFunc) := ⟨by kernel_rfl⟩
instance : TBytes Tryz.prog 315 8 := ⟨by kernel_rfl⟩
instance : TRow Tryz.prog 316 false := ⟨by kernel_rfl⟩
instance : TSize Tryz.prog 316 1 := ⟨by kernel_rfl⟩
instance : TZero Tryz.prog 316 (.int .u64 0) := ⟨by kernel_rfl⟩
instance : TBytes Tryz.prog 316 8 := ⟨by kernel_rfl⟩
instance : TRow Tryz.prog 317 false := ⟨by kernel_rfl⟩
instance : TSize Tryz.prog 317 1 := ⟨by kernel_rfl⟩
instance : TZero Tryz.prog 317 (.nilFunc) := ⟨by kernel_rfl⟩
instance : TBytes Tryz.prog 317 8 := ⟨by kernel_rfl⟩
instance : TRow Tryz.prog 318 false := ⟨by kernel_rfl⟩
instance : TSize Tryz.prog 318 1 := ⟨by kernel_rfl⟩
instance : TZero Tryz.prog 318 (.map none) := ⟨by kernel_rfl⟩
instance : TBytes Tryz.prog 318 8 := ⟨by kernel_rfl⟩
instance : TMap Tryz.prog 318 320 := ⟨by kernel_rfl⟩
instance : TRow Tryz.prog 319 true := ⟨by kernel_rfl⟩
instance : TSize Tryz.prog 319 2 := ⟨by kernel_rfl⟩
instance : TZero Tryz.prog 319 (.agg #[.int .i64 0, .int .i64 0]) := ⟨by kernel_rfl⟩
instance : TBytes Tryz.prog 319 16 := ⟨by kernel_rfl⟩
instance : TField Tryz.prog 319 0 0 := ⟨by kernel_rfl⟩
instance : TPart Tryz.prog 319 0 0 3 := ⟨by kernel_rfl⟩
instance : TField Tryz.prog 319 1 1 := ⟨by kernel_rfl⟩
instance : TPart Tryz.prog 319 1 1 3 := ⟨by kernel_rfl⟩
instance : TPlaces Tryz.prog 319 [(0, 1), (1, 1)] := ⟨by kernel_rfl⟩
instance : TRow Tryz.prog 320 true := ⟨by kernel_rfl⟩
instance : TSize Tryz.prog 320 2 := ⟨by kernel_rfl⟩
instance : TZero Tryz.prog 320 (.agg #[.int .i64 0, .int .i64 0]) := ⟨by kernel_rfl⟩
instance : TBytes Tryz.prog 320 16 := ⟨by kernel_rfl⟩
instance : TField Tryz.prog 320 0 0 := ⟨by kernel_rfl⟩
instance : TPart Tryz.prog 320 0 0 3 := ⟨by kernel_rfl⟩
instance : TField Tryz.prog 320 1 1 := ⟨by kernel_rfl⟩
instance : TPart Tryz.prog 320 1 1 3 := ⟨by kernel_rfl⟩
instance : TPlaces Tryz.prog 320 [(0, 1), (1, 1)] := ⟨by kernel_rfl⟩
instance : TRow Tryz.prog 321 false := ⟨by kernel_rfl⟩
instance : TSize Tryz.prog 321 1 := ⟨by kernel_rfl⟩
instance : TZero Tryz.prog 321 (.nilFunc) := ⟨by kernel_rfl⟩
instance : TBytes Tryz.prog 321 8 := ⟨by kernel_rfl⟩
instance : TRow Tryz.prog 322 false := ⟨by kernel_rfl⟩
instance : TSize Tryz.prog 322 1 := ⟨by kernel_rfl⟩
instance : TZero Tryz.prog 322 (.nilFunc) := ⟨by kernel_rfl⟩
instance : TBytes Tryz.prog 322 8 := ⟨by kernel_rfl⟩
instance : TRow Tryz.prog 323 false := ⟨by kernel_rfl⟩
instance : TSize Tryz.prog 323 1 := ⟨by kernel_rfl⟩
instance : TZero Tryz.prog 323 (.nilFunc) := ⟨by kernel_rfl⟩
instance : TBytes Tryz.prog 323 8 := ⟨by kernel_rfl⟩
instance : TRow Tryz.prog 324 false := ⟨by kernel_rfl⟩
instance : TSize Tryz.prog 324 1 := ⟨by kernel_rfl⟩
instance : TZero Tryz.prog 324 (.nilFunc) := ⟨by kernel_rfl⟩
instance : TBytes Tryz.prog 324 8 := ⟨by kernel_rfl⟩
instance : TRow Tryz.prog 325 false := ⟨by kernel_rfl⟩
instance : TSize Tryz.prog 325 1 := ⟨by kernel_rfl⟩
instance : TZero Tryz.prog 325 (.nilFunc) := ⟨by kernel_rfl⟩
instance : TBytes Tryz.prog 325 8 := ⟨by kernel_rfl⟩
instance : TRow Tryz.prog 326 false := ⟨by kernel_rfl⟩
instance : TSize Tryz.prog 326 1 := ⟨by kernel_rfl⟩
instance : TZero Tryz.prog 326 (.nilFunc) := ⟨by kernel_rfl⟩
instance : TBytes Tryz.prog 326 8 := ⟨by kernel_rfl⟩
instance : TRow Tryz.prog 327 false := ⟨by kernel_rfl⟩
instance : TSize Tryz.prog 327 1 := ⟨by kernel_rfl⟩
instance : TZero Tryz.prog 327 (.nilFunc) := ⟨by kernel_rfl⟩
instance : TBytes Tryz.prog 327 8 := ⟨by kernel_rfl⟩
instance : TRow Tryz.prog 328 false := ⟨by kernel_rfl⟩
instance : TSize Tryz.prog 328 1 := ⟨by kernel_rfl⟩
instance : TZero Tryz.prog 328 (.nilFunc) := ⟨by kernel_rfl⟩
instance : TBytes Tryz.prog 328 8 := ⟨by kernel_rfl⟩
instance : TRow Tryz.prog 330 false := ⟨by kernel_rfl⟩
instance : TSize Tryz.prog 330 1 := ⟨by kernel_rfl⟩
instance : TZero Tryz.prog 330 (.nilFunc) := ⟨by kernel_rfl⟩
instance : TBytes Tryz.prog 330 8 := ⟨by kernel_rfl⟩
instance : TRow Tryz.prog 331 false := ⟨by kernel_rfl⟩
instance : TSize Tryz.prog 331 1 := ⟨by kernel_rfl⟩
instance : TZero Tryz.prog 331 (.nilFunc) := ⟨by kernel_rfl⟩
instance : TBytes Tryz.prog 331 8 := ⟨by kernel_rfl⟩
instance : TRow Tryz.prog 332 false := ⟨by kernel_rfl⟩
instance : TSize Tryz.prog 332 1 := ⟨by kernel_rfl⟩
instance : TZero Tryz.prog 332 (.nilFunc) := ⟨by kernel_rfl⟩
instance : TBytes Tryz.prog 332 8 := ⟨by kernel_rfl⟩
instance : TRow Tryz.prog 333 false := ⟨by kernel_rfl⟩
instance : TSize Tryz.prog 333 1 := ⟨by kernel_rfl⟩
instance : TZero Tryz.prog 333 (.nilFunc) := ⟨by kernel_rfl⟩
instance : TBytes Tryz.prog 333 8 := ⟨by kernel_rfl⟩
instance : TRow Tryz.prog 334 false := ⟨by kernel_rfl⟩
instance : TSize Tryz.prog 334 1 := ⟨by kernel_rfl⟩
instance : TZero Tryz.prog 334 (.nilFunc) := ⟨by kernel_rfl⟩
instance : TBytes Tryz.prog 334 8 := ⟨by kernel_rfl⟩
instance : TRow Tryz.prog 335 false := ⟨by kernel_rfl⟩
instance : TSize Tryz.prog 335 1 := ⟨by kernel_rfl⟩
instance : TZero Tryz.prog 335 (.nilFunc) := ⟨by kernel_rfl⟩
instance : TBytes Tryz.prog 335 8 := ⟨by kernel_rfl⟩
instance : TRow Tryz.prog 336 false := ⟨by kernel_rfl⟩
instance : TSize Tryz.prog 336 1 := ⟨by kernel_rfl⟩
instance : TZero Tryz.prog 336 (.nilFunc) := ⟨by kernel_rfl⟩
instance : TBytes Tryz.prog 336 8 := ⟨by kernel_rfl⟩
instance : TRow Tryz.prog 338 false := ⟨by kernel_rfl⟩
instance : TSize Tryz.prog 338 1 := ⟨by kernel_rfl⟩
instance : TZero Tryz.prog 338 (.nilFunc) := ⟨by kernel_rfl⟩
instance : TBytes Tryz.prog 338 8 := ⟨by kernel_rfl⟩
instance : TRow Tryz.prog 339 false := ⟨by kernel_rfl⟩
instance : TSize Tryz.prog 339 1 := ⟨by kernel_rfl⟩
instance : TZero Tryz.prog 339 (.nilFunc) := ⟨by kernel_rfl⟩
instance : TBytes Tryz.prog 339 8 := ⟨by kernel_rfl⟩
instance : TRow Tryz.prog 340 false := ⟨by kernel_rfl⟩
instance : TSize Tryz.prog 340 1 := ⟨by kernel_rfl⟩
instance : TZero Tryz.prog 340 (.nilFunc) := ⟨by kernel_rfl⟩
instance : TBytes Tryz.prog 340 8 := ⟨by kernel_rfl⟩
instance : TRow Tryz.prog 341 false := ⟨by kernel_rfl⟩
instance : TSize Tryz.prog 341 1 := ⟨by kernel_rfl⟩
instance : TZero Tryz.prog 341 (.nilFunc) := ⟨by kernel_rfl⟩
instance : TBytes Tryz.prog 341 8 := ⟨by kernel_rfl⟩
instance : TRow Tryz.prog 342 true := ⟨by kernel_rfl⟩
instance : TSize Tryz.prog 342 0 := ⟨by kernel_rfl⟩
instance : TZero Tryz.prog 342 (.agg #[]) := ⟨by kernel_rfl⟩
instance : TBytes Tryz.prog 342 0 := ⟨by kernel_rfl⟩
instance : TPlaces Tryz.prog 342 [] := ⟨by kernel_rfl⟩
instance : TRow Tryz.prog 343 true := ⟨by kernel_rfl⟩
instance : TSize Tryz.prog 343 0 := ⟨by kernel_rfl⟩
instance : TZero Tryz.prog 343 (.agg #[]) := ⟨by kernel_rfl⟩
instance : TBytes Tryz.prog 343 0 := ⟨by kernel_rfl⟩
instance : TPlaces Tryz.prog 343 [] := ⟨by kernel_rfl⟩
instance : TRow Tryz.prog 345 false := ⟨by kernel_rfl⟩
instance : TSize Tryz.prog 345 1 := ⟨by kernel_rfl⟩
instance : TZero Tryz.prog 345 (.nilFunc) := ⟨by kernel_rfl⟩
instance : TBytes Tryz.prog 345 8 := ⟨by kernel_rfl⟩
instance : TRow Tryz.prog 346 false := ⟨by kernel_rfl⟩
instance : TSize Tryz.prog 346 1 := ⟨by kernel_rfl⟩
instance : TZero Tryz.prog 346 (.nilFunc) := ⟨by kernel_rfl⟩
instance : TBytes Tryz.prog 346 8 := ⟨by kernel_rfl⟩
instance : TRow Tryz.prog 347 false := ⟨by kernel_rfl⟩
instance : TSize Tryz.prog 347 1 := ⟨by kernel_rfl⟩
instance : TZero Tryz.prog 347 (.pointer none) := ⟨by kernel_rfl⟩
instance : TBytes Tryz.prog 347 8 := ⟨by kernel_rfl⟩
instance : TRow Tryz.prog 348 false := ⟨by kernel_rfl⟩
instance : TSize Tryz.prog 348 1 := ⟨by kernel_rfl⟩
instance : TZero Tryz.prog 348 (.nilFunc) := ⟨by kernel_rfl⟩
instance : TBytes Tryz.prog 348 8 := ⟨by kernel_rfl⟩
instance : TRow Tryz.prog 350 false := ⟨by kernel_rfl⟩
instance : TSize Tryz.prog 350 1 := ⟨by kernel_rfl⟩
instance : TZero Tryz.prog 350 (.nilFunc) := ⟨by kernel_rfl⟩
instance : TBytes Tryz.prog 350 8 := ⟨by kernel_rfl⟩
instance : TRow Tryz.prog 351 false := ⟨by kernel_rfl⟩
instance : TSize Tryz.prog 351 1 := ⟨by kernel_rfl⟩
instance : TZero Tryz.prog 351 (.nilFunc) := ⟨by kernel_rfl⟩
instance : TBytes Tryz.prog 351 8 := ⟨by kernel_rfl⟩
instance : TRow Tryz.prog 352 false := ⟨by kernel_rfl⟩
instance : TSize Tryz.prog 352 1 := ⟨by kernel_rfl⟩
instance : TZero Tryz.prog 352 (.nilFunc) := ⟨by kernel_rfl⟩
instance : TBytes Tryz.prog 352 8 := ⟨by kernel_rfl⟩
instance : TRow Tryz.prog 353 false := ⟨by kernel_rfl⟩
instance : TSize Tryz.prog 353 1 := ⟨by kernel_rfl⟩
instance : TZero Tryz.prog 353 (.nilFunc) := ⟨by kernel_rfl⟩
instance : TBytes Tryz.prog 353 8 := ⟨by kernel_rfl⟩
instance : TRow Tryz.prog 354 false := ⟨by kernel_rfl⟩
instance : TSize Tryz.prog 354 1 := ⟨by kernel_rfl⟩
instance : TZero Tryz.prog 354 (.nilFunc) := ⟨by kernel_rfl⟩
instance : TBytes Tryz.prog 354 8 := ⟨by kernel_rfl⟩
instance : TRow Tryz.prog 355 false := ⟨by kernel_rfl⟩
instance : TSize Tryz.prog 355 1 := ⟨by kernel_rfl⟩
instance : TZero Tryz.prog 355 (.nilFunc) := ⟨by kernel_rfl⟩
instance : TBytes Tryz.prog 355 8 := ⟨by kernel_rfl⟩
instance : TRow Tryz.prog 356 false := ⟨by kernel_rfl⟩
instance : TSize Tryz.prog 356 1 := ⟨by kernel_rfl⟩
instance : TZero Tryz.prog 356 (.nilFunc) := ⟨by kernel_rfl⟩
instance : TBytes Tryz.prog 356 8 := ⟨by kernel_rfl⟩
instance : TRow Tryz.prog 357 false := ⟨by kernel_rfl⟩
instance : TSize Tryz.prog 357 1 := ⟨by kernel_rfl⟩
instance : TZero Tryz.prog 357 (.int .i64 0) := ⟨by kernel_rfl⟩
instance : TBytes Tryz.prog 357 8 := ⟨by kernel_rfl⟩
instance : TRow Tryz.prog 359 false := ⟨by kernel_rfl⟩
instance : TSize Tryz.prog 359 1 := ⟨by kernel_rfl⟩
instance : TZero Tryz.prog 359 (.nilFunc) := ⟨by kernel_rfl⟩
instance : TBytes Tryz.prog 359 8 := ⟨by kernel_rfl⟩
instance : TRow Tryz.prog 360 false := ⟨by kernel_rfl⟩
instance : TSize Tryz.prog 360 1 := ⟨by kernel_rfl⟩
instance : TZero Tryz.prog 360 (.nilFunc) := ⟨by kernel_rfl⟩
instance : TBytes Tryz.prog 360 8 := ⟨by kernel_rfl⟩
instance : TRow Tryz.prog 361 false := ⟨by kernel_rfl⟩
instance : TSize Tryz.prog 361 1 := ⟨by kernel_rfl⟩
instance : TZero Tryz.prog 361 (.nilFunc) := ⟨by kernel_rfl⟩
instance : TBytes Tryz.prog 361 8 := ⟨by kernel_rfl⟩
instance : TRow Tryz.prog 362 false := ⟨by kernel_rfl⟩
instance : TSize Tryz.prog 362 1 := ⟨by kernel_rfl⟩
instance : TZero Tryz.prog 362 (.nilFunc) := ⟨by kernel_rfl⟩
instance : TBytes Tryz.prog 362 8 := ⟨by kernel_rfl⟩
instance : TRow Tryz.prog 363 false := ⟨by kernel_rfl⟩
instance : TSize Tryz.prog 363 1 := ⟨by kernel_rfl⟩
instance : TZero Tryz.prog 363 (.nilFunc) := ⟨by kernel_rfl⟩
instance : TBytes Tryz.prog 363 8 := ⟨by kernel_rfl⟩
instance : TRow Tryz.prog 364 false := ⟨by kernel_rfl⟩
instance : TSize Tryz.prog 364 1 := ⟨by kernel_rfl⟩
instance : TZero Tryz.prog 364 (.int .u32 0) := ⟨by kernel_rfl⟩
instance : TBytes Tryz.prog 364 4 := ⟨by kernel_rfl⟩
instance : TRow Tryz.prog 365 false := ⟨by kernel_rfl⟩
instance : TSize Tryz.prog 365 1 := ⟨by kernel_rfl⟩
instance : TZero Tryz.prog 365 (.nilFunc) := ⟨by kernel_rfl⟩
instance : TBytes Tryz.prog 365 8 := ⟨by kernel_rfl⟩
instance : TRow Tryz.prog 366 false := ⟨by kernel_rfl⟩
instance : TSize Tryz.prog 366 1 := ⟨by kernel_rfl⟩
instance : TZero Tryz.prog 366 (.nilFunc) := ⟨by kernel_rfl⟩
instance : TBytes Tryz.prog 366 8 := ⟨by kernel_rfl⟩
instance : TRow Tryz.prog 367 false := ⟨by kernel_rfl⟩
instance : TSize Tryz.prog 367 1 := ⟨by kernel_rfl⟩
instance : TZero Tryz.prog 367 (.nilFunc) := ⟨by kernel_rfl⟩
instance : TBytes Tryz.prog 367 8 := ⟨by kernel_rfl⟩
instance : TRow Tryz.prog 368 false := ⟨by kernel_rfl⟩
instance : TSize Tryz.prog 368 1 := ⟨by kernel_rfl⟩
instance : TZero Tryz.prog 368 (.nilFunc) := ⟨by kernel_rfl⟩
instance : TBytes Tryz.prog 368 8 := ⟨by kernel_rfl⟩
instance : TRow Tryz.prog 369 false := ⟨by kernel_rfl⟩
instance : TSize Tryz.prog 369 1 := ⟨by kernel_rfl⟩
instance : TZero Tryz.prog 369 (.nilFunc) := ⟨by kernel_rfl⟩
instance : TBytes Tryz.prog 369 8 := ⟨by kernel_rfl⟩
instance : TRow Tryz.prog 370 false := ⟨by kernel_rfl⟩
instance : TSize Tryz.prog 370 1 := ⟨by kernel_rfl⟩
instance : TZero Tryz.prog 370 (.nilFunc) := ⟨by kernel_rfl⟩
instance : TBytes Tryz.prog 370 8 := ⟨by kernel_rfl⟩
instance : TRow Tryz.prog 371 false := ⟨by kernel_rfl⟩
instance : TSize Tryz.prog 371 1 := ⟨by kernel_rfl⟩
instance : TZero Tryz.prog 371 (.nilFunc) := ⟨by kernel_rfl⟩
instance : TBytes Tryz.prog 371 8 := ⟨by kernel_rfl⟩
instance : TRow Tryz.prog 372 false := ⟨by kernel_rfl⟩
instance : TSize Tryz.prog 372 1 := ⟨by kernel_rfl⟩
instance : TZero Tryz.prog 372 (.nilFunc) := ⟨by kernel_rfl⟩
instance : TBytes Tryz.prog 372 8 := ⟨by kernel_rfl⟩
instance : TRow Tryz.prog 373 false := ⟨by kernel_rfl⟩
instance : TSize Tryz.prog 373 1 := ⟨by kernel_rfl⟩
instance : TZero Tryz.prog 373 (.nilFunc) := ⟨by kernel_rfl⟩
instance : TBytes Tryz.prog 373 8 := ⟨by kernel_rfl⟩
instance : TRow Tryz.prog 374 false := ⟨by kernel_rfl⟩
instance : TSize Tryz.prog 374 1 := ⟨by kernel_rfl⟩
instance : TZero Tryz.prog 374 (.nilFunc) := ⟨by kernel_rfl⟩
instance : TBytes Tryz.prog 374 8 := ⟨by kernel_rfl⟩
instance : TRow Tryz.prog 375 false := ⟨by kernel_rfl⟩
instance : TSize Tryz.prog 375 1 := ⟨by kernel_rfl⟩
instance : TZero Tryz.prog 375 (.nilFunc) := ⟨by kernel_rfl⟩
instance : TBytes Tryz.prog 375 8 := ⟨by kernel_rfl⟩
instance : TRow Tryz.prog 376 false := ⟨by kernel_rfl⟩
instance : TSize Tryz.prog 376 1 := ⟨by kernel_rfl⟩
instance : TZero Tryz.prog 376 (.nilFunc) := ⟨by kernel_rfl⟩
instance : TBytes Tryz.prog 376 8 := ⟨by kernel_rfl⟩
instance : TRow Tryz.prog 377 false := ⟨by kernel_rfl⟩
instance : TSize Tryz.prog 377 1 := ⟨by kernel_rfl⟩
instance : TZero Tryz.prog 377 (.nilFunc) := ⟨by kernel_rfl⟩
instance : TBytes Tryz.prog 377 8 := ⟨by kernel_rfl⟩
instance : TRow Tryz.prog 378 false := ⟨by kernel_rfl⟩
instance : TSize Tryz.prog 378 1 := ⟨by kernel_rfl⟩
instance : TZero Tryz.prog 378 (.nilFunc) := ⟨by kernel_rfl⟩
instance : TBytes Tryz.prog 378 8 := ⟨by kernel_rfl⟩
instance : TRow Tryz.prog 379 false := ⟨by kernel_rfl⟩
instance : TSize Tryz.prog 379 1 := ⟨by kernel_rfl⟩
instance : TZero Tryz.prog 379 (.slice none 0 0) := ⟨by kernel_rfl⟩
instance : TBytes Tryz.prog 379 24 := ⟨by kernel_rfl⟩
instance : TSlice Tryz.prog 379 5 := ⟨by kernel_rfl⟩
instance : TRow Tryz.prog 380 false := ⟨by kernel_rfl⟩
instance : TSize Tryz.prog 380 1 := ⟨by kernel_rfl⟩
instance : TZero Tryz.prog 380 (.nilFunc) := ⟨by kernel_rfl⟩
instance : TBytes Tryz.prog 380 8 := ⟨by kernel_rfl⟩
instance : TRow Tryz.prog 381 false := ⟨by kernel_rfl⟩
instance : TSize Tryz.prog 381 1 := ⟨by kernel_rfl⟩
instance : TZero Tryz.prog 381 (.nilFunc) := ⟨by kernel_rfl⟩
instance : TBytes Tryz.prog 381 8 := ⟨by kernel_rfl⟩
instance : TRow Tryz.prog 382 false := ⟨by kernel_rfl⟩
instance : TSize Tryz.prog 382 1 := ⟨by kernel_rfl⟩
instance : TZero Tryz.prog 382 (.nilFunc) := ⟨by kernel_rfl⟩
instance : TBytes Tryz.prog 382 8 := ⟨by kernel_rfl⟩
instance : TRow Tryz.prog 383 false := ⟨by kernel_rfl⟩
instance : TSize Tryz.prog 383 1 := ⟨by kernel_rfl⟩
instance : TZero Tryz.prog 383 (.nilFunc) := ⟨by kernel_rfl⟩
instance : TBytes Tryz.prog 383 8 := ⟨by kernel_rfl⟩
instance : TRow Tryz.prog 384 false := ⟨by kernel_rfl⟩
instance : TSize Tryz.prog 384 1 := ⟨by kernel_rfl⟩
instance : TZero Tryz.prog 384 (.nilFunc) := ⟨by kernel_rfl⟩
instance : TBytes Tryz.prog 384 8 := ⟨by kernel_rfl⟩
instance : TRow Tryz.prog 385 false := ⟨by kernel_rfl⟩
instance : TSize Tryz.prog 385 1 := ⟨by kernel_rfl⟩
instance : TZero Tryz.prog 385 (.nilFunc) := ⟨by kernel_rfl⟩
instance : TBytes Tryz.prog 385 8 := ⟨by kernel_rfl⟩
instance : TRow Tryz.prog 386 false := ⟨by kernel_rfl⟩
instance : TSize Tryz.prog 386 1 := ⟨by kernel_rfl⟩
instance : TZero Tryz.prog 386 (.nilFunc) := ⟨by kernel_rfl⟩
instance : TBytes Tryz.prog 386 8 := ⟨by kernel_rfl⟩
instance : TRow Tryz.prog 387 false := ⟨by kernel_rfl⟩
instance : TSize Tryz.prog 387 1 := ⟨by kernel_rfl⟩
instance : TZero Tryz.prog 387 (.nilFunc) := ⟨by kernel_rfl⟩
instance : TBytes Tryz.prog 387 8 := ⟨by kernel_rfl⟩
instance : TRow Tryz.prog 388 false := ⟨by kernel_rfl⟩
instance : TSize Tryz.prog 388 1 := ⟨by kernel_rfl⟩
instance : TZero Tryz.prog 388 (.nilFunc) := ⟨by kernel_rfl⟩
instance : TBytes Tryz.prog 388 8 := ⟨by kernel_rfl⟩
instance : TRow Tryz.prog 389 false := ⟨by kernel_rfl⟩
instance : TSize Tryz.prog 389 1 := ⟨by kernel_rfl⟩
instance : TZero Tryz.prog 389 (.nilFunc) := ⟨by kernel_rfl⟩
instance : TBytes Tryz.prog 389 8 := ⟨by kernel_rfl⟩
instance : TRow Tryz.prog 391 false := ⟨by kernel_rfl⟩
instance : TSize Tryz.prog 391 1 := ⟨by kernel_rfl⟩
instance : TZero Tryz.prog 391 (.nilFunc) := ⟨by kernel_rfl⟩
instance : TBytes Tryz.prog 391 8 := ⟨by kernel_rfl⟩
instance : TRow Tryz.prog 393 false := ⟨by kernel_rfl⟩
instance : TSize Tryz.prog 393 1 := ⟨by kernel_rfl⟩
instance : TZero Tryz.prog 393 (.nilFunc) := ⟨by kernel_rfl⟩
instance : TBytes Tryz.prog 393 8 := ⟨by kernel_rfl⟩
instance : TRow Tryz.prog 394 false := ⟨by kernel_rfl⟩
instance : TSize Tryz.prog 394 1 := ⟨by kernel_rfl⟩
instance : TZero Tryz.prog 394 (.int .u64 0) := ⟨by kernel_rfl⟩
instance : TBytes Tryz.prog 394 8 := ⟨by kernel_rfl⟩
instance : TRow Tryz.prog 395 false := ⟨by kernel_rfl⟩
instance : TSize Tryz.prog 395 1 := ⟨by kernel_rfl⟩
instance : TZero Tryz.prog 395 (.nilFunc) := ⟨by kernel_rfl⟩
instance : TBytes Tryz.prog 395 8 := ⟨by kernel_rfl⟩
instance : TRow Tryz.prog 396 false := ⟨by kernel_rfl⟩
instance : TSize Tryz.prog 396 1 := ⟨by kernel_rfl⟩
instance : TZero Tryz.prog 396 (.nilFunc) := ⟨by kernel_rfl⟩
instance : TBytes Tryz.prog 396 8 := ⟨by kernel_rfl⟩
instance : TRow Tryz.prog 397 false := ⟨by kernel_rfl⟩
instance : TSize Tryz.prog 397 1 := ⟨by kernel_rfl⟩
instance : TZero Tryz.prog 397 (.nilFunc) := ⟨by kernel_rfl⟩
instance : TBytes Tryz.prog 397 8 := ⟨by kernel_rfl⟩
instance : TRow Tryz.prog 398 false := ⟨by kernel_rfl⟩
instance : TSize Tryz.prog 398 1 := ⟨by kernel_rfl⟩
instance : TZero Tryz.prog 398 (.pointer none) := ⟨by kernel_rfl⟩
instance : TBytes Tryz.prog 398 8 := ⟨by kernel_rfl⟩
instance : TRow Tryz.prog 399 false := ⟨by kernel_rfl⟩
instance : TSize Tryz.prog 399 1 := ⟨by kernel_rfl⟩
instance : TZero Tryz.prog 399 (.nilFunc) := ⟨by kernel_rfl⟩
instance : TBytes Tryz.prog 399 8 := ⟨by kernel_rfl⟩
instance : TRow Tryz.prog 400 false := ⟨by kernel_rfl⟩
instance : TSize Tryz.prog 400 1 := ⟨by kernel_rfl⟩
instance : TZero Tryz.prog 400 (.nilFunc) := ⟨by kernel_rfl⟩
instance : TBytes Tryz.prog 400 8 := ⟨by kernel_rfl⟩
instance : TRow Tryz.prog 401 false := ⟨by kernel_rfl⟩
instance : TSize Tryz.prog 401 1 := ⟨by kernel_rfl⟩
instance : TZero Tryz.prog 401 (.nilFunc) := ⟨by kernel_rfl⟩
instance : TBytes Tryz.prog 401 8 := ⟨by kernel_rfl⟩
instance : TRow Tryz.prog 402 false := ⟨by kernel_rfl⟩
instance : TSize Tryz.prog 402 1 := ⟨by kernel_rfl⟩
instance : TZero Tryz.prog 402 (.nilFunc) := ⟨by kernel_rfl⟩
instance : TBytes Tryz.prog 402 8 := ⟨by kernel_rfl⟩
instance : TRow Tryz.prog 403 false := ⟨by kernel_rfl⟩
instance : TSize Tryz.prog 403 1 := ⟨by kernel_rfl⟩
instance : TZero Tryz.prog 403 (.nilFunc) := ⟨by kernel_rfl⟩
instance : TBytes Tryz.prog 403 8 := ⟨by kernel_rfl⟩
instance : TRow Tryz.prog 404 false := ⟨by kernel_rfl⟩
instance : TSize Tryz.prog 404 1 := ⟨by kernel_rfl⟩
instance : TZero Tryz.prog 404 (.nilFunc) := ⟨by kernel_rfl⟩
instance : TBytes Tryz.prog 404 8 := ⟨by kernel_rfl⟩
instance : TRow Tryz.prog 405 false := ⟨by kernel_rfl⟩
instance : TSize Tryz.prog 405 1 := ⟨by kernel_rfl⟩
instance : TZero Tryz.prog 405 (.nilFunc) := ⟨by kernel_rfl⟩
instance : TBytes Tryz.prog 405 8 := ⟨by kernel_rfl⟩
instance : TRow Tryz.prog 406 false := ⟨by kernel_rfl⟩
instance : TSize Tryz.prog 406 1 := ⟨by kernel_rfl⟩
instance : TZero Tryz.prog 406 (.nilFunc) := ⟨by kernel_rfl⟩
instance : TBytes Tryz.prog 406 8 := ⟨by kernel_rfl⟩
instance : TRow Tryz.prog 407 false := ⟨by kernel_rfl⟩
instance : TSize Tryz.prog 407 1 := ⟨by kernel_rfl⟩
instance : TZero Tryz.prog 407 (.nilFunc) := ⟨by kernel_rfl⟩
instance : TBytes Tryz.prog 407 8 := ⟨by kernel_rfl⟩
instance : TRow Tryz.prog 408 false := ⟨by kernel_rfl⟩
instance : TSize Tryz.prog 408 1 := ⟨by kernel_rfl⟩
instance : TZero Tryz.prog 408 (.map none) := ⟨by kernel_rfl⟩
instance : TBytes Tryz.prog 408 8 := ⟨by kernel_rfl⟩
instance : TRow Tryz.prog 409 false := ⟨by kernel_rfl⟩
instance : TSize Tryz.prog 409 1 := ⟨by kernel_rfl⟩
instance : TZero Tryz.prog 409 (.nilFunc) := ⟨by kernel_rfl⟩
instance : TBytes Tryz.prog 409 8 := ⟨by kernel_rfl⟩
instance : TRow Tryz.prog 410 false := ⟨by kernel_rfl⟩
instance : TSize Tryz.prog 410 1 := ⟨by kernel_rfl⟩
instance : TZero Tryz.prog 410 (.nilFunc) := ⟨by kernel_rfl⟩
instance : TBytes Tryz.prog 410 8 := ⟨by kernel_rfl⟩
instance : TRow Tryz.prog 411 true := ⟨by kernel_rfl⟩
instance : TSize Tryz.prog 411 2 := ⟨by kernel_rfl⟩
instance : TZero Tryz.prog 411 (.agg #[.int .i64 0, .bool false]) := ⟨by kernel_rfl⟩
instance : TBytes Tryz.prog 411 16 := ⟨by kernel_rfl⟩
instance : TField Tryz.prog 411 0 0 := ⟨by kernel_rfl⟩
instance : TPart Tryz.prog 411 0 0 3 := ⟨by kernel_rfl⟩
instance : TField Tryz.prog 411 1 1 := ⟨by kernel_rfl⟩
instance : TPart Tryz.prog 411 1 1 4 := ⟨by kernel_rfl⟩
instance : TPlaces Tryz.prog 411 [(0, 1), (1, 1)] := ⟨by kernel_rfl⟩
instance : TRow Tryz.prog 412 true := ⟨by kernel_rfl⟩
instance : TSize Tryz.prog 412 2 := ⟨by kernel_rfl⟩
instance : TZero Tryz.prog 412 (.agg #[.int .i64 0, .bool false]) := ⟨by kernel_rfl⟩
instance : TBytes Tryz.prog 412 16 := ⟨by kernel_rfl⟩
instance : TField Tryz.prog 412 0 0 := ⟨by kernel_rfl⟩
instance : TPart Tryz.prog 412 0 0 3 := ⟨by kernel_rfl⟩
instance : TField Tryz.prog 412 1 1 := ⟨by kernel_rfl⟩
instance : TPart Tryz.prog 412 1 1 4 := ⟨by kernel_rfl⟩
instance : TPlaces Tryz.prog 412 [(0, 1), (1, 1)] := ⟨by kernel_rfl⟩
instance : TRow Tryz.prog 413 false := ⟨by kernel_rfl⟩
instance : TSize Tryz.prog 413 1 := ⟨by kernel_rfl⟩
instance : TZero Tryz.prog 413 (.nilFunc) := ⟨by kernel_rfl⟩
instance : TBytes Tryz.prog 413 8 := ⟨by kernel_rfl⟩
instance : TRow Tryz.prog 414 false := ⟨by kernel_rfl⟩
instance : TSize Tryz.prog 414 1 := ⟨by kernel_rfl⟩
instance : TZero Tryz.prog 414 (.nilFunc) := ⟨by kernel_rfl⟩
instance : TBytes Tryz.prog 414 8 := ⟨by kernel_rfl⟩
instance : TRow Tryz.prog 415 false := ⟨by kernel_rfl⟩
instance : TSize Tryz.prog 415 1 := ⟨by kernel_rfl⟩
instance : TZero Tryz.prog 415 (.nilFunc) := ⟨by kernel_rfl⟩
instance : TBytes Tryz.prog 415 8 := ⟨by kernel_rfl⟩
instance : TRow Tryz.prog 416 false := ⟨by kernel_rfl⟩
instance : TSize Tryz.prog 416 1 := ⟨by kernel_rfl⟩
instance : TZero Tryz.prog 416 (.pointer none) := ⟨by kernel_rfl⟩
instance : TBytes Tryz.prog 416 8 := ⟨by kernel_rfl⟩
instance : TRow Tryz.prog 418 false := ⟨by kernel_rfl⟩
instance : TSize Tryz.prog 418 1 := ⟨by kernel_rfl⟩
instance : TZero Tryz.prog 418 (.nilFunc) := ⟨by kernel_rfl⟩
instance : TBytes Tryz.prog 418 8 := ⟨by kernel_rfl⟩
instance : TRow Tryz.prog 419 false := ⟨by kernel_rfl⟩
instance : TSize Tryz.prog 419 1 := ⟨by kernel_rfl⟩
instance : TZero Tryz.prog 419 (.nilFunc) := ⟨by kernel_rfl⟩
instance : TBytes Tryz.prog 419 8 := ⟨by kernel_rfl⟩
instance : TRow Tryz.prog 420 false := ⟨by kernel_rfl⟩
instance : TSize Tryz.prog 420 1 := ⟨by kernel_rfl⟩
instance : TZero Tryz.prog 420 (.nilFunc) := ⟨by kernel_rfl⟩
instance : TBytes Tryz.prog 420 8 := ⟨by kernel_rfl⟩
instance : TRow Tryz.prog 421 false := ⟨by kernel_rfl⟩
instance : TSize Tryz.prog 421 1 := ⟨by kernel_rfl⟩
instance : TZero Tryz.prog 421 (.nilFunc) := ⟨by kernel_rfl⟩
instance : TBytes Tryz.prog 421 8 := ⟨by kernel_rfl⟩
instance : TRow Tryz.prog 422 false := ⟨by kernel_rfl⟩
instance : TSize Tryz.prog 422 1 := ⟨by kernel_rfl⟩
instance : TZero Tryz.prog 422 (.nilFunc) := ⟨by kernel_rfl⟩
instance : TBytes Tryz.prog 422 8 := ⟨by kernel_rfl⟩
instance : TRow Tryz.prog 423 false := ⟨by kernel_rfl⟩
instance : TSize Tryz.prog 423 1 := ⟨by kernel_rfl⟩
instance : TZero Tryz.prog 423 (.nilFunc) := ⟨by kernel_rfl⟩
instance : TBytes Tryz.prog 423 8 := ⟨by kernel_rfl⟩
instance : TRow Tryz.prog 424 false := ⟨by kernel_rfl⟩
instance : TSize Tryz.prog 424 1 := ⟨by kernel_rfl⟩
instance : TZero Tryz.prog 424 (.nilFunc) := ⟨by kernel_rfl⟩
instance : TBytes Tryz.prog 424 8 := ⟨by kernel_rfl⟩
instance : TRow Tryz.prog 425 false := ⟨by kernel_rfl⟩
instance : TSize Tryz.prog 425 1 := ⟨by kernel_rfl⟩
instance : TZero Tryz.prog 425 (.nilFunc) := ⟨by kernel_rfl⟩
instance : TBytes Tryz.prog 425 8 := ⟨by kernel_rfl⟩
instance : TRow Tryz.prog 426 false := ⟨by kernel_rfl⟩
instance : TSize Tryz.prog 426 1 := ⟨by kernel_rfl⟩
instance : TZero Tryz.prog 426 (.nilFunc) := ⟨by kernel_rfl⟩
instance : TBytes Tryz.prog 426 8 := ⟨by kernel_rfl⟩
instance : TRow Tryz.prog 427 false := ⟨by kernel_rfl⟩
instance : TSize Tryz.prog 427 1 := ⟨by kernel_rfl⟩
instance : TZero Tryz.prog 427 (.nilFunc) := ⟨by kernel_rfl⟩
instance : TBytes Tryz.prog 427 8 := ⟨by kernel_rfl⟩
instance : TRow Tryz.prog 428 false := ⟨by kernel_rfl⟩
instance : TSize Tryz.prog 428 1 := ⟨by kernel_rfl⟩
instance : TZero Tryz.prog 428 (.nilFunc) := ⟨by kernel_rfl⟩
instance : TBytes Tryz.prog 428 8 := ⟨by kernel_rfl⟩
instance : TRow Tryz.prog 429 false := ⟨by kernel_rfl⟩
instance : TSize Tryz.prog 429 1 := ⟨by kernel_rfl⟩
instance : TZero Tryz.prog 429 (.nilFunc) := ⟨by kernel_rfl⟩
instance : TBytes Tryz.prog 429 8 := ⟨by kernel_rfl⟩
instance : TRow Tryz.prog 430 true := ⟨by kernel_rfl⟩
instance : TSize Tryz.prog 430 4 := ⟨by kernel_rfl⟩
instance : TZero Tryz.prog 430 (.agg #[.pointer none, .pointer none, .pointer none, .string ⟨#[]⟩]) := ⟨by kernel_rfl⟩
instance : TBytes Tryz.prog 430 40 := ⟨by kernel_rfl⟩
instance : TField Tryz.prog 430 0 0 := ⟨by kernel_rfl⟩
instance : TPart Tryz.prog 430 0 0 17 := ⟨by kernel_rfl⟩
instance : TField Tryz.prog 430 1 1 := ⟨by kernel_rfl⟩
instance : TPart Tryz.prog 430 1 1 17 := ⟨by kernel_rfl⟩
instance : TField Tryz.prog 430 2 2 := ⟨by kernel_rfl⟩
instance : TPart Tryz.prog 430 2 2 17 := ⟨by kernel_rfl⟩
instance : TField Tryz.prog 430 3 3 := ⟨by kernel_rfl⟩
instance : TPart Tryz.prog 430 3 3 9 := ⟨by kernel_rfl⟩
instance : TPlaces Tryz.prog 430 [(0, 1), (1, 1), (2, 1), (3, 1)] := ⟨by kernel_rfl⟩
instance : TRow Tryz.prog 431 true := ⟨by kernel_rfl⟩
instance : TSize Tryz.prog 431 4 := ⟨by kernel_rfl⟩
instance : TZero Tryz.prog 431 (.agg #[.pointer none, .pointer none, .pointer none, .string ⟨#[]⟩]) := ⟨by kernel_rfl⟩
instance : TBytes Tryz.prog 431 40 := ⟨by kernel_rfl⟩
instance : TField Tryz.prog 431 0 0 := ⟨by kernel_rfl⟩
instance : TPart Tryz.prog 431 0 0 17 := ⟨by kernel_rfl⟩
instance : TField Tryz.prog 431 1 1 := ⟨by kernel_rfl⟩
instance : TPart Tryz.prog 431 1 1 17 := ⟨by kernel_rfl⟩
instance : TField Tryz.prog 431 2 2 := ⟨by kernel_rfl⟩
instance : TPart Tryz.prog 431 2 2 17 := ⟨by kernel_rfl⟩
instance : TField Tryz.prog 431 3 3 := ⟨by kernel_rfl⟩
instance : TPart Tryz.prog 431 3 3 9 := ⟨by kernel_rfl⟩
instance : TPlaces Tryz.prog 431 [(0, 1), (1, 1), (2, 1), (3, 1)] := ⟨by kernel_rfl⟩
instance : TRow Tryz.prog 432 true := ⟨by kernel_rfl⟩
instance : TSize Tryz.prog 432 0 := ⟨by kernel_rfl⟩
instance : TZero Tryz.prog 432 (.agg #[]) := ⟨by kernel_rfl⟩
instance : TBytes Tryz.prog 432 0 := ⟨by kernel_rfl⟩
instance : TRow Tryz.prog 433 true := ⟨by kernel_rfl⟩
instance : TSize Tryz.prog 433 0 := ⟨by kernel_rfl⟩
instance : TZero Tryz.prog 433 (.agg #[]) := ⟨by kernel_rfl⟩
instance : TBytes Tryz.prog 433 0 := ⟨by kernel_rfl⟩
instance : TPart Tryz.prog 433 0 0 432 := ⟨by kernel_rfl⟩
instance : TPlaces Tryz.prog 433 [(0, 0)] := ⟨by kernel_rfl⟩
instance : TRow Tryz.prog 434 true := ⟨by kernel_rfl⟩
instance : TSize Tryz.prog 434 0 := ⟨by kernel_rfl⟩
instance : TZero Tryz.prog 434 (.agg #[]) := ⟨by kernel_rfl⟩
instance : TBytes Tryz.prog 434 0 := ⟨by kernel_rfl⟩
instance : TPart Tryz.prog 434 0 0 432 := ⟨by kernel_rfl⟩
instance : TPlaces Tryz.prog 434 [(0, 0)] := ⟨by kernel_rfl⟩
instance : TRow Tryz.prog 435 false := ⟨by kernel_rfl⟩
instance : TSize Tryz.prog 435 1 := ⟨by kernel_rfl⟩
instance : TZero Tryz.prog 435 (.nilFunc) := ⟨by kernel_rfl⟩
instance : TBytes Tryz.prog 435 8 := ⟨by kernel_rfl⟩
instance : TRow Tryz.prog 436 false := ⟨by kernel_rfl⟩
instance : TSize Tryz.prog 436 1 := ⟨by kernel_rfl⟩
instance : TZero Tryz.prog 436 (.int .u8 0) := ⟨by kernel_rfl⟩
instance : TBytes Tryz.prog 436 1 := ⟨by kernel_rfl⟩
instance : TU8 Tryz.prog 436 := ⟨by kernel_rfl⟩
instance : TRow Tryz.prog 437 false := ⟨by kernel_rfl⟩
instance : TSize Tryz.prog 437 1 := ⟨by kernel_rfl⟩
instance : TZero Tryz.prog 437 (.int .u8 0) := ⟨by kernel_rfl⟩
instance : TBytes Tryz.prog 437 1 := ⟨by kernel_rfl⟩
instance : TU8 Tryz.prog 437 := ⟨by kernel_rfl⟩
instance : TRow Tryz.prog 438 false := ⟨by kernel_rfl⟩
instance : TSize Tryz.prog 438 1 := ⟨by kernel_rfl⟩
instance : TZero Tryz.prog 438 (.nilFunc) := ⟨by kernel_rfl⟩
instance : TBytes Tryz.prog 438 8 := ⟨by kernel_rfl⟩
instance : TRow Tryz.prog 439 false := ⟨by kernel_rfl⟩
instance : TSize Tryz.prog 439 1 := ⟨by kernel_rfl⟩
instance : TZero Tryz.prog 439 (.pointer none) := ⟨by kernel_rfl⟩
instance : TBytes Tryz.prog 439 8 := ⟨by kernel_rfl⟩
instance : TRow Tryz.prog 440 false := ⟨by kernel_rfl⟩
instance : TSize Tryz.prog 440 1 := ⟨by kernel_rfl⟩
instance : TZero Tryz.prog 440 (.int .i32 0) := ⟨by kernel_rfl⟩
instance : TBytes Tryz.prog 440 4 := ⟨by kernel_rfl⟩
instance : TRow Tryz.prog 441 false := ⟨by kernel_rfl⟩
instance : TSize Tryz.prog 441 1 := ⟨by kernel_rfl⟩
instance : TZero Tryz.prog 441 (.int .i32 0) := ⟨by kernel_rfl⟩
instance : TBytes Tryz.prog 441 4 := ⟨by kernel_rfl⟩
instance : TRow Tryz.prog 442 true := ⟨by kernel_rfl⟩
instance : TSize Tryz.prog 442 11 := ⟨by kernel_rfl⟩
instance : TZero Tryz.prog 442 (.agg #[.int .u64 0, .int .u64 0, .int .u32 0, .int .u8 0, .int .u8 0, .int .u8 0, .int .u8 0, .nilFunc, .pointer none, .int .i32 0, .int .i32 0]) := ⟨by kernel_rfl⟩
instance : TBytes Tryz.prog 442 48 := ⟨by kernel_rfl⟩
instance : TField Tryz.prog 442 0 0 := ⟨by kernel_rfl⟩
instance : TPart Tryz.prog 442 0 0 12 := ⟨by kernel_rfl⟩
instance : TField Tryz.prog 442 1 1 := ⟨by kernel_rfl⟩
instance : TPart Tryz.prog 442 1 1 12 := ⟨by kernel_rfl⟩
instance : TField Tryz.prog 442 2 2 := ⟨by kernel_rfl⟩
instance : TPart Tryz.prog 442 2 2 364 := ⟨by kernel_rfl⟩
instance : TField Tryz.prog 442 3 3 := ⟨by kernel_rfl⟩
instance : TPart Tryz.prog 442 3 3 436 := ⟨by kernel_rfl⟩
instance : TField Tryz.prog 442 4 4 := ⟨by kernel_rfl⟩
instance : TPart Tryz.prog 442 4 4 5 := ⟨by kernel_rfl⟩
instance : TField Tryz.prog 442 5 5 := ⟨by kernel_rfl⟩
instance : TPart Tryz.prog 442 5 5 5 := ⟨by kernel_rfl⟩
instance : TField Tryz.prog 442 6 6 := ⟨by kernel_rfl⟩
instance : TPart Tryz.prog 442 6 6 437 := ⟨by kernel_rfl⟩
instance : TField Tryz.prog 442 7 7 := ⟨by kernel_rfl⟩
instance : TPart Tryz.prog 442 7 7 438 := ⟨by kernel_rfl⟩
instance : TField Tryz.prog 442 8 8 := ⟨by kernel_rfl⟩
instance : TPart Tryz.prog 442 8 8 439 := ⟨by kernel_rfl⟩
instance : TField Tryz.prog 442 9 9 := ⟨by kernel_rfl⟩
instance : TPart Tryz.prog 442 9 9 440 := ⟨by kernel_rfl⟩
instance : TField Tryz.prog 442 10 10 := ⟨by kernel_rfl⟩
instance : TPart Tryz.prog 442 10 10 441 := ⟨by kernel_rfl⟩
instance : TPlaces Tryz.prog 442 [(0, 1), (1, 1), (2, 1), (3, 1), (4, 1), (5, 1), (6, 1), (7, 1), (8, 1), (9, 1), (10, 1)] := ⟨by kernel_rfl⟩
instance : TRow Tryz.prog 443 true := ⟨by kernel_rfl⟩
instance : TSize Tryz.prog 443 11 := ⟨by kernel_rfl⟩
instance : TZero Tryz.prog 443 (.agg #[.int .u64 0, .int .u64 0, .int .u32 0, .int .u8 0, .int .u8 0, .int .u8 0, .int .u8 0, .nilFunc, .pointer none, .int .i32 0, .int .i32 0]) := ⟨by kernel_rfl⟩
instance : TBytes Tryz.prog 443 48 := ⟨by kernel_rfl⟩
instance : TField Tryz.prog 443 0 0 := ⟨by kernel_rfl⟩
instance : TPart Tryz.prog 443 0 0 12 := ⟨by kernel_rfl⟩
instance : TField Tryz.prog 443 1 1 := ⟨by kernel_rfl⟩
instance : TPart Tryz.prog 443 1 1 12 := ⟨by kernel_rfl⟩
instance : TField Tryz.prog 443 2 2 := ⟨by kernel_rfl⟩
instance : TPart Tryz.prog 443 2 2 364 := ⟨by kernel_rfl⟩
instance : TField Tryz.prog 443 3 3 := ⟨by kernel_rfl⟩
instance : TPart Tryz.prog 443 3 3 436 := ⟨by kernel_rfl⟩
instance : TField Tryz.prog 443 4 4 := ⟨by kernel_rfl⟩
instance : TPart Tryz.prog 443 4 4 5 := ⟨by kernel_rfl⟩
instance : TField Tryz.prog 443 5 5 := ⟨by kernel_rfl⟩
instance : TPart Tryz.prog 443 5 5 5 := ⟨by kernel_rfl⟩
instance : TField Tryz.prog 443 6 6 := ⟨by kernel_rfl⟩
instance : TPart Tryz.prog 443 6 6 437 := ⟨by kernel_rfl⟩
instance : TField Tryz.prog 443 7 7 := ⟨by kernel_rfl⟩
instance : TPart Tryz.prog 443 7 7 438 := ⟨by kernel_rfl⟩
instance : TField Tryz.prog 443 8 8 := ⟨by kernel_rfl⟩
instance : TPart Tryz.prog 443 8 8 439 := ⟨by kernel_rfl⟩
instance : TField Tryz.prog 443 9 9 := ⟨by kernel_rfl⟩
instance : TPart Tryz.prog 443 9 9 440 := ⟨by kernel_rfl⟩
instance : TField Tryz.prog 443 10 10 := ⟨by kernel_rfl⟩
instance : TPart Tryz.prog 443 10 10 441 := ⟨by kernel_rfl⟩
instance : TPlaces Tryz.prog 443 [(0, 1), (1, 1), (2, 1), (3, 1), (4, 1), (5, 1), (6, 1), (7, 1), (8, 1), (9, 1), (10, 1)] := ⟨by kernel_rfl⟩
instance : TEnter Tryz.prog 3 := ⟨by kernel_rfl⟩
instance : TEnter Tryz.prog 4 := ⟨by kernel_rfl⟩
instance : TEnter Tryz.prog 5 := ⟨by kernel_rfl⟩
instance : TEnter Tryz.prog 6 := ⟨by kernel_rfl⟩
instance : TEnter Tryz.prog 7 := ⟨by kernel_rfl⟩
instance : TEnter Tryz.prog 8 := ⟨by kernel_rfl⟩
instance : TEnter Tryz.prog 9 := ⟨by kernel_rfl⟩
instance : TEnter Tryz.prog 10 := ⟨by kernel_rfl⟩
instance : TEnter Tryz.prog 11 := ⟨by kernel_rfl⟩
instance : TEnter Tryz.prog 12 := ⟨by kernel_rfl⟩
instance : TEnter Tryz.prog 13 := ⟨by kernel_rfl⟩
instance : TEnter Tryz.prog 14 := ⟨by kernel_rfl⟩
instance : TEnter Tryz.prog 15 := ⟨by kernel_rfl⟩
instance : TEnter Tryz.prog 16 := ⟨by kernel_rfl⟩
instance : TEnter Tryz.prog 17 := ⟨by kernel_rfl⟩
instance : TEnter Tryz.prog 18 := ⟨by kernel_rfl⟩
instance : TEnter Tryz.prog 19 := ⟨by kernel_rfl⟩
instance : TEnter Tryz.prog 20 := ⟨by kernel_rfl⟩
instance : TEnter Tryz.prog 21 := ⟨by kernel_rfl⟩
instance : TEnter Tryz.prog 22 := ⟨by kernel_rfl⟩
instance : TEnter Tryz.prog 23 := ⟨by kernel_rfl⟩
instance : TEnter Tryz.prog 24 := ⟨by kernel_rfl⟩
instance : TEnter Tryz.prog 25 := ⟨by kernel_rfl⟩
instance : TEnter Tryz.prog 26 := ⟨by kernel_rfl⟩
instance : TEnter Tryz.prog 27 := ⟨by kernel_rfl⟩
instance : TEnter Tryz.prog 28 := ⟨by kernel_rfl⟩
instance : TEnter Tryz.prog 29 := ⟨by kernel_rfl⟩
instance : TEnter Tryz.prog 30 := ⟨by kernel_rfl⟩
instance : TEnter Tryz.prog 31 := ⟨by kernel_rfl⟩
instance : TEnter Tryz.prog 32 := ⟨by kernel_rfl⟩
instance : TEnter Tryz.prog 33 := ⟨by kernel_rfl⟩
instance : TEnter Tryz.prog 34 := ⟨by kernel_rfl⟩
instance : TEnter Tryz.prog 35 := ⟨by kernel_rfl⟩
instance : TEnter Tryz.prog 36 := ⟨by kernel_rfl⟩
instance : TEnter Tryz.prog 37 := ⟨by kernel_rfl⟩
instance : TEnter Tryz.prog 38 := ⟨by kernel_rfl⟩
instance : TEnter Tryz.prog 39 := ⟨by kernel_rfl⟩
instance : TEnter Tryz.prog 40 := ⟨by kernel_rfl⟩
instance : TEnter Tryz.prog 41 := ⟨by kernel_rfl⟩
instance : TEnter Tryz.prog 42 := ⟨by kernel_rfl⟩
instance : TEnter Tryz.prog 43 := ⟨by kernel_rfl⟩
instance : TEnter Tryz.prog 44 := ⟨by kernel_rfl⟩
instance : TEnter Tryz.prog 45 := ⟨by kernel_rfl⟩
instance : TEnter Tryz.prog 46 := ⟨by kernel_rfl⟩
instance : TEnter Tryz.prog 47 := ⟨by kernel_rfl⟩
instance : TEnter Tryz.prog 48 := ⟨by kernel_rfl⟩
instance : TEnter Tryz.prog 49 := ⟨by kernel_rfl⟩
instance : TEnter Tryz.prog 50 := ⟨by kernel_rfl⟩
instance : TEnter Tryz.prog 51 := ⟨by kernel_rfl⟩
instance : TEnter Tryz.prog 52 := ⟨by kernel_rfl⟩
instance : TEnter Tryz.prog 53 := ⟨by kernel_rfl⟩
instance : TEnter Tryz.prog 54 := ⟨by kernel_rfl⟩
instance : TEnter Tryz.prog 55 := ⟨by kernel_rfl⟩
instance : TEnter Tryz.prog 56 := ⟨by kernel_rfl⟩
instance : TEnter Tryz.prog 57 := ⟨by kernel_rfl⟩
instance : TEnter Tryz.prog 58 := ⟨by kernel_rfl⟩
instance : TEnter Tryz.prog 59 := ⟨by kernel_rfl⟩
instance : TEnter Tryz.prog 60 := ⟨by kernel_rfl⟩
instance : TEnter Tryz.prog 61 := ⟨by kernel_rfl⟩
instance : TEnter Tryz.prog 62 := ⟨by kernel_rfl⟩
instance : TEnter Tryz.prog 63 := ⟨by kernel_rfl⟩
instance : TEnter Tryz.prog 64 := ⟨by kernel_rfl⟩
instance : TEnter Tryz.prog 65 := ⟨by kernel_rfl⟩
instance : TEnter Tryz.prog 66 := ⟨by kernel_rfl⟩
instance : TEnter Tryz.prog 67 := ⟨by kernel_rfl⟩
instance : TEnter Tryz.prog 68 := ⟨by kernel_rfl⟩
instance : TEnter Tryz.prog 69 := ⟨by kernel_rfl⟩
instance : TEnter Tryz.prog 70 := ⟨by kernel_rfl⟩
instance : TEnter Tryz.prog 71 := ⟨by kernel_rfl⟩
instance : TEnter Tryz.prog 72 := ⟨by kernel_rfl⟩
instance : TEnter Tryz.prog 73 := ⟨by kernel_rfl⟩
instance : TEnter Tryz.prog 74 := ⟨by kernel_rfl⟩
instance : TEnter Tryz.prog 75 := ⟨by kernel_rfl⟩
instance : TEnter Tryz.prog 76 := ⟨by kernel_rfl⟩
instance : TEnter Tryz.prog 77 := ⟨by kernel_rfl⟩
instance : TEnter Tryz.prog 78 := ⟨by kernel_rfl⟩
instance : TEnter Tryz.prog 79 := ⟨by kernel_rfl⟩
instance : TEnter Tryz.prog 80 := ⟨by kernel_rfl⟩
instance : TEnter Tryz.prog 81 := ⟨by kernel_rfl⟩
instance : TEnter Tryz.prog 82 := ⟨by kernel_rfl⟩
instance : TEnter Tryz.prog 83 := ⟨by kernel_rfl⟩
instance : TEnter Tryz.prog 84 := ⟨by kernel_rfl⟩
instance : TEnter Tryz.prog 85 := ⟨by kernel_rfl⟩
instance : TEnter Tryz.prog 86 := ⟨by kernel_rfl⟩
instance : TEnter Tryz.prog 87 := ⟨by kernel_rfl⟩
instance : TEnter Tryz.prog 88 := ⟨by kernel_rfl⟩
instance : TEnter Tryz.prog 89 := ⟨by kernel_rfl⟩
instance : TEnter Tryz.prog 90 := ⟨by kernel_rfl⟩
instance : TEnter Tryz.prog 91 := ⟨by kernel_rfl⟩
instance : TEnter Tryz.prog 92 := ⟨by kernel_rfl⟩
instance : TEnter Tryz.prog 93 := ⟨by kernel_rfl⟩
instance : TEnter Tryz.prog 94 := ⟨by kernel_rfl⟩
instance : TEnter Tryz.prog 95 := ⟨by kernel_rfl⟩
instance : TEnter Tryz.prog 96 := ⟨by kernel_rfl⟩
instance : TEnter Tryz.prog 97 := ⟨by kernel_rfl⟩
instance : TEnter Tryz.prog 98 := ⟨by kernel_rfl⟩
instance : TEnter Tryz.prog 99 := ⟨by kernel_rfl⟩
instance : TEnter Tryz.prog 100 := ⟨by kernel_rfl⟩
instance : TEnter Tryz.prog 101 := ⟨by kernel_rfl⟩
instance : TEnter Tryz.prog 102 := ⟨by kernel_rfl⟩
instance : TEnter Tryz.prog 103 := ⟨by kernel_rfl⟩
instance : TEnter Tryz.prog 104 := ⟨by kernel_rfl⟩
instance : TEnter Tryz.prog 105 := ⟨by kernel_rfl⟩
instance : TEnter Tryz.prog 106 := ⟨by kernel_rfl⟩
instance : TEnter Tryz.prog 107 := ⟨by kernel_rfl⟩
instance : TEnter Tryz.prog 108 := ⟨by kernel_rfl⟩
instance : TEnter Tryz.prog 109 := ⟨by kernel_rfl⟩
instance : TEnter Tryz.prog 110 := ⟨by kernel_rfl⟩
instance : TEnter Tryz.prog 111 := ⟨by kernel_rfl⟩
instance : TEnter Tryz.prog 112 := ⟨by kernel_rfl⟩
instance : TEnter Tryz.prog 113 := ⟨by kernel_rfl⟩
instance : TEnter Tryz.prog 114 := ⟨by kernel_rfl⟩
instance : TEnter Tryz.prog 115 := ⟨by kernel_rfl⟩
instance : TEnter Tryz.prog 116 := ⟨by kernel_rfl⟩
instance : TEnter Tryz.prog 117 := ⟨by kernel_rfl⟩
instance : TEnter Tryz.prog 118 := ⟨by kernel_rfl⟩
instance : TEnter Tryz.prog 119 := ⟨by kernel_rfl⟩
instance : TEnter Tryz.prog 120 := ⟨by kernel_rfl⟩
instance : TEnter Tryz.prog 121 := ⟨by kernel_rfl⟩
instance : TEnter Tryz.prog 122 := ⟨by kernel_rfl⟩
instance : TEnter Tryz.prog 123 := ⟨by kernel_rfl⟩
instance : TEnter Tryz.prog 124 := ⟨by kernel_rfl⟩
instance : TEnter Tryz.prog 125 := ⟨by kernel_rfl⟩
instance : TEnter Tryz.prog 126 := ⟨by kernel_rfl⟩
instance : TEnter Tryz.prog 127 := ⟨by kernel_rfl⟩
instance : TEnter Tryz.prog 128 := ⟨by kernel_rfl⟩
instance : TEnter Tryz.prog 129 := ⟨by kernel_rfl⟩
instance : TEnter Tryz.prog 130 := ⟨by kernel_rfl⟩
instance : TEnter Tryz.prog 131 := ⟨by kernel_rfl⟩
instance : TEnter Tryz.prog 132 := ⟨by kernel_rfl⟩
instance : TEnter Tryz.prog 133 := ⟨by kernel_rfl⟩
instance : TEnter Tryz.prog 134 := ⟨by kernel_rfl⟩
instance : TEnter Tryz.prog 135 := ⟨by kernel_rfl⟩
instance : TEnter Tryz.prog 136 := ⟨by kernel_rfl⟩
instance : TEnter Tryz.prog 137 := ⟨by kernel_rfl⟩
instance : TEnter Tryz.prog 138 := ⟨by kernel_rfl⟩
instance : TEnter Tryz.prog 139 := ⟨by kernel_rfl⟩
instance : TEnter Tryz.prog 140 := ⟨by kernel_rfl⟩
instance : TEnter Tryz.prog 141 := ⟨by kernel_rfl⟩
instance : TEnter Tryz.prog 142 := ⟨by kernel_rfl⟩
instance : TEnter Tryz.prog 143 := ⟨by kernel_rfl⟩
instance : TEnter Tryz.prog 144 := ⟨by kernel_rfl⟩
instance : TEnter Tryz.prog 145 := ⟨by kernel_rfl⟩
instance : TEnter Tryz.prog 146 := ⟨by kernel_rfl⟩
instance : TEnter Tryz.prog 147 := ⟨by kernel_rfl⟩
instance : TEnter Tryz.prog 148 := ⟨by kernel_rfl⟩
instance : TEnter Tryz.prog 149 := ⟨by kernel_rfl⟩
instance : TEnter Tryz.prog 150 := ⟨by kernel_rfl⟩
instance : TEnter Tryz.prog 151 := ⟨by kernel_rfl⟩
instance : TEnter Tryz.prog 152 := ⟨by kernel_rfl⟩
instance : TEnter Tryz.prog 153 := ⟨by kernel_rfl⟩
instance : TEnter Tryz.prog 154 := ⟨by kernel_rfl⟩
instance : TEnter Tryz.prog 155 := ⟨by kernel_rfl⟩
instance : TEnter Tryz.prog 156 := ⟨by kernel_rfl⟩
instance : TEnter Tryz.prog 157 := ⟨by kernel_rfl⟩
instance : TEnter Tryz.prog 158 := ⟨by kernel_rfl⟩
instance : TEnter Tryz.prog 159 := ⟨by kernel_rfl⟩
instance : TEnter Tryz.prog 160 := ⟨by kernel_rfl⟩
instance : TEnter Tryz.prog 161 := ⟨by kernel_rfl⟩
instance : TEnter Tryz.prog 162 := ⟨by kernel_rfl⟩
instance : TEnter Tryz.prog 163 := ⟨by kernel_rfl⟩
instance : TEnter Tryz.prog 164 := ⟨by kernel_rfl⟩
instance : TEnter Tryz.prog 165 := ⟨by kernel_rfl⟩
instance : TEnter Tryz.prog 166 := ⟨by kernel_rfl⟩
instance : TEnter Tryz.prog 167 := ⟨by kernel_rfl⟩
instance : TEnter Tryz.prog 168 := ⟨by kernel_rfl⟩
instance : TEnter Tryz.prog 169 := ⟨by kernel_rfl⟩
instance : TEnter Tryz.prog 170 := ⟨by kernel_rfl⟩
instance : TEnter Tryz.prog 171 := ⟨by kernel_rfl⟩
instance : TEnter Tryz.prog 172 := ⟨by kernel_rfl⟩
instance : TEnter Tryz.prog 173 := ⟨by kernel_rfl⟩
instance : TEnter Tryz.prog 174 := ⟨by kernel_rfl⟩
instance : TEnter Tryz.prog 175 := ⟨by kernel_rfl⟩
instance : TEnter Tryz.prog 176 := ⟨by kernel_rfl⟩
instance : TEnter Tryz.prog 177 := ⟨by kernel_rfl⟩
instance : TEnter Tryz.prog 178 := ⟨by kernel_rfl⟩
instance : TEnter Tryz.prog 179 := ⟨by kernel_rfl⟩
instance : TEnter Tryz.prog 180 := ⟨by kernel_rfl⟩
instance : TEnter Tryz.prog 181 := ⟨by kernel_rfl⟩
instance : TEnter Tryz.prog 182 := ⟨by kernel_rfl⟩
instance : TEnter Tryz.prog 183 := ⟨by kernel_rfl⟩
instance : TEnter Tryz.prog 184 := ⟨by kernel_rfl⟩
instance : TEnter Tryz.prog 185 := ⟨by kernel_rfl⟩
instance : TEnter Tryz.prog 186 := ⟨by kernel_rfl⟩
instance : TEnter Tryz.prog 187 := ⟨by kernel_rfl⟩
instance : TEnter Tryz.prog 188 := ⟨by kernel_rfl⟩
instance : TEnter Tryz.prog 189 := ⟨by kernel_rfl⟩
instance : TEnter Tryz.prog 190 := ⟨by kernel_rfl⟩
instance : TEnter Tryz.prog 191 := ⟨by kernel_rfl⟩
instance : TEnter Tryz.prog 192 := ⟨by kernel_rfl⟩
instance : TEnter Tryz.prog 193 := ⟨by kernel_rfl⟩
instance : TEnter Tryz.prog 194 := ⟨by kernel_rfl⟩
instance : TEnter Tryz.prog 195 := ⟨by kernel_rfl⟩
instance : TEnter Tryz.prog 196 := ⟨by kernel_rfl⟩
instance : TEnter Tryz.prog 197 := ⟨by kernel_rfl⟩
instance : TEnter Tryz.prog 198 := ⟨by kernel_rfl⟩
instance : TEnter Tryz.prog 199 := ⟨by kernel_rfl⟩
instance : TEnter Tryz.prog 200 := ⟨by kernel_rfl⟩
instance : TEnter Tryz.prog 201 := ⟨by kernel_rfl⟩
instance : TEnter Tryz.prog 202 := ⟨by kernel_rfl⟩
instance : TEnter Tryz.prog 203 := ⟨by kernel_rfl⟩
instance : TEnter Tryz.prog 204 := ⟨by kernel_rfl⟩
instance : TEnter Tryz.prog 205 := ⟨by kernel_rfl⟩
instance : TEnter Tryz.prog 206 := ⟨by kernel_rfl⟩
instance : TEnter Tryz.prog 207 := ⟨by kernel_rfl⟩
instance : TEnter Tryz.prog 208 := ⟨by kernel_rfl⟩
instance : TEnter Tryz.prog 209 := ⟨by kernel_rfl⟩
instance : TEnter Tryz.prog 210 := ⟨by kernel_rfl⟩
instance : TEnter Tryz.prog 211 := ⟨by kernel_rfl⟩
instance : TEnter Tryz.prog 212 := ⟨by kernel_rfl⟩
instance : TEnter Tryz.prog 213 := ⟨by kernel_rfl⟩
instance : TEnter Tryz.prog 214 := ⟨by kernel_rfl⟩
instance : TEnter Tryz.prog 215 := ⟨by kernel_rfl⟩
instance : TEnter Tryz.prog 216 := ⟨by kernel_rfl⟩
instance : TEnter Tryz.prog 217 := ⟨by kernel_rfl⟩
instance : TEnter Tryz.prog 218 := ⟨by kernel_rfl⟩
instance : TEnter Tryz.prog 219 := ⟨by kernel_rfl⟩
instance : TEnter Tryz.prog 220 := ⟨by kernel_rfl⟩
instance : TEnter Tryz.prog 221 := ⟨by kernel_rfl⟩
instance : TEnter Tryz.prog 222 := ⟨by kernel_rfl⟩
instance : TEnter Tryz.prog 223 := ⟨by kernel_rfl⟩
instance : TEnter Tryz.prog 224 := ⟨by kernel_rfl⟩
instance : TEnter Tryz.prog 225 := ⟨by kernel_rfl⟩
instance : TEnter Tryz.prog 226 := ⟨by kernel_rfl⟩
instance : TEnter Tryz.prog 227 := ⟨by kernel_rfl⟩
instance : TEnter Tryz.prog 228 := ⟨by kernel_rfl⟩
instance : TEnter Tryz.prog 229 := ⟨by kernel_rfl⟩
instance : TEnter Tryz.prog 230 := ⟨by kernel_rfl⟩
instance : TEnter Tryz.prog 231 := ⟨by kernel_rfl⟩
instance : TEnter Tryz.prog 232 := ⟨by kernel_rfl⟩
instance : TEnter Tryz.prog 233 := ⟨by kernel_rfl⟩
instance : TEnter Tryz.prog 234 := ⟨by kernel_rfl⟩
instance : TEnter Tryz.prog 235 := ⟨by kernel_rfl⟩
instance : TEnter Tryz.prog 236 := ⟨by kernel_rfl⟩
instance : TEnter Tryz.prog 237 := ⟨by kernel_rfl⟩
instance : TEnter Tryz.prog 238 := ⟨by kernel_rfl⟩
instance : TEnter Tryz.prog 239 := ⟨by kernel_rfl⟩
instance : TEnter Tryz.prog 240 := ⟨by kernel_rfl⟩
instance : TEnter Tryz.prog 241 := ⟨by kernel_rfl⟩
instance : TEnter Tryz.prog 242 := ⟨by kernel_rfl⟩
instance : TEnter Tryz.prog 243 := ⟨by kernel_rfl⟩
instance : TEnter Tryz.prog 244 := ⟨by kernel_rfl⟩
instance : TEnter Tryz.prog 245 := ⟨by kernel_rfl⟩
instance : TEnter Tryz.prog 246 := ⟨by kernel_rfl⟩
instance : TEnter Tryz.prog 247 := ⟨by kernel_rfl⟩
instance : TEnter Tryz.prog 248 := ⟨by kernel_rfl⟩
instance : TEnter Tryz.prog 249 := ⟨by kernel_rfl⟩
instance : TEnter Tryz.prog 250 := ⟨by kernel_rfl⟩
instance : TEnter Tryz.prog 251 := ⟨by kernel_rfl⟩
instance : TEnter Tryz.prog 252 := ⟨by kernel_rfl⟩
instance : TEnter Tryz.prog 253 := ⟨by kernel_rfl⟩
instance : TEnter Tryz.prog 254 := ⟨by kernel_rfl⟩
instance : TEnter Tryz.prog 255 := ⟨by kernel_rfl⟩
instance : TEnter Tryz.prog 256 := ⟨by kernel_rfl⟩
instance : TEnter Tryz.prog 257 := ⟨by kernel_rfl⟩
instance : TEnter Tryz.prog 258 := ⟨by kernel_rfl⟩
instance : TEnter Tryz.prog 259 := ⟨by kernel_rfl⟩
instance : TEnter Tryz.prog 260 := ⟨by kernel_rfl⟩
instance : TEnter Tryz.prog 261 := ⟨by kernel_rfl⟩
instance : TEnter Tryz.prog 262 := ⟨by kernel_rfl⟩
instance : TEnter Tryz.prog 263 := ⟨by kernel_rfl⟩
instance : TEnter Tryz.prog 264 := ⟨by kernel_rfl⟩
instance : TEnter Tryz.prog 265 := ⟨by kernel_rfl⟩
instance : TEnter Tryz.prog 266 := ⟨by kernel_rfl⟩
instance : TEnter Tryz.prog 267 := ⟨by kernel_rfl⟩
instance : TEnter Tryz.prog 268 := ⟨by kernel_rfl⟩
instance : TEnter Tryz.prog 269 := ⟨by kernel_rfl⟩
instance : TEnter Tryz.prog 270 := ⟨by kernel_rfl⟩
instance : TEnter Tryz.prog 271 := ⟨by kernel_rfl⟩
instance : TEnter Tryz.prog 272 := ⟨by kernel_rfl⟩
instance : TEnter Tryz.prog 273 := ⟨by kernel_rfl⟩
instance : TEnter Tryz.prog 274 := ⟨by kernel_rfl⟩
instance : TEnter Tryz.prog 275 := ⟨by kernel_rfl⟩
instance : TEnter Tryz.prog 276 := ⟨by kernel_rfl⟩
instance : TEnter Tryz.prog 277 := ⟨by kernel_rfl⟩
instance : TEnter Tryz.prog 278 := ⟨by kernel_rfl⟩
instance : TEnter Tryz.prog 279 := ⟨by kernel_rfl⟩
instance : TEnter Tryz.prog 280 := ⟨by kernel_rfl⟩
instance : TEnter Tryz.prog 281 := ⟨by kernel_rfl⟩
instance : TEnter Tryz.prog 282 := ⟨by kernel_rfl⟩
instance : TEnter Tryz.prog 283 := ⟨by kernel_rfl⟩
instance : TEnter Tryz.prog 284 := ⟨by kernel_rfl⟩
instance : TEnter Tryz.prog 285 := ⟨by kernel_rfl⟩
instance : TEnter Tryz.prog 286 := ⟨by kernel_rfl⟩
instance : TEnter Tryz.prog 287 := ⟨by kernel_rfl⟩
instance : TEnter Tryz.prog 288 := ⟨by kernel_rfl⟩
instance : TEnter Tryz.prog 289 := ⟨by kernel_rfl⟩
instance : TEnter Tryz.prog 290 := ⟨by kernel_rfl⟩
instance : TEnter Tryz.prog 291 := ⟨by kernel_rfl⟩
instance : TEnter Tryz.prog 292 := ⟨by kernel_rfl⟩
instance : TEnter Tryz.prog 293 := ⟨by kernel_rfl⟩
instance : TEnter Tryz.prog 294 := ⟨by kernel_rfl⟩
instance : TEnter Tryz.prog 295 := ⟨by kernel_rfl⟩
instance : TEnter Tryz.prog 296 := ⟨by kernel_rfl⟩
instance : TEnter Tryz.prog 297 := ⟨by kernel_rfl⟩
instance : TEnter Tryz.prog 298 := ⟨by kernel_rfl⟩
instance : TEnter Tryz.prog 299 := ⟨by kernel_rfl⟩
instance : TEnter Tryz.prog 300 := ⟨by kernel_rfl⟩
instance : TEnter Tryz.prog 301 := ⟨by kernel_rfl⟩
instance : TEnter Tryz.prog 302 := ⟨by kernel_rfl⟩
instance : TEnter Tryz.prog 303 := ⟨by kernel_rfl⟩
instance : TEnter Tryz.prog 304 := ⟨by kernel_rfl⟩
instance : TEnter Tryz.prog 305 := ⟨by kernel_rfl⟩
instance : TEnter Tryz.prog 306 := ⟨by kernel_rfl⟩
instance : TEnter Tryz.prog 307 := ⟨by kernel_rfl⟩
instance : TEnter Tryz.prog 308 := ⟨by kernel_rfl⟩
instance : TEnter Tryz.prog 309 := ⟨by kernel_rfl⟩
instance : TEnter Tryz.prog 310 := ⟨by kernel_rfl⟩
instance : TEnter Tryz.prog 311 := ⟨by kernel_rfl⟩
instance : TEnter Tryz.prog 312 := ⟨by kernel_rfl⟩
instance : TEnter Tryz.prog 313 := ⟨by kernel_rfl⟩
instance : TEnter Tryz.prog 314 := ⟨by kernel_rfl⟩
instance : TEnter Tryz.prog 315 := ⟨by kernel_rfl⟩
instance : TEnter Tryz.prog 316 := ⟨by kernel_rfl⟩
instance : TEnter Tryz.prog 317 := ⟨by kernel_rfl⟩
instance : TEnter Tryz.prog 318 := ⟨by kernel_rfl⟩
instance : TEnter Tryz.prog 319 := ⟨by kernel_rfl⟩
instance : TEnter Tryz.prog 320 := ⟨by kernel_rfl⟩
instance : TEnter Tryz.prog 321 := ⟨by kernel_rfl⟩
instance : TEnter Tryz.prog 322 := ⟨by kernel_rfl⟩
instance : TEnter Tryz.prog 323 := ⟨by kernel_rfl⟩
instance : TEnter Tryz.prog 324 := ⟨by kernel_rfl⟩
instance : TEnter Tryz.prog 325 := ⟨by kernel_rfl⟩
instance : TEnter Tryz.prog 326 := ⟨by kernel_rfl⟩
instance : TEnter Tryz.prog 327 := ⟨by kernel_rfl⟩
instance : TEnter Tryz.prog 328 := ⟨by kernel_rfl⟩
instance : TEnter Tryz.prog 329 := ⟨by kernel_rfl⟩
instance : TEnter Tryz.prog 330 := ⟨by kernel_rfl⟩
instance : TEnter Tryz.prog 331 := ⟨by kernel_rfl⟩
instance : TEnter Tryz.prog 332 := ⟨by kernel_rfl⟩
instance : TEnter Tryz.prog 333 := ⟨by kernel_rfl⟩
instance : TEnter Tryz.prog 334 := ⟨by kernel_rfl⟩
instance : TEnter Tryz.prog 335 := ⟨by kernel_rfl⟩
instance : TEnter Tryz.prog 336 := ⟨by kernel_rfl⟩
instance : TEnter Tryz.prog 337 := ⟨by kernel_rfl⟩
instance : TEnter Tryz.prog 338 := ⟨by kernel_rfl⟩
instance : TEnter Tryz.prog 339 := ⟨by kernel_rfl⟩
instance : TEnter Tryz.prog 340 := ⟨by kernel_rfl⟩
instance : TEnter Tryz.prog 341 := ⟨by kernel_rfl⟩
instance : TEnter Tryz.prog 342 := ⟨by kernel_rfl⟩
instance : TEnter Tryz.prog 343 := ⟨by kernel_rfl⟩
instance : TEnter Tryz.prog 344 := ⟨by kernel_rfl⟩
instance : TEnter Tryz.prog 345 := ⟨by kernel_rfl⟩
instance : TEnter Tryz.prog 346 := ⟨by kernel_rfl⟩
instance : TEnter Tryz.prog 347 := ⟨by kernel_rfl⟩
instance : TEnter Tryz.prog 348 := ⟨by kernel_rfl⟩
instance : TEnter Tryz.prog 349 := ⟨by kernel_rfl⟩
instance : TEnter Tryz.prog 350 := ⟨by kernel_rfl⟩
instance : TEnter Tryz.prog 351 := ⟨by kernel_rfl⟩
instance : TEnter Tryz.prog 352 := ⟨by kernel_rfl⟩
instance : TEnter Tryz.prog 353 := ⟨by kernel_rfl⟩
instance : TEnter Tryz.prog 354 := ⟨by kernel_rfl⟩
instance : TEnter Tryz.prog 355 := ⟨by kernel_rfl⟩
instance : TEnter Tryz.prog 356 := ⟨by kernel_rfl⟩
instance : TEnter Tryz.prog 357 := ⟨by kernel_rfl⟩
instance : TEnter Tryz.prog 358 := ⟨by kernel_rfl⟩
instance : TEnter Tryz.prog 359 := ⟨by kernel_rfl⟩
instance : TEnter Tryz.prog 360 := ⟨by kernel_rfl⟩
instance : TEnter Tryz.prog 361 := ⟨by kernel_rfl⟩
instance : TEnter Tryz.prog 362 := ⟨by kernel_rfl⟩
instance : TEnter Tryz.prog 363 := ⟨by kernel_rfl⟩
instance : TEnter Tryz.prog 364 := ⟨by kernel_rfl⟩
instance : TMixed Tryz.prog := ⟨by kernel_rfl⟩
end Go.Lag

/- Plain facts for the walks of reports. -/
namespace Go.Lag
open Go Go.RowKit
theorem inB_le {n a b : Int} (h : inB n a b = true) : a ≤ n ∧ n ≤ b := by simpa [inB] using h
theorem first_ex (s : ByteArray) : ∃ c : UInt8, 0 < s.size → s[0]? = some c := by
  by_cases h : 0 < s.size
  · exact ⟨s[0], fun _ => by simp [h]⟩
  · exact ⟨0, fun h' => absurd h' h⟩
theorem nameB_eq {s : ByteArray} {c : UInt8} (hc : 0 < s.size → s[0]? = some c) : nameB s = (!(!inB s.size 1 24 || decide ((c.toNat : Int) < 97) || decide (122 < (c.toNat : Int))) && !(byteInts s).any nameCh) := by
  cases hi : inB s.size 1 24 with
  | false => simp [nameB, hi]
  | true =>
    have h0 : 0 < s.size := by have := inB_le hi; omega
    simp only [nameB, hi, firstB_get (hc h0)]
    have e1 : (!decide ((c.toNat : Int) < 97)) = decide (97 ≤ (c.toNat : Int)) := by
      by_cases h : (c.toNat : Int) < 97 <;> simp [h] <;> omega
    have e2 : (!decide (122 < (c.toNat : Int))) = decide ((c.toNat : Int) ≤ 122) := by
      by_cases h : 122 < (c.toNat : Int) <;> simp [h] <;> omega
    simp [← e1, ← e2]
theorem name_size {n : Int} {p q : Bool} (h : (!inB n 1 24 || p || q) = false) : n ≤ 24 := by
  cases hi : inB n 1 24 with
  | false => simp [hi] at h
  | true => exact (inB_le hi).2
section
variable {x : Rep}
theorem fieldsR_1 (h : x.kind = 1) : fieldsR x = { Rep.zero with id := x.id, known := x.known, hour := x.hour, kind := x.kind, cell := x.cell, mark := x.mark, goods := x.goods, low := x.low, high := x.high, party := x.party } := by simp [fieldsR, h]
theorem fieldsR_2 (h : x.kind = 2) : fieldsR x = { Rep.zero with id := x.id, known := x.known, hour := x.hour, kind := x.kind, parcel := x.parcel, count := x.count } := by simp [fieldsR, h]
theorem fieldsR_3 (h : x.kind = 3) : fieldsR x = { Rep.zero with id := x.id, known := x.known, hour := x.hour, kind := x.kind, parts := x.parts } := by simp [fieldsR, h]
theorem fieldsR_4 (h : x.kind = 4) : fieldsR x = { Rep.zero with id := x.id, known := x.known, hour := x.hour, kind := x.kind, parcel := x.parcel, low := x.low, high := x.high } := by simp [fieldsR, h]
theorem fieldsR_5 (h : x.kind = 5) : fieldsR x = { Rep.zero with id := x.id, known := x.known, hour := x.hour, kind := x.kind, parcel := x.parcel, party := x.party } := by simp [fieldsR, h]
theorem fieldsR_6 (h : x.kind = 6) : fieldsR x = { Rep.zero with id := x.id, known := x.known, hour := x.hour, kind := x.kind, parcel := x.parcel, party := x.party } := by simp [fieldsR, h]
theorem fieldsR_7 (h : x.kind = 7) : fieldsR x = { Rep.zero with id := x.id, known := x.known, hour := x.hour, kind := x.kind, parcel := x.parcel, other := x.other } := by simp [fieldsR, h]
theorem fieldsR_8 (h : x.kind = 8) : fieldsR x = { Rep.zero with id := x.id, known := x.known, hour := x.hour, kind := x.kind, of := x.of } := by simp [fieldsR, h]
theorem fieldsR_0 (h1 : ¬ x.kind = 1) (h2 : ¬ x.kind = 2) (h3 : ¬ x.kind = 3) (h4 : ¬ x.kind = 4) (h5 : ¬ x.kind = 5) (h6 : ¬ x.kind = 6) (h7 : ¬ x.kind = 7) (h8 : ¬ x.kind = 8) : fieldsR x = { Rep.zero with id := x.id, known := x.known, hour := x.hour, kind := x.kind } := by
  simp [fieldsR, h1, h2, h3, h4, h5, h6, h7, h8]
end
class TSpan (P : Program) (t : TypeId) (a : outParam TypeId) : Prop where h : SpanT P t a
variable {P : Program} {l : Env} {H : List Assn} {ty t u a : TypeId} {x y : Operand}
theorem EqSp {lo hi lo' hi' : Int} [h : TSpan P t a] (hx : ev l x = some (.agg [.int .i64 lo, .int .i64 hi].toArray) := by rfl) (hy : ev l y = some (.agg [.int .i64 lo', .int .i64 hi'].toArray) := by rfl) :
    YldH P (.binOp .eql t x y u) ty l H (.bool (decide (lo = lo') && decide (hi = hi'))) := fun _ _ => y_eqlSp h.h hx hy
/-- A slice up to i, from i on. -/
theorem SlZ.to {α : Type} {E : Elem α} {Z : Hp} {v : Value} {xs : List α} (h : SlZ E Z v xs) {i : Nat} (sz : Nat) (hle : i ≤ xs.length) : SlZ E Z (slTo sz v i) (xs.take i) := by
  obtain ⟨A, cap, rfl, h1, h2, h3⟩ := h
  refine ⟨if i = 0 then A else A.map (·.add 0), i, ?_, ?_, by omega, fun j y hj => ?_⟩
  · simp [slTo, sliced, Nat.min_eq_left hle]
  · simp; omega
  · have hj' : j < i := by have := (List.getElem?_eq_some_iff.1 hj).1; simp at this; omega
    rw [List.getElem?_take, if_pos hj'] at hj
    obtain ⟨a, b, o, cs, rfl, q⟩ := h3 j y hj
    refine ⟨a, b, o, cs, ?_, q⟩
    split <;> simp [Addr.add]
theorem SlZ.from_ {α : Type} {E : Elem α} {Z : Hp} {v : Value} {xs : List α} (h : SlZ E Z v xs) {i : Nat} (hle : i ≤ xs.length) : SlZ E Z (slFrom E.sz v i) (xs.drop i) := by
  obtain ⟨A, cap, rfl, h1, h2, h3⟩ := h
  refine ⟨if cap = i then A else A.map (·.add (i * E.sz)), cap - i, ?_, ?_, by omega, fun j y hj => ?_⟩
  · simp [slFrom, sliced]
  · simp; omega
  · rw [List.getElem?_drop] at hj
    have hij : i + j < xs.length := (List.getElem?_eq_some_iff.1 hj).1
    obtain ⟨a, b, o, cs, rfl, ha, q⟩ := h3 _ y hj
    refine ⟨a.add (i * E.sz), b, o, cs, ?_, ?_, q⟩
    · rw [if_neg (show ¬ cap = i by omega)]; rfl
    · rw [← ha, Nat.add_mul]; exact Addr.add_add' a _ _
variable {α : Type} {E : Elem α} {Z : Hp} {e : TypeId}
/-- x[:i:i] of a slice that is only read. -/
theorem SlT {v : Value} {xs : List α} {k k' : IntKind} {i sz : Nat} {hi mx : Operand} [hT : TSlice P t e] [hs : TSize P e sz] (hx : ev l x = some v := by rfl) (hhi : ev l hi = some (.int k (i : Int)) := by rfl) (hmx : ev l mx = some (.int k' (i : Int)) := by rfl)
    (h : SlZ E Z v xs := by assumption) (hZ : Assn.zm Z ∈ H := by repeat (first | exact List.Mem.head _ | refine List.Mem.tail _ ?_)) (hle : i ≤ xs.length := by omega) : YldH P (.slice t x none (some hi) (some mx)) ty l H (slTo sz v i) := fun w hw =>
  y_sliceTo hT.h hs.h hx hhi hmx rfl rfl (h.toR (hw.all _ hZ)) hle
theorem SlF_ {v : Value} {xs : List α} {k : IntKind} {i sz : Nat} {lo : Operand} [hT : TSlice P t e] [hs : TSize P e sz] (hx : ev l x = some v := by rfl) (hlo : ev l lo = some (.int k (i : Int)) := by rfl)
    (h : SlZ E Z v xs := by assumption) (hZ : Assn.zm Z ∈ H := by repeat (first | exact List.Mem.head _ | refine List.Mem.tail _ ?_)) (hle : i ≤ xs.length := by omega) : YldH P (.slice t x (some lo) none none) ty l H (slFrom sz v i) := fun w hw =>
  y_sliceFrom hT.h hs.h hx hlo rfl (h.toR (hw.all _ hZ)) hle
end Go.Lag
namespace Go.Lag
theorem nb_g {b : Bool} (h : (!b) = false) : b = true := by simpa using h
theorem name_1 {n : Int} {p : Bool} (h : (!inB n 1 24 || p) = false) : inB n 1 24 = true := by
  cases hi : inB n 1 24 with
  | false => simp [hi] at h
  | true => rfl
end Go.Lag
namespace Go.Lag
theorem repE_t {x : Rep} (h : (!fieldsB x || !equalB x (fieldsR x) || !inB x.id 1 1000000 || !inB x.known 0 1000000) = true) : 1 = repE x := by
  have : reportB x = false := by
    unfold reportB
    revert h
    cases fieldsB x <;> cases equalB x (fieldsR x) <;> cases inB x.id 1 1000000 <;> cases inB x.known 0 1000000 <;> simp
  simp [repE, this]
theorem repE_f {x : Rep} (h : (!fieldsB x || !equalB x (fieldsR x) || !inB x.id 1 1000000 || !inB x.known 0 1000000) = false) : 0 = repE x := by
  have : reportB x = true := by
    unfold reportB
    revert h
    cases fieldsB x <;> cases equalB x (fieldsR x) <;> cases inB x.id 1 1000000 <;> cases inB x.known 0 1000000 <;> simp
  simp [repE, this]
end Go.Lag
namespace Go.Lag
section
variable {x : Rep}
theorem fieldsB_1 (h : x.kind = 1) : fieldsB x = (inB x.hour 0 x.known && inB x.cell 0 39 && markB x.mark && nameB x.goods && spanB x.low x.high && inB x.party 1 40) := by simp [fieldsB, h]
theorem fieldsB_2 (h : x.kind = 2) : fieldsB x = (inB x.hour 0 x.known && parcelB x.parcel && inB x.count 2 8) := by simp [fieldsB, h]
theorem fieldsB_3 (h : x.kind = 3) {i : Nat} {b : Bool} (hb : b = (inB x.hour 0 x.known && inB x.parts.length 2 8 && partsOk x.parts i)) (hi : i ≤ x.parts.length) (hn : ¬ (i : Int) < (x.parts.length : Int)) : b = fieldsB x := by
  have hi2 : i = x.parts.length := by omega
  subst hi2
  rw [hb]; simp [fieldsB, h]
theorem fieldsB_4 (h : x.kind = 4) : fieldsB x = (inB x.hour 0 x.known && parcelB x.parcel && spanB x.low x.high) := by simp [fieldsB, h]
theorem fieldsB_5 (h : x.kind = 5) : fieldsB x = (inB x.hour 0 x.known && parcelB x.parcel && inB x.party 1 40) := by simp [fieldsB, h]
theorem fieldsB_6 (h : x.kind = 6) : fieldsB x = (inB x.hour 0 x.known && parcelB x.parcel && inB x.party 1 40) := by simp [fieldsB, h]
theorem fieldsB_7 (h : x.kind = 7) : fieldsB x = (inB x.hour 0 x.known && parcelB x.parcel && parcelB x.other && !decide (x.parcel = x.other)) := by simp [fieldsB, h]
theorem fieldsB_8 (h : x.kind = 8) : fieldsB x = (decide (x.hour = 0) && inB x.of 1 1000000 && !decide (x.of = x.id)) := by simp [fieldsB, h]
theorem fieldsB_0 (h1 : ¬ x.kind = 1) (h2 : ¬ x.kind = 2) (h3 : ¬ x.kind = 3) (h4 : ¬ x.kind = 4) (h5 : ¬ x.kind = 5) (h6 : ¬ x.kind = 6) (h7 : ¬ x.kind = 7) (h8 : ¬ x.kind = 8) : fieldsB x = false := by
  simp [fieldsB, h1, h2, h3, h4, h5, h6, h7, h8]
end
end Go.Lag
namespace Go.Lag
theorem void_T {l : List Rep} {i : Nat} {x : Rep} {m : List (Int × Bool)} {known : Int} (hx : l[i]? = some x) (hv : ∀ k, (aget m k).getD false = voidB (l.take i) known k) (h : (decide (x.kind = 8) && decide (x.known ≤ known)) = true) :
    ∀ k, (aget (aset m x.of true) k).getD false = voidB (l.take (i + 1)) known k := by
  simp only [Bool.and_eq_true, decide_eq_true_eq] at h
  exact void_t hx hv h.1 h.2
end Go.Lag
namespace Go.Lag
section
variable {l : List Rep} {i : Nat} {x : Rep}
theorem hidM_5 (hx : l[i]? = some x) (h : x.kind = 5) : aset (hidM (l.take i)) x.parcel true = hidM (l.take (i + 1)) := by rw [← hidM_succ hx]; simp [hid1, h]
theorem hidM_6 (hx : l[i]? = some x) (h : x.kind = 6) : aset (hidM (l.take i)) x.parcel false = hidM (l.take (i + 1)) := by rw [← hidM_succ hx]; simp [hid1, h]
theorem hidM_0 (hx : l[i]? = some x) (h : ¬ x.kind = 5) (h' : ¬ x.kind = 6) : hidM (l.take i) = hidM (l.take (i + 1)) := by rw [← hidM_succ hx]; simp [hid1, h, h']
end
end Go.Lag
namespace Go.Lag
section
variable {P : Program} {l : Env} {H : List Assn} {ty t u e : TypeId} {x y : Operand} {α : Type} {E : Elem α} {Z : Hp}
theorem SlFI {v : Value} {xs : List α} {k : IntKind} {j : Int} {sz : Nat} {lo : Operand} [hT : TSlice P t e] [hs : TSize P e sz] (hx : ev l x = some v := by rfl) (hlo : ev l lo = some (.int k j) := by rfl)
    (h : SlZ E Z v xs := by assumption) (hZ : Assn.zm Z ∈ H := by repeat (first | exact List.Mem.head _ | refine List.Mem.tail _ ?_)) (hle : 0 ≤ j ∧ j ≤ xs.length := by omega) : YldH P (.slice t x (some lo) none none) ty l H (slFrom sz v j.toNat) := fun w hw =>
  y_sliceFrom (i := j.toNat) hT.h hs.h hx hlo (by omega) (h.toR (hw.all _ hZ)) (by omega)
end
theorem relE_5 {l : List Rep} {of_ : Int} (h : idxF (fun x => decide (x.id = of_)) l < 0) : 5 = relE l of_ := by simp only [relE, if_pos h]
theorem relE_8' {l : List Rep} {of_ : Int} {x y : Rep} {j : Nat} (h : ¬ idxF (fun x => decide (x.id = of_)) l < 0) (hx : l[(idxF (fun x => decide (x.id = of_)) l).toNat]? = some x)
    (hy : (l.drop (idxF (fun x => decide (x.id = of_)) l + 1).toNat)[j]? = some y) (h1 : (!decide (x.kind = 4) && (touchesL x ++ makesL x).any fun p => namesB y p) = true) : 8 = relE l of_ := by
  simp only [Bool.and_eq_true, Bool.not_eq_true', decide_eq_false_iff_not] at h1
  exact relE_8 h hx hy h1.1 h1.2
theorem mem_drop_get {α : Type} {l : List α} {n i : Nat} {x : α} (h : (l.drop n)[i]? = some x) : x ∈ l := List.mem_of_mem_drop (List.mem_of_getElem? h)
end Go.Lag
namespace Go.Lag
theorem lookR' {Z : Hp} {b : Nat} {m : List (Int × Rep)} (h : MapZ (RZ Z) Z b m) {k : Int} {x : Rep} (hx : aget m k = some x) : ∃ pv, SlZ (EI .i64) Z pv x.parts ∧ LookZ Z repZero b k (repV x pv) true := by
  have := lookR h k
  simpa only [hx, Option.getD_some, Option.isSome_some] using this
end Go.Lag

namespace Go.Lag
open Go Go.Proofs
instance : TSpan Tryz.prog 40 3 := ⟨⟨⟨by kernel_rfl, by kernel_rfl, by kernel_rfl, by kernel_rfl⟩, by kernel_rfl, by kernel_rfl⟩⟩
end Go.Lag
