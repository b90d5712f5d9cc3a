/- Texts that the walks of package find lean on: part 4. -/
import Derived.Deep.Slices
import Derived.Below
import Derived.WideShapes
import Derived.ChangeArms
import Derived.DataReads
import Derived.Test.YtbbienodbjfgoaaGreatB3
set_option linter.unusedVariables false
set_option linter.unusedSimpArgs false

namespace Go.Lag
open Go Go.RowKit Go.Proofs
set_option maxRecDepth 100000 in
set_option maxHeartbeats 4000000 in
theorem terms_sp {Z : Hp} {b s pb : Nat} {l : List Rep} {iv : Value} (hB : BeaZ Z b l s iv pb := by assumption) (hil : (idsL l).length ≤ 1000000 := by assumption) {p : Int} (hp : p ∈ idsL l := by assumption) {up : Bool} {side : List Int} {sv : Value} (hs : SlZ (EI .i64) Z sv side := by assumption) : Sp Tryz.prog 122 [ptr b 0, .int .i64 p, .bool up, sv] [.zm Z] fun v H' => (termsL l p up side = none ∧ v = .tuple #[.slice none 0 0, .bool false] ∧ H' = []) ∨ (∃ ts tv, termsL l p up side = some ts ∧ v = .tuple #[tv, .bool true] ∧ H' = [.rw ET 226 tv ts]) := by
 refine Sp.of 83 Tryz.func122 rfl rfl rfl ?_
 intro F
 have hAn : (arcsL l).length ≤ 1000000 := by simpa [arcsL] using hil
 have hai := arcI_ok hp
 have hsl := hs.len_le
 refine Sr ?_
 refine Dbx (fun b5 => ?_)
 refine Y As ?_
 refine Y As ?_
 refine Nq ?_
 refine Sr ?_
 refine Y Mv ?_
 refine D (Cf (hs := graph_sp)) ?_
 rintro _ _ ⟨_, ⟨g, av, Za, rfl, hza, rfl⟩, rfl⟩
 refine Y As ?_
 refine Nq ?_
 refine Cut (fun l_ H_ => ∃ a0 b11, a0 = (aAt (arcsL l) (arcI l p)) ∧ l_ = [(2, .bool up), (3, sv), (5, ptr b5 0), (10, ptr g 0), (11, ptr b11 0)] ∧ H_ = .cl b11 (arcCells a0) 215 :: .cl g [av, .slice none 0 0] 213 :: .zm Za :: .cl b5 [.int .i64 p] 3 :: .zm Z :: F) ?_ ?_
 ·
  refine Dr (fun i => Nat.beq i 13) [.cl g [av, .slice none 0 0] 213, .zm Za, .cl b5 [.int .i64 p] 3, .zm Z] (by repeat (first | exact SubH.refl | exact SubH.nil | refine SubH.cons (by repeat (first | exact Pick.head | apply Pick.tail)) ?_ | refine SubH.skip ?_)) ?_
  refine Tk 0 [1, 2, 3, 10, 11, 13] rfl Mv ?_
  refine Tk 1 [2, 3, 10, 11, 13] rfl Nc ?_
  refine Tk 2 [3, 10, 11, 13] rfl Fa ?_
  refine Tk 3 [10, 11, 13] rfl Ld ?_
  refine Tk 4 [5, 6, 7, 9, 10, 11, 13] rfl Mv ?_
  refine Tk 5 [6, 7, 9, 10, 11, 13] rfl Nc ?_
  refine Tk 6 [7, 9, 10, 11, 13] rfl Fa ?_
  refine Tk 7 [9, 10, 11, 13] rfl Ld ?_
  refine Tk 8 [9, 10, 11, 13] rfl Mf ?_
  refine Tw 9 12 ?_ ?_
  ·
   refine Og rfl (Cf (hs := indexA_sp (ff := []) (fc := [ptr b5 0]) (preF := [.cl b5 [.int .i64 p] 3]) (p := fun a => decide (a.parcel = p)) (fun a _ => terms1_sp))) ?_
   rintro _ _ ⟨_, ⟨rfl, rfl⟩, rfl⟩
   refine ⟨fun _ => (by repeat (first | exact SubH.refl | exact SubH.nil | refine SubH.cons (by repeat (first | exact Pick.head | apply Pick.tail)) ?_ | refine SubH.skip ?_)), ?_⟩
   obtain ⟨x29, b29, o29, hx29, he29, hc29⟩ := SlZ.atF (fun x => arcCells x) (fun _ _ h => h) hza (arcI l p).toNat (by omega)
   obtain rfl : x29 = (aAt (arcsL l) (arcI l p)) := (aAt_int hx29).symm
   refine Tk 10 [11, 13] rfl (IxY rfl rfl hai.1 he29) ?_
   refine Tk 11 [13] rfl LdN ?_
   refine Gx 12 rfl Al ?_
   rintro _ _ ⟨b11, rfl, rfl⟩
   refine ⟨fun _ => (by repeat (first | exact SubH.refl | exact SubH.nil | refine SubH.cons (by repeat (first | exact Pick.head | apply Pick.tail)) ?_ | refine SubH.skip ?_)), ?_⟩
   refine Gxn 13 rfl St ?_
   rintro _ _ rfl
   refine ⟨fun h_ => absurd h_ (by decide), ?_⟩
   refine An ?_
   refine Cx ⟨_, b11, rfl, rfl, rfl⟩ ⟨rfl, rfl, rfl, rfl, rfl, trivial⟩
  ·
   refine Og rfl Al ?_
   rintro _ _ ⟨b11, rfl, rfl⟩
   refine ⟨fun _ => (by repeat (first | exact SubH.refl | exact SubH.nil | refine SubH.cons (by repeat (first | exact Pick.head | apply Pick.tail)) ?_ | refine SubH.skip ?_)), ?_⟩
   refine Gx 9 rfl (Cf (hs := indexA_sp (ff := []) (fc := [ptr b5 0]) (preF := [.cl b5 [.int .i64 p] 3]) (p := fun a => decide (a.parcel = p)) (fun a _ => terms1_sp))) ?_
   rintro _ _ ⟨_, ⟨rfl, rfl⟩, rfl⟩
   refine ⟨fun _ => (by repeat (first | exact SubH.refl | exact SubH.nil | refine SubH.cons (by repeat (first | exact Pick.head | apply Pick.tail)) ?_ | refine SubH.skip ?_)), ?_⟩
   obtain ⟨x29, b29, o29, hx29, he29, hc29⟩ := SlZ.atF (fun x => arcCells x) (fun _ _ h => h) hza (arcI l p).toNat (by omega)
   obtain rfl : x29 = (aAt (arcsL l) (arcI l p)) := (aAt_int hx29).symm
   refine Tk 10 [11, 13] rfl (IxY rfl rfl hai.1 he29) ?_
   refine Tk 11 [13] rfl LdN ?_
   refine Gxn 13 rfl St ?_
   rintro _ _ rfl
   refine ⟨fun h_ => absurd h_ (by decide), ?_⟩
   refine An ?_
   refine Cx ⟨_, b11, rfl, rfl, rfl⟩ ⟨rfl, rfl, rfl, rfl, rfl, trivial⟩
 ·
  rintro _ _ ⟨a0, b11, ha0, rfl, rfl⟩
  refine Sq ?_
  refine Sr ?_
  refine Y Mv ?_
  refine Y Ln ?_
  refine Y Eq_ ?_
  refine Nq ?_
  refine Cp (fun h2 => ?_) fun h2 => ?_
  ·
   refine Sr ?_
   refine Y LdN ?_
   refine Y Mv ?_
   refine Y (Bd (hf := by kernel_rfl) (cs := [.int .i64 a0.parcel, .int .i64 a0.from_, .int .i64 a0.to, .int .i64 a0.low, .int .i64 a0.high, .bool up, .int .i64 1].toArray)) ?_
   refine D Bs ?_
   rintro _ _ ⟨b37, rfl, rfl⟩
   refine ToRw1 ET ⟨a0, up, 1⟩ ?_
   refine Y As ?_
   refine Y As ?_
   refine Nq ?_
   refine Rt ?_
   refine Rh ?_
   refine Rv2 [.rw ET 226 (.slice (some ⟨b37, 0, none⟩) 1 1) [⟨a0, up, 1⟩]] ?_
   exact .inr ⟨[⟨a0, up, 1⟩], _, by rw [termsL, if_pos (by omega), ← ha0], rfl, rfl⟩
  ·
   refine Sk ?_
   refine Pq ?_
   refine Sr ?_
   refine Y LdN ?_
   refine Y Mv ?_
   refine Cv (hs := across_sp) (h := ?_)
   refine Y As ?_
   refine Nq ?_
   refine Sq ?_
   refine Sr ?_
   refine Y Mv ?_
   refine Y Eq_ ?_
   refine Nq ?_
   refine Cp (fun h4 => ?_) fun h4 => ?_
   ·
    refine Sr ?_
    refine Y As ?_
    refine Y As ?_
    refine Nq ?_
    refine Rt ?_
    refine Rh ?_
    refine Rv2 [] ?_
    exact .inl ⟨by rw [termsL, if_neg (by omega), ← ha0, if_pos h4], rfl, rfl⟩
   ·
    refine Sk ?_
    refine Pq ?_
    refine Sr ?_
    have hside : ¬ side.length = 0 := by omega
    have hway := h4
    refine Y As ?_
    refine Nq ?_
    refine Sq ?_
    refine Sr ?_
    refine Y Mv ?_
    refine Y Nc ?_
    refine Y Fa ?_
    refine Y Ld ?_
    refine Y Ln ?_
    refine Y Mv ?_
    refine Nq ?_
    refine Bk ?_
    refine NilRwW ET 226 ?_
    refine Lp (fun n_ l_ H_ => ∃ (i : Nat) (ov : Value) (out : List Trm), n_ = (arcsL l).length - i ∧ l_ = [(2, .bool up), (3, sv), (5, ptr b5 0), (12, .int .i64 (acrossN a0 side)), (13, ov), (46, av), (47, .int .i64 ((arcsL l).length : Int)), (48, .int .i64 (i : Int))] ∧ H_ = .rw ET 226 ov out :: .cl b5 [.int .i64 p] 3 :: .zm Za :: .zm Z :: F ∧ (i ≤ (arcsL l).length) ∧ (out = ((arcsL l).take i).flatMap (term1 p up side (acrossN a0 side)))) ⟨0, (.slice none 0 0), [], rfl, rfl, rfl, (by omega), (by simp)⟩ ⟨rfl, rfl, rfl, rfl, rfl, rfl, rfl, rfl, trivial⟩ ?_
    rintro _ _ _ ⟨i, ov, out, rfl, rfl, rfl, hi, hout⟩
    have hol : out.length ≤ i := by rw [hout]; exact Nat.le_trans term_len (by simp; omega)
    refine Sr ?_
    refine Y Lt ?_
    refine Nq ?_
    refine Sq ?_
    refine Cp (fun h6 => ?_) fun h6 => ?_
    ·
     refine Sk ?_
     refine Pq ?_
     refine Sq ?_
     refine Bk ?_
     refine Sr ?_
     obtain ⟨x50, b50, o50, hx50, he50, hc50⟩ := SlZ.atF (fun x => arcCells x) (fun _ _ h => h) hza i (by omega)
     refine Y (IxY rfl rfl (by omega) he50) ?_
     refine Y LdN ?_
     refine Dal fun b15 => ?_
     refine Dsw ?_
     refine Nq ?_
     refine Sr ?_
     refine Y LdN ?_
     refine Y Mv ?_
     refine Cv (hs := across_sp) (h := ?_)
     refine Y As ?_
     refine Nq ?_
     refine Bk ?_
     refine Sr ?_
     refine Y Fa ?_
     refine Y Ld ?_
     refine Y Ld ?_
     refine Y Eq_ ?_
     refine Y Mv ?_
     refine Ga 2 4 false 68 (fun h8 => by
      refine Yg h8 Mv ?_
      refine Yg h8 Eq_ ?_
      exact Gg) ?_
     refine Y PkO ?_
     refine Y As ?_
     refine Nq ?_
     refine Ct (fun h11 => ?_) fun h11 => ?_
     ·
      refine Sk ?_
      refine Pb ?_
      refine Pb ?_
      refine Pq ?_
      refine Rg ?_
      refine Y Ad ?_
      refine Y Mv ?_
      refine Nl ?_
      refine Re ⟨(i + 1), ov, out, rfl, rfl, rfl, (by omega), (by rw [term_succ hx50, ← hout, term1, if_pos h11, List.append_nil])⟩ (by omega) ⟨rfl, rfl, rfl, rfl, rfl, rfl, rfl, rfl, trivial⟩
     ·
      refine Sr ?_
      refine Y Mv ?_
      refine Y Mv ?_
      refine Y Eq_ ?_
      refine Y As ?_
      refine Nq ?_
      refine Cp (fun h13 => ?_) fun h13 => ?_
      ·
       refine Rg ?_
       refine Y Mv ?_
       refine Y LdN ?_
       refine Y Mv ?_
       refine Y Nt ?_
       refine Y (Bd (hf := by kernel_rfl) (cs := [.int .i64 x50.parcel, .int .i64 x50.from_, .int .i64 x50.to, .int .i64 x50.low, .int .i64 x50.high, .bool (!up), .int .i64 (-1)].toArray)) ?_
       refine D Bs ?_
       rintro _ _ ⟨b79, rfl, rfl⟩
       refine D (Ap1 (⟨x50, !up, -1⟩ : Trm) (hm := by omega)) ?_
       rintro v80 _ rfl
       refine Y As ?_
       refine Nl ?_
       refine Pb ?_
       refine Pb ?_
       refine Pq ?_
       refine Rg ?_
       refine Y Ad ?_
       refine Y Mv ?_
       refine Nl ?_
       refine Re ⟨(i + 1), v80, (out ++ [⟨x50, !up, -1⟩]), rfl, rfl, rfl, (by omega), (by rw [term_succ hx50, ← hout, term1, if_neg (by rw [h11]; simp), if_pos h13])⟩ (by omega) ⟨rfl, rfl, rfl, rfl, rfl, rfl, rfl, rfl, trivial⟩
      ·
       refine Rg ?_
       refine Y Mv ?_
       refine Y LdN ?_
       refine Y Mv ?_
       refine Y (Bd (hf := by kernel_rfl) (cs := [.int .i64 x50.parcel, .int .i64 x50.from_, .int .i64 x50.to, .int .i64 x50.low, .int .i64 x50.high, .bool up, .int .i64 1].toArray)) ?_
       refine D Bs ?_
       rintro _ _ ⟨b59, rfl, rfl⟩
       refine D (Ap1 (⟨x50, up, 1⟩ : Trm) (hm := by omega)) ?_
       rintro v60 _ rfl
       refine Y As ?_
       refine Nl ?_
       refine Pb ?_
       refine Pb ?_
       refine Pq ?_
       refine Rg ?_
       refine Y Ad ?_
       refine Y Mv ?_
       refine Nl ?_
       refine Re ⟨(i + 1), v60, (out ++ [⟨x50, up, 1⟩]), rfl, rfl, rfl, (by omega), (by rw [term_succ hx50, ← hout, term1, if_neg (by rw [h11]; simp), if_neg h13])⟩ (by omega) ⟨rfl, rfl, rfl, rfl, rfl, rfl, rfl, rfl, trivial⟩
    ·
     refine Ex ?_
     refine Xt ?_
     refine Xt ?_
     refine Xb ?_
     refine Pq ?_
     refine Sr ?_
     refine Y Mv ?_
     refine Y As ?_
     refine Y As ?_
     refine Nq ?_
     refine Rt ?_
     rw [take_all (by assumption)] at hout
     subst hout
     refine Rv2 [.rw ET 226 ov ((arcsL l).flatMap (term1 p up side (acrossN a0 side)))] ?_
     exact .inr ⟨_, ov, by rw [termsL, if_neg hside, ← ha0, if_neg hway], rfl, rfl⟩

end Go.Lag

namespace Go.Lag
open Go Go.RowKit Go.Proofs
set_option maxRecDepth 100000 in
set_option maxHeartbeats 4000000 in
theorem checkSide_sp {Z : Hp} {l : List Rep} {lv : Value} (hl : SlZ (EZ Z) Z lv l := by assumption) {known : Int} (hn : l.length ≤ 1000 := by assumption) (hg : (checkE l).2 = 0 → GoodL (countL l known) := by first | assumption | exact good_of) {p : Int} {up : Bool} {side : List Int} {sv : Value} (hsd : SlZ (EI .i64) Z sv side := by assumption) {end_ : Int} : Sp Tryz.prog 59 [lv, .int .i64 known, .int .i64 p, .bool up, .int .i64 end_, sv] [.zm Z] fun v H' => v = .tuple #[.bool (sideCk l known p up end_ side).1, .int .i64 (sideCk l known p up end_ side).2] ∧ H' = [] := by
 refine Sp.of 78 Tryz.func59 rfl rfl rfl ?_
 intro F
 refine Sr ?_
 refine Y As ?_
 refine Y As ?_
 refine Nq ?_
 refine Sr ?_
 refine Y Mv ?_
 refine Y Mv ?_
 refine Y Mv ?_
 refine D Bs ?_
 rintro _ _ ⟨b25, rfl, rfl⟩
 refine ToRwI [p] ?_
 refine FzI fun Zp hzp1 hzp2 => ?_
 have hl2 := hl.up hzp1
 refine D (Cf (hs := looks_sp (hl := hl2) (hps := hzp2))) ?_
 rintro _ _ ⟨_, ⟨Z26, bv26, hZ26, rfl, rfl, hb26, hc26⟩, rfl⟩
 refine Y Mv ?_
 refine Y Xc ?_
 refine Y Xc ?_
 refine Y As ?_
 refine Y As ?_
 refine Nq ?_
 refine Sq ?_
 refine Sr ?_
 refine Y Mv ?_
 refine Y Ne_ ?_
 refine Nq ?_
 refine Cn (fun h2 => ?_) fun h2 => ?_
 ·
  refine Sr ?_
  refine Y Mv ?_
  refine Y As ?_
  refine Y As ?_
  refine Nq ?_
  refine Rt ?_
  refine Rh ?_
  refine Rv2 [] ?_
  rw [show sideCk l known p up end_ side = (false, lookE l known [p]) from by rw [sideCk, if_pos h2]]
  exact ⟨rfl, rfl⟩
 ·
  refine Sk ?_
  refine Pq ?_
  refine Sq ?_
  refine Sr ?_
  have hE := h2
  obtain ⟨b, s, iv, pb, rfl, hB⟩ := hb26 hE
  obtain ⟨hc0, hin⟩ := look_mem hE
  have hI := (checked hc0).inv known
  obtain ⟨r1, r2, hmd, hrk, hend⟩ := hI.good
  have hr := checked_rep hc0
  have hsm : ∀ x ∈ (countL l known), Small x := fun y hy => (report_small (hr y (count_mem hy))).1
  have hml := maker_len hsm
  have hcl := count_len l known
  have hul : (madeL (countL l known)).length = (makerM (countL l known)).length := by simp [madeL]
  have hid := ids_len (countL l known)
  have hpi : p ∈ idsL (countL l known) := hin p (List.mem_cons_self ..)
  have hil : (idsL (countL l known)).length ≤ 1000000 := by omega
  have hAb := ab_of (known := known) hc0
  have hAn : (arcsL (countL l known)).length ≤ 1000000 := by simpa [arcsL] using hil
  have hsz := hsd.mono (hzp1.trans hZ26)
  refine Y Mv ?_
  refine Y Mv ?_
  refine Cv (hs := isSide_sp (side := side)) (h := ?_)
  refine Y Nt ?_
  refine Nq ?_
  refine Ct (fun h4 => ?_) fun h4 => ?_
  ·
   have h5 := nb_i h4
   refine Sr ?_
   refine Y As ?_
   refine Y As ?_
   refine Nq ?_
   refine Rt ?_
   refine Rh ?_
   refine Rv2 [] ?_
   rw [show sideCk l known p up end_ side = (false, 0) from by rw [sideCk, if_neg (by rw [hE]; simp), if_pos h5]]
   exact ⟨rfl, rfl⟩
  ·
   have h6 := nb_g h4
   refine Sk ?_
   refine Pq ?_
   refine Sr ?_
   have hok : isSideL (countL l known) side = true := h6
   refine Y Mv ?_
   refine Y Mv ?_
   refine Y Mv ?_
   refine Y Mv ?_
   refine D (Cf (hs := terms_sp (p := p) (up := up) (side := side))) ?_
   rintro _ _ ⟨_, (⟨htn, rfl, rfl⟩ | ⟨ts, tv, hts, rfl, rfl⟩), rfl⟩
   ·
    refine Y Mv ?_
    refine Y Xc ?_
    refine Y Xc ?_
    refine Y As ?_
    refine Y As ?_
    refine Nq ?_
    refine Sq ?_
    refine Sr ?_
    refine Y Mv ?_
    refine Y Nt ?_
    refine Nq ?_
    refine CtT rfl ?_
    refine Sr ?_
    refine Y As ?_
    refine Y As ?_
    refine Nq ?_
    refine Rt ?_
    refine Rh ?_
    refine Rv2 [] ?_
    rw [show sideCk l known p up end_ side = (false, 0) from by rw [sideCk, if_neg (by rw [hE]; simp), if_neg (by rw [hok]; simp), htn]]
    exact ⟨rfl, rfl⟩
   ·
    have htm := terms_mem hpi hts
    have htl := terms_len hts
    refine Y Mv ?_
    refine Y Xc ?_
    refine Y Xc ?_
    refine Y As ?_
    refine Y As ?_
    refine Nq ?_
    refine Sq ?_
    refine Sr ?_
    refine Y Mv ?_
    refine Y Nt ?_
    refine Nq ?_
    refine CtF rfl ?_
    refine Sk ?_
    refine Pq ?_
    refine Sr ?_
    refine Y As ?_
    refine Nq ?_
    refine Sq ?_
    refine Sr ?_
    refine Y Mv ?_
    refine Y Ln ?_
    refine Y Mv ?_
    refine Nq ?_
    refine Bk ?_
    refine Lp (fun n_ l_ H_ => ∃ (i : Nat) (sm : Int), n_ = ts.length - i ∧ l_ = [(3, .bool up), (4, .int .i64 end_), (18, .int .i64 sm), (46, tv), (47, .int .i64 (ts.length : Int)), (48, .int .i64 (i : Int))] ∧ H_ = .rw ET 226 tv ts :: .zm Z26 :: F ∧ (i ≤ ts.length) ∧ (sm = tsumL (ts.take i))) ⟨0, 0, rfl, rfl, rfl, (by omega), (by simp [tsumL])⟩ ⟨rfl, rfl, rfl, rfl, rfl, rfl, trivial⟩ ?_
    rintro _ _ _ ⟨i, sm, rfl, rfl, rfl, hi, hsum⟩
    refine Sr ?_
    refine Y Lt ?_
    refine Nq ?_
    refine Sq ?_
    refine Cp (fun h8 => ?_) fun h8 => ?_
    ·
     refine Sk ?_
     refine Pq ?_
     refine Sq ?_
     refine Bk ?_
     refine Sr ?_
     refine IxN fun x50 b50 o50 hx50 he50 => ?_
     refine Y LdN ?_
     refine Dal fun b20 => ?_
     refine Dsw ?_
     refine Nq ?_
     refine Dr (fun i => false) [.cl b20 (trmCells x50) 226] (by repeat (first | exact SubH.refl | exact SubH.nil | refine SubH.cons (by repeat (first | exact Pick.head | apply Pick.tail)) ?_ | refine SubH.skip ?_)) ?_
     refine Tk 0 [] rfl Mv ?_
     refine Tk 1 [] rfl Fa ?_
     refine Tk 2 [] rfl Ld ?_
     refine Tk 3 [] rfl Fa ?_
     refine Tk 4 [] rfl LdN ?_
     refine Tk 5 [] rfl Fa ?_
     refine Tk 6 [] rfl Ld ?_
     refine Gx 7 rfl (Cf (hs := end_sp)) ?_
     rintro _ _ ⟨_, ⟨rfl, rfl⟩, rfl⟩
     refine ⟨fun _ => (by repeat (first | exact SubH.refl | exact SubH.nil | refine SubH.cons (by repeat (first | exact Pick.head | apply Pick.tail)) ?_ | refine SubH.skip ?_)), ?_⟩
     have hvb := val_bnd hAb (htm _ (mem_get hx50))
     refine Tk 8 [] rfl (Ml (h := by omega)) ?_
     have hsb := tsum_bnd hAb (ts.take i) (fun t ht => htm t (List.mem_of_mem_take ht))
     simp only [List.length_take] at hsb
     rw [← hsum] at hsb
     refine Tk 9 [] rfl (Ad (h := by omega)) ?_
     refine Tk 10 [] rfl As ?_
     refine An ?_
     refine Pb ?_
     refine Pq ?_
     refine Rg ?_
     refine Y Ad ?_
     refine Y Mv ?_
     refine Nl ?_
     refine Re ⟨(i + 1), (sm + x50.sign * endA x50.arc x50.upper), rfl, rfl, rfl, (by omega), (by rw [tsum_succ hx50, ← hsum])⟩ (by omega) ⟨rfl, rfl, rfl, rfl, rfl, rfl, trivial⟩
    ·
     refine Ex ?_
     refine Xt ?_
     refine Xt ?_
     refine Xb ?_
     refine Pq ?_
     refine Sr ?_
     refine Y Mv ?_
     refine Y Mv ?_
     refine GcB 63 (fun h10 => ?_) fun h10 => ?_
     ·
      refine Gt h10 ?_
      refine Y Mv ?_
      refine Gt h10 ?_
      refine Y Mv ?_
      refine Gt h10 ?_
      refine Y Le ?_
      refine Y (PkT (hb := h10)) ?_
      refine Y Mv ?_
      refine GcD 67 (fun h12 => ?_) fun h12 => ?_
      ·
       refine Gf (decide_eq_true h12) ?_
       refine Gf (decide_eq_true h12) ?_
       refine Gf (decide_eq_true h12) ?_
       refine Gu ?_
       refine Gu ?_
       refine Gu ?_
       refine Gf (decide_eq_true h12) ?_
       refine Y (PkT (hb := decide_eq_true h12)) ?_
       refine Y As ?_
       refine Y As ?_
       refine Nq ?_
       refine Rt ?_
       rw [take_all (by assumption)] at hsum
       subst hsum
       refine Rv2 [] ?_
       rw [show sideCk l known p up end_ side = (sideOk up (tsumL ts) end_, 0) from by rw [sideCk, if_neg (by rw [hE]; simp), if_neg (by rw [hok]; simp), hts]]
       exact ⟨by simp [sideOk, h10, h12], rfl⟩
      ·
       refine Gt (decide_eq_false h12) ?_
       refine Y Mv ?_
       refine Gt (decide_eq_false h12) ?_
       refine Y Nt ?_
       refine Gt (decide_eq_false h12) ?_
       refine Y Mv ?_
       refine Gf (nb_f h10) ?_
       refine Gf (nb_f h10) ?_
       refine Gf (nb_f h10) ?_
       refine Gt (decide_eq_false h12) ?_
       refine Y (PkF (hb := nb_f h10)) ?_
       refine Y (PkF (hb := decide_eq_false h12)) ?_
       refine Y As ?_
       refine Y As ?_
       refine Nq ?_
       refine Rt ?_
       rw [take_all (by assumption)] at hsum
       subst hsum
       refine Rv2 [] ?_
       rw [show sideCk l known p up end_ side = (sideOk up (tsumL ts) end_, 0) from by rw [sideCk, if_neg (by rw [hE]; simp), if_neg (by rw [hok]; simp), hts]]
       exact ⟨by simp [sideOk, h10, h12], rfl⟩
     ·
      refine Gf h10 ?_
      refine Gf h10 ?_
      refine Gf h10 ?_
      refine Y (PkF (hb := h10)) ?_
      refine Y Mv ?_
      refine Gt rfl ?_
      refine Y Mv ?_
      refine Gt rfl ?_
      refine Y Nt ?_
      refine Gt rfl ?_
      refine Y Mv ?_
      refine Gt (nb_t h10) ?_
      refine Y Mv ?_
      refine Gt (nb_t h10) ?_
      refine Y Mv ?_
      refine Gt (nb_t h10) ?_
      refine Y Ge ?_
      refine Gt rfl ?_
      refine Y (PkT (hb := nb_t h10)) ?_
      refine Y (PkF (hb := rfl)) ?_
      refine Y As ?_
      refine Y As ?_
      refine Nq ?_
      refine Rt ?_
      rw [take_all (by assumption)] at hsum
      subst hsum
      refine Rv2 [] ?_
      rw [show sideCk l known p up end_ side = (sideOk up (tsumL ts) end_, 0) from by rw [sideCk, if_neg (by rw [hE]; simp), if_neg (by rw [hok]; simp), hts]]
      exact ⟨by simp [sideOk, h10], rfl⟩

end Go.Lag

namespace Go.Lag
open Go Go.RowKit Go.Proofs
set_option maxRecDepth 100000 in
set_option maxHeartbeats 4000000 in
theorem chain_sp {Z : Hp} {l : List Rep} {lv : Value} (hl : SlZ (EZ Z) Z lv l := by assumption) {known : Int} (hn : l.length ≤ 1000 := by assumption) (hg : (checkE l).2 = 0 → GoodL (countL l known) := by first | assumption | exact good_of) {f p : Int} : Sp Tryz.prog 30 [lv, .int .i64 known, .int .i64 f, .int .i64 p] [.zm Z] fun v H' => ∃ sv, v = .tuple #[sv, .int .i64 (chainE l known f p).2] ∧ H' = [.rw (EI .i64) 3 sv (chainE l known f p).1] := by
 refine Sp.of 174 Tryz.func30 rfl rfl rfl ?_
 intro F
 refine Sr ?_
 refine Y As ?_
 refine Y As ?_
 refine Nq ?_
 refine Sco ?_
 refine Sr ?_
 refine Y Mv ?_
 refine Y Mv ?_
 refine Y Mv ?_
 refine Y Mv ?_
 refine D Bs ?_
 rintro _ _ ⟨b37, rfl, rfl⟩
 refine ToRwI [f, p] ?_
 refine FzI fun Zp hzp1 hzp2 => ?_
 have hl2 := hl.up hzp1
 refine D (Cf (hs := looks_sp (hl := hl2) (hps := hzp2))) ?_
 rintro _ _ ⟨_, ⟨Z38, bv38, hZ38, rfl, rfl, hb38, hc38⟩, rfl⟩
 refine Y Mv ?_
 refine Y Xc ?_
 refine Y Xc ?_
 refine Y As ?_
 refine Y As ?_
 refine Nq ?_
 refine Sq ?_
 refine Sr ?_
 refine Y Mv ?_
 refine Y Ne_ ?_
 refine Nq ?_
 refine Cn (fun h2 => ?_) fun h2 => ?_
 ·
  refine Sr ?_
  refine Y Mv ?_
  refine Y As ?_
  refine Y As ?_
  refine Nq ?_
  refine Rt ?_
  refine Rh ?_
  refine ScR ?_
  refine NilRwP (EI .i64) 3 ?_
  refine Rv2 [.rw (EI .i64) 3 (.slice none 0 0) []] ?_
  exact ⟨_, by rw [chainE, if_pos h2], by rw [chainE, if_pos h2]⟩
 ·
  refine Sk ?_
  refine Pq ?_
  refine Sr ?_
  have hE := h2
  obtain ⟨b, s, iv, pb, rfl, hB⟩ := hb38 hE
  obtain ⟨hc0, hin⟩ := look_mem hE
  have hI := (checked hc0).inv known
  obtain ⟨r1, r2, hmd, hrk, hend⟩ := hI.good
  have hr := checked_rep hc0
  have hsm : ∀ x ∈ (countL l known), Small x := fun y hy => (report_small (hr y (count_mem hy))).1
  have hml := maker_len hsm
  have hcl := count_len l known
  have hul : (madeL (countL l known)).length = (makerM (countL l known)).length := by simp [madeL]
  have hid := ids_len (countL l known)
  obtain ⟨hc0_, hin_⟩ := look_mem hE
  have hpi : p ∈ idsL (countL l known) := hin_ p (by simp)
  have hpm : p ∈ madeL (countL l known) := made_mem.2 (ids_mem hpi)
  obtain ⟨lv9, mb9, ub9, hb9, hS⟩ := hB.st
  have hba := hB.at_
  have hbp := hB.ps
  have hbi := hB.ids
  have hat := hS.at_
  have hmk := hS.mm
  have hus := hS.us
  refine D (Mm (EN)) ?_
  rintro _ _ ⟨m44, rfl, rfl⟩
  refine Y Mv ?_
  refine Dn (In (0 : Int)) ?_
  rintro _ _ rfl
  refine Y Mv ?_
  refine Y As ?_
  refine Nq ?_
  refine Sr ?_
  refine Y Mv ?_
  refine D Bs ?_
  rintro _ _ ⟨b48, rfl, rfl⟩
  refine ToRwI [p] ?_
  refine Y As ?_
  refine Nq ?_
  refine Sq ?_
  refine Bk ?_
  refine Lp (fun n_ l_ H_ => ∃ (n : Nat) (s : FSt) (rv : Value), n_ = 0 + n ∧ l_ = [(2, .int .i64 f), (10, ptr b 0), (12, .map (some m44)), (13, rv)] ∧ H_ = .mp EN m44 s.far :: .rw (EI .i64) 3 rv s.row :: .zm Z38 :: F ∧ (n ≤ ((makerM (countL l known)).length + 2)) ∧ (fBfs (backL (countL l known)) n s = fBfs (backL (countL l known)) ((makerM (countL l known)).length + 2) (fStart p)) ∧ (todoF (madeL (countL l known)) s < n) ∧ (FInv (backL (countL l known)) (madeL (countL l known)) p s)) ⟨((makerM (countL l known)).length + 2), (fStart p), _, rfl, rfl, rfl, (Nat.le_refl _), (Eq.refl _), (by have := fStart_todo (madeL (countL l known)) p; omega), (fStart_inv hpm)⟩ ⟨rfl, rfl, rfl, rfl, trivial⟩ ?_
  rintro _ _ _ ⟨n, s, rv, rfl, rfl, rfl, hnN, hres, hn_, hF⟩
  have hrw0 : s.row.length ≤ 100000 := by unfold todoF at hn_; omega
  refine Sq ?_
  refine Sr ?_
  refine Y Mv ?_
  refine Y Ln ?_
  refine Y Gr ?_
  refine Nq ?_
  refine Cp (fun h4 => ?_) fun h4 => ?_
  ·
   refine Sk ?_
   refine Pq ?_
   refine Bk ?_
   refine Sr ?_
   refine Y Mv ?_
   refine IxN (i := 0) fun x53 b53 o53 hx53 he53 => ?_
   refine Y Ld ?_
   refine Y As ?_
   refine Nq ?_
   refine Sr ?_
   refine Y Mv ?_
   refine SlOd (i := 1) (fun v56 => ?_)
   refine Y As ?_
   refine Nq ?_
   refine Sr ?_
   refine Y Mv ?_
   refine Y Mv ?_
   refine D (Cf (hs := back_sp (p := x53))) ?_
   rintro v59 _ ⟨_, ⟨Z59, hz59, rfl⟩, rfl⟩
   have hzl := hz59.len_le
   refine Y Ln ?_
   refine Y Mv ?_
   refine Nq ?_
   refine Bk ?_
   have hxm : x53 ∈ madeL (countL l known) := hF.inU _ (hF.row _ (mem_get hx53))
   have hUx := back_in hmd x53 hxm
   have hbn := fBfs_next hn_ hx53 hUx
   refine Lp (fun n_ l_ H_ => ∃ (j : Nat) (rv2 : Value) (s2 : FSt), n_ = (backL (countL l known) x53).length - j ∧ l_ = [(2, .int .i64 f), (10, ptr b 0), (12, .map (some m44)), (13, rv2), (14, .int .i64 x53), (59, v59), (60, .int .i64 ((backL (countL l known) x53).length : Int)), (61, .int .i64 (j : Int))] ∧ H_ = .mp EN m44 s2.far :: .rw (EI .i64) 3 rv2 s2.row :: .zm Z59 :: .zm Z38 :: F ∧ (j ≤ (backL (countL l known) x53).length) ∧ (s2 = ((backL (countL l known) x53).take j).foldl (fPush x53) (⟨s.far, s.row.drop 1⟩ : FSt)) ∧ (FInv (backL (countL l known)) (madeL (countL l known)) p s2 ∧ (aget s2.far x53).isSome = true)) ⟨0, v56, (⟨s.far, s.row.drop 1⟩ : FSt), rfl, rfl, rfl, (by omega), rfl, ⟨fPop_inv hF 1, hF.row _ (mem_get hx53)⟩⟩ ⟨rfl, rfl, rfl, rfl, rfl, rfl, rfl, rfl, trivial⟩ ?_
   rintro _ _ _ ⟨j, rv2, s2, rfl, rfl, rfl, hj, hs2, hF2⟩
   have hrw : s2.row.length ≤ 100000 := by have h1 := fRow_todo (U := madeL (countL l known)) (p := x53) ((backL (countL l known) x53).take j) (⟨s.far, s.row.drop 1⟩ : FSt) (fun q hq => hUx q (List.mem_of_mem_take hq)); rw [← hs2] at h1; simp only [todoF, List.length_drop] at h1 hn_; omega
   refine Sr ?_
   refine Y Lt ?_
   refine Nq ?_
   refine Sq ?_
   refine Cp (fun h6 => ?_) fun h6 => ?_
   ·
    refine Sk ?_
    refine Pq ?_
    refine Sq ?_
    refine Bk ?_
    refine Sr ?_
    obtain ⟨x63, b63, o63, hx63, he63, hc63⟩ := SlZ.atI hz59 j (by omega)
    refine Y (IxY rfl rfl (by omega) he63) ?_
    refine Y Ld ?_
    refine Y As ?_
    refine Nq ?_
    refine Sr ?_
    refine Y Mv ?_
    refine Y Mv ?_
    refine Y LkN2 ?_
    refine Y Mv ?_
    refine Y Xc ?_
    refine Y Xc ?_
    refine Y As ?_
    refine Y As ?_
    refine Nq ?_
    refine Sr ?_
    refine Y Mv ?_
    refine Y Nt ?_
    refine Nq ?_
    refine Ct (fun h8 => ?_) fun h8 => ?_
    ·
     have h9 := nb_i h8
     refine Sr ?_
     refine Y Mv ?_
     refine Y Mv ?_
     refine Y Mv ?_
     refine Y Mv ?_
     refine Y LkN ?_
     have hgb := hF2.1.bnd x53
     refine Y Ad ?_
     refine Dn (Mu (gN s2.far x53 + 1)) ?_
     rintro _ _ rfl
     refine Nq ?_
     refine Rg ?_
     refine Y Mv ?_
     refine Y Mv ?_
     refine D Bs ?_
     rintro _ _ ⟨b81, rfl, rfl⟩
     refine D (Ap1 x63 (hm := by omega)) ?_
     rintro v82 _ rfl
     refine Y As ?_
     refine Nl ?_
     refine Pb ?_
     refine Pq ?_
     refine Rg ?_
     refine Y Ad ?_
     refine Y Mv ?_
     refine Nl ?_
     refine Re ⟨(j + 1), v82, ⟨aset s2.far x63 (gN s2.far x53 + 1), s2.row ++ [x63]⟩, rfl, rfl, rfl, (by omega), (by rw [foldl_take_succ hx63, ← hs2, fPush_f h9]), (by have hpp := fPush_inv hF2.1 hF2.2 (mem_get hx63) (hUx _ (mem_get hx63)); rw [fPush_f h9] at hpp; exact hpp)⟩ (by omega) ⟨rfl, rfl, rfl, rfl, rfl, rfl, rfl, rfl, trivial⟩
    ·
     have h10 := nb_g h8
     refine Sk ?_
     refine Pb ?_
     refine Pq ?_
     refine Rg ?_
     refine Y Ad ?_
     refine Y Mv ?_
     refine Nl ?_
     refine Re ⟨(j + 1), rv2, s2, rfl, rfl, rfl, (by omega), (by rw [foldl_take_succ hx63, ← hs2, fPush_t h10]), (by have hpp := fPush_inv hF2.1 hF2.2 (mem_get hx63) (hUx _ (mem_get hx63)); rw [fPush_t h10] at hpp; exact hpp)⟩ (by omega) ⟨rfl, rfl, rfl, rfl, rfl, rfl, rfl, rfl, trivial⟩
   ·
    refine Ex ?_
    refine Xt ?_
    refine Xt ?_
    refine Xb ?_
    refine Pb ?_
    refine Re ⟨(n - 1), s2, rv2, rfl, rfl, rfl, (by omega), (by rw [hs2, take_all (by assumption), ← hbn.1]; exact hres), (by rw [hs2, take_all (by assumption)]; exact hbn.2), hF2.1⟩ (by unfold todoF at hn_; omega) ⟨rfl, rfl, rfl, rfl, trivial⟩
  ·
   refine Ex ?_
   refine Xt ?_
   refine Xt ?_
   refine Xb ?_
   refine Pq ?_
   refine Sq ?_
   refine Sr ?_
   have hfar : (farL (countL l known) p) = s.far := by unfold farL; rw [← hres, fBfs_end h4]
   refine Y Mv ?_
   refine Y Mv ?_
   refine Y LkN2 ?_
   refine Y Mv ?_
   refine Y Xc ?_
   refine Y Xc ?_
   refine Y As ?_
   refine Y As ?_
   refine Nq ?_
   refine Sr ?_
   refine Y Mv ?_
   refine Y Nt ?_
   refine Nq ?_
   refine Ct (fun h12 => ?_) fun h12 => ?_
   ·
    have h13 := nb_i h12
    refine Sr ?_
    refine Y As ?_
    refine Y As ?_
    refine Nq ?_
    refine Rt ?_
    refine Rh ?_
    refine ScR ?_
    refine NilRwP (EI .i64) 3 ?_
    refine Rv2 [.rw (EI .i64) 3 (.slice none 0 0) []] ?_
    have hce : chainE l known f p = ([], 5) := by rw [chainE, if_neg (by rw [hE]; simp), hfar, if_neg (by rw [h13]; simp)]
    rw [hce]
    exact ⟨_, rfl, rfl⟩
   ·
    have h14 := nb_g h12
    refine Sk ?_
    refine Pq ?_
    refine Sr ?_
    have hfs : (aget s.far f).isSome = true := h14
    obtain ⟨d0, hd0⟩ := Option.isSome_iff_exists.1 hfs
    have hg0 : gN s.far f = d0 := by simp [gN, hd0]
    have hdb := hF.lt f d0 hd0
    have hfl := hF.le
    refine Y As ?_
    refine Nq ?_
    refine Sr ?_
    refine D (Mm (EB)) ?_
    rintro _ _ ⟨m92, rfl, rfl⟩
    refine Y Mv ?_
    refine Dn (In true) ?_
    rintro _ _ rfl
    refine Y Mv ?_
    refine Y As ?_
    refine Nq ?_
    refine Sq ?_
    refine Lb ?_
    refine Pq ?_
    refine Sq ?_
    refine Bk ?_
    refine NilRwW (EI .i64) 3 ?_
    refine Lp (fun n_ l_ H_ => ∃ (d : Int) (S : List Int) (mh : Nat) (mm : List (Int × Bool)) (ov : Value) (out : List Int), n_ = 0 + d.toNat ∧ l_ = [(10, ptr b 0), (12, .map (some m44)), (21, ov), (22, .map (some mh))] ∧ H_ = .mp EB mh mm :: .mp EN m44 s.far :: .rw (EI .i64) 3 ov out :: .zm Z38 :: F ∧ (HereOk mm S) ∧ (FarOk (countL l known) s.far p S d) ∧ (out ++ chainN (countL l known) s.far (d.toNat + 1) S = chainN (countL l known) s.far ((gN s.far f).toNat + 1) [f]) ∧ (out.length + d.toNat ≤ d0.toNat) ∧ (0 ≤ d)) ⟨d0, [f], m92, _, (.slice none 0 0), [], rfl, rfl, rfl, (HereOk.one f), ⟨by simp, fun q hq => by simp at hq; subst hq; exact hd0⟩, (by rw [hg0]; rfl), (by simp), hdb.1⟩ ⟨rfl, rfl, rfl, rfl, trivial⟩ ?_
    rintro _ _ _ ⟨d, S, mh, mm, ov, out, rfl, rfl, rfl, hH, hFar, hout, hol, hdn⟩
    refine NdW mh (fun hnd => ?_)
    refine Bk ?_
    refine Sr ?_
    refine Y As ?_
    refine Nq ?_
    refine Sq ?_
    refine Sr ?_
    refine Y Mv ?_
    refine D Ra ?_
    rintro _ _ ⟨c96, rfl, rfl⟩
    refine Nq ?_
    refine Bk ?_
    refine Lp (fun n_ l_ H_ => ∃ (vis : List (Int × Bool)) (bst : Int), n_ = mm.length - vis.length ∧ l_ = [(10, ptr b 0), (12, .map (some m44)), (21, ov), (22, .map (some mh)), (23, .int .i64 bst), (96, ptr c96 0)] ∧ H_ = .mi EB mh c96 mm vis :: .mp EN m44 s.far :: .rw (EI .i64) 3 ov out :: .zm Z38 :: F ∧ (vis.Nodup) ∧ (∀ q ∈ vis, q ∈ mm) ∧ (BestOk (countL l known) (vis.map (·.1)) bst) ∧ (∀ q ∈ vis.map (·.1), 1 ≤ uidN (countL l known) q) ∧ (vis ≠ [] → ¬ d = 0)) ⟨[], 0, rfl, rfl, rfl, (by simp), (by simp), (BestOk.nil _), (by simp), (by simp)⟩ ⟨rfl, rfl, rfl, rfl, rfl, rfl, trivial⟩ ?_
    rintro _ _ _ ⟨vis, bst, rfl, rfl, rfl, hvn, hvs, hb, hvu, hv0⟩
    refine Sr ?_
    refine D Nx ?_
    rintro _ _ (⟨hp97, rfl, rfl⟩ | ⟨p97, u97, hm97, hn97, hu97, rfl, rfl⟩)
    ·
     refine Y Xc ?_
     refine Nq ?_
     refine Sq ?_
     refine CtF rfl ?_
     refine Ex ?_
     refine Xt ?_
     refine Xt ?_
     refine Xb ?_
     refine Pq ?_
     refine Sr ?_
     refine MiR ?_
     have hd1 : ¬ d = 0 := hv0 (perm_ne hH hp97 hFar.ne)
     have hpe := hH.perm hnd hp97
     have hbe : bst = bestL (countL l known) S := bestL_eq hb hpe fun q hq => hvu q ((hpe q).2 hq)
     refine D (Mm (EB)) ?_
     rintro _ _ ⟨m123, rfl, rfl⟩
     refine Y As ?_
     refine Nq ?_
     refine Sq ?_
     refine Sr ?_
     refine Y Mv ?_
     refine D Ra ?_
     rintro _ _ ⟨c125, rfl, rfl⟩
     refine Nq ?_
     refine Bk ?_
     refine Lp (fun n_ l_ H_ => ∃ (vis2 : List (Int × Bool)) (m2 : List (Int × Bool)), n_ = mm.length - vis2.length ∧ l_ = [(10, ptr b 0), (12, .map (some m44)), (21, ov), (22, .map (some mh)), (23, .int .i64 bst), (26, .map (some m123)), (125, ptr c125 0)] ∧ H_ = .mi EB mh c125 mm vis2 :: .mp EB m123 m2 :: .mp EN m44 s.far :: .rw (EI .i64) 3 ov out :: .zm Z38 :: F ∧ (vis2.Nodup) ∧ (∀ q ∈ vis2, q ∈ mm) ∧ (HereOk m2 (stepL (countL l known) s.far (vis2.map (·.1)) bst))) ⟨[], [], rfl, rfl, rfl, (by simp), (by simp), HereOk.nil⟩ ⟨rfl, rfl, rfl, rfl, rfl, rfl, rfl, trivial⟩ ?_
     rintro _ _ _ ⟨vis2, m2, rfl, rfl, rfl, hwn, hws, hM⟩
     refine Sr ?_
     refine D Nx ?_
     rintro _ _ (⟨hp126, rfl, rfl⟩ | ⟨p126, u126, hm126, hn126, hu126, rfl, rfl⟩)
     ·
      refine Y Xc ?_
      refine Nq ?_
      refine Sq ?_
      refine CtF rfl ?_
      refine Ex ?_
      refine Xt ?_
      refine Xt ?_
      refine Xb ?_
      refine Pq ?_
      refine Rg ?_
      refine MiR ?_
      have hpe2 := hH.perm hnd hp126
      have hM2 : HereOk m2 (stepL (countL l known) s.far S (bestL (countL l known) S)) := by rw [← hbe]; exact hM.ext (fun q => stepL_ext hpe2 bst q)
      have hgo := chain_go (C := (countL l known)) (n := d.toNat + 1) hFar hd1 (Nat.lt_succ_self _)
      have hst := far_step hI hF hFar hd1
      refine Y Mv ?_
      refine Y Mv ?_
      refine D Bs ?_
      rintro _ _ ⟨b170, rfl, rfl⟩
      refine D (Ap1 bst (hm := by omega)) ?_
      rintro v171 _ rfl
      refine Y Mv ?_
      refine Y As ?_
      refine Y As ?_
      refine Nl ?_
      refine Pb ?_
      refine Re ⟨(d - 1), (stepL (countL l known) s.far S (bestL (countL l known) S)), m123, m2, v171, (out ++ [bst]), rfl, rfl, rfl, hM2, hst, (by rw [← hout, hgo, show (d - 1).toNat + 1 = d.toNat + 1 - 1 by omega, hbe]; simp), (by simp; omega), (by omega)⟩ (by omega) ⟨rfl, rfl, rfl, rfl, trivial⟩
     ·
      refine Y Xc ?_
      refine Nq ?_
      refine Sq ?_
      refine CtT rfl ?_
      refine Sk ?_
      refine Pq ?_
      refine Bk ?_
      refine Sr ?_
      refine D EnO ?_
      rintro _ _ ⟨u128, rfl, rfl⟩
      refine Y Xc ?_
      refine Y As ?_
      refine Nq ?_
      refine Sq ?_
      refine Sr ?_
      refine Y Mv ?_
      refine Y Nc ?_
      refine Y Fa ?_
      refine Y Ld ?_
      refine Y Nc ?_
      refine Y Fa ?_
      refine Y Ld ?_
      refine Y Mv ?_
      obtain ⟨pv138, hp138, hl138⟩ := lookR hus p126.1
      refine Y (LkZ hl138) ?_
      refine Y Fd ?_
      refine Y Mv ?_
      refine Y Ne_ ?_
      refine Nq ?_
      refine Cn (fun h16 => ?_) fun h16 => ?_
      ·
       refine Ex ?_
       refine Xt ?_
       refine Xb ?_
       refine Re ⟨(vis2 ++ [p126]), m2, rfl, rfl, rfl, (vis_nd hwn hn126), (vis_sub hws hm126), (by rw [List.map_append]; exact (stepL_snoc _ _ _ p126.1 _) ▸ (by rw [stepP_no h16, List.append_nil]; exact hM))⟩ (by have h1 := vis_lt hwn hws hm126 hn126; simp only [List.length_append, List.length_cons, List.length_nil]; omega) ⟨rfl, rfl, rfl, rfl, rfl, rfl, rfl, trivial⟩
      ·
       refine Sk ?_
       refine Pq ?_
       refine Sr ?_
       have huid : uidN (countL l known) p126.1 = bst := h16
       refine Y Mv ?_
       refine Y Mv ?_
       refine D (Cf (hs := on_sp (p := p126.1))) ?_
       rintro v144 _ ⟨_, ⟨Z144, hz144, rfl⟩, rfl⟩
       have hzl := hz144.len_le
       refine Y Ln ?_
       refine Y Mv ?_
       refine Nq ?_
       refine Bk ?_
       refine Lp (fun n_ l_ H_ => ∃ (j : Nat) (m3 : List (Int × Bool)), n_ = (onL (countL l known) p126.1).length - j ∧ l_ = [(10, ptr b 0), (12, .map (some m44)), (21, ov), (22, .map (some mh)), (23, .int .i64 bst), (26, .map (some m123)), (27, .int .i64 p126.1), (125, ptr c125 0), (144, v144), (145, .int .i64 ((onL (countL l known) p126.1).length : Int)), (146, .int .i64 (j : Int))] ∧ H_ = .mi EB mh c125 mm (vis2 ++ [p126]) :: .mp EB m123 m3 :: .mp EN m44 s.far :: .rw (EI .i64) 3 ov out :: .zm Z144 :: .zm Z38 :: F ∧ (j ≤ (onL (countL l known) p126.1).length) ∧ (HereOk m3 (stepL (countL l known) s.far (vis2.map (·.1)) bst ++ ((onL (countL l known) p126.1).take j).filter (fun q => decide (aget s.far q = some (gN s.far p126.1 - 1)))))) ⟨0, m2, rfl, rfl, rfl, (by omega), (by simpa using hM)⟩ ⟨rfl, rfl, rfl, rfl, rfl, rfl, rfl, rfl, rfl, rfl, rfl, trivial⟩ ?_
       rintro _ _ _ ⟨j, m3, rfl, rfl, rfl, hj, hM3⟩
       refine Sr ?_
       refine Y Lt ?_
       refine Nq ?_
       refine Sq ?_
       refine Cp (fun h18 => ?_) fun h18 => ?_
       ·
        refine Sk ?_
        refine Pq ?_
        refine Sq ?_
        refine Bk ?_
        refine Sr ?_
        obtain ⟨x148, b148, o148, hx148, he148, hc148⟩ := SlZ.atI hz144 j (by omega)
        refine Y (IxY rfl rfl (by omega) he148) ?_
        refine Y Ld ?_
        refine Y As ?_
        refine Nq ?_
        refine Sr ?_
        refine Y Mv ?_
        refine Y Mv ?_
        refine Y LkN2 ?_
        refine Y Mv ?_
        refine Y Xc ?_
        refine Y Xc ?_
        refine Y As ?_
        refine Y As ?_
        refine Nq ?_
        refine Sr ?_
        refine Y Mv ?_
        refine Y Mv ?_
        refine Ga 6 1 true 163 (fun h20 => by
         refine Yg h20 Mv ?_
         refine Yg h20 Mv ?_
         refine Yg h20 Mv ?_
         refine Yg h20 LkN ?_
         have hgb1 := hF.bnd p126.1
         refine Yg h20 Su ?_
         refine Yg h20 Eq_ ?_
         exact Gg) ?_
        refine Y PkA ?_
        refine Nq ?_
        refine Ct (fun h23 => ?_) fun h23 => ?_
        ·
         refine Rg ?_
         refine Y Mv ?_
         refine Y Mv ?_
         refine Dn (Mu true) ?_
         rintro _ _ rfl
         refine Nl ?_
         refine Pb ?_
         refine Pq ?_
         refine Rg ?_
         refine Y Ad ?_
         refine Y Mv ?_
         refine Nl ?_
         refine Re ⟨(j + 1), (aset m3 x148 true), rfl, rfl, rfl, (by omega), (by rw [← filter_take_t (p := fun q => decide (aget s.far q = some (gN s.far p126.1 - 1))) hx148 rfl (far_t.symm.trans h23)]; rw [← List.append_assoc]; exact hM3.put x148)⟩ (by omega) ⟨rfl, rfl, rfl, rfl, rfl, rfl, rfl, rfl, rfl, rfl, rfl, trivial⟩
        ·
         refine Sk ?_
         refine Pb ?_
         refine Pq ?_
         refine Rg ?_
         refine Y Ad ?_
         refine Y Mv ?_
         refine Nl ?_
         refine Re ⟨(j + 1), m3, rfl, rfl, rfl, (by omega), (by rw [← filter_take_f (p := fun q => decide (aget s.far q = some (gN s.far p126.1 - 1))) hx148 rfl (far_t.symm.trans h23)]; exact hM3)⟩ (by omega) ⟨rfl, rfl, rfl, rfl, rfl, rfl, rfl, rfl, rfl, rfl, rfl, trivial⟩
       ·
        refine Ex ?_
        refine Xt ?_
        refine Xt ?_
        refine Xb ?_
        refine Pb ?_
        refine Re ⟨(vis2 ++ [p126]), m3, rfl, rfl, rfl, (vis_nd hwn hn126), (vis_sub hws hm126), (by rw [List.map_append]; exact (stepL_snoc _ _ _ p126.1 _) ▸ (by rw [stepP_yes huid, ← take_all (l := onL (countL l known) p126.1) (by assumption)]; exact hM3))⟩ (by have h1 := vis_lt hwn hws hm126 hn126; simp only [List.length_append, List.length_cons, List.length_nil]; omega) ⟨rfl, rfl, rfl, rfl, rfl, rfl, rfl, trivial⟩
    ·
     refine Y Xc ?_
     refine Nq ?_
     refine Sq ?_
     refine CtT rfl ?_
     refine Sk ?_
     refine Pq ?_
     refine Bk ?_
     refine Sr ?_
     refine D EnO ?_
     rintro _ _ ⟨u99, rfl, rfl⟩
     refine Y Xc ?_
     refine Y As ?_
     refine Nq ?_
     refine Sq ?_
     refine Sr ?_
     refine Y Mv ?_
     refine Y Mv ?_
     refine Y LkN ?_
     refine Y Eq_ ?_
     refine Nq ?_
     refine Cp (fun h25 => ?_) fun h25 => ?_
     ·
      refine Ex ?_
      refine Xt ?_
      refine Xo ?_
      refine Xt ?_
      refine Xo ?_
      refine Xt ?_
      refine Xo ?_
      refine Xt ?_
      refine Xb ?_
      refine Pq ?_
      refine Sr ?_
      refine Y Mv ?_
      refine Y As ?_
      refine Y As ?_
      refine Nq ?_
      refine Rt ?_
      refine ScR ?_
      have hpS : p97.1 ∈ S := hH.mem hnd hm97
      rw [chain_stop hpS h25, List.append_nil] at hout
      have hce : chainE l known f p = (out, 0) := by rw [chainE, if_neg (by rw [hE]; simp), hfar, if_pos hfs, hout]
      refine Rv2 [.rw (EI .i64) 3 ov out] ?_
      rw [hce]
      exact ⟨_, rfl, rfl⟩
     ·
      refine Sk ?_
      refine Pq ?_
      refine Sr ?_
      have hpS : p97.1 ∈ S := hH.mem hnd hm97
      have hd1 : ¬ d = 0 := fun e => h25 (by rw [hFar.at_ _ hpS]; exact e)
      obtain ⟨_, _, _, hu1, _⟩ := far_used hI hF (hFar.at_ _ hpS) hd1
      refine Y Mv ?_
      refine Y Nc ?_
      refine Y Fa ?_
      refine Y Ld ?_
      refine Y Nc ?_
      refine Y Fa ?_
      refine Y Ld ?_
      refine Y Mv ?_
      obtain ⟨pv113, hp113, hl113⟩ := lookR hus p97.1
      refine Y (LkZ hl113) ?_
      refine Y Fd ?_
      refine Y As ?_
      refine Nq ?_
      refine Sr ?_
      refine Y Mv ?_
      refine Y Eq_ ?_
      refine Y Mv ?_
      refine Ga 3 2 false 120 (fun h27 => by
       refine Yg h27 Mv ?_
       refine Yg h27 Mv ?_
       refine Yg h27 Lt ?_
       exact Gg) ?_
      refine Y PkO ?_
      refine Nq ?_
      refine Ct (fun h30 => ?_) fun h30 => ?_
      ·
       refine Rg ?_
       refine Y Mv ?_
       refine Y As ?_
       refine Nl ?_
       refine Pb ?_
       refine Re ⟨(vis ++ [p97]), (uidN (countL l known) p97.1), rfl, rfl, rfl, (vis_nd hvn hn97), (vis_sub hvs hm97), (by rw [List.map_append]; have hb2 := hb.put hu1 hvu; rw [show best1 bst (uidN (countL l known) p97.1) = uidN (countL l known) p97.1 from best1_t h30] at hb2; exact hb2), (by intro q hq; rw [List.map_append, List.mem_append] at hq; rcases hq with hq | hq; exact hvu q hq; simp at hq; subst hq; exact hu1), (fun _ => hd1)⟩ (by have h1 := vis_lt hvn hvs hm97 hn97; simp only [List.length_append, List.length_cons, List.length_nil]; omega) ⟨rfl, rfl, rfl, rfl, rfl, rfl, trivial⟩
      ·
       refine Sk ?_
       refine Pb ?_
       refine Re ⟨(vis ++ [p97]), bst, rfl, rfl, rfl, (vis_nd hvn hn97), (vis_sub hvs hm97), (by rw [List.map_append]; have hb2 := hb.put hu1 hvu; rw [show best1 bst (uidN (countL l known) p97.1) = bst from best1_f h30] at hb2; exact hb2), (by intro q hq; rw [List.map_append, List.mem_append] at hq; rcases hq with hq | hq; exact hvu q hq; simp at hq; subst hq; exact hu1), (fun _ => hd1)⟩ (by have h1 := vis_lt hvn hvs hm97 hn97; simp only [List.length_append, List.length_cons, List.length_nil]; omega) ⟨rfl, rfl, rfl, rfl, rfl, rfl, trivial⟩

end Go.Lag

namespace Go.Lag
open Go Go.RowKit Go.Proofs
set_option maxRecDepth 100000 in
set_option maxHeartbeats 4000000 in
theorem rests_sp {Z : Hp} {l : List Rep} {lv : Value} (hl : SlZ (EZ Z) Z lv l := by assumption) {known : Int} (hn : l.length ≤ 1000 := by assumption) (hg : (checkE l).2 = 0 → GoodL (countL l known) := by first | assumption | exact good_of) {p : Int} {up : Bool} {side : List Int} {sv : Value} (hsd : SlZ (EI .i64) Z sv side := by assumption) : Sp Tryz.prog 58 [lv, .int .i64 known, .int .i64 p, .bool up, sv] [.zm Z] fun v H' => ∃ ov, v = .tuple #[ov, .int .i64 (restsE l known p up side).2] ∧ H' = [.rw (EI .i64) 3 ov (restsE l known p up side).1] := by
 refine Sp.ofM 109 Tryz.func58 rfl rfl rfl ?_
 intro F
 refine Sr ?_
 refine Y As ?_
 refine Y As ?_
 refine Nq ?_
 refine Sr ?_
 refine Y Mv ?_
 refine Y Mv ?_
 refine Y Mv ?_
 refine D Bs ?_
 rintro _ _ ⟨b25, rfl, rfl⟩
 refine ToRwI [p] ?_
 refine FzI fun Zp hzp1 hzp2 => ?_
 have hl2 := hl.up hzp1
 refine D (Cf (hs := looks_sp (hl := hl2) (hps := hzp2))) ?_
 rintro _ _ ⟨_, ⟨Z26, bv26, hZ26, rfl, rfl, hb26, hc26⟩, rfl⟩
 refine Y Mv ?_
 refine Y Xc ?_
 refine Y Xc ?_
 refine Y As ?_
 refine Y As ?_
 refine Nq ?_
 refine Sq ?_
 refine Sr ?_
 refine Y Mv ?_
 refine Y Ne_ ?_
 refine Nq ?_
 refine Cn (fun h2 => ?_) fun h2 => ?_
 ·
  refine Sr ?_
  refine Y Mv ?_
  refine Y As ?_
  refine Y As ?_
  refine Nq ?_
  refine Rt ?_
  refine Rh ?_
  refine NilRwP (EI .i64) 3 ?_
  refine RvM0 (xs := [.tmp 10, .tmp 11]) [.rw (EI .i64) 3 (.slice none 0 0) []] (ResH.tmp (ResH.tmp ResH.nil)) ?_
  rw [show restsE l known p up side = ([], lookE l known [p]) from by rw [restsE, if_pos h2]]
  exact ⟨_, rfl, rfl⟩
 ·
  refine Sk ?_
  refine Pq ?_
  refine Sq ?_
  refine Sr ?_
  have hE := h2
  obtain ⟨b, s, iv, pb, rfl, hB⟩ := hb26 hE
  obtain ⟨hc0, hin⟩ := look_mem hE
  have hI := (checked hc0).inv known
  obtain ⟨r1, r2, hmd, hrk, hend⟩ := hI.good
  have hr := checked_rep hc0
  have hsm : ∀ x ∈ (countL l known), Small x := fun y hy => (report_small (hr y (count_mem hy))).1
  have hml := maker_len hsm
  have hcl := count_len l known
  have hul : (madeL (countL l known)).length = (makerM (countL l known)).length := by simp [madeL]
  have hid := ids_len (countL l known)
  have hpi : p ∈ idsL (countL l known) := hin p (List.mem_cons_self ..)
  have hil : (idsL (countL l known)).length ≤ 1000000 := by omega
  have hAb := ab_of (known := known) hc0
  have hAn : (arcsL (countL l known)).length ≤ 1000000 := by simpa [arcsL] using hil
  have hsz := hsd.mono (hzp1.trans hZ26)
  obtain ⟨lv9, mb9, ub9, hb9, hS⟩ := hB.st
  have hba := hB.at_
  have hbp := hB.ps
  have hbi := hB.ids
  have hat := hS.at_
  have hmk := hS.mm
  have hus := hS.us
  refine Y Mv ?_
  refine Y Mv ?_
  refine Cv (hs := isSide_sp (side := side)) (h := ?_)
  refine Y Nt ?_
  refine Nq ?_
  refine Ct (fun h4 => ?_) fun h4 => ?_
  ·
   have h5 := nb_i h4
   refine Sr ?_
   refine Y As ?_
   refine Y As ?_
   refine Nq ?_
   refine Rt ?_
   refine Rh ?_
   refine NilRwP (EI .i64) 3 ?_
   refine RvM0 (xs := [.tmp 10, .tmp 11]) [.rw (EI .i64) 3 (.slice none 0 0) []] (ResH.tmp (ResH.tmp ResH.nil)) ?_
   rw [show restsE l known p up side = ([], 1) from by rw [restsE, if_neg (by rw [hE]; simp), if_pos h5]]
   exact ⟨_, rfl, rfl⟩
  ·
   have h6 := nb_g h4
   refine Sk ?_
   refine Pq ?_
   refine Sr ?_
   have hok : isSideL (countL l known) side = true := h6
   refine Y Mv ?_
   refine Y Mv ?_
   refine Y Mv ?_
   refine Y Mv ?_
   refine D (Cf (hs := terms_sp (p := p) (up := up) (side := side))) ?_
   rintro _ _ ⟨_, (⟨htn, rfl, rfl⟩ | ⟨ts, tv, hts, rfl, rfl⟩), rfl⟩
   ·
    refine Y Mv ?_
    refine Y Xc ?_
    refine Y Xc ?_
    refine Y As ?_
    refine Y As ?_
    refine Nq ?_
    refine Sq ?_
    refine Sr ?_
    refine Y Mv ?_
    refine Y Nt ?_
    refine Nq ?_
    refine CtT rfl ?_
    refine Sr ?_
    refine Y As ?_
    refine Y As ?_
    refine Nq ?_
    refine Rt ?_
    refine Rh ?_
    refine NilRwP (EI .i64) 3 ?_
    refine RvM0 (xs := [.tmp 10, .tmp 11]) [.rw (EI .i64) 3 (.slice none 0 0) []] (ResH.tmp (ResH.tmp ResH.nil)) ?_
    rw [show restsE l known p up side = ([], 1) from by rw [restsE, if_neg (by rw [hE]; simp), if_neg (by rw [hok]; simp), htn]]
    exact ⟨_, rfl, rfl⟩
   ·
    have htm := terms_mem hpi hts
    have htl := terms_len hts
    refine Y Mv ?_
    refine Y Xc ?_
    refine Y Xc ?_
    refine Y As ?_
    refine Y As ?_
    refine Nq ?_
    refine Sq ?_
    refine Sr ?_
    refine Y Mv ?_
    refine Y Nt ?_
    refine Nq ?_
    refine CtF rfl ?_
    refine Sk ?_
    refine Pq ?_
    refine Sr ?_
    refine D (Mm (EB)) ?_
    rintro _ _ ⟨m46, rfl, rfl⟩
    refine Dal fun b16 => ?_
    refine Dsw ?_
    refine Nq ?_
    refine Sq ?_
    refine Sr ?_
    refine Y Mv ?_
    refine Y Ln ?_
    refine Y Mv ?_
    refine Nq ?_
    refine Bk ?_
    refine LpM (fun n_ Ds_ l_ H_ => ∃ (i : Nat) (mm : List (Int × Bool)), n_ = ts.length - i ∧ l_ = [(12, ptr b 0), (16, ptr b16 0), (47, tv), (48, .int .i64 (ts.length : Int)), (49, .int .i64 (i : Int))] ∧ H_ = .cl b16 [.map (some m46)] 114 :: .mp EB m46 mm :: .rw ET 226 tv ts :: .zm Z26 :: (obs Ds_ ++ F) ∧ (i ≤ ts.length) ∧ (mm = (ts.take i).foldl (rest1 (countL l known)) [])) [] ⟨0, [], rfl, rfl, rfl, (by omega), rfl⟩ ⟨rfl, rfl, rfl, rfl, rfl, trivial⟩ ?_
    rintro _ Ds _ _ ⟨i, mm, rfl, rfl, rfl, hi, hmm⟩
    refine Sr ?_
    refine Y Lt ?_
    refine Nq ?_
    refine Sq ?_
    refine Cp (fun h8 => ?_) fun h8 => ?_
    ·
     refine Sk ?_
     refine Pq ?_
     refine Sq ?_
     refine Bk ?_
     refine Sr ?_
     refine IxN fun x51 b51 o51 hx51 he51 => ?_
     refine Y LdN ?_
     refine Dal fun b18 => ?_
     refine Dsw ?_
     refine Nq ?_
     refine Sr ?_
     refine Y Fa ?_
     refine Y LdN ?_
     refine Y Fa ?_
     refine Y Ld ?_
     refine Cv (hs := end_sp) (h := ?_)
     refine Dal fun b19 => ?_
     refine Dsw ?_
     refine Nq ?_
     refine Cut (fun l_ H_ => l_ = [(12, ptr b 0), (16, ptr b16 0), (18, ptr b18 0), (19, ptr b19 0), (47, tv), (48, .int .i64 (ts.length : Int)), (49, .int .i64 (i : Int))] ∧ H_ = .mp EB m46 (mm) :: .cl b16 [.map (some m46)] 114 :: .cl b18 (trmCells x51) 226 :: .cl b19 [.int .i64 (endA x51.arc x51.upper)] 3 :: .rw ET 226 tv ts :: .zm Z26 :: (obs Ds ++ F) ∧ skipB x51 = false) ?_ ?_
     ·
      refine Sr ?_
      refine Y Fa ?_
      refine Y Ld ?_
      refine Y Mv ?_
      refine GcB 59 (fun h11 => ?_) fun h11 => ?_
      ·
       refine Gt h11 ?_
       refine Y Ld ?_
       refine Gt h11 ?_
       refine Y Eq_ ?_
       refine Y (PkT (hb := h11)) ?_
       refine Y Mv ?_
       refine GcD 62 (fun h13 => ?_) fun h13 => ?_
       ·
        refine Gf (decide_eq_true h13) ?_
        refine Gf (decide_eq_true h13) ?_
        refine Gf (decide_eq_true h13) ?_
        refine Gf (decide_eq_true h13) ?_
        refine Gu ?_
        refine Gu ?_
        refine Gf (decide_eq_true h13) ?_
        refine Y (PkT (hb := decide_eq_true h13)) ?_
        refine Nq ?_
        refine CtT rfl ?_
        refine Ex ?_
        refine Xt ?_
        refine Xb ?_
        refine Pq ?_
        refine Rg ?_
        refine Y Ad ?_
        refine Y Mv ?_
        refine Nl ?_
        refine ReM (Ds) (H' := .cl b16 [.map (some m46)] 114 :: .mp EB m46 mm :: .rw ET 226 tv ts :: .zm Z26 :: (obs Ds ++ F)) ⟨(i + 1), mm, rfl, rfl, rfl, (by omega), (by rw [foldl_take_succ hx51, ← hmm, rest1, if_pos (by have q_ := h13; rw [h11] at q_; simp [skipB, h11, q_])])⟩ (by omega) ⟨rfl, rfl, rfl, rfl, rfl, trivial⟩
       ·
        refine Gt (decide_eq_false h13) ?_
        refine Y Fa ?_
        refine Gt (decide_eq_false h13) ?_
        refine Y Ld ?_
        refine Gt (decide_eq_false h13) ?_
        refine Y Nt ?_
        refine Gt (decide_eq_false h13) ?_
        refine Y Mv ?_
        refine Gf (nb_f h11) ?_
        refine Gf (nb_f h11) ?_
        refine Gt (decide_eq_false h13) ?_
        refine Y (PkF (hb := nb_f h11)) ?_
        refine Y (PkF (hb := decide_eq_false h13)) ?_
        refine Nq ?_
        refine CtF rfl ?_
        refine Sk ?_
        refine Cx ⟨rfl, rfl, (by have q_ := h13; rw [h11] at q_; simp [skipB, h11, q_])⟩ ⟨rfl, rfl, rfl, rfl, rfl, rfl, rfl, trivial⟩
      ·
       refine Gf h11 ?_
       refine Gf h11 ?_
       refine Y (PkF (hb := h11)) ?_
       refine Y Mv ?_
       refine Gt rfl ?_
       refine Y Fa ?_
       refine Gt rfl ?_
       refine Y Ld ?_
       refine Gt rfl ?_
       refine Y Nt ?_
       refine Gt rfl ?_
       refine Y Mv ?_
       refine Gt (nb_t h11) ?_
       refine Y Ld ?_
       refine Gt (nb_t h11) ?_
       refine Y Eq_ ?_
       refine Gt rfl ?_
       refine Y (PkT (hb := nb_t h11)) ?_
       refine Y (PkF (hb := rfl)) ?_
       refine Nq ?_
       refine Cp (fun h15 => ?_) fun h15 => ?_
       ·
        refine Ex ?_
        refine Xt ?_
        refine Xb ?_
        refine Pq ?_
        refine Rg ?_
        refine Y Ad ?_
        refine Y Mv ?_
        refine Nl ?_
        refine ReM (Ds) (H' := .cl b16 [.map (some m46)] 114 :: .mp EB m46 mm :: .rw ET 226 tv ts :: .zm Z26 :: (obs Ds ++ F)) ⟨(i + 1), mm, rfl, rfl, rfl, (by omega), (by rw [foldl_take_succ hx51, ← hmm, rest1, if_pos (by have q_ := h15; rw [h11] at q_; simp [skipB, h11, q_])])⟩ (by omega) ⟨rfl, rfl, rfl, rfl, rfl, trivial⟩
       ·
        refine Sk ?_
        refine Cx ⟨rfl, rfl, (by have q_ := h15; rw [h11] at q_; simp [skipB, h11, q_])⟩ ⟨rfl, rfl, rfl, rfl, rfl, rfl, rfl, trivial⟩
     ·
      rintro _ _ ⟨rfl, rfl, hsk⟩
      refine Drq (fun i => false) [.cl b18 (trmCells x51) 226, .zm Z26] (by repeat (first | exact SubH.refl | exact SubH.nil | refine SubH.cons (by repeat (first | exact Pick.head | apply Pick.tail)) ?_ | refine SubH.skip ?_)) ?_
      refine Tk 0 [] rfl Mv ?_
      refine Tk 1 [] rfl Nc ?_
      refine Tk 2 [] rfl Fa ?_
      refine Tk 3 [] rfl Ld ?_
      refine Tk 4 [] rfl Fa ?_
      refine Tk 5 [] rfl Fa ?_
      refine Tk 6 [] rfl Ld ?_
      refine Gx 7 rfl (Cf (hs := weighs_sp)) ?_
      rintro _ _ ⟨_, ⟨bs80, bp80, rfl, rfl⟩, rfl⟩
      refine ⟨fun _ => (by repeat (first | exact SubH.refl | exact SubH.nil | refine SubH.cons (by repeat (first | exact Pick.head | apply Pick.tail)) ?_ | refine SubH.skip ?_)), ?_⟩
      refine Anq ?_
      refine Bk ?_
      refine Rf (p := 81) (weighs1_seq (rank := r2)) (fun pre H_ => pre.find? (hitB x51) = none ∧ H_ = .mp EB m46 (mm) :: .cl b16 [.map (some m46)] 114 :: .cl b18 (trmCells x51) 226 :: .cl b19 [.int .i64 (endA x51.arc x51.upper)] 3 :: .rw ET 226 tv ts :: .zm Z26 :: (obs Ds ++ F)) (fun c_ H_ => ∃ y, (weighL (countL l known) x51.arc.parcel).find? (hitB x51) = some y ∧ c_ = .exit 2 ∧ H_ = .mp EB m46 (aset mm y.id true) :: .cl b16 [.map (some m46)] 114 :: .cl b18 (trmCells x51) 226 :: .cl b19 [.int .i64 (endA x51.arc x51.upper)] 3 :: .rw ET 226 tv ts :: .zm Z26 :: (obs Ds ++ F)) (.mp EB m46 (mm) :: .cl b16 [.map (some m46)] 114 :: .cl b18 (trmCells x51) 226 :: .cl b19 [.int .i64 (endA x51.arc x51.upper)] 3 :: .rw ET 226 tv ts :: .zm Z26 :: (obs Ds ++ F)) ⟨rfl, rfl⟩ ?_ ?_ ?_
      ·
       intro F2 L D rc pre y v H1 hJ hE hpre
       obtain ⟨hno, rfl⟩ := hJ
       obtain ⟨pv81, rfl, hp81⟩ := hE
       refine Rg ?_
       refine Dal fun b20 => ?_
       refine Dsw ?_
       refine Nl ?_
       refine Bg2 ?_
       refine Bk ?_
       refine Sr ?_
       refine Y Fa ?_
       refine Y Ld ?_
       refine Y Mv ?_
       refine GcB 83 (fun h17 => ?_) fun h17 => ?_
       ·
        refine Gt h17 ?_
        refine Y Fa ?_
        refine Gt h17 ?_
        refine Y Fa ?_
        refine Gt h17 ?_
        refine Y Ld ?_
        refine Gt h17 ?_
        refine Y Ld ?_
        refine Gt h17 ?_
        refine Y Eq_ ?_
        refine Y (PkT (hb := h17)) ?_
        refine Y Mv ?_
        refine GcD 89 (fun h19 => ?_) fun h19 => ?_
        ·
         refine Gf (decide_eq_true h19) ?_
         refine Gf (decide_eq_true h19) ?_
         refine Gf (decide_eq_true h19) ?_
         refine Gf (decide_eq_true h19) ?_
         refine Gu ?_
         refine Gu ?_
         refine Gu ?_
         refine Gu ?_
         refine Gu ?_
         refine Gf (decide_eq_true h19) ?_
         refine Y (PkT (hb := decide_eq_true h19)) ?_
         refine Nq ?_
         refine CtT rfl ?_
         refine Sr ?_
         refine Y Ld ?_
         refine Y Fa ?_
         refine Y Ld ?_
         refine Dn (Mu true) ?_
         rintro _ _ rfl
         refine Nq ?_
         refine Ex ?_
         refine Xo ?_
         refine Fx (.mp EB m46 (aset mm y.id true) :: .cl b16 [.map (some m46)] 114 :: .cl b18 (trmCells x51) 226 :: .cl b19 [.int .i64 (endA x51.arc x51.upper)] 3 :: .rw ET 226 tv ts :: .zm Z26 :: (obs Ds ++ F)) ⟨y, find_pre hpre hno (by have q_ := h19; rw [h17] at q_; simp [hitB, h17, q_]), rfl, rfl⟩
        ·
         refine Gt (decide_eq_false h19) ?_
         refine Y Fa ?_
         refine Gt (decide_eq_false h19) ?_
         refine Y Ld ?_
         refine Gt (decide_eq_false h19) ?_
         refine Y Nt ?_
         refine Gt (decide_eq_false h19) ?_
         refine Y Mv ?_
         refine Gf (nb_f h17) ?_
         refine Gf (nb_f h17) ?_
         refine Gf (nb_f h17) ?_
         refine Gf (nb_f h17) ?_
         refine Gf (nb_f h17) ?_
         refine Gt (decide_eq_false h19) ?_
         refine Y (PkF (hb := nb_f h17)) ?_
         refine Y (PkF (hb := decide_eq_false h19)) ?_
         refine Nq ?_
         refine CtF rfl ?_
         refine Sk ?_
         refine Pb ?_
         refine Fe (.mp EB m46 (mm) :: .cl b16 [.map (some m46)] 114 :: .cl b18 (trmCells x51) 226 :: .cl b19 [.int .i64 (endA x51.arc x51.upper)] 3 :: .rw ET 226 tv ts :: .zm Z26 :: (obs Ds ++ F)) ⟨find_snoc hno (by have q_ := h19; rw [h17] at q_; simp [hitB, h17, q_]), rfl⟩
       ·
        refine Gf h17 ?_
        refine Gf h17 ?_
        refine Gf h17 ?_
        refine Gf h17 ?_
        refine Gf h17 ?_
        refine Y (PkF (hb := h17)) ?_
        refine Y Mv ?_
        refine Gt rfl ?_
        refine Y Fa ?_
        refine Gt rfl ?_
        refine Y Ld ?_
        refine Gt rfl ?_
        refine Y Nt ?_
        refine Gt rfl ?_
        refine Y Mv ?_
        refine Gt (nb_t h17) ?_
        refine Y Fa ?_
        refine Gt (nb_t h17) ?_
        refine Y Fa ?_
        refine Gt (nb_t h17) ?_
        refine Y Ld ?_
        refine Gt (nb_t h17) ?_
        refine Y Ld ?_
        refine Gt (nb_t h17) ?_
        refine Y Eq_ ?_
        refine Gt rfl ?_
        refine Y (PkT (hb := nb_t h17)) ?_
        refine Y (PkF (hb := rfl)) ?_
        refine Nq ?_
        refine Cp (fun h21 => ?_) fun h21 => ?_
        ·
         refine Sr ?_
         refine Y Ld ?_
         refine Y Fa ?_
         refine Y Ld ?_
         refine Dn (Mu true) ?_
         rintro _ _ rfl
         refine Nq ?_
         refine Ex ?_
         refine Xo ?_
         refine Fx (.mp EB m46 (aset mm y.id true) :: .cl b16 [.map (some m46)] 114 :: .cl b18 (trmCells x51) 226 :: .cl b19 [.int .i64 (endA x51.arc x51.upper)] 3 :: .rw ET 226 tv ts :: .zm Z26 :: (obs Ds ++ F)) ⟨y, find_pre hpre hno (by have q_ := h21; rw [h17] at q_; simp [hitB, h17, q_]), rfl, rfl⟩
        ·
         refine Sk ?_
         refine Pb ?_
         refine Fe (.mp EB m46 (mm) :: .cl b16 [.map (some m46)] 114 :: .cl b18 (trmCells x51) 226 :: .cl b19 [.int .i64 (endA x51.arc x51.upper)] 3 :: .rw ET 226 tv ts :: .zm Z26 :: (obs Ds ++ F)) ⟨find_snoc hno (by have q_ := h21; rw [h17] at q_; simp [hitB, h17, q_]), rfl⟩
      ·
       intro D xs H1 hS hJ
       obtain ⟨hno9, rfl⟩ := hJ
       subst hS
       refine Pb ?_
       refine Pb ?_
       refine Pq ?_
       refine Rg ?_
       refine Y Ad ?_
       refine Y Mv ?_
       refine Nl ?_
       refine ReM (D :: Ds) (H' := .cl b16 [.map (some m46)] 114 :: .mp EB m46 mm :: .rw ET 226 tv ts :: .zm Z26 :: .ob D dfr :: (obs Ds ++ F)) ⟨(i + 1), mm, rfl, rfl, rfl, (by omega), (by rw [foldl_take_succ hx51, ← hmm, rest1, if_neg (by rw [hsk]; simp), hno9])⟩ (by omega) ⟨rfl, rfl, rfl, rfl, rfl, trivial⟩
      ·
       rintro D _ _ ⟨y9, hf9, rfl, rfl⟩
       refine Ex ?_
       refine Xb ?_
       refine Pb ?_
       refine Pq ?_
       refine Rg ?_
       refine Y Ad ?_
       refine Y Mv ?_
       refine Nl ?_
       refine ReM (D :: Ds) (H' := .cl b16 [.map (some m46)] 114 :: .mp EB m46 (aset mm y9.id true) :: .rw ET 226 tv ts :: .zm Z26 :: .ob D dfr :: (obs Ds ++ F)) ⟨(i + 1), (aset mm y9.id true), rfl, rfl, rfl, (by omega), (by rw [foldl_take_succ hx51, ← hmm, rest1, if_neg (by rw [hsk]; simp), hf9])⟩ (by omega) ⟨rfl, rfl, rfl, rfl, rfl, trivial⟩
    ·
     refine Ex ?_
     refine Xt ?_
     refine Xt ?_
     refine Xb ?_
     refine Pq ?_
     refine Sr ?_
     rw [take_all (by assumption)] at hmm
     have hrl := restM_len (countL l known) ts
     have hmm2 : mm = restM (countL l known) ts := hmm
     subst hmm2
     refine Y Ld ?_
     refine D (Cf (hs := sortedM_sp (mm := restM (countL l known) ts) (hn := by omega))) ?_
     rintro v108 _ ⟨_, rfl, rfl⟩
     refine Y As ?_
     refine Y As ?_
     refine Nq ?_
     refine Rt ?_
     have hre : restsE l known p up side = (sortL ((restM (countL l known) ts).map (·.1)), 0) := by rw [restsE, if_neg (by rw [hE]; simp), if_neg (by rw [hok]; simp), hts]
     refine PostH.weak (H' := .rw (EI .i64) 3 v108 (sortL ((restM (countL l known) ts).map (·.1))) :: (obs Ds ++ F)) (by repeat (first | exact SubH.refl | exact SubH.nil | refine SubH.cons (by repeat (first | exact Pick.head | apply Pick.tail)) ?_ | refine SubH.skip ?_)) ?_
     refine RvMn (xs := [.tmp 10, .tmp 11]) Ds [.rw (EI .i64) 3 v108 (sortL ((restM (countL l known) ts).map (·.1)))] SubH.out1 (ResH.tmp (ResH.tmp ResH.nil)) ?_ (hH := SubH.refl)
     rw [hre]
     exact ⟨_, rfl, rfl⟩

end Go.Lag

namespace Go.Lag
open Go Go.RowKit Go.Proofs
set_option maxRecDepth 100000 in
set_option maxHeartbeats 4000000 in
theorem changed_sp {Z : Hp} {l : List Rep} {lv : Value} (hl : SlZ (EZ Z) Z lv l := by assumption) {k1 k2 : Int} (hn : l.length ≤ 1000 := by assumption) : Sp Tryz.prog 25 [lv, .int .i64 k1, .int .i64 k2] [.zm Z] fun v H' => ∃ ov, v = .tuple #[ov, .int .i64 (changedE l k1 k2).2] ∧ H' = [.rw (EI .i64) 3 ov (changedE l k1 k2).1] := by
 refine Sp.of 122 Tryz.func25 rfl rfl rfl ?_
 intro F
 have hpn : SlZ (EI .i64) Z (.slice none 0 0) [] := SlZ.nil _ _
 refine Sr ?_
 refine Y As ?_
 refine Y As ?_
 refine Nq ?_
 refine Sr ?_
 refine Y Mv ?_
 refine Y Mv ?_
 refine D (Cf (hs := looks_sp (hl := hl) (hps := hpn))) ?_
 rintro _ _ ⟨_, ⟨Z33, bv33, hZ33, rfl, rfl, hb33, hc33⟩, rfl⟩
 refine Y Mv ?_
 refine Y Xc ?_
 refine Y Xc ?_
 refine Y As ?_
 refine Y As ?_
 refine Nq ?_
 refine Sq ?_
 refine Sr ?_
 refine Y Mv ?_
 refine Y Ne_ ?_
 refine Nq ?_
 refine Cn (fun h2 => ?_) fun h2 => ?_
 ·
  refine Sr ?_
  refine Y Mv ?_
  refine Y As ?_
  refine Y As ?_
  refine Nq ?_
  refine Rt ?_
  refine Rh ?_
  refine NilRwP (EI .i64) 3 ?_
  refine Rv2 [.rw (EI .i64) 3 (.slice none 0 0) []] ?_
  rw [show changedE l k1 k2 = ([], lookE l k1 []) from by rw [changedE, if_pos h2]]
  exact ⟨_, rfl, rfl⟩
 ·
  refine Sk ?_
  refine Pq ?_
  refine Sr ?_
  have hE1 := h2
  obtain ⟨bA, sA, ivA, pbA, rfl, hBA⟩ := hb33 hE1
  obtain ⟨hcA, _⟩ := look_mem hE1
  have hsmA : ∀ x ∈ countL l k1, Small x := fun y hy => (report_small (((checked hcA).inv k1).rep y hy)).1
  have hmlA := maker_len hsmA
  have hclA := count_len l k1
  have hidA := ids_len (countL l k1)
  have hlnA : (countL l k1).length ≤ 1000 := by omega
  have hilA : (idsL (countL l k1)).length ≤ 1000000 := by omega
  have hAbA := ab_of (known := k1) hcA
  have hAnA : (arcsL (countL l k1)).length ≤ 1000000 := by simpa [arcsL] using hilA
  have hbaA := hBA.at_
  refine Y Mv ?_
  refine Y Mv ?_
  refine D (Cf (hs := looks_sp (hl := hl) (hps := hpn))) ?_
  rintro _ _ ⟨_, ⟨Z42, bv42, hZ42, rfl, rfl, hb42, hc42⟩, rfl⟩
  refine Y Mv ?_
  refine Y Xc ?_
  refine Y Xc ?_
  refine Y As ?_
  refine Y As ?_
  refine Nq ?_
  refine Sq ?_
  refine Sr ?_
  refine Y Mv ?_
  refine Y Ne_ ?_
  refine Nq ?_
  refine Cn (fun h4 => ?_) fun h4 => ?_
  ·
   refine Sr ?_
   refine Y Mv ?_
   refine Y As ?_
   refine Y As ?_
   refine Nq ?_
   refine Rt ?_
   refine Rh ?_
   refine NilRwP (EI .i64) 3 ?_
   refine Rv2 [.rw (EI .i64) 3 (.slice none 0 0) []] ?_
   rw [show changedE l k1 k2 = ([], lookE l k2 []) from by rw [changedE, if_neg (by rw [hE1]; simp), if_pos h4]]
   exact ⟨_, rfl, rfl⟩
  ·
   refine Sk ?_
   refine Pq ?_
   refine Sr ?_
   have hE2 := h4
   obtain ⟨bB, sB, ivB, pbB, rfl, hBB⟩ := hb42 hE2
   obtain ⟨hcB, _⟩ := look_mem hE2
   have hsmB : ∀ x ∈ countL l k2, Small x := fun y hy => (report_small (((checked hcB).inv k2).rep y hy)).1
   have hmlB := maker_len hsmB
   have hclB := count_len l k2
   have hidB := ids_len (countL l k2)
   have hlnB : (countL l k2).length ≤ 1000 := by omega
   have hilB : (idsL (countL l k2)).length ≤ 1000000 := by omega
   have hAbB := ab_of (known := k2) hcB
   have hAnB : (arcsL (countL l k2)).length ≤ 1000000 := by simpa [arcsL] using hilB
   have hbaB := hBB.at_
   refine Y Mv ?_
   refine Y Mv ?_
   refine D (Cf (hs := graph_sp (hB := hBA) (hil := hilA))) ?_
   rintro _ _ ⟨_, ⟨gA, avA, ZaA, rfl, hzaA, rfl⟩, rfl⟩
   refine D (Cf (hs := bal2_sp hBA hlnA hzaA hAnA hAbA)) ?_
   rintro _ _ ⟨_, ⟨cA_, AA_, nA_, kA_, rfl, rfl⟩, rfl⟩
   refine Y Mv ?_
   refine Y Xc ?_
   refine Y Xc ?_
   refine Dal fun b11 => ?_
   refine Dsw ?_
   refine Y As ?_
   refine Nq ?_
   refine Sr ?_
   refine Y Mv ?_
   refine Y Mv ?_
   refine D (Cf (hs := graph_sp (hB := hBB) (hil := hilB))) ?_
   rintro _ _ ⟨_, ⟨gB, avB, ZaB, rfl, hzaB, rfl⟩, rfl⟩
   refine D (Cf (hs := bal2_sp hBB hlnB hzaB hAnB hAbB)) ?_
   rintro _ _ ⟨_, ⟨cB_, AB_, nB_, kB_, rfl, rfl⟩, rfl⟩
   refine Y Mv ?_
   refine Y Xc ?_
   refine Y Xc ?_
   refine Dal fun b13 => ?_
   refine Dsw ?_
   refine Y As ?_
   refine Nq ?_
   refine Sq ?_
   refine Sr ?_
   refine Y Mv ?_
   refine Y Nt ?_
   refine Y Mv ?_
   refine Ga 2 2 false 66 (fun h5 => by
    refine Yg h5 Mv ?_
    refine Yg h5 Nt ?_
    exact Gg) ?_
   refine Y PkO ?_
   refine Nq ?_
   refine Ct (fun h7 => ?_) fun h7 => ?_
   ·
    refine Sr ?_
    refine Y As ?_
    refine Y As ?_
    refine Nq ?_
    refine Rt ?_
    refine Rh ?_
    refine NilRwP (EI .i64) 3 ?_
    refine Rv2 [.rw (EI .i64) 3 (.slice none 0 0) []] ?_
    rw [changed_32 hE1 hE2 h7]
    exact ⟨_, rfl, rfl⟩
   ·
    refine Sk ?_
    refine Pq ?_
    refine Sr ?_
    obtain ⟨⟨sa, hsa⟩, sb, hsb⟩ := both_some h7
    have hbiA := hBA.ids
    have hbpB := hBB.ps
    have hiA := hbiA.len_le
    refine Y As ?_
    refine Nq ?_
    refine Sq ?_
    refine Sr ?_
    refine Y Mv ?_
    refine Y Nc ?_
    refine Y Fa ?_
    refine Y Ld ?_
    refine Y Ln ?_
    refine Y Mv ?_
    refine Nq ?_
    refine Bk ?_
    refine NilRwW (EI .i64) 3 ?_
    refine Lp (fun n_ l_ H_ => ∃ (i : Nat) (ov : Value) (out : List Int), n_ = (idsL (countL l k1)).length - i ∧ l_ = [(8, ptr bA 0), (10, ptr bB 0), (15, ov), (71, ivA), (72, .int .i64 ((idsL (countL l k1)).length : Int)), (73, .int .i64 (i : Int))] ∧ H_ = .rw (EI .i64) 3 ov out :: .zm Z42 :: .zm Z33 :: F ∧ (i ≤ (idsL (countL l k1)).length) ∧ (out = ((idsL (countL l k1)).take i).filter (chB (countL l k1) (countL l k2) sa sb))) ⟨0, (.slice none 0 0), [], rfl, rfl, rfl, (by omega), (by simp)⟩ ⟨rfl, rfl, rfl, rfl, rfl, rfl, trivial⟩ ?_
    rintro _ _ _ ⟨i, ov, out, rfl, rfl, rfl, hi, hout⟩
    have hol : out.length ≤ i := by rw [hout]; exact Nat.le_trans (List.length_filter_le _ _) (by simp; omega)
    refine Sr ?_
    refine Y Lt ?_
    refine Nq ?_
    refine Sq ?_
    refine Cp (fun h9 => ?_) fun h9 => ?_
    ·
     refine Sk ?_
     refine Pq ?_
     refine Sq ?_
     refine Bk ?_
     refine Sr ?_
     obtain ⟨x75, b75, o75, hx75, he75, hc75⟩ := SlZ.atI hbiA i (by omega)
     refine Y (IxY rfl rfl (by omega) he75) ?_
     refine Y Ld ?_
     refine Y As ?_
     refine Nq ?_
     refine Sq ?_
     refine Sr ?_
     refine Y Mv ?_
     refine Y Nc ?_
     refine Y Fa ?_
     refine Y Ld ?_
     refine Y Mv ?_
     refine Y LkP2 ?_
     refine Y Mv ?_
     refine Y Xc ?_
     refine Y Xc ?_
     refine Dal fun b18 => ?_
     refine Dsw ?_
     refine Y As ?_
     refine Nq ?_
     refine Sr ?_
     refine Y Mv ?_
     refine Y Nt ?_
     refine Nq ?_
     refine Ct (fun h11 => ?_) fun h11 => ?_
     ·
      have h12 := nb_i h11
      refine Ex ?_
      refine Xt ?_
      refine Xb ?_
      refine Pq ?_
      refine Rg ?_
      refine Y Ad ?_
      refine Y Mv ?_
      refine Nl ?_
      refine Re ⟨(i + 1), ov, out, rfl, rfl, rfl, (by omega), (filter_take_f (p := chB (countL l k1) (countL l k2) sa sb) hx75 hout (by simp [chB, h12]))⟩ (by omega) ⟨rfl, rfl, rfl, rfl, rfl, rfl, trivial⟩
     ·
      have h13 := nb_g h11
      refine Sk ?_
      refine Pq ?_
      refine Sr ?_
      have hB1 := h13
      have hpB := pars_in hB1
      have hpA := mem_get hx75
      refine D Bs ?_
      rintro _ _ ⟨b88, rfl, rfl⟩
      refine ToRw2B false true ?_
      refine Y Ln ?_
      refine Y Mv ?_
      refine Nq ?_
      refine Bk ?_
      refine Lp (fun n_ l_ H_ => ∃ (j : Nat), n_ = 2 - j ∧ l_ = [(8, ptr bA 0), (10, ptr bB 0), (15, ov), (17, .int .i64 x75), (71, ivA), (72, .int .i64 ((idsL (countL l k1)).length : Int)), (73, .int .i64 (i : Int)), (88, .slice (some ⟨b88, 0, none⟩) 2 2), (89, .int .i64 2), (90, .int .i64 (j : Int))] ∧ H_ = .rw EBo 4 (.slice (some ⟨b88, 0, none⟩) 2 2) [false, true] :: .rw (EI .i64) 3 ov out :: .zm Z42 :: .zm Z33 :: F ∧ (j ≤ 2) ∧ (∀ u ∈ [false, true].take j, chU (countL l k1) (countL l k2) sa sb x75 u = false)) ⟨0, rfl, rfl, rfl, (by omega), (by simp)⟩ ⟨rfl, rfl, rfl, rfl, rfl, rfl, rfl, rfl, rfl, rfl, trivial⟩ ?_
      rintro _ _ _ ⟨j, rfl, rfl, rfl, hj, hno⟩
      refine Sr ?_
      refine Y Lt ?_
      refine Nq ?_
      refine Sq ?_
      refine Cp (fun h15 => ?_) fun h15 => ?_
      ·
       refine Sk ?_
       refine Pq ?_
       refine Sq ?_
       refine Bk ?_
       refine Sr ?_
       refine IxN (i := j) (h0 := by simp only [List.length_cons, List.length_nil]; omega) (fun x92 b92 o92 hx92 he92 => ?_)
       refine Y Ld ?_
       refine Y As ?_
       refine Nq ?_
       refine Sr ?_
       refine Y Mv ?_
       refine Y Mv ?_
       refine Y Mv ?_
       refine D (Cf (hs := bound2_sp hBA hlnA hilA hAbA (p := x75) (up := x92) hpA hsa)) ?_
       rintro _ _ ⟨_, ⟨fvA, svA, rfl, rfl⟩, rfl⟩
       refine Y Mv ?_
       refine Y Xc ?_
       refine Y Xc ?_
       refine Y Xc ?_
       refine Y Xc ?_
       refine Y As ?_
       refine Y As ?_
       refine Y As ?_
       refine Y As ?_
       refine Nq ?_
       refine Sr ?_
       refine Y Mv ?_
       refine Y Mv ?_
       refine Y Mv ?_
       refine D (Cf (hs := bound2_sp hBB hlnB hilB hAbB (p := x75) (up := x92) hpB hsb)) ?_
       rintro _ _ ⟨_, ⟨fvB, svB, rfl, rfl⟩, rfl⟩
       refine Y Mv ?_
       refine Y Xc ?_
       refine Y Xc ?_
       refine Y Xc ?_
       refine Y Xc ?_
       refine Y As ?_
       refine Y As ?_
       refine Y As ?_
       refine Y As ?_
       refine Nq ?_
       refine Sr ?_
       refine Y Mv ?_
       refine Y Mv ?_
       refine Y Ne_ ?_
       refine Nq ?_
       refine Cn (fun h18 => ?_) fun h18 => ?_
       ·
        refine Sr ?_
        refine Y Mv ?_
        refine Y Mv ?_
        refine D Bs ?_
        rintro _ _ ⟨b117, rfl, rfl⟩
        refine D (Ap1 x75 (hm := by omega)) ?_
        rintro v118 _ rfl
        refine Y As ?_
        refine Nq ?_
        refine Ex ?_
        refine Xo ?_
        refine Xt ?_
        refine Xt ?_
        refine Xb ?_
        refine Pb ?_
        refine Pq ?_
        refine Rg ?_
        refine Y Ad ?_
        refine Y Mv ?_
        refine Nl ?_
        refine Re ⟨(i + 1), v118, (out ++ [x75]), rfl, rfl, rfl, (by omega), (filter_take_t (p := chB (countL l k1) (countL l k2) sa sb) hx75 hout (by simp only [chB, hB1, Bool.true_and]; exact List.any_eq_true.2 ⟨_, mem_get hx92, by simp [chU, h18]⟩))⟩ (by omega) ⟨rfl, rfl, rfl, rfl, rfl, rfl, trivial⟩
       ·
        refine Sk ?_
        refine Pb ?_
        refine Pq ?_
        refine Rg ?_
        refine Y Ad ?_
        refine Y Mv ?_
        refine Nl ?_
        refine Re ⟨(j + 1), rfl, rfl, rfl, (by omega), (any_take_succ hx92 hno (by simp [chU, h18]))⟩ (by omega) ⟨rfl, rfl, rfl, rfl, rfl, rfl, rfl, rfl, rfl, rfl, trivial⟩
      ·
       refine Ex ?_
       refine Xt ?_
       refine Xt ?_
       refine Xb ?_
       refine Pb ?_
       refine Pq ?_
       refine Rg ?_
       refine Y Ad ?_
       refine Y Mv ?_
       refine Nl ?_
       refine Re ⟨(i + 1), ov, out, rfl, rfl, rfl, (by omega), (filter_take_f (p := chB (countL l k1) (countL l k2) sa sb) hx75 hout (by rw [take_all (by simp only [List.length_cons, List.length_nil]; omega)] at hno; simp [chB, hno false (by simp), hno true (by simp)]))⟩ (by omega) ⟨rfl, rfl, rfl, rfl, rfl, rfl, trivial⟩
    ·
     refine Ex ?_
     refine Xt ?_
     refine Xt ?_
     refine Xb ?_
     refine Pq ?_
     refine Sr ?_
     refine Y Mv ?_
     refine Y As ?_
     refine Y As ?_
     refine Nq ?_
     refine Rt ?_
     rw [take_all (by assumption)] at hout
     refine Rv2 [.rw (EI .i64) 3 ov out] ?_
     rw [changed_0 hE1 hE2 hsa hsb, hout]
     exact ⟨_, rfl, rfl⟩

end Go.Lag

/- Sorting, as1 a function that can be computed. -/
namespace Go.Lag
open Go Go.RowKit Go.Proofs
def insL (x : Int) : List Int → List Int
  | [] => [x]
  | y :: ys => if x ≤ y then x :: y :: ys else y :: insL x ys
def isortL : List Int → List Int
  | [] => []
  | x :: xs => insL x (isortL xs)
theorem insL_perm (x : Int) : ∀ ys, (insL x ys).Perm (x :: ys)
  | [] => List.Perm.refl _
  | y :: ys => by
    unfold insL; split
    · exact List.Perm.refl _
    · exact ((insL_perm x ys).cons y).trans (List.Perm.swap x y ys)
theorem isortL_perm : ∀ xs, (isortL xs).Perm xs
  | [] => List.Perm.refl _
  | x :: xs => (insL_perm x _).trans ((isortL_perm xs).cons x)
theorem insL_sorted (x : Int) : ∀ ys : List Int, ys.Pairwise (fun a b => a ≤ b) → (insL x ys).Pairwise (fun a b => a ≤ b)
  | [], _ => by simp [insL]
  | y :: ys, h => by
    obtain ⟨h1, h2⟩ := List.pairwise_cons.1 h
    unfold insL; split
    · rename_i hx
      refine List.pairwise_cons.2 ⟨fun z hz => ?_, h⟩
      rcases List.mem_cons.1 hz with rfl | hz
      · exact hx
      · exact Int.le_trans hx (h1 z hz)
    · rename_i hx
      refine List.pairwise_cons.2 ⟨fun z hz => ?_, insL_sorted x ys h2⟩
      rcases List.mem_cons.1 ((insL_perm x ys).mem_iff.1 hz) with rfl | hz
      · omega
      · exact h1 z hz
theorem isortL_sorted : ∀ xs : List Int, (isortL xs).Pairwise (fun a b => a ≤ b)
  | [] => .nil
  | x :: xs => insL_sorted x _ (isortL_sorted xs)
theorem sortL_sorted (zs : List Int) : (sortL zs).Pairwise (fun x y => x ≤ y) := by
  have := List.pairwise_mergeSort (le := fun (x y : Int) => decide (x ≤ y)) (by simp; omega) (by simp; omega) zs
  simpa [sortL] using this
theorem sortL_isort (xs : List Int) : sortL xs = isortL xs :=
  List.Perm.eq_of_pairwise (fun a b _ _ h1 h2 => by omega) (sortL_sorted xs) (isortL_sorted xs) ((List.mergeSort_perm xs _).trans (isortL_perm xs).symm)
/-- A list that is sorted already, and one that has the same elements. -/
theorem sortL_uniq {xs ys : List Int} (h : ys.Perm xs) (hs : ys.Pairwise (fun a b => a ≤ b)) : sortL xs = ys :=
  List.Perm.eq_of_pairwise (fun a b _ _ h1 h2 => by omega) (sortL_sorted xs) hs ((List.mergeSort_perm xs _).trans h.symm)
end Go.Lag

/- The chapter's examples, computed. -/
namespace Go.Lag
open Go Go.RowKit Go.Proofs
def bs_ab : ByteArray := ⟨#[97, 98, 63]⟩
def bs_abc : ByteArray := ⟨#[97, 98, 99]⟩
def bs_oil : ByteArray := ⟨#[111, 105, 108]⟩
def r1_ : Rep := ⟨1, 5, 2, 1, 0, 0, [], 7, bs_ab, bs_oil, 40, 60, 3, 0, 0⟩
def r2_ : Rep := ⟨2, 6, 3, 1, 0, 0, [], 8, bs_abc, bs_oil, 10, 20, 4, 0, 0⟩
def r3_ : Rep := ⟨3, 9, 8, 2, 10, 2, [], 0, noBytes, noBytes, 0, 0, 0, 0, 0⟩
def r4_ : Rep := ⟨4, 12, 10, 3, 0, 0, [31, 20], 0, noBytes, noBytes, 0, 0, 0, 0, 0⟩
def r5_ : Rep := ⟨5, 13, 12, 4, 40, 0, [], 0, noBytes, noBytes, 35, 45, 0, 0, 0⟩
def r6_ : Rep := ⟨6, 14, 11, 4, 30, 0, [], 0, noBytes, noBytes, 30, 30, 0, 0, 0⟩
def bc5 : List Rep := [r1_, r2_, r3_, r4_, r5_]
def bch : List Rep := [r1_, r2_, r3_, r4_, r5_, r6_]
theorem chk_bch : (checkE bch).2 = 0 := by decide +kernel
theorem cnt20 : countL bch 20 = bch := by decide +kernel
theorem cnt14 : countL bch 14 = bch := by decide +kernel
theorem cnt13 : countL bch 13 = bc5 := by decide +kernel
theorem ids6 : idsL bch = [10, 20, 30, 31, 40] := by rw [idsL, sortL_isort]; decide +kernel
theorem ids5 : idsL bc5 = [10, 20, 30, 31, 40] := by rw [idsL, sortL_isort]; decide +kernel
def ps (lo30 hi30 : Int) : List (Int × Par) := [(10, ⟨10, 1, 3, bs_ab, bs_oil, 40, 60, 3, 7, 2, true, false⟩), (20, ⟨20, 2, 4, bs_abc, bs_oil, 10, 20, 4, 8, 3, true, false⟩), (30, ⟨30, 3, 0, bs_ab, bs_oil, lo30, hi30, 0, 0, 8, false, false⟩),
  (31, ⟨31, 3, 4, bs_ab, bs_oil, 1, 100000000, 0, 0, 8, false, false⟩), (40, ⟨40, 4, 0, noBytes, bs_oil, 35, 45, 0, 0, 10, false, false⟩)]
theorem pars6 : parsL bch = ps 30 30 := by rw [parsL, ids6]; decide +kernel
theorem pars5 : parsL bc5 = ps 1 100000000 := by rw [parsL, ids5]; decide +kernel
def as_ (lo30 hi30 : Int) : List Arc := [⟨10, 0, 3, 40, 60⟩, ⟨20, 0, 4, 10, 20⟩, ⟨30, 3, 0, lo30, hi30⟩, ⟨31, 3, 4, 1, 100000000⟩, ⟨40, 4, 0, 35, 45⟩]
theorem arcs_of {l : List Rep} {lo hi : Int} (h1 : idsL l = [10, 20, 30, 31, 40]) (h2 : parsL l = ps lo hi) : arcsL l = as_ lo hi := by
  simp only [arcsL, h1, List.map_cons, List.map_nil, arcL, parL, h2]; rfl
theorem arcs6 : arcsL bch = as_ 30 30 := arcs_of ids6 pars6
theorem arcs5 : arcsL bc5 = as_ 1 100000000 := arcs_of ids5 pars5
theorem look_bch {k : Int} {C : List Rep} {lo hi : Int} (hC : countL bch k = C) (hp : parsL C = ps lo hi) {qs : List Int} (h : qs.all (fun p => (aget (ps lo hi) p).isSome) = true) : lookE bch k qs = 0 := by
  refine (look_0 chk_bch fun p hpq => ?_).symm
  rw [hC, hp]; exact List.all_eq_true.1 h p hpq
theorem look20 {qs : List Int} (h : qs.all (fun p => (aget (ps 30 30) p).isSome) = true) : lookE bch 20 qs = 0 := look_bch cnt20 pars6 h
theorem look14 {qs : List Int} (h : qs.all (fun p => (aget (ps 30 30) p).isSome) = true) : lookE bch 14 qs = 0 := look_bch cnt14 pars6 h
theorem look13 {qs : List Int} (h : qs.all (fun p => (aget (ps 1 100000000) p).isSome) = true) : lookE bch 13 qs = 0 := look_bch cnt13 pars5 h
/-! ### What sane asks -/
theorem e_par : (if lookE bch 20 [40] = 0 then parL (countL bch 20) 40 else Par.zero) = ⟨40, 4, 0, noBytes, bs_oil, 35, 45, 0, 0, 10, false, false⟩ := by
  rw [if_pos (look20 (by decide +kernel)), cnt20, parL, pars6]; decide +kernel
theorem e_org : (if lookE bch 20 [40] = 0 then originsL (countL bch 20) 40 else []) = [10, 20] := by
  rw [if_pos (look20 (by decide +kernel)), cnt20, originsL, sortL_isort]
  simp only [foundL, pars6]; decide +kernel
theorem e_rem : (if lookE bch 20 [10] = 0 then remainsL (countL bch 20) 10 else []) = [30, 40] := by
  rw [if_pos (look20 (by decide +kernel)), cnt20, remainsL, sortL_isort]
  simp only [pars6]; decide +kernel
theorem e_chain : chainE bch 20 10 40 = ([3, 4], 0) := by
  rw [chainE, if_neg (by rw [look20 (by decide +kernel)]; decide), cnt20]; decide +kernel
theorem bal6 : balOf bch = some ([45, 20, 30, 15, 35], [(3, 0), (0, 0), (4, 0)]) := by rw [balOf, arcs6]; decide +kernel
theorem bal5 : balOf bc5 = some ([40, 10, 15, 25, 35], [(3, 0), (0, 0), (4, 0)]) := by rw [balOf, arcs5]; decide +kernel
theorem end_of {l : List Rep} {A : List Arc} (h : arcsL l = A) (p : Int) (up : Bool) (st : BSta) : endL l p up st =
    fAt (if up then raiseN A (idxF (fun a => decide (a.parcel = p)) A) ((raiseGap A st.1 (idxF (fun a => decide (a.parcel = p)) A)).toNat + 1) st.1 else sinkN A (idxF (fun a => decide (a.parcel = p)) A) ((sinkGap A st.1 (idxF (fun a => decide (a.parcel = p)) A)).toNat + 1) st.1).1 (idxF (fun a => decide (a.parcel = p)) A) := by
  simp only [endL, boundN, arcI, h]
theorem e_w13 : weightE bch 13 31 = (15, 35, 0) := by
  rw [weightE, if_neg (by rw [look13 (by decide +kernel)]; decide), cnt13, bal5]
  simp only [end_of arcs5]; decide +kernel
theorem e_w14 : weightE bch 14 31 = (15, 30, 0) := by
  rw [weightE, if_neg (by rw [look14 (by decide +kernel)]; decide), cnt14, bal6]
  simp only [end_of arcs6]; decide +kernel
theorem terms_of {l : List Rep} {A : List Arc} (h : arcsL l = A) (p : Int) (up : Bool) (side : List Int) : termsL l p up side =
    if side.length = 0 then some [⟨aAt A (idxF (fun a => decide (a.parcel = p)) A), up, 1⟩] else if acrossN (aAt A (idxF (fun a => decide (a.parcel = p)) A)) side = 0 then none
    else some (A.flatMap (term1 p up side (acrossN (aAt A (idxF (fun a => decide (a.parcel = p)) A)) side))) := by
  simp only [termsL, arcI, h]
theorem e_side : sideCk bch 14 31 true 30 [3] = (true, 0) := by
  rw [sideCk, if_neg (by rw [look14 (by decide +kernel)]; decide), cnt14, if_neg (by decide +kernel), terms_of arcs6]; decide +kernel
theorem e_rest : restsE bch 14 31 true [4] = ([2, 5], 0) := by
  rw [restsE, if_neg (by rw [look14 (by decide +kernel)]; decide), cnt14, if_neg (by decide +kernel), terms_of arcs6]
  simp only [sortL_isort]; decide +kernel
theorem e_chg : changedE bch 13 14 = ([10, 30, 31], 0) := by
  rw [changed_0 (look13 (by decide +kernel)) (look14 (by decide +kernel)) (by rw [cnt13]; exact bal5) (by rw [cnt14]; exact bal6), cnt13, cnt14, ids5]
  unfold chB chU
  simp only [pars6, end_of arcs5, end_of arcs6]; decide +kernel
end Go.Lag

/- What the laws' own functions compute: plain; the examples' calls. -/
namespace Go.Lag
open Go Go.RowKit Go.Proofs
/-! ### few -/
def bigB (x : Rep) : Bool := decide ((12 : Int) < (x.parts.length : Int)) || decide ((100 : Int) < (x.mark.size : Int)) || decide ((100 : Int) < (x.goods.size : Int))
def fewB (l : List Rep) (most : Int) : Bool := !(l.take 210).any bigB && (decide ((l.length : Int) ≤ most) || (decide ((200 : Int) < (l.length : Int)) && decide ((l.length : Int) ≤ 203)))
theorem few_end {l : List Rep} {i : Nat} (hno : ∀ y ∈ l.take i, bigB y = false) (h : (decide ((i : Int) < (l.length : Int)) && decide ((i : Int) < 210)) = false) (hi : i ≤ 210) : (l.take 210).any bigB = false := by
  rw [List.any_eq_false]
  intro y hy
  have : y ∈ l.take i := by
    by_cases hl : (i : Int) < (l.length : Int)
    · have : i = 210 := by simp [hl] at h; omega
      rw [this]; exact hy
    · rw [take_all hl]; exact List.mem_of_mem_take hy
  simp [hno y this]
theorem few_no {l : List Rep} {i : Nat} {x : Rep} (hx : l[i]? = some x) (hi : i < 210) (h : bigB x = true) (most : Int) : false = fewB l most := by
  have : (l.take 210).any bigB = true := List.any_eq_true.2 ⟨x, List.mem_of_getElem? (i := i) (by rw [List.getElem?_take, if_pos hi]; exact hx), h⟩
  simp [fewB, this]
theorem few_len {l : List Rep} {most : Int} (hm : most ≤ 203) (h : fewB l most = true) : l.length ≤ 203 := by
  simp only [fewB, Bool.and_eq_true, Bool.or_eq_true, decide_eq_true_eq] at h
  omega
/-! ### The beach -/
def bcells (b : Nat) : List Value := repCells r1_ (.slice none 0 0) ++ repCells r2_ (.slice none 0 0) ++ repCells r3_ (.slice none 0 0) ++ repCells r4_ (.slice (some ⟨b, 0, none⟩) 2 2) ++ repCells r5_ (.slice none 0 0) ++ repCells r6_ (.slice none 0 0)
theorem beach_el {Z : Hp} {b : Nat} (hz : SlZ (EI .i64) Z (.slice (some ⟨b, 0, none⟩) 2 2) [31, 20]) : Elems (EZ Z) (bcells b) bch := by
  have e0 := Elems.nil (EZ Z)
  have e1 := e0.snoc (a := r1_) (ds := repCells r1_ (.slice none 0 0)) ⟨_, rfl, SlZ.nil _ _⟩
  have e2 := e1.snoc (a := r2_) (ds := repCells r2_ (.slice none 0 0)) ⟨_, rfl, SlZ.nil _ _⟩
  have e3 := e2.snoc (a := r3_) (ds := repCells r3_ (.slice none 0 0)) ⟨_, rfl, SlZ.nil _ _⟩
  have e4 := e3.snoc (a := r4_) (ds := repCells r4_ (.slice (some ⟨b, 0, none⟩) 2 2)) ⟨_, rfl, hz⟩
  have e5 := e4.snoc (a := r5_) (ds := repCells r5_ (.slice none 0 0)) ⟨_, rfl, SlZ.nil _ _⟩
  exact e5.snoc (a := r6_) (ds := repCells r6_ (.slice none 0 0)) ⟨_, rfl, SlZ.nil _ _⟩
theorem beach_one (b : Nat) : ∀ u ∈ bcells b, u.oneCell' = true := by
  have : (bcells b).all (·.oneCell') = true := rfl
  exact List.all_eq_true.1 this
/-! ### The examples' calls -/
section
variable {Z : Hp} {lv : Value} (hl : SlZ (EZ Z) Z lv bch)
include hl
theorem s_par : Sp Tryz.prog 42 [lv, .int .i64 20, .int .i64 40] [.zm Z] fun v H' => v = .tuple #[parV ⟨40, 4, 0, noBytes, bs_oil, 35, 45, 0, 0, 10, false, false⟩, .int .i64 0] ∧ H' = [] := by
  have h := parcelOf_sp (l := bch) (known := 20) (p := 40) (hl := hl) (hn := by decide)
  rwa [e_par, look20 (by decide +kernel)] at h
theorem s_org : Sp Tryz.prog 20 [lv, .int .i64 20, .int .i64 40] [.zm Z] fun v H' => ∃ sv, v = .tuple #[sv, .int .i64 0] ∧ H' = [.rw (EI .i64) 3 sv [10, 20]] := by
  have h := origins_sp (l := bch) (known := 20) (p := 40) (hl := hl) (hn := by decide)
  rwa [e_org, look20 (by decide +kernel)] at h
theorem s_rem : Sp Tryz.prog 22 [lv, .int .i64 20, .int .i64 10] [.zm Z] fun v H' => ∃ sv, v = .tuple #[sv, .int .i64 0] ∧ H' = [.rw (EI .i64) 3 sv [30, 40]] := by
  have h := remains_sp (l := bch) (known := 20) (p := 10) (hl := hl) (hn := by decide)
  rwa [e_rem, look20 (by decide +kernel)] at h
theorem s_chain : Sp Tryz.prog 30 [lv, .int .i64 20, .int .i64 10, .int .i64 40] [.zm Z] fun v H' => ∃ sv, v = .tuple #[sv, .int .i64 0] ∧ H' = [.rw (EI .i64) 3 sv [3, 4]] := by
  have h := chain_sp (l := bch) (known := 20) (f := 10) (p := 40) (hl := hl) (hn := by decide)
  rwa [e_chain] at h
theorem s_w13 : Sp Tryz.prog 29 [lv, .int .i64 13, .int .i64 31] [.zm Z] fun v H' => v = .tuple #[.int .i64 15, .int .i64 35, .int .i64 0] ∧ H' = [] := by
  have h := weight_sp (l := bch) (known := 13) (p := 31) (hl := hl) (hn := by decide)
  rwa [e_w13] at h
theorem s_w14 : Sp Tryz.prog 29 [lv, .int .i64 14, .int .i64 31] [.zm Z] fun v H' => v = .tuple #[.int .i64 15, .int .i64 30, .int .i64 0] ∧ H' = [] := by
  have h := weight_sp (l := bch) (known := 14) (p := 31) (hl := hl) (hn := by decide)
  rwa [e_w14] at h
theorem s_side {sv : Value} (hs : SlZ (EI .i64) Z sv [3]) : Sp Tryz.prog 59 [lv, .int .i64 14, .int .i64 31, .bool true, .int .i64 30, sv] [.zm Z] fun v H' => v = .tuple #[.bool true, .int .i64 0] ∧ H' = [] := by
  have h := checkSide_sp (l := bch) (known := 14) (p := 31) (up := true) (side := [3]) (end_ := 30) (hl := hl) (hsd := hs) (hn := by decide)
  rwa [e_side] at h
theorem s_rest {sv : Value} (hs : SlZ (EI .i64) Z sv [4]) : Sp Tryz.prog 58 [lv, .int .i64 14, .int .i64 31, .bool true, sv] [.zm Z] fun v H' => ∃ ov, v = .tuple #[ov, .int .i64 0] ∧ H' = [.rw (EI .i64) 3 ov [2, 5]] := by
  have h := rests_sp (l := bch) (known := 14) (p := 31) (up := true) (side := [4]) (hl := hl) (hsd := hs) (hn := by decide)
  rwa [e_rest] at h
theorem s_chg : Sp Tryz.prog 25 [lv, .int .i64 13, .int .i64 14] [.zm Z] fun v H' => ∃ ov, v = .tuple #[ov, .int .i64 0] ∧ H' = [.rw (EI .i64) 3 ov [10, 30, 31]] := by
  have h := changed_sp (l := bch) (k1 := 13) (k2 := 14) (hl := hl) (hn := by decide)
  rwa [e_chg] at h
end
end Go.Lag

/- Parcels compared as1 structs; rows of parcels read. -/
namespace Go.Lag
open Go Go.RowKit Go.Proofs
/-- The type of a parcel: its fields can be compared. -/
structure ParT (P : Program) (t a s sp b : TypeId) : Prop where
  q : EqT P t [(0, a), (1, a), (2, a), (3, s), (4, s), (5, sp), (7, a), (8, a), (9, a), (10, b), (11, b)]
  i : P.underlying a = some (.int .i64)
  n : rowT P a = some false
  ss : P.underlying s = some .string
  sn : rowT P s = some false
  bb : P.underlying b = some .bool
  bn : rowT P b = some false
  sq : SpanT P sp a
  sr : rowT P sp = some true
  sz : sizeT P sp = some 2
theorem bytes_dec (a b : ByteArray) : (a.toList == b.toList) = decide (a = b) := bytes_eq a b

theorem part_span {cs : List Value} {o : Nat} {ft : TypeId} {lo hi : Value} {P : Program} {w : World} (hT : rowT P ft = some true) (hs : sizeT P ft = some 2) (hv : (cs.drop o).take 2 = [lo, hi]) : (part ft cs.toArray o).run P w = .ok (.agg #[lo, hi]) w := by
  have h1 : cs.toArray.extract o (o + 2) = #[lo, hi] := by
    apply Array.ext'
    simp only [List.extract_toArray, List.extract_eq_take_drop, Nat.add_sub_cancel_left, hv]
  simp only [List.extract_toArray] at h1
  simp [part, run_isAgg hT, run_sizeOf hs, hv]

theorem run_par {P : Program} {w : World} {t a s sp b : TypeId} (h : ParT P t a s sp b) (dep : Nat) (x y : Par) : (Op.equalIn (dep + 3) t (parV x) (parV y)).run P w = .ok (decide (x = y)) w := by
  have hall : ([decide (x.id = y.id), decide (x.from_ = y.from_), decide (x.into = y.into), decide (x.mark = y.mark), decide (x.goods = y.goods), (decide (x.low = y.low) && decide (x.high = y.high)), decide (x.finder = y.finder), decide (x.cell = y.cell), decide (x.hour = y.hour), (x.found == y.found), (x.hidden == y.hidden)]).all id = decide (x = y) := by
    rw [Bool.eq_iff_iff]; cases x; cases y; simp [List.all_cons, and_assoc]
  rw [show parV x = .agg (parCells x).toArray from rfl, show parV y = .agg (parCells y).toArray from rfl, run_equalIn_agg _ _ _ _ _ h.q.u h.q.s]
  have hf := h.q.f
  obtain ⟨fs, hfs⟩ : ∃ fs, (P.fieldsOf t).toList = fs := ⟨_, rfl⟩
  rw [hfs] at hf ⊢
  have hlen : fs.length = 11 := by have := congrArg List.length hf; simpa using this
  have hg : ∀ (i : Nat) (f : Field), fs[i]? = some f → some (f.name != "_", f.offset, f.type) = ([(0, a), (1, a), (2, a), (3, s), (4, s), (5, sp), (7, a), (8, a), (9, a), (10, b), (11, b)] : List (Nat × TypeId))[i]?.map fun p => (true, p) := by
    intro i f hi
    have := congrArg (fun l => l[i]?) hf
    simp only [List.getElem?_map, hi, Option.map_some] at this
    rw [this]
  rw [run_eqFields (w := w) (dep + 2) _ _ fs [decide (x.id = y.id), decide (x.from_ = y.from_), decide (x.into = y.into), decide (x.mark = y.mark), decide (x.goods = y.goods), (decide (x.low = y.low) && decide (x.high = y.high)), decide (x.finder = y.finder), decide (x.cell = y.cell), decide (x.hour = y.hour), (x.found == y.found), (x.hidden == y.hidden)] (by rw [hlen]; rfl), hall]
  intro i f q hi hq
  have h0 := hg i f hi
  match i with
  | 0 =>
    simp at h0 hq; obtain ⟨n1, o1, t1⟩ := h0; subst hq
    refine ⟨n1, _, _, part_leaf (cs := parCells x) (by rw [t1]; exact h.n) (by rw [o1]; rfl), part_leaf (cs := parCells y) (by rw [t1]; exact h.n) (by rw [o1]; rfl), ?_⟩
    rw [run_equalIn_int w _ _ _ _ _ _ (by rw [t1]; exact h.i)]; rw [show (∀ a b : Int, (a == b) = decide (a = b)) from fun a b => by by_cases h : a = b <;> simp [h]]
  | 1 =>
    simp at h0 hq; obtain ⟨n1, o1, t1⟩ := h0; subst hq
    refine ⟨n1, _, _, part_leaf (cs := parCells x) (by rw [t1]; exact h.n) (by rw [o1]; rfl), part_leaf (cs := parCells y) (by rw [t1]; exact h.n) (by rw [o1]; rfl), ?_⟩
    rw [run_equalIn_int w _ _ _ _ _ _ (by rw [t1]; exact h.i)]; rw [show (∀ a b : Int, (a == b) = decide (a = b)) from fun a b => by by_cases h : a = b <;> simp [h]]
  | 2 =>
    simp at h0 hq; obtain ⟨n1, o1, t1⟩ := h0; subst hq
    refine ⟨n1, _, _, part_leaf (cs := parCells x) (by rw [t1]; exact h.n) (by rw [o1]; rfl), part_leaf (cs := parCells y) (by rw [t1]; exact h.n) (by rw [o1]; rfl), ?_⟩
    rw [run_equalIn_int w _ _ _ _ _ _ (by rw [t1]; exact h.i)]; rw [show (∀ a b : Int, (a == b) = decide (a = b)) from fun a b => by by_cases h : a = b <;> simp [h]]
  | 3 =>
    simp at h0 hq; obtain ⟨n1, o1, t1⟩ := h0; subst hq
    refine ⟨n1, _, _, part_leaf (cs := parCells x) (by rw [t1]; exact h.sn) (by rw [o1]; rfl), part_leaf (cs := parCells y) (by rw [t1]; exact h.sn) (by rw [o1]; rfl), ?_⟩
    rw [run_equalIn_string w _ _ _ _ (by rw [t1]; exact h.ss), bytes_dec]
  | 4 =>
    simp at h0 hq; obtain ⟨n1, o1, t1⟩ := h0; subst hq
    refine ⟨n1, _, _, part_leaf (cs := parCells x) (by rw [t1]; exact h.sn) (by rw [o1]; rfl), part_leaf (cs := parCells y) (by rw [t1]; exact h.sn) (by rw [o1]; rfl), ?_⟩
    rw [run_equalIn_string w _ _ _ _ (by rw [t1]; exact h.ss), bytes_dec]
  | 5 =>
    simp at h0 hq; obtain ⟨n1, o1, t1⟩ := h0; subst hq
    refine ⟨n1, _, _, part_span (cs := parCells x) (by rw [t1]; exact h.sr) (by rw [t1]; exact h.sz) (by rw [o1]; rfl), part_span (cs := parCells y) (by rw [t1]; exact h.sr) (by rw [t1]; exact h.sz) (by rw [o1]; rfl), ?_⟩
    rw [t1]; exact run_span h.sq dep _ _ _ _
  | 6 =>
    simp at h0 hq; obtain ⟨n1, o1, t1⟩ := h0; subst hq
    refine ⟨n1, _, _, part_leaf (cs := parCells x) (by rw [t1]; exact h.n) (by rw [o1]; rfl), part_leaf (cs := parCells y) (by rw [t1]; exact h.n) (by rw [o1]; rfl), ?_⟩
    rw [run_equalIn_int w _ _ _ _ _ _ (by rw [t1]; exact h.i)]; rw [show (∀ a b : Int, (a == b) = decide (a = b)) from fun a b => by by_cases h : a = b <;> simp [h]]
  | 7 =>
    simp at h0 hq; obtain ⟨n1, o1, t1⟩ := h0; subst hq
    refine ⟨n1, _, _, part_leaf (cs := parCells x) (by rw [t1]; exact h.n) (by rw [o1]; rfl), part_leaf (cs := parCells y) (by rw [t1]; exact h.n) (by rw [o1]; rfl), ?_⟩
    rw [run_equalIn_int w _ _ _ _ _ _ (by rw [t1]; exact h.i)]; rw [show (∀ a b : Int, (a == b) = decide (a = b)) from fun a b => by by_cases h : a = b <;> simp [h]]
  | 8 =>
    simp at h0 hq; obtain ⟨n1, o1, t1⟩ := h0; subst hq
    refine ⟨n1, _, _, part_leaf (cs := parCells x) (by rw [t1]; exact h.n) (by rw [o1]; rfl), part_leaf (cs := parCells y) (by rw [t1]; exact h.n) (by rw [o1]; rfl), ?_⟩
    rw [run_equalIn_int w _ _ _ _ _ _ (by rw [t1]; exact h.i)]; rw [show (∀ a b : Int, (a == b) = decide (a = b)) from fun a b => by by_cases h : a = b <;> simp [h]]
  | 9 =>
    simp at h0 hq; obtain ⟨n1, o1, t1⟩ := h0; subst hq
    refine ⟨n1, _, _, part_leaf (cs := parCells x) (by rw [t1]; exact h.bn) (by rw [o1]; rfl), part_leaf (cs := parCells y) (by rw [t1]; exact h.bn) (by rw [o1]; rfl), ?_⟩
    rw [run_equalIn_bool' w _ _ _ _ (by rw [t1]; exact h.bb)]
  | 10 =>
    simp at h0 hq; obtain ⟨n1, o1, t1⟩ := h0; subst hq
    refine ⟨n1, _, _, part_leaf (cs := parCells x) (by rw [t1]; exact h.bn) (by rw [o1]; rfl), part_leaf (cs := parCells y) (by rw [t1]; exact h.bn) (by rw [o1]; rfl), ?_⟩
    rw [run_equalIn_bool' w _ _ _ _ (by rw [t1]; exact h.bb)]
  | i + 11 => simp at hq
class TParT (P : Program) (t : TypeId) (a s sp b : outParam TypeId) : Prop where h : ParT P t a s sp b
instance : TParT Tryz.prog 42 3 9 40 4 := ⟨⟨⟨by kernel_rfl, by kernel_rfl, by kernel_rfl, by kernel_rfl⟩, by kernel_rfl, by kernel_rfl, by kernel_rfl, by kernel_rfl, by kernel_rfl, by kernel_rfl, ⟨⟨by kernel_rfl, by kernel_rfl, by kernel_rfl, by kernel_rfl⟩, by kernel_rfl, by kernel_rfl⟩, by kernel_rfl, by kernel_rfl⟩⟩
section
variable {P : Program} {l : Env} {H : List Assn} {ty t u a s sp b : TypeId} {x y : Operand}
theorem NePa {p q : Par} [h : TParT P t a s sp b] (hx : ev l x = some (parV p) := by rfl) (hy : ev l y = some (parV q) := by rfl) : YldH P (.binOp .neq t x y u) ty l H (.bool (!decide (p = q))) := fun w _ ρ hρ => by
  have h1 : (binOp .neq t (parV p) (parV q)).run P w = .ok (.bool (!decide (p = q))) w := by
    rw [show parV p = .agg (parCells p).toArray from rfl, show parV q = .agg (parCells q).toArray from rfl, run_neq_struct]
    have := run_par (w := w) h.h 9997 p q
    rw [show parV p = .agg (parCells p).toArray from rfl, show parV q = .agg (parCells q).toArray from rfl] at this
    simp [this]
  have h2 : (eqGuard .neq t x y (parV p) (parV q)).run P w = .ok () w := run_eqGuard_agg w _ _ _ _ _ _ h.h.q.g
  simp [execOp, bare, hρ _ _ hx, hρ _ _ hy, h1, h2]
end
end Go.Lag

/- Nothing depends on what is known later: plain; contracts where all is well. -/
namespace Go.Lag
open Go Go.RowKit Go.Proofs
theorem eq_take {α : Type} {xs ys : List α} {i : Nat} {a b : α} (h : xs.take i = ys.take i) (hx : xs[i]? = some a) (hy : ys[i]? = some b) (hab : a = b) : xs.take (i + 1) = ys.take (i + 1) := by
  rw [take_get hx, take_get hy, h, hab]
theorem ne_take {α : Type} {xs ys : List α} {i : Nat} {a b : α} (hx : xs[i]? = some a) (hy : ys[i]? = some b) (hab : ¬ a = b) : ¬ xs = ys := by
  intro h; rw [h, hy] at hx; injection hx with hx; exact hab hx.symm
theorem eq_all {α : Type} {xs ys : List α} {i : Nat} (h : xs.take i = ys.take i) (hl : xs.length = ys.length) (hi : ¬ (i : Int) < (xs.length : Int)) : xs = ys := by
  have h1 : ¬ (i : Int) < (ys.length : Int) := by omega
  rwa [take_all hi, take_all h1] at h
section
variable {r : Option Nat} {P : Program} {m : Nat} {ds : List Deferred} {Q : Exit → Act → World → Prop} {l : Env} {H R R' : List Assn} {rest : List Oper} {ops : Array Oper}
theorem FzRR {Z : Hp} {e : TypeId} {v : Value} {xs : List Rep} (h : ∀ Z', ZLe Z Z' → SlZ (EZ Z') Z' v xs → RegH r P m ds ops Q rest l (.zm Z' :: R'))
    (hp : Pick (.rw (EZ Z) e v xs) H R := by repeat (first | exact Pick.head | apply Pick.tail)) (hq : Pick (.zm Z) R R' := by repeat (first | exact Pick.head | apply Pick.tail)) : RegH r P m ds ops Q rest l H := fun w hw => by
  have h1 : Holds (.rw (EZ Z) e v xs :: .zm Z :: R') w := hw.perm (hp.trans (hq.cons _))
  obtain ⟨Z', q1, q2, q3⟩ := h1.fzR
  exact h Z' q1 q2 w q3
end
theorem look_nil {l : List Rep} (h : (checkE l).2 = 0) (known : Int) : lookE l known [] = 0 := (look_0 h (by simp)).symm
theorem look_nil_e {l : List Rep} (known : Int) : lookE l known [] = (checkE l).2 := by
  unfold lookE; split
  · rfl
  · rename_i h; simp at h; simp [h]
theorem look_zero {l : List Rep} {known : Int} {ps : List Int} (h : ¬ (checkE l).2 = 0) : lookE l known ps = (checkE l).2 := by simp [lookE, h]
def earlyL (l : List Rep) (k : Int) : List Rep := l.filter fun x => decide (x.known ≤ k)
theorem look_early {l : List Rep} (h : (checkE l).2 = 0) (k : Int) (ps : List Int) : lookE (earlyL l k) k ps = lookE l k ps := by
  simp only [lookE, h, check_early h k, earlyL, count_early]
theorem weight_early {l : List Rep} (h : (checkE l).2 = 0) (k p : Int) : weightE (earlyL l k) k p = weightE l k p := by
  simp only [weightE, look_early h k]; simp only [earlyL, count_early]
section
variable {Z : Hp} {l : List Rep} {lv : Value} (hl : SlZ (EZ Z) Z lv l) {known : Int} (hn : l.length ≤ 1000)
include hl hn
theorem parcels0 (h0 : (checkE l).2 = 0) : Sp Tryz.prog 55 [lv, .int .i64 known] [.zm Z] fun v H' => ∃ sv, v = .tuple #[sv, .int .i64 0] ∧ H' = [.rw EPr 42 sv ((idsL (countL l known)).map (parL (countL l known)))] := by
  have h := parcels_sp (known := known) (hl := hl) (hn := hn)
  rwa [look_nil h0, if_pos rfl] at h
theorem present0 (h0 : (checkE l).2 = 0) {hour : Int} : Sp Tryz.prog 57 [lv, .int .i64 known, .int .i64 hour] [.zm Z] fun v H' => ∃ sv, v = .tuple #[sv, .int .i64 0] ∧ H' = [.rw (EI .i64) 3 sv ((idsL (countL l known)).filter (fun p => !!presB (countL l known) hour (parL (countL l known) p)))] := by
  have h := present_sp (known := known) (hour := hour) (hl := hl) (hn := hn)
  rwa [look_nil h0, if_pos rfl] at h
end
theorem par_id {l : List Rep} {p : Int} (h : p ∈ idsL l) : (parL l p).id = p := by rw [parL_ids h]; rfl
/-- Where a parcel stands among all. -/
theorem par_at {l : List Rep} {q : Int} (h : q ∈ idsL l) : ∃ (i : Nat), idxF (fun a : Par => decide (a.id = q)) ((idsL l).map (parL l)) = (i : Int) ∧ ((idsL l).map (parL l))[i]? = some (parL l q) := by
  have hany : ((idsL l).map (parL l)).any (fun a : Par => decide (a.id = q)) = true := List.any_eq_true.2 ⟨parL l q, List.mem_map_of_mem h, by simp [par_id h]⟩
  have hge : ¬ idxF (fun a : Par => decide (a.id = q)) ((idsL l).map (parL l)) < 0 := by
    have := @idxF_pos _ (fun a : Par => decide (a.id = q)) ((idsL l).map (parL l))
    rw [hany] at this
    have h2 := of_decide_eq_true this
    omega
  obtain ⟨i, x, h1, h2, h3, _⟩ := idxF_exg hge
  refine ⟨i, h1, ?_⟩
  obtain ⟨p, hp, rfl⟩ := List.mem_map.1 (mem_get h2)
  have e : p = q := by have := of_decide_eq_true h3; rwa [par_id hp] at this
  rw [h2, e]
theorem par_none {l : List Rep} {q : Int} (h : q ∉ idsL l) : idxF (fun a : Par => decide (a.id = q)) ((idsL l).map (parL l)) = -1 := by
  refine (idxF_none (i := ((idsL l).map (parL l)).length) (by omega) fun y hy => ?_).symm
  rw [List.take_length] at hy
  obtain ⟨p, hp, rfl⟩ := List.mem_map.1 hy
  refine decide_eq_false fun e => h ?_
  rw [par_id hp] at e; exact e ▸ hp
theorem later_at {l : List Rep} {hour q : Int} {k : Nat} (h : ((idsL l).filter (fun p => !!presB l hour (parL l p)))[k]? = some q) : ∃ (i : Nat) (a : Par), idxF (fun a : Par => decide (a.id = q)) ((idsL l).map (parL l)) = (i : Int) ∧ ((idsL l).map (parL l))[i]? = some a ∧ a.hour ≤ hour := by
  obtain ⟨h1, h2⟩ := List.mem_filter.1 (mem_get h)
  obtain ⟨i, q1, q2⟩ := par_at h1
  refine ⟨i, _, q1, q2, ?_⟩
  simp only [Bool.not_not, presB, Bool.and_eq_true, decide_eq_true_eq] at h2
  exact h2.1
end Go.Lag

namespace Go.Lag
open Go Go.RowKit Go.Proofs
set_option maxRecDepth 100000 in
set_option maxHeartbeats 4000000 in
theorem sameParcels_sp {Z Z2 : Hp} {xs ys : List Par} {sv tv : Value} (hx : SlZ EPr Z sv xs := by assumption) (hy : SlZ EPr Z2 tv ys := by assumption) : SpV Tryz.prog 56 [sv, tv] [.zm Z, .zm Z2] (.bool (decide (xs = ys))) := by
 refine Sp.of 26 Tryz.func56 rfl rfl rfl ?_
 intro F
 have hlen := hx.len_le
 refine Sr ?_
 refine Y As ?_
 refine Nq ?_
 refine Sq ?_
 refine Sr ?_
 refine Y Mv ?_
 refine Y Ln ?_
 refine Y Mv ?_
 refine Y Ln ?_
 refine Y Ne_ ?_
 refine Nq ?_
 refine Cn (fun h2 => ?_) fun h2 => ?_
 ·
  refine Sr ?_
  refine Y As ?_
  refine Nq ?_
  refine Rt ?_
  refine Rh ?_
  refine Rv [] ?_
  exact ⟨congrArg Value.bool (decide_eq_false fun h => h2 (by rw [h])).symm, rfl⟩
 ·
  refine Sk ?_
  refine Pq ?_
  refine Sq ?_
  refine Sr ?_
  refine Y As ?_
  refine Nq ?_
  refine Bk ?_
  refine Lp (fun n_ l_ H_ => ∃ (i : Nat), n_ = xs.length - i ∧ l_ = [(0, sv), (1, tv), (5, .int .i64 (i : Int))] ∧ H_ = .zm Z :: .zm Z2 :: F ∧ (i ≤ xs.length) ∧ (xs.take i = ys.take i)) ⟨0, rfl, rfl, rfl, (by omega), (by simp)⟩ ⟨rfl, rfl, rfl, trivial⟩ ?_
  rintro _ _ _ ⟨i, rfl, rfl, rfl, hi, hq⟩
  refine Sq ?_
  refine Sr ?_
  refine Y Mv ?_
  refine Y Mv ?_
  refine Y Ln ?_
  refine Y Lt ?_
  refine Nq ?_
  refine Cp (fun h4 => ?_) fun h4 => ?_
  ·
   refine Sk ?_
   refine Pq ?_
   refine Sq ?_
   refine Bk ?_
   refine Drq (fun i => false) [.zm Z, .zm Z2] (by repeat (first | exact SubH.refl | exact SubH.nil | refine SubH.cons (by repeat (first | exact Pick.head | apply Pick.tail)) ?_ | refine SubH.skip ?_)) ?_
   refine Tk 0 [] rfl Mv ?_
   refine Tk 1 [] rfl Mv ?_
   obtain ⟨x19, b19, o19, hx19, he19, hc19⟩ := SlZ.atF (fun x => parCells x) (fun _ _ h => h) hx i (by omega)
   refine Tk 2 [] rfl (IxY rfl rfl (by omega) he19) ?_
   refine Tk 3 [] rfl LdN ?_
   refine Tk 4 [] rfl Mv ?_
   refine Tk 5 [] rfl Mv ?_
   obtain ⟨x23, b23, o23, hx23, he23, hc23⟩ := SlZ.atF (fun x => parCells x) (fun _ _ h => h) hy i (by omega)
   refine Tk 6 [] rfl (IxY rfl rfl (by omega) he23) ?_
   refine Tk 7 [] rfl LdN ?_
   refine Tk 8 [] rfl NePa ?_
   refine Anq ?_
   refine Cn (fun h6 => ?_) fun h6 => ?_
   ·
    refine Sr ?_
    refine Y As ?_
    refine Nq ?_
    refine Rt ?_
    refine Rb ?_
    refine Rh ?_
    refine Rh ?_
    refine Rb ?_
    refine Rh ?_
    refine Rv [] ?_
    exact ⟨congrArg Value.bool (decide_eq_false (ne_take hx19 hx23 h6)).symm, rfl⟩
   ·
    refine Sk ?_
    refine Pb ?_
    refine Pq ?_
    refine Rg ?_
    refine Y Mv ?_
    refine Y Ad ?_
    refine Y As ?_
    refine Nl ?_
    refine Re ⟨(i + 1), rfl, rfl, rfl, (by omega), (eq_take hq hx19 hx23 h6)⟩ (by omega) ⟨rfl, rfl, rfl, trivial⟩
  ·
   refine Ex ?_
   refine Xt ?_
   refine Xt ?_
   refine Xb ?_
   refine Pq ?_
   refine Sr ?_
   refine Y As ?_
   refine Nq ?_
   refine Rt ?_
   refine Rv [] ?_
   exact ⟨congrArg Value.bool (decide_eq_true (eq_all hq (by omega) h4)).symm, rfl⟩

set_option maxRecDepth 100000 in
set_option maxHeartbeats 4000000 in
theorem index_sp {Z : Hp} {xs : List Par} {sv : Value} (hx : SlZ EPr Z sv xs := by assumption) {p : Int} : SpV Tryz.prog 28 [sv, .int .i64 p] [.zm Z] (.int .i64 (idxF (fun a => decide (a.id = p)) xs)) := by
 refine Sp.of 20 Tryz.func28 rfl rfl rfl ?_
 intro F
 have hlen := hx.len_le
 refine Sr ?_
 refine Y As ?_
 refine Nq ?_
 refine Sq ?_
 refine Sr ?_
 refine Y As ?_
 refine Nq ?_
 refine Bk ?_
 refine Lp (fun n_ l_ H_ => ∃ (i : Nat), n_ = xs.length - i ∧ l_ = [(0, sv), (1, .int .i64 p), (5, .int .i64 (i : Int))] ∧ H_ = .zm Z :: F ∧ (i ≤ xs.length) ∧ (∀ y ∈ xs.take i, (fun a : Par => decide (a.id = p)) y = false)) ⟨0, rfl, rfl, rfl, (by omega), (by simp)⟩ ⟨rfl, rfl, rfl, trivial⟩ ?_
 rintro _ _ _ ⟨i, rfl, rfl, rfl, hi, hno⟩
 refine Sq ?_
 refine Sr ?_
 refine Y Mv ?_
 refine Y Mv ?_
 refine Y Ln ?_
 refine Y Lt ?_
 refine Nq ?_
 refine Cp (fun h2 => ?_) fun h2 => ?_
 ·
  refine Sk ?_
  refine Pq ?_
  refine Sq ?_
  refine Bk ?_
  refine Sr ?_
  refine Y Mv ?_
  refine Y Mv ?_
  obtain ⟨x14, b14, o14, hx14, he14, hc14⟩ := SlZ.atF (fun x => parCells x) (fun _ _ h => h) hx i (by omega)
  refine Y (IxY rfl rfl (by omega) he14) ?_
  refine Y Fa ?_
  refine Y Ld ?_
  refine Y Mv ?_
  refine Y Eq_ ?_
  refine Nq ?_
  refine Cp (fun h4 => ?_) fun h4 => ?_
  ·
   refine Sr ?_
   refine Y Mv ?_
   refine Y As ?_
   refine Nq ?_
   refine Rt ?_
   refine Rb ?_
   refine Rh ?_
   refine Rh ?_
   refine Rb ?_
   refine Rh ?_
   refine Rv [] ?_
   exact ⟨congrArg (Value.int .i64) (idxF_found hx14 hno (decide_eq_true h4)), rfl⟩
  ·
   refine Sk ?_
   refine Pb ?_
   refine Pq ?_
   refine Rg ?_
   refine Y Mv ?_
   refine Y Ad ?_
   refine Y As ?_
   refine Nl ?_
   refine Re ⟨(i + 1), rfl, rfl, rfl, (by omega), (any_take_succ hx14 hno (decide_eq_false h4))⟩ (by omega) ⟨rfl, rfl, rfl, trivial⟩
 ·
  refine Ex ?_
  refine Xt ?_
  refine Xt ?_
  refine Xb ?_
  refine Pq ?_
  refine Sr ?_
  refine Y As ?_
  refine Nq ?_
  refine Rt ?_
  refine Rv [] ?_
  exact ⟨congrArg (Value.int .i64) (idxF_none (by assumption) hno), rfl⟩

end Go.Lag

namespace Go.Lag
open Go Go.RowKit Go.Proofs
set_option maxRecDepth 100000 in
set_option maxHeartbeats 4000000 in
theorem sameInts_sp {Z Z2 : Hp} {xs ys : List Int} {sv tv : Value} (hx : SlZ (EI .i64) Z sv xs := by assumption) (hy : SlZ (EI .i64) Z2 tv ys := by assumption) : SpV Tryz.prog 24 [sv, tv] [.zm Z, .zm Z2] (.bool (decide (xs = ys))) := by
 refine Sp.of 26 Tryz.func24 rfl rfl rfl ?_
 intro F
 have hlen := hx.len_le
 refine Sr ?_
 refine Y As ?_
 refine Nq ?_
 refine Sq ?_
 refine Sr ?_
 refine Y Mv ?_
 refine Y Ln ?_
 refine Y Mv ?_
 refine Y Ln ?_
 refine Y Ne_ ?_
 refine Nq ?_
 refine Cn (fun h2 => ?_) fun h2 => ?_
 ·
  refine Sr ?_
  refine Y As ?_
  refine Nq ?_
  refine Rt ?_
  refine Rh ?_
  refine Rv [] ?_
  exact ⟨congrArg Value.bool (decide_eq_false fun h => h2 (by rw [h])).symm, rfl⟩
 ·
  refine Sk ?_
  refine Pq ?_
  refine Sq ?_
  refine Sr ?_
  refine Y As ?_
  refine Nq ?_
  refine Bk ?_
  refine Lp (fun n_ l_ H_ => ∃ (i : Nat), n_ = xs.length - i ∧ l_ = [(0, sv), (1, tv), (5, .int .i64 (i : Int))] ∧ H_ = .zm Z :: .zm Z2 :: F ∧ (i ≤ xs.length) ∧ (xs.take i = ys.take i)) ⟨0, rfl, rfl, rfl, (by omega), (by simp)⟩ ⟨rfl, rfl, rfl, trivial⟩ ?_
  rintro _ _ _ ⟨i, rfl, rfl, rfl, hi, hq⟩
  refine Sq ?_
  refine Sr ?_
  refine Y Mv ?_
  refine Y Mv ?_
  refine Y Ln ?_
  refine Y Lt ?_
  refine Nq ?_
  refine Cp (fun h4 => ?_) fun h4 => ?_
  ·
   refine Sk ?_
   refine Pq ?_
   refine Sq ?_
   refine Bk ?_
   refine Drq (fun i => false) [.zm Z, .zm Z2] (by repeat (first | exact SubH.refl | exact SubH.nil | refine SubH.cons (by repeat (first | exact Pick.head | apply Pick.tail)) ?_ | refine SubH.skip ?_)) ?_
   refine Tk 0 [] rfl Mv ?_
   refine Tk 1 [] rfl Mv ?_
   obtain ⟨x19, b19, o19, hx19, he19, hc19⟩ := SlZ.atI hx i (by omega)
   refine Tk 2 [] rfl (IxY rfl rfl (by omega) he19) ?_
   refine Tk 3 [] rfl Ld ?_
   refine Tk 4 [] rfl Mv ?_
   refine Tk 5 [] rfl Mv ?_
   obtain ⟨x23, b23, o23, hx23, he23, hc23⟩ := SlZ.atI hy i (by omega)
   refine Tk 6 [] rfl (IxY rfl rfl (by omega) he23) ?_
   refine Tk 7 [] rfl Ld ?_
   refine Tk 8 [] rfl Ne_ ?_
   refine Anq ?_
   refine Cn (fun h6 => ?_) fun h6 => ?_
   ·
    refine Sr ?_
    refine Y As ?_
    refine Nq ?_
    refine Rt ?_
    refine Rb ?_
    refine Rh ?_
    refine Rh ?_
    refine Rb ?_
    refine Rh ?_
    refine Rv [] ?_
    exact ⟨congrArg Value.bool (decide_eq_false (ints_ne hx19 hx23 h6)).symm, rfl⟩
   ·
    refine Sk ?_
    refine Pb ?_
    refine Pq ?_
    refine Rg ?_
    refine Y Mv ?_
    refine Y Ad ?_
    refine Y As ?_
    refine Nl ?_
    refine Re ⟨(i + 1), rfl, rfl, rfl, (by omega), (ints_eq_take hq hx19 hx23 h6)⟩ (by omega) ⟨rfl, rfl, rfl, trivial⟩
  ·
   refine Ex ?_
   refine Xt ?_
   refine Xt ?_
   refine Xb ?_
   refine Pq ?_
   refine Sr ?_
   refine Y As ?_
   refine Nq ?_
   refine Rt ?_
   refine Rv [] ?_
   exact ⟨congrArg Value.bool (decide_eq_true (ints_eq hq (by omega) h4)).symm, rfl⟩

set_option maxRecDepth 100000 in
set_option maxHeartbeats 4000000 in
theorem few_sp {Z : Hp} {l : List Rep} {lv : Value} (hl : SlZ (EZ Z) Z lv l := by assumption) {most : Int} : SpV Tryz.prog 18 [lv, .int .i64 most] [.zm Z] (.bool (fewB l most)) := by
 refine Sp.of 55 Tryz.func18 rfl rfl rfl ?_
 intro F
 have hlen := hl.len_le
 refine Sr ?_
 refine Y As ?_
 refine Nq ?_
 refine Sq ?_
 refine Sr ?_
 refine Y As ?_
 refine Nq ?_
 refine Bk ?_
 refine Lp (fun n_ l_ H_ => ∃ (i : Nat), n_ = l.length - i ∧ l_ = [(0, lv), (1, .int .i64 most), (5, .int .i64 (i : Int))] ∧ H_ = .zm Z :: F ∧ (i ≤ l.length) ∧ (i ≤ 210) ∧ (∀ y ∈ l.take i, bigB y = false)) ⟨0, rfl, rfl, rfl, (by omega), (by omega), (by simp)⟩ ⟨rfl, rfl, rfl, trivial⟩ ?_
 rintro _ _ _ ⟨i, rfl, rfl, rfl, hi, hi2, hno⟩
 refine Sq ?_
 refine Sr ?_
 refine Y Mv ?_
 refine Y Mv ?_
 refine Y Ln ?_
 refine Y Lt ?_
 refine Y Mv ?_
 refine Ga 2 4 true 12 (fun h2 => by
  refine Yg h2 Mv ?_
  refine Yg h2 Lt ?_
  exact Gg) ?_
 refine Y PkA ?_
 refine Nq ?_
 refine Ct (fun h5 => ?_) fun h5 => ?_
 ·
  refine Sk ?_
  refine Pq ?_
  refine Sq ?_
  refine Bk ?_
  refine Sr ?_
  have hi9 := h5
  simp only [Bool.and_eq_true, decide_eq_true_eq] at hi9
  refine Y Mv ?_
  refine Y Mv ?_
  refine IxR fun x18 b18 o18 pv18 hx18 hp18 hc18 => ?_
  refine Y Fa ?_
  refine Y Ld ?_
  refine Y Ln ?_
  refine Y Gr ?_
  refine Y Mv ?_
  refine Ga 7 7 false 30 (fun h7 => by
   refine Yg h7 Mv ?_
   refine Yg h7 Mv ?_
   refine Gt h7 ?_
   refine IxR fun x26 b26 o26 pv26 hx26 hp26 hc26 => ?_
   obtain rfl : x26 = x18 := by have h_ := hx26.symm.trans hx18; injection h_
   refine Yg h7 Fa ?_
   refine Yg h7 Ld ?_
   refine Yg h7 LnS ?_
   refine Yg h7 Gr ?_
   exact Gg) ?_
  refine Y PkO ?_
  refine Y Mv ?_
  refine Ga 7 16 false 39 (fun h10 => by
   refine Yg h10 Mv ?_
   refine Yg h10 Mv ?_
   refine Gt h10 ?_
   refine IxR fun x35 b35 o35 pv35 hx35 hp35 hc35 => ?_
   obtain rfl : x35 = x18 := by have h_ := hx35.symm.trans hx18; injection h_
   refine Yg h10 Fa ?_
   refine Yg h10 Ld ?_
   refine Yg h10 LnS ?_
   refine Yg h10 Gr ?_
   exact Gg) ?_
  refine Y PkO ?_
  refine Nq ?_
  refine Ct (fun h13 => ?_) fun h13 => ?_
  ·
   refine Sr ?_
   refine Y As ?_
   refine Nq ?_
   refine Rt ?_
   refine Rb ?_
   refine Rh ?_
   refine Rh ?_
   refine Rb ?_
   refine Rh ?_
   refine Rv [] ?_
   exact ⟨congrArg Value.bool (few_no hx18 (by omega) h13 _), rfl⟩
  ·
   refine Sk ?_
   refine Pb ?_
   refine Pq ?_
   refine Rg ?_
   refine Y Mv ?_
   refine Y Ad ?_
   refine Y As ?_
   refine Nl ?_
   refine Re ⟨(i + 1), rfl, rfl, rfl, (by omega), (by omega), (any_take_succ hx18 hno h13)⟩ (by omega) ⟨rfl, rfl, rfl, trivial⟩
 ·
  refine Ex ?_
  refine Xt ?_
  refine Xt ?_
  refine Xb ?_
  refine Pq ?_
  refine Sr ?_
  have hall := few_end hno h5 hi2
  refine Y Mv ?_
  refine Y Ln ?_
  refine Y Mv ?_
  refine Y Le ?_
  refine Y Mv ?_
  refine GcD 44 (fun h15 => ?_) fun h15 => ?_
  ·
   refine Gf (decide_eq_true h15) ?_
   refine Gf (decide_eq_true h15) ?_
   refine Gf (decide_eq_true h15) ?_
   refine Gf (decide_eq_true h15) ?_
   refine Gu ?_
   refine Gu ?_
   refine Gu ?_
   refine Gf (decide_eq_true h15) ?_
   refine Y (PkT (hb := decide_eq_true h15)) ?_
   refine Y As ?_
   refine Nq ?_
   refine Rt ?_
   refine Rv [] ?_
   exact ⟨congrArg Value.bool (by simp [fewB, hall, h15]), rfl⟩
  ·
   refine Gt (decide_eq_false h15) ?_
   refine Y Mv ?_
   refine Gt (decide_eq_false h15) ?_
   refine Y Ln ?_
   refine Gt (decide_eq_false h15) ?_
   refine Y Gr ?_
   refine Gt (decide_eq_false h15) ?_
   refine Y Mv ?_
   refine GcD 48 (fun h17 => ?_) fun h17 => ?_
   ·
    refine Gt (decide_eq_true h17) ?_
    refine Y Mv ?_
    refine Gt (decide_eq_true h17) ?_
    refine Y Ln ?_
    refine Gt (decide_eq_true h17) ?_
    refine Y Le ?_
    refine Gt (decide_eq_false h15) ?_
    refine Y (PkT (hb := decide_eq_true h17)) ?_
    refine Y (PkF (hb := decide_eq_false h15)) ?_
    refine Y As ?_
    refine Nq ?_
    refine Rt ?_
    refine Rv [] ?_
    exact ⟨congrArg Value.bool (by simp [fewB, hall, h15, h17]), rfl⟩
   ·
    refine Gf (decide_eq_false h17) ?_
    refine Gf (decide_eq_false h17) ?_
    refine Gf (decide_eq_false h17) ?_
    refine Gt (decide_eq_false h15) ?_
    refine Y (PkF (hb := decide_eq_false h17)) ?_
    refine Y (PkF (hb := decide_eq_false h15)) ?_
    refine Y As ?_
    refine Nq ?_
    refine Rt ?_
    refine Rv [] ?_
    exact ⟨congrArg Value.bool (by simp [fewB, hall, h15, h17]), rfl⟩

end Go.Lag

namespace Go.Lag
open Go Go.RowKit Go.Proofs
set_option maxRecDepth 100000 in
set_option maxHeartbeats 4000000 in
theorem beach_sp  : Sp Tryz.prog 70 [] [] fun v H' => ∃ Z', SlZ (EZ Z') Z' v bch ∧ H' = [.zm Z'] := by
 refine Sp.of 13 Tryz.func70 rfl rfl rfl ?_
 intro F
 refine Sr ?_
 refine Y As ?_
 refine Nq ?_
 refine Sr ?_
 refine Y Bd ?_
 refine Y (Bd (hf := by kernel_rfl) (cs := (repCells r1_ (.slice none 0 0)).toArray)) ?_
 refine Y Bd ?_
 refine Y (Bd (hf := by kernel_rfl) (cs := (repCells r2_ (.slice none 0 0)).toArray)) ?_
 refine Y (Bd (hf := by kernel_rfl) (cs := (repCells r3_ (.slice none 0 0)).toArray)) ?_
 refine D Bs ?_
 rintro _ _ ⟨b6, rfl, rfl⟩
 refine ToRwI [31, 20] ?_
 refine Fz fun Zp hzp => ?_
 refine Y (Bd (hf := by kernel_rfl) (cs := (repCells r4_ (.slice (some ⟨b6, 0, none⟩) 2 2)).toArray)) ?_
 refine Y Bd ?_
 refine Y (Bd (hf := by kernel_rfl) (cs := (repCells r5_ (.slice none 0 0)).toArray)) ?_
 refine Y Bd ?_
 refine Y (Bd (hf := by kernel_rfl) (cs := (repCells r6_ (.slice none 0 0)).toArray)) ?_
 refine D Bs ?_
 rintro _ _ ⟨b12, rfl, rfl⟩
 refine Nm b12 (bcells b6) ?_ (hc := by kernel_rfl)
 refine ToRw (EZ Zp) bch Pick.head (beach_el hzp) (beach_one b6) rfl (by simp only [maxLen]; decide) ?_
 refine Y As ?_
 refine Nq ?_
 refine Rt ?_
 refine FzRP fun Z' hz hz' => ?_
 refine Rv [.zm Z'] ?_
 exact ⟨Z', hz', rfl⟩

end Go.Lag

namespace Go.Lag
open Go Go.RowKit Go.Proofs
set_option maxRecDepth 100000 in
set_option maxHeartbeats 4000000 in
theorem sane_sp  : SpV Tryz.prog 19 [] [] (.bool true) := by
 refine Sp.of 171 Tryz.func19 rfl rfl rfl ?_
 intro F
 refine Sr ?_
 refine Y As ?_
 refine Nq ?_
 refine Sr ?_
 refine D (Cf (hs := beach_sp)) ?_
 rintro v23 _ ⟨_, ⟨Z23, hl23, rfl⟩, rfl⟩
 refine Y As ?_
 refine Nq ?_
 refine Sr ?_
 refine Y Mv ?_
 refine D (Cf (hs := s_par hl23)) ?_
 rintro _ _ ⟨_, ⟨rfl, rfl⟩, rfl⟩
 refine Y Mv ?_
 refine Y Xc ?_
 refine Y Xc ?_
 refine Dal fun b2 => ?_
 refine Dsw ?_
 refine Y As ?_
 refine Nq ?_
 refine Sr ?_
 refine Y Mv ?_
 refine D (Cf (hs := s_org hl23)) ?_
 rintro _ _ ⟨_, ⟨_, rfl, rfl⟩, rfl⟩
 refine Fz fun Z31 hz31 => ?_
 refine Y Mv ?_
 refine Y Xc ?_
 refine Y Xc ?_
 refine Y As ?_
 refine Y As ?_
 refine Nq ?_
 refine Sr ?_
 refine Y Mv ?_
 refine D (Cf (hs := s_rem hl23)) ?_
 rintro _ _ ⟨_, ⟨_, rfl, rfl⟩, rfl⟩
 refine Fz fun Z36 hz36 => ?_
 refine Y Mv ?_
 refine Y Xc ?_
 refine Y Xc ?_
 refine Y As ?_
 refine Y As ?_
 refine Nq ?_
 refine Sr ?_
 refine Y Mv ?_
 refine D (Cf (hs := s_chain hl23)) ?_
 rintro _ _ ⟨_, ⟨_, rfl, rfl⟩, rfl⟩
 refine Fz fun Z41 hz41 => ?_
 refine Y Mv ?_
 refine Y Xc ?_
 refine Y Xc ?_
 refine Y As ?_
 refine Y As ?_
 refine Nq ?_
 refine Sr ?_
 refine Y Mv ?_
 refine D (Cf (hs := s_w13 hl23)) ?_
 rintro _ _ ⟨_, ⟨rfl, rfl⟩, rfl⟩
 refine Y Mv ?_
 refine Y Xc ?_
 refine Y Xc ?_
 refine Y Xc ?_
 refine Y As ?_
 refine Y As ?_
 refine Y As ?_
 refine Nq ?_
 refine Sr ?_
 refine Y Mv ?_
 refine D (Cf (hs := s_w14 hl23)) ?_
 rintro _ _ ⟨_, ⟨rfl, rfl⟩, rfl⟩
 refine Y Mv ?_
 refine Y Xc ?_
 refine Y Xc ?_
 refine Y Xc ?_
 refine Y As ?_
 refine Y As ?_
 refine Y As ?_
 refine Nq ?_
 refine Sr ?_
 refine Y Mv ?_
 refine D Bs ?_
 rintro _ _ ⟨b58, rfl, rfl⟩
 refine ToRwI [3] ?_
 refine FzI (Z := Z23) fun Z8 hz8 hs8 => ?_
 have hl8 := hl23.up hz8
 refine D (Cf (hs := s_side hl8 hs8)) ?_
 rintro _ _ ⟨_, ⟨rfl, rfl⟩, rfl⟩
 refine Y Mv ?_
 refine Y Xc ?_
 refine Y Xc ?_
 refine Y As ?_
 refine Y As ?_
 refine Nq ?_
 refine Sr ?_
 refine Y Mv ?_
 refine D Bs ?_
 rintro _ _ ⟨b64, rfl, rfl⟩
 refine ToRwI [4] ?_
 refine FzI (Z := Z8) fun Z9 hz9 hs9 => ?_
 have hl9 := hl8.up hz9
 refine D (Cf (hs := s_rest hl9 hs9)) ?_
 rintro _ _ ⟨_, ⟨_, rfl, rfl⟩, rfl⟩
 refine Fz fun Z65 hz65 => ?_
 refine Y Mv ?_
 refine Y Xc ?_
 refine Y Xc ?_
 refine Y As ?_
 refine Y As ?_
 refine Nq ?_
 refine Sr ?_
 refine Y Mv ?_
 refine D (Cf (hs := s_chg hl9)) ?_
 rintro _ _ ⟨_, ⟨_, rfl, rfl⟩, rfl⟩
 refine Fz fun Z70 hz70 => ?_
 refine Y Mv ?_
 refine Y Xc ?_
 refine Y Xc ?_
 refine Y As ?_
 refine Y As ?_
 refine Nq ?_
 refine Sq ?_
 refine Sr ?_
 refine Y Mv ?_
 refine Y Ne_ ?_
 refine Y Mv ?_
 refine Ga 2 2 false 77 (fun h2 => by
  refine Yg h2 Mv ?_
  refine Yg h2 Ne_ ?_
  exact Gg) ?_
 refine Y PkO ?_
 refine Y Mv ?_
 refine Ga 2 6 false 81 (fun h5 => by
  refine Yg h5 Mv ?_
  refine Yg h5 Ne_ ?_
  exact Gg) ?_
 refine Y PkO ?_
 refine Y Mv ?_
 refine Ga 2 10 false 85 (fun h8 => by
  refine Yg h8 Mv ?_
  refine Yg h8 Ne_ ?_
  exact Gg) ?_
 refine Y PkO ?_
 refine Y Mv ?_
 refine Ga 2 14 false 89 (fun h11 => by
  refine Yg h11 Mv ?_
  refine Yg h11 Ne_ ?_
  exact Gg) ?_
 refine Y PkO ?_
 refine Y Mv ?_
 refine Ga 2 18 false 93 (fun h14 => by
  refine Yg h14 Mv ?_
  refine Yg h14 Ne_ ?_
  exact Gg) ?_
 refine Y PkO ?_
 refine Y Mv ?_
 refine Ga 2 22 false 97 (fun h17 => by
  refine Yg h17 Mv ?_
  refine Yg h17 Ne_ ?_
  exact Gg) ?_
 refine Y PkO ?_
 refine Y Mv ?_
 refine Ga 2 26 false 101 (fun h20 => by
  refine Yg h20 Mv ?_
  refine Yg h20 Ne_ ?_
  exact Gg) ?_
 refine Y PkO ?_
 refine Y Mv ?_
 refine Ga 2 30 false 105 (fun h23 => by
  refine Yg h23 Mv ?_
  refine Yg h23 Ne_ ?_
  exact Gg) ?_
 refine Y PkO ?_
 refine Nq ?_
 refine CtF rfl ?_
 refine Sk ?_
 refine Pq ?_
 refine Sr ?_
 refine Y Mv ?_
 refine D Bs ?_
 rintro _ _ ⟨b108, rfl, rfl⟩
 refine ToRwI [10, 20] ?_
 refine Fz fun Zq1 hq1 => ?_
 refine Cv (hs := sameInts_sp (hx := hz31) (hy := hq1)) (h := ?_)
 refine Y Mv ?_
 refine Ga 3 3 true 113 (fun h26 => by
  refine Yg h26 Mv ?_
  refine Gt h26 ?_
  refine D Bs ?_
  rintro _ _ ⟨b112, rfl, rfl⟩
  refine ToRwI [30, 40] ?_
  refine Fz fun Zq2 hq2 => ?_
  refine Gt h26 ?_
  refine Cv (hs := sameInts_sp (hx := hz36) (hy := hq2)) (h := ?_)
  exact Gg) ?_
 refine Y PkA ?_
 refine Y Mv ?_
 refine Ga 3 8 true 118 (fun h29 => by
  refine Yg h29 Mv ?_
  refine Gt h29 ?_
  refine D Bs ?_
  rintro _ _ ⟨b117, rfl, rfl⟩
  refine ToRwI [3, 4] ?_
  refine Fz fun Zq3 hq3 => ?_
  refine Gt h29 ?_
  refine Cv (hs := sameInts_sp (hx := hz41) (hy := hq3)) (h := ?_)
  exact Gg) ?_
 refine Y PkA ?_
 refine Y Mv ?_
 refine Ga 3 13 true 123 (fun h32 => by
  refine Yg h32 Mv ?_
  refine Gt h32 ?_
  refine D Bs ?_
  rintro _ _ ⟨b122, rfl, rfl⟩
  refine ToRwI [2, 5] ?_
  refine Fz fun Zq4 hq4 => ?_
  refine Gt h32 ?_
  refine Cv (hs := sameInts_sp (hx := hz65) (hy := hq4)) (h := ?_)
  exact Gg) ?_
 refine Y PkA ?_
 refine Y Mv ?_
 refine Ga 3 18 true 128 (fun h35 => by
  refine Yg h35 Mv ?_
  refine Gt h35 ?_
  refine D Bs ?_
  rintro _ _ ⟨b127, rfl, rfl⟩
  refine ToRwI [10, 30, 31] ?_
  refine Fz fun Zq5 hq5 => ?_
  refine Gt h35 ?_
  refine Cv (hs := sameInts_sp (hx := hz70) (hy := hq5)) (h := ?_)
  exact Gg) ?_
 refine Y PkA ?_
 refine Y As ?_
 refine Nq ?_
 refine Sr ?_
 refine Y Mv ?_
 refine Y Mv ?_
 refine Ga 3 1 true 134 (fun h38 => by
  refine Yg h38 Fa ?_
  refine Yg h38 Ld ?_
  refine Yg h38 Eq_ ?_
  exact Gg) ?_
 refine Y PkA ?_
 refine Y Mv ?_
 refine Ga 3 6 true 139 (fun h41 => by
  refine Yg h41 Fa ?_
  refine Yg h41 Ld ?_
  refine Yg h41 EqS ?_
  exact Gg) ?_
 refine Y PkA ?_
 refine Y Mv ?_
 refine Ga 3 11 true 144 (fun h44 => by
  refine Yg h44 Fa ?_
  refine Yg h44 Ld ?_
  refine Yg h44 EqS ?_
  exact Gg) ?_
 refine Y PkA ?_
 refine Y Mv ?_
 refine Ga 4 16 true 150 (fun h47 => by
  refine Yg h47 Fa ?_
  refine Yg h47 LdN ?_
  refine Yg h47 Bd ?_
  refine Yg h47 EqSp ?_
  exact Gg) ?_
 refine Y PkA ?_
 refine Y Mv ?_
 refine Ga 2 22 true 154 (fun h50 => by
  refine Yg h50 Mv ?_
  refine Yg h50 Eq_ ?_
  exact Gg) ?_
 refine Y PkA ?_
 refine Y Mv ?_
 refine Ga 2 26 true 158 (fun h53 => by
  refine Yg h53 Mv ?_
  refine Yg h53 Eq_ ?_
  exact Gg) ?_
 refine Y PkA ?_
 refine Y Mv ?_
 refine Ga 2 30 true 162 (fun h56 => by
  refine Yg h56 Mv ?_
  refine Yg h56 Eq_ ?_
  exact Gg) ?_
 refine Y PkA ?_
 refine Y Mv ?_
 refine Ga 2 34 true 166 (fun h59 => by
  refine Yg h59 Mv ?_
  refine Yg h59 Eq_ ?_
  exact Gg) ?_
 refine Y PkA ?_
 refine Y Mv ?_
 refine Ga 1 38 true 169 (fun h62 => by
  refine Yg h62 Mv ?_
  exact Gg) ?_
 refine Y PkA ?_
 refine Y As ?_
 refine Nq ?_
 refine Rt ?_
 refine Rv [] ?_
 exact ⟨congrArg Value.bool (by decide +kernel), rfl⟩

end Go.Lag

namespace Go.Lag
open Go Go.RowKit Go.Proofs
set_option maxRecDepth 100000 in
set_option maxHeartbeats 4000000 in
theorem findLater_sp {Z : Hp} {l : List Rep} {lv : Value} (hl : SlZ (EZ Z) Z lv l) {known p hour : Int} : SpV Tryz.prog 11 [lv, .int .i64 known, .int .i64 p, .int .i64 hour] [.zm Z] (.bool true) := by
 refine Sp.of 149 Tryz.func11 rfl rfl rfl ?_
 intro F
 refine Sr ?_
 refine Y As ?_
 refine Nq ?_
 refine Sq ?_
 refine Sr ?_
 refine Y Mv ?_
 refine Cv (hs := few_sp) (h := ?_)
 refine Y Nt ?_
 refine Nq ?_
 refine Ct (fun h2 => ?_) fun h2 => ?_
 ·
  have h3 := nb_i h2
  refine Sr ?_
  refine Cv (hs := sane_sp) (h := ?_)
  refine Y As ?_
  refine Nq ?_
  refine Rt ?_
  refine Rh ?_
  refine Rv [] ?_
  exact ⟨rfl, rfl⟩
 ·
  have h4 := nb_g h2
  refine Sk ?_
  refine Pq ?_
  refine Sr ?_
  have hn : l.length ≤ 1000 := Nat.le_trans (few_len (by omega) h4) (by omega)
  refine Y Mv ?_
  refine D (Cf (hs := check_sp)) ?_
  rintro _ _ ⟨_, ⟨rfl, rfl⟩, rfl⟩
  refine Y Mv ?_
  refine Y Xc ?_
  refine Y Xc ?_
  refine Y As ?_
  refine Y As ?_
  refine Nq ?_
  refine Sq ?_
  refine Sr ?_
  refine Y Mv ?_
  refine Y Ne_ ?_
  refine Nq ?_
  refine Cn (fun h6 => ?_) fun h6 => ?_
  ·
   refine Sr ?_
   refine Cv (hs := sane_sp) (h := ?_)
   refine Y As ?_
   refine Nq ?_
   refine Rt ?_
   refine Rh ?_
   refine Rv [] ?_
   exact ⟨rfl, rfl⟩
  ·
   refine Sk ?_
   refine Pq ?_
   refine Sr ?_
   have hc0 := h6
   refine Y As ?_
   refine Nq ?_
   refine Sq ?_
   refine Sr ?_
   refine Y As ?_
   refine Nq ?_
   refine Bk ?_
   refine NilRwW (EZ Z) 92 ?_
   refine Lp (fun n_ l_ H_ => ∃ (i : Nat) (vo : Value) (ys : List Rep), n_ = l.length - i ∧ l_ = [(0, lv), (1, .int .i64 known), (2, .int .i64 p), (3, .int .i64 hour), (11, vo), (12, .int .i64 (i : Int))] ∧ H_ = .rw (EZ Z) 92 vo ys :: .zm Z :: F ∧ (i ≤ l.length) ∧ (ys = (l.take i).filter fun x => decide (x.known ≤ known)) ∧ (ys.length ≤ i)) ⟨0, (.slice none 0 0), [], rfl, rfl, rfl, (by omega), (by simp), (by simp)⟩ ⟨rfl, rfl, rfl, rfl, rfl, rfl, trivial⟩ ?_
   rintro _ _ _ ⟨i, vo, ys, rfl, rfl, rfl, hi, hys, hyl⟩
   refine Sq ?_
   refine Sr ?_
   refine Y Mv ?_
   refine Y Mv ?_
   refine Y Ln ?_
   refine Y Lt ?_
   refine Nq ?_
   refine Cp (fun h8 => ?_) fun h8 => ?_
   ·
    refine Sk ?_
    refine Pq ?_
    refine Sq ?_
    refine Bk ?_
    refine Sr ?_
    refine Y Mv ?_
    refine Y Mv ?_
    refine IxR fun x47 b47 o47 pv47 hx47 hp47 hc47 => ?_
    refine Y Fa ?_
    refine Y Ld ?_
    refine Y Mv ?_
    refine Y Le ?_
    refine Nq ?_
    refine Cp (fun h10 => ?_) fun h10 => ?_
    ·
     refine Rg ?_
     refine Y Mv ?_
     refine Y Mv ?_
     refine Y Mv ?_
     refine IxR fun x55 b55 o55 pv55 hx55 hp55 hc55 => ?_
     obtain rfl : x47 = x55 := by have h_ := hx47.symm.trans hx55; injection h_
     refine Y LdN ?_
     refine D Bs ?_
     rintro _ _ ⟨b57, rfl, rfl⟩
     refine D (Ap1 x47 (ha := by exact ⟨_, rfl, by assumption⟩) (hm := by omega)) ?_
     rintro v58 _ rfl
     refine Y As ?_
     refine Nl ?_
     refine Pb ?_
     refine Pq ?_
     refine Rg ?_
     refine Y Mv ?_
     refine Y Ad ?_
     refine Y As ?_
     refine Nl ?_
     refine Re ⟨(i + 1), v58, (ys ++ [x47]), rfl, rfl, rfl, (by omega), (filter_take_t (p := fun x => decide (x.known ≤ known)) hx47 hys (decide_eq_true h10)), (by first | omega | (simp; omega))⟩ (by omega) ⟨rfl, rfl, rfl, rfl, rfl, rfl, trivial⟩
    ·
     refine Sk ?_
     refine Pb ?_
     refine Pq ?_
     refine Rg ?_
     refine Y Mv ?_
     refine Y Ad ?_
     refine Y As ?_
     refine Nl ?_
     refine Re ⟨(i + 1), vo, ys, rfl, rfl, rfl, (by omega), (filter_take_f (p := fun x => decide (x.known ≤ known)) hx47 hys (decide_eq_false h10)), (by first | omega | (simp; omega))⟩ (by omega) ⟨rfl, rfl, rfl, rfl, rfl, rfl, trivial⟩
   ·
    refine Ex ?_
    refine Xt ?_
    refine Xt ?_
    refine Xb ?_
    refine Pq ?_
    refine Sr ?_
    rw [take_all (by assumption)] at hys
    obtain rfl : ys = (earlyL l known) := hys
    refine FzRR fun Ze hze he => ?_
    have hl1 := hl.up hze
    have hen : (earlyL l known).length ≤ 1000 := Nat.le_trans (List.length_filter_le _ _) hn
    have hce : (checkE (earlyL l known)).2 = 0 := check_early hc0 known
    have hcn : countL (earlyL l known) known = (countL l known) := count_early l known
    have hww := weight_early hc0 known p
    refine Y Mv ?_
    refine Y Mv ?_
    refine D (Cf (hs := parcels0 hl1 hn hc0 (known := known))) ?_
    rintro _ _ ⟨_, ⟨pv62, rfl, rfl⟩, rfl⟩
    refine Fz fun Z62 hz62 => ?_
    refine Y Mv ?_
    refine Y Xc ?_
    refine Y Xc ?_
    refine Y As ?_
    refine Y As ?_
    refine Nq ?_
    refine Sr ?_
    refine Y Mv ?_
    refine Y Mv ?_
    refine D (Cf (hs := hcn ▸ parcels0 he hen hce (known := known))) ?_
    rintro _ _ ⟨_, ⟨pv68, rfl, rfl⟩, rfl⟩
    refine Fz fun Z68 hz68 => ?_
    refine Y Mv ?_
    refine Y Xc ?_
    refine Y Xc ?_
    refine Y As ?_
    refine Y As ?_
    refine Nq ?_
    refine Sr ?_
    refine Y Mv ?_
    refine Y Mv ?_
    refine Y Mv ?_
    refine D (Cf (hs := weight_sp (l := l) (known := known) (p := p) (hl := hl1) (hn := hn))) ?_
    rintro _ _ ⟨_, ⟨rfl, rfl⟩, rfl⟩
    refine Y Mv ?_
    refine Y Xc ?_
    refine Y Xc ?_
    refine Y Xc ?_
    refine Y As ?_
    refine Y As ?_
    refine Y As ?_
    refine Nq ?_
    refine Sr ?_
    refine Y Mv ?_
    refine Y Mv ?_
    refine Y Mv ?_
    refine D (Cf (hs := hww ▸ weight_sp (l := (earlyL l known)) (known := known) (p := p) (hl := he) (hn := hen))) ?_
    rintro _ _ ⟨_, ⟨rfl, rfl⟩, rfl⟩
    refine Y Mv ?_
    refine Y Xc ?_
    refine Y Xc ?_
    refine Y Xc ?_
    refine Y As ?_
    refine Y As ?_
    refine Y As ?_
    refine Nq ?_
    refine Sq ?_
    refine Sr ?_
    refine Y Mv ?_
    refine Y Ne_ ?_
    refine Y Mv ?_
    refine Ga 2 2 false 91 (fun h12 => by
     refine Yg h12 Mv ?_
     refine Yg h12 Ne_ ?_
     exact Gg) ?_
    refine Y PkO ?_
    refine Y Mv ?_
    refine Ga 4 6 false 97 (fun h15 => by
     refine Yg h15 Mv ?_
     refine Yg h15 Mv ?_
     refine Gt h15 ?_
     refine Cv (hs := sameParcels_sp (hx := hz62) (hy := hz68)) (h := ?_)
     refine Yg h15 Nt ?_
     exact Gg) ?_
    refine Y PkO ?_
    refine Y Mv ?_
    refine Ga 3 12 false 102 (fun h18 => by
     refine Yg h18 Mv ?_
     refine Yg h18 Mv ?_
     refine Yg h18 Ne_ ?_
     exact Gg) ?_
    refine Y PkO ?_
    refine Y Mv ?_
    refine Ga 3 17 false 107 (fun h21 => by
     refine Yg h21 Mv ?_
     refine Yg h21 Mv ?_
     refine Yg h21 Ne_ ?_
     exact Gg) ?_
    refine Y PkO ?_
    refine Y Mv ?_
    refine Ga 3 22 false 112 (fun h24 => by
     refine Yg h24 Mv ?_
     refine Yg h24 Mv ?_
     refine Yg h24 Ne_ ?_
     exact Gg) ?_
    refine Y PkO ?_
    refine Nq ?_
    refine Ct (fun h27 => ?_) fun h27 => ?_
    ·
     simp at h27
    ·
     refine Sk ?_
     refine Pq ?_
     refine Sr ?_
     refine Y Mv ?_
     refine Y Mv ?_
     refine Y Mv ?_
     refine D (Cf (hs := present0 hl1 hn hc0 (known := known) (hour := hour))) ?_
     rintro _ _ ⟨_, ⟨pv118, rfl, rfl⟩, rfl⟩
     refine Fz fun Zs hzs => ?_
     have hsl := hzs.len_le
     refine Y Mv ?_
     refine Y Xc ?_
     refine Y Xc ?_
     refine Y As ?_
     refine Y As ?_
     refine Nq ?_
     refine Sq ?_
     refine Sr ?_
     refine Y As ?_
     refine Nq ?_
     refine Bk ?_
     refine Lp (fun n_ l_ H_ => ∃ (k : Nat), n_ = ((idsL (countL l known)).filter (fun p => !!presB (countL l known) hour (parL (countL l known) p))).length - k ∧ l_ = [(3, .int .i64 hour), (13, pv62), (23, pv118), (24, .int .i64 0), (25, .int .i64 (k : Int))] ∧ H_ = .zm Zs :: .zm Z62 :: F ∧ (k ≤ ((idsL (countL l known)).filter (fun p => !!presB (countL l known) hour (parL (countL l known) p))).length)) ⟨0, rfl, rfl, rfl, (by omega)⟩ ⟨rfl, rfl, rfl, rfl, rfl, trivial⟩ ?_
     rintro _ _ _ ⟨k, rfl, rfl, rfl, hk⟩
     refine Sq ?_
     refine Sr ?_
     refine Y Mv ?_
     refine Y Mv ?_
     refine Y Ln ?_
     refine Y Lt ?_
     refine Nq ?_
     refine Cp (fun h29 => ?_) fun h29 => ?_
     ·
      refine Sk ?_
      refine Pq ?_
      refine Sq ?_
      refine Bk ?_
      refine Sr ?_
      refine Y Mv ?_
      refine Y Mv ?_
      refine Y Mv ?_
      obtain ⟨x130, b130, o130, hx130, he130, hc130⟩ := SlZ.atI hzs k (by omega)
      refine Y (IxY rfl rfl (by omega) he130) ?_
      refine Y Ld ?_
      refine Cv (hs := index_sp (hx := hz62)) (h := ?_)
      refine Y As ?_
      refine Nq ?_
      refine Sr ?_
      obtain ⟨i0, a0, hi0, ha0, hh0⟩ := later_at hx130
      rw [hi0]
      have hl0 := (List.getElem?_eq_some_iff.1 ha0).1
      refine Y Mv ?_
      refine Y Lt ?_
      refine Y Mv ?_
      refine Ga 7 2 false 142 (fun h31 => by
       refine Yg h31 Mv ?_
       refine Yg h31 Mv ?_
       refine Gt h31 ?_
       refine IxF (fun x => parCells x) (i := i0) (fun x138 b138 o138 hx138 hc138 => ?_)
       obtain rfl : x138 = a0 := by have h_ := hx138.symm.trans ha0; injection h_
       refine Yg h31 Fa ?_
       refine Yg h31 Ld ?_
       refine Yg h31 Mv ?_
       refine Yg h31 Gr ?_
       exact Gg) ?_
      refine Y PkO ?_
      refine Nq ?_
      refine Ct (fun h34 => ?_) fun h34 => ?_
      ·
       simp only [Bool.or_eq_true, decide_eq_true_eq] at h34
       omega
      ·
       refine Sk ?_
       refine Pb ?_
       refine Pq ?_
       refine Rg ?_
       refine Y Mv ?_
       refine Y Ad ?_
       refine Y As ?_
       refine Nl ?_
       refine Re ⟨(k + 1), rfl, rfl, rfl, (by omega)⟩ (by omega) ⟨rfl, rfl, rfl, rfl, rfl, trivial⟩
     ·
      refine Ex ?_
      refine Xt ?_
      refine Xt ?_
      refine Xb ?_
      refine Pq ?_
      refine Sr ?_
      refine Cv (hs := sane_sp) (h := ?_)
      refine Y Mv ?_
      refine Gt rfl ?_
      refine Y Mv ?_
      refine Gt rfl ?_
      refine Y Eq_ ?_
      refine Y (PkT (hb := rfl)) ?_
      refine Y As ?_
      refine Nq ?_
      refine Rt ?_
      refine Rv [] ?_
      exact ⟨rfl, rfl⟩

end Go.Lag

/- A walk's contract at the row: what was there before is there, unchanged; a slice of reports that an argument leads to lies in the frozen memory. -/
namespace Go.Lag
open Go Go.RowKit Go.Proofs

/-- The whole heap, frozen. -/
def hpOf (w : World) : Hp := fun b => w.heap[b]?
theorem hpOf_ok (w : World) : ZOk (hpOf w) w := fun b o h => h
theorem SpV.below {f : FuncId} {args : List Value} {v : Value} {W : World} (h : SpV Tryz.prog f args [.zm (hpOf W)] v) :
    Calls Tryz.prog f args.toArray W fun e w' => e = .returned v ∧ Below W.heap.size W w' := by
  have h0 : Holds ([.zm (hpOf W)] ++ [.zm (hpOf W), .io W]) W := by
    refine ⟨fun A hA => ?_, ?_⟩
    · simp at hA
      rcases hA with rfl | rfl
      · exact hpOf_ok W
      · exact ⟨rfl, rfl, rfl⟩
    · refine List.pairwise_cons.2 ⟨fun B hB => ?_, List.pairwise_cons.2 ⟨fun B hB => ?_, List.pairwise_cons.2 ⟨by simp, List.Pairwise.nil⟩⟩⟩
      · simp at hB
        rcases hB with rfl | rfl
        · exact .inl ⟨rfl, rfl⟩
        · exact .inr fun k _ hk => hk
      · simp at hB
        subst hB
        exact .inr fun k _ hk => hk
  refine (h [.zm (hpOf W), .io W] W h0).calls.mono ?_
  rintro e w' ⟨u, he, H', ⟨rfl, rfl⟩, hw⟩
  have h1 : ZOk (hpOf W) w' := hw.all (.zm (hpOf W)) (by simp)
  have h2 : w'.os = W.os ∧ w'.tape = W.tape ∧ w'.output = W.output := hw.all (.io W) (by simp)
  have hb : ∀ k, k < W.heap.size → w'.heap[k]? = W.heap[k]? := fun k hk => by
    have hs : W.heap[k]? = some W.heap[k] := by simp [hk]
    rw [hs]; exact h1 k _ hs
  refine ⟨he, ⟨h2.1, h2.2.1, h2.2.2, ?_, hb⟩⟩
  rcases Nat.lt_or_ge w'.heap.size W.heap.size with hlt | hge
  · have := hb w'.heap.size hlt
    rw [Array.getElem?_eq_none (Nat.le_refl _)] at this
    simp [hlt] at this
  · exact hge


section
variable {H : Type} {enc : TypeId × Value → H} {w : World} {spare : Nat → Bool} {held : Bool}
open Go.ChangeShapes Go.Deep
theorem cell_zm {a : Addr} {v : Value} (h : w.cell? a = some v) : ∃ c e fr, hpOf w a.block = some (.cells c e fr) ∧ c[a.off]? = some v := by
  unfold World.cell? at h
  split at h
  · rename_i c e fr hc
    split at h
    · simp at h
    · exact ⟨c, e, fr, hc, h⟩
  · simp at h
theorem cells_zm {base : Nat} {a : Addr} {n : Nat} {cs : List Value} (h : w.cells? base a n = some cs) (hn : 0 < n) : ∃ b o, a = ⟨b, o, none⟩ ∧ cs.length = n ∧ CZ (hpOf w) b o cs := by
  obtain ⟨_, hlen, hc⟩ := World.cells?_some h
  have h0 := hc 0 hn
  have hs : a.spot = none := by
    obtain ⟨v, hv⟩ : ∃ v, cs[0]? = some v := ⟨cs[0]'(by omega), by simp⟩
    rw [hv] at h0
    simpa [Addr.add] using World.cell?_spot h0
  obtain ⟨b, o, s⟩ := a
  obtain rfl : s = none := hs
  refine ⟨b, o, rfl, hlen, fun j v hj => ?_⟩
  have hjn : j < n := by
    rcases Nat.lt_or_ge j cs.length with h1 | h1
    · omega
    · rw [List.getElem?_eq_none h1] at hj; cases hj
  have h1 := hc j hjn
  rw [hj] at h1
  obtain ⟨c, e, fr, h2, h3⟩ := cell_zm h1
  refine ⟨c, e, fr, ?_, ?_⟩
  · unfold Addr.add at h2; split at h2 <;> exact h2
  · unfold Addr.add at h3
    split at h3
    · rename_i hz; subst hz; exact h3
    · exact h3
/-- A slice that an argument leads to, by what its elements are. -/
theorem slice_zm {α : Type} [Inhabited α] {E : Elem α} {t e : TypeId} {fuel : Nat} {v : Value} {x : DataW H × List MemPlace} (ht : Tryz.prog.underlying t = some (.slice e)) (hc : Tryz.prog.cellsOf e = E.sz) (h0 : 0 < E.sz)
    (hel : ∀ n cs y, DataW.trod enc Tryz.prog w 0 spare held n e cs = some y → ∃ x, E.rep cs x)
    (h : DataW.trod enc Tryz.prog w 0 spare held fuel t [v] = some x) : ∃ xs : List α, SlZ E (hpOf w) v xs := by
  rcases open_slice ht h with ⟨h1, _⟩ | ⟨a, len, cap, m, n, D, Pl, h1, hb, hl, hm, hmm, rfl, hx⟩
  · simp at h1; subst h1; exact ⟨[], SlZ.nil _ _⟩
  simp at h1; subst h1
  rw [hc] at hx
  have hlm : len ≤ m := by rw [hmm]; split <;> omega
  obtain ⟨f, hf⟩ := choose_lt (α := α) (n := len) (p := fun i x => ∃ b o cs, a.add (i * E.sz) = ⟨b, o, none⟩ ∧ E.rep cs x ∧ CZ (hpOf w) b o cs) (fun i hi => by
    obtain ⟨cs, h2, h3⟩ := hx i (by omega)
    obtain ⟨x, hx⟩ := hel _ _ _ h3
    obtain ⟨b, o, h4, h5, h6⟩ := cells_zm h2 h0
    exact ⟨x, b, o, cs, h4, hx, h6⟩)
  refine ⟨(List.range len).map f, some a, cap, by simp, by simpa using hl, hm, fun i x hi => ?_⟩
  have hlt : i < len := by
    rcases Nat.lt_or_ge i len with h | h
    · exact h
    · rw [List.getElem?_eq_none (by simpa using h)] at hi; cases hi
  simp [List.getElem?_range hlt] at hi
  subst hi
  obtain ⟨b, o, cs, h2, h3, h4⟩ := hf i hlt
  exact ⟨a, b, o, cs, rfl, h2, h3, h4⟩
theorem ints_zm {fuel : Nat} {v : Value} {x : DataW H × List MemPlace} (h : DataW.trod enc Tryz.prog w 0 spare held fuel 25 [v] = some x) : ∃ xs : List Int, SlZ (EI .i64) (hpOf w) v xs :=
  slice_zm (E := EI .i64) (t := 25) (e := 3) Tryz.underlying25 (by kernel_rfl) (by decide) (fun n cs y hy => by
    obtain ⟨k, rfl, _⟩ := DataW.trod_int Tryz.underlying3 hy
    exact ⟨k, rfl⟩) h
theorem one_of {cs : List Value} {o : Nat} {x : Value} (h : (cs.drop o).take 1 = [x]) : cs[o]? = some x := by
  have h1 := congrArg (fun l => l[0]?) h
  simpa [List.getElem?_take] using h1
theorem fld {β : Type} {xs : List β} {m i : Nat} {q : Option β} (hlen : xs.length = m) (h : q = xs[i]?) (hi : i < m) : ∃ y, q = some y := ⟨xs[i]'(by omega), by rw [h]; simp⟩
instance : Inhabited Rep := ⟨Rep.zero⟩

theorem rep_zm {n : Nat} {cs : List Value} {y : DataW H × List MemPlace} (h : DataW.trod enc Tryz.prog w 0 spare held n 92 cs = some y) : ∃ x : Rep, (EZ (hpOf w)).rep cs x := by
  obtain ⟨xs, n, _, _, hl, hlen, hf⟩ := DataW.trod_struct Tryz.underlying92 h
  have hsz : Tryz.prog.cellsOf 92 = 15 := by kernel_rfl
  rw [hsz] at hl
  replace hlen : xs.length = 14 := hlen
  have c3 : Tryz.prog.cellsOf 3 = 1 := by kernel_rfl
  have c5 : Tryz.prog.cellsOf 5 = 1 := by kernel_rfl
  have c9 : Tryz.prog.cellsOf 9 = 1 := by kernel_rfl
  have c25 : Tryz.prog.cellsOf 25 = 1 := by kernel_rfl
  have c40 : Tryz.prog.cellsOf 40 = 2 := by kernel_rfl
  obtain ⟨z0, g0⟩ := fld hlen (hf 0 _ rfl) (by decide)
  replace g0 : DataW.trod enc Tryz.prog w 0 spare held n 3 ((cs.drop 0).take (Tryz.prog.cellsOf 3)) = some z0 := g0
  obtain ⟨v0, e0, _⟩ := DataW.trod_int Tryz.underlying3 g0
  rw [c3] at e0
  replace e0 := one_of e0
  obtain ⟨z1, g1⟩ := fld hlen (hf 1 _ rfl) (by decide)
  replace g1 : DataW.trod enc Tryz.prog w 0 spare held n 3 ((cs.drop 1).take (Tryz.prog.cellsOf 3)) = some z1 := g1
  obtain ⟨v1, e1, _⟩ := DataW.trod_int Tryz.underlying3 g1
  rw [c3] at e1
  replace e1 := one_of e1
  obtain ⟨z2, g2⟩ := fld hlen (hf 2 _ rfl) (by decide)
  replace g2 : DataW.trod enc Tryz.prog w 0 spare held n 3 ((cs.drop 2).take (Tryz.prog.cellsOf 3)) = some z2 := g2
  obtain ⟨v2, e2, _⟩ := DataW.trod_int Tryz.underlying3 g2
  rw [c3] at e2
  replace e2 := one_of e2
  obtain ⟨z3, g3⟩ := fld hlen (hf 3 _ rfl) (by decide)
  replace g3 : DataW.trod enc Tryz.prog w 0 spare held n 5 ((cs.drop 3).take (Tryz.prog.cellsOf 5)) = some z3 := g3
  obtain ⟨v3, e3, _⟩ := DataW.trod_int Tryz.underlying5 g3
  rw [c5] at e3
  replace e3 := one_of e3
  obtain ⟨z4, g4⟩ := fld hlen (hf 4 _ rfl) (by decide)
  replace g4 : DataW.trod enc Tryz.prog w 0 spare held n 3 ((cs.drop 4).take (Tryz.prog.cellsOf 3)) = some z4 := g4
  obtain ⟨v4, e4, _⟩ := DataW.trod_int Tryz.underlying3 g4
  rw [c3] at e4
  replace e4 := one_of e4
  obtain ⟨z5, g5⟩ := fld hlen (hf 5 _ rfl) (by decide)
  replace g5 : DataW.trod enc Tryz.prog w 0 spare held n 3 ((cs.drop 5).take (Tryz.prog.cellsOf 3)) = some z5 := g5
  obtain ⟨v5, e5, _⟩ := DataW.trod_int Tryz.underlying3 g5
  rw [c3] at e5
  replace e5 := one_of e5
  obtain ⟨z6, g6⟩ := fld hlen (hf 6 _ rfl) (by decide)
  replace g6 : DataW.trod enc Tryz.prog w 0 spare held n 25 ((cs.drop 6).take (Tryz.prog.cellsOf 25)) = some z6 := g6
  rw [c25] at g6
  obtain ⟨v6, e6⟩ : ∃ v, (cs.drop 6).take 1 = [v] := by
    have hq : ((cs.drop 6).take 1).length = 1 := by simp; omega
    exact List.length_eq_one_iff.1 hq
  rw [e6] at g6
  obtain ⟨ps, hps⟩ := ints_zm g6
  replace e6 := one_of e6
  obtain ⟨z7, g7⟩ := fld hlen (hf 7 _ rfl) (by decide)
  replace g7 : DataW.trod enc Tryz.prog w 0 spare held n 3 ((cs.drop 7).take (Tryz.prog.cellsOf 3)) = some z7 := g7
  obtain ⟨v7, e7, _⟩ := DataW.trod_int Tryz.underlying3 g7
  rw [c3] at e7
  replace e7 := one_of e7
  obtain ⟨z8, g8⟩ := fld hlen (hf 8 _ rfl) (by decide)
  replace g8 : DataW.trod enc Tryz.prog w 0 spare held n 9 ((cs.drop 8).take (Tryz.prog.cellsOf 9)) = some z8 := g8
  obtain ⟨v8, e8, _⟩ := DataW.trod_string Tryz.underlying9 g8
  rw [c9] at e8
  replace e8 := one_of e8
  obtain ⟨z9, g9⟩ := fld hlen (hf 9 _ rfl) (by decide)
  replace g9 : DataW.trod enc Tryz.prog w 0 spare held n 9 ((cs.drop 9).take (Tryz.prog.cellsOf 9)) = some z9 := g9
  obtain ⟨v9, e9, _⟩ := DataW.trod_string Tryz.underlying9 g9
  rw [c9] at e9
  replace e9 := one_of e9
  obtain ⟨z10, g10⟩ := fld hlen (hf 10 _ rfl) (by decide)
  replace g10 : DataW.trod enc Tryz.prog w 0 spare held n 40 ((cs.drop 10).take (Tryz.prog.cellsOf 40)) = some z10 := g10
  obtain ⟨y0, y1, n2, _, _, q0, q1⟩ := trod_struct2 Tryz.underlying40 g10
  obtain ⟨v10a, e10a, _⟩ := DataW.trod_int Tryz.underlying3 q0
  obtain ⟨v10b, e10b, _⟩ := DataW.trod_int Tryz.underlying3 q1
  rw [c40, c3, List.drop_take, List.take_take] at e10a e10b
  rw [List.drop_drop] at e10a e10b
  replace e10a := one_of e10a
  replace e10b := one_of e10b
  obtain ⟨z11, g11⟩ := fld hlen (hf 11 _ rfl) (by decide)
  replace g11 : DataW.trod enc Tryz.prog w 0 spare held n 3 ((cs.drop 12).take (Tryz.prog.cellsOf 3)) = some z11 := g11
  obtain ⟨v11, e11, _⟩ := DataW.trod_int Tryz.underlying3 g11
  rw [c3] at e11
  replace e11 := one_of e11
  obtain ⟨z12, g12⟩ := fld hlen (hf 12 _ rfl) (by decide)
  replace g12 : DataW.trod enc Tryz.prog w 0 spare held n 3 ((cs.drop 13).take (Tryz.prog.cellsOf 3)) = some z12 := g12
  obtain ⟨v12, e12, _⟩ := DataW.trod_int Tryz.underlying3 g12
  rw [c3] at e12
  replace e12 := one_of e12
  obtain ⟨z13, g13⟩ := fld hlen (hf 13 _ rfl) (by decide)
  replace g13 : DataW.trod enc Tryz.prog w 0 spare held n 3 ((cs.drop 14).take (Tryz.prog.cellsOf 3)) = some z13 := g13
  obtain ⟨v13, e13, _⟩ := DataW.trod_int Tryz.underlying3 g13
  rw [c3] at e13
  replace e13 := one_of e13
  refine ⟨⟨v0, v1, v2, v3, v4, v5, ps, v7, v8, v9, v10a, v10b, v11, v12, v13⟩, v6, ?_, hps⟩
  refine List.ext_getElem? fun j => ?_
  rcases Nat.lt_or_ge j 15 with hj | hj
  · match j, hj with
    | 0, _ => exact e0
    | 1, _ => exact e1
    | 2, _ => exact e2
    | 3, _ => exact e3
    | 4, _ => exact e4
    | 5, _ => exact e5
    | 6, _ => exact e6
    | 7, _ => exact e7
    | 8, _ => exact e8
    | 9, _ => exact e9
    | 10, _ => exact e10a
    | 11, _ => exact e10b
    | 12, _ => exact e11
    | 13, _ => exact e12
    | 14, _ => exact e13
  · rw [List.getElem?_eq_none (by omega), List.getElem?_eq_none (by simpa using hj)]
theorem reports_zm {fuel : Nat} {v : Value} {x : DataW H × List MemPlace} (h : DataW.trod enc Tryz.prog w 0 spare held fuel 22 [v] = some x) : ∃ l : List Rep, SlZ (EZ (hpOf w)) (hpOf w) v l :=
  slice_zm (E := EZ (hpOf w)) (t := 22) (e := 92) Tryz.underlying22 (by kernel_rfl) (by show 0 < 15; decide) (fun _ _ _ hy => rep_zm hy) h
end
end Go.Lag
