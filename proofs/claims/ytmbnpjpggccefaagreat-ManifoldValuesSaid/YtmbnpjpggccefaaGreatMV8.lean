/- Part 8 of the texts behind the last one: rules and contracts. No condition. -/
import Derived.Test.YtmbnpjpggccefaaGreatMV7
namespace Go.Proofs.YtmbnpjpggccefaaGreat
open Go.Sx
theorem en167 : jU Tryz.prog 167 := zG Tryz.func167 (by kernel_rfl) (by kernel_rfl)
theorem en168 : jU Tryz.prog 168 := zG Tryz.func168 (by kernel_rfl) (by kernel_rfl)
theorem ze202 : qQV Tryz.prog 202 (.agg #[.int .i64 0, .int .i64 0, .int .i64 0, .int .i64 0, .int .i64 0, .int .i64 0, .int .i64 0, .int .i64 0, .int .i64 0, .int .i64 0, .int .i64 0]) := by unfold qQV; kernel_rfl
theorem ar202 : arrB Tryz.prog 202 11 1 = true := by kernel_rfl
theorem ty202 : tyB Tryz.prog 202 true 11 = true := by kernel_rfl
theorem ze199 : qQV Tryz.prog 199 (.agg #[.int .i64 0, .int .i64 0, .int .i64 0, .int .i64 0, .int .i64 0, .int .i64 0, .int .i64 0, .int .i64 0, .int .i64 0, .int .i64 0, .int .i64 0]) := by unfold qQV; kernel_rfl
theorem ar199 : arrB Tryz.prog 199 11 1 = true := by kernel_rfl
theorem ty199 : tyB Tryz.prog 199 true 11 = true := by kernel_rfl
theorem sl92 : slcB Tryz.prog 92 2 1 = true := by kernel_rfl
theorem en197 : jU Tryz.prog 197 := zG Tryz.func197 (by kernel_rfl) (by kernel_rfl)
theorem en199 : jU Tryz.prog 199 := zG Tryz.func199 (by kernel_rfl) (by kernel_rfl)
theorem ze2 : qQV Tryz.prog 2 (.int .i64 0) := by unfold qQV; kernel_rfl
theorem en198 : jU Tryz.prog 198 := zG Tryz.func198 (by kernel_rfl) (by kernel_rfl)
theorem en200 : jU Tryz.prog 200 := zG Tryz.func200 (by kernel_rfl) (by kernel_rfl)
theorem en195 : jU Tryz.prog 195 := zG Tryz.func195 (by kernel_rfl) (by kernel_rfl)
theorem en196 : jU Tryz.prog 196 := zG Tryz.func196 (by kernel_rfl) (by kernel_rfl)
theorem en193 : jU Tryz.prog 193 := zG Tryz.func193 (by kernel_rfl) (by kernel_rfl)
theorem en194 : jU Tryz.prog 194 := zG Tryz.func194 (by kernel_rfl) (by kernel_rfl)
theorem en190 : jU Tryz.prog 190 := zG Tryz.func190 (by kernel_rfl) (by kernel_rfl)
theorem en191 : jU Tryz.prog 191 := zG Tryz.func191 (by kernel_rfl) (by kernel_rfl)
theorem en188 : jU Tryz.prog 188 := zG Tryz.func188 (by kernel_rfl) (by kernel_rfl)
theorem en189 : jU Tryz.prog 189 := zG Tryz.func189 (by kernel_rfl) (by kernel_rfl)
theorem en171 : jU Tryz.prog 171 := zG Tryz.func171 (by kernel_rfl) (by kernel_rfl)
theorem en182 : jU Tryz.prog 182 := zG Tryz.func182 (by kernel_rfl) (by kernel_rfl)
theorem en183 : jU Tryz.prog 183 := zG Tryz.func183 (by kernel_rfl) (by kernel_rfl)
theorem en165 : jU Tryz.prog 165 := zG Tryz.func165 (by kernel_rfl) (by kernel_rfl)
theorem en179 : jU Tryz.prog 179 := zG Tryz.func179 (by kernel_rfl) (by kernel_rfl)
theorem en174 : jU Tryz.prog 174 := zG Tryz.func174 (by kernel_rfl) (by kernel_rfl)
theorem en192 : jU Tryz.prog 192 := zG Tryz.func192 (by kernel_rfl) (by kernel_rfl)
theorem en185 : jU Tryz.prog 185 := zG Tryz.func185 (by kernel_rfl) (by kernel_rfl)
theorem en186 : jU Tryz.prog 186 := zG Tryz.func186 (by kernel_rfl) (by kernel_rfl)
theorem en187 : jU Tryz.prog 187 := zG Tryz.func187 (by kernel_rfl) (by kernel_rfl)
theorem en99 : jU Tryz.prog 99 := zG Tryz.func99 (by kernel_rfl) (by kernel_rfl)
theorem en177 : jU Tryz.prog 177 := zG Tryz.func177 (by kernel_rfl) (by kernel_rfl)
theorem en178 : jU Tryz.prog 178 := zG Tryz.func178 (by kernel_rfl) (by kernel_rfl)
theorem en180 : jU Tryz.prog 180 := zG Tryz.func180 (by kernel_rfl) (by kernel_rfl)
theorem en181 : jU Tryz.prog 181 := zG Tryz.func181 (by kernel_rfl) (by kernel_rfl)
theorem en31 : jU Tryz.prog 31 := zG Tryz.func31 (by kernel_rfl) (by kernel_rfl)
theorem en172 : jU Tryz.prog 172 := zG Tryz.func172 (by kernel_rfl) (by kernel_rfl)
theorem en173 : jU Tryz.prog 173 := zG Tryz.func173 (by kernel_rfl) (by kernel_rfl)
theorem fSD14 (a : Int) (w : World) : Calls Tryz.prog 167 [.int .i64 a, .int .i64 14].toArray w (Rets (vI (a / 16384)) w) := fShiftDown a 14 (by decide) w
theorem fSD16 (a : Int) (w : World) : Calls Tryz.prog 167 [.int .i64 a, .int .i64 16].toArray w (Rets (vI (a / 65536)) w) := fShiftDown a 16 (by decide) w
theorem fSD30 (a : Int) (w : World) : Calls Tryz.prog 167 [.int .i64 a, .int .i64 30].toArray w (Rets (vI (a / 1073741824)) w) := fShiftDown a 30 (by decide) w
theorem fSU14 (a : Int) (ha : In64 a) (w : World) : Calls Tryz.prog 168 [.int .i64 a, .int .i64 14].toArray w (Rets (vI (ceilI a 16384)) w) := fShiftUp a 14 (by decide) ha w
theorem fSU16 (a : Int) (ha : In64 a) (w : World) : Calls Tryz.prog 168 [.int .i64 a, .int .i64 16].toArray w (Rets (vI (ceilI a 65536)) w) := fShiftUp a 16 (by decide) ha w
theorem fSU30 (a : Int) (ha : In64 a) (w : World) : Calls Tryz.prog 168 [.int .i64 a, .int .i64 30].toArray w (Rets (vI (ceilI a 1073741824)) w) := fShiftUp a 30 (by decide) ha w
theorem aMod (a : Int) (w : World) : Calls Tryz.prog 188 [.int .i64 a].toArray w (Rets (vI (a % 65536)) (w)) := by
 refine zX (n := 5) Tryz.func188 rfl rfl rfl ?_
 refine qK ?_
 refine qZ ?_
 refine qY (qX rfl) rfl rfl rfl ?_
 refine qJ ?_
 refine qQ ?_
 refine qK ?_
 refine qZ ?_
 refine qY (qU rfl) rfl rfl rfl ?_
 refine qY (opV_and rfl rfl and_mask) rfl rfl rfl ?_
 refine qY (qX rfl) rfl rfl rfl ?_
 refine qJ ?_
 refine qQ ?_
 refine zV ?_
 refine zK (rs := [.tmp 2]) rfl (resC (kQ rfl) (resN)) (congrArg (vI) (?_ : _ = a % 65536))
 first | rfl | (subst_vars; rfl) | (subst_vars; simp_all)
theorem rMod (a : Int) (w : World) : Calls Tryz.prog 182 [.int .i64 a].toArray w (Rets (vI (a % 65536)) (w)) := by
 refine zX (n := 7) Tryz.func182 rfl rfl rfl ?_
 refine qK ?_
 have h0 : -65536 < a.tmod 65536 := by have := Int.lt_tmod_of_pos a (show (0 : Int) < 65536 by decide); omega
 have h1 : a.tmod 65536 < 65536 := Int.tmod_lt_of_pos a (by decide)
 refine qZ ?_
 refine qY (qX rfl) rfl rfl rfl ?_
 refine qJ ?_
 refine qQ ?_
 refine qK ?_
 refine qZ ?_
 refine qY (qU rfl) rfl rfl rfl ?_
 refine qY (zZZ rfl rfl (by first | decide | omega) (by first | exact tmod_nonneg (by omega) (by omega) | rfl)) rfl rfl rfl ?_
 refine qY (yK rfl rfl (by first | exact zW ⟨by omega, by omega⟩ | rfl)) rfl rfl rfl ?_
 refine qY (zZZ rfl rfl (by first | decide | omega) (by first | exact tmod_nonneg (by omega) (by omega) | rfl)) rfl rfl rfl ?_
 refine qY (qX rfl) rfl rfl rfl ?_
 refine qJ ?_
 refine qQ ?_
 refine zV ?_
 refine zK (rs := [.tmp 2]) rfl (resC (kQ rfl) (resN)) (congrArg (vI) (?_ : _ = a % 65536))
 have := Int.tdiv_mul_add_tmod a 65536; omega
theorem aCeil (a : Int) (b : Int) (ha : 0 ≤ a ∧ a ≤ 1073741824) (hb : 0 < b ∧ b ≤ 1073741824) (w : World) : Calls Tryz.prog 199 [.int .i64 a, .int .i64 b].toArray w (Rets (vI (ceilI a b)) (w)) := by
 refine zX (n := 11) Tryz.func199 rfl rfl rfl ?_
 refine qK ?_
 refine qZ ?_
 refine qY (qX rfl) rfl rfl rfl ?_
 refine qJ ?_
 refine qQ ?_
 refine qK ?_
 refine qZ ?_
 refine qY (qU rfl) rfl rfl rfl ?_
 refine qY (qU rfl) rfl rfl rfl ?_
 refine qY (yK rfl rfl (by first | exact zW ⟨by omega, by omega⟩ | rfl)) rfl rfl rfl ?_
 refine qY (jG rfl rfl (by first | exact zW ⟨by omega, by omega⟩ | rfl)) rfl rfl rfl ?_
 refine qY (qU rfl) rfl rfl rfl ?_
 refine qY (qJQ rfl rfl (by first | decide | omega) (ceil_quo ha hb)) rfl rfl rfl ?_
 refine qY (qX rfl) rfl rfl rfl ?_
 refine qJ ?_
 refine qQ ?_
 refine zV ?_
 refine zK (rs := [.tmp 4]) rfl (resC (kQ rfl) (resN)) (congrArg (vI) (?_ : _ = ceilI a b))
 first | rfl | (subst_vars; rfl) | (subst_vars; simp_all)
theorem aEnc (lo : Int) (hi : Int) (hh : In64 hi) (w : World) : Calls Tryz.prog 200 [.int .i64 lo, .int .i64 hi].toArray w (Rets (iv (encI lo hi)) (w)) := by
 refine zX (n := 12) Tryz.func200 rfl rfl rfl ?_
 refine qK ?_
 refine qZ ?_
 refine yQ 4 ze71 rfl rfl rfl ?_; intro b4
 refine qJ ?_
 refine qQ ?_
 refine qK ?_
 refine qZ ?_
 refine qY (qU rfl) rfl rfl rfl ?_
 refine jW (F := vI) (zQ en167 rfl (fun w _ => fSD14 _ w)) rfl rfl rfl ?_; intro r6 hr6
 refine qY (qVV rfl rfl) rfl rfl rfl ?_
 refine qY (qU rfl) rfl rfl rfl ?_
 refine jW (F := vI) (zQ en168 rfl (fun w _ => fSU14 _ hh w)) rfl rfl rfl ?_; intro r9 hr9
 refine qY (qKY rfl rfl) rfl rfl rfl ?_
 refine qY (zH la71 rfl rfl) rfl rfl rfl ?_
 refine qG 4 ty71 rfl rfl rfl rfl rfl rfl rfl rfl ?_
 refine qJ ?_
 refine qQ ?_
 refine zV ?_
 refine zK (rs := [.cell 4 71]) rfl (resC (zU 4 rfl rfl ty71 rfl) (resN)) (congrArg (iv) (?_ : ⟨_, _⟩ = encI lo hi))
 subst_vars; first | (simp_all [encI]; done) | (simp_all [encI] <;> omega) | grind [encI]
theorem rEnc (lo : Int) (hi : Int) (hl : In64 lo) (hh : In64 hi) (w : World) : Calls Tryz.prog 196 [.int .i64 lo, .int .i64 hi].toArray w (Rets (iv (encI lo hi)) (w)) := by
 refine zX (n := 12) Tryz.func196 rfl rfl rfl ?_
 refine qK ?_
 refine qZ ?_
 refine yQ 4 ze71 rfl rfl rfl ?_; intro b4
 refine qJ ?_
 refine qQ ?_
 refine qK ?_
 refine qZ ?_
 refine qY (qU rfl) rfl rfl rfl ?_
 refine jW (F := vI) (zQ en149 rfl (fun w _ => qVW _ _ hl (by decide) w)) rfl rfl rfl ?_; intro r6 hr6
 refine qY (qVV rfl rfl) rfl rfl rfl ?_
 refine qY (qU rfl) rfl rfl rfl ?_
 refine jW (F := vI) (zQ en150 rfl (fun w _ => rCeil _ _ hh (by decide) w)) rfl rfl rfl ?_; intro r9 hr9
 refine qY (qKY rfl rfl) rfl rfl rfl ?_
 refine qY (zH la71 rfl rfl) rfl rfl rfl ?_
 refine qG 4 ty71 rfl rfl rfl rfl rfl rfl rfl rfl ?_
 refine qJ ?_
 refine qQ ?_
 refine zV ?_
 refine zK (rs := [.cell 4 71]) rfl (resC (zU 4 rfl rfl ty71 rfl) (resN)) (congrArg (iv) (?_ : ⟨_, _⟩ = encI lo hi))
 subst_vars; first | (simp_all [encI]; done) | (simp_all [encI] <;> omega) | grind [encI]
theorem aPow (x : Int) (h : 0 ≤ x ∧ x ≤ 8192) (w : World) : Calls Tryz.prog 197 [.int .i64 x].toArray w (Rets (powV (x)) (w)) := by
 refine zX (n := 43) Tryz.func197 rfl rfl rfl ?_
 refine qK ?_
 refine qZ ?_
 refine yQ 2 ze202 rfl rfl rfl ?_; intro b2
 refine yQ 3 ze202 rfl rfl rfl ?_; intro b3
 refine qJ ?_
 refine qQ ?_
 refine qK ?_
 refine qZ ?_
 refine yQ 4 ze202 rfl rfl rfl ?_; intro b4
 refine yQ 5 ze202 rfl rfl rfl ?_; intro b5
 refine qJ ?_
 refine qQ ?_
 refine qK ?_
 refine qZ ?_
 refine qY (qW ar202 rfl rfl (by first | decide | omega) (by first | decide | omega)) rfl rfl rfl ?_
 refine qG 4 ty2 rfl rfl rfl rfl rfl rfl rfl rfl ?_
 refine qY (qW ar202 rfl rfl (by first | decide | omega) (by first | decide | omega)) rfl rfl rfl ?_
 refine qG 5 ty2 rfl rfl rfl rfl rfl rfl rfl rfl ?_
 refine qJ ?_
 refine qQ ?_
 refine qK ?_
 refine qZ ?_
 refine qY (qU rfl) rfl rfl rfl ?_
 refine qY (jZ rfl rfl (by first | exact zW ⟨by omega, by omega⟩ | rfl)) rfl rfl rfl ?_
 refine jW (F := vI) (zQ en167 rfl (fun w _ => fSD16 _ w)) rfl rfl rfl ?_; intro r11 hr11
 have qr11 : 0 ≤ r11 ∧ r11 ≤ 1073741824 := by omega
 refine qY (qW ar202 rfl rfl (by first | decide | omega) (by first | decide | omega)) rfl rfl rfl ?_
 refine qG 4 ty2 rfl rfl rfl rfl rfl rfl rfl rfl ?_
 refine qJ ?_
 refine qQ ?_
 refine qK ?_
 refine qZ ?_
 refine qY (qU rfl) rfl rfl rfl ?_
 refine qY (jZ rfl rfl (by first | exact zW ⟨by omega, by omega⟩ | rfl)) rfl rfl rfl ?_
 refine jW (F := vI) (zQ en168 rfl (fun w _ => fSU16 _ (by unfold In64; omega) w)) rfl rfl rfl ?_; intro r15 hr15
 have qr15 := up1_bnd hr15 h
 refine qY (qW ar202 rfl rfl (by first | decide | omega) (by first | decide | omega)) rfl rfl rfl ?_
 refine qG 5 ty2 rfl rfl rfl rfl rfl rfl rfl rfl ?_
 refine qJ ?_
 refine qQ ?_
 refine qK ?_
 refine qK ?_
 refine qZ ?_
 refine qY (qX rfl) rfl rfl rfl ?_
 refine qJ ?_
 refine qQ ?_
 refine yJ ?_
 refine qXV 10 ?_
 refine kZ ?_
 refine qK ?_
 refine qK ?_
 refine uZ (ks := [0, 2, 3, 4, 5, 6]) rfl ?_
 refine qZ ?_
 refine qY (qU rfl) rfl rfl rfl ?_
 refine qY (kX rfl rfl) rfl rfl rfl ?_
 refine qJ ?_
 refine qQ ?_
 refine yX rfl (by decide) ?_
 refine yZ ?_
 refine qQ ?_
 refine qK ?_
 refine yJ ?_
 refine qK ?_
 refine yY 10 mo (by kernel_rfl) ?_
 simp only [List.take_succ_cons, List.take_zero, List.drop_succ_cons, List.drop_zero]
 refine qH (qU rfl) rfl rfl rfl ?_
 refine qH (qU rfl) rfl rfl rfl ?_
 refine qH (jG rfl rfl (by first | exact zW ⟨by omega, by omega⟩ | rfl)) rfl rfl rfl ?_
 refine qH (qW ar202 rfl rfl (by first | decide | omega) (by first | decide | omega)) rfl rfl rfl ?_
 refine qH (zY 4 ty2 rfl rfl rfl) rfl rfl rfl ?_
 refine qH (qW ar202 rfl rfl (by first | decide | omega) (by first | decide | omega)) rfl rfl rfl ?_
 refine qH (zY 4 ty2 rfl rfl rfl) rfl rfl rfl ?_
 refine qH (jZ rfl rfl (qZW (by omega) (by omega))) rfl rfl rfl ?_
 refine yV (F := vI) (zQ en167 rfl (fun w _ => fSD30 _ w)) rfl rfl rfl ?_; intro r29 hr29
 have qr29 := qUQ hr29 (by omega) (by omega)
 refine qH (qW ar202 rfl rfl (by first | decide | omega) (by first | decide | omega)) rfl rfl rfl ?_
 refine jX ?_
 refine yU ?_
 refine qG 4 ty2 rfl rfl rfl rfl rfl rfl rfl rfl ?_
 refine qJ ?_
 refine qQ ?_
 refine yY 10 mo (by kernel_rfl) ?_
 simp only [List.take_succ_cons, List.take_zero, List.drop_succ_cons, List.drop_zero]
 refine qH (qU rfl) rfl rfl rfl ?_
 refine qH (qU rfl) rfl rfl rfl ?_
 refine qH (jG rfl rfl (by first | exact zW ⟨by omega, by omega⟩ | rfl)) rfl rfl rfl ?_
 refine qH (qW ar202 rfl rfl (by first | decide | omega) (by first | decide | omega)) rfl rfl rfl ?_
 refine qH (zY 5 ty2 rfl rfl rfl) rfl rfl rfl ?_
 refine qH (qW ar202 rfl rfl (by first | decide | omega) (by first | decide | omega)) rfl rfl rfl ?_
 refine qH (zY 5 ty2 rfl rfl rfl) rfl rfl rfl ?_
 refine qH (jZ rfl rfl (qZW (by omega) (by omega))) rfl rfl rfl ?_
 refine yV (F := vI) (zQ en168 rfl (fun w _ => fSU30 _ (qQX (by omega) (by omega)) w)) rfl rfl rfl ?_; intro r39 hr39
 have qr39 := qKH hr39 (by omega) (by omega)
 refine qH (qW ar202 rfl rfl (by first | decide | omega) (by first | decide | omega)) rfl rfl rfl ?_
 refine jX ?_
 refine yU ?_
 refine qG 5 ty2 rfl rfl rfl rfl rfl rfl rfl rfl ?_
 refine qJ ?_
 refine zZ ?_
 refine qQ ?_
 refine qZ ?_
 refine qY (qU rfl) rfl rfl rfl ?_
 refine qY (yK rfl rfl (by first | exact zW ⟨by omega, by omega⟩ | rfl)) rfl rfl rfl ?_
 refine qY (qX rfl) rfl rfl rfl ?_
 refine qJ ?_
 refine jJ ?_
 refine kZ ?_
 refine qK ?_
 refine qK ?_
 refine uZ (ks := [0, 2, 3, 4, 5, 6]) rfl ?_
 refine qZ ?_
 refine qY (qU rfl) rfl rfl rfl ?_
 refine qY (kX rfl rfl) rfl rfl rfl ?_
 refine qJ ?_
 refine qQ ?_
 refine yX rfl (by decide) ?_
 refine yZ ?_
 refine qQ ?_
 refine qK ?_
 refine yJ ?_
 refine qK ?_
 refine yY 10 mo (by kernel_rfl) ?_
 simp only [List.take_succ_cons, List.take_zero, List.drop_succ_cons, List.drop_zero]
 refine qH (qU rfl) rfl rfl rfl ?_
 refine qH (qU rfl) rfl rfl rfl ?_
 refine qH (jG rfl rfl (by first | exact zW ⟨by omega, by omega⟩ | rfl)) rfl rfl rfl ?_
 refine qH (qW ar202 rfl rfl (by first | decide | omega) (by first | decide | omega)) rfl rfl rfl ?_
 refine qH (zY 4 ty2 rfl rfl rfl) rfl rfl rfl ?_
 refine qH (qW ar202 rfl rfl (by first | decide | omega) (by first | decide | omega)) rfl rfl rfl ?_
 refine qH (zY 4 ty2 rfl rfl rfl) rfl rfl rfl ?_
 refine qH (jZ rfl rfl (qZW (by omega) (by omega))) rfl rfl rfl ?_
 refine yV (F := vI) (zQ en167 rfl (fun w _ => fSD30 _ w)) rfl rfl rfl ?_; intro r29_2 hr29_2
 have qr29_2 := qUQ hr29_2 (by omega) (by omega)
 refine qH (qW ar202 rfl rfl (by first | decide | omega) (by first | decide | omega)) rfl rfl rfl ?_
 refine jX ?_
 refine yU ?_
 refine qG 4 ty2 rfl rfl rfl rfl rfl rfl rfl rfl ?_
 refine qJ ?_
 refine qQ ?_
 refine yY 10 mo (by kernel_rfl) ?_
 simp only [List.take_succ_cons, List.take_zero, List.drop_succ_cons, List.drop_zero]
 refine qH (qU rfl) rfl rfl rfl ?_
 refine qH (qU rfl) rfl rfl rfl ?_
 refine qH (jG rfl rfl (by first | exact zW ⟨by omega, by omega⟩ | rfl)) rfl rfl rfl ?_
 refine qH (qW ar202 rfl rfl (by first | decide | omega) (by first | decide | omega)) rfl rfl rfl ?_
 refine qH (zY 5 ty2 rfl rfl rfl) rfl rfl rfl ?_
 refine qH (qW ar202 rfl rfl (by first | decide | omega) (by first | decide | omega)) rfl rfl rfl ?_
 refine qH (zY 5 ty2 rfl rfl rfl) rfl rfl rfl ?_
 refine qH (jZ rfl rfl (qZW (by omega) (by omega))) rfl rfl rfl ?_
 refine yV (F := vI) (zQ en168 rfl (fun w _ => fSU30 _ (qQX (by omega) (by omega)) w)) rfl rfl rfl ?_; intro r39_2 hr39_2
 have qr39_2 := qKH hr39_2 (by omega) (by omega)
 refine qH (qW ar202 rfl rfl (by first | decide | omega) (by first | decide | omega)) rfl rfl rfl ?_
 refine jX ?_
 refine yU ?_
 refine qG 5 ty2 rfl rfl rfl rfl rfl rfl rfl rfl ?_
 refine qJ ?_
 refine zZ ?_
 refine qQ ?_
 refine qZ ?_
 refine qY (qU rfl) rfl rfl rfl ?_
 refine qY (yK rfl rfl (by first | exact zW ⟨by omega, by omega⟩ | rfl)) rfl rfl rfl ?_
 refine qY (qX rfl) rfl rfl rfl ?_
 refine qJ ?_
 refine jJ ?_
 refine kZ ?_
 refine qK ?_
 refine qK ?_
 refine uZ (ks := [0, 2, 3, 4, 5, 6]) rfl ?_
 refine qZ ?_
 refine qY (qU rfl) rfl rfl rfl ?_
 refine qY (kX rfl rfl) rfl rfl rfl ?_
 refine qJ ?_
 refine qQ ?_
 refine yX rfl (by decide) ?_
 refine yZ ?_
 refine qQ ?_
 refine qK ?_
 refine yJ ?_
 refine qK ?_
 refine yY 10 mo (by kernel_rfl) ?_
 simp only [List.take_succ_cons, List.take_zero, List.drop_succ_cons, List.drop_zero]
 refine qH (qU rfl) rfl rfl rfl ?_
 refine qH (qU rfl) rfl rfl rfl ?_
 refine qH (jG rfl rfl (by first | exact zW ⟨by omega, by omega⟩ | rfl)) rfl rfl rfl ?_
 refine qH (qW ar202 rfl rfl (by first | decide | omega) (by first | decide | omega)) rfl rfl rfl ?_
 refine qH (zY 4 ty2 rfl rfl rfl) rfl rfl rfl ?_
 refine qH (qW ar202 rfl rfl (by first | decide | omega) (by first | decide | omega)) rfl rfl rfl ?_
 refine qH (zY 4 ty2 rfl rfl rfl) rfl rfl rfl ?_
 refine qH (jZ rfl rfl (qZW (by omega) (by omega))) rfl rfl rfl ?_
 refine yV (F := vI) (zQ en167 rfl (fun w _ => fSD30 _ w)) rfl rfl rfl ?_; intro r29_3 hr29_3
 have qr29_3 := qUQ hr29_3 (by omega) (by omega)
 refine qH (qW ar202 rfl rfl (by first | decide | omega) (by first | decide | omega)) rfl rfl rfl ?_
 refine jX ?_
 refine yU ?_
 refine qG 4 ty2 rfl rfl rfl rfl rfl rfl rfl rfl ?_
 refine qJ ?_
 refine qQ ?_
 refine yY 10 mo (by kernel_rfl) ?_
 simp only [List.take_succ_cons, List.take_zero, List.drop_succ_cons, List.drop_zero]
 refine qH (qU rfl) rfl rfl rfl ?_
 refine qH (qU rfl) rfl rfl rfl ?_
 refine qH (jG rfl rfl (by first | exact zW ⟨by omega, by omega⟩ | rfl)) rfl rfl rfl ?_
 refine qH (qW ar202 rfl rfl (by first | decide | omega) (by first | decide | omega)) rfl rfl rfl ?_
 refine qH (zY 5 ty2 rfl rfl rfl) rfl rfl rfl ?_
 refine qH (qW ar202 rfl rfl (by first | decide | omega) (by first | decide | omega)) rfl rfl rfl ?_
 refine qH (zY 5 ty2 rfl rfl rfl) rfl rfl rfl ?_
 refine qH (jZ rfl rfl (qZW (by omega) (by omega))) rfl rfl rfl ?_
 refine yV (F := vI) (zQ en168 rfl (fun w _ => fSU30 _ (qQX (by omega) (by omega)) w)) rfl rfl rfl ?_; intro r39_3 hr39_3
 have qr39_3 := qKH hr39_3 (by omega) (by omega)
 refine qH (qW ar202 rfl rfl (by first | decide | omega) (by first | decide | omega)) rfl rfl rfl ?_
 refine jX ?_
 refine yU ?_
 refine qG 5 ty2 rfl rfl rfl rfl rfl rfl rfl rfl ?_
 refine qJ ?_
 refine zZ ?_
 refine qQ ?_
 refine qZ ?_
 refine qY (qU rfl) rfl rfl rfl ?_
 refine qY (yK rfl rfl (by first | exact zW ⟨by omega, by omega⟩ | rfl)) rfl rfl rfl ?_
 refine qY (qX rfl) rfl rfl rfl ?_
 refine qJ ?_
 refine jJ ?_
 refine kZ ?_
 refine qK ?_
 refine qK ?_
 refine uZ (ks := [0, 2, 3, 4, 5, 6]) rfl ?_
 refine qZ ?_
 refine qY (qU rfl) rfl rfl rfl ?_
 refine qY (kX rfl rfl) rfl rfl rfl ?_
 refine qJ ?_
 refine qQ ?_
 refine yX rfl (by decide) ?_
 refine yZ ?_
 refine qQ ?_
 refine qK ?_
 refine yJ ?_
 refine qK ?_
 refine yY 10 mo (by kernel_rfl) ?_
 simp only [List.take_succ_cons, List.take_zero, List.drop_succ_cons, List.drop_zero]
 refine qH (qU rfl) rfl rfl rfl ?_
 refine qH (qU rfl) rfl rfl rfl ?_
 refine qH (jG rfl rfl (by first | exact zW ⟨by omega, by omega⟩ | rfl)) rfl rfl rfl ?_
 refine qH (qW ar202 rfl rfl (by first | decide | omega) (by first | decide | omega)) rfl rfl rfl ?_
 refine qH (zY 4 ty2 rfl rfl rfl) rfl rfl rfl ?_
 refine qH (qW ar202 rfl rfl (by first | decide | omega) (by first | decide | omega)) rfl rfl rfl ?_
 refine qH (zY 4 ty2 rfl rfl rfl) rfl rfl rfl ?_
 refine qH (jZ rfl rfl (qZW (by omega) (by omega))) rfl rfl rfl ?_
 refine yV (F := vI) (zQ en167 rfl (fun w _ => fSD30 _ w)) rfl rfl rfl ?_; intro r29_4 hr29_4
 have qr29_4 := qUQ hr29_4 (by omega) (by omega)
 refine qH (qW ar202 rfl rfl (by first | decide | omega) (by first | decide | omega)) rfl rfl rfl ?_
 refine jX ?_
 refine yU ?_
 refine qG 4 ty2 rfl rfl rfl rfl rfl rfl rfl rfl ?_
 refine qJ ?_
 refine qQ ?_
 refine yY 10 mo (by kernel_rfl) ?_
 simp only [List.take_succ_cons, List.take_zero, List.drop_succ_cons, List.drop_zero]
 refine qH (qU rfl) rfl rfl rfl ?_
 refine qH (qU rfl) rfl rfl rfl ?_
 refine qH (jG rfl rfl (by first | exact zW ⟨by omega, by omega⟩ | rfl)) rfl rfl rfl ?_
 refine qH (qW ar202 rfl rfl (by first | decide | omega) (by first | decide | omega)) rfl rfl rfl ?_
 refine qH (zY 5 ty2 rfl rfl rfl) rfl rfl rfl ?_
 refine qH (qW ar202 rfl rfl (by first | decide | omega) (by first | decide | omega)) rfl rfl rfl ?_
 refine qH (zY 5 ty2 rfl rfl rfl) rfl rfl rfl ?_
 refine qH (jZ rfl rfl (qZW (by omega) (by omega))) rfl rfl rfl ?_
 refine yV (F := vI) (zQ en168 rfl (fun w _ => fSU30 _ (qQX (by omega) (by omega)) w)) rfl rfl rfl ?_; intro r39_4 hr39_4
 have qr39_4 := qKH hr39_4 (by omega) (by omega)
 refine qH (qW ar202 rfl rfl (by first | decide | omega) (by first | decide | omega)) rfl rfl rfl ?_
 refine jX ?_
 refine yU ?_
 refine qG 5 ty2 rfl rfl rfl rfl rfl rfl rfl rfl ?_
 refine qJ ?_
 refine zZ ?_
 refine qQ ?_
 refine qZ ?_
 refine qY (qU rfl) rfl rfl rfl ?_
 refine qY (yK rfl rfl (by first | exact zW ⟨by omega, by omega⟩ | rfl)) rfl rfl rfl ?_
 refine qY (qX rfl) rfl rfl rfl ?_
 refine qJ ?_
 refine jJ ?_
 refine kZ ?_
 refine qK ?_
 refine qK ?_
 refine uZ (ks := [0, 2, 3, 4, 5, 6]) rfl ?_
 refine qZ ?_
 refine qY (qU rfl) rfl rfl rfl ?_
 refine qY (kX rfl rfl) rfl rfl rfl ?_
 refine qJ ?_
 refine qQ ?_
 refine yX rfl (by decide) ?_
 refine yZ ?_
 refine qQ ?_
 refine qK ?_
 refine yJ ?_
 refine qK ?_
 refine yY 10 mo (by kernel_rfl) ?_
 simp only [List.take_succ_cons, List.take_zero, List.drop_succ_cons, List.drop_zero]
 refine qH (qU rfl) rfl rfl rfl ?_
 refine qH (qU rfl) rfl rfl rfl ?_
 refine qH (jG rfl rfl (by first | exact zW ⟨by omega, by omega⟩ | rfl)) rfl rfl rfl ?_
 refine qH (qW ar202 rfl rfl (by first | decide | omega) (by first | decide | omega)) rfl rfl rfl ?_
 refine qH (zY 4 ty2 rfl rfl rfl) rfl rfl rfl ?_
 refine qH (qW ar202 rfl rfl (by first | decide | omega) (by first | decide | omega)) rfl rfl rfl ?_
 refine qH (zY 4 ty2 rfl rfl rfl) rfl rfl rfl ?_
 refine qH (jZ rfl rfl (qZW (by omega) (by omega))) rfl rfl rfl ?_
 refine yV (F := vI) (zQ en167 rfl (fun w _ => fSD30 _ w)) rfl rfl rfl ?_; intro r29_5 hr29_5
 have qr29_5 := qUQ hr29_5 (by omega) (by omega)
 refine qH (qW ar202 rfl rfl (by first | decide | omega) (by first | decide | omega)) rfl rfl rfl ?_
 refine jX ?_
 refine yU ?_
 refine qG 4 ty2 rfl rfl rfl rfl rfl rfl rfl rfl ?_
 refine qJ ?_
 refine qQ ?_
 refine yY 10 mo (by kernel_rfl) ?_
 simp only [List.take_succ_cons, List.take_zero, List.drop_succ_cons, List.drop_zero]
 refine qH (qU rfl) rfl rfl rfl ?_
 refine qH (qU rfl) rfl rfl rfl ?_
 refine qH (jG rfl rfl (by first | exact zW ⟨by omega, by omega⟩ | rfl)) rfl rfl rfl ?_
 refine qH (qW ar202 rfl rfl (by first | decide | omega) (by first | decide | omega)) rfl rfl rfl ?_
 refine qH (zY 5 ty2 rfl rfl rfl) rfl rfl rfl ?_
 refine qH (qW ar202 rfl rfl (by first | decide | omega) (by first | decide | omega)) rfl rfl rfl ?_
 refine qH (zY 5 ty2 rfl rfl rfl) rfl rfl rfl ?_
 refine qH (jZ rfl rfl (qZW (by omega) (by omega))) rfl rfl rfl ?_
 refine yV (F := vI) (zQ en168 rfl (fun w _ => fSU30 _ (qQX (by omega) (by omega)) w)) rfl rfl rfl ?_; intro r39_5 hr39_5
 have qr39_5 := qKH hr39_5 (by omega) (by omega)
 refine qH (qW ar202 rfl rfl (by first | decide | omega) (by first | decide | omega)) rfl rfl rfl ?_
 refine jX ?_
 refine yU ?_
 refine qG 5 ty2 rfl rfl rfl rfl rfl rfl rfl rfl ?_
 refine qJ ?_
 refine zZ ?_
 refine qQ ?_
 refine qZ ?_
 refine qY (qU rfl) rfl rfl rfl ?_
 refine qY (yK rfl rfl (by first | exact zW ⟨by omega, by omega⟩ | rfl)) rfl rfl rfl ?_
 refine qY (qX rfl) rfl rfl rfl ?_
 refine qJ ?_
 refine jJ ?_
 refine kZ ?_
 refine qK ?_
 refine qK ?_
 refine uZ (ks := [0, 2, 3, 4, 5, 6]) rfl ?_
 refine qZ ?_
 refine qY (qU rfl) rfl rfl rfl ?_
 refine qY (kX rfl rfl) rfl rfl rfl ?_
 refine qJ ?_
 refine qQ ?_
 refine yX rfl (by decide) ?_
 refine yZ ?_
 refine qQ ?_
 refine qK ?_
 refine yJ ?_
 refine qK ?_
 refine yY 10 mo (by kernel_rfl) ?_
 simp only [List.take_succ_cons, List.take_zero, List.drop_succ_cons, List.drop_zero]
 refine qH (qU rfl) rfl rfl rfl ?_
 refine qH (qU rfl) rfl rfl rfl ?_
 refine qH (jG rfl rfl (by first | exact zW ⟨by omega, by omega⟩ | rfl)) rfl rfl rfl ?_
 refine qH (qW ar202 rfl rfl (by first | decide | omega) (by first | decide | omega)) rfl rfl rfl ?_
 refine qH (zY 4 ty2 rfl rfl rfl) rfl rfl rfl ?_
 refine qH (qW ar202 rfl rfl (by first | decide | omega) (by first | decide | omega)) rfl rfl rfl ?_
 refine qH (zY 4 ty2 rfl rfl rfl) rfl rfl rfl ?_
 refine qH (jZ rfl rfl (qZW (by omega) (by omega))) rfl rfl rfl ?_
 refine yV (F := vI) (zQ en167 rfl (fun w _ => fSD30 _ w)) rfl rfl rfl ?_; intro r29_6 hr29_6
 have qr29_6 := qUQ hr29_6 (by omega) (by omega)
 refine qH (qW ar202 rfl rfl (by first | decide | omega) (by first | decide | omega)) rfl rfl rfl ?_
 refine jX ?_
 refine yU ?_
 refine qG 4 ty2 rfl rfl rfl rfl rfl rfl rfl rfl ?_
 refine qJ ?_
 refine qQ ?_
 refine yY 10 mo (by kernel_rfl) ?_
 simp only [List.take_succ_cons, List.take_zero, List.drop_succ_cons, List.drop_zero]
 refine qH (qU rfl) rfl rfl rfl ?_
 refine qH (qU rfl) rfl rfl rfl ?_
 refine qH (jG rfl rfl (by first | exact zW ⟨by omega, by omega⟩ | rfl)) rfl rfl rfl ?_
 refine qH (qW ar202 rfl rfl (by first | decide | omega) (by first | decide | omega)) rfl rfl rfl ?_
 refine qH (zY 5 ty2 rfl rfl rfl) rfl rfl rfl ?_
 refine qH (qW ar202 rfl rfl (by first | decide | omega) (by first | decide | omega)) rfl rfl rfl ?_
 refine qH (zY 5 ty2 rfl rfl rfl) rfl rfl rfl ?_
 refine qH (jZ rfl rfl (qZW (by omega) (by omega))) rfl rfl rfl ?_
 refine yV (F := vI) (zQ en168 rfl (fun w _ => fSU30 _ (qQX (by omega) (by omega)) w)) rfl rfl rfl ?_; intro r39_6 hr39_6
 have qr39_6 := qKH hr39_6 (by omega) (by omega)
 refine qH (qW ar202 rfl rfl (by first | decide | omega) (by first | decide | omega)) rfl rfl rfl ?_
 refine jX ?_
 refine yU ?_
 refine qG 5 ty2 rfl rfl rfl rfl rfl rfl rfl rfl ?_
 refine qJ ?_
 refine zZ ?_
 refine qQ ?_
 refine qZ ?_
 refine qY (qU rfl) rfl rfl rfl ?_
 refine qY (yK rfl rfl (by first | exact zW ⟨by omega, by omega⟩ | rfl)) rfl rfl rfl ?_
 refine qY (qX rfl) rfl rfl rfl ?_
 refine qJ ?_
 refine jJ ?_
 refine kZ ?_
 refine qK ?_
 refine qK ?_
 refine uZ (ks := [0, 2, 3, 4, 5, 6]) rfl ?_
 refine qZ ?_
 refine qY (qU rfl) rfl rfl rfl ?_
 refine qY (kX rfl rfl) rfl rfl rfl ?_
 refine qJ ?_
 refine qQ ?_
 refine yX rfl (by decide) ?_
 refine yZ ?_
 refine qQ ?_
 refine qK ?_
 refine yJ ?_
 refine qK ?_
 refine yY 10 mo (by kernel_rfl) ?_
 simp only [List.take_succ_cons, List.take_zero, List.drop_succ_cons, List.drop_zero]
 refine qH (qU rfl) rfl rfl rfl ?_
 refine qH (qU rfl) rfl rfl rfl ?_
 refine qH (jG rfl rfl (by first | exact zW ⟨by omega, by omega⟩ | rfl)) rfl rfl rfl ?_
 refine qH (qW ar202 rfl rfl (by first | decide | omega) (by first | decide | omega)) rfl rfl rfl ?_
 refine qH (zY 4 ty2 rfl rfl rfl) rfl rfl rfl ?_
 refine qH (qW ar202 rfl rfl (by first | decide | omega) (by first | decide | omega)) rfl rfl rfl ?_
 refine qH (zY 4 ty2 rfl rfl rfl) rfl rfl rfl ?_
 refine qH (jZ rfl rfl (qZW (by omega) (by omega))) rfl rfl rfl ?_
 refine yV (F := vI) (zQ en167 rfl (fun w _ => fSD30 _ w)) rfl rfl rfl ?_; intro r29_7 hr29_7
 have qr29_7 := qUQ hr29_7 (by omega) (by omega)
 refine qH (qW ar202 rfl rfl (by first | decide | omega) (by first | decide | omega)) rfl rfl rfl ?_
 refine jX ?_
 refine yU ?_
 refine qG 4 ty2 rfl rfl rfl rfl rfl rfl rfl rfl ?_
 refine qJ ?_
 refine qQ ?_
 refine yY 10 mo (by kernel_rfl) ?_
 simp only [List.take_succ_cons, List.take_zero, List.drop_succ_cons, List.drop_zero]
 refine qH (qU rfl) rfl rfl rfl ?_
 refine qH (qU rfl) rfl rfl rfl ?_
 refine qH (jG rfl rfl (by first | exact zW ⟨by omega, by omega⟩ | rfl)) rfl rfl rfl ?_
 refine qH (qW ar202 rfl rfl (by first | decide | omega) (by first | decide | omega)) rfl rfl rfl ?_
 refine qH (zY 5 ty2 rfl rfl rfl) rfl rfl rfl ?_
 refine qH (qW ar202 rfl rfl (by first | decide | omega) (by first | decide | omega)) rfl rfl rfl ?_
 refine qH (zY 5 ty2 rfl rfl rfl) rfl rfl rfl ?_
 refine qH (jZ rfl rfl (qZW (by omega) (by omega))) rfl rfl rfl ?_
 refine yV (F := vI) (zQ en168 rfl (fun w _ => fSU30 _ (qQX (by omega) (by omega)) w)) rfl rfl rfl ?_; intro r39_7 hr39_7
 have qr39_7 := qKH hr39_7 (by omega) (by omega)
 refine qH (qW ar202 rfl rfl (by first | decide | omega) (by first | decide | omega)) rfl rfl rfl ?_
 refine jX ?_
 refine yU ?_
 refine qG 5 ty2 rfl rfl rfl rfl rfl rfl rfl rfl ?_
 refine qJ ?_
 refine zZ ?_
 refine qQ ?_
 refine qZ ?_
 refine qY (qU rfl) rfl rfl rfl ?_
 refine qY (yK rfl rfl (by first | exact zW ⟨by omega, by omega⟩ | rfl)) rfl rfl rfl ?_
 refine qY (qX rfl) rfl rfl rfl ?_
 refine qJ ?_
 refine jJ ?_
 refine kZ ?_
 refine qK ?_
 refine qK ?_
 refine uZ (ks := [0, 2, 3, 4, 5, 6]) rfl ?_
 refine qZ ?_
 refine qY (qU rfl) rfl rfl rfl ?_
 refine qY (kX rfl rfl) rfl rfl rfl ?_
 refine qJ ?_
 refine qQ ?_
 refine yX rfl (by decide) ?_
 refine yZ ?_
 refine qQ ?_
 refine qK ?_
 refine yJ ?_
 refine qK ?_
 refine yY 10 mo (by kernel_rfl) ?_
 simp only [List.take_succ_cons, List.take_zero, List.drop_succ_cons, List.drop_zero]
 refine qH (qU rfl) rfl rfl rfl ?_
 refine qH (qU rfl) rfl rfl rfl ?_
 refine qH (jG rfl rfl (by first | exact zW ⟨by omega, by omega⟩ | rfl)) rfl rfl rfl ?_
 refine qH (qW ar202 rfl rfl (by first | decide | omega) (by first | decide | omega)) rfl rfl rfl ?_
 refine qH (zY 4 ty2 rfl rfl rfl) rfl rfl rfl ?_
 refine qH (qW ar202 rfl rfl (by first | decide | omega) (by first | decide | omega)) rfl rfl rfl ?_
 refine qH (zY 4 ty2 rfl rfl rfl) rfl rfl rfl ?_
 refine qH (jZ rfl rfl (qZW (by omega) (by omega))) rfl rfl rfl ?_
 refine yV (F := vI) (zQ en167 rfl (fun w _ => fSD30 _ w)) rfl rfl rfl ?_; intro r29_8 hr29_8
 have qr29_8 := qUQ hr29_8 (by omega) (by omega)
 refine qH (qW ar202 rfl rfl (by first | decide | omega) (by first | decide | omega)) rfl rfl rfl ?_
 refine jX ?_
 refine yU ?_
 refine qG 4 ty2 rfl rfl rfl rfl rfl rfl rfl rfl ?_
 refine qJ ?_
 refine qQ ?_
 refine yY 10 mo (by kernel_rfl) ?_
 simp only [List.take_succ_cons, List.take_zero, List.drop_succ_cons, List.drop_zero]
 refine qH (qU rfl) rfl rfl rfl ?_
 refine qH (qU rfl) rfl rfl rfl ?_
 refine qH (jG rfl rfl (by first | exact zW ⟨by omega, by omega⟩ | rfl)) rfl rfl rfl ?_
 refine qH (qW ar202 rfl rfl (by first | decide | omega) (by first | decide | omega)) rfl rfl rfl ?_
 refine qH (zY 5 ty2 rfl rfl rfl) rfl rfl rfl ?_
 refine qH (qW ar202 rfl rfl (by first | decide | omega) (by first | decide | omega)) rfl rfl rfl ?_
 refine qH (zY 5 ty2 rfl rfl rfl) rfl rfl rfl ?_
 refine qH (jZ rfl rfl (qZW (by omega) (by omega))) rfl rfl rfl ?_
 refine yV (F := vI) (zQ en168 rfl (fun w _ => fSU30 _ (qQX (by omega) (by omega)) w)) rfl rfl rfl ?_; intro r39_8 hr39_8
 have qr39_8 := qKH hr39_8 (by omega) (by omega)
 refine qH (qW ar202 rfl rfl (by first | decide | omega) (by first | decide | omega)) rfl rfl rfl ?_
 refine jX ?_
 refine yU ?_
 refine qG 5 ty2 rfl rfl rfl rfl rfl rfl rfl rfl ?_
 refine qJ ?_
 refine zZ ?_
 refine qQ ?_
 refine qZ ?_
 refine qY (qU rfl) rfl rfl rfl ?_
 refine qY (yK rfl rfl (by first | exact zW ⟨by omega, by omega⟩ | rfl)) rfl rfl rfl ?_
 refine qY (qX rfl) rfl rfl rfl ?_
 refine qJ ?_
 refine jJ ?_
 refine kZ ?_
 refine qK ?_
 refine qK ?_
 refine uZ (ks := [0, 2, 3, 4, 5, 6]) rfl ?_
 refine qZ ?_
 refine qY (qU rfl) rfl rfl rfl ?_
 refine qY (kX rfl rfl) rfl rfl rfl ?_
 refine qJ ?_
 refine qQ ?_
 refine yX rfl (by decide) ?_
 refine yZ ?_
 refine qQ ?_
 refine qK ?_
 refine yJ ?_
 refine qK ?_
 refine yY 10 mo (by kernel_rfl) ?_
 simp only [List.take_succ_cons, List.take_zero, List.drop_succ_cons, List.drop_zero]
 refine qH (qU rfl) rfl rfl rfl ?_
 refine qH (qU rfl) rfl rfl rfl ?_
 refine qH (jG rfl rfl (by first | exact zW ⟨by omega, by omega⟩ | rfl)) rfl rfl rfl ?_
 refine qH (qW ar202 rfl rfl (by first | decide | omega) (by first | decide | omega)) rfl rfl rfl ?_
 refine qH (zY 4 ty2 rfl rfl rfl) rfl rfl rfl ?_
 refine qH (qW ar202 rfl rfl (by first | decide | omega) (by first | decide | omega)) rfl rfl rfl ?_
 refine qH (zY 4 ty2 rfl rfl rfl) rfl rfl rfl ?_
 refine qH (jZ rfl rfl (qZW (by omega) (by omega))) rfl rfl rfl ?_
 refine yV (F := vI) (zQ en167 rfl (fun w _ => fSD30 _ w)) rfl rfl rfl ?_; intro r29_9 hr29_9
 have qr29_9 := qUQ hr29_9 (by omega) (by omega)
 refine qH (qW ar202 rfl rfl (by first | decide | omega) (by first | decide | omega)) rfl rfl rfl ?_
 refine jX ?_
 refine yU ?_
 refine qG 4 ty2 rfl rfl rfl rfl rfl rfl rfl rfl ?_
 refine qJ ?_
 refine qQ ?_
 refine yY 10 mo (by kernel_rfl) ?_
 simp only [List.take_succ_cons, List.take_zero, List.drop_succ_cons, List.drop_zero]
 refine qH (qU rfl) rfl rfl rfl ?_
 refine qH (qU rfl) rfl rfl rfl ?_
 refine qH (jG rfl rfl (by first | exact zW ⟨by omega, by omega⟩ | rfl)) rfl rfl rfl ?_
 refine qH (qW ar202 rfl rfl (by first | decide | omega) (by first | decide | omega)) rfl rfl rfl ?_
 refine qH (zY 5 ty2 rfl rfl rfl) rfl rfl rfl ?_
 refine qH (qW ar202 rfl rfl (by first | decide | omega) (by first | decide | omega)) rfl rfl rfl ?_
 refine qH (zY 5 ty2 rfl rfl rfl) rfl rfl rfl ?_
 refine qH (jZ rfl rfl (qZW (by omega) (by omega))) rfl rfl rfl ?_
 refine yV (F := vI) (zQ en168 rfl (fun w _ => fSU30 _ (qQX (by omega) (by omega)) w)) rfl rfl rfl ?_; intro r39_9 hr39_9
 have qr39_9 := qKH hr39_9 (by omega) (by omega)
 refine qH (qW ar202 rfl rfl (by first | decide | omega) (by first | decide | omega)) rfl rfl rfl ?_
 refine jX ?_
 refine yU ?_
 refine qG 5 ty2 rfl rfl rfl rfl rfl rfl rfl rfl ?_
 refine qJ ?_
 refine zZ ?_
 refine qQ ?_
 refine qZ ?_
 refine qY (qU rfl) rfl rfl rfl ?_
 refine qY (yK rfl rfl (by first | exact zW ⟨by omega, by omega⟩ | rfl)) rfl rfl rfl ?_
 refine qY (qX rfl) rfl rfl rfl ?_
 refine qJ ?_
 refine jJ ?_
 refine kZ ?_
 refine qK ?_
 refine qK ?_
 refine uZ (ks := [0, 2, 3, 4, 5, 6]) rfl ?_
 refine qZ ?_
 refine qY (qU rfl) rfl rfl rfl ?_
 refine qY (kX rfl rfl) rfl rfl rfl ?_
 refine qJ ?_
 refine qQ ?_
 refine qJX rfl (by decide) ?_
 refine qUK ?_
 refine jV ?_
 refine jV ?_
 refine uY ?_
 refine qQ ?_
 refine qK ?_
 refine doC_perm [[0, 1, 2, 3], [0, 2, 1, 3], [1, 0, 2, 3]] mo (by kernel_rfl) (by kernel_rfl) (by kernel_rfl) ?_
 intro p hp
 simp only [List.mem_cons, List.not_mem_nil, or_false] at hp
 rcases hp with rfl | rfl | rfl
 ·
  show DoL _ _ _ _ _ [_, _, _, _] _ _
  refine qY (zJ 4 ty202 rfl rfl rfl) rfl rfl rfl ?_
  refine qY (zJ 5 ty202 rfl rfl rfl) rfl rfl rfl ?_
  refine qG 2 ty202 rfl rfl rfl rfl rfl rfl rfl rfl ?_
  refine qG 3 ty202 rfl rfl rfl rfl rfl rfl rfl rfl ?_
  refine qJ ?_
  refine qQ ?_
  refine zV ?_
  refine zK (rs := [.cell 2 202, .cell 3 202]) rfl (resC (zU 2 rfl rfl ty202 rfl) (resC (zU 3 rfl rfl ty202 rfl) (resN))) ?_
  subst_vars; rfl
 ·
  show DoL _ _ _ _ _ [_, _, _, _] _ _
  refine qY (zJ 4 ty202 rfl rfl rfl) rfl rfl rfl ?_
  refine qG 2 ty202 rfl rfl rfl rfl rfl rfl rfl rfl ?_
  refine qY (zJ 5 ty202 rfl rfl rfl) rfl rfl rfl ?_
  refine qG 3 ty202 rfl rfl rfl rfl rfl rfl rfl rfl ?_
  refine qJ ?_
  refine qQ ?_
  refine zV ?_
  refine zK (rs := [.cell 2 202, .cell 3 202]) rfl (resC (zU 2 rfl rfl ty202 rfl) (resC (zU 3 rfl rfl ty202 rfl) (resN))) ?_
  subst_vars; rfl
 ·
  show DoL _ _ _ _ _ [_, _, _, _] _ _
  refine qY (zJ 5 ty202 rfl rfl rfl) rfl rfl rfl ?_
  refine qY (zJ 4 ty202 rfl rfl rfl) rfl rfl rfl ?_
  refine qG 2 ty202 rfl rfl rfl rfl rfl rfl rfl rfl ?_
  refine qG 3 ty202 rfl rfl rfl rfl rfl rfl rfl rfl ?_
  refine qJ ?_
  refine qQ ?_
  refine zV ?_
  refine zK (rs := [.cell 2 202, .cell 3 202]) rfl (resC (zU 2 rfl rfl ty202 rfl) (resC (zU 3 rfl rfl ty202 rfl) (resN))) ?_
  subst_vars; rfl
theorem rPow (x : Int) (h : 0 ≤ x ∧ x ≤ 8192) (w : World) : Calls Tryz.prog 195 [.int .i64 x].toArray w (Rets (powR (x)) (w)) := by
 refine zX (n := 41) Tryz.func195 rfl rfl rfl ?_
 refine qK ?_
 refine qZ ?_
 refine yQ 2 ze199 rfl rfl rfl ?_; intro b2
 refine yQ 3 ze199 rfl rfl rfl ?_; intro b3
 refine qJ ?_
 refine qQ ?_
 refine qK ?_
 refine qZ ?_
 refine yQ 4 ze199 rfl rfl rfl ?_; intro b4
 refine yQ 5 ze199 rfl rfl rfl ?_; intro b5
 refine qJ ?_
 refine qQ ?_
 refine qK ?_
 refine qZ ?_
 refine qY (qU rfl) rfl rfl rfl ?_
 refine qY (jZ rfl rfl (by first | exact zW ⟨by omega, by omega⟩ | rfl)) rfl rfl rfl ?_
 refine jW (F := vI) (zQ en149 rfl (fun w _ => qVW _ _ (by unfold In64; omega) (by decide) w)) rfl rfl rfl ?_; intro r9 hr9
 have qr9 : 0 ≤ r9 ∧ r9 ≤ 1073741824 := by omega
 refine qY (qW ar199 rfl rfl (by first | decide | omega) (by first | decide | omega)) rfl rfl rfl ?_
 refine qG 4 ty2 rfl rfl rfl rfl rfl rfl rfl rfl ?_
 refine qJ ?_
 refine qQ ?_
 refine qK ?_
 refine qZ ?_
 refine qY (qU rfl) rfl rfl rfl ?_
 refine qY (jZ rfl rfl (by first | exact zW ⟨by omega, by omega⟩ | rfl)) rfl rfl rfl ?_
 refine jW (F := vI) (zQ en150 rfl (fun w _ => rCeil _ _ (by unfold In64; omega) (by decide) w)) rfl rfl rfl ?_; intro r13 hr13
 have qr13 := up1_bnd hr13 h
 refine qY (qW ar199 rfl rfl (by first | decide | omega) (by first | decide | omega)) rfl rfl rfl ?_
 refine qG 5 ty2 rfl rfl rfl rfl rfl rfl rfl rfl ?_
 refine qJ ?_
 refine qQ ?_
 refine qK ?_
 refine qK ?_
 refine qZ ?_
 refine qY (qX rfl) rfl rfl rfl ?_
 refine qJ ?_
 refine qQ ?_
 refine yJ ?_
 refine qXV 10 ?_
 refine kZ ?_
 refine qK ?_
 refine qK ?_
 refine uZ (ks := [0, 2, 3, 4, 5, 6]) rfl ?_
 refine qZ ?_
 refine qY (qU rfl) rfl rfl rfl ?_
 refine qY (qZG rfl rfl) rfl rfl rfl ?_
 refine qJ ?_
 refine qQ ?_
 refine yX rfl (by decide) ?_
 refine yZ ?_
 refine qQ ?_
 refine qK ?_
 refine yJ ?_
 refine qK ?_
 refine yY 10 mo (by kernel_rfl) ?_
 simp only [List.take_succ_cons, List.take_zero, List.drop_succ_cons, List.drop_zero]
 refine qH (qU rfl) rfl rfl rfl ?_
 refine qH (qU rfl) rfl rfl rfl ?_
 refine qH (jG rfl rfl (by first | exact zW ⟨by omega, by omega⟩ | rfl)) rfl rfl rfl ?_
 refine qH (qW ar199 rfl rfl (by first | decide | omega) (by first | decide | omega)) rfl rfl rfl ?_
 refine qH (zY 4 ty2 rfl rfl rfl) rfl rfl rfl ?_
 refine qH (qW ar199 rfl rfl (by first | decide | omega) (by first | decide | omega)) rfl rfl rfl ?_
 refine qH (zY 4 ty2 rfl rfl rfl) rfl rfl rfl ?_
 refine qH (jZ rfl rfl (qZW (by omega) (by omega))) rfl rfl rfl ?_
 refine yV (F := vI) (zQ en149 rfl (fun w _ => qVW _ _ (qQX (by omega) (by omega)) (by decide) w)) rfl rfl rfl ?_; intro r27 hr27
 have qr27 := qUQ hr27 (by omega) (by omega)
 refine qH (qW ar199 rfl rfl (by first | decide | omega) (by first | decide | omega)) rfl rfl rfl ?_
 refine jX ?_
 refine yU ?_
 refine qG 4 ty2 rfl rfl rfl rfl rfl rfl rfl rfl ?_
 refine qJ ?_
 refine qQ ?_
 refine yY 10 mo (by kernel_rfl) ?_
 simp only [List.take_succ_cons, List.take_zero, List.drop_succ_cons, List.drop_zero]
 refine qH (qU rfl) rfl rfl rfl ?_
 refine qH (qU rfl) rfl rfl rfl ?_
 refine qH (jG rfl rfl (by first | exact zW ⟨by omega, by omega⟩ | rfl)) rfl rfl rfl ?_
 refine qH (qW ar199 rfl rfl (by first | decide | omega) (by first | decide | omega)) rfl rfl rfl ?_
 refine qH (zY 5 ty2 rfl rfl rfl) rfl rfl rfl ?_
 refine qH (qW ar199 rfl rfl (by first | decide | omega) (by first | decide | omega)) rfl rfl rfl ?_
 refine qH (zY 5 ty2 rfl rfl rfl) rfl rfl rfl ?_
 refine qH (jZ rfl rfl (qZW (by omega) (by omega))) rfl rfl rfl ?_
 refine yV (F := vI) (zQ en150 rfl (fun w _ => rCeil _ _ (qQX (by omega) (by omega)) (by decide) w)) rfl rfl rfl ?_; intro r37 hr37
 have qr37 := qKH hr37 (by omega) (by omega)
 refine qH (qW ar199 rfl rfl (by first | decide | omega) (by first | decide | omega)) rfl rfl rfl ?_
 refine jX ?_
 refine yU ?_
 refine qG 5 ty2 rfl rfl rfl rfl rfl rfl rfl rfl ?_
 refine qJ ?_
 refine zZ ?_
 refine qQ ?_
 refine qZ ?_
 refine qY (qU rfl) rfl rfl rfl ?_
 refine qY (yK rfl rfl (by first | exact zW ⟨by omega, by omega⟩ | rfl)) rfl rfl rfl ?_
 refine qY (qX rfl) rfl rfl rfl ?_
 refine qJ ?_
 refine jJ ?_
 refine kZ ?_
 refine qK ?_
 refine qK ?_
 refine uZ (ks := [0, 2, 3, 4, 5, 6]) rfl ?_
 refine qZ ?_
 refine qY (qU rfl) rfl rfl rfl ?_
 refine qY (qZG rfl rfl) rfl rfl rfl ?_
 refine qJ ?_
 refine qQ ?_
 refine yX rfl (by decide) ?_
 refine yZ ?_
 refine qQ ?_
 refine qK ?_
 refine yJ ?_
 refine qK ?_
 refine yY 10 mo (by kernel_rfl) ?_
 simp only [List.take_succ_cons, List.take_zero, List.drop_succ_cons, List.drop_zero]
 refine qH (qU rfl) rfl rfl rfl ?_
 refine qH (qU rfl) rfl rfl rfl ?_
 refine qH (jG rfl rfl (by first | exact zW ⟨by omega, by omega⟩ | rfl)) rfl rfl rfl ?_
 refine qH (qW ar199 rfl rfl (by first | decide | omega) (by first | decide | omega)) rfl rfl rfl ?_
 refine qH (zY 4 ty2 rfl rfl rfl) rfl rfl rfl ?_
 refine qH (qW ar199 rfl rfl (by first | decide | omega) (by first | decide | omega)) rfl rfl rfl ?_
 refine qH (zY 4 ty2 rfl rfl rfl) rfl rfl rfl ?_
 refine qH (jZ rfl rfl (qZW (by omega) (by omega))) rfl rfl rfl ?_
 refine yV (F := vI) (zQ en149 rfl (fun w _ => qVW _ _ (qQX (by omega) (by omega)) (by decide) w)) rfl rfl rfl ?_; intro r27_2 hr27_2
 have qr27_2 := qUQ hr27_2 (by omega) (by omega)
 refine qH (qW ar199 rfl rfl (by first | decide | omega) (by first | decide | omega)) rfl rfl rfl ?_
 refine jX ?_
 refine yU ?_
 refine qG 4 ty2 rfl rfl rfl rfl rfl rfl rfl rfl ?_
 refine qJ ?_
 refine qQ ?_
 refine yY 10 mo (by kernel_rfl) ?_
 simp only [List.take_succ_cons, List.take_zero, List.drop_succ_cons, List.drop_zero]
 refine qH (qU rfl) rfl rfl rfl ?_
 refine qH (qU rfl) rfl rfl rfl ?_
 refine qH (jG rfl rfl (by first | exact zW ⟨by omega, by omega⟩ | rfl)) rfl rfl rfl ?_
 refine qH (qW ar199 rfl rfl (by first | decide | omega) (by first | decide | omega)) rfl rfl rfl ?_
 refine qH (zY 5 ty2 rfl rfl rfl) rfl rfl rfl ?_
 refine qH (qW ar199 rfl rfl (by first | decide | omega) (by first | decide | omega)) rfl rfl rfl ?_
 refine qH (zY 5 ty2 rfl rfl rfl) rfl rfl rfl ?_
 refine qH (jZ rfl rfl (qZW (by omega) (by omega))) rfl rfl rfl ?_
 refine yV (F := vI) (zQ en150 rfl (fun w _ => rCeil _ _ (qQX (by omega) (by omega)) (by decide) w)) rfl rfl rfl ?_; intro r37_2 hr37_2
 have qr37_2 := qKH hr37_2 (by omega) (by omega)
 refine qH (qW ar199 rfl rfl (by first | decide | omega) (by first | decide | omega)) rfl rfl rfl ?_
 refine jX ?_
 refine yU ?_
 refine qG 5 ty2 rfl rfl rfl rfl rfl rfl rfl rfl ?_
 refine qJ ?_
 refine zZ ?_
 refine qQ ?_
 refine qZ ?_
 refine qY (qU rfl) rfl rfl rfl ?_
 refine qY (yK rfl rfl (by first | exact zW ⟨by omega, by omega⟩ | rfl)) rfl rfl rfl ?_
 refine qY (qX rfl) rfl rfl rfl ?_
 refine qJ ?_
 refine jJ ?_
 refine kZ ?_
 refine qK ?_
 refine qK ?_
 refine uZ (ks := [0, 2, 3, 4, 5, 6]) rfl ?_
 refine qZ ?_
 refine qY (qU rfl) rfl rfl rfl ?_
 refine qY (qZG rfl rfl) rfl rfl rfl ?_
 refine qJ ?_
 refine qQ ?_
 refine yX rfl (by decide) ?_
 refine yZ ?_
 refine qQ ?_
 refine qK ?_
 refine yJ ?_
 refine qK ?_
 refine yY 10 mo (by kernel_rfl) ?_
 simp only [List.take_succ_cons, List.take_zero, List.drop_succ_cons, List.drop_zero]
 refine qH (qU rfl) rfl rfl rfl ?_
 refine qH (qU rfl) rfl rfl rfl ?_
 refine qH (jG rfl rfl (by first | exact zW ⟨by omega, by omega⟩ | rfl)) rfl rfl rfl ?_
 refine qH (qW ar199 rfl rfl (by first | decide | omega) (by first | decide | omega)) rfl rfl rfl ?_
 refine qH (zY 4 ty2 rfl rfl rfl) rfl rfl rfl ?_
 refine qH (qW ar199 rfl rfl (by first | decide | omega) (by first | decide | omega)) rfl rfl rfl ?_
 refine qH (zY 4 ty2 rfl rfl rfl) rfl rfl rfl ?_
 refine qH (jZ rfl rfl (qZW (by omega) (by omega))) rfl rfl rfl ?_
 refine yV (F := vI) (zQ en149 rfl (fun w _ => qVW _ _ (qQX (by omega) (by omega)) (by decide) w)) rfl rfl rfl ?_; intro r27_3 hr27_3
 have qr27_3 := qUQ hr27_3 (by omega) (by omega)
 refine qH (qW ar199 rfl rfl (by first | decide | omega) (by first | decide | omega)) rfl rfl rfl ?_
 refine jX ?_
 refine yU ?_
 refine qG 4 ty2 rfl rfl rfl rfl rfl rfl rfl rfl ?_
 refine qJ ?_
 refine qQ ?_
 refine yY 10 mo (by kernel_rfl) ?_
 simp only [List.take_succ_cons, List.take_zero, List.drop_succ_cons, List.drop_zero]
 refine qH (qU rfl) rfl rfl rfl ?_
 refine qH (qU rfl) rfl rfl rfl ?_
 refine qH (jG rfl rfl (by first | exact zW ⟨by omega, by omega⟩ | rfl)) rfl rfl rfl ?_
 refine qH (qW ar199 rfl rfl (by first | decide | omega) (by first | decide | omega)) rfl rfl rfl ?_
 refine qH (zY 5 ty2 rfl rfl rfl) rfl rfl rfl ?_
 refine qH (qW ar199 rfl rfl (by first | decide | omega) (by first | decide | omega)) rfl rfl rfl ?_
 refine qH (zY 5 ty2 rfl rfl rfl) rfl rfl rfl ?_
 refine qH (jZ rfl rfl (qZW (by omega) (by omega))) rfl rfl rfl ?_
 refine yV (F := vI) (zQ en150 rfl (fun w _ => rCeil _ _ (qQX (by omega) (by omega)) (by decide) w)) rfl rfl rfl ?_; intro r37_3 hr37_3
 have qr37_3 := qKH hr37_3 (by omega) (by omega)
 refine qH (qW ar199 rfl rfl (by first | decide | omega) (by first | decide | omega)) rfl rfl rfl ?_
 refine jX ?_
 refine yU ?_
 refine qG 5 ty2 rfl rfl rfl rfl rfl rfl rfl rfl ?_
 refine qJ ?_
 refine zZ ?_
 refine qQ ?_
 refine qZ ?_
 refine qY (qU rfl) rfl rfl rfl ?_
 refine qY (yK rfl rfl (by first | exact zW ⟨by omega, by omega⟩ | rfl)) rfl rfl rfl ?_
 refine qY (qX rfl) rfl rfl rfl ?_
 refine qJ ?_
 refine jJ ?_
 refine kZ ?_
 refine qK ?_
 refine qK ?_
 refine uZ (ks := [0, 2, 3, 4, 5, 6]) rfl ?_
 refine qZ ?_
 refine qY (qU rfl) rfl rfl rfl ?_
 refine qY (qZG rfl rfl) rfl rfl rfl ?_
 refine qJ ?_
 refine qQ ?_
 refine yX rfl (by decide) ?_
 refine yZ ?_
 refine qQ ?_
 refine qK ?_
 refine yJ ?_
 refine qK ?_
 refine yY 10 mo (by kernel_rfl) ?_
 simp only [List.take_succ_cons, List.take_zero, List.drop_succ_cons, List.drop_zero]
 refine qH (qU rfl) rfl rfl rfl ?_
 refine qH (qU rfl) rfl rfl rfl ?_
 refine qH (jG rfl rfl (by first | exact zW ⟨by omega, by omega⟩ | rfl)) rfl rfl rfl ?_
 refine qH (qW ar199 rfl rfl (by first | decide | omega) (by first | decide | omega)) rfl rfl rfl ?_
 refine qH (zY 4 ty2 rfl rfl rfl) rfl rfl rfl ?_
 refine qH (qW ar199 rfl rfl (by first | decide | omega) (by first | decide | omega)) rfl rfl rfl ?_
 refine qH (zY 4 ty2 rfl rfl rfl) rfl rfl rfl ?_
 refine qH (jZ rfl rfl (qZW (by omega) (by omega))) rfl rfl rfl ?_
 refine yV (F := vI) (zQ en149 rfl (fun w _ => qVW _ _ (qQX (by omega) (by omega)) (by decide) w)) rfl rfl rfl ?_; intro r27_4 hr27_4
 have qr27_4 := qUQ hr27_4 (by omega) (by omega)
 refine qH (qW ar199 rfl rfl (by first | decide | omega) (by first | decide | omega)) rfl rfl rfl ?_
 refine jX ?_
 refine yU ?_
 refine qG 4 ty2 rfl rfl rfl rfl rfl rfl rfl rfl ?_
 refine qJ ?_
 refine qQ ?_
 refine yY 10 mo (by kernel_rfl) ?_
 simp only [List.take_succ_cons, List.take_zero, List.drop_succ_cons, List.drop_zero]
 refine qH (qU rfl) rfl rfl rfl ?_
 refine qH (qU rfl) rfl rfl rfl ?_
 refine qH (jG rfl rfl (by first | exact zW ⟨by omega, by omega⟩ | rfl)) rfl rfl rfl ?_
 refine qH (qW ar199 rfl rfl (by first | decide | omega) (by first | decide | omega)) rfl rfl rfl ?_
 refine qH (zY 5 ty2 rfl rfl rfl) rfl rfl rfl ?_
 refine qH (qW ar199 rfl rfl (by first | decide | omega) (by first | decide | omega)) rfl rfl rfl ?_
 refine qH (zY 5 ty2 rfl rfl rfl) rfl rfl rfl ?_
 refine qH (jZ rfl rfl (qZW (by omega) (by omega))) rfl rfl rfl ?_
 refine yV (F := vI) (zQ en150 rfl (fun w _ => rCeil _ _ (qQX (by omega) (by omega)) (by decide) w)) rfl rfl rfl ?_; intro r37_4 hr37_4
 have qr37_4 := qKH hr37_4 (by omega) (by omega)
 refine qH (qW ar199 rfl rfl (by first | decide | omega) (by first | decide | omega)) rfl rfl rfl ?_
 refine jX ?_
 refine yU ?_
 refine qG 5 ty2 rfl rfl rfl rfl rfl rfl rfl rfl ?_
 refine qJ ?_
 refine zZ ?_
 refine qQ ?_
 refine qZ ?_
 refine qY (qU rfl) rfl rfl rfl ?_
 refine qY (yK rfl rfl (by first | exact zW ⟨by omega, by omega⟩ | rfl)) rfl rfl rfl ?_
 refine qY (qX rfl) rfl rfl rfl ?_
 refine qJ ?_
 refine jJ ?_
 refine kZ ?_
 refine qK ?_
 refine qK ?_
 refine uZ (ks := [0, 2, 3, 4, 5, 6]) rfl ?_
 refine qZ ?_
 refine qY (qU rfl) rfl rfl rfl ?_
 refine qY (qZG rfl rfl) rfl rfl rfl ?_
 refine qJ ?_
 refine qQ ?_
 refine yX rfl (by decide) ?_
 refine yZ ?_
 refine qQ ?_
 refine qK ?_
 refine yJ ?_
 refine qK ?_
 refine yY 10 mo (by kernel_rfl) ?_
 simp only [List.take_succ_cons, List.take_zero, List.drop_succ_cons, List.drop_zero]
 refine qH (qU rfl) rfl rfl rfl ?_
 refine qH (qU rfl) rfl rfl rfl ?_
 refine qH (jG rfl rfl (by first | exact zW ⟨by omega, by omega⟩ | rfl)) rfl rfl rfl ?_
 refine qH (qW ar199 rfl rfl (by first | decide | omega) (by first | decide | omega)) rfl rfl rfl ?_
 refine qH (zY 4 ty2 rfl rfl rfl) rfl rfl rfl ?_
 refine qH (qW ar199 rfl rfl (by first | decide | omega) (by first | decide | omega)) rfl rfl rfl ?_
 refine qH (zY 4 ty2 rfl rfl rfl) rfl rfl rfl ?_
 refine qH (jZ rfl rfl (qZW (by omega) (by omega))) rfl rfl rfl ?_
 refine yV (F := vI) (zQ en149 rfl (fun w _ => qVW _ _ (qQX (by omega) (by omega)) (by decide) w)) rfl rfl rfl ?_; intro r27_5 hr27_5
 have qr27_5 := qUQ hr27_5 (by omega) (by omega)
 refine qH (qW ar199 rfl rfl (by first | decide | omega) (by first | decide | omega)) rfl rfl rfl ?_
 refine jX ?_
 refine yU ?_
 refine qG 4 ty2 rfl rfl rfl rfl rfl rfl rfl rfl ?_
 refine qJ ?_
 refine qQ ?_
 refine yY 10 mo (by kernel_rfl) ?_
 simp only [List.take_succ_cons, List.take_zero, List.drop_succ_cons, List.drop_zero]
 refine qH (qU rfl) rfl rfl rfl ?_
 refine qH (qU rfl) rfl rfl rfl ?_
 refine qH (jG rfl rfl (by first | exact zW ⟨by omega, by omega⟩ | rfl)) rfl rfl rfl ?_
 refine qH (qW ar199 rfl rfl (by first | decide | omega) (by first | decide | omega)) rfl rfl rfl ?_
 refine qH (zY 5 ty2 rfl rfl rfl) rfl rfl rfl ?_
 refine qH (qW ar199 rfl rfl (by first | decide | omega) (by first | decide | omega)) rfl rfl rfl ?_
 refine qH (zY 5 ty2 rfl rfl rfl) rfl rfl rfl ?_
 refine qH (jZ rfl rfl (qZW (by omega) (by omega))) rfl rfl rfl ?_
 refine yV (F := vI) (zQ en150 rfl (fun w _ => rCeil _ _ (qQX (by omega) (by omega)) (by decide) w)) rfl rfl rfl ?_; intro r37_5 hr37_5
 have qr37_5 := qKH hr37_5 (by omega) (by omega)
 refine qH (qW ar199 rfl rfl (by first | decide | omega) (by first | decide | omega)) rfl rfl rfl ?_
 refine jX ?_
 refine yU ?_
 refine qG 5 ty2 rfl rfl rfl rfl rfl rfl rfl rfl ?_
 refine qJ ?_
 refine zZ ?_
 refine qQ ?_
 refine qZ ?_
 refine qY (qU rfl) rfl rfl rfl ?_
 refine qY (yK rfl rfl (by first | exact zW ⟨by omega, by omega⟩ | rfl)) rfl rfl rfl ?_
 refine qY (qX rfl) rfl rfl rfl ?_
 refine qJ ?_
 refine jJ ?_
 refine kZ ?_
 refine qK ?_
 refine qK ?_
 refine uZ (ks := [0, 2, 3, 4, 5, 6]) rfl ?_
 refine qZ ?_
 refine qY (qU rfl) rfl rfl rfl ?_
 refine qY (qZG rfl rfl) rfl rfl rfl ?_
 refine qJ ?_
 refine qQ ?_
 refine yX rfl (by decide) ?_
 refine yZ ?_
 refine qQ ?_
 refine qK ?_
 refine yJ ?_
 refine qK ?_
 refine yY 10 mo (by kernel_rfl) ?_
 simp only [List.take_succ_cons, List.take_zero, List.drop_succ_cons, List.drop_zero]
 refine qH (qU rfl) rfl rfl rfl ?_
 refine qH (qU rfl) rfl rfl rfl ?_
 refine qH (jG rfl rfl (by first | exact zW ⟨by omega, by omega⟩ | rfl)) rfl rfl rfl ?_
 refine qH (qW ar199 rfl rfl (by first | decide | omega) (by first | decide | omega)) rfl rfl rfl ?_
 refine qH (zY 4 ty2 rfl rfl rfl) rfl rfl rfl ?_
 refine qH (qW ar199 rfl rfl (by first | decide | omega) (by first | decide | omega)) rfl rfl rfl ?_
 refine qH (zY 4 ty2 rfl rfl rfl) rfl rfl rfl ?_
 refine qH (jZ rfl rfl (qZW (by omega) (by omega))) rfl rfl rfl ?_
 refine yV (F := vI) (zQ en149 rfl (fun w _ => qVW _ _ (qQX (by omega) (by omega)) (by decide) w)) rfl rfl rfl ?_; intro r27_6 hr27_6
 have qr27_6 := qUQ hr27_6 (by omega) (by omega)
 refine qH (qW ar199 rfl rfl (by first | decide | omega) (by first | decide | omega)) rfl rfl rfl ?_
 refine jX ?_
 refine yU ?_
 refine qG 4 ty2 rfl rfl rfl rfl rfl rfl rfl rfl ?_
 refine qJ ?_
 refine qQ ?_
 refine yY 10 mo (by kernel_rfl) ?_
 simp only [List.take_succ_cons, List.take_zero, List.drop_succ_cons, List.drop_zero]
 refine qH (qU rfl) rfl rfl rfl ?_
 refine qH (qU rfl) rfl rfl rfl ?_
 refine qH (jG rfl rfl (by first | exact zW ⟨by omega, by omega⟩ | rfl)) rfl rfl rfl ?_
 refine qH (qW ar199 rfl rfl (by first | decide | omega) (by first | decide | omega)) rfl rfl rfl ?_
 refine qH (zY 5 ty2 rfl rfl rfl) rfl rfl rfl ?_
 refine qH (qW ar199 rfl rfl (by first | decide | omega) (by first | decide | omega)) rfl rfl rfl ?_
 refine qH (zY 5 ty2 rfl rfl rfl) rfl rfl rfl ?_
 refine qH (jZ rfl rfl (qZW (by omega) (by omega))) rfl rfl rfl ?_
 refine yV (F := vI) (zQ en150 rfl (fun w _ => rCeil _ _ (qQX (by omega) (by omega)) (by decide) w)) rfl rfl rfl ?_; intro r37_6 hr37_6
 have qr37_6 := qKH hr37_6 (by omega) (by omega)
 refine qH (qW ar199 rfl rfl (by first | decide | omega) (by first | decide | omega)) rfl rfl rfl ?_
 refine jX ?_
 refine yU ?_
 refine qG 5 ty2 rfl rfl rfl rfl rfl rfl rfl rfl ?_
 refine qJ ?_
 refine zZ ?_
 refine qQ ?_
 refine qZ ?_
 refine qY (qU rfl) rfl rfl rfl ?_
 refine qY (yK rfl rfl (by first | exact zW ⟨by omega, by omega⟩ | rfl)) rfl rfl rfl ?_
 refine qY (qX rfl) rfl rfl rfl ?_
 refine qJ ?_
 refine jJ ?_
 refine kZ ?_
 refine qK ?_
 refine qK ?_
 refine uZ (ks := [0, 2, 3, 4, 5, 6]) rfl ?_
 refine qZ ?_
 refine qY (qU rfl) rfl rfl rfl ?_
 refine qY (qZG rfl rfl) rfl rfl rfl ?_
 refine qJ ?_
 refine qQ ?_
 refine yX rfl (by decide) ?_
 refine yZ ?_
 refine qQ ?_
 refine qK ?_
 refine yJ ?_
 refine qK ?_
 refine yY 10 mo (by kernel_rfl) ?_
 simp only [List.take_succ_cons, List.take_zero, List.drop_succ_cons, List.drop_zero]
 refine qH (qU rfl) rfl rfl rfl ?_
 refine qH (qU rfl) rfl rfl rfl ?_
 refine qH (jG rfl rfl (by first | exact zW ⟨by omega, by omega⟩ | rfl)) rfl rfl rfl ?_
 refine qH (qW ar199 rfl rfl (by first | decide | omega) (by first | decide | omega)) rfl rfl rfl ?_
 refine qH (zY 4 ty2 rfl rfl rfl) rfl rfl rfl ?_
 refine qH (qW ar199 rfl rfl (by first | decide | omega) (by first | decide | omega)) rfl rfl rfl ?_
 refine qH (zY 4 ty2 rfl rfl rfl) rfl rfl rfl ?_
 refine qH (jZ rfl rfl (qZW (by omega) (by omega))) rfl rfl rfl ?_
 refine yV (F := vI) (zQ en149 rfl (fun w _ => qVW _ _ (qQX (by omega) (by omega)) (by decide) w)) rfl rfl rfl ?_; intro r27_7 hr27_7
 have qr27_7 := qUQ hr27_7 (by omega) (by omega)
 refine qH (qW ar199 rfl rfl (by first | decide | omega) (by first | decide | omega)) rfl rfl rfl ?_
 refine jX ?_
 refine yU ?_
 refine qG 4 ty2 rfl rfl rfl rfl rfl rfl rfl rfl ?_
 refine qJ ?_
 refine qQ ?_
 refine yY 10 mo (by kernel_rfl) ?_
 simp only [List.take_succ_cons, List.take_zero, List.drop_succ_cons, List.drop_zero]
 refine qH (qU rfl) rfl rfl rfl ?_
 refine qH (qU rfl) rfl rfl rfl ?_
 refine qH (jG rfl rfl (by first | exact zW ⟨by omega, by omega⟩ | rfl)) rfl rfl rfl ?_
 refine qH (qW ar199 rfl rfl (by first | decide | omega) (by first | decide | omega)) rfl rfl rfl ?_
 refine qH (zY 5 ty2 rfl rfl rfl) rfl rfl rfl ?_
 refine qH (qW ar199 rfl rfl (by first | decide | omega) (by first | decide | omega)) rfl rfl rfl ?_
 refine qH (zY 5 ty2 rfl rfl rfl) rfl rfl rfl ?_
 refine qH (jZ rfl rfl (qZW (by omega) (by omega))) rfl rfl rfl ?_
 refine yV (F := vI) (zQ en150 rfl (fun w _ => rCeil _ _ (qQX (by omega) (by omega)) (by decide) w)) rfl rfl rfl ?_; intro r37_7 hr37_7
 have qr37_7 := qKH hr37_7 (by omega) (by omega)
 refine qH (qW ar199 rfl rfl (by first | decide | omega) (by first | decide | omega)) rfl rfl rfl ?_
 refine jX ?_
 refine yU ?_
 refine qG 5 ty2 rfl rfl rfl rfl rfl rfl rfl rfl ?_
 refine qJ ?_
 refine zZ ?_
 refine qQ ?_
 refine qZ ?_
 refine qY (qU rfl) rfl rfl rfl ?_
 refine qY (yK rfl rfl (by first | exact zW ⟨by omega, by omega⟩ | rfl)) rfl rfl rfl ?_
 refine qY (qX rfl) rfl rfl rfl ?_
 refine qJ ?_
 refine jJ ?_
 refine kZ ?_
 refine qK ?_
 refine qK ?_
 refine uZ (ks := [0, 2, 3, 4, 5, 6]) rfl ?_
 refine qZ ?_
 refine qY (qU rfl) rfl rfl rfl ?_
 refine qY (qZG rfl rfl) rfl rfl rfl ?_
 refine qJ ?_
 refine qQ ?_
 refine yX rfl (by decide) ?_
 refine yZ ?_
 refine qQ ?_
 refine qK ?_
 refine yJ ?_
 refine qK ?_
 refine yY 10 mo (by kernel_rfl) ?_
 simp only [List.take_succ_cons, List.take_zero, List.drop_succ_cons, List.drop_zero]
 refine qH (qU rfl) rfl rfl rfl ?_
 refine qH (qU rfl) rfl rfl rfl ?_
 refine qH (jG rfl rfl (by first | exact zW ⟨by omega, by omega⟩ | rfl)) rfl rfl rfl ?_
 refine qH (qW ar199 rfl rfl (by first | decide | omega) (by first | decide | omega)) rfl rfl rfl ?_
 refine qH (zY 4 ty2 rfl rfl rfl) rfl rfl rfl ?_
 refine qH (qW ar199 rfl rfl (by first | decide | omega) (by first | decide | omega)) rfl rfl rfl ?_
 refine qH (zY 4 ty2 rfl rfl rfl) rfl rfl rfl ?_
 refine qH (jZ rfl rfl (qZW (by omega) (by omega))) rfl rfl rfl ?_
 refine yV (F := vI) (zQ en149 rfl (fun w _ => qVW _ _ (qQX (by omega) (by omega)) (by decide) w)) rfl rfl rfl ?_; intro r27_8 hr27_8
 have qr27_8 := qUQ hr27_8 (by omega) (by omega)
 refine qH (qW ar199 rfl rfl (by first | decide | omega) (by first | decide | omega)) rfl rfl rfl ?_
 refine jX ?_
 refine yU ?_
 refine qG 4 ty2 rfl rfl rfl rfl rfl rfl rfl rfl ?_
 refine qJ ?_
 refine qQ ?_
 refine yY 10 mo (by kernel_rfl) ?_
 simp only [List.take_succ_cons, List.take_zero, List.drop_succ_cons, List.drop_zero]
 refine qH (qU rfl) rfl rfl rfl ?_
 refine qH (qU rfl) rfl rfl rfl ?_
 refine qH (jG rfl rfl (by first | exact zW ⟨by omega, by omega⟩ | rfl)) rfl rfl rfl ?_
 refine qH (qW ar199 rfl rfl (by first | decide | omega) (by first | decide | omega)) rfl rfl rfl ?_
 refine qH (zY 5 ty2 rfl rfl rfl) rfl rfl rfl ?_
 refine qH (qW ar199 rfl rfl (by first | decide | omega) (by first | decide | omega)) rfl rfl rfl ?_
 refine qH (zY 5 ty2 rfl rfl rfl) rfl rfl rfl ?_
 refine qH (jZ rfl rfl (qZW (by omega) (by omega))) rfl rfl rfl ?_
 refine yV (F := vI) (zQ en150 rfl (fun w _ => rCeil _ _ (qQX (by omega) (by omega)) (by decide) w)) rfl rfl rfl ?_; intro r37_8 hr37_8
 have qr37_8 := qKH hr37_8 (by omega) (by omega)
 refine qH (qW ar199 rfl rfl (by first | decide | omega) (by first | decide | omega)) rfl rfl rfl ?_
 refine jX ?_
 refine yU ?_
 refine qG 5 ty2 rfl rfl rfl rfl rfl rfl rfl rfl ?_
 refine qJ ?_
 refine zZ ?_
 refine qQ ?_
 refine qZ ?_
 refine qY (qU rfl) rfl rfl rfl ?_
 refine qY (yK rfl rfl (by first | exact zW ⟨by omega, by omega⟩ | rfl)) rfl rfl rfl ?_
 refine qY (qX rfl) rfl rfl rfl ?_
 refine qJ ?_
 refine jJ ?_
 refine kZ ?_
 refine qK ?_
 refine qK ?_
 refine uZ (ks := [0, 2, 3, 4, 5, 6]) rfl ?_
 refine qZ ?_
 refine qY (qU rfl) rfl rfl rfl ?_
 refine qY (qZG rfl rfl) rfl rfl rfl ?_
 refine qJ ?_
 refine qQ ?_
 refine yX rfl (by decide) ?_
 refine yZ ?_
 refine qQ ?_
 refine qK ?_
 refine yJ ?_
 refine qK ?_
 refine yY 10 mo (by kernel_rfl) ?_
 simp only [List.take_succ_cons, List.take_zero, List.drop_succ_cons, List.drop_zero]
 refine qH (qU rfl) rfl rfl rfl ?_
 refine qH (qU rfl) rfl rfl rfl ?_
 refine qH (jG rfl rfl (by first | exact zW ⟨by omega, by omega⟩ | rfl)) rfl rfl rfl ?_
 refine qH (qW ar199 rfl rfl (by first | decide | omega) (by first | decide | omega)) rfl rfl rfl ?_
 refine qH (zY 4 ty2 rfl rfl rfl) rfl rfl rfl ?_
 refine qH (qW ar199 rfl rfl (by first | decide | omega) (by first | decide | omega)) rfl rfl rfl ?_
 refine qH (zY 4 ty2 rfl rfl rfl) rfl rfl rfl ?_
 refine qH (jZ rfl rfl (qZW (by omega) (by omega))) rfl rfl rfl ?_
 refine yV (F := vI) (zQ en149 rfl (fun w _ => qVW _ _ (qQX (by omega) (by omega)) (by decide) w)) rfl rfl rfl ?_; intro r27_9 hr27_9
 have qr27_9 := qUQ hr27_9 (by omega) (by omega)
 refine qH (qW ar199 rfl rfl (by first | decide | omega) (by first | decide | omega)) rfl rfl rfl ?_
 refine jX ?_
 refine yU ?_
 refine qG 4 ty2 rfl rfl rfl rfl rfl rfl rfl rfl ?_
 refine qJ ?_
 refine qQ ?_
 refine yY 10 mo (by kernel_rfl) ?_
 simp only [List.take_succ_cons, List.take_zero, List.drop_succ_cons, List.drop_zero]
 refine qH (qU rfl) rfl rfl rfl ?_
 refine qH (qU rfl) rfl rfl rfl ?_
 refine qH (jG rfl rfl (by first | exact zW ⟨by omega, by omega⟩ | rfl)) rfl rfl rfl ?_
 refine qH (qW ar199 rfl rfl (by first | decide | omega) (by first | decide | omega)) rfl rfl rfl ?_
 refine qH (zY 5 ty2 rfl rfl rfl) rfl rfl rfl ?_
 refine qH (qW ar199 rfl rfl (by first | decide | omega) (by first | decide | omega)) rfl rfl rfl ?_
 refine qH (zY 5 ty2 rfl rfl rfl) rfl rfl rfl ?_
 refine qH (jZ rfl rfl (qZW (by omega) (by omega))) rfl rfl rfl ?_
 refine yV (F := vI) (zQ en150 rfl (fun w _ => rCeil _ _ (qQX (by omega) (by omega)) (by decide) w)) rfl rfl rfl ?_; intro r37_9 hr37_9
 have qr37_9 := qKH hr37_9 (by omega) (by omega)
 refine qH (qW ar199 rfl rfl (by first | decide | omega) (by first | decide | omega)) rfl rfl rfl ?_
 refine jX ?_
 refine yU ?_
 refine qG 5 ty2 rfl rfl rfl rfl rfl rfl rfl rfl ?_
 refine qJ ?_
 refine zZ ?_
 refine qQ ?_
 refine qZ ?_
 refine qY (qU rfl) rfl rfl rfl ?_
 refine qY (yK rfl rfl (by first | exact zW ⟨by omega, by omega⟩ | rfl)) rfl rfl rfl ?_
 refine qY (qX rfl) rfl rfl rfl ?_
 refine qJ ?_
 refine jJ ?_
 refine kZ ?_
 refine qK ?_
 refine qK ?_
 refine uZ (ks := [0, 2, 3, 4, 5, 6]) rfl ?_
 refine qZ ?_
 refine qY (qU rfl) rfl rfl rfl ?_
 refine qY (qZG rfl rfl) rfl rfl rfl ?_
 refine qJ ?_
 refine qQ ?_
 refine qJX rfl (by decide) ?_
 refine qUK ?_
 refine jV ?_
 refine jV ?_
 refine uY ?_
 refine qQ ?_
 refine qK ?_
 refine doC_perm [[0, 1, 2, 3], [0, 2, 1, 3], [1, 0, 2, 3]] mo (by kernel_rfl) (by kernel_rfl) (by kernel_rfl) ?_
 intro p hp
 simp only [List.mem_cons, List.not_mem_nil, or_false] at hp
 rcases hp with rfl | rfl | rfl
 ·
  show DoL _ _ _ _ _ [_, _, _, _] _ _
  refine qY (zJ 4 ty199 rfl rfl rfl) rfl rfl rfl ?_
  refine qY (zJ 5 ty199 rfl rfl rfl) rfl rfl rfl ?_
  refine qG 2 ty199 rfl rfl rfl rfl rfl rfl rfl rfl ?_
  refine qG 3 ty199 rfl rfl rfl rfl rfl rfl rfl rfl ?_
  refine qJ ?_
  refine qQ ?_
  refine zV ?_
  refine zK (rs := [.cell 2 199, .cell 3 199]) rfl (resC (zU 2 rfl rfl ty199 rfl) (resC (zU 3 rfl rfl ty199 rfl) (resN))) ?_
  subst_vars; rfl
 ·
  show DoL _ _ _ _ _ [_, _, _, _] _ _
  refine qY (zJ 4 ty199 rfl rfl rfl) rfl rfl rfl ?_
  refine qG 2 ty199 rfl rfl rfl rfl rfl rfl rfl rfl ?_
  refine qY (zJ 5 ty199 rfl rfl rfl) rfl rfl rfl ?_
  refine qG 3 ty199 rfl rfl rfl rfl rfl rfl rfl rfl ?_
  refine qJ ?_
  refine qQ ?_
  refine zV ?_
  refine zK (rs := [.cell 2 199, .cell 3 199]) rfl (resC (zU 2 rfl rfl ty199 rfl) (resC (zU 3 rfl rfl ty199 rfl) (resN))) ?_
  subst_vars; rfl
 ·
  show DoL _ _ _ _ _ [_, _, _, _] _ _
  refine qY (zJ 5 ty199 rfl rfl rfl) rfl rfl rfl ?_
  refine qY (zJ 4 ty199 rfl rfl rfl) rfl rfl rfl ?_
  refine qG 2 ty199 rfl rfl rfl rfl rfl rfl rfl rfl ?_
  refine qG 3 ty199 rfl rfl rfl rfl rfl rfl rfl rfl ?_
  refine qJ ?_
  refine qQ ?_
  refine zV ?_
  refine zK (rs := [.cell 2 199, .cell 3 199]) rfl (resC (zU 2 rfl rfl ty199 rfl) (resC (zU 3 rfl rfl ty199 rfl) (resN))) ?_
  subst_vars; rfl
theorem alt4  (b : Nat) (x1 x2 x3 x4 : Int) (h1 : 0 ≤ x1 ∧ x1 ≤ 1073741825) (h2 : 0 ≤ x2 ∧ x2 ≤ 1073741825) (h3 : 0 ≤ x3 ∧ x3 ≤ 1073741825) (h4 : 0 ≤ x4 ∧ x4 ≤ 1073741825) (w : World) (hb : w.heap[b]? = some (.cells [.int .i64 x1, .int .i64 x2, .int .i64 x3, .int .i64 x4].toArray 2)) : Calls Tryz.prog 198 [.slice (some ⟨b, 0, none⟩) 4 4].toArray w (Rets (vI (x1 - x2 + x3 - x4)) (w)) := by
 refine zX (n := 22) Tryz.func198 rfl rfl rfl ?_
 refine qK ?_
 refine qZ ?_
 refine qY (qX rfl) rfl rfl rfl ?_
 refine qJ ?_
 refine qQ ?_
 refine qK ?_
 refine qZ ?_
 refine qY (qX rfl) rfl rfl rfl ?_
 refine qY (qX rfl) rfl rfl rfl ?_
 refine qJ ?_
 refine qQ ?_
 refine qK ?_
 refine qK ?_
 refine qZ ?_
 refine qY (qU rfl) rfl rfl rfl ?_
 refine qY (qYU sl92 rfl) rfl rfl rfl ?_
 refine qY (qU rfl) rfl rfl rfl ?_
 refine qJ ?_
 refine qQ ?_
 refine yJ ?_
 refine qXV 5 ?_
 refine kZ ?_
 refine qK ?_
 refine uZ (ks := [2, 3, 4, 7, 8, 9]) rfl ?_
 refine qZ ?_
 refine qY (kX rfl rfl) rfl rfl rfl ?_
 refine qJ ?_
 refine qQ ?_
 refine qK ?_
 refine yX rfl (by decide) ?_
 refine yZ ?_
 refine qQ ?_
 refine qK ?_
 refine yJ ?_
 refine qK ?_
 refine qZ ?_
 refine qY (kW sl92 rfl rfl (by first | decide | omega) (by first | decide | omega)) rfl rfl rfl ?_
 refine qY (uK ty2 rfl (uQ hb) (by rw [qYY hb]; rfl)) rfl rfl rfl ?_
 refine qY (qX rfl) rfl rfl rfl ?_
 refine qJ ?_
 refine qQ ?_
 refine qK ?_
 refine qZ ?_
 refine qY (qU rfl) rfl rfl rfl ?_
 refine qY (qU rfl) rfl rfl rfl ?_
 refine qY (qU rfl) rfl rfl rfl ?_
 refine qY (jZ rfl rfl (by first | exact zW ⟨by omega, by omega⟩ | rfl)) rfl rfl rfl ?_
 refine qY (yK rfl rfl (by first | exact zW ⟨by omega, by omega⟩ | rfl)) rfl rfl rfl ?_
 refine qY (qX rfl) rfl rfl rfl ?_
 refine qJ ?_
 refine qQ ?_
 refine qZ ?_
 refine qY (qU rfl) rfl rfl rfl ?_
 refine qY (qQW rfl (by first | exact qJZ ⟨by omega, by omega⟩ | rfl)) rfl rfl rfl ?_
 refine qY (qX rfl) rfl rfl rfl ?_
 refine qJ ?_
 refine zZ ?_
 refine qQ ?_
 refine qZ ?_
 refine qY (yK rfl rfl (by first | exact zW ⟨by omega, by omega⟩ | rfl)) rfl rfl rfl ?_
 refine qY (qU rfl) rfl rfl rfl ?_
 refine qJ ?_
 refine jJ ?_
 refine kZ ?_
 refine qK ?_
 refine uZ (ks := [2, 3, 4, 7, 8, 9]) rfl ?_
 refine qZ ?_
 refine qY (kX rfl rfl) rfl rfl rfl ?_
 refine qJ ?_
 refine qQ ?_
 refine qK ?_
 refine yX rfl (by decide) ?_
 refine yZ ?_
 refine qQ ?_
 refine qK ?_
 refine yJ ?_
 refine qK ?_
 refine qZ ?_
 refine qY (kW sl92 rfl rfl (by first | decide | omega) (by first | decide | omega)) rfl rfl rfl ?_
 refine qY (uK ty2 rfl (uQ hb) (by rw [qYY hb]; rfl)) rfl rfl rfl ?_
 refine qY (qX rfl) rfl rfl rfl ?_
 refine qJ ?_
 refine qQ ?_
 refine qK ?_
 refine qZ ?_
 refine qY (qU rfl) rfl rfl rfl ?_
 refine qY (qU rfl) rfl rfl rfl ?_
 refine qY (qU rfl) rfl rfl rfl ?_
 refine qY (jZ rfl rfl (by first | exact zW ⟨by omega, by omega⟩ | rfl)) rfl rfl rfl ?_
 refine qY (yK rfl rfl (by first | exact zW ⟨by omega, by omega⟩ | rfl)) rfl rfl rfl ?_
 refine qY (qX rfl) rfl rfl rfl ?_
 refine qJ ?_
 refine qQ ?_
 refine qZ ?_
 refine qY (qU rfl) rfl rfl rfl ?_
 refine qY (qQW rfl (by first | exact qJZ ⟨by omega, by omega⟩ | rfl)) rfl rfl rfl ?_
 refine qY (qX rfl) rfl rfl rfl ?_
 refine qJ ?_
 refine zZ ?_
 refine qQ ?_
 refine qZ ?_
 refine qY (yK rfl rfl (by first | exact zW ⟨by omega, by omega⟩ | rfl)) rfl rfl rfl ?_
 refine qY (qU rfl) rfl rfl rfl ?_
 refine qJ ?_
 refine jJ ?_
 refine kZ ?_
 refine qK ?_
 refine uZ (ks := [2, 3, 4, 7, 8, 9]) rfl ?_
 refine qZ ?_
 refine qY (kX rfl rfl) rfl rfl rfl ?_
 refine qJ ?_
 refine qQ ?_
 refine qK ?_
 refine yX rfl (by decide) ?_
 refine yZ ?_
 refine qQ ?_
 refine qK ?_
 refine yJ ?_
 refine qK ?_
 refine qZ ?_
 refine qY (kW sl92 rfl rfl (by first | decide | omega) (by first | decide | omega)) rfl rfl rfl ?_
 refine qY (uK ty2 rfl (uQ hb) (by rw [qYY hb]; rfl)) rfl rfl rfl ?_
 refine qY (qX rfl) rfl rfl rfl ?_
 refine qJ ?_
 refine qQ ?_
 refine qK ?_
 refine qZ ?_
 refine qY (qU rfl) rfl rfl rfl ?_
 refine qY (qU rfl) rfl rfl rfl ?_
 refine qY (qU rfl) rfl rfl rfl ?_
 refine qY (jZ rfl rfl (by first | exact zW ⟨by omega, by omega⟩ | rfl)) rfl rfl rfl ?_
 refine qY (yK rfl rfl (by first | exact zW ⟨by omega, by omega⟩ | rfl)) rfl rfl rfl ?_
 refine qY (qX rfl) rfl rfl rfl ?_
 refine qJ ?_
 refine qQ ?_
 refine qZ ?_
 refine qY (qU rfl) rfl rfl rfl ?_
 refine qY (qQW rfl (by first | exact qJZ ⟨by omega, by omega⟩ | rfl)) rfl rfl rfl ?_
 refine qY (qX rfl) rfl rfl rfl ?_
 refine qJ ?_
 refine zZ ?_
 refine qQ ?_
 refine qZ ?_
 refine qY (yK rfl rfl (by first | exact zW ⟨by omega, by omega⟩ | rfl)) rfl rfl rfl ?_
 refine qY (qU rfl) rfl rfl rfl ?_
 refine qJ ?_
 refine jJ ?_
 refine kZ ?_
 refine qK ?_
 refine uZ (ks := [2, 3, 4, 7, 8, 9]) rfl ?_
 refine qZ ?_
 refine qY (kX rfl rfl) rfl rfl rfl ?_
 refine qJ ?_
 refine qQ ?_
 refine qK ?_
 refine yX rfl (by decide) ?_
 refine yZ ?_
 refine qQ ?_
 refine qK ?_
 refine yJ ?_
 refine qK ?_
 refine qZ ?_
 refine qY (kW sl92 rfl rfl (by first | decide | omega) (by first | decide | omega)) rfl rfl rfl ?_
 refine qY (uK ty2 rfl (uQ hb) (by rw [qYY hb]; rfl)) rfl rfl rfl ?_
 refine qY (qX rfl) rfl rfl rfl ?_
 refine qJ ?_
 refine qQ ?_
 refine qK ?_
 refine qZ ?_
 refine qY (qU rfl) rfl rfl rfl ?_
 refine qY (qU rfl) rfl rfl rfl ?_
 refine qY (qU rfl) rfl rfl rfl ?_
 refine qY (jZ rfl rfl (by first | exact zW ⟨by omega, by omega⟩ | rfl)) rfl rfl rfl ?_
 refine qY (yK rfl rfl (by first | exact zW ⟨by omega, by omega⟩ | rfl)) rfl rfl rfl ?_
 refine qY (qX rfl) rfl rfl rfl ?_
 refine qJ ?_
 refine qQ ?_
 refine qZ ?_
 refine qY (qU rfl) rfl rfl rfl ?_
 refine qY (qQW rfl (by first | exact qJZ ⟨by omega, by omega⟩ | rfl)) rfl rfl rfl ?_
 refine qY (qX rfl) rfl rfl rfl ?_
 refine qJ ?_
 refine zZ ?_
 refine qQ ?_
 refine qZ ?_
 refine qY (yK rfl rfl (by first | exact zW ⟨by omega, by omega⟩ | rfl)) rfl rfl rfl ?_
 refine qY (qU rfl) rfl rfl rfl ?_
 refine qJ ?_
 refine jJ ?_
 refine kZ ?_
 refine qK ?_
 refine uZ (ks := [2, 3, 4, 7, 8, 9]) rfl ?_
 refine qZ ?_
 refine qY (kX rfl rfl) rfl rfl rfl ?_
 refine qJ ?_
 refine qQ ?_
 refine qK ?_
 refine qJX rfl (by decide) ?_
 refine qUK ?_
 refine jV ?_
 refine jV ?_
 refine uY ?_
 refine qQ ?_
 refine qK ?_
 refine qZ ?_
 refine qY (qU rfl) rfl rfl rfl ?_
 refine qY (qX rfl) rfl rfl rfl ?_
 refine qJ ?_
 refine qQ ?_
 refine zV ?_
 refine zK (rs := [.tmp 2]) rfl (resC (kQ rfl) (resN)) (congrArg (vI) (?_ : _ = x1 - x2 + x3 - x4))
 omega
theorem alt5  (b : Nat) (x1 x2 x3 x4 x5 : Int) (h1 : 0 ≤ x1 ∧ x1 ≤ 1073741825) (h2 : 0 ≤ x2 ∧ x2 ≤ 1073741825) (h3 : 0 ≤ x3 ∧ x3 ≤ 1073741825) (h4 : 0 ≤ x4 ∧ x4 ≤ 1073741825) (h5 : 0 ≤ x5 ∧ x5 ≤ 1073741825) (w : World) (hb : w.heap[b]? = some (.cells [.int .i64 x1, .int .i64 x2, .int .i64 x3, .int .i64 x4, .int .i64 x5].toArray 2)) : Calls Tryz.prog 198 [.slice (some ⟨b, 0, none⟩) 5 5].toArray w (Rets (vI (x1 - x2 + x3 - x4 + x5)) (w)) := by
 refine zX (n := 22) Tryz.func198 rfl rfl rfl ?_
 refine qK ?_
 refine qZ ?_
 refine qY (qX rfl) rfl rfl rfl ?_
 refine qJ ?_
 refine qQ ?_
 refine qK ?_
 refine qZ ?_
 refine qY (qX rfl) rfl rfl rfl ?_
 refine qY (qX rfl) rfl rfl rfl ?_
 refine qJ ?_
 refine qQ ?_
 refine qK ?_
 refine qK ?_
 refine qZ ?_
 refine qY (qU rfl) rfl rfl rfl ?_
 refine qY (qYU sl92 rfl) rfl rfl rfl ?_
 refine qY (qU rfl) rfl rfl rfl ?_
 refine qJ ?_
 refine qQ ?_
 refine yJ ?_
 refine qXV 6 ?_
 refine kZ ?_
 refine qK ?_
 refine uZ (ks := [2, 3, 4, 7, 8, 9]) rfl ?_
 refine qZ ?_
 refine qY (kX rfl rfl) rfl rfl rfl ?_
 refine qJ ?_
 refine qQ ?_
 refine qK ?_
 refine yX rfl (by decide) ?_
 refine yZ ?_
 refine qQ ?_
 refine qK ?_
 refine yJ ?_
 refine qK ?_
 refine qZ ?_
 refine qY (kW sl92 rfl rfl (by first | decide | omega) (by first | decide | omega)) rfl rfl rfl ?_
 refine qY (uK ty2 rfl (uQ hb) (by rw [qYY hb]; rfl)) rfl rfl rfl ?_
 refine qY (qX rfl) rfl rfl rfl ?_
 refine qJ ?_
 refine qQ ?_
 refine qK ?_
 refine qZ ?_
 refine qY (qU rfl) rfl rfl rfl ?_
 refine qY (qU rfl) rfl rfl rfl ?_
 refine qY (qU rfl) rfl rfl rfl ?_
 refine qY (jZ rfl rfl (by first | exact zW ⟨by omega, by omega⟩ | rfl)) rfl rfl rfl ?_
 refine qY (yK rfl rfl (by first | exact zW ⟨by omega, by omega⟩ | rfl)) rfl rfl rfl ?_
 refine qY (qX rfl) rfl rfl rfl ?_
 refine qJ ?_
 refine qQ ?_
 refine qZ ?_
 refine qY (qU rfl) rfl rfl rfl ?_
 refine qY (qQW rfl (by first | exact qJZ ⟨by omega, by omega⟩ | rfl)) rfl rfl rfl ?_
 refine qY (qX rfl) rfl rfl rfl ?_
 refine qJ ?_
 refine zZ ?_
 refine qQ ?_
 refine qZ ?_
 refine qY (yK rfl rfl (by first | exact zW ⟨by omega, by omega⟩ | rfl)) rfl rfl rfl ?_
 refine qY (qU rfl) rfl rfl rfl ?_
 refine qJ ?_
 refine jJ ?_
 refine kZ ?_
 refine qK ?_
 refine uZ (ks := [2, 3, 4, 7, 8, 9]) rfl ?_
 refine qZ ?_
 refine qY (kX rfl rfl) rfl rfl rfl ?_
 refine qJ ?_
 refine qQ ?_
 refine qK ?_
 refine yX rfl (by decide) ?_
 refine yZ ?_
 refine qQ ?_
 refine qK ?_
 refine yJ ?_
 refine qK ?_
 refine qZ ?_
 refine qY (kW sl92 rfl rfl (by first | decide | omega) (by first | decide | omega)) rfl rfl rfl ?_
 refine qY (uK ty2 rfl (uQ hb) (by rw [qYY hb]; rfl)) rfl rfl rfl ?_
 refine qY (qX rfl) rfl rfl rfl ?_
 refine qJ ?_
 refine qQ ?_
 refine qK ?_
 refine qZ ?_
 refine qY (qU rfl) rfl rfl rfl ?_
 refine qY (qU rfl) rfl rfl rfl ?_
 refine qY (qU rfl) rfl rfl rfl ?_
 refine qY (jZ rfl rfl (by first | exact zW ⟨by omega, by omega⟩ | rfl)) rfl rfl rfl ?_
 refine qY (yK rfl rfl (by first | exact zW ⟨by omega, by omega⟩ | rfl)) rfl rfl rfl ?_
 refine qY (qX rfl) rfl rfl rfl ?_
 refine qJ ?_
 refine qQ ?_
 refine qZ ?_
 refine qY (qU rfl) rfl rfl rfl ?_
 refine qY (qQW rfl (by first | exact qJZ ⟨by omega, by omega⟩ | rfl)) rfl rfl rfl ?_
 refine qY (qX rfl) rfl rfl rfl ?_
 refine qJ ?_
 refine zZ ?_
 refine qQ ?_
 refine qZ ?_
 refine qY (yK rfl rfl (by first | exact zW ⟨by omega, by omega⟩ | rfl)) rfl rfl rfl ?_
 refine qY (qU rfl) rfl rfl rfl ?_
 refine qJ ?_
 refine jJ ?_
 refine kZ ?_
 refine qK ?_
 refine uZ (ks := [2, 3, 4, 7, 8, 9]) rfl ?_
 refine qZ ?_
 refine qY (kX rfl rfl) rfl rfl rfl ?_
 refine qJ ?_
 refine qQ ?_
 refine qK ?_
 refine yX rfl (by decide) ?_
 refine yZ ?_
 refine qQ ?_
 refine qK ?_
 refine yJ ?_
 refine qK ?_
 refine qZ ?_
 refine qY (kW sl92 rfl rfl (by first | decide | omega) (by first | decide | omega)) rfl rfl rfl ?_
 refine qY (uK ty2 rfl (uQ hb) (by rw [qYY hb]; rfl)) rfl rfl rfl ?_
 refine qY (qX rfl) rfl rfl rfl ?_
 refine qJ ?_
 refine qQ ?_
 refine qK ?_
 refine qZ ?_
 refine qY (qU rfl) rfl rfl rfl ?_
 refine qY (qU rfl) rfl rfl rfl ?_
 refine qY (qU rfl) rfl rfl rfl ?_
 refine qY (jZ rfl rfl (by first | exact zW ⟨by omega, by omega⟩ | rfl)) rfl rfl rfl ?_
 refine qY (yK rfl rfl (by first | exact zW ⟨by omega, by omega⟩ | rfl)) rfl rfl rfl ?_
 refine qY (qX rfl) rfl rfl rfl ?_
 refine qJ ?_
 refine qQ ?_
 refine qZ ?_
 refine qY (qU rfl) rfl rfl rfl ?_
 refine qY (qQW rfl (by first | exact qJZ ⟨by omega, by omega⟩ | rfl)) rfl rfl rfl ?_
 refine qY (qX rfl) rfl rfl rfl ?_
 refine qJ ?_
 refine zZ ?_
 refine qQ ?_
 refine qZ ?_
 refine qY (yK rfl rfl (by first | exact zW ⟨by omega, by omega⟩ | rfl)) rfl rfl rfl ?_
 refine qY (qU rfl) rfl rfl rfl ?_
 refine qJ ?_
 refine jJ ?_
 refine kZ ?_
 refine qK ?_
 refine uZ (ks := [2, 3, 4, 7, 8, 9]) rfl ?_
 refine qZ ?_
 refine qY (kX rfl rfl) rfl rfl rfl ?_
 refine qJ ?_
 refine qQ ?_
 refine qK ?_
 refine yX rfl (by decide) ?_
 refine yZ ?_
 refine qQ ?_
 refine qK ?_
 refine yJ ?_
 refine qK ?_
 refine qZ ?_
 refine qY (kW sl92 rfl rfl (by first | decide | omega) (by first | decide | omega)) rfl rfl rfl ?_
 refine qY (uK ty2 rfl (uQ hb) (by rw [qYY hb]; rfl)) rfl rfl rfl ?_
 refine qY (qX rfl) rfl rfl rfl ?_
 refine qJ ?_
 refine qQ ?_
 refine qK ?_
 refine qZ ?_
 refine qY (qU rfl) rfl rfl rfl ?_
 refine qY (qU rfl) rfl rfl rfl ?_
 refine qY (qU rfl) rfl rfl rfl ?_
 refine qY (jZ rfl rfl (by first | exact zW ⟨by omega, by omega⟩ | rfl)) rfl rfl rfl ?_
 refine qY (yK rfl rfl (by first | exact zW ⟨by omega, by omega⟩ | rfl)) rfl rfl rfl ?_
 refine qY (qX rfl) rfl rfl rfl ?_
 refine qJ ?_
 refine qQ ?_
 refine qZ ?_
 refine qY (qU rfl) rfl rfl rfl ?_
 refine qY (qQW rfl (by first | exact qJZ ⟨by omega, by omega⟩ | rfl)) rfl rfl rfl ?_
 refine qY (qX rfl) rfl rfl rfl ?_
 refine qJ ?_
 refine zZ ?_
 refine qQ ?_
 refine qZ ?_
 refine qY (yK rfl rfl (by first | exact zW ⟨by omega, by omega⟩ | rfl)) rfl rfl rfl ?_
 refine qY (qU rfl) rfl rfl rfl ?_
 refine qJ ?_
 refine jJ ?_
 refine kZ ?_
 refine qK ?_
 refine uZ (ks := [2, 3, 4, 7, 8, 9]) rfl ?_
 refine qZ ?_
 refine qY (kX rfl rfl) rfl rfl rfl ?_
 refine qJ ?_
 refine qQ ?_
 refine qK ?_
 refine yX rfl (by decide) ?_
 refine yZ ?_
 refine qQ ?_
 refine qK ?_
 refine yJ ?_
 refine qK ?_
 refine qZ ?_
 refine qY (kW sl92 rfl rfl (by first | decide | omega) (by first | decide | omega)) rfl rfl rfl ?_
 refine qY (uK ty2 rfl (uQ hb) (by rw [qYY hb]; rfl)) rfl rfl rfl ?_
 refine qY (qX rfl) rfl rfl rfl ?_
 refine qJ ?_
 refine qQ ?_
 refine qK ?_
 refine qZ ?_
 refine qY (qU rfl) rfl rfl rfl ?_
 refine qY (qU rfl) rfl rfl rfl ?_
 refine qY (qU rfl) rfl rfl rfl ?_
 refine qY (jZ rfl rfl (by first | exact zW ⟨by omega, by omega⟩ | rfl)) rfl rfl rfl ?_
 refine qY (yK rfl rfl (by first | exact zW ⟨by omega, by omega⟩ | rfl)) rfl rfl rfl ?_
 refine qY (qX rfl) rfl rfl rfl ?_
 refine qJ ?_
 refine qQ ?_
 refine qZ ?_
 refine qY (qU rfl) rfl rfl rfl ?_
 refine qY (qQW rfl (by first | exact qJZ ⟨by omega, by omega⟩ | rfl)) rfl rfl rfl ?_
 refine qY (qX rfl) rfl rfl rfl ?_
 refine qJ ?_
 refine zZ ?_
 refine qQ ?_
 refine qZ ?_
 refine qY (yK rfl rfl (by first | exact zW ⟨by omega, by omega⟩ | rfl)) rfl rfl rfl ?_
 refine qY (qU rfl) rfl rfl rfl ?_
 refine qJ ?_
 refine jJ ?_
 refine kZ ?_
 refine qK ?_
 refine uZ (ks := [2, 3, 4, 7, 8, 9]) rfl ?_
 refine qZ ?_
 refine qY (kX rfl rfl) rfl rfl rfl ?_
 refine qJ ?_
 refine qQ ?_
 refine qK ?_
 refine qJX rfl (by decide) ?_
 refine qUK ?_
 refine jV ?_
 refine jV ?_
 refine uY ?_
 refine qQ ?_
 refine qK ?_
 refine qZ ?_
 refine qY (qU rfl) rfl rfl rfl ?_
 refine qY (qX rfl) rfl rfl rfl ?_
 refine qJ ?_
 refine qQ ?_
 refine zV ?_
 refine zK (rs := [.tmp 2]) rfl (resC (kQ rfl) (resN)) (congrArg (vI) (?_ : _ = x1 - x2 + x3 - x4 + x5))
 omega
theorem alt6  (b : Nat) (x1 x2 x3 x4 x5 x6 : Int) (h1 : 0 ≤ x1 ∧ x1 ≤ 1073741825) (h2 : 0 ≤ x2 ∧ x2 ≤ 1073741825) (h3 : 0 ≤ x3 ∧ x3 ≤ 1073741825) (h4 : 0 ≤ x4 ∧ x4 ≤ 1073741825) (h5 : 0 ≤ x5 ∧ x5 ≤ 1073741825) (h6 : 0 ≤ x6 ∧ x6 ≤ 1073741825) (w : World) (hb : w.heap[b]? = some (.cells [.int .i64 x1, .int .i64 x2, .int .i64 x3, .int .i64 x4, .int .i64 x5, .int .i64 x6].toArray 2)) : Calls Tryz.prog 198 [.slice (some ⟨b, 0, none⟩) 6 6].toArray w (Rets (vI (x1 - x2 + x3 - x4 + x5 - x6)) (w)) := by
 refine zX (n := 22) Tryz.func198 rfl rfl rfl ?_
 refine qK ?_
 refine qZ ?_
 refine qY (qX rfl) rfl rfl rfl ?_
 refine qJ ?_
 refine qQ ?_
 refine qK ?_
 refine qZ ?_
 refine qY (qX rfl) rfl rfl rfl ?_
 refine qY (qX rfl) rfl rfl rfl ?_
 refine qJ ?_
 refine qQ ?_
 refine qK ?_
 refine qK ?_
 refine qZ ?_
 refine qY (qU rfl) rfl rfl rfl ?_
 refine qY (qYU sl92 rfl) rfl rfl rfl ?_
 refine qY (qU rfl) rfl rfl rfl ?_
 refine qJ ?_
 refine qQ ?_
 refine yJ ?_
 refine qXV 7 ?_
 refine kZ ?_
 refine qK ?_
 refine uZ (ks := [2, 3, 4, 7, 8, 9]) rfl ?_
 refine qZ ?_
 refine qY (kX rfl rfl) rfl rfl rfl ?_
 refine qJ ?_
 refine qQ ?_
 refine qK ?_
 refine yX rfl (by decide) ?_
 refine yZ ?_
 refine qQ ?_
 refine qK ?_
 refine yJ ?_
 refine qK ?_
 refine qZ ?_
 refine qY (kW sl92 rfl rfl (by first | decide | omega) (by first | decide | omega)) rfl rfl rfl ?_
 refine qY (uK ty2 rfl (uQ hb) (by rw [qYY hb]; rfl)) rfl rfl rfl ?_
 refine qY (qX rfl) rfl rfl rfl ?_
 refine qJ ?_
 refine qQ ?_
 refine qK ?_
 refine qZ ?_
 refine qY (qU rfl) rfl rfl rfl ?_
 refine qY (qU rfl) rfl rfl rfl ?_
 refine qY (qU rfl) rfl rfl rfl ?_
 refine qY (jZ rfl rfl (by first | exact zW ⟨by omega, by omega⟩ | rfl)) rfl rfl rfl ?_
 refine qY (yK rfl rfl (by first | exact zW ⟨by omega, by omega⟩ | rfl)) rfl rfl rfl ?_
 refine qY (qX rfl) rfl rfl rfl ?_
 refine qJ ?_
 refine qQ ?_
 refine qZ ?_
 refine qY (qU rfl) rfl rfl rfl ?_
 refine qY (qQW rfl (by first | exact qJZ ⟨by omega, by omega⟩ | rfl)) rfl rfl rfl ?_
 refine qY (qX rfl) rfl rfl rfl ?_
 refine qJ ?_
 refine zZ ?_
 refine qQ ?_
 refine qZ ?_
 refine qY (yK rfl rfl (by first | exact zW ⟨by omega, by omega⟩ | rfl)) rfl rfl rfl ?_
 refine qY (qU rfl) rfl rfl rfl ?_
 refine qJ ?_
 refine jJ ?_
 refine kZ ?_
 refine qK ?_
 refine uZ (ks := [2, 3, 4, 7, 8, 9]) rfl ?_
 refine qZ ?_
 refine qY (kX rfl rfl) rfl rfl rfl ?_
 refine qJ ?_
 refine qQ ?_
 refine qK ?_
 refine yX rfl (by decide) ?_
 refine yZ ?_
 refine qQ ?_
 refine qK ?_
 refine yJ ?_
 refine qK ?_
 refine qZ ?_
 refine qY (kW sl92 rfl rfl (by first | decide | omega) (by first | decide | omega)) rfl rfl rfl ?_
 refine qY (uK ty2 rfl (uQ hb) (by rw [qYY hb]; rfl)) rfl rfl rfl ?_
 refine qY (qX rfl) rfl rfl rfl ?_
 refine qJ ?_
 refine qQ ?_
 refine qK ?_
 refine qZ ?_
 refine qY (qU rfl) rfl rfl rfl ?_
 refine qY (qU rfl) rfl rfl rfl ?_
 refine qY (qU rfl) rfl rfl rfl ?_
 refine qY (jZ rfl rfl (by first | exact zW ⟨by omega, by omega⟩ | rfl)) rfl rfl rfl ?_
 refine qY (yK rfl rfl (by first | exact zW ⟨by omega, by omega⟩ | rfl)) rfl rfl rfl ?_
 refine qY (qX rfl) rfl rfl rfl ?_
 refine qJ ?_
 refine qQ ?_
 refine qZ ?_
 refine qY (qU rfl) rfl rfl rfl ?_
 refine qY (qQW rfl (by first | exact qJZ ⟨by omega, by omega⟩ | rfl)) rfl rfl rfl ?_
 refine qY (qX rfl) rfl rfl rfl ?_
 refine qJ ?_
 refine zZ ?_
 refine qQ ?_
 refine qZ ?_
 refine qY (yK rfl rfl (by first | exact zW ⟨by omega, by omega⟩ | rfl)) rfl rfl rfl ?_
 refine qY (qU rfl) rfl rfl rfl ?_
 refine qJ ?_
 refine jJ ?_
 refine kZ ?_
 refine qK ?_
 refine uZ (ks := [2, 3, 4, 7, 8, 9]) rfl ?_
 refine qZ ?_
 refine qY (kX rfl rfl) rfl rfl rfl ?_
 refine qJ ?_
 refine qQ ?_
 refine qK ?_
 refine yX rfl (by decide) ?_
 refine yZ ?_
 refine qQ ?_
 refine qK ?_
 refine yJ ?_
 refine qK ?_
 refine qZ ?_
 refine qY (kW sl92 rfl rfl (by first | decide | omega) (by first | decide | omega)) rfl rfl rfl ?_
 refine qY (uK ty2 rfl (uQ hb) (by rw [qYY hb]; rfl)) rfl rfl rfl ?_
 refine qY (qX rfl) rfl rfl rfl ?_
 refine qJ ?_
 refine qQ ?_
 refine qK ?_
 refine qZ ?_
 refine qY (qU rfl) rfl rfl rfl ?_
 refine qY (qU rfl) rfl rfl rfl ?_
 refine qY (qU rfl) rfl rfl rfl ?_
 refine qY (jZ rfl rfl (by first | exact zW ⟨by omega, by omega⟩ | rfl)) rfl rfl rfl ?_
 refine qY (yK rfl rfl (by first | exact zW ⟨by omega, by omega⟩ | rfl)) rfl rfl rfl ?_
 refine qY (qX rfl) rfl rfl rfl ?_
 refine qJ ?_
 refine qQ ?_
 refine qZ ?_
 refine qY (qU rfl) rfl rfl rfl ?_
 refine qY (qQW rfl (by first | exact qJZ ⟨by omega, by omega⟩ | rfl)) rfl rfl rfl ?_
 refine qY (qX rfl) rfl rfl rfl ?_
 refine qJ ?_
 refine zZ ?_
 refine qQ ?_
 refine qZ ?_
 refine qY (yK rfl rfl (by first | exact zW ⟨by omega, by omega⟩ | rfl)) rfl rfl rfl ?_
 refine qY (qU rfl) rfl rfl rfl ?_
 refine qJ ?_
 refine jJ ?_
 refine kZ ?_
 refine qK ?_
 refine uZ (ks := [2, 3, 4, 7, 8, 9]) rfl ?_
 refine qZ ?_
 refine qY (kX rfl rfl) rfl rfl rfl ?_
 refine qJ ?_
 refine qQ ?_
 refine qK ?_
 refine yX rfl (by decide) ?_
 refine yZ ?_
 refine qQ ?_
 refine qK ?_
 refine yJ ?_
 refine qK ?_
 refine qZ ?_
 refine qY (kW sl92 rfl rfl (by first | decide | omega) (by first | decide | omega)) rfl rfl rfl ?_
 refine qY (uK ty2 rfl (uQ hb) (by rw [qYY hb]; rfl)) rfl rfl rfl ?_
 refine qY (qX rfl) rfl rfl rfl ?_
 refine qJ ?_
 refine qQ ?_
 refine qK ?_
 refine qZ ?_
 refine qY (qU rfl) rfl rfl rfl ?_
 refine qY (qU rfl) rfl rfl rfl ?_
 refine qY (qU rfl) rfl rfl rfl ?_
 refine qY (jZ rfl rfl (by first | exact zW ⟨by omega, by omega⟩ | rfl)) rfl rfl rfl ?_
 refine qY (yK rfl rfl (by first | exact zW ⟨by omega, by omega⟩ | rfl)) rfl rfl rfl ?_
 refine qY (qX rfl) rfl rfl rfl ?_
 refine qJ ?_
 refine qQ ?_
 refine qZ ?_
 refine qY (qU rfl) rfl rfl rfl ?_
 refine qY (qQW rfl (by first | exact qJZ ⟨by omega, by omega⟩ | rfl)) rfl rfl rfl ?_
 refine qY (qX rfl) rfl rfl rfl ?_
 refine qJ ?_
 refine zZ ?_
 refine qQ ?_
 refine qZ ?_
 refine qY (yK rfl rfl (by first | exact zW ⟨by omega, by omega⟩ | rfl)) rfl rfl rfl ?_
 refine qY (qU rfl) rfl rfl rfl ?_
 refine qJ ?_
 refine jJ ?_
 refine kZ ?_
 refine qK ?_
 refine uZ (ks := [2, 3, 4, 7, 8, 9]) rfl ?_
 refine qZ ?_
 refine qY (kX rfl rfl) rfl rfl rfl ?_
 refine qJ ?_
 refine qQ ?_
 refine qK ?_
 refine yX rfl (by decide) ?_
 refine yZ ?_
 refine qQ ?_
 refine qK ?_
 refine yJ ?_
 refine qK ?_
 refine qZ ?_
 refine qY (kW sl92 rfl rfl (by first | decide | omega) (by first | decide | omega)) rfl rfl rfl ?_
 refine qY (uK ty2 rfl (uQ hb) (by rw [qYY hb]; rfl)) rfl rfl rfl ?_
 refine qY (qX rfl) rfl rfl rfl ?_
 refine qJ ?_
 refine qQ ?_
 refine qK ?_
 refine qZ ?_
 refine qY (qU rfl) rfl rfl rfl ?_
 refine qY (qU rfl) rfl rfl rfl ?_
 refine qY (qU rfl) rfl rfl rfl ?_
 refine qY (jZ rfl rfl (by first | exact zW ⟨by omega, by omega⟩ | rfl)) rfl rfl rfl ?_
 refine qY (yK rfl rfl (by first | exact zW ⟨by omega, by omega⟩ | rfl)) rfl rfl rfl ?_
 refine qY (qX rfl) rfl rfl rfl ?_
 refine qJ ?_
 refine qQ ?_
 refine qZ ?_
 refine qY (qU rfl) rfl rfl rfl ?_
 refine qY (qQW rfl (by first | exact qJZ ⟨by omega, by omega⟩ | rfl)) rfl rfl rfl ?_
 refine qY (qX rfl) rfl rfl rfl ?_
 refine qJ ?_
 refine zZ ?_
 refine qQ ?_
 refine qZ ?_
 refine qY (yK rfl rfl (by first | exact zW ⟨by omega, by omega⟩ | rfl)) rfl rfl rfl ?_
 refine qY (qU rfl) rfl rfl rfl ?_
 refine qJ ?_
 refine jJ ?_
 refine kZ ?_
 refine qK ?_
 refine uZ (ks := [2, 3, 4, 7, 8, 9]) rfl ?_
 refine qZ ?_
 refine qY (kX rfl rfl) rfl rfl rfl ?_
 refine qJ ?_
 refine qQ ?_
 refine qK ?_
 refine yX rfl (by decide) ?_
 refine yZ ?_
 refine qQ ?_
 refine qK ?_
 refine yJ ?_
 refine qK ?_
 refine qZ ?_
 refine qY (kW sl92 rfl rfl (by first | decide | omega) (by first | decide | omega)) rfl rfl rfl ?_
 refine qY (uK ty2 rfl (uQ hb) (by rw [qYY hb]; rfl)) rfl rfl rfl ?_
 refine qY (qX rfl) rfl rfl rfl ?_
 refine qJ ?_
 refine qQ ?_
 refine qK ?_
 refine qZ ?_
 refine qY (qU rfl) rfl rfl rfl ?_
 refine qY (qU rfl) rfl rfl rfl ?_
 refine qY (qU rfl) rfl rfl rfl ?_
 refine qY (jZ rfl rfl (by first | exact zW ⟨by omega, by omega⟩ | rfl)) rfl rfl rfl ?_
 refine qY (yK rfl rfl (by first | exact zW ⟨by omega, by omega⟩ | rfl)) rfl rfl rfl ?_
 refine qY (qX rfl) rfl rfl rfl ?_
 refine qJ ?_
 refine qQ ?_
 refine qZ ?_
 refine qY (qU rfl) rfl rfl rfl ?_
 refine qY (qQW rfl (by first | exact qJZ ⟨by omega, by omega⟩ | rfl)) rfl rfl rfl ?_
 refine qY (qX rfl) rfl rfl rfl ?_
 refine qJ ?_
 refine zZ ?_
 refine qQ ?_
 refine qZ ?_
 refine qY (yK rfl rfl (by first | exact zW ⟨by omega, by omega⟩ | rfl)) rfl rfl rfl ?_
 refine qY (qU rfl) rfl rfl rfl ?_
 refine qJ ?_
 refine jJ ?_
 refine kZ ?_
 refine qK ?_
 refine uZ (ks := [2, 3, 4, 7, 8, 9]) rfl ?_
 refine qZ ?_
 refine qY (kX rfl rfl) rfl rfl rfl ?_
 refine qJ ?_
 refine qQ ?_
 refine qK ?_
 refine qJX rfl (by decide) ?_
 refine qUK ?_
 refine jV ?_
 refine jV ?_
 refine uY ?_
 refine qQ ?_
 refine qK ?_
 refine qZ ?_
 refine qY (qU rfl) rfl rfl rfl ?_
 refine qY (qX rfl) rfl rfl rfl ?_
 refine qJ ?_
 refine qQ ?_
 refine zV ?_
 refine zK (rs := [.tmp 2]) rfl (resC (kQ rfl) (resN)) (congrArg (vI) (?_ : _ = x1 - x2 + x3 - x4 + x5 - x6))
 omega
theorem aSine (x : Int) (h : 0 ≤ x ∧ x ≤ 8192) (w : World) : Calls Tryz.prog 193 [.int .i64 x].toArray w (Rets (iv (sineI x)) (w)) := by
 refine zX (n := 44) Tryz.func193 rfl rfl rfl ?_
 refine qK ?_
 refine qZ ?_
 refine yQ 2 ze71 rfl rfl rfl ?_; intro b2
 refine qJ ?_
 refine qQ ?_
 refine qK ?_
 refine qZ ?_
 refine qY (qU rfl) rfl rfl rfl ?_
 refine jW (F := powV) (zQ en197 rfl (fun w _ => aPow _ (by first | omega | assumption | (unfold In64; omega) | decide) w)) rfl rfl rfl ?_; intro r9 hr9
 obtain rfl := hr9.symm
 refine qY (qU rfl) rfl rfl rfl ?_
 refine qY (qUY rfl rfl) rfl rfl rfl ?_
 refine qY (qUY rfl rfl) rfl rfl rfl ?_
 refine yQ 3 ze202 rfl rfl rfl ?_; intro b3
 refine yQ 4 ze202 rfl rfl rfl ?_; intro b4
 refine qG 3 ty202 rfl rfl rfl rfl rfl rfl rfl rfl ?_
 refine qG 4 ty202 rfl rfl rfl rfl rfl rfl rfl rfl ?_
 refine qJ ?_
 refine qQ ?_
 refine qK ?_
 have d1 := qYK h 1
 have d2 := qYK h 2
 have d3 := qYK h 3
 have d4 := qYK h 4
 have d5 := qYK h 5
 have d6 := qYK h 6
 have d7 := qYK h 7
 have d8 := qYK h 8
 have u1 := qZQ h 1
 have u2 := qZQ h 2
 have u3 := qZQ h 3
 have u4 := qZQ h 4
 have u5 := qZQ h 5
 have u6 := qZQ h 6
 have u7 := qZQ h 7
 have u8 := qZQ h 8
 have u9 := qZQ h 9
 have u10 := qZQ h 10
 refine yY 13 mo (by kernel_rfl) ?_
 simp only [List.take_succ_cons, List.take_zero, List.drop_succ_cons, List.drop_zero]
 refine qH (qW ar202 rfl rfl (by first | decide | omega) (by first | decide | omega)) rfl rfl rfl ?_
 refine qH (zY 3 ty2 rfl rfl rfl) rfl rfl rfl ?_
 refine qH (qW ar202 rfl rfl (by first | decide | omega) (by first | decide | omega)) rfl rfl rfl ?_
 refine qH (zY 4 ty2 rfl rfl rfl) rfl rfl rfl ?_
 refine yV (F := vI) (zQ en199 rfl (fun w _ => aCeil _ _ (by first | omega | assumption | (unfold In64; omega) | decide) (by first | omega | assumption | (unfold In64; omega) | decide) w)) rfl rfl rfl ?_; intro r16 hr16
 have qr16 := kV hr16 (by omega) (by omega)
 refine qH (qW ar202 rfl rfl (by first | decide | omega) (by first | decide | omega)) rfl rfl rfl ?_
 refine qH (zY 3 ty2 rfl rfl rfl) rfl rfl rfl ?_
 refine qH (qJQ rfl rfl (by first | decide | omega) (by first | exact (congrArg _ (qJG (by omega) (by omega))).trans (zW ⟨by omega, by omega⟩) | rfl)) rfl rfl rfl ?_
 refine qH (qW ar202 rfl rfl (by first | decide | omega) (by first | decide | omega)) rfl rfl rfl ?_
 refine qH (zY 4 ty2 rfl rfl rfl) rfl rfl rfl ?_
 refine yV (F := vI) (zQ en199 rfl (fun w _ => aCeil _ _ (by first | omega | assumption | (unfold In64; omega) | decide) (by first | omega | assumption | (unfold In64; omega) | decide) w)) rfl rfl rfl ?_; intro r22 hr22
 have qr22 := kV hr22 (by omega) (by omega)
 refine doG_bslice sl92 ze2 rfl rfl rfl rfl rfl rfl rfl rfl rfl ?_
 refine doG_callG (F := vI) 23 en198 rfl (fun u => rfl) (fun u w _ hT => (by obtain ⟨bb, rfl, _, _, hb⟩ := hT; exact alt4 bb _ _ _ _ (by omega) (by omega) (by omega) (by omega) w hb)) (fun u => rfl) (by decide) rfl ?_; intro r24 hr24
 refine jX ?_
 refine tail_ghost ?_; intro u23
 refine yU ?_
 refine qY (qX rfl) rfl rfl rfl ?_
 refine qJ ?_
 refine qQ ?_
 refine qK ?_
 refine yY 16 mo (by kernel_rfl) ?_
 simp only [List.take_succ_cons, List.take_zero, List.drop_succ_cons, List.drop_zero]
 refine qH (qW ar202 rfl rfl (by first | decide | omega) (by first | decide | omega)) rfl rfl rfl ?_
 refine qH (zY 4 ty2 rfl rfl rfl) rfl rfl rfl ?_
 refine qH (qW ar202 rfl rfl (by first | decide | omega) (by first | decide | omega)) rfl rfl rfl ?_
 refine qH (zY 3 ty2 rfl rfl rfl) rfl rfl rfl ?_
 refine qH (qJQ rfl rfl (by first | decide | omega) (by first | exact (congrArg _ (qJG (by omega) (by omega))).trans (zW ⟨by omega, by omega⟩) | rfl)) rfl rfl rfl ?_
 refine qH (qW ar202 rfl rfl (by first | decide | omega) (by first | decide | omega)) rfl rfl rfl ?_
 refine qH (zY 4 ty2 rfl rfl rfl) rfl rfl rfl ?_
 refine yV (F := vI) (zQ en199 rfl (fun w _ => aCeil _ _ (by first | omega | assumption | (unfold In64; omega) | decide) (by first | omega | assumption | (unfold In64; omega) | decide) w)) rfl rfl rfl ?_; intro r32 hr32
 have qr32 := kV hr32 (by omega) (by omega)
 refine qH (qW ar202 rfl rfl (by first | decide | omega) (by first | decide | omega)) rfl rfl rfl ?_
 refine qH (zY 3 ty2 rfl rfl rfl) rfl rfl rfl ?_
 refine qH (qJQ rfl rfl (by first | decide | omega) (by first | exact (congrArg _ (qJG (by omega) (by omega))).trans (zW ⟨by omega, by omega⟩) | rfl)) rfl rfl rfl ?_
 refine qH (qW ar202 rfl rfl (by first | decide | omega) (by first | decide | omega)) rfl rfl rfl ?_
 refine qH (zY 4 ty2 rfl rfl rfl) rfl rfl rfl ?_
 refine yV (F := vI) (zQ en199 rfl (fun w _ => aCeil _ _ (by first | omega | assumption | (unfold In64; omega) | decide) (by first | omega | assumption | (unfold In64; omega) | decide) w)) rfl rfl rfl ?_; intro r38 hr38
 have qr38 := kV hr38 (by omega) (by omega)
 refine doG_bslice sl92 ze2 rfl rfl rfl rfl rfl rfl rfl rfl rfl ?_
 refine doG_callG (F := vI) 39 en198 rfl (fun u => rfl) (fun u w _ hT => (by obtain ⟨bb, rfl, _, _, hb⟩ := hT; exact alt5 bb _ _ _ _ _ (by omega) (by omega) (by omega) (by omega) (by omega) w hb)) (fun u => rfl) (by decide) rfl ?_; intro r40 hr40
 refine jX ?_
 refine tail_ghost ?_; intro u39
 refine yU ?_
 refine qY (qX rfl) rfl rfl rfl ?_
 refine qJ ?_
 refine qQ ?_
 refine qK ?_
 refine qZ ?_
 refine qY (qU rfl) rfl rfl rfl ?_
 refine qY (qU rfl) rfl rfl rfl ?_
 refine jW (F := iv) (zQ en200 rfl (fun w _ => aEnc _ _ (by unfold In64; omega) w)) rfl rfl rfl ?_; intro r43 hr43
 refine qG 2 ty71 rfl rfl rfl rfl rfl rfl rfl rfl ?_
 refine qJ ?_
 refine qQ ?_
 refine zV ?_
 refine zK (rs := [.cell 2 71]) rfl (resC (zU 2 rfl rfl ty71 rfl) (resN)) (congrArg (iv) (?_ : ⟨_, _⟩ = sineI x))
 subst_vars; rfl
theorem aCosine (x : Int) (h : 0 ≤ x ∧ x ≤ 8192) (w : World) : Calls Tryz.prog 194 [.int .i64 x].toArray w (Rets (iv (cosineI x)) (w)) := by
 refine zX (n := 46) Tryz.func194 rfl rfl rfl ?_
 refine qK ?_
 refine qZ ?_
 refine yQ 2 ze71 rfl rfl rfl ?_; intro b2
 refine qJ ?_
 refine qQ ?_
 refine qK ?_
 refine qZ ?_
 refine qY (qU rfl) rfl rfl rfl ?_
 refine jW (F := powV) (zQ en197 rfl (fun w _ => aPow _ (by first | omega | assumption | (unfold In64; omega) | decide) w)) rfl rfl rfl ?_; intro r9 hr9
 obtain rfl := hr9.symm
 refine qY (qU rfl) rfl rfl rfl ?_
 refine qY (qUY rfl rfl) rfl rfl rfl ?_
 refine qY (qUY rfl rfl) rfl rfl rfl ?_
 refine yQ 3 ze202 rfl rfl rfl ?_; intro b3
 refine yQ 4 ze202 rfl rfl rfl ?_; intro b4
 refine qG 3 ty202 rfl rfl rfl rfl rfl rfl rfl rfl ?_
 refine qG 4 ty202 rfl rfl rfl rfl rfl rfl rfl rfl ?_
 refine qJ ?_
 refine qQ ?_
 refine qK ?_
 have d1 := qYK h 1
 have d2 := qYK h 2
 have d3 := qYK h 3
 have d4 := qYK h 4
 have d5 := qYK h 5
 have d6 := qYK h 6
 have d7 := qYK h 7
 have d8 := qYK h 8
 have u1 := qZQ h 1
 have u2 := qZQ h 2
 have u3 := qZQ h 3
 have u4 := qZQ h 4
 have u5 := qZQ h 5
 have u6 := qZQ h 6
 have u7 := qZQ h 7
 have u8 := qZQ h 8
 have u9 := qZQ h 9
 have u10 := qZQ h 10
 refine yY 17 mo (by kernel_rfl) ?_
 simp only [List.take_succ_cons, List.take_zero, List.drop_succ_cons, List.drop_zero]
 refine qH (qW ar202 rfl rfl (by first | decide | omega) (by first | decide | omega)) rfl rfl rfl ?_
 refine qH (zY 4 ty2 rfl rfl rfl) rfl rfl rfl ?_
 refine yV (F := vI) (zQ en199 rfl (fun w _ => aCeil _ _ (by first | omega | assumption | (unfold In64; omega) | decide) (by first | omega | assumption | (unfold In64; omega) | decide) w)) rfl rfl rfl ?_; intro r14 hr14
 have qr14 := kV hr14 (by omega) (by omega)
 refine qH (qW ar202 rfl rfl (by first | decide | omega) (by first | decide | omega)) rfl rfl rfl ?_
 refine qH (zY 3 ty2 rfl rfl rfl) rfl rfl rfl ?_
 refine qH (qJQ rfl rfl (by first | decide | omega) (by first | exact (congrArg _ (qJG (by omega) (by omega))).trans (zW ⟨by omega, by omega⟩) | rfl)) rfl rfl rfl ?_
 refine qH (qW ar202 rfl rfl (by first | decide | omega) (by first | decide | omega)) rfl rfl rfl ?_
 refine qH (zY 4 ty2 rfl rfl rfl) rfl rfl rfl ?_
 refine yV (F := vI) (zQ en199 rfl (fun w _ => aCeil _ _ (by first | omega | assumption | (unfold In64; omega) | decide) (by first | omega | assumption | (unfold In64; omega) | decide) w)) rfl rfl rfl ?_; intro r20 hr20
 have qr20 := kV hr20 (by omega) (by omega)
 refine qH (qW ar202 rfl rfl (by first | decide | omega) (by first | decide | omega)) rfl rfl rfl ?_
 refine qH (zY 3 ty2 rfl rfl rfl) rfl rfl rfl ?_
 refine qH (qJQ rfl rfl (by first | decide | omega) (by first | exact (congrArg _ (qJG (by omega) (by omega))).trans (zW ⟨by omega, by omega⟩) | rfl)) rfl rfl rfl ?_
 refine qH (qW ar202 rfl rfl (by first | decide | omega) (by first | decide | omega)) rfl rfl rfl ?_
 refine qH (zY 4 ty2 rfl rfl rfl) rfl rfl rfl ?_
 refine yV (F := vI) (zQ en199 rfl (fun w _ => aCeil _ _ (by first | omega | assumption | (unfold In64; omega) | decide) (by first | omega | assumption | (unfold In64; omega) | decide) w)) rfl rfl rfl ?_; intro r26 hr26
 have qr26 := kV hr26 (by omega) (by omega)
 refine doG_bslice sl92 ze2 rfl rfl rfl rfl rfl rfl rfl rfl rfl ?_
 refine doG_callG (F := vI) 27 en198 rfl (fun u => rfl) (fun u w _ hT => (by obtain ⟨bb, rfl, _, _, hb⟩ := hT; exact alt6 bb _ _ _ _ _ _ (by omega) (by omega) (by omega) (by omega) (by omega) (by omega) w hb)) (fun u => rfl) (by decide) rfl ?_; intro r28 hr28
 refine jX ?_
 refine tail_ghost ?_; intro u27
 refine yU ?_
 refine qY (qX rfl) rfl rfl rfl ?_
 refine qJ ?_
 refine qQ ?_
 refine qK ?_
 refine yY 14 mo (by kernel_rfl) ?_
 simp only [List.take_succ_cons, List.take_zero, List.drop_succ_cons, List.drop_zero]
 refine qH (qW ar202 rfl rfl (by first | decide | omega) (by first | decide | omega)) rfl rfl rfl ?_
 refine qH (zY 3 ty2 rfl rfl rfl) rfl rfl rfl ?_
 refine qH (qJQ rfl rfl (by first | decide | omega) (by first | exact (congrArg _ (qJG (by omega) (by omega))).trans (zW ⟨by omega, by omega⟩) | rfl)) rfl rfl rfl ?_
 refine qH (qW ar202 rfl rfl (by first | decide | omega) (by first | decide | omega)) rfl rfl rfl ?_
 refine qH (zY 4 ty2 rfl rfl rfl) rfl rfl rfl ?_
 refine yV (F := vI) (zQ en199 rfl (fun w _ => aCeil _ _ (by first | omega | assumption | (unfold In64; omega) | decide) (by first | omega | assumption | (unfold In64; omega) | decide) w)) rfl rfl rfl ?_; intro r34 hr34
 have qr34 := kV hr34 (by omega) (by omega)
 refine qH (qW ar202 rfl rfl (by first | decide | omega) (by first | decide | omega)) rfl rfl rfl ?_
 refine qH (zY 3 ty2 rfl rfl rfl) rfl rfl rfl ?_
 refine qH (qJQ rfl rfl (by first | decide | omega) (by first | exact (congrArg _ (qJG (by omega) (by omega))).trans (zW ⟨by omega, by omega⟩) | rfl)) rfl rfl rfl ?_
 refine qH (qW ar202 rfl rfl (by first | decide | omega) (by first | decide | omega)) rfl rfl rfl ?_
 refine qH (zY 4 ty2 rfl rfl rfl) rfl rfl rfl ?_
 refine yV (F := vI) (zQ en199 rfl (fun w _ => aCeil _ _ (by first | omega | assumption | (unfold In64; omega) | decide) (by first | omega | assumption | (unfold In64; omega) | decide) w)) rfl rfl rfl ?_; intro r40 hr40
 have qr40 := kV hr40 (by omega) (by omega)
 refine doG_bslice sl92 ze2 rfl rfl rfl rfl rfl rfl rfl rfl rfl ?_
 refine doG_callG (F := vI) 41 en198 rfl (fun u => rfl) (fun u w _ hT => (by obtain ⟨bb, rfl, _, _, hb⟩ := hT; exact alt5 bb _ _ _ _ _ (by omega) (by omega) (by omega) (by omega) (by omega) w hb)) (fun u => rfl) (by decide) rfl ?_; intro r42 hr42
 refine jX ?_
 refine tail_ghost ?_; intro u41
 refine yU ?_
 refine qY (qX rfl) rfl rfl rfl ?_
 refine qJ ?_
 refine qQ ?_
 refine qK ?_
 refine qZ ?_
 refine qY (qU rfl) rfl rfl rfl ?_
 refine qY (qU rfl) rfl rfl rfl ?_
 refine jW (F := iv) (zQ en200 rfl (fun w _ => aEnc _ _ (by unfold In64; omega) w)) rfl rfl rfl ?_; intro r45 hr45
 refine qG 2 ty71 rfl rfl rfl rfl rfl rfl rfl rfl ?_
 refine qJ ?_
 refine qQ ?_
 refine zV ?_
 refine zK (rs := [.cell 2 71]) rfl (resC (zU 2 rfl rfl ty71 rfl) (resN)) (congrArg (iv) (?_ : ⟨_, _⟩ = cosineI x))
 subst_vars; rfl
theorem rSine (x : Int) (h : 0 ≤ x ∧ x ≤ 8192) (w : World) : Calls Tryz.prog 190 [.int .i64 x].toArray w (Rets (iv (sineI x)) (w)) := by
 refine zX (n := 47) Tryz.func190 rfl rfl rfl ?_
 refine qK ?_
 refine qZ ?_
 refine yQ 2 ze71 rfl rfl rfl ?_; intro b2
 refine qJ ?_
 refine qQ ?_
 refine qK ?_
 refine qZ ?_
 refine qY (qU rfl) rfl rfl rfl ?_
 refine jW (F := powR) (zQ en195 rfl (fun w _ => rPow _ (by first | omega | assumption | (unfold In64; omega) | decide) w)) rfl rfl rfl ?_; intro r9 hr9
 obtain rfl := hr9.symm
 refine qY (qU rfl) rfl rfl rfl ?_
 refine qY (qUY rfl rfl) rfl rfl rfl ?_
 refine qY (qUY rfl rfl) rfl rfl rfl ?_
 refine yQ 3 ze199 rfl rfl rfl ?_; intro b3
 refine yQ 4 ze199 rfl rfl rfl ?_; intro b4
 refine qG 3 ty199 rfl rfl rfl rfl rfl rfl rfl rfl ?_
 refine qG 4 ty199 rfl rfl rfl rfl rfl rfl rfl rfl ?_
 refine qJ ?_
 refine qQ ?_
 refine qK ?_
 have d1 := qYK h 1
 have d2 := qYK h 2
 have d3 := qYK h 3
 have d4 := qYK h 4
 have d5 := qYK h 5
 have d6 := qYK h 6
 have d7 := qYK h 7
 have d8 := qYK h 8
 have u1 := qZQ h 1
 have u2 := qZQ h 2
 have u3 := qZQ h 3
 have u4 := qZQ h 4
 have u5 := qZQ h 5
 have u6 := qZQ h 6
 have u7 := qZQ h 7
 have u8 := qZQ h 8
 have u9 := qZQ h 9
 have u10 := qZQ h 10
 refine yY 14 mo (by kernel_rfl) ?_
 simp only [List.take_succ_cons, List.take_zero, List.drop_succ_cons, List.drop_zero]
 refine qH (qW ar199 rfl rfl (by first | decide | omega) (by first | decide | omega)) rfl rfl rfl ?_
 refine qH (zY 3 ty2 rfl rfl rfl) rfl rfl rfl ?_
 refine qH (qW ar199 rfl rfl (by first | decide | omega) (by first | decide | omega)) rfl rfl rfl ?_
 refine qH (zY 4 ty2 rfl rfl rfl) rfl rfl rfl ?_
 refine yV (F := vI) (zQ en150 rfl (fun w _ => rCeil _ _ (by first | omega | assumption | (unfold In64; omega) | decide) (by first | omega | assumption | (unfold In64; omega) | decide) w)) rfl rfl rfl ?_; intro r16 hr16
 have qr16 := kV hr16 (by omega) (by omega)
 refine qH (jG rfl rfl (by first | exact zW ⟨by omega, by omega⟩ | rfl)) rfl rfl rfl ?_
 refine qH (qW ar199 rfl rfl (by first | decide | omega) (by first | decide | omega)) rfl rfl rfl ?_
 refine qH (zY 3 ty2 rfl rfl rfl) rfl rfl rfl ?_
 refine yV (F := vI) (zQ en149 rfl (fun w _ => qVW _ _ (by first | omega | assumption | (unfold In64; omega) | decide) (by first | omega | assumption | (unfold In64; omega) | decide) w)) rfl rfl rfl ?_; intro r20 hr20
 have qr20 := div_bnd_of hr20 (by omega) (by omega)
 refine qH (yK rfl rfl (by first | exact zW ⟨by omega, by omega⟩ | rfl)) rfl rfl rfl ?_
 refine qH (qW ar199 rfl rfl (by first | decide | omega) (by first | decide | omega)) rfl rfl rfl ?_
 refine qH (zY 4 ty2 rfl rfl rfl) rfl rfl rfl ?_
 refine yV (F := vI) (zQ en150 rfl (fun w _ => rCeil _ _ (by first | omega | assumption | (unfold In64; omega) | decide) (by first | omega | assumption | (unfold In64; omega) | decide) w)) rfl rfl rfl ?_; intro r24 hr24
 have qr24 := kV hr24 (by omega) (by omega)
 refine qH (jG rfl rfl (by first | exact zW ⟨by omega, by omega⟩ | rfl)) rfl rfl rfl ?_
 refine jX ?_
 refine yU ?_
 refine qY (qX rfl) rfl rfl rfl ?_
 refine qJ ?_
 refine qQ ?_
 refine qK ?_
 refine yY 18 mo (by kernel_rfl) ?_
 simp only [List.take_succ_cons, List.take_zero, List.drop_succ_cons, List.drop_zero]
 refine qH (qW ar199 rfl rfl (by first | decide | omega) (by first | decide | omega)) rfl rfl rfl ?_
 refine qH (zY 4 ty2 rfl rfl rfl) rfl rfl rfl ?_
 refine qH (qW ar199 rfl rfl (by first | decide | omega) (by first | decide | omega)) rfl rfl rfl ?_
 refine qH (zY 3 ty2 rfl rfl rfl) rfl rfl rfl ?_
 refine yV (F := vI) (zQ en149 rfl (fun w _ => qVW _ _ (by first | omega | assumption | (unfold In64; omega) | decide) (by first | omega | assumption | (unfold In64; omega) | decide) w)) rfl rfl rfl ?_; intro r30 hr30
 have qr30 := div_bnd_of hr30 (by omega) (by omega)
 refine qH (jG rfl rfl (by first | exact zW ⟨by omega, by omega⟩ | rfl)) rfl rfl rfl ?_
 refine qH (qW ar199 rfl rfl (by first | decide | omega) (by first | decide | omega)) rfl rfl rfl ?_
 refine qH (zY 4 ty2 rfl rfl rfl) rfl rfl rfl ?_
 refine yV (F := vI) (zQ en150 rfl (fun w _ => rCeil _ _ (by first | omega | assumption | (unfold In64; omega) | decide) (by first | omega | assumption | (unfold In64; omega) | decide) w)) rfl rfl rfl ?_; intro r34 hr34
 have qr34 := kV hr34 (by omega) (by omega)
 refine qH (yK rfl rfl (by first | exact zW ⟨by omega, by omega⟩ | rfl)) rfl rfl rfl ?_
 refine qH (qW ar199 rfl rfl (by first | decide | omega) (by first | decide | omega)) rfl rfl rfl ?_
 refine qH (zY 3 ty2 rfl rfl rfl) rfl rfl rfl ?_
 refine yV (F := vI) (zQ en149 rfl (fun w _ => qVW _ _ (by first | omega | assumption | (unfold In64; omega) | decide) (by first | omega | assumption | (unfold In64; omega) | decide) w)) rfl rfl rfl ?_; intro r38 hr38
 have qr38 := div_bnd_of hr38 (by omega) (by omega)
 refine qH (jG rfl rfl (by first | exact zW ⟨by omega, by omega⟩ | rfl)) rfl rfl rfl ?_
 refine qH (qW ar199 rfl rfl (by first | decide | omega) (by first | decide | omega)) rfl rfl rfl ?_
 refine qH (zY 4 ty2 rfl rfl rfl) rfl rfl rfl ?_
 refine yV (F := vI) (zQ en150 rfl (fun w _ => rCeil _ _ (by first | omega | assumption | (unfold In64; omega) | decide) (by first | omega | assumption | (unfold In64; omega) | decide) w)) rfl rfl rfl ?_; intro r42 hr42
 have qr42 := kV hr42 (by omega) (by omega)
 refine qH (yK rfl rfl (by first | exact zW ⟨by omega, by omega⟩ | rfl)) rfl rfl rfl ?_
 refine jX ?_
 refine yU ?_
 refine qY (qX rfl) rfl rfl rfl ?_
 refine qJ ?_
 refine qQ ?_
 refine qK ?_
 refine qZ ?_
 refine qY (qU rfl) rfl rfl rfl ?_
 refine qY (qU rfl) rfl rfl rfl ?_
 refine jW (F := iv) (zQ en196 rfl (fun w _ => rEnc _ _ (by first | omega | assumption | (unfold In64; omega) | decide) (by first | omega | assumption | (unfold In64; omega) | decide) w)) rfl rfl rfl ?_; intro r46 hr46
 refine qG 2 ty71 rfl rfl rfl rfl rfl rfl rfl rfl ?_
 refine qJ ?_
 refine qQ ?_
 refine zV ?_
 refine zK (rs := [.cell 2 71]) rfl (resC (zU 2 rfl rfl ty71 rfl) (resN)) (congrArg (iv) (?_ : ⟨_, _⟩ = sineI x))
 subst_vars; rfl
theorem rCosine (x : Int) (h : 0 ≤ x ∧ x ≤ 8192) (w : World) : Calls Tryz.prog 191 [.int .i64 x].toArray w (Rets (iv (cosineI x)) (w)) := by
 refine zX (n := 51) Tryz.func191 rfl rfl rfl ?_
 refine qK ?_
 refine qZ ?_
 refine yQ 2 ze71 rfl rfl rfl ?_; intro b2
 refine qJ ?_
 refine qQ ?_
 refine qK ?_
 refine qZ ?_
 refine qY (qU rfl) rfl rfl rfl ?_
 refine jW (F := powR) (zQ en195 rfl (fun w _ => rPow _ (by first | omega | assumption | (unfold In64; omega) | decide) w)) rfl rfl rfl ?_; intro r9 hr9
 obtain rfl := hr9.symm
 refine qY (qU rfl) rfl rfl rfl ?_
 refine qY (qUY rfl rfl) rfl rfl rfl ?_
 refine qY (qUY rfl rfl) rfl rfl rfl ?_
 refine yQ 3 ze199 rfl rfl rfl ?_; intro b3
 refine yQ 4 ze199 rfl rfl rfl ?_; intro b4
 refine qG 3 ty199 rfl rfl rfl rfl rfl rfl rfl rfl ?_
 refine qG 4 ty199 rfl rfl rfl rfl rfl rfl rfl rfl ?_
 refine qJ ?_
 refine qQ ?_
 refine qK ?_
 have d1 := qYK h 1
 have d2 := qYK h 2
 have d3 := qYK h 3
 have d4 := qYK h 4
 have d5 := qYK h 5
 have d6 := qYK h 6
 have d7 := qYK h 7
 have d8 := qYK h 8
 have u1 := qZQ h 1
 have u2 := qZQ h 2
 have u3 := qZQ h 3
 have u4 := qZQ h 4
 have u5 := qZQ h 5
 have u6 := qZQ h 6
 have u7 := qZQ h 7
 have u8 := qZQ h 8
 have u9 := qZQ h 9
 have u10 := qZQ h 10
 refine yY 20 mo (by kernel_rfl) ?_
 simp only [List.take_succ_cons, List.take_zero, List.drop_succ_cons, List.drop_zero]
 refine qH (qW ar199 rfl rfl (by first | decide | omega) (by first | decide | omega)) rfl rfl rfl ?_
 refine qH (zY 4 ty2 rfl rfl rfl) rfl rfl rfl ?_
 refine yV (F := vI) (zQ en150 rfl (fun w _ => rCeil _ _ (by first | omega | assumption | (unfold In64; omega) | decide) (by first | omega | assumption | (unfold In64; omega) | decide) w)) rfl rfl rfl ?_; intro r14 hr14
 have qr14 := kV hr14 (by omega) (by omega)
 refine qH (jG rfl rfl (by first | exact zW ⟨by omega, by omega⟩ | rfl)) rfl rfl rfl ?_
 refine qH (qW ar199 rfl rfl (by first | decide | omega) (by first | decide | omega)) rfl rfl rfl ?_
 refine qH (zY 3 ty2 rfl rfl rfl) rfl rfl rfl ?_
 refine yV (F := vI) (zQ en149 rfl (fun w _ => qVW _ _ (by first | omega | assumption | (unfold In64; omega) | decide) (by first | omega | assumption | (unfold In64; omega) | decide) w)) rfl rfl rfl ?_; intro r18 hr18
 have qr18 := div_bnd_of hr18 (by omega) (by omega)
 refine qH (yK rfl rfl (by first | exact zW ⟨by omega, by omega⟩ | rfl)) rfl rfl rfl ?_
 refine qH (qW ar199 rfl rfl (by first | decide | omega) (by first | decide | omega)) rfl rfl rfl ?_
 refine qH (zY 4 ty2 rfl rfl rfl) rfl rfl rfl ?_
 refine yV (F := vI) (zQ en150 rfl (fun w _ => rCeil _ _ (by first | omega | assumption | (unfold In64; omega) | decide) (by first | omega | assumption | (unfold In64; omega) | decide) w)) rfl rfl rfl ?_; intro r22 hr22
 have qr22 := kV hr22 (by omega) (by omega)
 refine qH (jG rfl rfl (by first | exact zW ⟨by omega, by omega⟩ | rfl)) rfl rfl rfl ?_
 refine qH (qW ar199 rfl rfl (by first | decide | omega) (by first | decide | omega)) rfl rfl rfl ?_
 refine qH (zY 3 ty2 rfl rfl rfl) rfl rfl rfl ?_
 refine yV (F := vI) (zQ en149 rfl (fun w _ => qVW _ _ (by first | omega | assumption | (unfold In64; omega) | decide) (by first | omega | assumption | (unfold In64; omega) | decide) w)) rfl rfl rfl ?_; intro r26 hr26
 have qr26 := div_bnd_of hr26 (by omega) (by omega)
 refine qH (yK rfl rfl (by first | exact zW ⟨by omega, by omega⟩ | rfl)) rfl rfl rfl ?_
 refine qH (qW ar199 rfl rfl (by first | decide | omega) (by first | decide | omega)) rfl rfl rfl ?_
 refine qH (zY 4 ty2 rfl rfl rfl) rfl rfl rfl ?_
 refine yV (F := vI) (zQ en150 rfl (fun w _ => rCeil _ _ (by first | omega | assumption | (unfold In64; omega) | decide) (by first | omega | assumption | (unfold In64; omega) | decide) w)) rfl rfl rfl ?_; intro r30 hr30
 have qr30 := kV hr30 (by omega) (by omega)
 refine qH (jG rfl rfl (by first | exact zW ⟨by omega, by omega⟩ | rfl)) rfl rfl rfl ?_
 refine jX ?_
 refine yU ?_
 refine qY (qX rfl) rfl rfl rfl ?_
 refine qJ ?_
 refine qQ ?_
 refine qK ?_
 refine yY 16 mo (by kernel_rfl) ?_
 simp only [List.take_succ_cons, List.take_zero, List.drop_succ_cons, List.drop_zero]
 refine qH (qW ar199 rfl rfl (by first | decide | omega) (by first | decide | omega)) rfl rfl rfl ?_
 refine qH (zY 3 ty2 rfl rfl rfl) rfl rfl rfl ?_
 refine yV (F := vI) (zQ en149 rfl (fun w _ => qVW _ _ (by first | omega | assumption | (unfold In64; omega) | decide) (by first | omega | assumption | (unfold In64; omega) | decide) w)) rfl rfl rfl ?_; intro r34 hr34
 have qr34 := div_bnd_of hr34 (by omega) (by omega)
 refine qH (jG rfl rfl (by first | exact zW ⟨by omega, by omega⟩ | rfl)) rfl rfl rfl ?_
 refine qH (qW ar199 rfl rfl (by first | decide | omega) (by first | decide | omega)) rfl rfl rfl ?_
 refine qH (zY 4 ty2 rfl rfl rfl) rfl rfl rfl ?_
 refine yV (F := vI) (zQ en150 rfl (fun w _ => rCeil _ _ (by first | omega | assumption | (unfold In64; omega) | decide) (by first | omega | assumption | (unfold In64; omega) | decide) w)) rfl rfl rfl ?_; intro r38 hr38
 have qr38 := kV hr38 (by omega) (by omega)
 refine qH (yK rfl rfl (by first | exact zW ⟨by omega, by omega⟩ | rfl)) rfl rfl rfl ?_
 refine qH (qW ar199 rfl rfl (by first | decide | omega) (by first | decide | omega)) rfl rfl rfl ?_
 refine qH (zY 3 ty2 rfl rfl rfl) rfl rfl rfl ?_
 refine yV (F := vI) (zQ en149 rfl (fun w _ => qVW _ _ (by first | omega | assumption | (unfold In64; omega) | decide) (by first | omega | assumption | (unfold In64; omega) | decide) w)) rfl rfl rfl ?_; intro r42 hr42
 have qr42 := div_bnd_of hr42 (by omega) (by omega)
 refine qH (jG rfl rfl (by first | exact zW ⟨by omega, by omega⟩ | rfl)) rfl rfl rfl ?_
 refine qH (qW ar199 rfl rfl (by first | decide | omega) (by first | decide | omega)) rfl rfl rfl ?_
 refine qH (zY 4 ty2 rfl rfl rfl) rfl rfl rfl ?_
 refine yV (F := vI) (zQ en150 rfl (fun w _ => rCeil _ _ (by first | omega | assumption | (unfold In64; omega) | decide) (by first | omega | assumption | (unfold In64; omega) | decide) w)) rfl rfl rfl ?_; intro r46 hr46
 have qr46 := kV hr46 (by omega) (by omega)
 refine qH (yK rfl rfl (by first | exact zW ⟨by omega, by omega⟩ | rfl)) rfl rfl rfl ?_
 refine jX ?_
 refine yU ?_
 refine qY (qX rfl) rfl rfl rfl ?_
 refine qJ ?_
 refine qQ ?_
 refine qK ?_
 refine qZ ?_
 refine qY (qU rfl) rfl rfl rfl ?_
 refine qY (qU rfl) rfl rfl rfl ?_
 refine jW (F := iv) (zQ en196 rfl (fun w _ => rEnc _ _ (by first | omega | assumption | (unfold In64; omega) | decide) (by first | omega | assumption | (unfold In64; omega) | decide) w)) rfl rfl rfl ?_; intro r50 hr50
 refine qG 2 ty71 rfl rfl rfl rfl rfl rfl rfl rfl ?_
 refine qJ ?_
 refine qQ ?_
 refine zV ?_
 refine zK (rs := [.cell 2 71]) rfl (resC (zU 2 rfl rfl ty71 rfl) (resN)) (congrArg (iv) (?_ : ⟨_, _⟩ = cosineI x))
 subst_vars; rfl
theorem aFirst (r : Int) (h : 0 ≤ r ∧ r ≤ 16384) (w : World) : Calls Tryz.prog 189 [.int .i64 r].toArray w (Rets (iv (qJH r)) (w)) := by
 refine zX (n := 10) Tryz.func189 rfl rfl rfl ?_
 refine qK ?_
 refine qZ ?_
 refine yQ 2 ze71 rfl rfl rfl ?_; intro b2
 refine qJ ?_
 refine qQ ?_
 refine qK ?_
 refine qK ?_
 refine qZ ?_
 refine qY (qU rfl) rfl rfl rfl ?_
 refine qY (qZG rfl rfl) rfl rfl rfl ?_
 refine qJ ?_
 refine qQ ?_
 refine yH rfl (fun hc4 => ?_) (fun hc4 => ?_)
 ·
  have h2 := of_decide_eq_true hc4
  refine qK ?_
  refine qZ ?_
  refine qY (qU rfl) rfl rfl rfl ?_
  refine jW (F := iv) (zQ en193 rfl (fun w _ => aSine _ (by first | omega | assumption | (unfold In64; omega) | decide) w)) rfl rfl rfl ?_; intro r6 hr6
  refine qG 2 ty71 rfl rfl rfl rfl rfl rfl rfl rfl ?_
  refine qJ ?_
  refine qQ ?_
  refine zV ?_
  refine jK ?_
  refine zK (rs := [.cell 2 71]) rfl (resC (zU 2 rfl rfl ty71 rfl) (resN)) (congrArg (iv) (?_ : ⟨_, _⟩ = qJH r))
  subst_vars; unfold qJH; rw [hc4]; rfl
 ·
  have h2 := of_decide_eq_false hc4
  refine yZ ?_
  refine qQ ?_
  refine qK ?_
  refine qZ ?_
  refine qY (qU rfl) rfl rfl rfl ?_
  refine qY (jG rfl rfl (by first | exact zW ⟨by omega, by omega⟩ | rfl)) rfl rfl rfl ?_
  refine jW (F := iv) (zQ en194 rfl (fun w _ => aCosine _ (by first | omega | assumption | (unfold In64; omega) | decide) w)) rfl rfl rfl ?_; intro r9 hr9
  refine qG 2 ty71 rfl rfl rfl rfl rfl rfl rfl rfl ?_
  refine qJ ?_
  refine qQ ?_
  refine zV ?_
  refine zK (rs := [.cell 2 71]) rfl (resC (zU 2 rfl rfl ty71 rfl) (resN)) (congrArg (iv) (?_ : ⟨_, _⟩ = qJH r))
  subst_vars; unfold qJH; rw [hc4]; rfl
theorem rQuarter (r : Int) (h : 0 ≤ r ∧ r ≤ 16384) (w : World) : Calls Tryz.prog 183 [.int .i64 r].toArray w (Rets (iv (qJH r)) (w)) := by
 refine zX (n := 10) Tryz.func183 rfl rfl rfl ?_
 refine qK ?_
 refine qZ ?_
 refine yQ 2 ze71 rfl rfl rfl ?_; intro b2
 refine qJ ?_
 refine qQ ?_
 refine qK ?_
 refine qK ?_
 refine qZ ?_
 refine qY (qU rfl) rfl rfl rfl ?_
 refine qY (qZG rfl rfl) rfl rfl rfl ?_
 refine qJ ?_
 refine qQ ?_
 refine yH rfl (fun hc4 => ?_) (fun hc4 => ?_)
 ·
  have h2 := of_decide_eq_true hc4
  refine qK ?_
  refine qZ ?_
  refine qY (qU rfl) rfl rfl rfl ?_
  refine jW (F := iv) (zQ en190 rfl (fun w _ => rSine _ (by first | omega | assumption | (unfold In64; omega) | decide) w)) rfl rfl rfl ?_; intro r6 hr6
  refine qG 2 ty71 rfl rfl rfl rfl rfl rfl rfl rfl ?_
  refine qJ ?_
  refine qQ ?_
  refine zV ?_
  refine jK ?_
  refine zK (rs := [.cell 2 71]) rfl (resC (zU 2 rfl rfl ty71 rfl) (resN)) (congrArg (iv) (?_ : ⟨_, _⟩ = qJH r))
  subst_vars; unfold qJH; rw [hc4]; rfl
 ·
  have h2 := of_decide_eq_false hc4
  refine yZ ?_
  refine qQ ?_
  refine qK ?_
  refine qZ ?_
  refine qY (qU rfl) rfl rfl rfl ?_
  refine qY (jG rfl rfl (by first | exact zW ⟨by omega, by omega⟩ | rfl)) rfl rfl rfl ?_
  refine jW (F := iv) (zQ en191 rfl (fun w _ => rCosine _ (by first | omega | assumption | (unfold In64; omega) | decide) w)) rfl rfl rfl ?_; intro r9 hr9
  refine qG 2 ty71 rfl rfl rfl rfl rfl rfl rfl rfl ?_
  refine qJ ?_
  refine qQ ?_
  refine zV ?_
  refine zK (rs := [.cell 2 71]) rfl (resC (zU 2 rfl rfl ty71 rfl) (resN)) (congrArg (iv) (?_ : ⟨_, _⟩ = qJH r))
  subst_vars; unfold qJH; rw [hc4]; rfl
theorem aSin (a : Int) (w : World) : Calls Tryz.prog 179 [.int .i64 a].toArray w (Rets (iv (sinI a)) (w)) := by
 refine zX (n := 29) Tryz.func179 rfl rfl rfl ?_
 refine qK ?_
 refine qZ ?_
 refine yQ 2 ze71 rfl rfl rfl ?_; intro b2
 refine qJ ?_
 refine qQ ?_
 refine qK ?_
 refine qZ ?_
 refine qY (qU rfl) rfl rfl rfl ?_
 refine jW (F := vI) (zQ en188 rfl (fun w _ => aMod _  w)) rfl rfl rfl ?_; intro r6 hr6
 have qr6 : 0 ≤ r6 ∧ r6 < 65536 := by omega
 refine qY (qX rfl) rfl rfl rfl ?_
 refine qJ ?_
 refine qQ ?_
 refine qK ?_
 refine qZ ?_
 refine qY (qU rfl) rfl rfl rfl ?_
 refine qY (zZZ rfl rfl (by first | decide | omega) (by first | exact tmod_nonneg (by omega) (by omega) | rfl)) rfl rfl rfl ?_
 refine qY (qX rfl) rfl rfl rfl ?_
 refine qJ ?_
 refine qQ ?_
 refine qK ?_
 refine qZ ?_
 refine qY (qU rfl) rfl rfl rfl ?_
 refine qY (qJQ rfl rfl (by first | decide | omega) (by first | exact (congrArg _ (qJG (by omega) (by omega))).trans (zW ⟨by omega, by omega⟩) | rfl)) rfl rfl rfl ?_
 refine qJ ?_
 refine qQ ?_
 refine yJ ?_
 refine qK ?_
 refine qZ ?_
 refine qY (uX rfl rfl) rfl rfl rfl ?_
 refine qY (qX rfl) rfl rfl rfl ?_
 refine qJ ?_
 refine qQ ?_
 refine yH rfl (fun hc15 => ?_) (fun hc15 => ?_)
 ·
  refine qK ?_
  refine qZ ?_
  refine qY (qU rfl) rfl rfl rfl ?_
  refine jW (F := iv) (zQ en189 rfl (fun w _ => aFirst _ (by first | omega | assumption | (unfold In64; omega) | decide) w)) rfl rfl rfl ?_; intro r18 hr18
  refine qG 2 ty71 rfl rfl rfl rfl rfl rfl rfl rfl ?_
  refine qJ ?_
  refine qQ ?_
  refine zV ?_
  refine kU ?_
  refine zK (rs := [.cell 2 71]) rfl (resC (zU 2 rfl rfl ty71 rfl) (resN)) (congrArg (iv) (?_ : ⟨_, _⟩ = sinI a))
  subst_vars; first | (simp_all [sinI, sinM]; done) | (simp_all [sinI, sinM] <;> omega) | grind [sinI, sinM]
 ·
  refine qK ?_
  refine qZ ?_
  refine qY (uX rfl rfl) rfl rfl rfl ?_
  refine qY (qX rfl) rfl rfl rfl ?_
  refine qJ ?_
  refine qQ ?_
  refine yH rfl (fun hc19 => ?_) (fun hc19 => ?_)
  ·
   refine qK ?_
   refine qZ ?_
   refine qY (qU rfl) rfl rfl rfl ?_
   refine qY (jG rfl rfl (by first | exact zW ⟨by omega, by omega⟩ | rfl)) rfl rfl rfl ?_
   refine jW (F := iv) (zQ en189 rfl (fun w _ => aFirst _ (by first | omega | assumption | (unfold In64; omega) | decide) w)) rfl rfl rfl ?_; intro r23 hr23
   refine qG 2 ty71 rfl rfl rfl rfl rfl rfl rfl rfl ?_
   refine qJ ?_
   refine qQ ?_
   refine zV ?_
   refine kU ?_
   refine zK (rs := [.cell 2 71]) rfl (resC (zU 2 rfl rfl ty71 rfl) (resN)) (congrArg (iv) (?_ : ⟨_, _⟩ = sinI a))
   subst_vars; first | (simp_all [sinI, sinM]; done) | (simp_all [sinI, sinM] <;> omega) | grind [sinI, sinM]
  ·
   refine qK ?_
   refine qZ ?_
   refine qY (uX rfl rfl) rfl rfl rfl ?_
   refine qY (qX rfl) rfl rfl rfl ?_
   refine qJ ?_
   refine qQ ?_
   refine yH rfl (fun hc24 => ?_) (fun hc24 => ?_)
   ·
    refine qK ?_
    refine qZ ?_
    refine qY (qU rfl) rfl rfl rfl ?_
    refine jW (F := iv) (zQ en189 rfl (fun w _ => aFirst _ (by first | omega | assumption | (unfold In64; omega) | decide) w)) rfl rfl rfl ?_; intro r27 hr27
    refine jW (F := iv) (zQ en171 rfl (fun w _ => iNeg _ _  w)) rfl rfl rfl ?_; intro r28 hr28
    refine qG 2 ty71 rfl rfl rfl rfl rfl rfl rfl rfl ?_
    refine qJ ?_
    refine qQ ?_
    refine zV ?_
    refine kU ?_
    refine zK (rs := [.cell 2 71]) rfl (resC (zU 2 rfl rfl ty71 rfl) (resN)) (congrArg (iv) (?_ : ⟨_, _⟩ = sinI a))
    subst_vars; first | (simp_all [sinI, sinM]; done) | (simp_all [sinI, sinM] <;> omega) | grind [sinI, sinM]
   ·
    refine qK ?_
    refine qZ ?_
    refine qY (qU rfl) rfl rfl rfl ?_
    refine qY (jG rfl rfl (by first | exact zW ⟨by omega, by omega⟩ | rfl)) rfl rfl rfl ?_
    refine jW (F := iv) (zQ en189 rfl (fun w _ => aFirst _ (by first | omega | assumption | (unfold In64; omega) | decide) w)) rfl rfl rfl ?_; intro r13 hr13
    refine jW (F := iv) (zQ en171 rfl (fun w _ => iNeg _ _  w)) rfl rfl rfl ?_; intro r14 hr14
    refine qG 2 ty71 rfl rfl rfl rfl rfl rfl rfl rfl ?_
    refine qJ ?_
    refine qQ ?_
    refine zV ?_
    refine kU ?_
    refine zK (rs := [.cell 2 71]) rfl (resC (zU 2 rfl rfl ty71 rfl) (resN)) (congrArg (iv) (?_ : ⟨_, _⟩ = sinI a))
    subst_vars; first | (simp_all [sinI, sinM]; done) | (simp_all [sinI, sinM] <;> omega) | grind [sinI, sinM]
theorem rSin (a : Int) (w : World) : Calls Tryz.prog 174 [.int .i64 a].toArray w (Rets (iv (sinI a)) (w)) := by
 refine zX (n := 31) Tryz.func174 rfl rfl rfl ?_
 refine qK ?_
 refine qZ ?_
 refine yQ 2 ze71 rfl rfl rfl ?_; intro b2
 refine qJ ?_
 refine qQ ?_
 refine qK ?_
 refine qZ ?_
 refine qY (qU rfl) rfl rfl rfl ?_
 refine jW (F := vI) (zQ en182 rfl (fun w _ => rMod _  w)) rfl rfl rfl ?_; intro r7 hr7
 have qr7 : 0 ≤ r7 ∧ r7 < 65536 := by omega
 refine qY (qX rfl) rfl rfl rfl ?_
 refine qJ ?_
 refine qQ ?_
 refine qK ?_
 refine qZ ?_
 refine qY (qU rfl) rfl rfl rfl ?_
 refine qY (qJQ rfl rfl (by first | decide | omega) (by first | exact (congrArg _ (qJG (by omega) (by omega))).trans (zW ⟨by omega, by omega⟩) | rfl)) rfl rfl rfl ?_
 refine qY (qU rfl) rfl rfl rfl ?_
 refine qY (zZZ rfl rfl (by first | decide | omega) (by first | exact tmod_nonneg (by omega) (by omega) | rfl)) rfl rfl rfl ?_
 refine qY (qX rfl) rfl rfl rfl ?_
 refine qY (qX rfl) rfl rfl rfl ?_
 refine qJ ?_
 refine qQ ?_
 refine qK ?_
 refine qK ?_
 refine qZ ?_
 refine qY (qU rfl) rfl rfl rfl ?_
 refine qJ ?_
 refine qQ ?_
 refine yJ ?_
 refine qK ?_
 refine qZ ?_
 refine qY (uX rfl rfl) rfl rfl rfl ?_
 refine qY (qX rfl) rfl rfl rfl ?_
 refine qJ ?_
 refine qQ ?_
 refine yH rfl (fun hc13 => ?_) (fun hc13 => ?_)
 ·
  refine qK ?_
  refine qZ ?_
  refine qY (qU rfl) rfl rfl rfl ?_
  refine jW (F := iv) (zQ en183 rfl (fun w _ => rQuarter _ (by first | omega | assumption | (unfold In64; omega) | decide) w)) rfl rfl rfl ?_; intro r16 hr16
  refine qG 2 ty71 rfl rfl rfl rfl rfl rfl rfl rfl ?_
  refine qJ ?_
  refine qQ ?_
  refine zV ?_
  refine kU ?_
  refine jK ?_
  refine zK (rs := [.cell 2 71]) rfl (resC (zU 2 rfl rfl ty71 rfl) (resN)) (congrArg (iv) (?_ : ⟨_, _⟩ = sinI a))
  subst_vars; first | (simp_all [sinI, sinM]; done) | (simp_all [sinI, sinM] <;> omega) | grind [sinI, sinM]
 ·
  refine qK ?_
  refine qZ ?_
  refine qY (uX rfl rfl) rfl rfl rfl ?_
  refine qY (qX rfl) rfl rfl rfl ?_
  refine qJ ?_
  refine qQ ?_
  refine yH rfl (fun hc17 => ?_) (fun hc17 => ?_)
  ·
   refine qK ?_
   refine qZ ?_
   refine qY (qU rfl) rfl rfl rfl ?_
   refine qY (jG rfl rfl (by first | exact zW ⟨by omega, by omega⟩ | rfl)) rfl rfl rfl ?_
   refine jW (F := iv) (zQ en183 rfl (fun w _ => rQuarter _ (by first | omega | assumption | (unfold In64; omega) | decide) w)) rfl rfl rfl ?_; intro r21 hr21
   refine qG 2 ty71 rfl rfl rfl rfl rfl rfl rfl rfl ?_
   refine qJ ?_
   refine qQ ?_
   refine zV ?_
   refine kU ?_
   refine jK ?_
   refine zK (rs := [.cell 2 71]) rfl (resC (zU 2 rfl rfl ty71 rfl) (resN)) (congrArg (iv) (?_ : ⟨_, _⟩ = sinI a))
   subst_vars; first | (simp_all [sinI, sinM]; done) | (simp_all [sinI, sinM] <;> omega) | grind [sinI, sinM]
  ·
   refine qK ?_
   refine qZ ?_
   refine qY (uX rfl rfl) rfl rfl rfl ?_
   refine qY (qX rfl) rfl rfl rfl ?_
   refine qJ ?_
   refine qQ ?_
   refine yH rfl (fun hc22 => ?_) (fun hc22 => ?_)
   ·
    refine qK ?_
    refine qZ ?_
    refine qY (qU rfl) rfl rfl rfl ?_
    refine jW (F := iv) (zQ en183 rfl (fun w _ => rQuarter _ (by first | omega | assumption | (unfold In64; omega) | decide) w)) rfl rfl rfl ?_; intro r25 hr25
    refine jW (F := iv) (zQ en165 rfl (fun w _ => rNeg _ _  w)) rfl rfl rfl ?_; intro r26 hr26
    refine qG 2 ty71 rfl rfl rfl rfl rfl rfl rfl rfl ?_
    refine qJ ?_
    refine qQ ?_
    refine zV ?_
    refine kU ?_
    refine jK ?_
    refine zK (rs := [.cell 2 71]) rfl (resC (zU 2 rfl rfl ty71 rfl) (resN)) (congrArg (iv) (?_ : ⟨_, _⟩ = sinI a))
    subst_vars; first | (simp_all [sinI, sinM]; done) | (simp_all [sinI, sinM] <;> omega) | grind [sinI, sinM]
   ·
    refine yZ ?_
    refine zZ ?_
    refine qQ ?_
    refine qK ?_
    refine qZ ?_
    refine qY (qU rfl) rfl rfl rfl ?_
    refine qY (jG rfl rfl (by first | exact zW ⟨by omega, by omega⟩ | rfl)) rfl rfl rfl ?_
    refine jW (F := iv) (zQ en183 rfl (fun w _ => rQuarter _ (by first | omega | assumption | (unfold In64; omega) | decide) w)) rfl rfl rfl ?_; intro r29 hr29
    refine jW (F := iv) (zQ en165 rfl (fun w _ => rNeg _ _  w)) rfl rfl rfl ?_; intro r30 hr30
    refine qG 2 ty71 rfl rfl rfl rfl rfl rfl rfl rfl ?_
    refine qJ ?_
    refine qQ ?_
    refine zV ?_
    refine zK (rs := [.cell 2 71]) rfl (resC (zU 2 rfl rfl ty71 rfl) (resN)) (congrArg (iv) (?_ : ⟨_, _⟩ = sinI a))
    subst_vars; first | (simp_all [sinI, sinM]; done) | (simp_all [sinI, sinM] <;> omega) | grind [sinI, sinM]
theorem aCos (a : Int) (w : World) : Calls Tryz.prog 178 [.int .i64 a].toArray w (Rets (iv (cosI a)) (w)) := by
 refine zX (n := 7) Tryz.func178 rfl rfl rfl ?_
 refine qK ?_
 refine qZ ?_
 refine yQ 2 ze71 rfl rfl rfl ?_; intro b2
 refine qJ ?_
 refine qQ ?_
 refine qK ?_
 refine qZ ?_
 refine qY (qU rfl) rfl rfl rfl ?_
 refine jW (F := vI) (zQ en188 rfl (fun w _ => aMod _  w)) rfl rfl rfl ?_; intro r4 hr4
 have qr4 : 0 ≤ r4 ∧ r4 < 65536 := by omega
 refine qY (yK rfl rfl (by first | exact zW ⟨by omega, by omega⟩ | rfl)) rfl rfl rfl ?_
 refine jW (F := iv) (zQ en179 rfl (fun w _ => aSin _  w)) rfl rfl rfl ?_; intro r6 hr6
 refine qG 2 ty71 rfl rfl rfl rfl rfl rfl rfl rfl ?_
 refine qJ ?_
 refine qQ ?_
 refine zV ?_
 refine zK (rs := [.cell 2 71]) rfl (resC (zU 2 rfl rfl ty71 rfl) (resN)) (congrArg (iv) (?_ : ⟨_, _⟩ = cosI a))
 subst_vars; first | (simp_all [cosI]; done) | (simp_all [cosI] <;> omega) | grind [cosI]
theorem rCos (a : Int) (w : World) : Calls Tryz.prog 173 [.int .i64 a].toArray w (Rets (iv (cosI a)) (w)) := by
 refine zX (n := 7) Tryz.func173 rfl rfl rfl ?_
 refine qK ?_
 refine qZ ?_
 refine yQ 2 ze71 rfl rfl rfl ?_; intro b2
 refine qJ ?_
 refine qQ ?_
 refine qK ?_
 refine qZ ?_
 refine qY (qU rfl) rfl rfl rfl ?_
 refine jW (F := vI) (zQ en182 rfl (fun w _ => rMod _  w)) rfl rfl rfl ?_; intro r4 hr4
 have qr4 : 0 ≤ r4 ∧ r4 < 65536 := by omega
 refine qY (yK rfl rfl (by first | exact zW ⟨by omega, by omega⟩ | rfl)) rfl rfl rfl ?_
 refine jW (F := iv) (zQ en174 rfl (fun w _ => rSin _  w)) rfl rfl rfl ?_; intro r6 hr6
 refine qG 2 ty71 rfl rfl rfl rfl rfl rfl rfl rfl ?_
 refine qJ ?_
 refine qQ ?_
 refine zV ?_
 refine zK (rs := [.cell 2 71]) rfl (resC (zU 2 rfl rfl ty71 rfl) (resN)) (congrArg (iv) (?_ : ⟨_, _⟩ = cosI a))
 subst_vars; first | (simp_all [cosI]; done) | (simp_all [cosI] <;> omega) | grind [cosI]
theorem aMeets (a0 a1 : Int) (c : Int) (hv : Iv.valid (⟨a0, a1⟩ : Iv) = true) (hc : 0 ≤ c ∧ c < 65536) (w : World) : Calls Tryz.prog 187 [.agg #[.int .i64 a0, .int .i64 a1], .int .i64 c].toArray w (Rets (vB (zYW (⟨a0, a1⟩ : Iv) c)) (w)) := by
 refine zX (n := 15) Tryz.func187 rfl rfl rfl ?_
 refine qK ?_
 have hv2 := qUH hv
 refine qZ ?_
 refine kY 2 rfl rfl rfl rfl ?_; intro b2
 refine qY (qX rfl) rfl rfl rfl ?_
 refine qJ ?_
 refine qQ ?_
 refine qK ?_
 refine yY 10 mo (by kernel_rfl) ?_
 simp only [List.take_succ_cons, List.take_zero, List.drop_succ_cons, List.drop_zero]
 refine qH (zJ 2 ty71 rfl rfl rfl) rfl rfl rfl ?_
 refine qH (qV qZV rfl) rfl rfl rfl ?_
 refine qH (zY 2 ty2 rfl rfl rfl) rfl rfl rfl ?_
 refine qH (qU rfl) rfl rfl rfl ?_
 refine qH (qV qZV rfl) rfl rfl rfl ?_
 refine qH (zY 2 ty2 rfl rfl rfl) rfl rfl rfl ?_
 refine qH (jG rfl rfl (by first | exact zW ⟨by omega, by omega⟩ | rfl)) rfl rfl rfl ?_
 refine yV (F := vI) (zQ en188 rfl (fun w _ => aMod _  w)) rfl rfl rfl ?_; intro r12 hr12
 have qr12 : 0 ≤ r12 ∧ r12 < 65536 := by omega
 refine qH (yK rfl rfl (by first | exact zW ⟨by omega, by omega⟩ | rfl)) rfl rfl rfl ?_
 refine yV (F := vB) (zQ en192 rfl (fun w _ => iHas _ _ _  w)) rfl rfl rfl ?_; intro r14 hr14
 refine jX ?_
 refine yU ?_
 refine qY (qX rfl) rfl rfl rfl ?_
 refine qJ ?_
 refine qQ ?_
 refine zV ?_
 refine zK (rs := [.tmp 4]) rfl (resC (kQ rfl) (resN)) (congrArg (vB) (?_ : _ = zYW (⟨a0, a1⟩ : Iv) c))
 subst_vars; simp only [Iv.has, zYW, hv, Bool.true_and]; rw [decide_eq_true (by omega), Bool.true_and]
theorem rMeets (a0 a1 : Int) (c : Int) (hv : Iv.valid (⟨a0, a1⟩ : Iv) = true) (hc : 0 ≤ c ∧ c < 65536) (w : World) : Calls Tryz.prog 181 [.agg #[.int .i64 a0, .int .i64 a1], .int .i64 c].toArray w (Rets (vB (zYW (⟨a0, a1⟩ : Iv) c)) (w)) := by
 refine zX (n := 16) Tryz.func181 rfl rfl rfl ?_
 refine qK ?_
 have hv2 := qUH hv
 refine qZ ?_
 refine kY 2 rfl rfl rfl rfl ?_; intro b2
 refine qY (qX rfl) rfl rfl rfl ?_
 refine qJ ?_
 refine qQ ?_
 refine qK ?_
 refine yY 11 mo (by kernel_rfl) ?_
 simp only [List.take_succ_cons, List.take_zero, List.drop_succ_cons, List.drop_zero]
 refine qH (qV qZV rfl) rfl rfl rfl ?_
 refine qH (zY 2 ty2 rfl rfl rfl) rfl rfl rfl ?_
 refine qH (qU rfl) rfl rfl rfl ?_
 refine qH (qV qZV rfl) rfl rfl rfl ?_
 refine qH (zY 2 ty2 rfl rfl rfl) rfl rfl rfl ?_
 refine qH (jG rfl rfl (by first | exact zW ⟨by omega, by omega⟩ | rfl)) rfl rfl rfl ?_
 refine yV (F := vI) (zQ en182 rfl (fun w _ => rMod _  w)) rfl rfl rfl ?_; intro r11 hr11
 have qr11 : 0 ≤ r11 ∧ r11 < 65536 := by omega
 refine qH (yK rfl rfl (by first | exact zW ⟨by omega, by omega⟩ | rfl)) rfl rfl rfl ?_
 refine qH (qV qYJ rfl) rfl rfl rfl ?_
 refine qH (zY 2 ty2 rfl rfl rfl) rfl rfl rfl ?_
 refine qH (qZG rfl rfl) rfl rfl rfl ?_
 refine jX ?_
 refine yU ?_
 refine qY (qX rfl) rfl rfl rfl ?_
 refine qJ ?_
 refine qQ ?_
 refine zV ?_
 refine zK (rs := [.tmp 4]) rfl (resC (kQ rfl) (resN)) (congrArg (vB) (?_ : _ = zYW (⟨a0, a1⟩ : Iv) c))
 subst_vars; simp [zYW]
theorem aOver (a0 a1 : Int) (top : Int) (bot : Int) (fv : Nat) (φ : Int → Iv) (hen : jU Tryz.prog fv) (hφ : ∀ (a : Int) (w : World), Calls Tryz.prog fv [.int .i64 a].toArray w (Rets (iv (φ a)) w)) (ht : 0 ≤ top ∧ top < 65536) (hb : 0 ≤ bot ∧ bot < 65536) (w : World) : Calls Tryz.prog 177 [.agg #[.int .i64 a0, .int .i64 a1], .func (.func fv) #[] #[], .int .i64 top, .int .i64 bot].toArray w (Rets (iv (overI (⟨a0, a1⟩ : Iv) (φ a0) (φ a1) top bot)) (w)) := by
 refine zX (n := 40) Tryz.func177 rfl rfl rfl ?_
 refine qK ?_
 refine qZ ?_
 refine kY 4 rfl rfl rfl rfl ?_; intro b4
 refine yQ 8 ze71 rfl rfl rfl ?_; intro b8
 refine qJ ?_
 refine qQ ?_
 refine qK ?_
 refine qK ?_
 refine qZ ?_
 refine qY (zJ 4 ty71 rfl rfl rfl) rfl rfl rfl ?_
 refine jW (F := vB) (zQ en107 rfl (fun w _ => zYG _ _  w)) rfl rfl rfl ?_; intro r11 hr11
 refine qY (qUX rfl) rfl rfl rfl ?_
 refine qJ ?_
 refine qQ ?_
 refine yH rfl (fun hc12 => ?_) (fun hc12 => ?_)
 ·
  refine qK ?_
  refine qZ ?_
  refine qY (zH la71 rfl rfl) rfl rfl rfl ?_
  refine qG 8 ty71 rfl rfl rfl rfl rfl rfl rfl rfl ?_
  refine qJ ?_
  refine qQ ?_
  refine zV ?_
  refine jK ?_
  refine zK (rs := [.cell 8 71]) rfl (resC (zU 8 rfl rfl ty71 rfl) (resN)) (congrArg (iv) (?_ : ⟨_, _⟩ = overI (⟨a0, a1⟩ : Iv) (φ a0) (φ a1) top bot))
  subst_vars; first | (simp_all [overI, Iv.width]; done) | (simp_all [overI, Iv.width]; rw [show decide (65536 ≤ a1 - a0) = false by simpa using hc16]; rfl)
 ·
  refine yZ ?_
  refine qQ ?_
  refine qK ?_
  refine qK ?_
  have hv : Iv.valid ⟨a0, a1⟩ = true := hr11.symm.trans (by simpa using hc12)
  refine qZ ?_
  refine qY (zJ 4 ty71 rfl rfl rfl) rfl rfl rfl ?_
  refine jW (F := vI) (zQ en185 rfl (fun w _ => iWidth _ _  w)) rfl rfl rfl ?_; intro r15 hr15
  refine qY (opV_geq rfl rfl) rfl rfl rfl ?_
  refine qJ ?_
  refine qQ ?_
  refine yH rfl (fun hc16 => ?_) (fun hc16 => ?_)
  ·
   refine qK ?_
   refine qZ ?_
   refine qY (zH la71 rfl rfl) rfl rfl rfl ?_
   refine qG 8 ty71 rfl rfl rfl rfl rfl rfl rfl rfl ?_
   refine qJ ?_
   refine qQ ?_
   refine zV ?_
   refine jK ?_
   refine zK (rs := [.cell 8 71]) rfl (resC (zU 8 rfl rfl ty71 rfl) (resN)) (congrArg (iv) (?_ : ⟨_, _⟩ = overI (⟨a0, a1⟩ : Iv) (φ a0) (φ a1) top bot))
   subst_vars; first | (simp_all [overI, Iv.width]; done) | (simp_all [overI, Iv.width]; rw [show decide (65536 ≤ a1 - a0) = false by simpa using hc16]; rfl)
  ·
   refine yZ ?_
   refine qQ ?_
   refine qK ?_
   refine yY 10 mo (by kernel_rfl) ?_
   simp only [List.take_succ_cons, List.take_zero, List.drop_succ_cons, List.drop_zero]
   refine qH (qU rfl) rfl rfl rfl ?_
   refine qH (qV qZV rfl) rfl rfl rfl ?_
   refine qH (zY 4 ty2 rfl rfl rfl) rfl rfl rfl ?_
   refine yV (F := iv) (opV_callV hen rfl rfl rfl (fun w _ => hφ _ w)) rfl rfl rfl ?_; intro r21 hr21
   refine qH (qU rfl) rfl rfl rfl ?_
   refine qH (qV qYJ rfl) rfl rfl rfl ?_
   refine qH (zY 4 ty2 rfl rfl rfl) rfl rfl rfl ?_
   refine yV (F := iv) (opV_callV hen rfl rfl rfl (fun w _ => hφ _ w)) rfl rfl rfl ?_; intro r25 hr25
   refine yV (F := iv) (zQ en186 rfl (fun w _ => iHull _ _ _ _  w)) rfl rfl rfl ?_; intro r26 hr26
   refine doG_alloc ze71 rfl rfl rfl rfl ?_
   refine jX ?_
   refine qVK 9 rfl ?_; intro b9_2
   refine yU ?_
   refine qG 9 ty71 rfl rfl rfl rfl rfl rfl rfl rfl ?_
   refine qJ ?_
   refine qQ ?_
   refine qK ?_
   refine qK ?_
   refine qZ ?_
   refine qY (zJ 4 ty71 rfl rfl rfl) rfl rfl rfl ?_
   refine qY (qU rfl) rfl rfl rfl ?_
   refine jW (F := vB) (zQ en187 rfl (fun w _ => aMeets _ _ _ hv (by omega) w)) rfl rfl rfl ?_; intro r29 hr29
   refine qJ ?_
   refine qQ ?_
   refine yH rfl (fun hc29 => ?_) (fun hc29 => ?_)
   ·
    refine yY 3 mo (by kernel_rfl) ?_
    simp only [List.take_succ_cons, List.take_zero, List.drop_succ_cons, List.drop_zero]
    refine qH (zJ 9 ty71 rfl rfl rfl) rfl rfl rfl ?_
    refine yV (F := iv) (zQ en99 rfl (fun w _ => iOf _  w)) rfl rfl rfl ?_; intro r31 hr31
    refine yV (F := iv) (zQ en186 rfl (fun w _ => iHull _ _ _ _  w)) rfl rfl rfl ?_; intro r32 hr32
    refine jX ?_
    refine yU ?_
    refine qG 9 ty71 rfl rfl rfl rfl rfl rfl rfl rfl ?_
    refine qJ ?_
    refine qQ ?_
    refine qK ?_
    refine qK ?_
    refine qZ ?_
    refine qY (zJ 4 ty71 rfl rfl rfl) rfl rfl rfl ?_
    refine qY (qU rfl) rfl rfl rfl ?_
    refine jW (F := vB) (zQ en187 rfl (fun w _ => aMeets _ _ _ hv (by omega) w)) rfl rfl rfl ?_; intro r35 hr35
    refine qJ ?_
    refine qQ ?_
    refine yH rfl (fun hc35 => ?_) (fun hc35 => ?_)
    ·
     refine yY 3 mo (by kernel_rfl) ?_
     simp only [List.take_succ_cons, List.take_zero, List.drop_succ_cons, List.drop_zero]
     refine qH (zJ 9 ty71 rfl rfl rfl) rfl rfl rfl ?_
     refine yV (F := iv) (zQ en99 rfl (fun w _ => iOf _  w)) rfl rfl rfl ?_; intro r37 hr37
     refine yV (F := iv) (zQ en186 rfl (fun w _ => iHull _ _ _ _  w)) rfl rfl rfl ?_; intro r38 hr38
     refine jX ?_
     refine yU ?_
     refine qG 9 ty71 rfl rfl rfl rfl rfl rfl rfl rfl ?_
     refine qJ ?_
     refine qQ ?_
     refine qK ?_
     refine qZ ?_
     refine qY (zJ 9 ty71 rfl rfl rfl) rfl rfl rfl ?_
     refine qG 8 ty71 rfl rfl rfl rfl rfl rfl rfl rfl ?_
     refine qJ ?_
     refine qQ ?_
     refine zV ?_
     refine zK (rs := [.cell 8 71]) rfl (resC (zU 8 rfl rfl ty71 rfl) (resN)) (congrArg (iv) (?_ : ⟨_, _⟩ = overI (⟨a0, a1⟩ : Iv) (φ a0) (φ a1) top bot))
     subst_vars; first | (simp_all [overI, Iv.width]; done) | (simp_all [overI, Iv.width]; rw [show decide (65536 ≤ a1 - a0) = false by simpa using hc16]; rfl)
    ·
     refine yZ ?_
     refine qQ ?_
     refine qK ?_
     refine qZ ?_
     refine qY (zJ 9 ty71 rfl rfl rfl) rfl rfl rfl ?_
     refine qG 8 ty71 rfl rfl rfl rfl rfl rfl rfl rfl ?_
     refine qJ ?_
     refine qQ ?_
     refine zV ?_
     refine zK (rs := [.cell 8 71]) rfl (resC (zU 8 rfl rfl ty71 rfl) (resN)) (congrArg (iv) (?_ : ⟨_, _⟩ = overI (⟨a0, a1⟩ : Iv) (φ a0) (φ a1) top bot))
     subst_vars; first | (simp_all [overI, Iv.width]; done) | (simp_all [overI, Iv.width]; rw [show decide (65536 ≤ a1 - a0) = false by simpa using hc16]; rfl)
   ·
    refine yZ ?_
    refine qQ ?_
    refine qK ?_
    refine qK ?_
    refine qZ ?_
    refine qY (zJ 4 ty71 rfl rfl rfl) rfl rfl rfl ?_
    refine qY (qU rfl) rfl rfl rfl ?_
    refine jW (F := vB) (zQ en187 rfl (fun w _ => aMeets _ _ _ hv (by omega) w)) rfl rfl rfl ?_; intro r35 hr35
    refine qJ ?_
    refine qQ ?_
    refine yH rfl (fun hc35 => ?_) (fun hc35 => ?_)
    ·
     refine yY 3 mo (by kernel_rfl) ?_
     simp only [List.take_succ_cons, List.take_zero, List.drop_succ_cons, List.drop_zero]
     refine qH (zJ 9 ty71 rfl rfl rfl) rfl rfl rfl ?_
     refine yV (F := iv) (zQ en99 rfl (fun w _ => iOf _  w)) rfl rfl rfl ?_; intro r37 hr37
     refine yV (F := iv) (zQ en186 rfl (fun w _ => iHull _ _ _ _  w)) rfl rfl rfl ?_; intro r38 hr38
     refine jX ?_
     refine yU ?_
     refine qG 9 ty71 rfl rfl rfl rfl rfl rfl rfl rfl ?_
     refine qJ ?_
     refine qQ ?_
     refine qK ?_
     refine qZ ?_
     refine qY (zJ 9 ty71 rfl rfl rfl) rfl rfl rfl ?_
     refine qG 8 ty71 rfl rfl rfl rfl rfl rfl rfl rfl ?_
     refine qJ ?_
     refine qQ ?_
     refine zV ?_
     refine zK (rs := [.cell 8 71]) rfl (resC (zU 8 rfl rfl ty71 rfl) (resN)) (congrArg (iv) (?_ : ⟨_, _⟩ = overI (⟨a0, a1⟩ : Iv) (φ a0) (φ a1) top bot))
     subst_vars; first | (simp_all [overI, Iv.width]; done) | (simp_all [overI, Iv.width]; rw [show decide (65536 ≤ a1 - a0) = false by simpa using hc16]; rfl)
    ·
     refine yZ ?_
     refine qQ ?_
     refine qK ?_
     refine qZ ?_
     refine qY (zJ 9 ty71 rfl rfl rfl) rfl rfl rfl ?_
     refine qG 8 ty71 rfl rfl rfl rfl rfl rfl rfl rfl ?_
     refine qJ ?_
     refine qQ ?_
     refine zV ?_
     refine zK (rs := [.cell 8 71]) rfl (resC (zU 8 rfl rfl ty71 rfl) (resN)) (congrArg (iv) (?_ : ⟨_, _⟩ = overI (⟨a0, a1⟩ : Iv) (φ a0) (φ a1) top bot))
     subst_vars; first | (simp_all [overI, Iv.width]; done) | (simp_all [overI, Iv.width]; rw [show decide (65536 ≤ a1 - a0) = false by simpa using hc16]; rfl)
theorem aSinOver (a0 a1 : Int) (w : World) : Calls Tryz.prog 170 [.agg #[.int .i64 a0, .int .i64 a1]].toArray w (Rets (iv (qKQ (⟨a0, a1⟩ : Iv))) (w)) := by
 refine zX (n := 5) Tryz.func170 rfl rfl rfl ?_
 refine qK ?_
 refine qZ ?_
 refine kY 1 rfl rfl rfl rfl ?_; intro b1
 refine yQ 2 ze71 rfl rfl rfl ?_; intro b2
 refine qJ ?_
 refine qQ ?_
 refine qK ?_
 refine qZ ?_
 refine qY (zJ 1 ty71 rfl rfl rfl) rfl rfl rfl ?_
 refine jW (F := iv) (zQ en177 rfl (fun w _ => aOver _ _ _ _ 179 sinI en179 aSin (by decide) (by decide) w)) rfl rfl rfl ?_; intro r4 hr4
 refine qG 2 ty71 rfl rfl rfl rfl rfl rfl rfl rfl ?_
 refine qJ ?_
 refine qQ ?_
 refine zV ?_
 refine zK (rs := [.cell 2 71]) rfl (resC (zU 2 rfl rfl ty71 rfl) (resN)) (congrArg (iv) (?_ : ⟨_, _⟩ = qKQ (⟨a0, a1⟩ : Iv)))
 subst_vars; first | (simp_all [qKQ]; done) | (simp_all [qKQ] <;> omega) | grind [qKQ]
theorem aCosOver (a0 a1 : Int) (w : World) : Calls Tryz.prog 169 [.agg #[.int .i64 a0, .int .i64 a1]].toArray w (Rets (iv (qKK (⟨a0, a1⟩ : Iv))) (w)) := by
 refine zX (n := 5) Tryz.func169 rfl rfl rfl ?_
 refine qK ?_
 refine qZ ?_
 refine kY 1 rfl rfl rfl rfl ?_; intro b1
 refine yQ 2 ze71 rfl rfl rfl ?_; intro b2
 refine qJ ?_
 refine qQ ?_
 refine qK ?_
 refine qZ ?_
 refine qY (zJ 1 ty71 rfl rfl rfl) rfl rfl rfl ?_
 refine jW (F := iv) (zQ en177 rfl (fun w _ => aOver _ _ _ _ 178 cosI en178 aCos (by decide) (by decide) w)) rfl rfl rfl ?_; intro r4 hr4
 refine qG 2 ty71 rfl rfl rfl rfl rfl rfl rfl rfl ?_
 refine qJ ?_
 refine qQ ?_
 refine zV ?_
 refine zK (rs := [.cell 2 71]) rfl (resC (zU 2 rfl rfl ty71 rfl) (resN)) (congrArg (iv) (?_ : ⟨_, _⟩ = qKK (⟨a0, a1⟩ : Iv)))
 subst_vars; first | (simp_all [qKK]; done) | (simp_all [qKK] <;> omega) | grind [qKK]
theorem rOver (a0 a1 : Int) (l0 l1 : Int) (h0 h1 : Int) (top : Int) (bot : Int) (ht : 0 ≤ top ∧ top < 65536) (hb : 0 ≤ bot ∧ bot < 65536) (w : World) : Calls Tryz.prog 172 [.agg #[.int .i64 a0, .int .i64 a1], .agg #[.int .i64 l0, .int .i64 l1], .agg #[.int .i64 h0, .int .i64 h1], .int .i64 top, .int .i64 bot].toArray w (Rets (iv (overI (⟨a0, a1⟩ : Iv) (⟨l0, l1⟩ : Iv) (⟨h0, h1⟩ : Iv) top bot)) (w)) := by
 refine zX (n := 39) Tryz.func172 rfl rfl rfl ?_
 refine qK ?_
 refine qZ ?_
 refine kY 5 rfl rfl rfl rfl ?_; intro b5
 refine kY 6 rfl rfl rfl rfl ?_; intro b6
 refine kY 7 rfl rfl rfl rfl ?_; intro b7
 refine yQ 10 ze71 rfl rfl rfl ?_; intro b10
 refine qJ ?_
 refine qQ ?_
 refine qK ?_
 refine qK ?_
 refine qZ ?_
 refine qY (zJ 5 ty71 rfl rfl rfl) rfl rfl rfl ?_
 refine jW (F := vB) (zQ en147 rfl (fun w _ => zQH _ _  w)) rfl rfl rfl ?_; intro r13 hr13
 refine qY (qUX rfl) rfl rfl rfl ?_
 refine qJ ?_
 refine qQ ?_
 refine yH rfl (fun hc14 => ?_) (fun hc14 => ?_)
 ·
  refine qK ?_
  refine qZ ?_
  refine qY (zH la71 rfl rfl) rfl rfl rfl ?_
  refine qG 10 ty71 rfl rfl rfl rfl rfl rfl rfl rfl ?_
  refine qJ ?_
  refine qQ ?_
  refine zV ?_
  refine jK ?_
  refine zK (rs := [.cell 10 71]) rfl (resC (zU 10 rfl rfl ty71 rfl) (resN)) (congrArg (iv) (?_ : ⟨_, _⟩ = overI (⟨a0, a1⟩ : Iv) (⟨l0, l1⟩ : Iv) (⟨h0, h1⟩ : Iv) top bot))
  subst_vars; first | (simp_all [overI]; done) | (simp_all [overI]; rw [show decide (65536 ≤ a1 - a0) = false by simpa using hc21]; rfl)
 ·
  refine yZ ?_
  refine qQ ?_
  refine qK ?_
  refine qK ?_
  have hv : Iv.valid ⟨a0, a1⟩ = true := hr13.symm.trans (by simpa using hc14)
  have hv2 := qUH hv
  refine qZ ?_
  refine qY (qV qYJ rfl) rfl rfl rfl ?_
  refine qY (zY 5 ty2 rfl rfl rfl) rfl rfl rfl ?_
  refine qY (qV qZV rfl) rfl rfl rfl ?_
  refine qY (zY 5 ty2 rfl rfl rfl) rfl rfl rfl ?_
  refine qY (jG rfl rfl (by first | exact zW ⟨by omega, by omega⟩ | rfl)) rfl rfl rfl ?_
  refine qY (opV_geq rfl rfl) rfl rfl rfl ?_
  refine qJ ?_
  refine qQ ?_
  refine yH rfl (fun hc21 => ?_) (fun hc21 => ?_)
  ·
   refine qK ?_
   refine qZ ?_
   refine qY (zH la71 rfl rfl) rfl rfl rfl ?_
   refine qG 10 ty71 rfl rfl rfl rfl rfl rfl rfl rfl ?_
   refine qJ ?_
   refine qQ ?_
   refine zV ?_
   refine jK ?_
   refine zK (rs := [.cell 10 71]) rfl (resC (zU 10 rfl rfl ty71 rfl) (resN)) (congrArg (iv) (?_ : ⟨_, _⟩ = overI (⟨a0, a1⟩ : Iv) (⟨l0, l1⟩ : Iv) (⟨h0, h1⟩ : Iv) top bot))
   subst_vars; first | (simp_all [overI]; done) | (simp_all [overI]; rw [show decide (65536 ≤ a1 - a0) = false by simpa using hc21]; rfl)
  ·
   refine yZ ?_
   refine qQ ?_
   refine qK ?_
   refine qZ ?_
   refine qY (zJ 6 ty71 rfl rfl rfl) rfl rfl rfl ?_
   refine qY (zJ 7 ty71 rfl rfl rfl) rfl rfl rfl ?_
   refine jW (F := iv) (zQ en180 rfl (fun w _ => rHull _ _ _ _  w)) rfl rfl rfl ?_; intro r25 hr25
   refine yQ 11 ze71 rfl rfl rfl ?_; intro b11
   refine qG 11 ty71 rfl rfl rfl rfl rfl rfl rfl rfl ?_
   refine qJ ?_
   refine qQ ?_
   refine qK ?_
   refine qK ?_
   refine qZ ?_
   refine qY (zJ 5 ty71 rfl rfl rfl) rfl rfl rfl ?_
   refine qY (qU rfl) rfl rfl rfl ?_
   refine jW (F := vB) (zQ en181 rfl (fun w _ => rMeets _ _ _ (by first | omega | assumption | (unfold In64; omega) | decide) (by first | omega | assumption | (unfold In64; omega) | decide) w)) rfl rfl rfl ?_; intro r28 hr28
   refine qJ ?_
   refine qQ ?_
   refine yH rfl (fun hc28 => ?_) (fun hc28 => ?_)
   ·
    refine yY 3 mo (by kernel_rfl) ?_
    simp only [List.take_succ_cons, List.take_zero, List.drop_succ_cons, List.drop_zero]
    refine qH (zJ 11 ty71 rfl rfl rfl) rfl rfl rfl ?_
    refine yV (F := iv) (zQ en31 rfl (fun w _ => rOf _  w)) rfl rfl rfl ?_; intro r30 hr30
    refine yV (F := iv) (zQ en180 rfl (fun w _ => rHull _ _ _ _  w)) rfl rfl rfl ?_; intro r31 hr31
    refine jX ?_
    refine yU ?_
    refine qG 11 ty71 rfl rfl rfl rfl rfl rfl rfl rfl ?_
    refine qJ ?_
    refine qQ ?_
    refine qK ?_
    refine qK ?_
    refine qZ ?_
    refine qY (zJ 5 ty71 rfl rfl rfl) rfl rfl rfl ?_
    refine qY (qU rfl) rfl rfl rfl ?_
    refine jW (F := vB) (zQ en181 rfl (fun w _ => rMeets _ _ _ (by first | omega | assumption | (unfold In64; omega) | decide) (by first | omega | assumption | (unfold In64; omega) | decide) w)) rfl rfl rfl ?_; intro r34 hr34
    refine qJ ?_
    refine qQ ?_
    refine yH rfl (fun hc34 => ?_) (fun hc34 => ?_)
    ·
     refine yY 3 mo (by kernel_rfl) ?_
     simp only [List.take_succ_cons, List.take_zero, List.drop_succ_cons, List.drop_zero]
     refine qH (zJ 11 ty71 rfl rfl rfl) rfl rfl rfl ?_
     refine yV (F := iv) (zQ en31 rfl (fun w _ => rOf _  w)) rfl rfl rfl ?_; intro r36 hr36
     refine yV (F := iv) (zQ en180 rfl (fun w _ => rHull _ _ _ _  w)) rfl rfl rfl ?_; intro r37 hr37
     refine jX ?_
     refine yU ?_
     refine qG 11 ty71 rfl rfl rfl rfl rfl rfl rfl rfl ?_
     refine qJ ?_
     refine qQ ?_
     refine qK ?_
     refine qZ ?_
     refine qY (zJ 11 ty71 rfl rfl rfl) rfl rfl rfl ?_
     refine qG 10 ty71 rfl rfl rfl rfl rfl rfl rfl rfl ?_
     refine qJ ?_
     refine qQ ?_
     refine zV ?_
     refine zK (rs := [.cell 10 71]) rfl (resC (zU 10 rfl rfl ty71 rfl) (resN)) (congrArg (iv) (?_ : ⟨_, _⟩ = overI (⟨a0, a1⟩ : Iv) (⟨l0, l1⟩ : Iv) (⟨h0, h1⟩ : Iv) top bot))
     subst_vars; first | (simp_all [overI]; done) | (simp_all [overI]; rw [show decide (65536 ≤ a1 - a0) = false by simpa using hc21]; rfl)
    ·
     refine yZ ?_
     refine qQ ?_
     refine qK ?_
     refine qZ ?_
     refine qY (zJ 11 ty71 rfl rfl rfl) rfl rfl rfl ?_
     refine qG 10 ty71 rfl rfl rfl rfl rfl rfl rfl rfl ?_
     refine qJ ?_
     refine qQ ?_
     refine zV ?_
     refine zK (rs := [.cell 10 71]) rfl (resC (zU 10 rfl rfl ty71 rfl) (resN)) (congrArg (iv) (?_ : ⟨_, _⟩ = overI (⟨a0, a1⟩ : Iv) (⟨l0, l1⟩ : Iv) (⟨h0, h1⟩ : Iv) top bot))
     subst_vars; first | (simp_all [overI]; done) | (simp_all [overI]; rw [show decide (65536 ≤ a1 - a0) = false by simpa using hc21]; rfl)
   ·
    refine yZ ?_
    refine qQ ?_
    refine qK ?_
    refine qK ?_
    refine qZ ?_
    refine qY (zJ 5 ty71 rfl rfl rfl) rfl rfl rfl ?_
    refine qY (qU rfl) rfl rfl rfl ?_
    refine jW (F := vB) (zQ en181 rfl (fun w _ => rMeets _ _ _ (by first | omega | assumption | (unfold In64; omega) | decide) (by first | omega | assumption | (unfold In64; omega) | decide) w)) rfl rfl rfl ?_; intro r34 hr34
    refine qJ ?_
    refine qQ ?_
    refine yH rfl (fun hc34 => ?_) (fun hc34 => ?_)
    ·
     refine yY 3 mo (by kernel_rfl) ?_
     simp only [List.take_succ_cons, List.take_zero, List.drop_succ_cons, List.drop_zero]
     refine qH (zJ 11 ty71 rfl rfl rfl) rfl rfl rfl ?_
     refine yV (F := iv) (zQ en31 rfl (fun w _ => rOf _  w)) rfl rfl rfl ?_; intro r36 hr36
     refine yV (F := iv) (zQ en180 rfl (fun w _ => rHull _ _ _ _  w)) rfl rfl rfl ?_; intro r37 hr37
     refine jX ?_
     refine yU ?_
     refine qG 11 ty71 rfl rfl rfl rfl rfl rfl rfl rfl ?_
     refine qJ ?_
     refine qQ ?_
     refine qK ?_
     refine qZ ?_
     refine qY (zJ 11 ty71 rfl rfl rfl) rfl rfl rfl ?_
     refine qG 10 ty71 rfl rfl rfl rfl rfl rfl rfl rfl ?_
     refine qJ ?_
     refine qQ ?_
     refine zV ?_
     refine zK (rs := [.cell 10 71]) rfl (resC (zU 10 rfl rfl ty71 rfl) (resN)) (congrArg (iv) (?_ : ⟨_, _⟩ = overI (⟨a0, a1⟩ : Iv) (⟨l0, l1⟩ : Iv) (⟨h0, h1⟩ : Iv) top bot))
     subst_vars; first | (simp_all [overI]; done) | (simp_all [overI]; rw [show decide (65536 ≤ a1 - a0) = false by simpa using hc21]; rfl)
    ·
     refine yZ ?_
     refine qQ ?_
     refine qK ?_
     refine qZ ?_
     refine qY (zJ 11 ty71 rfl rfl rfl) rfl rfl rfl ?_
     refine qG 10 ty71 rfl rfl rfl rfl rfl rfl rfl rfl ?_
     refine qJ ?_
     refine qQ ?_
     refine zV ?_
     refine zK (rs := [.cell 10 71]) rfl (resC (zU 10 rfl rfl ty71 rfl) (resN)) (congrArg (iv) (?_ : ⟨_, _⟩ = overI (⟨a0, a1⟩ : Iv) (⟨l0, l1⟩ : Iv) (⟨h0, h1⟩ : Iv) top bot))
     subst_vars; first | (simp_all [overI]; done) | (simp_all [overI]; rw [show decide (65536 ≤ a1 - a0) = false by simpa using hc21]; rfl)
theorem rSinOver (a0 a1 : Int) (w : World) : Calls Tryz.prog 164 [.agg #[.int .i64 a0, .int .i64 a1]].toArray w (Rets (iv (qKQ (⟨a0, a1⟩ : Iv))) (w)) := by
 refine zX (n := 11) Tryz.func164 rfl rfl rfl ?_
 refine qK ?_
 refine qZ ?_
 refine kY 1 rfl rfl rfl rfl ?_; intro b1
 refine yQ 2 ze71 rfl rfl rfl ?_; intro b2
 refine qJ ?_
 refine qQ ?_
 refine qK ?_
 refine yY 8 mo (by kernel_rfl) ?_
 simp only [List.take_succ_cons, List.take_zero, List.drop_succ_cons, List.drop_zero]
 refine qH (zJ 1 ty71 rfl rfl rfl) rfl rfl rfl ?_
 refine qH (qV qZV rfl) rfl rfl rfl ?_
 refine qH (zY 1 ty2 rfl rfl rfl) rfl rfl rfl ?_
 refine yV (F := iv) (zQ en174 rfl (fun w _ => rSin _  w)) rfl rfl rfl ?_; intro r6 hr6
 refine qH (qV qYJ rfl) rfl rfl rfl ?_
 refine qH (zY 1 ty2 rfl rfl rfl) rfl rfl rfl ?_
 refine yV (F := iv) (zQ en174 rfl (fun w _ => rSin _  w)) rfl rfl rfl ?_; intro r9 hr9
 refine yV (F := iv) (zQ en172 rfl (fun w _ => rOver _ _ _ _ _ _ _ _ (by first | omega | assumption | (unfold In64; omega) | decide) (by first | omega | assumption | (unfold In64; omega) | decide) w)) rfl rfl rfl ?_; intro r10 hr10
 refine jX ?_
 refine yU ?_
 refine qG 2 ty71 rfl rfl rfl rfl rfl rfl rfl rfl ?_
 refine qJ ?_
 refine qQ ?_
 refine zV ?_
 refine zK (rs := [.cell 2 71]) rfl (resC (zU 2 rfl rfl ty71 rfl) (resN)) (congrArg (iv) (?_ : ⟨_, _⟩ = qKQ (⟨a0, a1⟩ : Iv)))
 subst_vars; first | (simp_all [qKQ]; done) | (simp_all [qKQ] <;> omega) | grind [qKQ]
theorem rCosOver (a0 a1 : Int) (w : World) : Calls Tryz.prog 163 [.agg #[.int .i64 a0, .int .i64 a1]].toArray w (Rets (iv (qKK (⟨a0, a1⟩ : Iv))) (w)) := by
 refine zX (n := 11) Tryz.func163 rfl rfl rfl ?_
 refine qK ?_
 refine qZ ?_
 refine kY 1 rfl rfl rfl rfl ?_; intro b1
 refine yQ 2 ze71 rfl rfl rfl ?_; intro b2
 refine qJ ?_
 refine qQ ?_
 refine qK ?_
 refine yY 8 mo (by kernel_rfl) ?_
 simp only [List.take_succ_cons, List.take_zero, List.drop_succ_cons, List.drop_zero]
 refine qH (zJ 1 ty71 rfl rfl rfl) rfl rfl rfl ?_
 refine qH (qV qZV rfl) rfl rfl rfl ?_
 refine qH (zY 1 ty2 rfl rfl rfl) rfl rfl rfl ?_
 refine yV (F := iv) (zQ en173 rfl (fun w _ => rCos _  w)) rfl rfl rfl ?_; intro r6 hr6
 refine qH (qV qYJ rfl) rfl rfl rfl ?_
 refine qH (zY 1 ty2 rfl rfl rfl) rfl rfl rfl ?_
 refine yV (F := iv) (zQ en173 rfl (fun w _ => rCos _  w)) rfl rfl rfl ?_; intro r9 hr9
 refine yV (F := iv) (zQ en172 rfl (fun w _ => rOver _ _ _ _ _ _ _ _ (by first | omega | assumption | (unfold In64; omega) | decide) (by first | omega | assumption | (unfold In64; omega) | decide) w)) rfl rfl rfl ?_; intro r10 hr10
 refine jX ?_
 refine yU ?_
 refine qG 2 ty71 rfl rfl rfl rfl rfl rfl rfl rfl ?_
 refine qJ ?_
 refine qQ ?_
 refine zV ?_
 refine zK (rs := [.cell 2 71]) rfl (resC (zU 2 rfl rfl ty71 rfl) (resN)) (congrArg (iv) (?_ : ⟨_, _⟩ = qKK (⟨a0, a1⟩ : Iv)))
 subst_vars; first | (simp_all [qKK]; done) | (simp_all [qKK] <;> omega) | grind [qKK]
theorem mRound (n : Int) (k : Int) (hk : 0 < k ∧ k ≤ 9223372036854775807) (w : World) : Calls Tryz.prog 15 [.int .i64 n, .int .i64 k].toArray w (Rets (vI (n % k)) (w)) := by
 refine zX (n := 15) Tryz.func15 rfl rfl rfl ?_
 refine qK ?_
 have h0 := Int.lt_tmod_of_pos n hk.1
 have h1 := Int.tmod_lt_of_pos n hk.1
 refine qZ ?_
 refine qY (qX rfl) rfl rfl rfl ?_
 refine qJ ?_
 refine qQ ?_
 refine qK ?_
 refine qZ ?_
 refine qY (qU rfl) rfl rfl rfl ?_
 refine qY (qU rfl) rfl rfl rfl ?_
 refine qY (zZZ rfl rfl (by first | decide | omega) rfl) rfl rfl rfl ?_
 refine qY (qX rfl) rfl rfl rfl ?_
 refine qJ ?_
 refine qQ ?_
 refine qK ?_
 refine qK ?_
 refine qZ ?_
 refine qY (qU rfl) rfl rfl rfl ?_
 refine qY (kX rfl rfl) rfl rfl rfl ?_
 refine qJ ?_
 refine qQ ?_
 refine yH rfl (fun hc10 => ?_) (fun hc10 => ?_)
 ·
  have h2 := of_decide_eq_true hc10
  refine qZ ?_
  refine qY (qU rfl) rfl rfl rfl ?_
  refine qY (qU rfl) rfl rfl rfl ?_
  refine qY (yK rfl rfl (by first | exact zW ⟨by omega, by omega⟩ | rfl)) rfl rfl rfl ?_
  refine qY (qX rfl) rfl rfl rfl ?_
  refine qJ ?_
  refine qQ ?_
  refine qK ?_
  refine qZ ?_
  refine qY (qU rfl) rfl rfl rfl ?_
  refine qY (qX rfl) rfl rfl rfl ?_
  refine qJ ?_
  refine qQ ?_
  refine zV ?_
  refine zK (rs := [.tmp 4]) rfl (resC (kQ rfl) (resN)) (congrArg (vI) (?_ : _ = n % k))
  exact round_neg hk.1 h2
 ·
  have h2 := of_decide_eq_false hc10
  refine yZ ?_
  refine qQ ?_
  refine qK ?_
  refine qZ ?_
  refine qY (qU rfl) rfl rfl rfl ?_
  refine qY (qX rfl) rfl rfl rfl ?_
  refine qJ ?_
  refine qQ ?_
  refine zV ?_
  refine zK (rs := [.tmp 4]) rfl (resC (kQ rfl) (resN)) (congrArg (vI) (?_ : _ = n % k))
  exact round_pos hk.1 h2
end Go.Proofs.YtmbnpjpggccefaaGreat
