-- Printed by a program of this session (wip/tools) over the kit's print: not trusted, Lean checks it.
import Derived.Test.YtfcenlhaepckoaaDoorS0n5
import Derived.Test.YtfcenlhaepckoaaDoorProg
import Derived.Test.YtfcenlhaepckoaaDoorQ0n5
import Derived.Test.YtfcenlhaepckoaaDoorP0n5
import Derived.Test.YtfcenlhaepckoaaDoorElibn5
import Derived.Test.YtfcenlhaepckoaaDoorSqn5
import Derived.Test.YtfcenlhaepckoaaDoorP1n5
import Derived.Test.YtfcenlhaepckoaaDoorP2n5
import Derived.Test.YtfcenlhaepckoaaDoorP3n5
import Derived.Test.YtfcenlhaepckoaaDoorP5n5
import Derived.Test.YtfcenlhaepckoaaDoorP6n5
import Derived.Test.YtfcenlhaepckoaaDoorP7n5
import Derived.Test.YtfcenlhaepckoaaDoorQ1n5
import Derived.Test.YtfcenlhaepckoaaDoorNlitn5
import Derived.Test.YtfcenlhaepckoaaDoorLibsn5
namespace Go.Proofs.YtfcenlhaepckoaaDoor.S
set_option linter.all false
open Go.Proofs.YtfcenlhaepckoaaDoor.P Go.Proofs.YtfcenlhaepckoaaDoor.Q
open Go.RowKit Go.Proofs.YtfcenlhaepckoaaDoorW.PrintWords Go.Proofs.YtfcenlhaepckoaaDoorW.PrintLast Go.Proofs.YtfcenlhaepckoaaDoorW.PrintMore
attribute [local go_sem] max2_int min2_int max_two min_two max_three min_three max_four min_four   -- for this text's walks alone
attribute [local go_sem] cell_after
set_option linter.unusedVariables false
set_option linter.unusedSimpArgs false

/-! ### tabardlaw1_shown: function 7 -/
set_option maxHeartbeats 8000000 in
set_option maxRecDepth 100000 in
theorem tabardlaw1_shown.calls (k : Nat)  (r : Bool) (w : World) (hT : Tabs w) (h : (some true : Option Bool) = some r)
  (t104 : List Int)
  (A10 : nat_Trim.f k ([5,0,0] : List Int) = some t104)
  (A20 : tabardlaw1_same.f k t104 ([5] : List Int) = some true)
  (t111 : List Int)
  (A30 : nat_Of.f k 4294967296 = some t111)
  (A40 : tabardlaw1_same.f k t111 ([0,1] : List Int) = some true)
  (A50 : nat_Value.f k ([1,1] : List Int) = some (4294967297,true))
  (A60 : nat_Value.f k ([0,0,1] : List Int) = some (0,false))
  (t134 : List Int)
  (A70 : nat_Add.f k ([4294967295] : List Int) ([1] : List Int) = some (t134,0))
  (t144 : List Int)
  (A80 : nat_Sub.f k ([0,1] : List Int) ([1] : List Int) = some (t144,0))
  (t154 : List Int)
  (A90 : nat_Sub.f k ([1] : List Int) ([2] : List Int) = some (t154,6))
  (t164 : List Int)
  (A100 : nat_Mul.f k ([0,1] : List Int) ([0,1] : List Int) = some (t164,0))
  (t174 : List Int)
  (t177 : List Int)
  (A110 : nat_DivMod.f k ([7] : List Int) ([2] : List Int) = some (t174,t177,0))
  (t184 : List Int)
  (t187 : List Int)
  (A120 : nat_DivMod.f k ([1] : List Int) ([] : List Int) = some (t184,t187,10))
  (A130 : tabardlaw1_same.f k t134 ([0,1] : List Int) = some true)
  (A140 : tabardlaw1_same.f k t144 ([4294967295] : List Int) = some true)
  (A150 : tabardlaw1_same.f k t164 ([0,0,1] : List Int) = some true)
  (A160 : tabardlaw1_same.f k t174 ([3] : List Int) = some true)
  (A170 : tabardlaw1_same.f k t177 ([1] : List Int) = some true)
  (A180 : nat_Len.f k ([0,1] : List Int) = some 33)
  (t218 : List Int)
  (A190 : nat_Shl.f k ([1] : List Int) 33 = some (t218,0))
  (t225 : List Int)
  (A200 : nat_Shr.f k ([0,1] : List Int) 33 = some (t225,true,0))
  (t233 : List Int)
  (A210 : nat_Shl.f k ([1] : List Int) 8192 = some (t233,2))
  (t237 : List Int)
  (A220 : nat_Shl.f k ([] : List Int) 8192 = some (t237,0))
  (t241 : List Int)
  (A230 : nat_Pow.f k 10 10 = some (t241,0))
  (t245 : List Int)
  (A240 : nat_Pow.f k 0 0 = some (t245,0))
  (t249 : List Int)
  (A250 : nat_Pow.f k 2 8192 = some (t249,2))
  (A260 : tabardlaw1_same.f k t218 ([0,2] : List Int) = some true)
  (A270 : tabardlaw1_same.f k t241 ([1410065408,2] : List Int) = some true)
  (A280 : tabardlaw1_same.f k t245 ([1] : List Int) = some true)
  (t265 : List Int)
  (A290 : nat_Parse.f k (⟨#[48,48,55]⟩ : ByteArray) = some (t265,0))
  (t269 : List Int)
  (A300 : nat_Parse.f k (⟨#[45,49]⟩ : ByteArray) = some (t269,3))
  (A310 : tabardlaw1_same.f k t265 ([7] : List Int) = some true)
  (c32 : (t225.length : Int) = 0)
  (c33 : (t225.length : Int) = 0)
  (c34 : (t237.length : Int) = 0)
  (c35 : (t237.length : Int) = 0)
  (c36 : (t237.length : Int) = 0)
  (A370 : nat_Digits.f k ([0,1] : List Int) = some (⟨#[52,50,57,52,57,54,55,50,57,54]⟩ : ByteArray)) :
  Calls Tryd.prog 7 #[] w fun e w' => e = .returned (.bool r) ∧ Below w.heap.size w w' := by
 have HT := Aside0.mk hT
 clear hT
 have HB := Aside0.mk (Below.refl w.heap.size w)
 have H := h
 clear h
 obtain ⟨y101,hy101⟩ : ∃ y_ : List Int,y_ = (([5,0,0] : List Int)) := ⟨_,rfl⟩
 have Ny101 := Aside0.mk hy101
 clear hy101
 have A11 : nat_Trim.f k y101 = some t104 := by rw [Ny101.out];exact A10
 clear A10
 have A10 := A11
 clear A11
 have A1 := Aside0.mk A10
 clear A10
 obtain ⟨y107,hy107⟩ : ∃ y_ : List Int,y_ = (([5] : List Int)) := ⟨_,rfl⟩
 have Ny107 := Aside0.mk hy107
 clear hy107
 have A21 : tabardlaw1_same.f k t104 y107 = some true := by rw [Ny107.out];exact A20
 clear A20
 have A20 := A21
 clear A21
 have A2 := Aside0.mk A20
 clear A20
 have A3 := Aside0.mk A30
 clear A30
 obtain ⟨y114,hy114⟩ : ∃ y_ : List Int,y_ = (([0,1] : List Int)) := ⟨_,rfl⟩
 have Ny114 := Aside0.mk hy114
 clear hy114
 have A41 : tabardlaw1_same.f k t111 y114 = some true := by rw [Ny114.out];exact A40
 clear A40
 have A40 := A41
 clear A41
 have A4 := Aside0.mk A40
 clear A40
 obtain ⟨y118,hy118⟩ : ∃ y_ : List Int,y_ = (([1,1] : List Int)) := ⟨_,rfl⟩
 have Ny118 := Aside0.mk hy118
 clear hy118
 have A51 : nat_Value.f k y118 = some (4294967297,true) := by rw [Ny118.out];exact A50
 clear A50
 have A50 := A51
 clear A51
 have A5 := Aside0.mk A50
 clear A50
 obtain ⟨y123,hy123⟩ : ∃ y_ : List Int,y_ = (([0,0,1] : List Int)) := ⟨_,rfl⟩
 have Ny123 := Aside0.mk hy123
 clear hy123
 have A61 : nat_Value.f k y123 = some (0,false) := by rw [Ny123.out];exact A60
 clear A60
 have A60 := A61
 clear A61
 have A6 := Aside0.mk A60
 clear A60
 obtain ⟨y128,hy128⟩ : ∃ y_ : List Int,y_ = (([4294967295] : List Int)) := ⟨_,rfl⟩
 have Ny128 := Aside0.mk hy128
 clear hy128
 obtain ⟨y131,hy131⟩ : ∃ y_ : List Int,y_ = (([1] : List Int)) := ⟨_,rfl⟩
 have Ny131 := Aside0.mk hy131
 clear hy131
 have A71 : nat_Add.f k y128 y131 = some (t134,0) := by rw [Ny128.out,Ny131.out];exact A70
 clear A70
 have A70 := A71
 clear A71
 have A7 := Aside0.mk A70
 clear A70
 obtain ⟨y138,hy138⟩ : ∃ y_ : List Int,y_ = (([0,1] : List Int)) := ⟨_,rfl⟩
 have Ny138 := Aside0.mk hy138
 clear hy138
 obtain ⟨y141,hy141⟩ : ∃ y_ : List Int,y_ = (([1] : List Int)) := ⟨_,rfl⟩
 have Ny141 := Aside0.mk hy141
 clear hy141
 have A81 : nat_Sub.f k y138 y141 = some (t144,0) := by rw [Ny138.out,Ny141.out];exact A80
 clear A80
 have A80 := A81
 clear A81
 have A8 := Aside0.mk A80
 clear A80
 obtain ⟨y148,hy148⟩ : ∃ y_ : List Int,y_ = (([1] : List Int)) := ⟨_,rfl⟩
 have Ny148 := Aside0.mk hy148
 clear hy148
 obtain ⟨y151,hy151⟩ : ∃ y_ : List Int,y_ = (([2] : List Int)) := ⟨_,rfl⟩
 have Ny151 := Aside0.mk hy151
 clear hy151
 have A91 : nat_Sub.f k y148 y151 = some (t154,6) := by rw [Ny148.out,Ny151.out];exact A90
 clear A90
 have A90 := A91
 clear A91
 have A9 := Aside0.mk A90
 clear A90
 obtain ⟨y158,hy158⟩ : ∃ y_ : List Int,y_ = (([0,1] : List Int)) := ⟨_,rfl⟩
 have Ny158 := Aside0.mk hy158
 clear hy158
 obtain ⟨y161,hy161⟩ : ∃ y_ : List Int,y_ = (([0,1] : List Int)) := ⟨_,rfl⟩
 have Ny161 := Aside0.mk hy161
 clear hy161
 have A101 : nat_Mul.f k y158 y161 = some (t164,0) := by rw [Ny158.out,Ny161.out];exact A100
 clear A100
 have A100 := A101
 clear A101
 have A10 := Aside0.mk A100
 clear A100
 obtain ⟨y168,hy168⟩ : ∃ y_ : List Int,y_ = (([7] : List Int)) := ⟨_,rfl⟩
 have Ny168 := Aside0.mk hy168
 clear hy168
 obtain ⟨y171,hy171⟩ : ∃ y_ : List Int,y_ = (([2] : List Int)) := ⟨_,rfl⟩
 have Ny171 := Aside0.mk hy171
 clear hy171
 have A111 : nat_DivMod.f k y168 y171 = some (t174,t177,0) := by rw [Ny168.out,Ny171.out];exact A110
 clear A110
 have A110 := A111
 clear A111
 have A11 := Aside0.mk A110
 clear A110
 obtain ⟨y181,hy181⟩ : ∃ y_ : List Int,y_ = (([1] : List Int)) := ⟨_,rfl⟩
 have Ny181 := Aside0.mk hy181
 clear hy181
 have A121 : nat_DivMod.f k y181 ([] : List Int) = some (t184,t187,10) := by rw [Ny181.out];exact A120
 clear A120
 have A120 := A121
 clear A121
 have A12 := Aside0.mk A120
 clear A120
 obtain ⟨y191,hy191⟩ : ∃ y_ : List Int,y_ = (([0,1] : List Int)) := ⟨_,rfl⟩
 have Ny191 := Aside0.mk hy191
 clear hy191
 have A131 : tabardlaw1_same.f k t134 y191 = some true := by rw [Ny191.out];exact A130
 clear A130
 have A130 := A131
 clear A131
 have A13 := Aside0.mk A130
 clear A130
 obtain ⟨y195,hy195⟩ : ∃ y_ : List Int,y_ = (([4294967295] : List Int)) := ⟨_,rfl⟩
 have Ny195 := Aside0.mk hy195
 clear hy195
 have A141 : tabardlaw1_same.f k t144 y195 = some true := by rw [Ny195.out];exact A140
 clear A140
 have A140 := A141
 clear A141
 have A14 := Aside0.mk A140
 clear A140
 obtain ⟨y199,hy199⟩ : ∃ y_ : List Int,y_ = (([0,0,1] : List Int)) := ⟨_,rfl⟩
 have Ny199 := Aside0.mk hy199
 clear hy199
 have A151 : tabardlaw1_same.f k t164 y199 = some true := by rw [Ny199.out];exact A150
 clear A150
 have A150 := A151
 clear A151
 have A15 := Aside0.mk A150
 clear A150
 obtain ⟨y203,hy203⟩ : ∃ y_ : List Int,y_ = (([3] : List Int)) := ⟨_,rfl⟩
 have Ny203 := Aside0.mk hy203
 clear hy203
 have A161 : tabardlaw1_same.f k t174 y203 = some true := by rw [Ny203.out];exact A160
 clear A160
 have A160 := A161
 clear A161
 have A16 := Aside0.mk A160
 clear A160
 obtain ⟨y207,hy207⟩ : ∃ y_ : List Int,y_ = (([1] : List Int)) := ⟨_,rfl⟩
 have Ny207 := Aside0.mk hy207
 clear hy207
 have A171 : tabardlaw1_same.f k t177 y207 = some true := by rw [Ny207.out];exact A170
 clear A170
 have A170 := A171
 clear A171
 have A17 := Aside0.mk A170
 clear A170
 obtain ⟨y211,hy211⟩ : ∃ y_ : List Int,y_ = (([0,1] : List Int)) := ⟨_,rfl⟩
 have Ny211 := Aside0.mk hy211
 clear hy211
 have A181 : nat_Len.f k y211 = some 33 := by rw [Ny211.out];exact A180
 clear A180
 have A180 := A181
 clear A181
 have A18 := Aside0.mk A180
 clear A180
 obtain ⟨y215,hy215⟩ : ∃ y_ : List Int,y_ = (([1] : List Int)) := ⟨_,rfl⟩
 have Ny215 := Aside0.mk hy215
 clear hy215
 have A191 : nat_Shl.f k y215 33 = some (t218,0) := by rw [Ny215.out];exact A190
 clear A190
 have A190 := A191
 clear A191
 have A19 := Aside0.mk A190
 clear A190
 obtain ⟨y222,hy222⟩ : ∃ y_ : List Int,y_ = (([0,1] : List Int)) := ⟨_,rfl⟩
 have Ny222 := Aside0.mk hy222
 clear hy222
 have A201 : nat_Shr.f k y222 33 = some (t225,true,0) := by rw [Ny222.out];exact A200
 clear A200
 have A200 := A201
 clear A201
 have A20 := Aside0.mk A200
 clear A200
 obtain ⟨y230,hy230⟩ : ∃ y_ : List Int,y_ = (([1] : List Int)) := ⟨_,rfl⟩
 have Ny230 := Aside0.mk hy230
 clear hy230
 have A211 : nat_Shl.f k y230 8192 = some (t233,2) := by rw [Ny230.out];exact A210
 clear A210
 have A210 := A211
 clear A211
 have A21 := Aside0.mk A210
 clear A210
 have A22 := Aside0.mk A220
 clear A220
 have A23 := Aside0.mk A230
 clear A230
 have A24 := Aside0.mk A240
 clear A240
 have A25 := Aside0.mk A250
 clear A250
 obtain ⟨y253,hy253⟩ : ∃ y_ : List Int,y_ = (([0,2] : List Int)) := ⟨_,rfl⟩
 have Ny253 := Aside0.mk hy253
 clear hy253
 have A261 : tabardlaw1_same.f k t218 y253 = some true := by rw [Ny253.out];exact A260
 clear A260
 have A260 := A261
 clear A261
 have A26 := Aside0.mk A260
 clear A260
 obtain ⟨y257,hy257⟩ : ∃ y_ : List Int,y_ = (([1410065408,2] : List Int)) := ⟨_,rfl⟩
 have Ny257 := Aside0.mk hy257
 clear hy257
 have A271 : tabardlaw1_same.f k t241 y257 = some true := by rw [Ny257.out];exact A270
 clear A270
 have A270 := A271
 clear A271
 have A27 := Aside0.mk A270
 clear A270
 obtain ⟨y261,hy261⟩ : ∃ y_ : List Int,y_ = (([1] : List Int)) := ⟨_,rfl⟩
 have Ny261 := Aside0.mk hy261
 clear hy261
 have A281 : tabardlaw1_same.f k t245 y261 = some true := by rw [Ny261.out];exact A280
 clear A280
 have A280 := A281
 clear A281
 have A28 := Aside0.mk A280
 clear A280
 have A29 := Aside0.mk A290
 clear A290
 have A30 := Aside0.mk A300
 clear A300
 obtain ⟨y273,hy273⟩ : ∃ y_ : List Int,y_ = (([7] : List Int)) := ⟨_,rfl⟩
 have Ny273 := Aside0.mk hy273
 clear hy273
 have A311 : tabardlaw1_same.f k t265 y273 = some true := by rw [Ny273.out];exact A310
 clear A310
 have A310 := A311
 clear A311
 have A31 := Aside0.mk A310
 clear A310
 have c32b0 : ((t225.length : Int) == 0) = true := beq_iff_eq.mpr c32
 have c32b1 : ((t225.length : Int) != 0) = false := bne_eq_false_iff_eq.mpr c32
 clear c32
 have c33b0 : ((t225.length : Int) == 0) = true := beq_iff_eq.mpr c33
 have c33b1 : ((t225.length : Int) != 0) = false := bne_eq_false_iff_eq.mpr c33
 clear c33
 have c34b0 : ((t237.length : Int) == 0) = true := beq_iff_eq.mpr c34
 have c34b1 : ((t237.length : Int) != 0) = false := bne_eq_false_iff_eq.mpr c34
 clear c34
 have c35b0 : ((t237.length : Int) == 0) = true := beq_iff_eq.mpr c35
 have c35b1 : ((t237.length : Int) != 0) = false := bne_eq_false_iff_eq.mpr c35
 clear c35
 have c36b0 : ((t237.length : Int) == 0) = true := beq_iff_eq.mpr c36
 have c36b1 : ((t237.length : Int) != 0) = false := bne_eq_false_iff_eq.mpr c36
 clear c36
 obtain ⟨y277,hy277⟩ : ∃ y_ : List Int,y_ = (([0,1] : List Int)) := ⟨_,rfl⟩
 have Ny277 := Aside0.mk hy277
 clear hy277
 have A371 : nat_Digits.f k y277 = some (⟨#[52,50,57,52,57,54,55,50,57,54]⟩ : ByteArray) := by rw [Ny277.out];exact A370
 clear A370
 have A370 := A371
 clear A371
 have A37 := Aside0.mk A370
 clear A370
 obtain rfl := Option.some.inj H
 go_enter Tryd.func7,Tryd.ntmps7
 go_wp2_with (first | ((with_reducible refine gate_dst (N := 50) rfl ?_);(try (refine gate_guard (by rfl) ?_;dsimp only));refine Kd.R_lit (Kd.int .u32) _ 43 ?hg (N := 50) ?hd (xs := ([5,0,0] : List Int)) (inner := [.int .u32 5,.int .u32 0,.int .u32 0]) (ok := fun _ => True) (okp := fun _ => True) ?hr ?hp (fun _ hk => hk) trivial (Below.refl _ _) (Nat.le_refl _) (by simp) ?_;(case hd => rfl);(case hg => rfl);(case hr => first | (go_simp;done) | (go_simp;rfl));(case hp => exact (Reps.one (show Kd.M (Kd.int .u32) _ _ _ 5 [.int .u32 5] from rfl) (Reps.one (show Kd.M (Kd.int .u32) _ _ _ 0 [.int .u32 0] from rfl) (Reps.one (show Kd.M (Kd.int .u32) _ _ _ 0 [.int .u32 0] from rfl) (Reps.none _ _)))));intro v102 w38 ho39 hb hg_ hnew_;clear hg_ hnew_;(first | rw [← Ny101.out] at ho39 | (simp only [Int.reduceToNat] at ho39;rw [← Ny101.out] at ho39));have HO103 := Aside0.mk (Kd.R_lower ho39 (below_size bl_));replace HB := Aside0.mk (below_step bl_ hb);clear hb ho39;obtain ⟨Ao40,co40,eo40⟩ := Kd.R_slice HO103.out;subst eo40) | ((with_reducible refine gate_callee (f := 11) rfl ?_);refine goesL_ (some 51) rfl rfl Tryd.func11 (by kernel_rfl) rfl #[.slice Ao40 y101.length co40] rfl am_ ?_;(with_reducible refine (nat_Trim.calls k _ _ y101 t104 _ ?side1 ?side2 A1.out).mono ?_);(case side1 => exact ca_ (Kd.R_reads' HO103.out).2.2);(case side2 => exact (Kd.R_reads' HO103.out).2.1);rintro e w41 ⟨v105,rfl,ho0,hb⟩;refine ⟨_,rfl,?_⟩;have HO106 := Aside0.mk (Kd.R_lower (Kd.R_new' ho0 (Kd.R_lt (ra_ HO103.out))) (below_size bl_));replace HO103 := Aside0.mk (Kd.R_elder' (ra_ HO103.out) (Kd.R_base ho0) hb);replace HB := Aside0.mk (below_step bl_ hb);(try clear hb);(try clear hb2);(try clear hk);(try clear hi);(try clear ho0)) | ((with_reducible refine gate_dst (N := 52) rfl ?_);(try (refine gate_guard (by rfl) ?_;dsimp only));refine Kd.R_lit (Kd.int .u32) _ 43 ?hg (N := 52) ?hd (xs := ([5] : List Int)) (inner := [.int .u32 5]) (ok := fun _ => True) (okp := fun _ => True) ?hr ?hp (fun _ hk => hk) trivial (Below.refl _ _) (Nat.le_refl _) (by simp) ?_;(case hd => rfl);(case hg => rfl);(case hr => first | (go_simp;done) | (go_simp;rfl));(case hp => exact (Reps.one (show Kd.M (Kd.int .u32) _ _ _ 5 [.int .u32 5] from rfl) (Reps.none _ _)));intro v108 w42 ho43 hb hg_ hnew_;clear hg_ hnew_;(first | rw [← Ny107.out] at ho43 | (simp only [Int.reduceToNat] at ho43;rw [← Ny107.out] at ho43));have HO109 := Aside0.mk (Kd.R_lower (Kd.R_new' ho43 (Kd.R_lt (ra_ HO106.out))) (below_size bl_));replace HO106 := Aside0.mk (Kd.R_elder' (ra_ HO106.out) (Kd.R_base ho43) hb);replace HB := Aside0.mk (below_step bl_ hb);clear hb ho43;obtain ⟨Ao44,co44,eo44⟩ := Kd.R_slice HO106.out;subst eo44;obtain ⟨Ao45,co45,eo45⟩ := Kd.R_slice HO109.out;subst eo45) | ((with_reducible refine gate_callee (f := 21) rfl ?_);refine goesL_ (some 53) rfl rfl Tryd.func21 (by kernel_rfl) rfl #[.slice Ao44 t104.length co44,.slice Ao45 y107.length co45] rfl am_ ?_;(with_reducible refine (tabardlaw1_same.calls k _ _ t104 _ _ y107 true _ ?side1 ?side2 ?side3 ?side4 A2.out).mono ?_);(case side1 => exact ca_ (Kd.R_reads' HO106.out).2.2);(case side2 => exact (Kd.R_reads' HO106.out).2.1);(case side3 => exact ca_ (Kd.R_reads' HO109.out).2.2);(case side4 => exact (Kd.R_reads' HO109.out).2.1);rintro e w' ⟨rfl,⟨nd,rfl⟩⟩;refine ⟨_,rfl,?_⟩) | ((with_reducible refine gate_callee (f := 22) rfl ?_);refine goesL_ (some 54) rfl rfl Tryd.func22 (by kernel_rfl) rfl #[.int .u64 4294967296] rfl am_ ?_;(with_reducible refine (nat_Of.calls k 4294967296 t111 _ A3.out).mono ?_);rintro e w46 ⟨v112,rfl,ho0,hb⟩;refine ⟨_,rfl,?_⟩;have HO113 := Aside0.mk (Kd.R_lower ho0 (below_size bl_));replace HB := Aside0.mk (below_step bl_ hb);(try clear hb);(try clear hb2);(try clear hk);(try clear hi);(try clear ho0)) | ((with_reducible refine gate_dst (N := 55) rfl ?_);(try (refine gate_guard (by rfl) ?_;dsimp only));refine Kd.R_lit (Kd.int .u32) _ 43 ?hg (N := 55) ?hd (xs := ([0,1] : List Int)) (inner := [.int .u32 0,.int .u32 1]) (ok := fun _ => True) (okp := fun _ => True) ?hr ?hp (fun _ hk => hk) trivial (Below.refl _ _) (Nat.le_refl _) (by simp) ?_;(case hd => rfl);(case hg => rfl);(case hr => first | (go_simp;done) | (go_simp;rfl));(case hp => exact (Reps.one (show Kd.M (Kd.int .u32) _ _ _ 0 [.int .u32 0] from rfl) (Reps.one (show Kd.M (Kd.int .u32) _ _ _ 1 [.int .u32 1] from rfl) (Reps.none _ _))));intro v115 w47 ho48 hb hg_ hnew_;clear hg_ hnew_;(first | rw [← Ny114.out] at ho48 | (simp only [Int.reduceToNat] at ho48;rw [← Ny114.out] at ho48));have HO116 := Aside0.mk (Kd.R_lower (Kd.R_new' ho48 (Kd.R_lt (ra_ HO113.out))) (below_size bl_));replace HO113 := Aside0.mk (Kd.R_elder' (ra_ HO113.out) (Kd.R_base ho48) hb);replace HB := Aside0.mk (below_step bl_ hb);clear hb ho48;obtain ⟨Ao49,co49,eo49⟩ := Kd.R_slice HO113.out;subst eo49;obtain ⟨Ao50,co50,eo50⟩ := Kd.R_slice HO116.out;subst eo50) | ((with_reducible refine gate_callee (f := 21) rfl ?_);refine goesL_ (some 56) rfl rfl Tryd.func21 (by kernel_rfl) rfl #[.slice Ao49 t111.length co49,.slice Ao50 y114.length co50] rfl am_ ?_;(with_reducible refine (tabardlaw1_same.calls k _ _ t111 _ _ y114 true _ ?side1 ?side2 ?side3 ?side4 A4.out).mono ?_);(case side1 => exact ca_ (Kd.R_reads' HO113.out).2.2);(case side2 => exact (Kd.R_reads' HO113.out).2.1);(case side3 => exact ca_ (Kd.R_reads' HO116.out).2.2);(case side4 => exact (Kd.R_reads' HO116.out).2.1);rintro e w' ⟨rfl,⟨nd,rfl⟩⟩;refine ⟨_,rfl,?_⟩) | ((with_reducible refine gate_dst (N := 58) rfl ?_);(try (refine gate_guard (by rfl) ?_;dsimp only));refine Kd.R_lit (Kd.int .u32) _ 43 ?hg (N := 58) ?hd (xs := ([1,1] : List Int)) (inner := [.int .u32 1,.int .u32 1]) (ok := fun _ => True) (okp := fun _ => True) ?hr ?hp (fun _ hk => hk) trivial (Below.refl _ _) (Nat.le_refl _) (by simp) ?_;(case hd => rfl);(case hg => rfl);(case hr => first | (go_simp;done) | (go_simp;rfl));(case hp => exact (Reps.one (show Kd.M (Kd.int .u32) _ _ _ 1 [.int .u32 1] from rfl) (Reps.one (show Kd.M (Kd.int .u32) _ _ _ 1 [.int .u32 1] from rfl) (Reps.none _ _))));intro v119 w51 ho52 hb hg_ hnew_;clear hg_ hnew_;(first | rw [← Ny118.out] at ho52 | (simp only [Int.reduceToNat] at ho52;rw [← Ny118.out] at ho52));have HO120 := Aside0.mk (Kd.R_lower ho52 (below_size bl_));replace HB := Aside0.mk (below_step bl_ hb);clear hb ho52;obtain ⟨Ao53,co53,eo53⟩ := Kd.R_slice HO120.out;subst eo53) | ((with_reducible refine gate_callee (f := 23) rfl ?_);refine goesL_ (some 59) rfl rfl Tryd.func23 (by kernel_rfl) rfl #[.slice Ao53 y118.length co53] rfl am_ ?_;(with_reducible refine (nat_Value.calls k _ _ y118 4294967297 true _ ?side1 ?side2 A5.out).mono ?_);(case side1 => exact ca_ (Kd.R_reads' HO120.out).2.2);(case side2 => exact (Kd.R_reads' HO120.out).2.1);rintro e w' ⟨rfl,⟨nd,rfl⟩⟩;refine ⟨_,rfl,?_⟩) | ((with_reducible refine gate_dst (N := 63) rfl ?_);(try (refine gate_guard (by rfl) ?_;dsimp only));refine Kd.R_lit (Kd.int .u32) _ 43 ?hg (N := 63) ?hd (xs := ([0,0,1] : List Int)) (inner := [.int .u32 0,.int .u32 0,.int .u32 1]) (ok := fun _ => True) (okp := fun _ => True) ?hr ?hp (fun _ hk => hk) trivial (Below.refl _ _) (Nat.le_refl _) (by simp) ?_;(case hd => rfl);(case hg => rfl);(case hr => first | (go_simp;done) | (go_simp;rfl));(case hp => exact (Reps.one (show Kd.M (Kd.int .u32) _ _ _ 0 [.int .u32 0] from rfl) (Reps.one (show Kd.M (Kd.int .u32) _ _ _ 0 [.int .u32 0] from rfl) (Reps.one (show Kd.M (Kd.int .u32) _ _ _ 1 [.int .u32 1] from rfl) (Reps.none _ _)))));intro v124 w54 ho55 hb hg_ hnew_;clear hg_ hnew_;(first | rw [← Ny123.out] at ho55 | (simp only [Int.reduceToNat] at ho55;rw [← Ny123.out] at ho55));have HO125 := Aside0.mk (Kd.R_lower ho55 (below_size bl_));replace HB := Aside0.mk (below_step bl_ hb);clear hb ho55;obtain ⟨Ao56,co56,eo56⟩ := Kd.R_slice HO125.out;subst eo56) | ((with_reducible refine gate_callee (f := 23) rfl ?_);refine goesL_ (some 64) rfl rfl Tryd.func23 (by kernel_rfl) rfl #[.slice Ao56 y123.length co56] rfl am_ ?_;(with_reducible refine (nat_Value.calls k _ _ y123 0 false _ ?side1 ?side2 A6.out).mono ?_);(case side1 => exact ca_ (Kd.R_reads' HO125.out).2.2);(case side2 => exact (Kd.R_reads' HO125.out).2.1);rintro e w' ⟨rfl,⟨nd,rfl⟩⟩;refine ⟨_,rfl,?_⟩) | ((with_reducible refine gate_dst (N := 69) rfl ?_);(try (refine gate_guard (by rfl) ?_;dsimp only));refine Kd.R_lit (Kd.int .u32) _ 43 ?hg (N := 69) ?hd (xs := ([4294967295] : List Int)) (inner := [.int .u32 4294967295]) (ok := fun _ => True) (okp := fun _ => True) ?hr ?hp (fun _ hk => hk) trivial (Below.refl _ _) (Nat.le_refl _) (by simp) ?_;(case hd => rfl);(case hg => rfl);(case hr => first | (go_simp;done) | (go_simp;rfl));(case hp => exact (Reps.one (show Kd.M (Kd.int .u32) _ _ _ 4294967295 [.int .u32 4294967295] from rfl) (Reps.none _ _)));intro v129 w57 ho58 hb hg_ hnew_;clear hg_ hnew_;(first | rw [← Ny128.out] at ho58 | (simp only [Int.reduceToNat] at ho58;rw [← Ny128.out] at ho58));have HO130 := Aside0.mk (Kd.R_lower ho58 (below_size bl_));replace HB := Aside0.mk (below_step bl_ hb);clear hb ho58) | ((with_reducible refine gate_dst (N := 70) rfl ?_);(try (refine gate_guard (by rfl) ?_;dsimp only));refine Kd.R_lit (Kd.int .u32) _ 43 ?hg (N := 70) ?hd (xs := ([1] : List Int)) (inner := [.int .u32 1]) (ok := fun _ => True) (okp := fun _ => True) ?hr ?hp (fun _ hk => hk) trivial (Below.refl _ _) (Nat.le_refl _) (by simp) ?_;(case hd => rfl);(case hg => rfl);(case hr => first | (go_simp;done) | (go_simp;rfl));(case hp => exact (Reps.one (show Kd.M (Kd.int .u32) _ _ _ 1 [.int .u32 1] from rfl) (Reps.none _ _)));intro v132 w59 ho60 hb hg_ hnew_;clear hg_ hnew_;(first | rw [← Ny131.out] at ho60 | (simp only [Int.reduceToNat] at ho60;rw [← Ny131.out] at ho60));have HO133 := Aside0.mk (Kd.R_lower (Kd.R_new' ho60 (Kd.R_lt (ra_ HO130.out))) (below_size bl_));replace HO130 := Aside0.mk (Kd.R_elder' (ra_ HO130.out) (Kd.R_base ho60) hb);replace HB := Aside0.mk (below_step bl_ hb);clear hb ho60;obtain ⟨Ao61,co61,eo61⟩ := Kd.R_slice HO130.out;subst eo61;obtain ⟨Ao62,co62,eo62⟩ := Kd.R_slice HO133.out;subst eo62) | ((with_reducible refine gate_callee (f := 8) rfl ?_);refine goesL_ (some 71) rfl rfl Tryd.func8 (by kernel_rfl) rfl #[.slice Ao61 y128.length co61,.slice Ao62 y131.length co62] rfl am_ ?_;(with_reducible refine (nat_Add.calls k (fun k_ => some k_ = (.slice Ao61 y128.length co61 : Value).ownBlock) _ _ y128 (fun k_ => some k_ = (.slice Ao62 y131.length co62 : Value).ownBlock) _ _ y131 t134 0 _ ?side1 ?side2 A7.out).mono ?_);(case side1 => exact Kd.R_V (Kd.R_tight rfl (HO130.out)));(case side2 => exact Kd.R_V (Kd.R_tight rfl (HO133.out)));rintro e w63 ⟨v135,rfl,ho0,hb⟩;refine ⟨_,rfl,?_⟩;have HO136 := Aside0.mk (Kd.R_lower (Kd.R_new' (Kd.R_new' (Kd.R_mono (ok' := fun k_ => True) ho0 (fun _ hk_ => trivial)) (Kd.R_lt (ra_ HO130.out))) (Kd.R_lt (ra_ HO133.out))) (below_size bl_));replace HO130 := Aside0.mk (Kd.R_elder' (ra_ HO130.out) (Kd.R_base ho0) hb);replace HO133 := Aside0.mk (Kd.R_elder' (ra_ HO133.out) (Kd.R_base ho0) hb);replace HB := Aside0.mk (below_step bl_ hb);(try clear hb);(try clear hb2);(try clear hk);(try clear hi);(try clear ho0)) | ((with_reducible refine gate_dst (N := 75) rfl ?_);(try (refine gate_guard (by rfl) ?_;dsimp only));refine Kd.R_lit (Kd.int .u32) _ 43 ?hg (N := 75) ?hd (xs := ([0,1] : List Int)) (inner := [.int .u32 0,.int .u32 1]) (ok := fun _ => True) (okp := fun _ => True) ?hr ?hp (fun _ hk => hk) trivial (Below.refl _ _) (Nat.le_refl _) (by simp) ?_;(case hd => rfl);(case hg => rfl);(case hr => first | (go_simp;done) | (go_simp;rfl));(case hp => exact (Reps.one (show Kd.M (Kd.int .u32) _ _ _ 0 [.int .u32 0] from rfl) (Reps.one (show Kd.M (Kd.int .u32) _ _ _ 1 [.int .u32 1] from rfl) (Reps.none _ _))));intro v139 w64 ho65 hb hg_ hnew_;clear hg_ hnew_;(first | rw [← Ny138.out] at ho65 | (simp only [Int.reduceToNat] at ho65;rw [← Ny138.out] at ho65));have HO140 := Aside0.mk (Kd.R_lower (Kd.R_new' ho65 (Kd.R_lt (ra_ HO136.out))) (below_size bl_));replace HO136 := Aside0.mk (Kd.R_elder' (ra_ HO136.out) (Kd.R_base ho65) hb);replace HB := Aside0.mk (below_step bl_ hb);clear hb ho65) | ((with_reducible refine gate_dst (N := 76) rfl ?_);(try (refine gate_guard (by rfl) ?_;dsimp only));refine Kd.R_lit (Kd.int .u32) _ 43 ?hg (N := 76) ?hd (xs := ([1] : List Int)) (inner := [.int .u32 1]) (ok := fun _ => True) (okp := fun _ => True) ?hr ?hp (fun _ hk => hk) trivial (Below.refl _ _) (Nat.le_refl _) (by simp) ?_;(case hd => rfl);(case hg => rfl);(case hr => first | (go_simp;done) | (go_simp;rfl));(case hp => exact (Reps.one (show Kd.M (Kd.int .u32) _ _ _ 1 [.int .u32 1] from rfl) (Reps.none _ _)));intro v142 w66 ho67 hb hg_ hnew_;clear hg_ hnew_;(first | rw [← Ny141.out] at ho67 | (simp only [Int.reduceToNat] at ho67;rw [← Ny141.out] at ho67));have HO143 := Aside0.mk (Kd.R_lower (Kd.R_new' (Kd.R_new' ho67 (Kd.R_lt (ra_ HO136.out))) (Kd.R_lt (ra_ HO140.out))) (below_size bl_));replace HO136 := Aside0.mk (Kd.R_elder' (ra_ HO136.out) (Kd.R_base ho67) hb);replace HO140 := Aside0.mk (Kd.R_elder' (ra_ HO140.out) (Kd.R_base ho67) hb);replace HB := Aside0.mk (below_step bl_ hb);clear hb ho67;obtain ⟨Ao68,co68,eo68⟩ := Kd.R_slice HO140.out;subst eo68;obtain ⟨Ao69,co69,eo69⟩ := Kd.R_slice HO143.out;subst eo69) | ((with_reducible refine gate_callee (f := 9) rfl ?_);refine goesL_ (some 77) rfl rfl Tryd.func9 (by kernel_rfl) rfl #[.slice Ao68 y138.length co68,.slice Ao69 y141.length co69] rfl am_ ?_;(with_reducible refine (nat_Sub.calls k (fun k_ => some k_ = (.slice Ao68 y138.length co68 : Value).ownBlock) _ _ y138 (fun k_ => some k_ = (.slice Ao69 y141.length co69 : Value).ownBlock) _ _ y141 t144 0 _ ?side1 ?side2 A8.out).mono ?_);(case side1 => exact Kd.R_V (Kd.R_tight rfl (HO140.out)));(case side2 => exact Kd.R_V (Kd.R_tight rfl (HO143.out)));rintro e w70 ⟨v145,rfl,ho0,hb⟩;refine ⟨_,rfl,?_⟩;have HO146 := Aside0.mk (Kd.R_lower (Kd.R_new' (Kd.R_new' (Kd.R_new' (Kd.R_mono (ok' := fun k_ => True) ho0 (fun _ hk_ => trivial)) (Kd.R_lt (ra_ HO136.out))) (Kd.R_lt (ra_ HO140.out))) (Kd.R_lt (ra_ HO143.out))) (below_size bl_));replace HO136 := Aside0.mk (Kd.R_elder' (ra_ HO136.out) (Kd.R_base ho0) hb);replace HO140 := Aside0.mk (Kd.R_elder' (ra_ HO140.out) (Kd.R_base ho0) hb);replace HO143 := Aside0.mk (Kd.R_elder' (ra_ HO143.out) (Kd.R_base ho0) hb);replace HB := Aside0.mk (below_step bl_ hb);(try clear hb);(try clear hb2);(try clear hk);(try clear hi);(try clear ho0)) | ((with_reducible refine gate_dst (N := 81) rfl ?_);(try (refine gate_guard (by rfl) ?_;dsimp only));refine Kd.R_lit (Kd.int .u32) _ 43 ?hg (N := 81) ?hd (xs := ([1] : List Int)) (inner := [.int .u32 1]) (ok := fun _ => True) (okp := fun _ => True) ?hr ?hp (fun _ hk => hk) trivial (Below.refl _ _) (Nat.le_refl _) (by simp) ?_;(case hd => rfl);(case hg => rfl);(case hr => first | (go_simp;done) | (go_simp;rfl));(case hp => exact (Reps.one (show Kd.M (Kd.int .u32) _ _ _ 1 [.int .u32 1] from rfl) (Reps.none _ _)));intro v149 w71 ho72 hb hg_ hnew_;clear hg_ hnew_;(first | rw [← Ny148.out] at ho72 | (simp only [Int.reduceToNat] at ho72;rw [← Ny148.out] at ho72));have HO150 := Aside0.mk (Kd.R_lower (Kd.R_new' (Kd.R_new' ho72 (Kd.R_lt (ra_ HO136.out))) (Kd.R_lt (ra_ HO146.out))) (below_size bl_));replace HO136 := Aside0.mk (Kd.R_elder' (ra_ HO136.out) (Kd.R_base ho72) hb);replace HO146 := Aside0.mk (Kd.R_elder' (ra_ HO146.out) (Kd.R_base ho72) hb);replace HB := Aside0.mk (below_step bl_ hb);clear hb ho72) | ((with_reducible refine gate_dst (N := 82) rfl ?_);(try (refine gate_guard (by rfl) ?_;dsimp only));refine Kd.R_lit (Kd.int .u32) _ 43 ?hg (N := 82) ?hd (xs := ([2] : List Int)) (inner := [.int .u32 2]) (ok := fun _ => True) (okp := fun _ => True) ?hr ?hp (fun _ hk => hk) trivial (Below.refl _ _) (Nat.le_refl _) (by simp) ?_;(case hd => rfl);(case hg => rfl);(case hr => first | (go_simp;done) | (go_simp;rfl));(case hp => exact (Reps.one (show Kd.M (Kd.int .u32) _ _ _ 2 [.int .u32 2] from rfl) (Reps.none _ _)));intro v152 w73 ho74 hb hg_ hnew_;clear hg_ hnew_;(first | rw [← Ny151.out] at ho74 | (simp only [Int.reduceToNat] at ho74;rw [← Ny151.out] at ho74));have HO153 := Aside0.mk (Kd.R_lower (Kd.R_new' (Kd.R_new' (Kd.R_new' ho74 (Kd.R_lt (ra_ HO136.out))) (Kd.R_lt (ra_ HO146.out))) (Kd.R_lt (ra_ HO150.out))) (below_size bl_));replace HO136 := Aside0.mk (Kd.R_elder' (ra_ HO136.out) (Kd.R_base ho74) hb);replace HO146 := Aside0.mk (Kd.R_elder' (ra_ HO146.out) (Kd.R_base ho74) hb);replace HO150 := Aside0.mk (Kd.R_elder' (ra_ HO150.out) (Kd.R_base ho74) hb);replace HB := Aside0.mk (below_step bl_ hb);clear hb ho74;obtain ⟨Ao75,co75,eo75⟩ := Kd.R_slice HO150.out;subst eo75;obtain ⟨Ao76,co76,eo76⟩ := Kd.R_slice HO153.out;subst eo76) | ((with_reducible refine gate_callee (f := 9) rfl ?_);refine goesL_ (some 83) rfl rfl Tryd.func9 (by kernel_rfl) rfl #[.slice Ao75 y148.length co75,.slice Ao76 y151.length co76] rfl am_ ?_;(with_reducible refine (nat_Sub.calls k (fun k_ => some k_ = (.slice Ao75 y148.length co75 : Value).ownBlock) _ _ y148 (fun k_ => some k_ = (.slice Ao76 y151.length co76 : Value).ownBlock) _ _ y151 t154 6 _ ?side1 ?side2 A9.out).mono ?_);(case side1 => exact Kd.R_V (Kd.R_tight rfl (HO150.out)));(case side2 => exact Kd.R_V (Kd.R_tight rfl (HO153.out)));rintro e w77 ⟨v155,rfl,ho0,hb⟩;refine ⟨_,rfl,?_⟩;have HO156 := Aside0.mk (Kd.R_lower (Kd.R_new' (Kd.R_new' (Kd.R_new' (Kd.R_new' (Kd.R_mono (ok' := fun k_ => True) ho0 (fun _ hk_ => trivial)) (Kd.R_lt (ra_ HO136.out))) (Kd.R_lt (ra_ HO146.out))) (Kd.R_lt (ra_ HO150.out))) (Kd.R_lt (ra_ HO153.out))) (below_size bl_));replace HO136 := Aside0.mk (Kd.R_elder' (ra_ HO136.out) (Kd.R_base ho0) hb);replace HO146 := Aside0.mk (Kd.R_elder' (ra_ HO146.out) (Kd.R_base ho0) hb);replace HO150 := Aside0.mk (Kd.R_elder' (ra_ HO150.out) (Kd.R_base ho0) hb);replace HO153 := Aside0.mk (Kd.R_elder' (ra_ HO153.out) (Kd.R_base ho0) hb);replace HB := Aside0.mk (below_step bl_ hb);(try clear hb);(try clear hb2);(try clear hk);(try clear hi);(try clear ho0)) | ((with_reducible refine gate_dst (N := 87) rfl ?_);(try (refine gate_guard (by rfl) ?_;dsimp only));refine Kd.R_lit (Kd.int .u32) _ 43 ?hg (N := 87) ?hd (xs := ([0,1] : List Int)) (inner := [.int .u32 0,.int .u32 1]) (ok := fun _ => True) (okp := fun _ => True) ?hr ?hp (fun _ hk => hk) trivial (Below.refl _ _) (Nat.le_refl _) (by simp) ?_;(case hd => rfl);(case hg => rfl);(case hr => first | (go_simp;done) | (go_simp;rfl));(case hp => exact (Reps.one (show Kd.M (Kd.int .u32) _ _ _ 0 [.int .u32 0] from rfl) (Reps.one (show Kd.M (Kd.int .u32) _ _ _ 1 [.int .u32 1] from rfl) (Reps.none _ _))));intro v159 w78 ho79 hb hg_ hnew_;clear hg_ hnew_;(first | rw [← Ny158.out] at ho79 | (simp only [Int.reduceToNat] at ho79;rw [← Ny158.out] at ho79));have HO160 := Aside0.mk (Kd.R_lower (Kd.R_new' (Kd.R_new' ho79 (Kd.R_lt (ra_ HO136.out))) (Kd.R_lt (ra_ HO146.out))) (below_size bl_));replace HO136 := Aside0.mk (Kd.R_elder' (ra_ HO136.out) (Kd.R_base ho79) hb);replace HO146 := Aside0.mk (Kd.R_elder' (ra_ HO146.out) (Kd.R_base ho79) hb);replace HB := Aside0.mk (below_step bl_ hb);clear hb ho79) | ((with_reducible refine gate_dst (N := 88) rfl ?_);(try (refine gate_guard (by rfl) ?_;dsimp only));refine Kd.R_lit (Kd.int .u32) _ 43 ?hg (N := 88) ?hd (xs := ([0,1] : List Int)) (inner := [.int .u32 0,.int .u32 1]) (ok := fun _ => True) (okp := fun _ => True) ?hr ?hp (fun _ hk => hk) trivial (Below.refl _ _) (Nat.le_refl _) (by simp) ?_;(case hd => rfl);(case hg => rfl);(case hr => first | (go_simp;done) | (go_simp;rfl));(case hp => exact (Reps.one (show Kd.M (Kd.int .u32) _ _ _ 0 [.int .u32 0] from rfl) (Reps.one (show Kd.M (Kd.int .u32) _ _ _ 1 [.int .u32 1] from rfl) (Reps.none _ _))));intro v162 w80 ho81 hb hg_ hnew_;clear hg_ hnew_;(first | rw [← Ny161.out] at ho81 | (simp only [Int.reduceToNat] at ho81;rw [← Ny161.out] at ho81));have HO163 := Aside0.mk (Kd.R_lower (Kd.R_new' (Kd.R_new' (Kd.R_new' ho81 (Kd.R_lt (ra_ HO136.out))) (Kd.R_lt (ra_ HO146.out))) (Kd.R_lt (ra_ HO160.out))) (below_size bl_));replace HO136 := Aside0.mk (Kd.R_elder' (ra_ HO136.out) (Kd.R_base ho81) hb);replace HO146 := Aside0.mk (Kd.R_elder' (ra_ HO146.out) (Kd.R_base ho81) hb);replace HO160 := Aside0.mk (Kd.R_elder' (ra_ HO160.out) (Kd.R_base ho81) hb);replace HB := Aside0.mk (below_step bl_ hb);clear hb ho81;obtain ⟨Ao82,co82,eo82⟩ := Kd.R_slice HO160.out;subst eo82;obtain ⟨Ao83,co83,eo83⟩ := Kd.R_slice HO163.out;subst eo83) | ((with_reducible refine gate_callee (f := 12) rfl ?_);refine goesL_ (some 89) rfl rfl Tryd.func12 (by kernel_rfl) rfl #[.slice Ao82 y158.length co82,.slice Ao83 y161.length co83] rfl am_ ?_;(with_reducible refine (nat_Mul.calls k (fun k_ => some k_ = (.slice Ao82 y158.length co82 : Value).ownBlock) _ _ y158 (fun k_ => some k_ = (.slice Ao83 y161.length co83 : Value).ownBlock) _ _ y161 t164 0 _ ?side1 ?side2 A10.out).mono ?_);(case side1 => exact Kd.R_V (Kd.R_tight rfl (HO160.out)));(case side2 => exact Kd.R_V (Kd.R_tight rfl (HO163.out)));rintro e w84 ⟨v165,rfl,ho0,hb⟩;refine ⟨_,rfl,?_⟩;have HO166 := Aside0.mk (Kd.R_lower (Kd.R_new' (Kd.R_new' (Kd.R_new' (Kd.R_new' (Kd.R_mono (ok' := fun k_ => True) ho0 (fun _ hk_ => trivial)) (Kd.R_lt (ra_ HO136.out))) (Kd.R_lt (ra_ HO146.out))) (Kd.R_lt (ra_ HO160.out))) (Kd.R_lt (ra_ HO163.out))) (below_size bl_));replace HO136 := Aside0.mk (Kd.R_elder' (ra_ HO136.out) (Kd.R_base ho0) hb);replace HO146 := Aside0.mk (Kd.R_elder' (ra_ HO146.out) (Kd.R_base ho0) hb);replace HO160 := Aside0.mk (Kd.R_elder' (ra_ HO160.out) (Kd.R_base ho0) hb);replace HO163 := Aside0.mk (Kd.R_elder' (ra_ HO163.out) (Kd.R_base ho0) hb);replace HB := Aside0.mk (below_step bl_ hb);(try clear hb);(try clear hb2);(try clear hk);(try clear hi);(try clear ho0)) | ((with_reducible refine gate_dst (N := 93) rfl ?_);(try (refine gate_guard (by rfl) ?_;dsimp only));refine Kd.R_lit (Kd.int .u32) _ 43 ?hg (N := 93) ?hd (xs := ([7] : List Int)) (inner := [.int .u32 7]) (ok := fun _ => True) (okp := fun _ => True) ?hr ?hp (fun _ hk => hk) trivial (Below.refl _ _) (Nat.le_refl _) (by simp) ?_;(case hd => rfl);(case hg => rfl);(case hr => first | (go_simp;done) | (go_simp;rfl));(case hp => exact (Reps.one (show Kd.M (Kd.int .u32) _ _ _ 7 [.int .u32 7] from rfl) (Reps.none _ _)));intro v169 w85 ho86 hb hg_ hnew_;clear hg_ hnew_;(first | rw [← Ny168.out] at ho86 | (simp only [Int.reduceToNat] at ho86;rw [← Ny168.out] at ho86));have HO170 := Aside0.mk (Kd.R_lower (Kd.R_new' (Kd.R_new' (Kd.R_new' ho86 (Kd.R_lt (ra_ HO136.out))) (Kd.R_lt (ra_ HO146.out))) (Kd.R_lt (ra_ HO166.out))) (below_size bl_));replace HO136 := Aside0.mk (Kd.R_elder' (ra_ HO136.out) (Kd.R_base ho86) hb);replace HO146 := Aside0.mk (Kd.R_elder' (ra_ HO146.out) (Kd.R_base ho86) hb);replace HO166 := Aside0.mk (Kd.R_elder' (ra_ HO166.out) (Kd.R_base ho86) hb);replace HB := Aside0.mk (below_step bl_ hb);clear hb ho86) | ((with_reducible refine gate_dst (N := 94) rfl ?_);(try (refine gate_guard (by rfl) ?_;dsimp only));refine Kd.R_lit (Kd.int .u32) _ 43 ?hg (N := 94) ?hd (xs := ([2] : List Int)) (inner := [.int .u32 2]) (ok := fun _ => True) (okp := fun _ => True) ?hr ?hp (fun _ hk => hk) trivial (Below.refl _ _) (Nat.le_refl _) (by simp) ?_;(case hd => rfl);(case hg => rfl);(case hr => first | (go_simp;done) | (go_simp;rfl));(case hp => exact (Reps.one (show Kd.M (Kd.int .u32) _ _ _ 2 [.int .u32 2] from rfl) (Reps.none _ _)));intro v172 w87 ho88 hb hg_ hnew_;clear hg_ hnew_;(first | rw [← Ny171.out] at ho88 | (simp only [Int.reduceToNat] at ho88;rw [← Ny171.out] at ho88));have HO173 := Aside0.mk (Kd.R_lower (Kd.R_new' (Kd.R_new' (Kd.R_new' (Kd.R_new' ho88 (Kd.R_lt (ra_ HO136.out))) (Kd.R_lt (ra_ HO146.out))) (Kd.R_lt (ra_ HO166.out))) (Kd.R_lt (ra_ HO170.out))) (below_size bl_));replace HO136 := Aside0.mk (Kd.R_elder' (ra_ HO136.out) (Kd.R_base ho88) hb);replace HO146 := Aside0.mk (Kd.R_elder' (ra_ HO146.out) (Kd.R_base ho88) hb);replace HO166 := Aside0.mk (Kd.R_elder' (ra_ HO166.out) (Kd.R_base ho88) hb);replace HO170 := Aside0.mk (Kd.R_elder' (ra_ HO170.out) (Kd.R_base ho88) hb);replace HB := Aside0.mk (below_step bl_ hb);clear hb ho88;obtain ⟨Ao89,co89,eo89⟩ := Kd.R_slice HO170.out;subst eo89;obtain ⟨Ao90,co90,eo90⟩ := Kd.R_slice HO173.out;subst eo90) | ((with_reducible refine gate_callee (f := 13) rfl ?_);refine goesL_ (some 95) rfl rfl Tryd.func13 (by kernel_rfl) rfl #[.slice Ao89 y168.length co89,.slice Ao90 y171.length co90] rfl am_ ?_;(with_reducible refine (nat_DivMod.calls k (fun k_ => some k_ = (.slice Ao89 y168.length co89 : Value).ownBlock) _ _ y168 (fun k_ => some k_ = (.slice Ao90 y171.length co90 : Value).ownBlock) _ _ y171 t174 t177 0 _ ?side1 ?side2 A11.out).mono ?_);(case side1 => exact Kd.R_V (Kd.R_tight rfl (HO170.out)));(case side2 => exact Kd.R_V (Kd.R_tight rfl (HO173.out)));rintro e w91 ⟨v175,v178,rfl,ho0,ho1,hb⟩;refine ⟨_,rfl,?_⟩;have HO176 := Aside0.mk (Kd.R_lower (Kd.R_new' (Kd.R_new' (Kd.R_new' (Kd.R_new' (Kd.R_new' (Kd.R_mono (ok' := fun k_ => some k_ ≠ (v178 : Value).ownBlock) ho0 (fun _ hk_ => hk_.2)) (Kd.R_lt (ra_ HO136.out))) (Kd.R_lt (ra_ HO146.out))) (Kd.R_lt (ra_ HO166.out))) (Kd.R_lt (ra_ HO170.out))) (Kd.R_lt (ra_ HO173.out))) (below_size bl_));have HO179 := Aside0.mk (Kd.R_lower (Kd.R_new' (Kd.R_new' (Kd.R_new' (Kd.R_new' (Kd.R_new' (Kd.R_mono (ok' := fun k_ => some k_ ≠ (v175 : Value).ownBlock) ho1 (fun _ hk_ => hk_.2)) (Kd.R_lt (ra_ HO136.out))) (Kd.R_lt (ra_ HO146.out))) (Kd.R_lt (ra_ HO166.out))) (Kd.R_lt (ra_ HO170.out))) (Kd.R_lt (ra_ HO173.out))) (below_size bl_));replace HO136 := Aside0.mk (Kd.R_mono (Kd.R_told (Kd.R_told (Kd.R_old (ra_ HO136.out) hb) (Kd.R_base ho0)) (Kd.R_base ho1)) (fun _ h_ => h_.1));replace HO146 := Aside0.mk (Kd.R_mono (Kd.R_told (Kd.R_told (Kd.R_old (ra_ HO146.out) hb) (Kd.R_base ho0)) (Kd.R_base ho1)) (fun _ h_ => h_.1));replace HO166 := Aside0.mk (Kd.R_mono (Kd.R_told (Kd.R_told (Kd.R_old (ra_ HO166.out) hb) (Kd.R_base ho0)) (Kd.R_base ho1)) (fun _ h_ => h_.1));replace HO170 := Aside0.mk (Kd.R_mono (Kd.R_told (Kd.R_told (Kd.R_old (ra_ HO170.out) hb) (Kd.R_base ho0)) (Kd.R_base ho1)) (fun _ h_ => h_.1));replace HO173 := Aside0.mk (Kd.R_mono (Kd.R_told (Kd.R_told (Kd.R_old (ra_ HO173.out) hb) (Kd.R_base ho0)) (Kd.R_base ho1)) (fun _ h_ => h_.1));replace HB := Aside0.mk (below_step bl_ hb);(try clear hb);(try clear hb2);(try clear hk);(try clear hi);(try clear ho0);(try clear ho1)) | ((with_reducible refine gate_dst (N := 100) rfl ?_);(try (refine gate_guard (by rfl) ?_;dsimp only));refine Kd.R_lit (Kd.int .u32) _ 43 ?hg (N := 100) ?hd (xs := ([1] : List Int)) (inner := [.int .u32 1]) (ok := fun _ => True) (okp := fun _ => True) ?hr ?hp (fun _ hk => hk) trivial (Below.refl _ _) (Nat.le_refl _) (by simp) ?_;(case hd => rfl);(case hg => rfl);(case hr => first | (go_simp;done) | (go_simp;rfl));(case hp => exact (Reps.one (show Kd.M (Kd.int .u32) _ _ _ 1 [.int .u32 1] from rfl) (Reps.none _ _)));intro v182 w92 ho93 hb hg_ hnew_;clear hg_ hnew_;(first | rw [← Ny181.out] at ho93 | (simp only [Int.reduceToNat] at ho93;rw [← Ny181.out] at ho93));have HO183 := Aside0.mk (Kd.R_lower (Kd.R_new' (Kd.R_new' (Kd.R_new' (Kd.R_new' (Kd.R_new' ho93 (Kd.R_lt (ra_ HO136.out))) (Kd.R_lt (ra_ HO146.out))) (Kd.R_lt (ra_ HO166.out))) (Kd.R_lt (ra_ HO176.out))) (Kd.R_lt (ra_ HO179.out))) (below_size bl_));replace HO136 := Aside0.mk (Kd.R_elder' (ra_ HO136.out) (Kd.R_base ho93) hb);replace HO146 := Aside0.mk (Kd.R_elder' (ra_ HO146.out) (Kd.R_base ho93) hb);replace HO166 := Aside0.mk (Kd.R_elder' (ra_ HO166.out) (Kd.R_base ho93) hb);replace HO176 := Aside0.mk (Kd.R_elder' (ra_ HO176.out) (Kd.R_base ho93) hb);replace HO179 := Aside0.mk (Kd.R_elder' (ra_ HO179.out) (Kd.R_base ho93) hb);replace HB := Aside0.mk (below_step bl_ hb);clear hb ho93;obtain ⟨Ao94,co94,eo94⟩ := Kd.R_slice HO183.out;subst eo94) | ((with_reducible refine gate_callee (f := 13) rfl ?_);refine goesL_ (some 101) rfl rfl Tryd.func13 (by kernel_rfl) rfl #[.slice Ao94 y181.length co94,.slice none 0 0] rfl am_ ?_;(refine (nat_DivMod.calls k (fun k_ => some k_ = (.slice Ao94 y181.length co94 : Value).ownBlock) _ _ y181 (fun k_ => False) _ _ ([] : List Int) t184 t187 10 _ ?side1 ?side2 A12.out).mono ?_);(case side1 => exact Kd.R_V (Kd.R_tight rfl (HO183.out)));(case side2 => exact Kd.V_nil _ _ _ _ _);rintro e w95 ⟨v185,v188,rfl,ho0,ho1,hb⟩;refine ⟨_,rfl,?_⟩;have HO186 := Aside0.mk (Kd.R_lower (Kd.R_new' (Kd.R_new' (Kd.R_new' (Kd.R_new' (Kd.R_new' (Kd.R_new' (Kd.R_mono (ok' := fun k_ => some k_ ≠ (v188 : Value).ownBlock) ho0 (fun _ hk_ => hk_.2)) (Kd.R_lt (ra_ HO136.out))) (Kd.R_lt (ra_ HO146.out))) (Kd.R_lt (ra_ HO166.out))) (Kd.R_lt (ra_ HO176.out))) (Kd.R_lt (ra_ HO179.out))) (Kd.R_lt (ra_ HO183.out))) (below_size bl_));have HO189 := Aside0.mk (Kd.R_lower (Kd.R_new' (Kd.R_new' (Kd.R_new' (Kd.R_new' (Kd.R_new' (Kd.R_new' (Kd.R_mono (ok' := fun k_ => some k_ ≠ (v185 : Value).ownBlock) ho1 (fun _ hk_ => hk_.2)) (Kd.R_lt (ra_ HO136.out))) (Kd.R_lt (ra_ HO146.out))) (Kd.R_lt (ra_ HO166.out))) (Kd.R_lt (ra_ HO176.out))) (Kd.R_lt (ra_ HO179.out))) (Kd.R_lt (ra_ HO183.out))) (below_size bl_));replace HO136 := Aside0.mk (Kd.R_mono (Kd.R_told (Kd.R_told (Kd.R_old (ra_ HO136.out) hb) (Kd.R_base ho0)) (Kd.R_base ho1)) (fun _ h_ => h_.1));replace HO146 := Aside0.mk (Kd.R_mono (Kd.R_told (Kd.R_told (Kd.R_old (ra_ HO146.out) hb) (Kd.R_base ho0)) (Kd.R_base ho1)) (fun _ h_ => h_.1));replace HO166 := Aside0.mk (Kd.R_mono (Kd.R_told (Kd.R_told (Kd.R_old (ra_ HO166.out) hb) (Kd.R_base ho0)) (Kd.R_base ho1)) (fun _ h_ => h_.1));replace HO176 := Aside0.mk (Kd.R_mono (Kd.R_told (Kd.R_told (Kd.R_old (ra_ HO176.out) hb) (Kd.R_base ho0)) (Kd.R_base ho1)) (fun _ h_ => h_.1));replace HO179 := Aside0.mk (Kd.R_mono (Kd.R_told (Kd.R_told (Kd.R_old (ra_ HO179.out) hb) (Kd.R_base ho0)) (Kd.R_base ho1)) (fun _ h_ => h_.1));replace HO183 := Aside0.mk (Kd.R_mono (Kd.R_told (Kd.R_told (Kd.R_old (ra_ HO183.out) hb) (Kd.R_base ho0)) (Kd.R_base ho1)) (fun _ h_ => h_.1));replace HB := Aside0.mk (below_step bl_ hb);(try clear hb);(try clear hb2);(try clear hk);(try clear hi);(try clear ho0);(try clear ho1)) | ((with_reducible refine gate_dst (N := 106) rfl ?_);(try (refine gate_guard (by rfl) ?_;dsimp only));refine Kd.R_lit (Kd.int .u32) _ 43 ?hg (N := 106) ?hd (xs := ([0,1] : List Int)) (inner := [.int .u32 0,.int .u32 1]) (ok := fun _ => True) (okp := fun _ => True) ?hr ?hp (fun _ hk => hk) trivial (Below.refl _ _) (Nat.le_refl _) (by simp) ?_;(case hd => rfl);(case hg => rfl);(case hr => first | (go_simp;done) | (go_simp;rfl));(case hp => exact (Reps.one (show Kd.M (Kd.int .u32) _ _ _ 0 [.int .u32 0] from rfl) (Reps.one (show Kd.M (Kd.int .u32) _ _ _ 1 [.int .u32 1] from rfl) (Reps.none _ _))));intro v192 w96 ho97 hb hg_ hnew_;clear hg_ hnew_;(first | rw [← Ny191.out] at ho97 | (simp only [Int.reduceToNat] at ho97;rw [← Ny191.out] at ho97));have HO193 := Aside0.mk (Kd.R_lower (Kd.R_new' (Kd.R_new' (Kd.R_new' (Kd.R_new' (Kd.R_new' ho97 (Kd.R_lt (ra_ HO136.out))) (Kd.R_lt (ra_ HO146.out))) (Kd.R_lt (ra_ HO166.out))) (Kd.R_lt (ra_ HO176.out))) (Kd.R_lt (ra_ HO179.out))) (below_size bl_));replace HO136 := Aside0.mk (Kd.R_elder' (ra_ HO136.out) (Kd.R_base ho97) hb);replace HO146 := Aside0.mk (Kd.R_elder' (ra_ HO146.out) (Kd.R_base ho97) hb);replace HO166 := Aside0.mk (Kd.R_elder' (ra_ HO166.out) (Kd.R_base ho97) hb);replace HO176 := Aside0.mk (Kd.R_elder' (ra_ HO176.out) (Kd.R_base ho97) hb);replace HO179 := Aside0.mk (Kd.R_elder' (ra_ HO179.out) (Kd.R_base ho97) hb);replace HB := Aside0.mk (below_step bl_ hb);clear hb ho97;obtain ⟨Ao98,co98,eo98⟩ := Kd.R_slice HO136.out;subst eo98;obtain ⟨Ao99,co99,eo99⟩ := Kd.R_slice HO193.out;subst eo99) | ((with_reducible refine gate_callee (f := 21) rfl ?_);refine goesL_ (some 107) rfl rfl Tryd.func21 (by kernel_rfl) rfl #[.slice Ao98 t134.length co98,.slice Ao99 y191.length co99] rfl am_ ?_;(with_reducible refine (tabardlaw1_same.calls k _ _ t134 _ _ y191 true _ ?side1 ?side2 ?side3 ?side4 A13.out).mono ?_);(case side1 => exact ca_ (Kd.R_reads' HO136.out).2.2);(case side2 => exact (Kd.R_reads' HO136.out).2.1);(case side3 => exact ca_ (Kd.R_reads' HO193.out).2.2);(case side4 => exact (Kd.R_reads' HO193.out).2.1);rintro e w' ⟨rfl,⟨nd,rfl⟩⟩;refine ⟨_,rfl,?_⟩) | ((with_reducible refine gate_dst (N := 110) rfl ?_);(try (refine gate_guard (by rfl) ?_;dsimp only));refine Kd.R_lit (Kd.int .u32) _ 43 ?hg (N := 110) ?hd (xs := ([4294967295] : List Int)) (inner := [.int .u32 4294967295]) (ok := fun _ => True) (okp := fun _ => True) ?hr ?hp (fun _ hk => hk) trivial (Below.refl _ _) (Nat.le_refl _) (by simp) ?_;(case hd => rfl);(case hg => rfl);(case hr => first | (go_simp;done) | (go_simp;rfl));(case hp => exact (Reps.one (show Kd.M (Kd.int .u32) _ _ _ 4294967295 [.int .u32 4294967295] from rfl) (Reps.none _ _)));intro v196 w100 ho101 hb hg_ hnew_;clear hg_ hnew_;(first | rw [← Ny195.out] at ho101 | (simp only [Int.reduceToNat] at ho101;rw [← Ny195.out] at ho101));have HO197 := Aside0.mk (Kd.R_lower (Kd.R_new' (Kd.R_new' (Kd.R_new' (Kd.R_new' ho101 (Kd.R_lt (ra_ HO146.out))) (Kd.R_lt (ra_ HO166.out))) (Kd.R_lt (ra_ HO176.out))) (Kd.R_lt (ra_ HO179.out))) (below_size bl_));replace HO146 := Aside0.mk (Kd.R_elder' (ra_ HO146.out) (Kd.R_base ho101) hb);replace HO166 := Aside0.mk (Kd.R_elder' (ra_ HO166.out) (Kd.R_base ho101) hb);replace HO176 := Aside0.mk (Kd.R_elder' (ra_ HO176.out) (Kd.R_base ho101) hb);replace HO179 := Aside0.mk (Kd.R_elder' (ra_ HO179.out) (Kd.R_base ho101) hb);replace HB := Aside0.mk (below_step bl_ hb);clear hb ho101;obtain ⟨Ao102,co102,eo102⟩ := Kd.R_slice HO146.out;subst eo102;obtain ⟨Ao103,co103,eo103⟩ := Kd.R_slice HO197.out;subst eo103) | ((with_reducible refine gate_callee (f := 21) rfl ?_);refine goesL_ (some 111) rfl rfl Tryd.func21 (by kernel_rfl) rfl #[.slice Ao102 t144.length co102,.slice Ao103 y195.length co103] rfl am_ ?_;(with_reducible refine (tabardlaw1_same.calls k _ _ t144 _ _ y195 true _ ?side1 ?side2 ?side3 ?side4 A14.out).mono ?_);(case side1 => exact ca_ (Kd.R_reads' HO146.out).2.2);(case side2 => exact (Kd.R_reads' HO146.out).2.1);(case side3 => exact ca_ (Kd.R_reads' HO197.out).2.2);(case side4 => exact (Kd.R_reads' HO197.out).2.1);rintro e w' ⟨rfl,⟨nd,rfl⟩⟩;refine ⟨_,rfl,?_⟩) | ((with_reducible refine gate_dst (N := 113) rfl ?_);(try (refine gate_guard (by rfl) ?_;dsimp only));refine Kd.R_lit (Kd.int .u32) _ 43 ?hg (N := 113) ?hd (xs := ([0,0,1] : List Int)) (inner := [.int .u32 0,.int .u32 0,.int .u32 1]) (ok := fun _ => True) (okp := fun _ => True) ?hr ?hp (fun _ hk => hk) trivial (Below.refl _ _) (Nat.le_refl _) (by simp) ?_;(case hd => rfl);(case hg => rfl);(case hr => first | (go_simp;done) | (go_simp;rfl));(case hp => exact (Reps.one (show Kd.M (Kd.int .u32) _ _ _ 0 [.int .u32 0] from rfl) (Reps.one (show Kd.M (Kd.int .u32) _ _ _ 0 [.int .u32 0] from rfl) (Reps.one (show Kd.M (Kd.int .u32) _ _ _ 1 [.int .u32 1] from rfl) (Reps.none _ _)))));intro v200 w104 ho105 hb hg_ hnew_;clear hg_ hnew_;(first | rw [← Ny199.out] at ho105 | (simp only [Int.reduceToNat] at ho105;rw [← Ny199.out] at ho105));have HO201 := Aside0.mk (Kd.R_lower (Kd.R_new' (Kd.R_new' (Kd.R_new' ho105 (Kd.R_lt (ra_ HO166.out))) (Kd.R_lt (ra_ HO176.out))) (Kd.R_lt (ra_ HO179.out))) (below_size bl_));replace HO166 := Aside0.mk (Kd.R_elder' (ra_ HO166.out) (Kd.R_base ho105) hb);replace HO176 := Aside0.mk (Kd.R_elder' (ra_ HO176.out) (Kd.R_base ho105) hb);replace HO179 := Aside0.mk (Kd.R_elder' (ra_ HO179.out) (Kd.R_base ho105) hb);replace HB := Aside0.mk (below_step bl_ hb);clear hb ho105;obtain ⟨Ao106,co106,eo106⟩ := Kd.R_slice HO166.out;subst eo106;obtain ⟨Ao107,co107,eo107⟩ := Kd.R_slice HO201.out;subst eo107) | ((with_reducible refine gate_callee (f := 21) rfl ?_);refine goesL_ (some 114) rfl rfl Tryd.func21 (by kernel_rfl) rfl #[.slice Ao106 t164.length co106,.slice Ao107 y199.length co107] rfl am_ ?_;(with_reducible refine (tabardlaw1_same.calls k _ _ t164 _ _ y199 true _ ?side1 ?side2 ?side3 ?side4 A15.out).mono ?_);(case side1 => exact ca_ (Kd.R_reads' HO166.out).2.2);(case side2 => exact (Kd.R_reads' HO166.out).2.1);(case side3 => exact ca_ (Kd.R_reads' HO201.out).2.2);(case side4 => exact (Kd.R_reads' HO201.out).2.1);rintro e w' ⟨rfl,⟨nd,rfl⟩⟩;refine ⟨_,rfl,?_⟩) | ((with_reducible refine gate_dst (N := 116) rfl ?_);(try (refine gate_guard (by rfl) ?_;dsimp only));refine Kd.R_lit (Kd.int .u32) _ 43 ?hg (N := 116) ?hd (xs := ([3] : List Int)) (inner := [.int .u32 3]) (ok := fun _ => True) (okp := fun _ => True) ?hr ?hp (fun _ hk => hk) trivial (Below.refl _ _) (Nat.le_refl _) (by simp) ?_;(case hd => rfl);(case hg => rfl);(case hr => first | (go_simp;done) | (go_simp;rfl));(case hp => exact (Reps.one (show Kd.M (Kd.int .u32) _ _ _ 3 [.int .u32 3] from rfl) (Reps.none _ _)));intro v204 w108 ho109 hb hg_ hnew_;clear hg_ hnew_;(first | rw [← Ny203.out] at ho109 | (simp only [Int.reduceToNat] at ho109;rw [← Ny203.out] at ho109));have HO205 := Aside0.mk (Kd.R_lower (Kd.R_new' (Kd.R_new' ho109 (Kd.R_lt (ra_ HO176.out))) (Kd.R_lt (ra_ HO179.out))) (below_size bl_));replace HO176 := Aside0.mk (Kd.R_elder' (ra_ HO176.out) (Kd.R_base ho109) hb);replace HO179 := Aside0.mk (Kd.R_elder' (ra_ HO179.out) (Kd.R_base ho109) hb);replace HB := Aside0.mk (below_step bl_ hb);clear hb ho109;obtain ⟨Ao110,co110,eo110⟩ := Kd.R_slice HO176.out;subst eo110;obtain ⟨Ao111,co111,eo111⟩ := Kd.R_slice HO205.out;subst eo111) | ((with_reducible refine gate_callee (f := 21) rfl ?_);refine goesL_ (some 117) rfl rfl Tryd.func21 (by kernel_rfl) rfl #[.slice Ao110 t174.length co110,.slice Ao111 y203.length co111] rfl am_ ?_;(with_reducible refine (tabardlaw1_same.calls k _ _ t174 _ _ y203 true _ ?side1 ?side2 ?side3 ?side4 A16.out).mono ?_);(case side1 => exact ca_ (Kd.R_reads' HO176.out).2.2);(case side2 => exact (Kd.R_reads' HO176.out).2.1);(case side3 => exact ca_ (Kd.R_reads' HO205.out).2.2);(case side4 => exact (Kd.R_reads' HO205.out).2.1);rintro e w' ⟨rfl,⟨nd,rfl⟩⟩;refine ⟨_,rfl,?_⟩) | ((with_reducible refine gate_dst (N := 119) rfl ?_);(try (refine gate_guard (by rfl) ?_;dsimp only));refine Kd.R_lit (Kd.int .u32) _ 43 ?hg (N := 119) ?hd (xs := ([1] : List Int)) (inner := [.int .u32 1]) (ok := fun _ => True) (okp := fun _ => True) ?hr ?hp (fun _ hk => hk) trivial (Below.refl _ _) (Nat.le_refl _) (by simp) ?_;(case hd => rfl);(case hg => rfl);(case hr => first | (go_simp;done) | (go_simp;rfl));(case hp => exact (Reps.one (show Kd.M (Kd.int .u32) _ _ _ 1 [.int .u32 1] from rfl) (Reps.none _ _)));intro v208 w112 ho113 hb hg_ hnew_;clear hg_ hnew_;(first | rw [← Ny207.out] at ho113 | (simp only [Int.reduceToNat] at ho113;rw [← Ny207.out] at ho113));have HO209 := Aside0.mk (Kd.R_lower (Kd.R_new' ho113 (Kd.R_lt (ra_ HO179.out))) (below_size bl_));replace HO179 := Aside0.mk (Kd.R_elder' (ra_ HO179.out) (Kd.R_base ho113) hb);replace HB := Aside0.mk (below_step bl_ hb);clear hb ho113;obtain ⟨Ao114,co114,eo114⟩ := Kd.R_slice HO179.out;subst eo114;obtain ⟨Ao115,co115,eo115⟩ := Kd.R_slice HO209.out;subst eo115) | ((with_reducible refine gate_callee (f := 21) rfl ?_);refine goesL_ (some 120) rfl rfl Tryd.func21 (by kernel_rfl) rfl #[.slice Ao114 t177.length co114,.slice Ao115 y207.length co115] rfl am_ ?_;(with_reducible refine (tabardlaw1_same.calls k _ _ t177 _ _ y207 true _ ?side1 ?side2 ?side3 ?side4 A17.out).mono ?_);(case side1 => exact ca_ (Kd.R_reads' HO179.out).2.2);(case side2 => exact (Kd.R_reads' HO179.out).2.1);(case side3 => exact ca_ (Kd.R_reads' HO209.out).2.2);(case side4 => exact (Kd.R_reads' HO209.out).2.1);rintro e w' ⟨rfl,⟨nd,rfl⟩⟩;refine ⟨_,rfl,?_⟩) | (go_at_call 14;(refine (nat_Len.calls k _ _ ([0,1] : List Int) 33 _ ?side1 ?side2 (by have h_ := A18.out;rw [Ny211.out] at h_;exact h_)).mono ?_);(case side1 => exact lit01_C _);(case side2 => exact Nat.le_refl _);rintro e w' ⟨rfl,⟨nd,rfl⟩⟩) | ((with_reducible refine gate_dst (N := 188) rfl ?_);(try (refine gate_guard (by rfl) ?_;dsimp only));refine Kd.R_lit (Kd.int .u32) _ 43 ?hg (N := 188) ?hd (xs := ([1] : List Int)) (inner := [.int .u32 1]) (ok := fun _ => True) (okp := fun _ => True) ?hr ?hp (fun _ hk => hk) trivial (Below.refl _ _) (Nat.le_refl _) (by simp) ?_;(case hd => rfl);(case hg => rfl);(case hr => first | (go_simp;done) | (go_simp;rfl));(case hp => exact (Reps.one (show Kd.M (Kd.int .u32) _ _ _ 1 [.int .u32 1] from rfl) (Reps.none _ _)));intro v216 w119 ho120 hb hg_ hnew_;clear hg_ hnew_;(first | rw [← Ny215.out] at ho120 | (simp only [Int.reduceToNat] at ho120;rw [← Ny215.out] at ho120));have HO217 := Aside0.mk (Kd.R_lower ho120 (below_size bl_));replace HB := Aside0.mk (below_step bl_ hb);clear hb ho120;obtain ⟨Ao121,co121,eo121⟩ := Kd.R_slice HO217.out;subst eo121) | ((with_reducible refine gate_callee (f := 17) rfl ?_);refine goesL_ (some 189) rfl rfl Tryd.func17 (by kernel_rfl) rfl #[.slice Ao121 y215.length co121,.int .i64 33] rfl am_ ?_;(with_reducible refine (nat_Shl.calls k (fun k_ => some k_ = (.slice Ao121 y215.length co121 : Value).ownBlock) _ _ y215 33 t218 0 _ ?side1 A19.out).mono ?_);(case side1 => exact Kd.R_V (Kd.R_tight rfl (HO217.out)));rintro e w122 ⟨v219,rfl,ho0,hb⟩;refine ⟨_,rfl,?_⟩;have HO220 := Aside0.mk (Kd.R_lower (Kd.R_new' (Kd.R_mono (ok' := fun k_ => True) ho0 (fun _ hk_ => trivial)) (Kd.R_lt (ra_ HO217.out))) (below_size bl_));replace HO217 := Aside0.mk (Kd.R_elder' (ra_ HO217.out) (Kd.R_base ho0) hb);replace HB := Aside0.mk (below_step bl_ hb);(try clear hb);(try clear hb2);(try clear hk);(try clear hi);(try clear ho0)) | ((with_reducible refine gate_dst (N := 193) rfl ?_);(try (refine gate_guard (by rfl) ?_;dsimp only));refine Kd.R_lit (Kd.int .u32) _ 43 ?hg (N := 193) ?hd (xs := ([0,1] : List Int)) (inner := [.int .u32 0,.int .u32 1]) (ok := fun _ => True) (okp := fun _ => True) ?hr ?hp (fun _ hk => hk) trivial (Below.refl _ _) (Nat.le_refl _) (by simp) ?_;(case hd => rfl);(case hg => rfl);(case hr => first | (go_simp;done) | (go_simp;rfl));(case hp => exact (Reps.one (show Kd.M (Kd.int .u32) _ _ _ 0 [.int .u32 0] from rfl) (Reps.one (show Kd.M (Kd.int .u32) _ _ _ 1 [.int .u32 1] from rfl) (Reps.none _ _))));intro v223 w123 ho124 hb hg_ hnew_;clear hg_ hnew_;(first | rw [← Ny222.out] at ho124 | (simp only [Int.reduceToNat] at ho124;rw [← Ny222.out] at ho124));have HO224 := Aside0.mk (Kd.R_lower (Kd.R_new' ho124 (Kd.R_lt (ra_ HO220.out))) (below_size bl_));replace HO220 := Aside0.mk (Kd.R_elder' (ra_ HO220.out) (Kd.R_base ho124) hb);replace HB := Aside0.mk (below_step bl_ hb);clear hb ho124;obtain ⟨Ao125,co125,eo125⟩ := Kd.R_slice HO224.out;subst eo125) | ((with_reducible refine gate_callee (f := 18) rfl ?_);refine goesL_ (some 194) rfl rfl Tryd.func18 (by kernel_rfl) rfl #[.slice Ao125 y222.length co125,.int .i64 33] rfl am_ ?_;(with_reducible refine (nat_Shr.calls k (fun k_ => some k_ = (.slice Ao125 y222.length co125 : Value).ownBlock) _ _ y222 33 t225 true 0 _ ?side1 A20.out).mono ?_);(case side1 => exact Kd.R_V (Kd.R_tight rfl (HO224.out)));rintro e w126 ⟨v226,rfl,ho0,hb⟩;refine ⟨_,rfl,?_⟩;have HO227 := Aside0.mk (Kd.R_lower (Kd.R_new' (Kd.R_new' (Kd.R_mono (ok' := fun k_ => True) ho0 (fun _ hk_ => trivial)) (Kd.R_lt (ra_ HO220.out))) (Kd.R_lt (ra_ HO224.out))) (below_size bl_));replace HO220 := Aside0.mk (Kd.R_elder' (ra_ HO220.out) (Kd.R_base ho0) hb);replace HO224 := Aside0.mk (Kd.R_elder' (ra_ HO224.out) (Kd.R_base ho0) hb);replace HB := Aside0.mk (below_step bl_ hb);(try clear hb);(try clear hb2);(try clear hk);(try clear hi);(try clear ho0)) | ((with_reducible refine gate_dst (N := 199) rfl ?_);(try (refine gate_guard (by rfl) ?_;dsimp only));refine Kd.R_lit (Kd.int .u32) _ 43 ?hg (N := 199) ?hd (xs := ([1] : List Int)) (inner := [.int .u32 1]) (ok := fun _ => True) (okp := fun _ => True) ?hr ?hp (fun _ hk => hk) trivial (Below.refl _ _) (Nat.le_refl _) (by simp) ?_;(case hd => rfl);(case hg => rfl);(case hr => first | (go_simp;done) | (go_simp;rfl));(case hp => exact (Reps.one (show Kd.M (Kd.int .u32) _ _ _ 1 [.int .u32 1] from rfl) (Reps.none _ _)));intro v231 w127 ho128 hb hg_ hnew_;clear hg_ hnew_;(first | rw [← Ny230.out] at ho128 | (simp only [Int.reduceToNat] at ho128;rw [← Ny230.out] at ho128));have HO232 := Aside0.mk (Kd.R_lower (Kd.R_new' (Kd.R_new' ho128 (Kd.R_lt (ra_ HO220.out))) (Kd.R_lt (ra_ HO227.out))) (below_size bl_));replace HO220 := Aside0.mk (Kd.R_elder' (ra_ HO220.out) (Kd.R_base ho128) hb);replace HO227 := Aside0.mk (Kd.R_elder' (ra_ HO227.out) (Kd.R_base ho128) hb);replace HB := Aside0.mk (below_step bl_ hb);clear hb ho128;obtain ⟨Ao129,co129,eo129⟩ := Kd.R_slice HO232.out;subst eo129) | ((with_reducible refine gate_callee (f := 17) rfl ?_);refine goesL_ (some 200) rfl rfl Tryd.func17 (by kernel_rfl) rfl #[.slice Ao129 y230.length co129,.int .i64 8192] rfl am_ ?_;(with_reducible refine (nat_Shl.calls k (fun k_ => some k_ = (.slice Ao129 y230.length co129 : Value).ownBlock) _ _ y230 8192 t233 2 _ ?side1 A21.out).mono ?_);(case side1 => exact Kd.R_V (Kd.R_tight rfl (HO232.out)));rintro e w130 ⟨v234,rfl,ho0,hb⟩;refine ⟨_,rfl,?_⟩;have HO235 := Aside0.mk (Kd.R_lower (Kd.R_new' (Kd.R_new' (Kd.R_new' (Kd.R_mono (ok' := fun k_ => True) ho0 (fun _ hk_ => trivial)) (Kd.R_lt (ra_ HO220.out))) (Kd.R_lt (ra_ HO227.out))) (Kd.R_lt (ra_ HO232.out))) (below_size bl_));replace HO220 := Aside0.mk (Kd.R_elder' (ra_ HO220.out) (Kd.R_base ho0) hb);replace HO227 := Aside0.mk (Kd.R_elder' (ra_ HO227.out) (Kd.R_base ho0) hb);replace HO232 := Aside0.mk (Kd.R_elder' (ra_ HO232.out) (Kd.R_base ho0) hb);replace HB := Aside0.mk (below_step bl_ hb);(try clear hb);(try clear hb2);(try clear hk);(try clear hi);(try clear ho0)) | ((with_reducible refine gate_callee (f := 17) rfl ?_);refine goesL_ (some 204) rfl rfl Tryd.func17 (by kernel_rfl) rfl #[.slice none 0 0,.int .i64 8192] rfl am_ ?_;(refine (nat_Shl.calls k (fun k_ => False) _ _ ([] : List Int) 8192 t237 0 _ ?side1 A22.out).mono ?_);(case side1 => exact Kd.V_nil _ _ _ _ _);rintro e w131 ⟨v238,rfl,ho0,hb⟩;refine ⟨_,rfl,?_⟩;have HO239 := Aside0.mk (Kd.R_lower (Kd.R_new' (Kd.R_new' (Kd.R_mono (ok' := fun k_ => True) ho0 (fun _ hk_ => trivial)) (Kd.R_lt (ra_ HO220.out))) (Kd.R_lt (ra_ HO227.out))) (below_size bl_));replace HO220 := Aside0.mk (Kd.R_elder' (ra_ HO220.out) (Kd.R_base ho0) hb);replace HO227 := Aside0.mk (Kd.R_elder' (ra_ HO227.out) (Kd.R_base ho0) hb);replace HB := Aside0.mk (below_step bl_ hb);(try clear hb);(try clear hb2);(try clear hk);(try clear hi);(try clear ho0)) | ((with_reducible refine gate_callee (f := 16) rfl ?_);refine goesL_ (some 208) rfl rfl Tryd.func16 (by kernel_rfl) rfl #[.int .i64 10,.int .i64 10] rfl am_ ?_;(with_reducible refine (nat_Pow.calls k 10 10 t241 0 _ A23.out).mono ?_);rintro e w132 ⟨v243,rfl,ho0,hb⟩;refine ⟨_,rfl,?_⟩;have HO244 := Aside0.mk (Kd.R_lower (Kd.R_new' (Kd.R_new' (Kd.R_new' ho0 (Kd.R_lt (ra_ HO220.out))) (Kd.R_lt (ra_ HO227.out))) (Kd.R_lt (ra_ HO239.out))) (below_size bl_));replace HO220 := Aside0.mk (Kd.R_elder' (ra_ HO220.out) (Kd.R_base ho0) hb);replace HO227 := Aside0.mk (Kd.R_elder' (ra_ HO227.out) (Kd.R_base ho0) hb);replace HO239 := Aside0.mk (Kd.R_elder' (ra_ HO239.out) (Kd.R_base ho0) hb);replace HB := Aside0.mk (below_step bl_ hb);(try clear hb);(try clear hb2);(try clear hk);(try clear hi);(try clear ho0)) | ((with_reducible refine gate_callee (f := 16) rfl ?_);refine goesL_ (some 212) rfl rfl Tryd.func16 (by kernel_rfl) rfl #[.int .i64 0,.int .i64 0] rfl am_ ?_;(with_reducible refine (nat_Pow.calls k 0 0 t245 0 _ A24.out).mono ?_);rintro e w133 ⟨v247,rfl,ho0,hb⟩;refine ⟨_,rfl,?_⟩;have HO248 := Aside0.mk (Kd.R_lower (Kd.R_new' (Kd.R_new' (Kd.R_new' (Kd.R_new' ho0 (Kd.R_lt (ra_ HO220.out))) (Kd.R_lt (ra_ HO227.out))) (Kd.R_lt (ra_ HO239.out))) (Kd.R_lt (ra_ HO244.out))) (below_size bl_));replace HO220 := Aside0.mk (Kd.R_elder' (ra_ HO220.out) (Kd.R_base ho0) hb);replace HO227 := Aside0.mk (Kd.R_elder' (ra_ HO227.out) (Kd.R_base ho0) hb);replace HO239 := Aside0.mk (Kd.R_elder' (ra_ HO239.out) (Kd.R_base ho0) hb);replace HO244 := Aside0.mk (Kd.R_elder' (ra_ HO244.out) (Kd.R_base ho0) hb);replace HB := Aside0.mk (below_step bl_ hb);(try clear hb);(try clear hb2);(try clear hk);(try clear hi);(try clear ho0)) | ((with_reducible refine gate_callee (f := 16) rfl ?_);refine goesL_ (some 216) rfl rfl Tryd.func16 (by kernel_rfl) rfl #[.int .i64 2,.int .i64 8192] rfl am_ ?_;(with_reducible refine (nat_Pow.calls k 2 8192 t249 2 _ A25.out).mono ?_);rintro e w134 ⟨v251,rfl,ho0,hb⟩;refine ⟨_,rfl,?_⟩;have HO252 := Aside0.mk (Kd.R_lower (Kd.R_new' (Kd.R_new' (Kd.R_new' (Kd.R_new' (Kd.R_new' ho0 (Kd.R_lt (ra_ HO220.out))) (Kd.R_lt (ra_ HO227.out))) (Kd.R_lt (ra_ HO239.out))) (Kd.R_lt (ra_ HO244.out))) (Kd.R_lt (ra_ HO248.out))) (below_size bl_));replace HO220 := Aside0.mk (Kd.R_elder' (ra_ HO220.out) (Kd.R_base ho0) hb);replace HO227 := Aside0.mk (Kd.R_elder' (ra_ HO227.out) (Kd.R_base ho0) hb);replace HO239 := Aside0.mk (Kd.R_elder' (ra_ HO239.out) (Kd.R_base ho0) hb);replace HO244 := Aside0.mk (Kd.R_elder' (ra_ HO244.out) (Kd.R_base ho0) hb);replace HO248 := Aside0.mk (Kd.R_elder' (ra_ HO248.out) (Kd.R_base ho0) hb);replace HB := Aside0.mk (below_step bl_ hb);(try clear hb);(try clear hb2);(try clear hk);(try clear hi);(try clear ho0)) | ((with_reducible refine gate_dst (N := 220) rfl ?_);(try (refine gate_guard (by rfl) ?_;dsimp only));refine Kd.R_lit (Kd.int .u32) _ 43 ?hg (N := 220) ?hd (xs := ([0,2] : List Int)) (inner := [.int .u32 0,.int .u32 2]) (ok := fun _ => True) (okp := fun _ => True) ?hr ?hp (fun _ hk => hk) trivial (Below.refl _ _) (Nat.le_refl _) (by simp) ?_;(case hd => rfl);(case hg => rfl);(case hr => first | (go_simp;done) | (go_simp;rfl));(case hp => exact (Reps.one (show Kd.M (Kd.int .u32) _ _ _ 0 [.int .u32 0] from rfl) (Reps.one (show Kd.M (Kd.int .u32) _ _ _ 2 [.int .u32 2] from rfl) (Reps.none _ _))));intro v254 w135 ho136 hb hg_ hnew_;clear hg_ hnew_;(first | rw [← Ny253.out] at ho136 | (simp only [Int.reduceToNat] at ho136;rw [← Ny253.out] at ho136));have HO255 := Aside0.mk (Kd.R_lower (Kd.R_new' (Kd.R_new' (Kd.R_new' (Kd.R_new' (Kd.R_new' ho136 (Kd.R_lt (ra_ HO220.out))) (Kd.R_lt (ra_ HO227.out))) (Kd.R_lt (ra_ HO239.out))) (Kd.R_lt (ra_ HO244.out))) (Kd.R_lt (ra_ HO248.out))) (below_size bl_));replace HO220 := Aside0.mk (Kd.R_elder' (ra_ HO220.out) (Kd.R_base ho136) hb);replace HO227 := Aside0.mk (Kd.R_elder' (ra_ HO227.out) (Kd.R_base ho136) hb);replace HO239 := Aside0.mk (Kd.R_elder' (ra_ HO239.out) (Kd.R_base ho136) hb);replace HO244 := Aside0.mk (Kd.R_elder' (ra_ HO244.out) (Kd.R_base ho136) hb);replace HO248 := Aside0.mk (Kd.R_elder' (ra_ HO248.out) (Kd.R_base ho136) hb);replace HB := Aside0.mk (below_step bl_ hb);clear hb ho136;obtain ⟨Ao137,co137,eo137⟩ := Kd.R_slice HO220.out;subst eo137;obtain ⟨Ao138,co138,eo138⟩ := Kd.R_slice HO255.out;subst eo138) | ((with_reducible refine gate_callee (f := 21) rfl ?_);refine goesL_ (some 221) rfl rfl Tryd.func21 (by kernel_rfl) rfl #[.slice Ao137 t218.length co137,.slice Ao138 y253.length co138] rfl am_ ?_;(with_reducible refine (tabardlaw1_same.calls k _ _ t218 _ _ y253 true _ ?side1 ?side2 ?side3 ?side4 A26.out).mono ?_);(case side1 => exact ca_ (Kd.R_reads' HO220.out).2.2);(case side2 => exact (Kd.R_reads' HO220.out).2.1);(case side3 => exact ca_ (Kd.R_reads' HO255.out).2.2);(case side4 => exact (Kd.R_reads' HO255.out).2.1);rintro e w' ⟨rfl,⟨nd,rfl⟩⟩;refine ⟨_,rfl,?_⟩) | ((with_reducible refine gate_dst (N := 223) rfl ?_);(try (refine gate_guard (by rfl) ?_;dsimp only));refine Kd.R_lit (Kd.int .u32) _ 43 ?hg (N := 223) ?hd (xs := ([1410065408,2] : List Int)) (inner := [.int .u32 1410065408,.int .u32 2]) (ok := fun _ => True) (okp := fun _ => True) ?hr ?hp (fun _ hk => hk) trivial (Below.refl _ _) (Nat.le_refl _) (by simp) ?_;(case hd => rfl);(case hg => rfl);(case hr => first | (go_simp;done) | (go_simp;rfl));(case hp => exact (Reps.one (show Kd.M (Kd.int .u32) _ _ _ 1410065408 [.int .u32 1410065408] from rfl) (Reps.one (show Kd.M (Kd.int .u32) _ _ _ 2 [.int .u32 2] from rfl) (Reps.none _ _))));intro v258 w139 ho140 hb hg_ hnew_;clear hg_ hnew_;(first | rw [← Ny257.out] at ho140 | (simp only [Int.reduceToNat] at ho140;rw [← Ny257.out] at ho140));have HO259 := Aside0.mk (Kd.R_lower (Kd.R_new' (Kd.R_new' (Kd.R_new' (Kd.R_new' ho140 (Kd.R_lt (ra_ HO227.out))) (Kd.R_lt (ra_ HO239.out))) (Kd.R_lt (ra_ HO244.out))) (Kd.R_lt (ra_ HO248.out))) (below_size bl_));replace HO227 := Aside0.mk (Kd.R_elder' (ra_ HO227.out) (Kd.R_base ho140) hb);replace HO239 := Aside0.mk (Kd.R_elder' (ra_ HO239.out) (Kd.R_base ho140) hb);replace HO244 := Aside0.mk (Kd.R_elder' (ra_ HO244.out) (Kd.R_base ho140) hb);replace HO248 := Aside0.mk (Kd.R_elder' (ra_ HO248.out) (Kd.R_base ho140) hb);replace HB := Aside0.mk (below_step bl_ hb);clear hb ho140;obtain ⟨Ao141,co141,eo141⟩ := Kd.R_slice HO244.out;subst eo141;obtain ⟨Ao142,co142,eo142⟩ := Kd.R_slice HO259.out;subst eo142) | ((with_reducible refine gate_callee (f := 21) rfl ?_);refine goesL_ (some 224) rfl rfl Tryd.func21 (by kernel_rfl) rfl #[.slice Ao141 t241.length co141,.slice Ao142 y257.length co142] rfl am_ ?_;(with_reducible refine (tabardlaw1_same.calls k _ _ t241 _ _ y257 true _ ?side1 ?side2 ?side3 ?side4 A27.out).mono ?_);(case side1 => exact ca_ (Kd.R_reads' HO244.out).2.2);(case side2 => exact (Kd.R_reads' HO244.out).2.1);(case side3 => exact ca_ (Kd.R_reads' HO259.out).2.2);(case side4 => exact (Kd.R_reads' HO259.out).2.1);rintro e w' ⟨rfl,⟨nd,rfl⟩⟩;refine ⟨_,rfl,?_⟩) | ((with_reducible refine gate_dst (N := 226) rfl ?_);(try (refine gate_guard (by rfl) ?_;dsimp only));refine Kd.R_lit (Kd.int .u32) _ 43 ?hg (N := 226) ?hd (xs := ([1] : List Int)) (inner := [.int .u32 1]) (ok := fun _ => True) (okp := fun _ => True) ?hr ?hp (fun _ hk => hk) trivial (Below.refl _ _) (Nat.le_refl _) (by simp) ?_;(case hd => rfl);(case hg => rfl);(case hr => first | (go_simp;done) | (go_simp;rfl));(case hp => exact (Reps.one (show Kd.M (Kd.int .u32) _ _ _ 1 [.int .u32 1] from rfl) (Reps.none _ _)));intro v262 w143 ho144 hb hg_ hnew_;clear hg_ hnew_;(first | rw [← Ny261.out] at ho144 | (simp only [Int.reduceToNat] at ho144;rw [← Ny261.out] at ho144));have HO263 := Aside0.mk (Kd.R_lower (Kd.R_new' (Kd.R_new' (Kd.R_new' ho144 (Kd.R_lt (ra_ HO227.out))) (Kd.R_lt (ra_ HO239.out))) (Kd.R_lt (ra_ HO248.out))) (below_size bl_));replace HO227 := Aside0.mk (Kd.R_elder' (ra_ HO227.out) (Kd.R_base ho144) hb);replace HO239 := Aside0.mk (Kd.R_elder' (ra_ HO239.out) (Kd.R_base ho144) hb);replace HO248 := Aside0.mk (Kd.R_elder' (ra_ HO248.out) (Kd.R_base ho144) hb);replace HB := Aside0.mk (below_step bl_ hb);clear hb ho144;obtain ⟨Ao145,co145,eo145⟩ := Kd.R_slice HO248.out;subst eo145;obtain ⟨Ao146,co146,eo146⟩ := Kd.R_slice HO263.out;subst eo146) | ((with_reducible refine gate_callee (f := 21) rfl ?_);refine goesL_ (some 227) rfl rfl Tryd.func21 (by kernel_rfl) rfl #[.slice Ao145 t245.length co145,.slice Ao146 y261.length co146] rfl am_ ?_;(with_reducible refine (tabardlaw1_same.calls k _ _ t245 _ _ y261 true _ ?side1 ?side2 ?side3 ?side4 A28.out).mono ?_);(case side1 => exact ca_ (Kd.R_reads' HO248.out).2.2);(case side2 => exact (Kd.R_reads' HO248.out).2.1);(case side3 => exact ca_ (Kd.R_reads' HO263.out).2.2);(case side4 => exact (Kd.R_reads' HO263.out).2.1);rintro e w' ⟨rfl,⟨nd,rfl⟩⟩;refine ⟨_,rfl,?_⟩) | ((with_reducible refine gate_callee (f := 20) rfl ?_);refine goesL_ (some 229) rfl rfl Tryd.func20 (by kernel_rfl) rfl #[.string (⟨#[48,48,55]⟩ : ByteArray)] rfl am_ ?_;(with_reducible refine (nat_Parse.calls k (⟨#[48,48,55]⟩ : ByteArray) t265 0 _ A29.out).mono ?_);rintro e w147 ⟨v267,rfl,ho0,hb⟩;refine ⟨_,rfl,?_⟩;have HO268 := Aside0.mk (Kd.R_lower (Kd.R_new' (Kd.R_new' ho0 (Kd.R_lt (ra_ HO227.out))) (Kd.R_lt (ra_ HO239.out))) (below_size bl_));replace HO227 := Aside0.mk (Kd.R_elder' (ra_ HO227.out) (Kd.R_base ho0) hb);replace HO239 := Aside0.mk (Kd.R_elder' (ra_ HO239.out) (Kd.R_base ho0) hb);replace HB := Aside0.mk (below_step bl_ hb);(try clear hb);(try clear hb2);(try clear hk);(try clear hi);(try clear ho0)) | ((with_reducible refine gate_callee (f := 20) rfl ?_);refine goesL_ (some 233) rfl rfl Tryd.func20 (by kernel_rfl) rfl #[.string (⟨#[45,49]⟩ : ByteArray)] rfl am_ ?_;(with_reducible refine (nat_Parse.calls k (⟨#[45,49]⟩ : ByteArray) t269 3 _ A30.out).mono ?_);rintro e w148 ⟨v271,rfl,ho0,hb⟩;refine ⟨_,rfl,?_⟩;have HO272 := Aside0.mk (Kd.R_lower (Kd.R_new' (Kd.R_new' (Kd.R_new' ho0 (Kd.R_lt (ra_ HO227.out))) (Kd.R_lt (ra_ HO239.out))) (Kd.R_lt (ra_ HO268.out))) (below_size bl_));replace HO227 := Aside0.mk (Kd.R_elder' (ra_ HO227.out) (Kd.R_base ho0) hb);replace HO239 := Aside0.mk (Kd.R_elder' (ra_ HO239.out) (Kd.R_base ho0) hb);replace HO268 := Aside0.mk (Kd.R_elder' (ra_ HO268.out) (Kd.R_base ho0) hb);replace HB := Aside0.mk (below_step bl_ hb);(try clear hb);(try clear hb2);(try clear hk);(try clear hi);(try clear ho0)) | ((with_reducible refine gate_dst (N := 237) rfl ?_);(try (refine gate_guard (by rfl) ?_;dsimp only));refine Kd.R_lit (Kd.int .u32) _ 43 ?hg (N := 237) ?hd (xs := ([7] : List Int)) (inner := [.int .u32 7]) (ok := fun _ => True) (okp := fun _ => True) ?hr ?hp (fun _ hk => hk) trivial (Below.refl _ _) (Nat.le_refl _) (by simp) ?_;(case hd => rfl);(case hg => rfl);(case hr => first | (go_simp;done) | (go_simp;rfl));(case hp => exact (Reps.one (show Kd.M (Kd.int .u32) _ _ _ 7 [.int .u32 7] from rfl) (Reps.none _ _)));intro v274 w149 ho150 hb hg_ hnew_;clear hg_ hnew_;(first | rw [← Ny273.out] at ho150 | (simp only [Int.reduceToNat] at ho150;rw [← Ny273.out] at ho150));have HO275 := Aside0.mk (Kd.R_lower (Kd.R_new' (Kd.R_new' (Kd.R_new' ho150 (Kd.R_lt (ra_ HO227.out))) (Kd.R_lt (ra_ HO239.out))) (Kd.R_lt (ra_ HO268.out))) (below_size bl_));replace HO227 := Aside0.mk (Kd.R_elder' (ra_ HO227.out) (Kd.R_base ho150) hb);replace HO239 := Aside0.mk (Kd.R_elder' (ra_ HO239.out) (Kd.R_base ho150) hb);replace HO268 := Aside0.mk (Kd.R_elder' (ra_ HO268.out) (Kd.R_base ho150) hb);replace HB := Aside0.mk (below_step bl_ hb);clear hb ho150;obtain ⟨Ao151,co151,eo151⟩ := Kd.R_slice HO268.out;subst eo151;obtain ⟨Ao152,co152,eo152⟩ := Kd.R_slice HO275.out;subst eo152) | ((with_reducible refine gate_callee (f := 21) rfl ?_);refine goesL_ (some 238) rfl rfl Tryd.func21 (by kernel_rfl) rfl #[.slice Ao151 t265.length co151,.slice Ao152 y273.length co152] rfl am_ ?_;(with_reducible refine (tabardlaw1_same.calls k _ _ t265 _ _ y273 true _ ?side1 ?side2 ?side3 ?side4 A31.out).mono ?_);(case side1 => exact ca_ (Kd.R_reads' HO268.out).2.2);(case side2 => exact (Kd.R_reads' HO268.out).2.1);(case side3 => exact ca_ (Kd.R_reads' HO275.out).2.2);(case side4 => exact (Kd.R_reads' HO275.out).2.1);rintro e w' ⟨rfl,⟨nd,rfl⟩⟩;refine ⟨_,rfl,?_⟩;obtain ⟨Ao153,co153,eo153⟩ := Kd.R_slice HO227.out;subst eo153;obtain ⟨Ao154,co154,eo154⟩ := Kd.R_slice HO239.out;subst eo154) | (go_at_call 19;(refine (nat_Digits.calls k _ _ ([0,1] : List Int) (⟨#[52,50,57,52,57,54,55,50,57,54]⟩ : ByteArray) _ ?side1 ?side2 ?side3 (by have h_ := A37.out;rw [Ny277.out] at h_;exact h_)).mono ?_);(case side1 => exact Tabs.below HT.out bl_);(case side2 => exact lit01_C _);(case side3 => exact Nat.le_refl _);rintro e w158 ⟨rfl,hb⟩;have n1_ := Aside0.mk (below_step bl_ hb);clear HB;have HB := n1_;(try clear n0_ n1_);(try clear hb);(try clear hb2);(try clear hk);(try clear hi)))
 go_ret
 exact ⟨by first | rfl | (simp [errW_none,errW_some] <;> rfl) | (simp [*,errW_none,errW_some] <;> rfl),by repeat (first | (with_reducible first | exact HB.out | apply below_alloc | apply pw_below_drewN | apply below_drew1) | exact HB.out)⟩

end Go.Proofs.YtfcenlhaepckoaaDoor.S
