/- The engine and the contracts of the functions that the statement reaches, part 5. -/
import Derived.Test.YtjfdbmfcnhjfoaaGreatMd
import Derived.Shelf.Bits.Mul64
import Derived.Shelf.Slices.Turned
import Derived.Shelf.Slices.Reverse
import Derived.Ground.Names2Prog
import Derived.Shelf.Slices.Clone
import Derived.Shelf.Slices.Cells
import Derived.Test.YtjfdbmfcnhjfoaaGreatProg
import Derived.Laws.Externs
set_option linter.unusedVariables false
set_option linter.unusedSimpArgs false
set_option maxRecDepth 100000
set_option maxHeartbeats 8000000
namespace Go.Proofs.YtjfdbmfcnhjfoaaGreat
open Go.RowKit
end Go.Proofs.YtjfdbmfcnhjfoaaGreat
namespace Go.Proofs
open Go.Shelf
def Tryz.lays264_ren : Go.Shelf.Ren := ⟨fun|264=>157|n=>n,fun|53=>42|46=>183|n=>n,fun|n=>n⟩
theorem Tryz.lays264 : Go.Proofs.Lays.n264 Tryz.prog Tryz.lays264_ren := {
 mixed := by kernel_rfl
 f264 := Tryz.func157.trans (congrArg some (by kernel_rfl))
 t46 := Tryz.underlying183
 a46 := Tryz.isAgg183
 z46 := Tryz.sizeOf183
 v46 := Tryz.zeroValue183
 t53 := Tryz.underlying42
 a53 := Tryz.isAgg42
 z53 := Tryz.sizeOf42
 v53 := Tryz.zeroValue42 }
open Go.RowKit Go.Lib in
theorem Tryz.bits_Mul64 (x y : Nat) (hx : x < 18446744073709551616) (hy : y < 18446744073709551616) (w : World) :
  Calls Tryz.prog 157 #[.int .u64 x,.int .u64 y] w fun e w'=>e = .returned (.tuple #[.int .u64 ((x * y / 18446744073709551616 : Nat) : Int),.int .u64 ((x * y % 18446744073709551616 : Nat) : Int)]) /\ w' = w := Any.bits_Mul64 Tryz.lays264 x y hx hy w
end Go.Proofs

namespace Go.Proofs.YtjfdbmfcnhjfoaaGreat
open Go.RowKit
theorem min_sh {n : Nat} (h : n <= 64) : min ((64 : Int) - n).toNat IntKind.u64.bits = ((64 : Int) - n).toNat /\ min ((64 : Int) - n).toNat IntKind.i64.bits = ((64 : Int) - n).toNat := by
 simp only [IntKind.bits]; omega
theorem w64 (z : Int) : IntKind.i64.wrap z = wrap64 z := by rw [IntKind.wrap_i64]; unfold wrap64; omega
theorem Mask_P (w : Int) : ASpec Tryz.prog 129 [.i .i64 w] (.i .u64 (Pl.mask w)) [] := by
 refine ASpec.enter TYok mixed Tryz.func129 rfl Tryz.call129 Tryz.ntmps129 rfl (rs := [.tmp 2]) rfl (nodupB_ok rfl) (Clo.one rfl) (keep := [0,2]) ?_; conv=>whnf
 repeat' first|(refine iF (fun hb=>?_) (fun hb=>?_) <;> (try simp only [yv] at hb) <;> (have hc := hb; try simp only [sB,Int.reduceToNat] at hc; try simp only [addZ0] at hc) <;> first|(exfalso; omega)|conv=>whnf)|((first|refine ya ?_|refine yb ?_|refine yc ?_|refine yd ?_|refine yf ?_|refine yh ?_|refine yj ?_|refine dD ?_|refine dF ?_|refine d0 ?_|refine d1 ?_|refine dL ?_|refine dP ?_|refine yl ?_|refine ym ?_|refine yn ?_|refine ⟨_,fun _=>(IntKind.wrap_u64 _).symm,?_⟩); conv=>whnf)|(refine yt ?_; conv=>whnf)|exact ⟨_,.keep rfl rfl⟩|fail
 ·exact ⟨_,.keep (by rw [Pl.mask_out (by omega)]) rfl⟩
 obtain ⟨n,rfl⟩ := Int.eq_ofNat_of_zero_le (show 0 <= w by omega)
 refine ⟨_,.keep ?_ rfl⟩
 rw [Pl.mask_in (by omega) (by omega),<- Pl.mask_eq (by omega),(min_sh (by omega)).1]
theorem Flags_P (op : Int) : ASpec Tryz.prog 127 [.i .i64 op] (.i .i64 (Pl.flags op)) [] := by
 refine ASpec.enter TYok mixed Tryz.func127 rfl Tryz.call127 Tryz.ntmps127 rfl (rs := [.tmp 2]) rfl (nodupB_ok rfl) (Clo.one rfl) (keep := [0,2,3]) ?_; conv=>whnf
 repeat' first|(refine iF (fun hb=>?_) (fun hb=>?_) <;> (try simp only [yv] at hb) <;> (have hc := hb; try simp only [sB,Int.reduceToNat] at hc; try simp only [addZ0] at hc) <;> first|(exfalso; omega)|conv=>whnf)|((first|refine ya ?_|refine yb ?_|refine yc ?_|refine yd ?_|refine yf ?_|refine yh ?_|refine yj ?_|refine dD ?_|refine dF ?_|refine d0 ?_|refine d1 ?_|refine dL ?_|refine dP ?_|refine yl ?_|refine ym ?_|refine yn ?_|refine ⟨_,fun _=>(IntKind.wrap_u64 _).symm,?_⟩); conv=>whnf)|(refine yt ?_; conv=>whnf)|exact ⟨_,.keep rfl rfl⟩|fail
 all_goals exact ⟨_,.keep (by (try simp only [pickB_or,pickB_and]); unfold Pl.flags; repeat' (first|rfl|omega|split|(simp_all; done))) rfl⟩
theorem Signed_P (w v : Int) : ASpec Tryz.prog 146 [.i .i64 w,.i .u64 v] (.i .i64 (Pl.signed w v)) [] := by
 refine ASpec.enter TYok mixed Tryz.func146 rfl Tryz.call146 Tryz.ntmps146 rfl (rs := [.tmp 4]) rfl (nodupB_ok rfl) (Clo.one rfl) (keep := [0,1,4]) ?_; conv=>whnf
 repeat' first|(refine iF (fun hb=>?_) (fun hb=>?_) <;> (try simp only [yv] at hb) <;> (have hc := hb; try simp only [sB,Int.reduceToNat] at hc; try simp only [addZ0] at hc) <;> first|(exfalso; omega)|conv=>whnf)|((first|refine ya ?_|refine yb ?_|refine yc ?_|refine yd ?_|refine yf ?_|refine yh ?_|refine yj ?_|refine dD ?_|refine dF ?_|refine d0 ?_|refine d1 ?_|refine dL ?_|refine dP ?_|refine yl ?_|refine ym ?_|refine ⟨_,fun _=>rfl,?_⟩); conv=>whnf)|(refine yt ?_; conv=>whnf)|exact ⟨_,.keep rfl rfl⟩|fail
 ·exact ⟨_,.keep (by rw [Pl.signed_out (by omega)]) rfl⟩
 obtain ⟨n,rfl⟩ := Int.eq_ofNat_of_zero_le (show 0 <= w by omega)
 refine ⟨_,.keep ?_ rfl⟩
 rw [Pl.signed_in (by omega) (by omega),<- Pl.signed_eq (by omega) (by omega),(min_sh (by omega)).1,(min_sh (by omega)).2,w64]
theorem size_P (x : Int) (h : -9223372036854775808 <= x) (h' : x <= 9223372036854775807) : ASpec Tryz.prog 164 [.i .i64 x] (.i .u64 (x.natAbs : Int)) [] := by
 refine ASpec.enter TYok mixed Tryz.func164 rfl Tryz.call164 Tryz.ntmps164 rfl (rs := [.tmp 2]) rfl (nodupB_ok rfl) (Clo.one rfl) (keep := [0,2]) ?_; conv=>whnf
 repeat' first|(refine iF (fun hb=>?_) (fun hb=>?_) <;> (try simp only [yv] at hb) <;> (have hc := hb; try simp only [sB,Int.reduceToNat] at hc; try simp only [addZ0] at hc) <;> first|(exfalso; omega)|conv=>whnf)|((first|refine ya ?_|refine yb ?_|refine yc ?_|refine yd ?_|refine yf ?_|refine yh ?_|refine yj ?_|refine dD ?_|refine dF ?_|refine d0 ?_|refine d1 ?_|refine dL ?_|refine dP ?_|refine yl ?_|refine ym ?_|refine ⟨_,fun _=>rfl,?_⟩); conv=>whnf)|(refine yt ?_; conv=>whnf)|exact ⟨_,.keep rfl rfl⟩|fail
 all_goals refine ⟨_,.keep ?_ rfl⟩
 all_goals congr 1
 all_goals simp only [IntKind.wrap_u64]
 all_goals omega
theorem Mul64_P (x y : Int) (hx0 : 0 <= x) (hx : x < 18446744073709551616) (hy0 : 0 <= y) (hy : y < 18446744073709551616) : ASpec Tryz.prog 157 [.i .u64 x,.i .u64 y] (.tup [.i .u64 (x * y / 18446744073709551616),.i .u64 (x * y % 18446744073709551616)]) [] := by
 obtain ⟨a,rfl⟩ := Int.eq_ofNat_of_zero_le hx0
 obtain ⟨b,rfl⟩ := Int.eq_ofNat_of_zero_le hy0
 refine ⟨Tryz.call157,Clo.one rfl,fun S w us hr hv=>?_⟩
 obtain ⟨u,us',rfl,r1,u2,us2,rfl,r2,r3⟩ := hr
 unfold rel at r1 r2
 unfold rels at r3
 subst r1 r2 r3
 refine (Tryz.bits_Mul64 a b (by omega) (by omega) w).mono ?_
 rintro e w' ⟨h1,h2⟩
 subst h2
 refine ⟨_,W0,h1,Below.refl _ _,fun id ob hl=>by simp [lk] at hl,fun k hk=>(by cases hk),List.nodup_nil,List.nodup_nil,_,rfl,_,_,rfl,?_,_,_,rfl,?_,rfl⟩
 ·unfold rel; simp only [Int.natCast_ediv,Int.natCast_mul]; rfl
 ·unfold rel; simp only [Int.natCast_emod,Int.natCast_mul]; rfl
theorem Add64_P (x y : Int) (hx : 0 <= x) (hy : 0 <= y) (S : Nat -> Prop) (β : Nat -> Wt) (w : World) (us : List Value) (hr : rels S β w [.i .u64 x,.i .u64 y,.i .u64 0] us) : ∃ u,(callFunc 156 us.toArray).run Tryz.prog w = .ok (.value u) w /\ ∀ (S' : Nat -> Prop) (β' : Nat -> Wt) (w' : World),rel S' β' w' (.tup [.i .u64 ((x + y) % 18446744073709551616),.i .u64 ((x + y) / 18446744073709551616)]) u := by
 obtain ⟨u,us',rfl,r1,u2,us2,rfl,r2,u3,us3,rfl,r3,r4⟩ := hr
 unfold rel at r1 r2 r3
 unfold rels at r4
 subst r1 r2 r3 r4
 refine ⟨.tuple #[.int .u64 ((x + y) % 18446744073709551616),.int .u64 ((x + y) / 18446744073709551616)],?_,fun S' β' w'=>⟨_,rfl,_,_,rfl,rfl,_,_,rfl,rfl,rfl⟩⟩
 show (callFunc 156 #[.int .u64 x,.int .u64 y,.int .u64 0]).run Tryz.prog w = _
 rw [run_callFunc_extern Tryz.func156 (by kernel_rfl) (by kernel_rfl) (by kernel_rfl) (e := add64Entry) (by kernel_rfl),run_add64 x y 0 hx hy (by omega) (by omega)]
 simp only [Result.andThen,Int.add_zero]
theorem product_P (n : Nat) (x y : Int) (hn : 1 <= n) (hn' : n <= 64) (hx : -9223372036854775808 <= x) (hx' : x <= 9223372036854775807) (hy : -9223372036854775808 <= y) (hy' : y <= 9223372036854775807) :
  ASpec Tryz.prog 158 [.i .i64 n,.i .i64 x,.i .i64 y] (.b (!Pl.fitsS n (x * y))) [] := by
 have hm := Int.mul_nonneg (show 0 <= (x.natAbs : Int) by omega) (show 0 <= (y.natAbs : Int) by omega)
 refine ASpec.enter TYok mixed Tryz.func158 rfl Tryz.call158 Tryz.ntmps158 rfl (rs := [.tmp 6]) rfl (nodupB_ok rfl) (Clo.one rfl) (keep := [0,1,2,6,7,8,9]) ?_; conv=>whnf
 repeat' first|(refine iF (fun hb=>?_) (fun hb=>?_) <;> (try simp only [yv] at hb) <;> (have hc := hb; try simp only [sB,Int.reduceToNat] at hc; try simp only [addZ0] at hc) <;> first|(exfalso; omega)|conv=>whnf)|((first|refine ya ?_|refine yb ?_|refine yc ?_|refine yd ?_|refine yf ?_|refine yh ?_|refine yj ?_|refine dD ?_|refine dF ?_|refine d0 ?_|refine d1 ?_|refine dL ?_|refine dP ?_|refine yl ?_|refine ym ?_|refine ⟨_,fun _=>rfl,?_⟩); conv=>whnf)|((first|refine cK (fun _=>size_P _ hx hx') ?_|((try (refine CallW.lent ?_; (conv=>whnf); repeat (refine yb ?_; (conv=>whnf)))); refine cL (fun _=>size_P _ hx hx') ?_)); conv=>whnf)|((first|refine cK (fun _=>size_P _ hy hy') ?_|((try (refine CallW.lent ?_; (conv=>whnf); repeat (refine yb ?_; (conv=>whnf)))); refine cL (fun _=>size_P _ hy hy') ?_)); conv=>whnf)|((first|refine cK (fun _=>Mul64_P _ _ (by omega) (by omega) (by omega) (by omega)) ?_|((try (refine CallW.lent ?_; (conv=>whnf); repeat (refine yb ?_; (conv=>whnf)))); refine cL (fun _=>Mul64_P _ _ (by omega) (by omega) (by omega) (by omega)) ?_)); conv=>whnf)|(refine yt ?_; conv=>whnf)|exact ⟨_,.keep rfl rfl⟩|fail
 all_goals refine ⟨_,.keep (congrArg AV.b ?_) rfl⟩
 all_goals rw [pickB_or,show ((n : Int) - 1).toNat = n - 1 by omega]
 ·rw [Pl.mul_same (show (decide (x < 0) == decide (y < 0)) = true by simpa using hb)]
  have h2 := Pl.half_le hn' hn
  unfold Pl.fitsS
  generalize (x.natAbs : Int) * y.natAbs = p at *
  generalize (2 : Int) ^ (n - 1) = M at *
  rw [Bool.eq_iff_iff]
  simp only [IntKind.wrap_u64,Bool.or_eq_true,Bool.not_eq_true',decide_eq_true_eq,decide_eq_false_iff_not]
  omega
 ·rw [Pl.mul_apart (show (decide (x < 0) == decide (y < 0)) = false by simpa using hb)]
  have h2 := Pl.half_le hn' hn
  unfold Pl.fitsS
  generalize (x.natAbs : Int) * y.natAbs = p at *
  generalize (2 : Int) ^ (n - 1) = M at *
  rw [Bool.eq_iff_iff]
  simp only [Bool.or_eq_true,Bool.not_eq_true',decide_eq_true_eq,decide_eq_false_iff_not]
  omega
theorem sgI {n : Nat} (hn : 1 <= n) (hn' : n <= 64) (v : Int) : -9223372036854775808 <= Pl.signed n v /\ Pl.signed n v <= 9223372036854775807 := by
 rw [Pl.signed_in hn hn']; exact Pl.sgn_i64 hn hn' v
theorem ring_P (op : Int) (n : Nat) (f a b : Int) (ho : op = 1 \/ op = 2 \/ op = 3) (hn : 1 <= n) (hn' : n <= 64) (ha : 0 <= a) (ha' : a < 2 ^ n) (hb0 : 0 <= b) (hb' : b < 2 ^ n) (hf : f = 0 \/ f = 1 \/ f = 2 \/ f = 3) :
  ASpec Tryz.prog 147 [.i .i64 op,.i .i64 n,.i .i64 f,.i .u64 a,.i .u64 b] (.tup [.i .u64 (Pl.ring op n f a b).1,.i .i64 (Pl.ring op n f a b).2]) [] := by
 have hp := Pl.pow_le_int hn'
 have s1 := sgI hn hn' a
 have s2 := sgI hn hn' b
 have hm := Int.mul_nonneg ha hb0
 have key : ∀ {E S : Int} {t : Bool} {v x y : Int},Pl.opI op a b = E -> Pl.opI op (Pl.sgn n a) (Pl.sgn n b) = S -> Pl.over n f E S = t -> v = E % 18446744073709551616 -> x = (bif t then 0 else v) -> y = (bif t then 1 else 0) -> AV.tup [.i .u64 x,.i .i64 y] = .tup [.i .u64 (Pl.ring op n f a b).1,.i .i64 (Pl.ring op n f a b).2] := fun {E S t v x y} hE hS ht hv hx hy=>by
  cases t with
  | true=>rw [Pl.ring_t hE hS ht,hx,hy]; rfl
  | false=>rw [Pl.ring_f hE hS ht,hx,hy,hv]; rfl
 refine ASpec.enter TYok mixed Tryz.func147 rfl Tryz.call147 Tryz.ntmps147 rfl (rs := [.tmp 10,.tmp 11]) rfl (nodupB_ok rfl) (Clo.one rfl) (keep := [0,1,2,3,4,10,11,12,13,14,15,16,17,18,19,20,21,22,23,30]) ?_; conv=>whnf
 repeat' first|(refine iF (fun hb=>?_) (fun hb=>?_) <;> (try simp only [yv] at hb) <;> (have hc := hb; try simp only [sB,Int.reduceToNat] at hc; try simp only [addZ0] at hc) <;> first|(exfalso; omega)|conv=>whnf)|((first|refine ya ?_|refine yb ?_|refine yc ?_|refine yd ?_|refine yf ?_|refine yh ?_|refine yj ?_|refine dD ?_|refine dF ?_|refine d0 ?_|refine d1 ?_|refine dL ?_|refine dP ?_|refine yl ?_|refine ym ?_|refine ⟨_,fun _=>rfl,?_⟩); conv=>whnf)|(refine CallV.ext ?_; (conv=>whnf); refine CallE.mk _ (Add64_P _ _ ha hb0) ?_; conv=>whnf)|((first|refine cK (fun _=>Signed_P _ _) ?_|((try (refine CallW.lent ?_; (conv=>whnf); repeat (refine yb ?_; (conv=>whnf)))); refine cL (fun _=>Signed_P _ _) ?_)); conv=>whnf)|((first|refine cK (fun _=>Mask_P _) ?_|((try (refine CallW.lent ?_; (conv=>whnf); repeat (refine yb ?_; (conv=>whnf)))); refine cL (fun _=>Mask_P _) ?_)); conv=>whnf)|((first|refine cK (fun _=>Mul64_P _ _ (by omega) (by omega) (by omega) (by omega)) ?_|((try (refine CallW.lent ?_; (conv=>whnf); repeat (refine yb ?_; (conv=>whnf)))); refine cL (fun _=>Mul64_P _ _ (by omega) (by omega) (by omega) (by omega)) ?_)); conv=>whnf)|((first|refine cK (fun _=>product_P _ _ _ hn hn' (by omega) (by omega) (by omega) (by omega)) ?_|((try (refine CallW.lent ?_; (conv=>whnf); repeat (refine yb ?_; (conv=>whnf)))); refine cL (fun _=>product_P _ _ _ hn hn' (by omega) (by omega) (by omega) (by omega)) ?_)); conv=>whnf)|(refine yt ?_; conv=>whnf)|exact ⟨_,.keep rfl rfl⟩|fail
 ·have hq := hb
  have e1 : op = 1 := by omega
  subst e1
  refine ⟨_,.keep (key (E := a + b) (S := Pl.sgn n a + Pl.sgn n b) (t := true) rfl rfl ?_ rfl rfl rfl) rfl⟩
  unfold Pl.over
  rw [<- Pl.nuw_eq hf,<- Pl.nsw_eq hf,<- Pl.above_add hn hn' ha hb0 (by omega) (by omega),<- Pl.wraps_add hn hn']
  rw [Bool.or_false] at hq
  exact hq
 ·have hq := hb
  have e1 : op = 1 := by omega
  subst e1
  refine ⟨_,.keep (key (E := a + b) (S := Pl.sgn n a + Pl.sgn n b) (t := false) rfl rfl ?_ rfl rfl rfl) rfl⟩
  unfold Pl.over
  rw [<- Pl.nuw_eq hf,<- Pl.nsw_eq hf,<- Pl.above_add hn hn' ha hb0 (by omega) (by omega),<- Pl.wraps_add hn hn']
  rw [Bool.or_false] at hq
  exact hq
 ·have hq := hb
  have e1 : op = 2 := by omega
  subst e1
  refine ⟨_,.keep (key (E := a - b) (S := Pl.sgn n a - Pl.sgn n b) (t := true) rfl rfl ?_ rfl rfl rfl) rfl⟩
  unfold Pl.over
  rw [<- Pl.nuw_eq hf,<- Pl.nsw_eq hf,<- Pl.below_sub hn hn' hb0 ha',<- Pl.wraps_sub hn hn']
  rw [Bool.false_or] at hq
  exact hq
 ·have hq := hb
  have e1 : op = 2 := by omega
  subst e1
  refine ⟨_,.keep (key (E := a - b) (S := Pl.sgn n a - Pl.sgn n b) (t := false) rfl rfl ?_ (IntKind.wrap_u64 _) rfl rfl) rfl⟩
  unfold Pl.over
  rw [<- Pl.nuw_eq hf,<- Pl.nsw_eq hf,<- Pl.below_sub hn hn' hb0 ha',<- Pl.wraps_sub hn hn']
  rw [Bool.false_or] at hq
  exact hq
 ·have hq := hb
  have e1 : op = 3 := by omega
  subst e1
  refine ⟨_,.keep (key (E := a * b) (S := Pl.sgn n a * Pl.sgn n b) (t := true) rfl rfl ?_ rfl rfl rfl) rfl⟩
  unfold Pl.over
  rw [<- Pl.nuw_eq hf,<- Pl.nsw_eq hf,<- Pl.above_mul hn hn' hm,<- Pl.signed_in hn hn',<- Pl.signed_in hn hn']
  rw [Bool.or_false] at hq
  exact hq
 ·have hq := hb
  have e1 : op = 3 := by omega
  subst e1
  refine ⟨_,.keep (key (E := a * b) (S := Pl.sgn n a * Pl.sgn n b) (t := false) rfl rfl ?_ rfl rfl rfl) rfl⟩
  unfold Pl.over
  rw [<- Pl.nuw_eq hf,<- Pl.nsw_eq hf,<- Pl.above_mul hn hn' hm,<- Pl.signed_in hn hn',<- Pl.signed_in hn hn']
  rw [Bool.or_false] at hq
  exact hq
theorem bne_congr {x y : Int} : ((x != 0) = (y != 0)) = (x = 0 ↔ y = 0) := by
 apply propext
 rw [Bool.eq_iff_iff]; simp only [bne_iff_ne,ne_eq]; omega
theorem divide_P (op : Int) (n : Nat) (f a b : Int) (ho : op = 4 \/ op = 5 \/ op = 6 \/ op = 7) (hn : 1 <= n) (hn' : n <= 64) (ha : 0 <= a) (ha' : a < 2 ^ n) (hb0 : 0 <= b) (hb' : b < 2 ^ n) (hf : f = 0 \/ f = 4) :
  ASpec Tryz.prog 148 [.i .i64 op,.i .i64 n,.i .i64 f,.i .u64 a,.i .u64 b] (.tup [.i .u64 (Pl.div op n f a b).1,.i .i64 (Pl.div op n f a b).2]) [] := by
 have hp := Pl.pow_le_int hn'
 have s1 := sgI hn hn' a
 have s2 := sgI hn hn' b
 have hy : b ≠ 0 -> Pl.signed n b ≠ 0 := fun hb=>by
  obtain ⟨M,h1,_,_,h2,hM,hle,_,_⟩ := Pl.dbl hn hn'
  rw [Pl.signed_in hn hn']
  by_cases c : b < M
  ·rw [Pl.sgn_mid h1 hM (by omega) c]; omega
  ·rw [Pl.sgn_up h1 hM (by omega) (by omega)]; omega
 have key : ∀ {x y : Int},Pl.div op n f a b = (x,y) -> AV.tup [.i .u64 x,.i .i64 y] = .tup [.i .u64 (Pl.div op n f a b).1,.i .i64 (Pl.div op n f a b).2] := fun h=>by rw [h]
 refine ASpec.enter TYok mixed Tryz.func148 rfl Tryz.call148 Tryz.ntmps148 rfl (rs := [.tmp 10,.tmp 11]) rfl (nodupB_ok rfl) (Clo.one rfl) (keep := [0,1,2,3,4,10,11,12,13,14,15]) ?_; conv=>whnf
 have e1 : a.tmod b = a % b := Int.tmod_eq_emod_of_nonneg ha
 have e2 : a.tdiv b = a / b := Int.tdiv_eq_ediv_of_nonneg ha
 have ex : bits .and .i64 f 4 = 0 ↔ ¬f = 4 := by
  rcases hf with rfl|rfl
  ·exact ⟨fun _=>by omega,fun _=>rfl⟩
  ·exact ⟨fun h=>absurd h (by decide),fun h=>absurd rfl h⟩
 have toN : ((n : Int) - 1).toNat = n - 1 := by omega
 repeat' first|(refine iF (fun hb=>?_) (fun hb=>?_) <;> (try simp only [yv] at hb) <;> (have hc := hb; try simp only [sB,Int.reduceToNat] at hc; try simp only [addZ0] at hc) <;> first|(exfalso; omega)|conv=>whnf)|((first|refine ya ?_|refine yb ?_|refine yc ?_|refine yd ?_|refine yf ?_|refine yh ?_|refine yj ?_|refine dD ?_|refine dF ?_|refine d0 ?_|refine d1 ?_|refine dL ?_|refine dP ?_|refine yl ?_|refine ym ?_|refine ⟨_,fun _=>rfl,?_⟩); conv=>whnf)|((first|refine cK (fun _=>Signed_P _ _) ?_|((try (refine CallW.lent ?_; (conv=>whnf); repeat (refine yb ?_; (conv=>whnf)))); refine cL (fun _=>Signed_P _ _) ?_)); conv=>whnf)|(refine yt ?_; conv=>whnf)|exact ⟨_,.keep rfl rfl⟩|fail
 ·exact ⟨_,.keep (key (by rw [hc]; exact Pl.div_zero ..)) rfl⟩
 ·have h1 := Int.emod_nonneg a (show b ≠ 0 by omega)
  have h2 := Int.emod_lt_of_pos a (show 0 < b by omega)
  exact ⟨_,.keep (key (by rw [Pl.div_u (by omega) (by omega),Pl.divR_r (by simpa using hc),Pl.mod_small h1 (by omega),e1])) rfl⟩
 ·refine ⟨_,.keep (key ?_) rfl⟩
  unfold Pl.div Pl.divR
  rw [if_neg (by omega),if_pos (by omega),if_neg (by omega),if_pos (by rw [<- e1]; omega)]
 ·refine ⟨_,.keep (key ?_) rfl⟩
  unfold Pl.div Pl.divR
  rw [if_neg (by omega),if_pos (by omega),if_neg (by omega),if_neg (by rw [<- e1]; omega),IntKind.wrap_u64,e2]
 all_goals have g1 := Pl.signed_in hn hn' (v := a)
 all_goals have g2 := Pl.signed_in hn hn' (v := b)
 all_goals have g3 := Pl.tmod_small (x := Pl.signed n a) (y := Pl.signed n b) s1.1 s1.2
 all_goals rw [bne_congr] at g3
 ·refine ⟨_,.keep (key ?_) rfl⟩
  unfold Pl.div
  rw [<- g2,<- toN,if_neg (by omega),if_neg (by omega),if_pos hc]
 all_goals have hlst : ¬(Pl.signed n b = -1 /\ a = 2 ^ (n - 1)) := by rw [<- toN]; omega
 ·refine ⟨_,.keep (key ?_) rfl⟩
  unfold Pl.div Pl.divR
  rw [<- g1,<- g2,if_neg (by omega),if_neg (by omega),if_neg hlst,if_pos (by omega),IntKind.wrap_u64]
 ·refine ⟨_,.keep (key ?_) rfl⟩
  unfold Pl.div Pl.divR
  rw [<- g1,<- g2,if_neg (by omega),if_neg (by omega),if_neg hlst,if_neg (by omega),if_pos ⟨by omega,fun h=>hc.2 (g3.2 h)⟩]
 ·refine ⟨_,.keep (key ?_) rfl⟩
  unfold Pl.div Pl.divR
  rw [<- g1,<- g2,if_neg (by omega),if_neg (by omega),if_neg hlst,if_neg (by omega),if_neg (fun h=>h.2 (g3.1 (by omega))),Pl.wrapQ]
theorem neD {x y : Int} : (!decide (x = y)) = (x != y) := rfl
theorem shift_P (op : Int) (n : Nat) (f a b : Int) (ho : op = 11 \/ op = 12 \/ op = 13) (hn : 1 <= n) (hn' : n <= 64) (ha : 0 <= a) (ha' : a < 2 ^ n) (hb0 : 0 <= b) (hb2 : b < 18446744073709551616) (hf : (op = 11 -> f = 0 \/ f = 1 \/ f = 2 \/ f = 3) /\ (op ≠ 11 -> f = 0 \/ f = 4)) :
  ASpec Tryz.prog 149 [.i .i64 op,.i .i64 n,.i .i64 f,.i .u64 a,.i .u64 b] (.tup [.i .u64 (Pl.shift op n f a b).1,.i .i64 (Pl.shift op n f a b).2]) [] := by
 have hp := Pl.pow_le_int hn'
 have hw : IntKind.u64.wrap (n : Int) = n := by rw [IntKind.wrap_u64]; omega
 obtain ⟨k,rfl⟩ := Int.eq_ofNat_of_zero_le hb0
 have key : ∀ {x y : Int},Pl.shift op n f a k = (x,y) -> AV.tup [.i .u64 x,.i .i64 y] = .tup [.i .u64 (Pl.shift op n f a k).1,.i .i64 (Pl.shift op n f a k).2] := fun h=>by rw [h]
 refine ASpec.enter TYok mixed Tryz.func149 rfl Tryz.call149 Tryz.ntmps149 rfl (rs := [.tmp 10,.tmp 11]) rfl (nodupB_ok rfl) (Clo.one rfl) (keep := [0,1,2,3,4,10,11,12,13,18]) ?_; conv=>whnf
 repeat' first|(refine iF (fun hb=>?_) (fun hb=>?_) <;> (try simp only [yv] at hb) <;> (have hc := hb; try simp only [sB,Int.reduceToNat] at hc; try simp only [addZ0] at hc) <;> first|(exfalso; omega)|conv=>whnf)|((first|refine ya ?_|refine yb ?_|refine yc ?_|refine yd ?_|refine yf ?_|refine yh ?_|refine yj ?_|refine dD ?_|refine dF ?_|refine d0 ?_|refine d1 ?_|refine dL ?_|refine dP ?_|refine yl ?_|refine ym ?_|refine ⟨_,fun _=>rfl,?_⟩); conv=>whnf)|((first|refine cK (fun _=>Signed_P _ _) ?_|((try (refine CallW.lent ?_; (conv=>whnf); repeat (refine yb ?_; (conv=>whnf)))); refine cL (fun _=>Signed_P _ _) ?_)); conv=>whnf)|((first|refine cK (fun _=>Mask_P _) ?_|((try (refine CallW.lent ?_; (conv=>whnf); repeat (refine yb ?_; (conv=>whnf)))); refine cL (fun _=>Mask_P _) ?_)); conv=>whnf)|(refine yt ?_; conv=>whnf)|exact ⟨_,.keep rfl rfl⟩|fail
 ·exact ⟨_,.keep (key (by rw [hw] at hc; exact if_pos hc)) rfl⟩
 all_goals have hk : k < n := by rw [hw] at *; omega
 all_goals simp only [neD] at hb
 ·rw [Pl.nuw_eq (hf.1 (by omega)),Pl.nsw_eq (hf.1 (by omega)),Pl.min_u hk hn',Pl.min_i hk hn',Pl.and_mask_wrap hn hn',Pl.signed_in hn hn',Pl.signed_in hn hn',Pl.shl_u hk ha,Pl.shl_s hn hn' hk] at hb
  exact ⟨_,.keep (key (by rw [show op = 11 by omega]; exact Pl.shift_l1 hk hb)) rfl⟩
 ·rw [Pl.nuw_eq (hf.1 (by omega)),Pl.nsw_eq (hf.1 (by omega)),Pl.min_u hk hn',Pl.min_i hk hn',Pl.and_mask_wrap hn hn',Pl.signed_in hn hn',Pl.signed_in hn hn',Pl.shl_u hk ha,Pl.shl_s hn hn' hk] at hb
  exact ⟨_,.keep (key (by rw [show op = 11 by omega,Pl.shift_l0 hk hb,Pl.min_u hk hn',Pl.and_mask_wrap hn hn'])) rfl⟩
 all_goals rw [Pl.exact_eq (hf.2 (by omega)),Pl.min_u hk hn'] at hb
 ·rw [Pl.lshr_x hn' hk ha ha'] at hb
  exact ⟨_,.keep (key (Pl.shift_r1 hk (by omega) hb)) rfl⟩
 ·rw [Pl.lshr_x hn' hk ha ha'] at hb
  exact ⟨_,.keep (key (by rw [Pl.shift_r0 hk (by omega) hb,if_pos (by omega),Pl.min_u hk hn'])) rfl⟩
 ·rw [Pl.min_i hk hn',Pl.and_mask_wrap hn hn',Pl.signed_in hn hn',Pl.ashr_x hn' hk ha ha'] at hb
  exact ⟨_,.keep (key (Pl.shift_r1 hk (by omega) hb)) rfl⟩
 ·rw [Pl.min_i hk hn',Pl.and_mask_wrap hn hn',Pl.signed_in hn hn',Pl.ashr_x hn' hk ha ha'] at hb
  exact ⟨_,.keep (key (by rw [Pl.shift_r0 hk (by omega) hb,if_neg (by omega),Pl.min_i hk hn',Pl.signed_in hn hn',IntKind.wrap_u64])) rfl⟩
theorem badP' {op w f : Int} : Pl.badA op w f = true ↔ Pl.mask w = 0 \/ op < 1 \/ 19 < op \/ ¬bits .andNot .i64 f (Pl.flags op) = 0 := by
 unfold Pl.badA; simp only [Bool.or_eq_true,beq_iff_eq,decide_eq_true_eq,bne_iff_ne,ne_eq,or_assoc]
theorem badN {op w f : Int} : Pl.badA op w f = false ↔ ¬Pl.mask w = 0 /\ ¬op < 1 /\ ¬19 < op /\ bits .andNot .i64 f (Pl.flags op) = 0 := by
 rw [<- Bool.not_eq_true,badP']; simp only [not_or,Decidable.not_not]
theorem apk {op w f a b x y : Int} (h : Pl.apply op w f a b = (x,y)) : AV.tup [.i .u64 x,.i .i64 y] = .tup [.i .u64 (Pl.apply op w f a b).1,.i .i64 (Pl.apply op w f a b).2] := by rw [h]
theorem Apply_bad (op w f a b : Int) (hg : Pl.badA op w f = true) :
  ASpec Tryz.prog 132 [.i .i64 op,.i .i64 w,.i .i64 f,.i .u64 a,.i .u64 b] (.tup [.i .u64 (Pl.apply op w f a b).1,.i .i64 (Pl.apply op w f a b).2]) [] := by
 have hg' := badP'.1 hg
 refine ASpec.enter TYok mixed Tryz.func132 rfl Tryz.call132 Tryz.ntmps132 rfl (rs := [.tmp 10,.tmp 11]) rfl (nodupB_ok rfl) (Clo.one rfl) (keep := [0,1,2,3,4,10,11,12,13,14,15,16]) ?_; conv=>whnf
 repeat' first|(refine iF (fun hb=>?_) (fun hb=>?_) <;> (try simp only [yv] at hb) <;> (have hc := hb; try simp only [sB,Int.reduceToNat] at hc; try simp only [addZ0] at hc) <;> first|(exfalso; omega)|conv=>whnf)|((first|refine ya ?_|refine yb ?_|refine yc ?_|refine yd ?_|refine yf ?_|refine yh ?_|refine yj ?_|refine dD ?_|refine dF ?_|refine d0 ?_|refine d1 ?_|refine dL ?_|refine dP ?_|refine yl ?_|refine ym ?_|refine ⟨_,fun _=>rfl,?_⟩); conv=>whnf)|((first|refine cK (fun _=>Mask_P _) ?_|((try (refine CallW.lent ?_; (conv=>whnf); repeat (refine yb ?_; (conv=>whnf)))); refine cL (fun _=>Mask_P _) ?_)); conv=>whnf)|((first|refine cK (fun _=>Flags_P _) ?_|((try (refine CallW.lent ?_; (conv=>whnf); repeat (refine yb ?_; (conv=>whnf)))); refine cL (fun _=>Flags_P _) ?_)); conv=>whnf)|(refine yt ?_; conv=>whnf)|exact ⟨_,.keep rfl rfl⟩|fail
 exact ⟨_,.keep (apk (Pl.apply_bad hg)) rfl⟩
theorem cutT {n : Nat} {p : Int × Int} (h : ¬p.2 = 0) : Pl.cutR n p = (0,p.2) := Pl.cutR_t (by simpa using h)
theorem cutF {n : Nat} {p : Int × Int} (h : p.2 = 0) : Pl.cutR n p = (p.1 % 2 ^ n,0) := Pl.cutR_f (by simpa using h)
theorem Apply_ring (op : Int) (n : Nat) (f a b : Int) (ho : op = 1 \/ op = 2 \/ op = 3) (hn : 1 <= n) (hn' : n <= 64) (ha : 0 <= a) (ha' : a < 18446744073709551616) (hb0 : 0 <= b) (hb' : b < 18446744073709551616) (hg : Pl.badA op n f = false) (hf : f = 0 \/ f = 1 \/ f = 2 \/ f = 3) :
  ASpec Tryz.prog 132 [.i .i64 op,.i .i64 n,.i .i64 f,.i .u64 a,.i .u64 b] (.tup [.i .u64 (Pl.apply op n f a b).1,.i .i64 (Pl.apply op n f a b).2]) [] := by
 have ea := Pl.and_mask hn hn' ha ha'
 have eb := Pl.and_mask hn hn' hb0 hb'
 have ma := Pl.mod_range n a
 have mb := Pl.mod_range n b
 have hp := Pl.pow_le_int hn'
 have rr := Pl.ring_range op n f (a % 2 ^ n) (b % 2 ^ n)
 have hg' := badN.1 hg
 have hR := ring_P op n f (bits .and .u64 a (Pl.mask n)) (bits .and .u64 b (Pl.mask n)) ho hn hn' (by rw [ea]; exact ma.1) (by rw [ea]; exact ma.2) (by rw [eb]; exact mb.1) (by rw [eb]; exact mb.2) hf
 rw [ea,eb] at hR
 have e1 : Pl.apply op n f a b = Pl.cutR n (Pl.ring op n f (a % 2 ^ n) (b % 2 ^ n)) := by rw [Pl.apply_ok hg,Pl.core_ring (by omega)]
 refine ASpec.enter TYok mixed Tryz.func132 rfl Tryz.call132 Tryz.ntmps132 rfl (rs := [.tmp 10,.tmp 11]) rfl (nodupB_ok rfl) (Clo.one rfl) (keep := [0,1,2,3,4,10,11,12,13,14,15,16]) ?_; conv=>whnf
 repeat' first|(refine iF (fun hb=>?_) (fun hb=>?_) <;> (try simp only [yv] at hb) <;> (have hc := hb; try simp only [sB,Int.reduceToNat] at hc; try simp only [addZ0] at hc) <;> first|(exfalso; omega)|conv=>whnf)|((first|refine ya ?_|refine yb ?_|refine yc ?_|refine yd ?_|refine yf ?_|refine yh ?_|refine yj ?_|refine dD ?_|refine dF ?_|refine d0 ?_|refine d1 ?_|refine dL ?_|refine dP ?_|refine yl ?_|refine ym ?_|refine ⟨_,fun _=>rfl,?_⟩); conv=>whnf)|((first|refine cK (fun _=>Mask_P _) ?_|((try (refine CallW.lent ?_; (conv=>whnf); repeat (refine yb ?_; (conv=>whnf)))); refine cL (fun _=>Mask_P _) ?_)); conv=>whnf)|((first|refine cK (fun _=>Flags_P _) ?_|((try (refine CallW.lent ?_; (conv=>whnf); repeat (refine yb ?_; (conv=>whnf)))); refine cL (fun _=>Flags_P _) ?_)); conv=>whnf)|((first|refine cK (fun _=>(by rw [ea,eb]; exact hR)) ?_|((try (refine CallW.lent ?_; (conv=>whnf); repeat (refine yb ?_; (conv=>whnf)))); refine cL (fun _=>(by rw [ea,eb]; exact hR)) ?_)); conv=>whnf)|(refine yt ?_; conv=>whnf)|exact ⟨_,.keep rfl rfl⟩|fail
 ·exact ⟨_,.keep (apk (by rw [e1]; exact cutT hc)) rfl⟩
 ·exact ⟨_,.keep (apk (by rw [e1,cutF hc,Pl.and_mask hn hn' rr.1 rr.2])) rfl⟩
theorem Apply_div (op : Int) (n : Nat) (f a b : Int) (ho : op = 4 \/ op = 5 \/ op = 6 \/ op = 7) (hn : 1 <= n) (hn' : n <= 64) (ha : 0 <= a) (ha' : a < 18446744073709551616) (hb0 : 0 <= b) (hb' : b < 18446744073709551616) (hg : Pl.badA op n f = false) (hf : f = 0 \/ f = 4) :
  ASpec Tryz.prog 132 [.i .i64 op,.i .i64 n,.i .i64 f,.i .u64 a,.i .u64 b] (.tup [.i .u64 (Pl.apply op n f a b).1,.i .i64 (Pl.apply op n f a b).2]) [] := by
 have ea := Pl.and_mask hn hn' ha ha'
 have eb := Pl.and_mask hn hn' hb0 hb'
 have ma := Pl.mod_range n a
 have mb := Pl.mod_range n b
 have hp := Pl.pow_le_int hn'
 have rr := Pl.div_range op n f (a % 2 ^ n) (b % 2 ^ n)
 have hg' := badN.1 hg
 have hR := divide_P op n f (bits .and .u64 a (Pl.mask n)) (bits .and .u64 b (Pl.mask n)) ho hn hn' (by rw [ea]; exact ma.1) (by rw [ea]; exact ma.2) (by rw [eb]; exact mb.1) (by rw [eb]; exact mb.2) hf
 rw [ea,eb] at hR
 have e1 : Pl.apply op n f a b = Pl.cutR n (Pl.div op n f (a % 2 ^ n) (b % 2 ^ n)) := by rw [Pl.apply_ok hg,Pl.core_div (by omega) (by omega)]
 refine ASpec.enter TYok mixed Tryz.func132 rfl Tryz.call132 Tryz.ntmps132 rfl (rs := [.tmp 10,.tmp 11]) rfl (nodupB_ok rfl) (Clo.one rfl) (keep := [0,1,2,3,4,10,11,12,13,14,15,16]) ?_; conv=>whnf
 repeat' first|(refine iF (fun hb=>?_) (fun hb=>?_) <;> (try simp only [yv] at hb) <;> (have hc := hb; try simp only [sB,Int.reduceToNat] at hc; try simp only [addZ0] at hc) <;> first|(exfalso; omega)|conv=>whnf)|((first|refine ya ?_|refine yb ?_|refine yc ?_|refine yd ?_|refine yf ?_|refine yh ?_|refine yj ?_|refine dD ?_|refine dF ?_|refine d0 ?_|refine d1 ?_|refine dL ?_|refine dP ?_|refine yl ?_|refine ym ?_|refine ⟨_,fun _=>rfl,?_⟩); conv=>whnf)|((first|refine cK (fun _=>Mask_P _) ?_|((try (refine CallW.lent ?_; (conv=>whnf); repeat (refine yb ?_; (conv=>whnf)))); refine cL (fun _=>Mask_P _) ?_)); conv=>whnf)|((first|refine cK (fun _=>Flags_P _) ?_|((try (refine CallW.lent ?_; (conv=>whnf); repeat (refine yb ?_; (conv=>whnf)))); refine cL (fun _=>Flags_P _) ?_)); conv=>whnf)|((first|refine cK (fun _=>(by rw [ea,eb]; exact hR)) ?_|((try (refine CallW.lent ?_; (conv=>whnf); repeat (refine yb ?_; (conv=>whnf)))); refine cL (fun _=>(by rw [ea,eb]; exact hR)) ?_)); conv=>whnf)|(refine yt ?_; conv=>whnf)|exact ⟨_,.keep rfl rfl⟩|fail
 ·exact ⟨_,.keep (apk (by rw [e1]; exact cutT hc)) rfl⟩
 ·exact ⟨_,.keep (apk (by rw [e1,cutF hc,Pl.and_mask hn hn' rr.1 rr.2])) rfl⟩
theorem Apply_shift (op : Int) (n : Nat) (f a b : Int) (ho : op = 11 \/ op = 12 \/ op = 13) (hn : 1 <= n) (hn' : n <= 64) (ha : 0 <= a) (ha' : a < 18446744073709551616) (hb0 : 0 <= b) (hb' : b < 18446744073709551616) (hg : Pl.badA op n f = false) (hf : (op = 11 -> f = 0 \/ f = 1 \/ f = 2 \/ f = 3) /\ (op ≠ 11 -> f = 0 \/ f = 4)) :
  ASpec Tryz.prog 132 [.i .i64 op,.i .i64 n,.i .i64 f,.i .u64 a,.i .u64 b] (.tup [.i .u64 (Pl.apply op n f a b).1,.i .i64 (Pl.apply op n f a b).2]) [] := by
 have ea := Pl.and_mask hn hn' ha ha'
 have eb := Pl.and_mask hn hn' hb0 hb'
 have ma := Pl.mod_range n a
 have mb := Pl.mod_range n b
 have hp := Pl.pow_le_int hn'
 have rr := Pl.shift_range op f (b % 2 ^ n) hn' ma.1 (by omega)
 have hg' := badN.1 hg
 have hR := shift_P op n f (bits .and .u64 a (Pl.mask n)) (bits .and .u64 b (Pl.mask n)) ho hn hn' (by rw [ea]; exact ma.1) (by rw [ea]; exact ma.2) (by rw [eb]; exact mb.1) (by rw [eb]; omega) hf
 rw [ea,eb] at hR
 have e1 : Pl.apply op n f a b = Pl.cutR n (Pl.shift op n f (a % 2 ^ n) (b % 2 ^ n)) := by rw [Pl.apply_ok hg,Pl.core_shift (by omega) (by omega)]
 refine ASpec.enter TYok mixed Tryz.func132 rfl Tryz.call132 Tryz.ntmps132 rfl (rs := [.tmp 10,.tmp 11]) rfl (nodupB_ok rfl) (Clo.one rfl) (keep := [0,1,2,3,4,10,11,12,13,14,15,16]) ?_; conv=>whnf
 repeat' first|(refine iF (fun hb=>?_) (fun hb=>?_) <;> (try simp only [yv] at hb) <;> (have hc := hb; try simp only [sB,Int.reduceToNat] at hc; try simp only [addZ0] at hc) <;> first|(exfalso; omega)|conv=>whnf)|((first|refine ya ?_|refine yb ?_|refine yc ?_|refine yd ?_|refine yf ?_|refine yh ?_|refine yj ?_|refine dD ?_|refine dF ?_|refine d0 ?_|refine d1 ?_|refine dL ?_|refine dP ?_|refine yl ?_|refine ym ?_|refine ⟨_,fun _=>rfl,?_⟩); conv=>whnf)|((first|refine cK (fun _=>Mask_P _) ?_|((try (refine CallW.lent ?_; (conv=>whnf); repeat (refine yb ?_; (conv=>whnf)))); refine cL (fun _=>Mask_P _) ?_)); conv=>whnf)|((first|refine cK (fun _=>Flags_P _) ?_|((try (refine CallW.lent ?_; (conv=>whnf); repeat (refine yb ?_; (conv=>whnf)))); refine cL (fun _=>Flags_P _) ?_)); conv=>whnf)|((first|refine cK (fun _=>(by rw [ea,eb]; exact hR)) ?_|((try (refine CallW.lent ?_; (conv=>whnf); repeat (refine yb ?_; (conv=>whnf)))); refine cL (fun _=>(by rw [ea,eb]; exact hR)) ?_)); conv=>whnf)|(refine yt ?_; conv=>whnf)|exact ⟨_,.keep rfl rfl⟩|fail
 ·exact ⟨_,.keep (apk (by rw [e1]; exact cutT hc)) rfl⟩
 ·exact ⟨_,.keep (apk (by rw [e1,cutF hc,Pl.and_mask hn hn' rr.1 rr.2])) rfl⟩
theorem Apply_bit (op : Int) (n : Nat) (f a b : Int) (ho : op = 8 \/ op = 9 \/ op = 10) (hn : 1 <= n) (hn' : n <= 64) (ha : 0 <= a) (ha' : a < 18446744073709551616) (hb0 : 0 <= b) (hb' : b < 18446744073709551616) (hg : Pl.badA op n f = false) :
  ASpec Tryz.prog 132 [.i .i64 op,.i .i64 n,.i .i64 f,.i .u64 a,.i .u64 b] (.tup [.i .u64 (Pl.apply op n f a b).1,.i .i64 (Pl.apply op n f a b).2]) [] := by
 have ea := Pl.and_mask hn hn' ha ha'
 have eb := Pl.and_mask hn hn' hb0 hb'
 have ma := Pl.mod_range n a
 have mb := Pl.mod_range n b
 have hp := Pl.pow_le_int hn'
 have rr := Pl.bit_range (op := op) ma.1 (show a % 2 ^ n < 18446744073709551616 by omega) mb.1 (show b % 2 ^ n < 18446744073709551616 by omega)
 have hg' := badN.1 hg
 have e1 : Pl.apply op n f a b = (Pl.bitw op (a % 2 ^ n) (b % 2 ^ n) % 2 ^ n,0) := by rw [Pl.apply_ok hg,Pl.core_bit (by omega) (by omega)]; rfl
 have e2 := Pl.and_mask hn hn' rr.1 rr.2
 rw [<- e2] at e1
 unfold Pl.bitw at e1
 rw [<- ea,<- eb] at e1
 rcases ho with rfl|rfl|rfl
 all_goals (refine ASpec.enter TYok mixed Tryz.func132 rfl Tryz.call132 Tryz.ntmps132 rfl (rs := [.tmp 10,.tmp 11]) rfl (nodupB_ok rfl) (Clo.one rfl) (keep := [0,1,2,3,4,10,11,12,13,14,15,16]) ?_; conv=>whnf)
 ·repeat' first|(refine iF (fun hb=>?_) (fun hb=>?_) <;> (try simp only [yv] at hb) <;> (have hc := hb; try simp only [sB,Int.reduceToNat] at hc; try simp only [addZ0] at hc) <;> first|(exfalso; omega)|conv=>whnf)|((first|refine ya ?_|refine yb ?_|refine yc ?_|refine yd ?_|refine yf ?_|refine yh ?_|refine yj ?_|refine dD ?_|refine dF ?_|refine d0 ?_|refine d1 ?_|refine dL ?_|refine dP ?_|refine yl ?_|refine ym ?_|refine ⟨_,fun _=>rfl,?_⟩); conv=>whnf)|((first|refine cK (fun _=>Mask_P _) ?_|((try (refine CallW.lent ?_; (conv=>whnf); repeat (refine yb ?_; (conv=>whnf)))); refine cL (fun _=>Mask_P _) ?_)); conv=>whnf)|((first|refine cK (fun _=>Flags_P _) ?_|((try (refine CallW.lent ?_; (conv=>whnf); repeat (refine yb ?_; (conv=>whnf)))); refine cL (fun _=>Flags_P _) ?_)); conv=>whnf)|(refine yt ?_; conv=>whnf)|exact ⟨_,.keep rfl rfl⟩|fail
  all_goals first|(simp at hb; done)|exact ⟨_,.keep (apk e1) rfl⟩
 ·repeat' first|(refine iF (fun hb=>?_) (fun hb=>?_) <;> (try simp only [yv] at hb) <;> (have hc := hb; try simp only [sB,Int.reduceToNat] at hc; try simp only [addZ0] at hc) <;> first|(exfalso; omega)|conv=>whnf)|((first|refine ya ?_|refine yb ?_|refine yc ?_|refine yd ?_|refine yf ?_|refine yh ?_|refine yj ?_|refine dD ?_|refine dF ?_|refine d0 ?_|refine d1 ?_|refine dL ?_|refine dP ?_|refine yl ?_|refine ym ?_|refine ⟨_,fun _=>rfl,?_⟩); conv=>whnf)|((first|refine cK (fun _=>Mask_P _) ?_|((try (refine CallW.lent ?_; (conv=>whnf); repeat (refine yb ?_; (conv=>whnf)))); refine cL (fun _=>Mask_P _) ?_)); conv=>whnf)|((first|refine cK (fun _=>Flags_P _) ?_|((try (refine CallW.lent ?_; (conv=>whnf); repeat (refine yb ?_; (conv=>whnf)))); refine cL (fun _=>Flags_P _) ?_)); conv=>whnf)|(refine yt ?_; conv=>whnf)|exact ⟨_,.keep rfl rfl⟩|fail
  all_goals first|(simp at hb; done)|exact ⟨_,.keep (apk e1) rfl⟩
 ·repeat' first|(refine iF (fun hb=>?_) (fun hb=>?_) <;> (try simp only [yv] at hb) <;> (have hc := hb; try simp only [sB,Int.reduceToNat] at hc; try simp only [addZ0] at hc) <;> first|(exfalso; omega)|conv=>whnf)|((first|refine ya ?_|refine yb ?_|refine yc ?_|refine yd ?_|refine yf ?_|refine yh ?_|refine yj ?_|refine dD ?_|refine dF ?_|refine d0 ?_|refine d1 ?_|refine dL ?_|refine dP ?_|refine yl ?_|refine ym ?_|refine ⟨_,fun _=>rfl,?_⟩); conv=>whnf)|((first|refine cK (fun _=>Mask_P _) ?_|((try (refine CallW.lent ?_; (conv=>whnf); repeat (refine yb ?_; (conv=>whnf)))); refine cL (fun _=>Mask_P _) ?_)); conv=>whnf)|((first|refine cK (fun _=>Flags_P _) ?_|((try (refine CallW.lent ?_; (conv=>whnf); repeat (refine yb ?_; (conv=>whnf)))); refine cL (fun _=>Flags_P _) ?_)); conv=>whnf)|(refine yt ?_; conv=>whnf)|exact ⟨_,.keep rfl rfl⟩|fail
  all_goals first|(simp at hb; done)|exact ⟨_,.keep (apk e1) rfl⟩
theorem cmp14 {n : Nat} {A B : Int} {t : Bool} (h : decide (A = B) = t) : Pl.cmp 14 n A B = t := by
 unfold Pl.cmp; rw [if_pos rfl]; exact h
theorem cmp15 {n : Nat} {A B : Int} {t : Bool} (h : (!decide (A = B)) = t) : Pl.cmp 15 n A B = t := by
 unfold Pl.cmp; rw [if_neg (by decide),if_pos rfl]; exact h
theorem cmp16 {n : Nat} {A B : Int} {t : Bool} (h : decide (A < B) = t) : Pl.cmp 16 n A B = t := by
 unfold Pl.cmp; rw [if_neg (by decide),if_neg (by decide),if_pos rfl]; exact h
theorem cmp17 {n : Nat} {A B : Int} {t : Bool} (h : decide (A <= B) = t) : Pl.cmp 17 n A B = t := by
 unfold Pl.cmp; rw [if_neg (by decide),if_neg (by decide),if_neg (by decide),if_pos rfl]; exact h
theorem cmp18 {n : Nat} {A B : Int} {t : Bool} (h : decide (Pl.sgn n A < Pl.sgn n B) = t) : Pl.cmp 18 n A B = t := by
 unfold Pl.cmp; rw [if_neg (by decide),if_neg (by decide),if_neg (by decide),if_neg (by decide),if_pos rfl]; exact h
theorem cmp19 {n : Nat} {A B : Int} {t : Bool} (h : decide (Pl.sgn n A <= Pl.sgn n B) = t) : Pl.cmp 19 n A B = t := by
 unfold Pl.cmp; rw [if_neg (by decide),if_neg (by decide),if_neg (by decide),if_neg (by decide),if_neg (by decide)]; exact h
theorem Apply_cmp (op : Int) (n : Nat) (f a b : Int) (ho : op = 14 ∨ op = 15 ∨ op = 16 ∨ op = 17 ∨ op = 18 ∨ op = 19) (hn : 1 ≤ n) (hn' : n ≤ 64) (ha : 0 ≤ a) (ha' : a < 18446744073709551616) (hb0 : 0 ≤ b) (hb' : b < 18446744073709551616) (hg : Pl.badA op n f = false) :
    ASpec Tryz.prog 132 [.i .i64 op, .i .i64 n, .i .i64 f, .i .u64 a, .i .u64 b] (.tup [.i .u64 (Pl.apply op n f a b).1, .i .i64 (Pl.apply op n f a b).2]) [] := by
  have ea := Pl.and_mask hn hn' ha ha'
  have eb := Pl.and_mask hn hn' hb0 hb'
  have hg' := badN.1 hg
  have h1 : bits .and .u64 1 (Pl.mask n) = 1 := by
    rw [Pl.and_mask hn hn' (by omega) (by omega)]
    have := Pl.pow_parts (k := 0) hn
    obtain ⟨p, q, h2, h3, h4, h5, _⟩ := this
    have : (2 : Int) ^ n ≥ 2 := by rw [h3]; have : p = 1 := by rw [← h2]; rfl
                                   subst this; omega
    exact Int.emod_eq_of_lt (by omega) (by omega)
  have h0 : bits .and .u64 0 (Pl.mask n) = 0 := by rw [Pl.and_mask hn hn' (by omega) (by omega)]; exact Int.zero_emod _
  have e1 : ∀ t, Pl.cmp op n (bits .and .u64 a (Pl.mask n)) (bits .and .u64 b (Pl.mask n)) = t → Pl.apply op n f a b = (bits .and .u64 (bif t then 1 else 0) (Pl.mask n), 0) := fun t ht => by
    rw [Pl.apply_ok hg, Pl.core_cmp (by omega), ← ea, ← eb, ht]
    rw [Pl.and_mask hn hn' (by cases t <;> decide) (by cases t <;> decide)]
    rfl
  have hS : ∀ v, ASpec Tryz.prog 146 [.i .i64 n, .i .u64 v] (.i .i64 (Pl.sgn n v)) [] := fun v => by have := Signed_P n v; rwa [Pl.signed_in hn hn'] at this
  have ho' : (op = 14 ∧ ∀ t : Bool, decide (bits .and .u64 a (Pl.mask n) = bits .and .u64 b (Pl.mask n)) = t → Pl.apply op n f a b = (bits .and .u64 (bif t then 1 else 0) (Pl.mask n), 0)) ∨ (op = 15 ∧ ∀ t : Bool, (!decide (bits .and .u64 a (Pl.mask n) = bits .and .u64 b (Pl.mask n))) = t → Pl.apply op n f a b = (bits .and .u64 (bif t then 1 else 0) (Pl.mask n), 0)) ∨ (op = 16 ∧ ∀ t : Bool, decide (bits .and .u64 a (Pl.mask n) < bits .and .u64 b (Pl.mask n)) = t → Pl.apply op n f a b = (bits .and .u64 (bif t then 1 else 0) (Pl.mask n), 0)) ∨ (op = 17 ∧ ∀ t : Bool, decide (bits .and .u64 a (Pl.mask n) ≤ bits .and .u64 b (Pl.mask n)) = t → Pl.apply op n f a b = (bits .and .u64 (bif t then 1 else 0) (Pl.mask n), 0)) ∨ (op = 18 ∧ ∀ t : Bool, decide (Pl.sgn n (bits .and .u64 a (Pl.mask n)) < Pl.sgn n (bits .and .u64 b (Pl.mask n))) = t → Pl.apply op n f a b = (bits .and .u64 (bif t then 1 else 0) (Pl.mask n), 0)) ∨ (op = 19 ∧ ∀ t : Bool, decide (Pl.sgn n (bits .and .u64 a (Pl.mask n)) ≤ Pl.sgn n (bits .and .u64 b (Pl.mask n))) = t → Pl.apply op n f a b = (bits .and .u64 (bif t then 1 else 0) (Pl.mask n), 0)) := by
    rcases ho with rfl | rfl | rfl | rfl | rfl | rfl
    · exact .inl ⟨rfl, fun t h => e1 t (cmp14 h)⟩
    · exact .inr (.inl ⟨rfl, fun t h => e1 t (cmp15 h)⟩)
    · exact .inr (.inr (.inl ⟨rfl, fun t h => e1 t (cmp16 h)⟩))
    · exact .inr (.inr (.inr (.inl ⟨rfl, fun t h => e1 t (cmp17 h)⟩)))
    · exact .inr (.inr (.inr (.inr (.inl ⟨rfl, fun t h => e1 t (cmp18 h)⟩))))
    · exact .inr (.inr (.inr (.inr (.inr (⟨rfl, fun t h => e1 t (cmp19 h)⟩)))))
  clear e1
  rcases ho' with ⟨rfl, e1⟩ | ⟨rfl, e1⟩ | ⟨rfl, e1⟩ | ⟨rfl, e1⟩ | ⟨rfl, e1⟩ | ⟨rfl, e1⟩
  all_goals (refine ASpec.enter TYok mixed Tryz.func132 rfl Tryz.call132 Tryz.ntmps132 rfl (rs := [.tmp 10, .tmp 11]) rfl (nodupB_ok rfl) (Clo.one rfl) (keep := [0, 1, 2, 3, 4, 10, 11, 12, 13, 14, 15, 16]) ?_; conv => whnf)
  all_goals (repeat' first | (refine iF (fun hb => ?_) (fun hb => ?_) <;> (try simp only [yv] at hb) <;> (have hc := hb; try simp only [sB, Int.reduceToNat] at hc; try simp only [addZ0] at hc) <;> first | (exfalso; omega) | conv => whnf) | ((first | refine ya ?_ | refine yb ?_ | refine yc ?_ | refine yd ?_ | refine yf ?_ | refine yh ?_ | refine yj ?_ | refine dD ?_ | refine dF ?_ | refine d0 ?_ | refine d1 ?_ | refine dL ?_ | refine dP ?_ | refine yl ?_ | refine ym ?_ | refine ⟨_, fun _ => rfl, ?_⟩); conv => whnf) | ((first | refine cK (fun _ => Mask_P _) ?_ | ((try (refine CallW.lent ?_; (conv => whnf); repeat (refine yb ?_; (conv => whnf)))); refine cL (fun _ => Mask_P _) ?_)); conv => whnf) | ((first | refine cK (fun _ => Flags_P _) ?_ | ((try (refine CallW.lent ?_; (conv => whnf); repeat (refine yb ?_; (conv => whnf)))); refine cL (fun _ => Flags_P _) ?_)); conv => whnf) | ((first | refine cK (fun _ => hS _) ?_ | ((try (refine CallW.lent ?_; (conv => whnf); repeat (refine yb ?_; (conv => whnf)))); refine cL (fun _ => hS _) ?_)); conv => whnf) | (refine yt ?_; conv => whnf) | exact ⟨_, .keep rfl rfl⟩ | fail)
  all_goals first | (simp at hb; done) | (rename_i hq hq2; have e2 := e1 _ hq; simp only [cond_true, cond_false] at e2; exact ⟨_, .keep (apk e2) rfl⟩)
theorem Apply_P (op w f a b : Int) (ha : 0 <= a) (ha' : a < 18446744073709551616) (hb0 : 0 <= b) (hb' : b < 18446744073709551616) (hf : inI f) :
  ASpec Tryz.prog 132 [.i .i64 op,.i .i64 w,.i .i64 f,.i .u64 a,.i .u64 b] (.tup [.i .u64 (Pl.apply op w f a b).1,.i .i64 (Pl.apply op w f a b).2]) [] := by
 cases hg : Pl.badA op w f with
 | true=>exact Apply_bad op w f a b hg
 | false =>
  obtain ⟨⟨n,rfl,hn,hn'⟩,h1,h2,h3⟩ := Pl.goodA hg
  have f3 : Pl.flags op = 3 -> f = 0 \/ f = 1 \/ f = 2 \/ f = 3 := fun h=>Pl.flags3 hf.1 hf.2 (h ▸ h3)
  have f4 : Pl.flags op = 4 -> f = 0 \/ f = 4 := fun h=>Pl.flags4 hf.1 hf.2 (h ▸ h3)
  have f0 : Pl.flags op = 0 -> f = 0 := fun h=>Pl.flags0 hf.1 hf.2 (h ▸ h3)
  have fl : ∀ x,Pl.flags op = x -> (if op = 1 \/ op = 2 \/ op = 3 \/ op = 11 then 3 else if op = 4 \/ op = 5 \/ op = 12 \/ op = 13 then 4 else 0) = x := fun x h=>h
  rcases (show op <= 3 \/ (4 <= op /\ op <= 7) \/ (8 <= op /\ op <= 10) \/ (11 <= op /\ op <= 13) \/ 14 <= op by omega) with h|h|h|h|h
  ·exact Apply_ring op n f a b (by omega) hn hn' ha ha' hb0 hb' hg (f3 (if_pos (by omega)))
  ·refine Apply_div op n f a b (by omega) hn hn' ha ha' hb0 hb' hg ?_
   rcases (show op = 4 \/ op = 5 \/ op = 6 \/ op = 7 by omega) with rfl|rfl|rfl|rfl
   ·exact f4 rfl
   ·exact f4 rfl
   ·exact .inl (f0 rfl)
   ·exact .inl (f0 rfl)
  ·exact Apply_bit op n f a b (by omega) hn hn' ha ha' hb0 hb' hg
  ·refine Apply_shift op n f a b (by omega) hn hn' ha ha' hb0 hb' hg ⟨fun e=>?_,fun e=>?_⟩
   ·subst e; exact f3 rfl
   ·rcases (show op = 12 \/ op = 13 by omega) with rfl|rfl
    ·exact f4 rfl
    ·exact f4 rfl
  ·exact Apply_cmp op n f a b (by omega) hn hn' ha ha' hb0 hb' hg
theorem Convert_P (op p q v : Int) (hv : 0 <= v) (hv' : v < 18446744073709551616) : ASpec Tryz.prog 128 [.i .i64 op,.i .i64 p,.i .i64 q,.i .u64 v] (.tup [.i .u64 (Pl.conv op p q v).1,.b (Pl.conv op p q v).2]) [] := by
 have key : ∀ {x : Int} {y : Bool},Pl.conv op p q v = (x,y) -> AV.tup [.i .u64 x,.b y] = .tup [.i .u64 (Pl.conv op p q v).1,.b (Pl.conv op p q v).2] := fun h=>by rw [h]
 refine ASpec.enter TYok mixed Tryz.func128 rfl Tryz.call128 Tryz.ntmps128 rfl (rs := [.tmp 8,.tmp 9]) rfl (nodupB_ok rfl) (Clo.one rfl) (keep := [0,1,2,3,8,9]) ?_; conv=>whnf
 repeat' first|(refine iF (fun hb=>?_) (fun hb=>?_) <;> (try simp only [yv] at hb) <;> (have hc := hb; try simp only [sB,Int.reduceToNat] at hc; try simp only [addZ0] at hc) <;> first|(exfalso; omega)|conv=>whnf)|((first|refine ya ?_|refine yb ?_|refine yc ?_|refine yd ?_|refine yf ?_|refine yh ?_|refine yj ?_|refine dD ?_|refine dF ?_|refine d0 ?_|refine d1 ?_|refine dL ?_|refine dP ?_|refine yl ?_|refine ym ?_|refine ⟨_,fun _=>rfl,?_⟩); conv=>whnf)|((first|refine cK (fun _=>Mask_P _) ?_|((try (refine CallW.lent ?_; (conv=>whnf); repeat (refine yb ?_; (conv=>whnf)))); refine cL (fun _=>Mask_P _) ?_)); conv=>whnf)|((first|refine cK (fun _=>Signed_P _ _) ?_|((try (refine CallW.lent ?_; (conv=>whnf); repeat (refine yb ?_; (conv=>whnf)))); refine cL (fun _=>Signed_P _ _) ?_)); conv=>whnf)|(refine yt ?_; conv=>whnf)|exact ⟨_,.keep rfl rfl⟩|fail
 all_goals refine ⟨_,.keep (key ?_) rfl⟩
 all_goals unfold Pl.conv
 ·rw [if_pos hc]
 ·rw [if_neg (by omega),if_pos hc,Pl.and_maskI (by omega) hv hv']
 ·rw [if_neg (by omega),if_neg (by omega),if_pos hc,Pl.and_maskW (by omega),Pl.signedI (by omega)]
 ·rw [if_neg (by omega),if_neg (by omega),if_neg (by omega),if_pos hc,Pl.and_maskI (by omega) hv hv']
 ·rw [if_neg (by omega),if_neg (by omega),if_neg (by omega),if_neg (by omega)]
def width (w : Int) : Bool := decide (1 <= w) && decide (w <= 64)
def Cut (w v : Int) : Int := if 64 <= w then v else v % 2 ^ w.toNat
theorem Cut_in (w v : Int) (h1 : 0 <= v) (h2 : v < 18446744073709551616) : 0 <= Cut w v /\ Cut w v < 18446744073709551616 := by
 unfold Cut; split
 ·exact ⟨h1,h2⟩
 ·have hp := pow_lt (n := w.toNat) (by omega)
  have := Int.emod_nonneg v (b := 2 ^ w.toNat) (by omega)
  have := Int.emod_lt_of_pos v hp.1
  omega
theorem width_S (w : Int) : ASpec Tryz.prog 135 [.i .i64 w] (.b (width w)) [] := by
 refine ASpec.enter TYok mixed Tryz.func135 rfl Tryz.call135 Tryz.ntmps135 rfl (rs := [.tmp 2]) rfl (nodupB_ok rfl) (Clo.one rfl) (keep := [0,2]) ?_; conv=>whnf
 repeat' first|(refine iF (fun hb=>?_) (fun hb=>?_) <;> (try simp only [yv] at hb) <;> (have hc := hb; try simp only [sB,Int.reduceToNat] at hc; try simp only [addZ0] at hc) <;> first|(exfalso; omega)|conv=>whnf)|((first|refine ya ?_|refine yb ?_|refine yc ?_|refine yd ?_|refine yf ?_|refine yh ?_|refine yj ?_|refine dD ?_|refine dF ?_|refine d0 ?_|refine d1 ?_|refine dL ?_|refine dP ?_|refine yl ?_|refine ym ?_|refine yn ?_|refine ⟨_,fun _=>(IntKind.wrap_u64 _).symm,?_⟩); conv=>whnf)|(refine yt ?_; conv=>whnf)|exact ⟨_,.keep rfl rfl⟩|fail
theorem Cut_S (w v : Int) (h0 : 0 <= w) (h1 : 0 <= v) (h2 : v < 18446744073709551616) : ASpec Tryz.prog 133 [.i .i64 w,.i .u64 v] (.i .u64 (Cut w v)) [] := by
 have hp := pow_lt' w
 refine ASpec.enter TYok mixed Tryz.func133 rfl Tryz.call133 Tryz.ntmps133 rfl (rs := [.tmp 4]) rfl (nodupB_ok rfl) (Clo.one rfl) (keep := [0,1,4]) ?_; conv=>whnf
 repeat' first|(refine iF (fun hb=>?_) (fun hb=>?_) <;> (try simp only [yv] at hb) <;> (have hc := hb; try simp only [sB,Int.reduceToNat] at hc; try simp only [addZ0] at hc) <;> first|(exfalso; omega)|conv=>whnf)|((first|refine ya ?_|refine yb ?_|refine yc ?_|refine yd ?_|refine yf ?_|refine yh ?_|refine yj ?_|refine dD ?_|refine dF ?_|refine d0 ?_|refine d1 ?_|refine dL ?_|refine dP ?_|refine yl ?_|refine ym ?_|refine yn ?_|refine ⟨_,fun _=>(IntKind.wrap_u64 _).symm,?_⟩); conv=>whnf)|(refine yt ?_; conv=>whnf)|exact ⟨_,.keep rfl rfl⟩|fail
 ·exact ⟨_,.keep (by (try simp only [pickB_or,pickB_and]); unfold Cut; repeat' (first|rfl|omega|split|(simp_all; done))) rfl⟩
 exact ⟨_,.keep (by rw [Cut,if_neg hc,Int.tmod_eq_emod_of_nonneg h1]) rfl⟩
def half (w : Int) : Int := 2 ^ (w - 1).toNat
theorem half_S (w : Int) (h0 : 1 <= w) (h1 : w <= 64) : ASpec Tryz.prog 151 [.i .i64 w] (.i .u64 (half w)) [] := by
 refine ASpec.enter TYok mixed Tryz.func151 rfl Tryz.call151 Tryz.ntmps151 rfl (rs := [.tmp 2]) rfl (nodupB_ok rfl) (Clo.one rfl) (keep := [0,2]) ?_; conv=>whnf
 repeat' first|(refine iF (fun hb=>?_) (fun hb=>?_) <;> (try simp only [yv] at hb) <;> (have hc := hb; try simp only [sB,Int.reduceToNat] at hc; try simp only [addZ0] at hc) <;> first|(exfalso; omega)|conv=>whnf)|((first|refine ya ?_|refine yb ?_|refine yc ?_|refine yd ?_|refine yf ?_|refine yh ?_|refine yj ?_|refine dD ?_|refine dF ?_|refine d0 ?_|refine d1 ?_|refine dL ?_|refine dP ?_|refine yl ?_|refine ym ?_|refine yn ?_|refine ⟨_,fun _=>(IntKind.wrap_u64 _).symm,?_⟩); conv=>whnf)|(refine yt ?_; conv=>whnf)|exact ⟨_,.keep rfl rfl⟩|fail
def Flags (op : Int) : Int := if op = 1 \/ op = 2 \/ op = 3 \/ op = 11 then 3 else if op = 4 \/ op = 5 \/ op = 12 \/ op = 13 then 4 else 0
theorem Flags_S (op : Int) : ASpec Tryz.prog 72 [.i .i64 op] (.i .i64 (Flags op)) [] := by
 refine ASpec.enter TYok mixed Tryz.func72 rfl Tryz.call72 Tryz.ntmps72 rfl (rs := [.tmp 2]) rfl (nodupB_ok rfl) (Clo.one rfl) (keep := [0,2]) ?_; conv=>whnf
 repeat' first|(refine iF (fun hb=>?_) (fun hb=>?_) <;> (try simp only [yv] at hb) <;> (have hc := hb; try simp only [sB,Int.reduceToNat] at hc; try simp only [addZ0] at hc) <;> first|(exfalso; omega)|conv=>whnf)|((first|refine ya ?_|refine yb ?_|refine yc ?_|refine yd ?_|refine yf ?_|refine yh ?_|refine yj ?_|refine dD ?_|refine dF ?_|refine d0 ?_|refine d1 ?_|refine dL ?_|refine dP ?_|refine yl ?_|refine ym ?_|refine yn ?_|refine ⟨_,fun _=>(IntKind.wrap_u64 _).symm,?_⟩); conv=>whnf)|(refine yt ?_; conv=>whnf)|exact ⟨_,.keep rfl rfl⟩|fail
 all_goals exact ⟨_,.keep (by (try simp only [pickB_or,pickB_and]); unfold Flags; repeat' (first|rfl|omega|split|(simp_all; done))) rfl⟩
def Mask (w : Int) : Int := if 1 <= w /\ w <= 64 then Cut w 18446744073709551615 else 0
theorem Mask_S (w : Int) : ASpec Tryz.prog 118 [.i .i64 w] (.i .u64 (Mask w)) [] := by
 refine ASpec.enter TYok mixed Tryz.func118 rfl Tryz.call118 Tryz.ntmps118 rfl (rs := [.tmp 2]) rfl (nodupB_ok rfl) (Clo.one rfl) (keep := [0,2,3]) ?_; conv=>whnf
 repeat' first|(refine iF (fun hb=>?_) (fun hb=>?_) <;> (try simp only [yv] at hb) <;> (have hc := hb; try simp only [sB,Int.reduceToNat] at hc; try simp only [addZ0] at hc) <;> first|(exfalso; omega)|conv=>whnf)|((first|refine ya ?_|refine yb ?_|refine yc ?_|refine yd ?_|refine yf ?_|refine yh ?_|refine yj ?_|refine dD ?_|refine dF ?_|refine d0 ?_|refine d1 ?_|refine dL ?_|refine dP ?_|refine yl ?_|refine ym ?_|refine yn ?_|refine ⟨_,fun _=>(IntKind.wrap_u64 _).symm,?_⟩); conv=>whnf)|((first|refine cK (fun _=>width_S _) ?_|((try (refine CallW.lent ?_; (conv=>whnf); repeat (refine yb ?_; (conv=>whnf)))); refine cL (fun _=>width_S _) ?_)); conv=>whnf)|(refine yt ?_; conv=>whnf)|exact ⟨_,.keep rfl rfl⟩|fail
 ·exact ⟨_,.keep (by rw [Mask,if_neg (by simp [width] at hc; omega)]) rfl⟩
 simp [width] at hb
 repeat' first|(refine iF (fun hb=>?_) (fun hb=>?_) <;> (try simp only [yv] at hb) <;> (have hc := hb; try simp only [sB,Int.reduceToNat] at hc; try simp only [addZ0] at hc) <;> first|(exfalso; omega)|conv=>whnf)|((first|refine ya ?_|refine yb ?_|refine yc ?_|refine yd ?_|refine yf ?_|refine yh ?_|refine yj ?_|refine dD ?_|refine dF ?_|refine d0 ?_|refine d1 ?_|refine dL ?_|refine dP ?_|refine yl ?_|refine ym ?_|refine yn ?_|refine ⟨_,fun _=>(IntKind.wrap_u64 _).symm,?_⟩); conv=>whnf)|((first|refine cK (fun _=>Cut_S _ _ (by omega) (by omega) (by omega)) ?_|((try (refine CallW.lent ?_; (conv=>whnf); repeat (refine yb ?_; (conv=>whnf)))); refine cL (fun _=>Cut_S _ _ (by omega) (by omega) (by omega)) ?_)); conv=>whnf)|(refine yt ?_; conv=>whnf)|exact ⟨_,.keep rfl rfl⟩|fail
 exact ⟨_,.keep (by rw [Mask,if_pos hb]) rfl⟩
structure BigE where
 hi : Int
 lo : Int
 below : Bool
 deriving DecidableEq
instance : Enc BigE := ⟨fun x=>[.i .u64 x.hi,.i .u64 x.lo,.b x.below],3,⟨0,0,false⟩⟩
def With (w v : Int) : BigE := if Cut w v < half w then ⟨0,Cut w v,false⟩ else ⟨0,Cut w ((0 - Cut w v) % 18446744073709551616),true⟩
theorem With_S (w v : Int) (h0 : 1 <= w) (h3 : w <= 64) (h1 : 0 <= v) (h2 : v < 18446744073709551616) : ASpec Tryz.prog 137 [.i .i64 w,.i .u64 v] (eS (With w v)) [] := by
 have h5 := Cut_in w v h1 h2
 refine ASpec.enter TYok mixed Tryz.func137 rfl Tryz.call137 Tryz.ntmps137 rfl (rs := [.cell 4 167]) rfl (nodupB_ok rfl) (Clo.one rfl) (keep := [0,1,4]) ?_; conv=>whnf
 repeat' first|(refine iF (fun hb=>?_) (fun hb=>?_) <;> (try simp only [yv] at hb) <;> (have hc := hb; try simp only [sB,Int.reduceToNat] at hc; try simp only [addZ0] at hc) <;> first|(exfalso; omega)|conv=>whnf)|((first|refine ya ?_|refine yb ?_|refine yc ?_|refine yd ?_|refine yf ?_|refine yh ?_|refine yj ?_|refine dD ?_|refine dF ?_|refine d0 ?_|refine d1 ?_|refine dL ?_|refine dP ?_|refine yl ?_|refine ym ?_|refine yn ?_|refine ⟨_,fun _=>(IntKind.wrap_u64 _).symm,?_⟩); conv=>whnf)|((first|refine cK (fun _=>Cut_S _ _ (by omega) (by omega) (by omega)) ?_|((try (refine CallW.lent ?_; (conv=>whnf); repeat (refine yb ?_; (conv=>whnf)))); refine cL (fun _=>Cut_S _ _ (by omega) (by omega) (by omega)) ?_)); conv=>whnf)|((first|refine cK (fun _=>half_S _ (by omega) (by omega)) ?_|((try (refine CallW.lent ?_; (conv=>whnf); repeat (refine yb ?_; (conv=>whnf)))); refine cL (fun _=>half_S _ (by omega) (by omega)) ?_)); conv=>whnf)|(refine yt ?_; conv=>whnf)|exact ⟨_,.keep rfl rfl⟩|fail
 all_goals exact ⟨_,.keep (by (try simp only [pickB_or,pickB_and]); unfold With; repeat' (first|rfl|omega|split|(simp_all; done))) rfl⟩
def Wrapped (w : Int) (a : BigE) : Int := if a.below then Cut w ((0 - a.lo) % 18446744073709551616) else Cut w a.lo
theorem Wrapped_S (w : Int) (a : BigE) (h0 : 0 <= w) (h1 : 0 <= a.lo) (h2 : a.lo < 18446744073709551616) : ASpec Tryz.prog 136 [.i .i64 w,eS a] (.i .u64 (Wrapped w a)) [] := by
 refine ASpec.enter TYok mixed Tryz.func136 rfl Tryz.call136 Tryz.ntmps136 rfl (rs := [.tmp 4]) rfl (nodupB_ok rfl) (Clo.one rfl) (keep := [0,1,3,4]) ?_; conv=>whnf
 repeat' first|(refine iF (fun hb=>?_) (fun hb=>?_) <;> (try simp only [yv] at hb) <;> (have hc := hb; try simp only [sB,Int.reduceToNat] at hc; try simp only [addZ0] at hc) <;> first|(exfalso; omega)|conv=>whnf)|((first|refine ya ?_|refine yb ?_|refine yc ?_|refine yd ?_|refine yf ?_|refine yh ?_|refine yj ?_|refine dD ?_|refine dF ?_|refine d0 ?_|refine d1 ?_|refine dL ?_|refine dP ?_|refine yl ?_|refine ym ?_|refine yn ?_|refine ⟨_,fun _=>(IntKind.wrap_u64 _).symm,?_⟩); conv=>whnf)|((first|refine cK (fun _=>Cut_S _ _ (by omega) (by omega) (by omega)) ?_|((try (refine CallW.lent ?_; (conv=>whnf); repeat (refine yb ?_; (conv=>whnf)))); refine cL (fun _=>Cut_S _ _ (by omega) (by omega) (by omega)) ?_)); conv=>whnf)|(refine yt ?_; conv=>whnf)|exact ⟨_,.keep rfl rfl⟩|fail
 all_goals exact ⟨_,.keep (by (try simp only [pickB_or,pickB_and]); unfold Wrapped; repeat' (first|rfl|omega|split|(simp_all; done))) rfl⟩
def Convert (op a b v : Int) : Int × Bool :=
 if ¬(width a = true /\ width b = true) then (0,false)
 else if op = 20 /\ a < b then (Cut a v,true)
 else if op = 21 /\ a < b then (Wrapped b (With a v),true)
 else if op = 22 /\ b < a then (Cut b v,true) else (0,false)
theorem With_in (w v : Int) (h1 : 0 <= v) (h2 : v < 18446744073709551616) : 0 <= (With w v).lo /\ (With w v).lo < 18446744073709551616 := by
 unfold With; split
 ·exact Cut_in w v h1 h2
 ·exact Cut_in w _ (by omega) (by omega)
theorem Convert_S (op a b v : Int) (h1 : 0 <= v) (h2 : v < 18446744073709551616) : ASpec Tryz.prog 110 [.i .i64 op,.i .i64 a,.i .i64 b,.i .u64 v] (.tup [.i .u64 (Convert op a b v).1,.b (Convert op a b v).2]) [] := by
 have h3 := With_in a v h1 h2
 refine ASpec.enter TYok mixed Tryz.func110 rfl Tryz.call110 Tryz.ntmps110 rfl (rs := [.tmp 8,.tmp 9]) rfl (nodupB_ok rfl) (Clo.one rfl) (keep := [0,1,2,3,8,9,10]) ?_; conv=>whnf
 repeat' first|(refine iF (fun hb=>?_) (fun hb=>?_) <;> (try simp only [yv] at hb) <;> (have hc := hb; try simp only [sB,Int.reduceToNat] at hc; try simp only [addZ0] at hc) <;> first|(exfalso; omega)|conv=>whnf)|((first|refine ya ?_|refine yb ?_|refine yc ?_|refine yd ?_|refine yf ?_|refine yh ?_|refine yj ?_|refine dD ?_|refine dF ?_|refine d0 ?_|refine d1 ?_|refine dL ?_|refine dP ?_|refine yl ?_|refine ym ?_|refine yn ?_|refine ⟨_,fun _=>(IntKind.wrap_u64 _).symm,?_⟩); conv=>whnf)|((first|refine cK (fun _=>width_S _) ?_|((try (refine CallW.lent ?_; (conv=>whnf); repeat (refine yb ?_; (conv=>whnf)))); refine cL (fun _=>width_S _) ?_)); conv=>whnf)|((first|refine cK (fun _=>Cut_S _ _ (by simp [width] at *; omega) h1 h2) ?_|((try (refine CallW.lent ?_; (conv=>whnf); repeat (refine yb ?_; (conv=>whnf)))); refine cL (fun _=>Cut_S _ _ (by simp [width] at *; omega) h1 h2) ?_)); conv=>whnf)|((first|refine cK (fun _=>With_S _ _ (by simp [width] at *; omega) (by simp [width] at *; omega) h1 h2) ?_|((try (refine CallW.lent ?_; (conv=>whnf); repeat (refine yb ?_; (conv=>whnf)))); refine cL (fun _=>With_S _ _ (by simp [width] at *; omega) (by simp [width] at *; omega) h1 h2) ?_)); conv=>whnf)|((first|refine cK (fun _=>Wrapped_S _ _ (by simp [width] at *; omega) (by omega) (by omega)) ?_|((try (refine CallW.lent ?_; (conv=>whnf); repeat (refine yb ?_; (conv=>whnf)))); refine cL (fun _=>Wrapped_S _ _ (by simp [width] at *; omega) (by omega) (by omega)) ?_)); conv=>whnf)|(refine yt ?_; conv=>whnf)|exact ⟨_,.keep rfl rfl⟩|fail
 all_goals exact ⟨_,.keep (by (try simp only [pickB_or,pickB_and]); unfold Convert; repeat' (first|rfl|omega|split|(simp_all; done))) rfl⟩
def Result (x : InsE) : Int := if x.op < 1 \/ 30 < x.op then 0 else if x.op = 14 \/ x.op = 15 \/ x.op = 16 \/ x.op = 17 \/ x.op = 18 \/ x.op = 19 then 1 else if x.op = 26 \/ x.op = 29 then 65 else if x.op = 28 then 0 else x.t
theorem Result_S (x : InsE) : ASpec Tryz.prog 66 [eS x] (.i .i64 (Result x)) [] := by
 refine ASpec.enter TYok mixed Tryz.func66 rfl Tryz.call66 Tryz.ntmps66 rfl (rs := [.tmp 2]) rfl (nodupB_ok rfl) (Clo.one rfl) (keep := [0,1,2,3,12]) ?_; conv=>whnf
 repeat' first|(refine iF (fun hb=>?_) (fun hb=>?_) <;> (try simp only [yv] at hb) <;> (have hc := hb; try simp only [sB,Int.reduceToNat] at hc; try simp only [addZ0] at hc) <;> first|(exfalso; omega)|conv=>whnf)|((first|refine ya ?_|refine yb ?_|refine yc ?_|refine yd ?_|refine yf ?_|refine yh ?_|refine yj ?_|refine dD ?_|refine dF ?_|refine d0 ?_|refine d1 ?_|refine dL ?_|refine dP ?_|refine yl ?_|refine ym ?_|refine yn ?_|refine ⟨_,fun _=>(IntKind.wrap_u64 _).symm,?_⟩); conv=>whnf)|(refine yt ?_; conv=>whnf)|exact ⟨_,.keep rfl rfl⟩|fail
 all_goals exact ⟨_,.keep (by (try simp only [pickB_or,pickB_and]); unfold Result; repeat' (first|rfl|omega|split|(simp_all; done))) rfl⟩
def Ends (op : Int) : Bool := decide (op = 31) || decide (op = 32) || decide (op = 33) || decide (op = 34)
theorem Ends_S (op : Int) : ASpec Tryz.prog 70 [.i .i64 op] (.b (Ends op)) [] := by
 refine ASpec.enter TYok mixed Tryz.func70 rfl Tryz.call70 Tryz.ntmps70 rfl (rs := [.tmp 2]) rfl (nodupB_ok rfl) (Clo.one rfl) (keep := [0,2]) ?_; conv=>whnf
 repeat' first|(refine iF (fun hb=>?_) (fun hb=>?_) <;> (try simp only [yv] at hb) <;> (have hc := hb; try simp only [sB,Int.reduceToNat] at hc; try simp only [addZ0] at hc) <;> first|(exfalso; omega)|conv=>whnf)|((first|refine ya ?_|refine yb ?_|refine yc ?_|refine yd ?_|refine yf ?_|refine yh ?_|refine yj ?_|refine dD ?_|refine dF ?_|refine d0 ?_|refine d1 ?_|refine dL ?_|refine dP ?_|refine yl ?_|refine ym ?_|refine yn ?_|refine ⟨_,fun _=>(IntKind.wrap_u64 _).symm,?_⟩); conv=>whnf)|(refine yt ?_; conv=>whnf)|exact ⟨_,.keep rfl rfl⟩|fail
theorem ext_getD {α : Type} [Enc α] {a b : List α} (hl : a.length = b.length) (h : ∀ i,i < a.length -> a.getD i Enc.d = b.getD i Enc.d) : a = b := by
 refine List.ext_getElem hl fun i h1 h2=>?_
 have := h i h1
 rwa [List.getD_eq_getElem?_getD,List.getD_eq_getElem?_getD,List.getElem?_eq_getElem h1,List.getElem?_eq_getElem h2] at this
theorem all_step {P : Nat -> Prop} {q : Nat} (h : ∀ i,i < q -> P i) (hq : P q) : ∀ i,i < q + 1 -> P i := fun i hi=>if e : i = q then e ▸ hq else h i (by omega)
theorem Ints_S (a b : List Int) (ha : a.length < 9223372036854775807) : ASpec Tryz.prog 32 [eL a,eL b] (.b (decide (a = b))) [] := by
 refine ASpec.enter TYok mixed Tryz.func32 rfl Tryz.call32 Tryz.ntmps32 rfl (rs := [.tmp 4]) rfl (nodupB_ok rfl) (Clo.one rfl) (keep := [0,1,4,5]) ?_; conv=>whnf
 repeat' first|(refine iF (fun hb=>?_) (fun hb=>?_) <;> (try simp only [yv] at hb) <;> (have hc := hb; try simp only [sB,Int.reduceToNat] at hc; try simp only [addZ0] at hc) <;> first|(exfalso; omega)|conv=>whnf)|((first|refine ya ?_|refine yb ?_|refine yc ?_|refine yd ?_|refine yf ?_|refine yh ?_|refine yj ?_|refine dD ?_|refine dF ?_|refine d0 ?_|refine d1 ?_|refine dL ?_|refine dP ?_|refine yl ?_|refine ym ?_|refine yn ?_|refine ⟨_,fun _=>(IntKind.wrap_u64 _).symm,?_⟩); conv=>whnf)|(refine yt ?_; conv=>whnf)|exact ⟨_,.keep rfl rfl⟩|fail
 ·exact ⟨_,.keep (congrArg AV.b (decide_eq_false fun e=>by subst e; simp at hb).symm) rfl⟩
 simp at hb
 refine lp [5] (fun q : Nat=>[.i .i64 q]) (fun q=>[]) (fun q=>q <= a.length /\ ∀ i,i < q -> a.getD i Enc.d = b.getD i Enc.d) (fun q=>a.length - q) 0 ⟨by omega,fun i h=>by omega⟩ ?_ fun q hq=>?_
 ·refine eP [] [] ?_ ?_ <;> repeat' first|exact eN|refine And.intro ?_ ?_
 conv=>whnf
 obtain ⟨hq,hv⟩ := hq
 repeat' first|(refine iF (fun hb=>?_) (fun hb=>?_) <;> (try simp only [yv] at hb) <;> (have hc := hb; try simp only [sB,Int.reduceToNat] at hc; try simp only [addZ0] at hc) <;> first|(exfalso; omega)|conv=>whnf)|((first|refine ya ?_|refine yb ?_|refine yc ?_|refine yd ?_|refine yf ?_|refine yh ?_|refine yj ?_|refine dD ?_|refine dF ?_|refine d0 ?_|refine d1 ?_|refine dL ?_|refine dP ?_|refine yl ?_|refine ym ?_|refine yn ?_|refine ⟨_,fun _=>(IntKind.wrap_u64 _).symm,?_⟩); conv=>whnf)|(refine yt ?_; conv=>whnf)|exact ⟨_,.keep rfl rfl⟩|fail
 ·exact ⟨_,.keep (congrArg AV.b (decide_eq_false fun e=>hc (by rw [e])).symm) rfl⟩
 ·refine .mk (q + 1) ⟨by omega,all_step hv hc⟩ (by omega) ?_
  refine eP [] [] ?_ ?_ <;> repeat' first|exact eN|refine And.intro ?_ ?_
 ·exact ⟨_,.keep (congrArg AV.b (decide_eq_true (ext_getD (by omega) fun i hi=>hv i (by omega))).symm) rfl⟩
theorem Opd.ext3 : ∀ {x y : Opd},x.k = y.k -> x.n = y.n -> x.b = y.b -> x = y
 | ⟨_,_,_⟩,⟨_,_,_⟩,rfl,rfl,rfl=>rfl
theorem Instrs_S (a b : InsE) (ha : siz a < 4294967296) : ASpec Tryz.prog 33 [eS a,eS b] (.b (decide (a = b))) [] := by
 have h1 := args_le a
 have h2 := to_le a
 refine ASpec.enter TYok mixed Tryz.func33 rfl Tryz.call33 Tryz.ntmps33 rfl (rs := [.tmp 4]) rfl (nodupB_ok rfl) (Clo.one rfl) (keep := [0,1,2,3,4,5]) ?_; conv=>whnf
 repeat' first|(refine iF (fun hb=>?_) (fun hb=>?_) <;> (try simp only [yv] at hb) <;> (have hc := hb; try simp only [sB,Int.reduceToNat] at hc; try simp only [addZ0] at hc) <;> first|(exfalso; omega)|conv=>whnf)|((first|refine ya ?_|refine yb ?_|refine yc ?_|refine yd ?_|refine yf ?_|refine yh ?_|refine yj ?_|refine dD ?_|refine dF ?_|refine d0 ?_|refine d1 ?_|refine dL ?_|refine dP ?_|refine yl ?_|refine ym ?_|refine yn ?_|refine ⟨_,fun _=>(IntKind.wrap_u64 _).symm,?_⟩); conv=>whnf)|(refine yt ?_; conv=>whnf)|exact ⟨_,.keep rfl rfl⟩|fail
 ·exact ⟨_,.keep (congrArg AV.b (decide_eq_false fun e=>by subst e; simp at hb).symm) rfl⟩
 refine lp [5] (fun q : Nat=>[.i .i64 q]) (fun q=>[(2,bx a),(3,bx b)]) (fun q=>q <= a.args.length /\ ∀ i,i < q -> a.args.getD i Enc.d = b.args.getD i Enc.d) (fun q=>a.args.length - q) 0 ⟨by omega,fun i h=>by omega⟩ ?_ fun q hq=>?_
 ·refine eP [] [] ?_ ?_ <;> repeat' first|exact eN|refine And.intro ?_ ?_
 conv=>whnf
 obtain ⟨hq,hv⟩ := hq
 repeat' first|(refine iF (fun hb=>?_) (fun hb=>?_) <;> (try simp only [yv] at hb) <;> (have hc := hb; try simp only [sB,Int.reduceToNat] at hc; try simp only [addZ0] at hc) <;> first|(exfalso; omega)|conv=>whnf)|((first|refine ya ?_|refine yb ?_|refine yc ?_|refine yd ?_|refine yf ?_|refine yh ?_|refine yj ?_|refine dD ?_|refine dF ?_|refine d0 ?_|refine d1 ?_|refine dL ?_|refine dP ?_|refine yl ?_|refine ym ?_|refine yn ?_|refine ⟨_,fun _=>(IntKind.wrap_u64 _).symm,?_⟩); conv=>whnf)|((first|refine cK (fun _=>Ints_S _ _ (by omega)) ?_|((try (refine CallW.lent ?_; (conv=>whnf); repeat (refine yb ?_; (conv=>whnf)))); refine cL (fun _=>Ints_S _ _ (by omega)) ?_)); conv=>whnf)|(refine yt ?_; conv=>whnf)|exact ⟨_,.keep rfl rfl⟩|fail
 ·refine ⟨_,.keep (congrArg AV.b (decide_eq_false fun e=>?_).symm) rfl⟩
  subst e; simp at hb
 ·refine .mk (q + 1) ⟨by omega,all_step hv ?_⟩ (by omega) ?_
  ·exact Opd.ext3 hc.1 hc.2.1 hc.2.2
  ·refine eP [] [] ?_ ?_ <;> repeat' first|exact eN|refine And.intro ?_ ?_
 ·refine ⟨_,.keep (congrArg AV.b ?_) rfl⟩
  have e : a.args = b.args := ext_getD (by omega) fun i hi=>hv i (by omega)
  cases a; cases b; simp_all
def Callee (m : ModE) (n : Int) : List Int × Int × Bool :=
 if 0 <= n /\ n < m.funcs.length then ((m.funcs.getD n.toNat Enc.d).params,(m.funcs.getD n.toNat Enc.d).ret,true)
 else if n < 0 /\ -(m.exts.length : Int) <= n then ((m.exts.getD (-1 - n).toNat Enc.d).params,(m.exts.getD (-1 - n).toNat Enc.d).ret,true) else ([],0,false)
theorem Callee_S (m : ModE) (n : Int) (hm : siz m < 4294967296) (hn : -9223372036854775808 <= n) (hn2 : n <= 9223372036854775807) : ASpec Tryz.prog 116 [eS m,.i .i64 n] (.tup [eL (Callee m n).1,.i .i64 (Callee m n).2.1,.b (Callee m n).2.2]) [] := by
 have h1 := len_siz m.funcs
 have h2 := len_siz m.exts
 have h3 : siz m = siz m.vars + siz m.exts + siz m.funcs := rfl
 refine ASpec.enter TYok mixed Tryz.func116 rfl Tryz.call116 Tryz.ntmps116 rfl (rs := [.tmp 4,.tmp 5,.tmp 6]) rfl (nodupB_ok rfl) (Clo.one rfl) (keep := [0,1,2,4,5,6]) ?_; conv=>whnf
 repeat' first|(refine iF (fun hb=>?_) (fun hb=>?_) <;> (try simp only [yv] at hb) <;> (have hc := hb; try simp only [sB,Int.reduceToNat] at hc; try simp only [addZ0] at hc) <;> first|(exfalso; omega)|conv=>whnf)|((first|refine ya ?_|refine yb ?_|refine yc ?_|refine yd ?_|refine yf ?_|refine yh ?_|refine yj ?_|refine dD ?_|refine dF ?_|refine d0 ?_|refine d1 ?_|refine dL ?_|refine dP ?_|refine yl ?_|refine ym ?_|refine yn ?_|refine ⟨_,fun _=>(IntKind.wrap_u64 _).symm,?_⟩); conv=>whnf)|(refine yt ?_; conv=>whnf)|exact ⟨_,.keep rfl rfl⟩|fail
 ·exact ⟨_,.keep (by rw [Callee,if_pos hc]; rfl) rfl⟩
 ·exact ⟨_,.keep (by rw [Callee,if_neg (by omega),if_pos (by omega)]; rfl) rfl⟩
 ·rw [Callee,if_neg (by omega),if_neg (by omega)]
  exact ⟨_,.tup (.cons (.nilF rfl) (.cons (.keep rfl rfl) (.cons (.keep rfl rfl) .nil (nodupB_ok rfl)) (nodupB_ok rfl)) (nodupB_ok rfl))⟩
def pairs (f : FnE) (b k : Nat) : List (InsE × Plc) := (List.range k).map fun i=>((f.blocks.getD b Enc.d).code.getD i Enc.d,⟨0,b,i⟩)
def codeTo (f : FnE) (b k : Nat) : List (InsE × Plc) := ((List.range b).flatMap fun b=>pairs f b (f.blocks.getD b Enc.d).code.length) ++ pairs f b k
def Code (f : FnE) : List (InsE × Plc) := codeTo f f.blocks.length 0
theorem codeTo_snoc (f : FnE) (b k : Nat) : codeTo f b (k + 1) = codeTo f b k ++ [((f.blocks.getD b Enc.d).code.getD k Enc.d,⟨0,b,k⟩)] := by
 unfold codeTo pairs; rw [List.range_succ,List.map_append,List.append_assoc]; rfl
theorem codeTo_next (f : FnE) (b : Nat) : codeTo f (b + 1) 0 = codeTo f b (f.blocks.getD b Enc.d).code.length := by
 unfold codeTo; rw [List.range_succ,List.flatMap_append,List.flatMap_singleton]; simp [pairs]
theorem sum_take {α : Type} (g : α -> Nat) (d : α) : ∀ (l : List α) (b : Nat),b < l.length -> ((l.take b).map g).sum + g (l.getD b d) <= (l.map g).sum
 | x :: l,0,_=>by simp
 | x :: l,b + 1,h=>by
  have := sum_take g d l b (by simpa using h)
  simp only [List.take_succ_cons,List.map_cons,List.sum_cons,List.getD_cons_succ]; omega
theorem sum_le {α : Type} {g h : α -> Nat} (hgh : ∀ x,g x <= h x) : ∀ l : List α,(l.map g).sum <= (l.map h).sum
 | []=>Nat.le_refl _
 | x :: l=>by have := sum_le hgh l; have := hgh x; simp only [List.map_cons,List.sum_cons]; omega
theorem codeTo_len (f : FnE) (b : Nat) : ∀ k,(codeTo f b k).length = ((List.range b).map fun b=>(f.blocks.getD b Enc.d).code.length).sum + k := fun k=>by
 simp [codeTo,pairs,List.length_flatMap]
theorem range_take {α : Type} (g : α -> Nat) (d : α) (l : List α) : ∀ b,b <= l.length -> ((List.range b).map fun b=>g (l.getD b d)).sum = ((l.take b).map g).sum
 | 0,_=>by simp
 | b + 1,h=>by
  rw [List.range_succ,List.map_append,List.sum_append,range_take g d l b (by omega),List.take_add_one,List.map_append,List.sum_append,List.getElem?_eq_getElem (by omega)]
  simp [List.getElem?_eq_getElem (show b < l.length by omega)]
theorem codeTo_siz (f : FnE) (b k : Nat) (hb : b < f.blocks.length) (hk : k <= (f.blocks.getD b Enc.d).code.length) : (codeTo f b k).length <= siz f := by
 rw [codeTo_len,range_take (fun x : BlkE=>x.code.length) Enc.d f.blocks b (by omega)]
 have h1 := sum_take (fun x : BlkE=>x.code.length) Enc.d f.blocks b hb
 have h2 := sum_le (g := fun x : BlkE=>x.code.length) (h := siz) (fun x=>len_siz x.code) f.blocks
 have h3 : siz f = siz f.name + siz f.params + (f.blocks.length + (f.blocks.map siz).sum) := rfl
 omega
theorem Clo.rows {d d' e off n e' n' e2 off2 n2 e3 n3 : Nat} {g g' : Nat -> List AV} : Clo (.tup [.orow d e off n,.orow d' e2 off2 n2]) [(d,.row none e' n' g),(d',.row none e3 n3 g')] := by
 refine ⟨fun id hm=>?_,fun i ob h id hm=>?_⟩
 ·simp only [men,mens,Bool.or_false,Bool.or_eq_true] at hm
  rw [lk_cons]; split
  ·rfl
  ·rename_i q; rw [lk_cons]; split
   ·rfl
   ·rename_i q2; rcases hm with h|h <;> have := Nat.eq_of_beq_eq_true h <;> subst this <;> contradiction
 ·rw [lk_cons] at h
  split at h
  ·cases h; cases hm
  ·rw [lk_cons] at h
   split at h
   ·cases h; cases hm
   ·simp [lk] at h
theorem Code_S (d d' : Nat) (hd : d ≠ d') (f : FnE) (hs : siz f < 4294967296) : ASpec Tryz.prog 26 [eS f] (.tup [.orow d 7 0 ((Code f).map Prod.fst).length,.orow d' 3 0 ((Code f).map Prod.snd).length]) [(d,oL ((Code f).map Prod.fst)),(d',oL ((Code f).map Prod.snd))] := by
 have h1 := blocks_le f
 have hnd : [d,d'].Nodup := nd2 hd
 refine ASpec.enter TYok mixed Tryz.func26 rfl Tryz.call26 Tryz.ntmps26 rfl (rs := [.tmp 2,.tmp 3]) rfl (hnd) (Clo.rows) (keep := [0,1,2,3,4,5,6,7]) ?_; conv=>whnf
 refine lp [6,4,5] (fun b : Nat=>[.i .i64 b,.orow 4 7 0 ((codeTo f b 0).map Prod.fst).length,.orow 5 3 0 ((codeTo f b 0).map Prod.snd).length]) (fun b=>[(4,oL ((codeTo f b 0).map Prod.fst)),(5,oL ((codeTo f b 0).map Prod.snd)),(1,bx f)]) (fun q=>q <= f.blocks.length) (fun q=>f.blocks.length - q) 0 (by omega) ?_ fun b hb0=>?_
 ·refine eP [] [4,5] ?_ ?_ <;> repeat' first|exact eN|refine And.intro ?_ ?_
 conv=>whnf
 repeat' first|(refine iF (fun hb=>?_) (fun hb=>?_) <;> (try simp only [yv] at hb) <;> (have hc := hb; try simp only [sB,Int.reduceToNat] at hc; try simp only [addZ0] at hc) <;> first|(exfalso; omega)|conv=>whnf)|((first|refine ya ?_|refine yb ?_|refine yc ?_|refine yd ?_|refine yf ?_|refine yh ?_|refine yj ?_|refine dD ?_|refine dF ?_|refine d0 ?_|refine d1 ?_|refine dL ?_|refine dP ?_|refine yl ?_|refine ym ?_|refine yn ?_|refine ⟨_,fun _=>(IntKind.wrap_u64 _).symm,?_⟩); conv=>whnf)|(refine yt ?_; conv=>whnf)|exact ⟨_,.keep rfl rfl⟩|fail
 ·have h2 := code_le f b
  refine lp [7,4,5] (fun q : Nat=>[.i .i64 q,.orow 4 7 0 ((codeTo f b q).map Prod.fst).length,.orow 5 3 0 ((codeTo f b q).map Prod.snd).length]) (fun q=>[(4,oL ((codeTo f b q).map Prod.fst)),(5,oL ((codeTo f b q).map Prod.snd)),(1,bx f)]) (fun q=>q <= (f.blocks.getD b Enc.d).code.length) (fun q=>(f.blocks.getD b Enc.d).code.length - q) 0 (by omega) ?_ fun q hq=>?_
  ·refine eP [] [] ?_ ?_ <;> repeat' first|exact eN|refine And.intro ?_ ?_
  conv=>whnf
  have h3 := codeTo_siz f b q (by omega) hq
  have h4 : ((codeTo f b q).map Prod.fst).length = (codeTo f b q).length := List.length_map _
  have h5 : ((codeTo f b q).map Prod.snd).length = (codeTo f b q).length := List.length_map _
  repeat' first|(refine iF (fun hb=>?_) (fun hb=>?_) <;> (try simp only [yv] at hb) <;> (have hc := hb; try simp only [sB,Int.reduceToNat] at hc; try simp only [addZ0] at hc) <;> first|(exfalso; omega)|conv=>whnf)|((first|refine ya ?_|refine yb ?_|refine yc ?_|refine yd ?_|refine yf ?_|refine yh ?_|refine yj ?_|refine dD ?_|refine dF ?_|refine d0 ?_|refine d1 ?_|refine dL ?_|refine dP ?_|refine yl ?_|refine ym ?_|refine yn ?_|refine ⟨_,fun _=>(IntKind.wrap_u64 _).symm,?_⟩); conv=>whnf)|(refine yt ?_; conv=>whnf)|exact ⟨_,.keep rfl rfl⟩|fail
  ·have e1 : (codeTo f b (q + 1)).map Prod.fst = (codeTo f b q).map Prod.fst ++ [(f.blocks.getD b Enc.d).code.getD q Enc.d] := by rw [codeTo_snoc,List.map_append]; rfl
   have e2 : (codeTo f b (q + 1)).map Prod.snd = (codeTo f b q).map Prod.snd ++ [⟨0,b,q⟩] := by rw [codeTo_snoc,List.map_append]; rfl
   refine .mk (q + 1) (by omega) (by omega) ?_
   refine eP [(4,37),(5,43)] [] ?_ ?_ <;> repeat' first|exact eN|refine And.intro ?_ ?_|exact snoc_len e1|exact snoc_get e1 rfl|rw [e1]|exact snoc_len e2|exact snoc_get e2 rfl|rw [e2]
  ·have e : codeTo f (b + 1) 0 = codeTo f b q := by rw [codeTo_next]; congr 1; omega
   refine .mk (b + 1) (by omega) (by omega) ?_
   rw [e]
   refine eP [] [] ?_ ?_ <;> repeat' first|exact eN|refine And.intro ?_ ?_
 ·have e : codeTo f b 0 = Code f := by rw [Code]; congr 1; omega
  rw [e]
  exact ⟨_,.tup (.cons (.give rfl rfl rfl (fun _ _=>rfl) rfl) (.cons (.give rfl rfl rfl (fun _ _=>rfl) rfl) .nil (nd1 _)) hnd)⟩
open Pl (Vl)
instance : Enc Vl := ⟨fun x=>[.i .i64 x.k,.i .u64 x.b,.i .i64 x.bl,.i .i64 x.off],4,Vl.zero⟩
theorem count_P (t : Int) : ASpec Tryz.prog 130 [.i .i64 t] (.i .i64 (Pl.count t)) [] := by
 refine ASpec.enter TYok mixed Tryz.func130 rfl Tryz.call130 Tryz.ntmps130 rfl (rs := [.tmp 2]) rfl (nodupB_ok rfl) (Clo.one rfl) (keep := [0,2]) ?_; conv=>whnf
 repeat' first|(refine iF (fun hb=>?_) (fun hb=>?_) <;> (try simp only [yv] at hb) <;> (have hc := hb; try simp only [sB,Int.reduceToNat] at hc; try simp only [addZ0] at hc) <;> first|(exfalso; omega)|conv=>whnf)|((first|refine ya ?_|refine yb ?_|refine yc ?_|refine yd ?_|refine yf ?_|refine yh ?_|refine yj ?_|refine dD ?_|refine dF ?_|refine d0 ?_|refine d1 ?_|refine dL ?_|refine dP ?_|refine yl ?_|refine ym ?_|refine yn ?_|refine ⟨_,fun _=>(IntKind.wrap_u64 _).symm,?_⟩); conv=>whnf)|(refine yt ?_; conv=>whnf)|exact ⟨_,.keep rfl rfl⟩|fail
 ·exact ⟨_,.keep (by unfold Pl.count; rw [if_pos hc]) rfl⟩
 ·rw [Int.tdiv_eq_ediv_of_nonneg (by omega)]
  repeat' first|(refine iF (fun hb=>?_) (fun hb=>?_) <;> (try simp only [yv] at hb) <;> (have hc := hb; try simp only [sB,Int.reduceToNat] at hc; try simp only [addZ0] at hc) <;> first|(exfalso; omega)|conv=>whnf)|((first|refine ya ?_|refine yb ?_|refine yc ?_|refine yd ?_|refine yf ?_|refine yh ?_|refine yj ?_|refine dD ?_|refine dF ?_|refine d0 ?_|refine d1 ?_|refine dL ?_|refine dP ?_|refine yl ?_|refine ym ?_|refine yn ?_|refine ⟨_,fun _=>(IntKind.wrap_u64 _).symm,?_⟩); conv=>whnf)|(refine yt ?_; conv=>whnf)|exact ⟨_,.keep rfl rfl⟩|fail
  exact ⟨_,.keep (by unfold Pl.count; rw [if_neg (by assumption),if_pos (by omega)]) rfl⟩
 ·exact ⟨_,.keep (by unfold Pl.count; rw [if_neg (by assumption),if_neg (by omega)]) rfl⟩
theorem Norm_P (t : Int) (v : Vl) (hv : 0 <= v.b) (hv' : v.b < 18446744073709551616) : ASpec Tryz.prog 97 [.i .i64 t,eS v] (eS (Pl.norm t v)) [] := by
 have key : ∀ {x : Vl},Pl.norm t v = x -> eS x = eS (Pl.norm t v) := fun h=>by rw [h]
 refine ASpec.enter TYok mixed Tryz.func97 rfl Tryz.call97 Tryz.ntmps97 rfl (rs := [.cell 4 91]) rfl (nodupB_ok rfl) (Clo.one rfl) (keep := [0,1,3,4]) ?_; conv=>whnf
 repeat' first|(refine iF (fun hb=>?_) (fun hb=>?_) <;> (try simp only [yv] at hb) <;> (have hc := hb; try simp only [sB,Int.reduceToNat] at hc; try simp only [addZ0] at hc) <;> first|(exfalso; omega)|conv=>whnf)|((first|refine ya ?_|refine yb ?_|refine yc ?_|refine yd ?_|refine yf ?_|refine yh ?_|refine yj ?_|refine dD ?_|refine dF ?_|refine d0 ?_|refine d1 ?_|refine dL ?_|refine dP ?_|refine yl ?_|refine ym ?_|refine yn ?_|refine ⟨_,fun _=>(IntKind.wrap_u64 _).symm,?_⟩); conv=>whnf)|((first|refine cK (fun _=>Mask_P _) ?_|((try (refine CallW.lent ?_; (conv=>whnf); repeat (refine yb ?_; (conv=>whnf)))); refine cL (fun _=>Mask_P _) ?_)); conv=>whnf)|((first|refine cK (fun _=>count_P _) ?_|((try (refine CallW.lent ?_; (conv=>whnf); repeat (refine yb ?_; (conv=>whnf)))); refine cL (fun _=>count_P _) ?_)); conv=>whnf)|(refine yt ?_; conv=>whnf)|exact ⟨_,.keep rfl rfl⟩|fail
 ·exact ⟨_,.keep (key (x := ⟨1,bits .and .u64 v.b (Pl.mask t),0,0⟩) (by unfold Pl.norm; rw [if_pos hc,Pl.and_maskI hc.2 hv hv'])) rfl⟩
 ·exact ⟨_,.keep (key (x := ⟨2,0,v.bl,v.off⟩) (by unfold Pl.norm; rw [if_neg (by omega),if_pos hc])) rfl⟩
 ·exact ⟨_,.keep (key (x := ⟨3,0,0,0⟩) (by unfold Pl.norm; rw [if_neg (by omega),if_neg (by omega),if_pos hc])) rfl⟩
 ·exact ⟨_,.keep (key (x := ⟨0,0,0,0⟩) (by unfold Pl.norm; rw [if_neg (by omega),if_neg (by omega),if_neg (by omega)]; rfl)) rfl⟩
theorem number_P (z : Int) : ASpec Tryz.prog 131 [.i .u64 z] (eS (Pl.number z)) [] := by
 refine ASpec.enter TYok mixed Tryz.func131 rfl Tryz.call131 Tryz.ntmps131 rfl (rs := [.cell 2 91]) rfl (nodupB_ok rfl) (Clo.one rfl) (keep := [0,2]) ?_; conv=>whnf
 repeat' first|(refine iF (fun hb=>?_) (fun hb=>?_) <;> (try simp only [yv] at hb) <;> (have hc := hb; try simp only [sB,Int.reduceToNat] at hc; try simp only [addZ0] at hc) <;> first|(exfalso; omega)|conv=>whnf)|((first|refine ya ?_|refine yb ?_|refine yc ?_|refine yd ?_|refine yf ?_|refine yh ?_|refine yj ?_|refine dD ?_|refine dF ?_|refine d0 ?_|refine d1 ?_|refine dL ?_|refine dP ?_|refine yl ?_|refine ym ?_|refine yn ?_|refine ⟨_,fun _=>(IntKind.wrap_u64 _).symm,?_⟩); conv=>whnf)|(refine yt ?_; conv=>whnf)|exact ⟨_,.keep rfl rfl⟩|fail
theorem anyone_P : ASpec Tryz.prog 99 [] (eS Pl.any) [] := by
 refine ASpec.enter TYok mixed Tryz.func99 rfl Tryz.call99 Tryz.ntmps99 rfl (rs := [.cell 0 91]) rfl (nodupB_ok rfl) (Clo.one rfl) (keep := [0]) ?_; conv=>whnf
 repeat' first|(refine iF (fun hb=>?_) (fun hb=>?_) <;> (try simp only [yv] at hb) <;> (have hc := hb; try simp only [sB,Int.reduceToNat] at hc; try simp only [addZ0] at hc) <;> first|(exfalso; omega)|conv=>whnf)|((first|refine ya ?_|refine yb ?_|refine yc ?_|refine yd ?_|refine yf ?_|refine yh ?_|refine yj ?_|refine dD ?_|refine dF ?_|refine d0 ?_|refine d1 ?_|refine dL ?_|refine dP ?_|refine yl ?_|refine ym ?_|refine yn ?_|refine ⟨_,fun _=>(IntKind.wrap_u64 _).symm,?_⟩); conv=>whnf)|(refine yt ?_; conv=>whnf)|exact ⟨_,.keep rfl rfl⟩|fail
def kindsL (x : InsE) : List Int := (Pl.kinds x.op x.t x.n x.f).getD []
theorem kindsL_ne {x : InsE} {ws : List Int} (h : Pl.kinds x.op x.t x.n x.f = some ws) : kindsL x = ws /\ ws ≠ [] := by
 unfold kindsL; rw [h]
 refine ⟨rfl,fun e=>?_⟩
 subst e
 have := (Pl.kinds_len h).1
 have := Pl.arity_le x.op
 simp at *; omega
theorem Gives.nilZ {o : Os} {e n' : Nat} {g' : Nat -> List AV} (h : n' = 0) : Gives o .nil o (.row (some false) e n' g') [] := by
 subst h
 refine ⟨List.Sublist.refl _,fun S β w u ho hr=>⟨W0,List.nodup_nil,(fun k hk=>by cases hk),fun S' β' hβ hS hS2=>⟨?_,fun id ob hl=>by simp [lk] at hl⟩⟩⟩
 unfold rel at hr
 subst hr
 exact ⟨none,0,fun _=>[],rfl,(fun z hz=>by cases hz; rfl),⟨Nat.zero_le _,Nat.zero_le _⟩,fun i hi=>by omega⟩
theorem Gives.rowZ {o : Os} {nz : Option Bool} {e n n' : Nat} {g g' : Nat -> List AV} (h : n = n') (hg : ∀ i,i < n' -> g i = g' i) : Gives o (.row nz e n g) o (.row nz e n' g') [] := by
 subst h
 refine ⟨List.Sublist.refl _,fun S β w u ho hr=>⟨W0,List.nodup_nil,(fun k hk=>by cases hk),fun S' β' hβ hS hS2=>⟨?_,fun id ob hl=>by simp [lk] at hl⟩⟩⟩
 have hr := rel_mono (S' := S') (w' := w) ⟨Nat.le_refl _,fun k hk hs=>⟨hS k hk hs,rfl⟩⟩ _ _ hr
 unfold rel at hr
 obtain ⟨a,cap,us,h1,h2,h3,h4⟩ := hr
 exact ⟨a,cap,us,h1,h2,h3,fun i hi=>⟨(h4 i hi).1,(h4 i hi).2.1,by rw [<- hg i hi]; exact (h4 i hi).2.2⟩⟩
theorem kinds_none {o : Os} {x : InsE} (hk : Pl.kinds x.op x.t x.n x.f = none) : Gives o .nil o (.row (some (Pl.kinds x.op x.t x.n x.f).isSome) 1 (kindsL x).length fun i=>Enc.enc ((kindsL x).getD i Enc.d)) [] := by
 unfold kindsL; rw [hk]; exact .nilZ rfl
theorem kinds_some {o : Os} {x : InsE} {ws : List Int} {g : Nat -> List AV} {n : Nat} (hk : Pl.kinds x.op x.t x.n x.f = some ws) (hn : n = ws.length) (hg : ∀ i,i < ws.length -> g i = [.i .i64 (ws.getD i 0)]) : Gives o (.row (some true) 1 n g) o (.row (some (Pl.kinds x.op x.t x.n x.f).isSome) 1 (kindsL x).length fun i=>Enc.enc ((kindsL x).getD i Enc.d)) [] := by
 unfold kindsL; rw [hk]; exact .rowZ hn hg
theorem kinds_P (x : InsE) : ASpec Tryz.prog 96 [eS x] (.row (some (Pl.kinds x.op x.t x.n x.f).isSome) 1 (kindsL x).length fun i=>Enc.enc ((kindsL x).getD i Enc.d)) [] := by
 refine ASpec.enter TYok mixed Tryz.func96 rfl Tryz.call96 Tryz.ntmps96 rfl (rs := [.tmp 2]) rfl (nodupB_ok rfl) (Clo.one rfl) (keep := [0,1,2,3,4,5,6,8]) ?_; conv=>whnf
 repeat' first|(refine iF (fun hb=>?_) (fun hb=>?_) <;> (try simp only [yv] at hb) <;> (have hc := hb; try simp only [sB,Int.reduceToNat] at hc; try simp only [addZ0] at hc) <;> first|(exfalso; omega)|conv=>whnf)|((first|refine ya ?_|refine yb ?_|refine yc ?_|refine yd ?_|refine yf ?_|refine yh ?_|refine yj ?_|refine dD ?_|refine dF ?_|refine d0 ?_|refine d1 ?_|refine dL ?_|refine dP ?_|refine yl ?_|refine ym ?_|refine yn ?_|refine ⟨_,fun _=>(IntKind.wrap_u64 _).symm,?_⟩); conv=>whnf)|((first|refine cK (fun _=>Flags_P _) ?_|((try (refine CallW.lent ?_; (conv=>whnf); repeat (refine yb ?_; (conv=>whnf)))); refine cL (fun _=>Flags_P _) ?_)); conv=>whnf)|((first|refine cK (fun _=>Convert_P _ _ _ _ (by omega) (by omega)) ?_|((try (refine CallW.lent ?_; (conv=>whnf); repeat (refine yb ?_; (conv=>whnf)))); refine cL (fun _=>Convert_P _ _ _ _ (by omega) (by omega)) ?_)); conv=>whnf)|(refine yt ?_; conv=>whnf)|exact ⟨_,.keep rfl rfl⟩|fail
 ·exact ⟨_,kinds_none (by unfold Pl.kinds; simp only [Bool.cond_eq_ite,bne_iff_ne,ne_eq,beq_iff_eq,Bool.or_eq_true,Bool.and_eq_true,decide_eq_true_eq]; repeat' (first|rw [if_pos (by first|assumption|omega)]|rw [if_neg (by first|assumption|omega|(simp_all; done))]))⟩
 ·exact ⟨_,kinds_none (by unfold Pl.kinds; simp only [Bool.cond_eq_ite,bne_iff_ne,ne_eq,beq_iff_eq,Bool.or_eq_true,Bool.and_eq_true,decide_eq_true_eq]; repeat' (first|rw [if_pos (by first|assumption|omega)]|rw [if_neg (by first|assumption|omega|(simp_all; done))]))⟩
 ·exact ⟨_,kinds_some (ws := [x.t,x.t]) (by unfold Pl.kinds; simp only [Bool.cond_eq_ite,bne_iff_ne,ne_eq,beq_iff_eq,Bool.or_eq_true,Bool.and_eq_true,decide_eq_true_eq]; repeat' (first|rw [if_pos (by first|assumption|omega)]|rw [if_neg (by first|assumption|omega|(simp_all; done))])) rfl (fun i hi=>by match i,hi with|0,_=>rfl|1,_=>rfl)⟩
 ·exact ⟨_,kinds_none (by unfold Pl.kinds; simp only [Bool.cond_eq_ite,bne_iff_ne,ne_eq,beq_iff_eq,Bool.or_eq_true,Bool.and_eq_true,decide_eq_true_eq]; repeat' (first|rw [if_pos (by first|assumption|omega)]|rw [if_neg (by first|assumption|omega|(simp_all; done))]))⟩
 ·exact ⟨_,kinds_some (ws := [x.t,x.t]) (by unfold Pl.kinds; simp only [Bool.cond_eq_ite,bne_iff_ne,ne_eq,beq_iff_eq,Bool.or_eq_true,Bool.and_eq_true,decide_eq_true_eq]; repeat' (first|rw [if_pos (by first|assumption|omega)]|rw [if_neg (by first|assumption|omega|(simp_all; done))])) rfl (fun i hi=>by match i,hi with|0,_=>rfl|1,_=>rfl)⟩
 ·exact ⟨_,kinds_none (by unfold Pl.kinds; simp only [Bool.cond_eq_ite,bne_iff_ne,ne_eq,beq_iff_eq,Bool.or_eq_true,Bool.and_eq_true,decide_eq_true_eq]; repeat' (first|rw [if_pos (by first|assumption|omega)]|rw [if_neg (by first|assumption|omega|(simp_all; done))]))⟩
 ·exact ⟨_,kinds_some (ws := [x.n]) (by unfold Pl.kinds; simp only [Bool.cond_eq_ite,bne_iff_ne,ne_eq,beq_iff_eq,Bool.or_eq_true,Bool.and_eq_true,decide_eq_true_eq]; repeat' (first|rw [if_pos (by first|assumption|omega)]|rw [if_neg (by first|assumption|omega|(simp_all; done))])) rfl (fun i hi=>by match i,hi with|0,_=>rfl)⟩
 ·exact ⟨_,kinds_none (by unfold Pl.kinds; simp only [Bool.cond_eq_ite,bne_iff_ne,ne_eq,beq_iff_eq,Bool.or_eq_true,Bool.and_eq_true,decide_eq_true_eq]; repeat' (first|rw [if_pos (by first|assumption|omega)]|rw [if_neg (by first|assumption|omega|(simp_all; done))]))⟩
 ·exact ⟨_,kinds_some (ws := [1,x.t,x.t]) (by unfold Pl.kinds; simp only [Bool.cond_eq_ite,bne_iff_ne,ne_eq,beq_iff_eq,Bool.or_eq_true,Bool.and_eq_true,decide_eq_true_eq]; repeat' (first|rw [if_pos (by first|assumption|omega)]|rw [if_neg (by first|assumption|omega|(simp_all; done))])) rfl (fun i hi=>by match i,hi with|0,_=>rfl|1,_=>rfl|2,_=>rfl)⟩
 ·exact ⟨_,kinds_none (by unfold Pl.kinds; simp only [Bool.cond_eq_ite,bne_iff_ne,ne_eq,beq_iff_eq,Bool.or_eq_true,Bool.and_eq_true,decide_eq_true_eq]; repeat' (first|rw [if_pos (by first|assumption|omega)]|rw [if_neg (by first|assumption|omega|(simp_all; done))]))⟩
 ·exact ⟨_,kinds_some (ws := [x.t]) (by unfold Pl.kinds; simp only [Bool.cond_eq_ite,bne_iff_ne,ne_eq,beq_iff_eq,Bool.or_eq_true,Bool.and_eq_true,decide_eq_true_eq]; repeat' (first|rw [if_pos (by first|assumption|omega)]|rw [if_neg (by first|assumption|omega|(simp_all; done))])) rfl (fun i hi=>by match i,hi with|0,_=>rfl)⟩
 ·exact ⟨_,kinds_none (by unfold Pl.kinds; simp only [Bool.cond_eq_ite,bne_iff_ne,ne_eq,beq_iff_eq,Bool.or_eq_true,Bool.and_eq_true,decide_eq_true_eq]; repeat' (first|rw [if_pos (by first|assumption|omega)]|rw [if_neg (by first|assumption|omega|(simp_all; done))]))⟩
 ·exact ⟨_,kinds_some (ws := [65,64]) (by unfold Pl.kinds; simp only [Bool.cond_eq_ite,bne_iff_ne,ne_eq,beq_iff_eq,Bool.or_eq_true,Bool.and_eq_true,decide_eq_true_eq]; repeat' (first|rw [if_pos (by first|assumption|omega)]|rw [if_neg (by first|assumption|omega|(simp_all; done))])) rfl (fun i hi=>by match i,hi with|0,_=>rfl|1,_=>rfl)⟩
 ·exact ⟨_,kinds_none (by unfold Pl.kinds; simp only [Bool.cond_eq_ite,bne_iff_ne,ne_eq,beq_iff_eq,Bool.or_eq_true,Bool.and_eq_true,decide_eq_true_eq]; repeat' (first|rw [if_pos (by first|assumption|omega)]|rw [if_neg (by first|assumption|omega|(simp_all; done))]))⟩
 ·exact ⟨_,kinds_none (by unfold Pl.kinds; simp only [Bool.cond_eq_ite,bne_iff_ne,ne_eq,beq_iff_eq,Bool.or_eq_true,Bool.and_eq_true,decide_eq_true_eq]; repeat' (first|rw [if_pos (by first|assumption|omega)]|rw [if_neg (by first|assumption|omega|(simp_all; done))]))⟩
theorem vl_ext {x y : Vl} (h : x.k = y.k /\ x.b = y.b /\ x.bl = y.bl /\ x.off = y.off) : x = y := by
 cases x; cases y; simp_all
theorem vl_ne {x y : Vl} (h : ¬x.k = y.k \/ ¬x.b = y.b \/ ¬x.bl = y.bl \/ ¬x.off = y.off) : ¬x = y := fun e=>by subst e; simp at h
theorem chosen_P (l : List Vl) (hl : l.length = 3) : ASpec Tryz.prog 100 [eL l] (eS (Pl.chosen (l.getD 0 Enc.d) (l.getD 1 Enc.d) (l.getD 2 Enc.d))) [] := by
 have key : ∀ {x : Vl},Pl.chosen (l.getD 0 Enc.d) (l.getD 1 Enc.d) (l.getD 2 Enc.d) = x -> eS x = eS (Pl.chosen (l.getD 0 Enc.d) (l.getD 1 Enc.d) (l.getD 2 Enc.d)) := fun h=>by rw [h]
 refine ASpec.enter TYok mixed Tryz.func100 rfl Tryz.call100 Tryz.ntmps100 rfl (rs := [.cell 2 91]) rfl (nodupB_ok rfl) (Clo.one rfl) (keep := [0,2]) ?_; conv=>whnf
 repeat' first|(refine iF (fun hb=>?_) (fun hb=>?_) <;> (try simp only [yv] at hb) <;> (have hc := hb; try simp only [sB,Int.reduceToNat] at hc; try simp only [addZ0] at hc) <;> first|(exfalso; omega)|conv=>whnf)|((first|refine ya ?_|refine yb ?_|refine yc ?_|refine yd ?_|refine yf ?_|refine yh ?_|refine yj ?_|refine dD ?_|refine dF ?_|refine d0 ?_|refine d1 ?_|refine dL ?_|refine dP ?_|refine yl ?_|refine ym ?_|refine yn ?_|refine ⟨_,fun _=>(IntKind.wrap_u64 _).symm,?_⟩); conv=>whnf)|((first|refine cK (fun _=>anyone_P) ?_|((try (refine CallW.lent ?_; (conv=>whnf); repeat (refine yb ?_; (conv=>whnf)))); refine cL (fun _=>anyone_P) ?_)); conv=>whnf)|(refine yt ?_; conv=>whnf)|exact ⟨_,.keep rfl rfl⟩|fail
 ·exact ⟨_,.keep (key (x := ⟨0,0,0,0⟩) (by unfold Pl.chosen; simp only [Bool.cond_eq_ite,bne_iff_ne,ne_eq,beq_iff_eq,Bool.or_eq_true,Bool.and_eq_true,decide_eq_true_eq,Bool.not_eq_true',decide_eq_false_iff_not]; (repeat' split) <;> first|rfl|(exfalso; omega)|contradiction|(simp_all; done))) rfl⟩
 ·exact ⟨_,.keep (key (x := l.getD 1 Enc.d) (by unfold Pl.chosen; simp only [Bool.cond_eq_ite,bne_iff_ne,ne_eq,beq_iff_eq,Bool.or_eq_true,Bool.and_eq_true,decide_eq_true_eq,Bool.not_eq_true',decide_eq_false_iff_not]; (repeat' split) <;> first|rfl|(exfalso; omega)|contradiction|(simp_all; done))) rfl⟩
 ·exact ⟨_,.keep (key (x := l.getD 2 Enc.d) (by unfold Pl.chosen; simp only [Bool.cond_eq_ite,bne_iff_ne,ne_eq,beq_iff_eq,Bool.or_eq_true,Bool.and_eq_true,decide_eq_true_eq,Bool.not_eq_true',decide_eq_false_iff_not]; (repeat' split) <;> first|rfl|(exfalso; omega)|contradiction|(simp_all; done))) rfl⟩
 ·have e := vl_ext hc
  exact ⟨_,.keep (key (x := l.getD 1 Enc.d) (by unfold Pl.chosen; simp only [Bool.cond_eq_ite,bne_iff_ne,ne_eq,beq_iff_eq,Bool.or_eq_true,Bool.and_eq_true,decide_eq_true_eq,Bool.not_eq_true',decide_eq_false_iff_not]; (repeat' split) <;> first|rfl|(exfalso; omega)|contradiction|(simp_all; done))) rfl⟩
 ·have e := vl_ne (x := l.getD 1 Enc.d) (y := l.getD 2 Enc.d) (by assumption)
  exact ⟨_,.keep (key (x := ⟨0,0,0,0⟩) (by unfold Pl.chosen; simp only [Bool.cond_eq_ite,bne_iff_ne,ne_eq,beq_iff_eq,Bool.or_eq_true,Bool.and_eq_true,decide_eq_true_eq,Bool.not_eq_true',decide_eq_false_iff_not]; (repeat' split) <;> first|rfl|(exfalso; omega)|contradiction|(simp_all; done))) rfl⟩
 ·have e := vl_ne (x := l.getD 1 Enc.d) (y := l.getD 2 Enc.d) (by assumption)
  exact ⟨_,.keep (key (x := Pl.any) (by unfold Pl.chosen; simp only [Bool.cond_eq_ite,bne_iff_ne,ne_eq,beq_iff_eq,Bool.or_eq_true,Bool.and_eq_true,decide_eq_true_eq,Bool.not_eq_true',decide_eq_false_iff_not]; (repeat' split) <;> first|rfl|(exfalso; omega)|contradiction|(simp_all; done))) rfl⟩
theorem loosely_P (x : InsE) (l : List Vl) (hl : 11 <= x.op /\ x.op <= 13 -> 2 <= l.length) : ASpec Tryz.prog 101 [eS x,eL l] (eS (Pl.loosely x.op x.t x.f (l.getD 1 Enc.d))) [] := by
 have key : ∀ {y : Vl},Pl.loosely x.op x.t x.f (l.getD 1 Enc.d) = y -> eS y = eS (Pl.loosely x.op x.t x.f (l.getD 1 Enc.d)) := fun h=>by rw [h]
 refine ASpec.enter TYok mixed Tryz.func101 rfl Tryz.call101 Tryz.ntmps101 rfl (rs := [.cell 4 91]) rfl (nodupB_ok rfl) (Clo.one rfl) (keep := [0,1,2,4]) ?_; conv=>whnf
 repeat' first|(refine iF (fun hb=>?_) (fun hb=>?_) <;> (try simp only [yv] at hb) <;> (have hc := hb; try simp only [sB,Int.reduceToNat] at hc; try simp only [addZ0] at hc) <;> first|(exfalso; omega)|conv=>whnf)|((first|refine ya ?_|refine yb ?_|refine yc ?_|refine yd ?_|refine yf ?_|refine yh ?_|refine yj ?_|refine dD ?_|refine dF ?_|refine d0 ?_|refine d1 ?_|refine dL ?_|refine dP ?_|refine yl ?_|refine ym ?_|refine ⟨_,fun _=>rfl,?_⟩); conv=>whnf)|((first|refine cK (fun _=>anyone_P) ?_|((try (refine CallW.lent ?_; (conv=>whnf); repeat (refine yb ?_; (conv=>whnf)))); refine cL (fun _=>anyone_P) ?_)); conv=>whnf)|(refine yt ?_; conv=>whnf)|exact ⟨_,.keep rfl rfl⟩|fail
 ·exact ⟨_,.keep (key (y := ⟨0,0,0,0⟩) (by unfold Pl.loosely; simp only [Bool.cond_eq_ite,bne_iff_ne,ne_eq,beq_iff_eq,Bool.or_eq_true,Bool.and_eq_true,decide_eq_true_eq,Bool.not_eq_true',decide_eq_false_iff_not]; (repeat' split) <;> first|rfl|(exfalso; omega)|contradiction|(simp_all; done))) rfl⟩
 ·exact ⟨_,.keep (key (y := Pl.any) (by unfold Pl.loosely; simp only [Bool.cond_eq_ite,bne_iff_ne,ne_eq,beq_iff_eq,Bool.or_eq_true,Bool.and_eq_true,decide_eq_true_eq,Bool.not_eq_true',decide_eq_false_iff_not]; (repeat' split) <;> first|rfl|(exfalso; omega)|contradiction|(simp_all; done))) rfl⟩
open Pl (Vl)
instance : Enc Bg := ⟨fun x=>[.i .u64 x.hi,.i .u64 x.lo,.b x.below],3,⟨0,0,false⟩⟩
theorem width_R (w : Int) : ASpec Tryz.prog 135 [.i .i64 w] (.b (d_latheref01_width w)) [] := by
 refine ASpec.enter TYok mixed Tryz.func135 rfl Tryz.call135 Tryz.ntmps135 rfl (rs := [.tmp 2]) rfl (nodupB_ok rfl) (Clo.one rfl) (keep := [0,2]) ?_; conv=>whnf
 repeat' first|(refine iF (fun hb=>?_) (fun hb=>?_) <;> (try simp only [yv] at hb) <;> (have hc := hb; try simp only [sB,Int.reduceToNat] at hc; try simp only [addZ0] at hc) <;> first|(exfalso; omega)|conv=>whnf)|((first|refine ya ?_|refine yb ?_|refine yc ?_|refine yd ?_|refine yf ?_|refine yh ?_|refine yj ?_|refine dD ?_|refine dF ?_|refine d0 ?_|refine d1 ?_|refine dL ?_|refine dP ?_|refine yl ?_|refine ym ?_|refine yn ?_|refine ⟨_,fun _=>(IntKind.wrap_u64 _).symm,?_⟩); conv=>whnf)|(refine yt ?_; conv=>whnf)|exact ⟨_,.keep rfl rfl⟩|fail
theorem Flags_R (op : Int) : ASpec Tryz.prog 72 [.i .i64 op] (.i .i64 (d_latheref01_Flags op)) [] := by
 refine ASpec.enter TYok mixed Tryz.func72 rfl Tryz.call72 Tryz.ntmps72 rfl (rs := [.tmp 2]) rfl (nodupB_ok rfl) (Clo.one rfl) (keep := [0,2]) ?_; conv=>whnf
 repeat' first|(refine iF (fun hb=>?_) (fun hb=>?_) <;> (try simp only [yv] at hb) <;> (have hc := hb; try simp only [sB,Int.reduceToNat] at hc; try simp only [addZ0] at hc) <;> first|(exfalso; omega)|conv=>whnf)|((first|refine ya ?_|refine yb ?_|refine yc ?_|refine yd ?_|refine yf ?_|refine yh ?_|refine yj ?_|refine dD ?_|refine dF ?_|refine d0 ?_|refine d1 ?_|refine dL ?_|refine dP ?_|refine yl ?_|refine ym ?_|refine yn ?_|refine ⟨_,fun _=>(IntKind.wrap_u64 _).symm,?_⟩); conv=>whnf)|(refine yt ?_; conv=>whnf)|exact ⟨_,.keep rfl rfl⟩|fail
 all_goals exact ⟨_,.keep (congrArg (AV.i .i64) (by unfold d_latheref01_Flags; simp only [Bool.cond_eq_ite,beq_iff_eq,Bool.or_eq_true]; (repeat' split) <;> first|rfl|(exfalso; omega)|(simp_all; done))) rfl⟩
theorem Cut_R (w v : Int) (hw : 0 <= w) : ASpec Tryz.prog 133 [.i .i64 w,.i .u64 v] (.i .u64 (d_latheref01_Cut w v)) [] := by
 refine ASpec.enter TYok mixed Tryz.func133 rfl Tryz.call133 Tryz.ntmps133 rfl (rs := [.tmp 4]) rfl (nodupB_ok rfl) (Clo.one rfl) (keep := [0,1,4]) ?_; conv=>whnf
 repeat' first|(refine iF (fun hb=>?_) (fun hb=>?_) <;> (try simp only [yv] at hb) <;> (have hc := hb; try simp only [sB,Int.reduceToNat] at hc; try simp only [addZ0] at hc) <;> first|(exfalso; omega)|conv=>whnf)|((first|refine ya ?_|refine yb ?_|refine yc ?_|refine yd ?_|refine yf ?_|refine yh ?_|refine yj ?_|refine dD ?_|refine dF ?_|refine d0 ?_|refine d1 ?_|refine dL ?_|refine dP ?_|refine yl ?_|refine ym ?_|refine ⟨_,fun _=>rfl,?_⟩); conv=>whnf)|(refine yt ?_; conv=>whnf)|exact ⟨_,.keep rfl rfl⟩|fail
 ·exact ⟨_,.keep (congrArg (AV.i .u64) (by unfold d_latheref01_Cut; rw [decide_eq_true (by omega)]; rfl)) rfl⟩
 have hp : (0 : Int) < 2 ^ w.toNat := Int.pow_pos (by decide)
 refine ⟨by omega,?_⟩
 conv=>whnf
 repeat' first|(refine iF (fun hb=>?_) (fun hb=>?_) <;> (try simp only [yv] at hb) <;> (have hc := hb; try simp only [sB,Int.reduceToNat] at hc; try simp only [addZ0] at hc) <;> first|(exfalso; omega)|conv=>whnf)|((first|refine ya ?_|refine yb ?_|refine yc ?_|refine yd ?_|refine yf ?_|refine yh ?_|refine yj ?_|refine dD ?_|refine dF ?_|refine d0 ?_|refine d1 ?_|refine dL ?_|refine dP ?_|refine yl ?_|refine ym ?_|refine ⟨_,fun _=>rfl,?_⟩); conv=>whnf)|(refine yt ?_; conv=>whnf)|exact ⟨_,.keep rfl rfl⟩|fail
 have h3 : (2 : Int) ^ w.toNat < 18446744073709551616 := by
  have h4 : (2 : Int) ^ (w.toNat + 1) <= 18446744073709551616 := Pl.pow_le_int (by omega)
  rw [Int.pow_succ] at h4; omega
 exact ⟨_,.keep (congrArg (AV.i .u64) (by unfold d_latheref01_Cut; rw [decide_eq_false (by omega),cond_false,show min w.toNat (IntKind.bits .u64) = w.toNat by simp only [IntKind.bits]; omega,Int.one_mul,IntKind.wrap_u64,Int.emod_eq_of_lt (by omega) (by omega)])) rfl⟩
theorem Plain_R (w v : Int) (hw : 0 <= w) : ASpec Tryz.prog 167 [.i .i64 w,.i .u64 v] (eS (d_latheref01_Plain w v)) [] := by
 refine ASpec.enter TYok mixed Tryz.func167 rfl Tryz.call167 Tryz.ntmps167 rfl (rs := [.cell 4 167]) rfl (nodupB_ok rfl) (Clo.one rfl) (keep := [0,1,4]) ?_; conv=>whnf
 repeat' first|(refine iF (fun hb=>?_) (fun hb=>?_) <;> (try simp only [yv] at hb) <;> (have hc := hb; try simp only [sB,Int.reduceToNat] at hc; try simp only [addZ0] at hc) <;> first|(exfalso; omega)|conv=>whnf)|((first|refine ya ?_|refine yb ?_|refine yc ?_|refine yd ?_|refine yf ?_|refine yh ?_|refine yj ?_|refine dD ?_|refine dF ?_|refine d0 ?_|refine d1 ?_|refine dL ?_|refine dP ?_|refine yl ?_|refine ym ?_|refine yn ?_|refine ⟨_,fun _=>(IntKind.wrap_u64 _).symm,?_⟩); conv=>whnf)|((first|refine cK (fun _=>Cut_R _ _ hw) ?_|((try (refine CallW.lent ?_; (conv=>whnf); repeat (refine yb ?_; (conv=>whnf)))); refine cL (fun _=>Cut_R _ _ hw) ?_)); conv=>whnf)|(refine yt ?_; conv=>whnf)|exact ⟨_,.keep rfl rfl⟩|fail
theorem less_R (a b : Bg) : ASpec Tryz.prog 175 [eS a,eS b] (.b (d_latheref01_less a b)) [] := by
 refine ASpec.enter TYok mixed Tryz.func175 rfl Tryz.call175 Tryz.ntmps175 rfl (rs := [.tmp 4]) rfl (nodupB_ok rfl) (Clo.one rfl) (keep := [0,1,2,3,4]) ?_; conv=>whnf
 repeat' first|(refine iF (fun hb=>?_) (fun hb=>?_) <;> (try simp only [yv] at hb) <;> (have hc := hb; try simp only [sB,Int.reduceToNat] at hc; try simp only [addZ0] at hc) <;> first|(exfalso; omega)|conv=>whnf)|((first|refine ya ?_|refine yb ?_|refine yc ?_|refine yd ?_|refine yf ?_|refine yh ?_|refine yj ?_|refine dD ?_|refine dF ?_|refine d0 ?_|refine d1 ?_|refine dL ?_|refine dP ?_|refine yl ?_|refine ym ?_|refine yn ?_|refine ⟨_,fun _=>(IntKind.wrap_u64 _).symm,?_⟩); conv=>whnf)|(refine yt ?_; conv=>whnf)|exact ⟨_,.keep rfl rfl⟩|fail
 all_goals exact ⟨_,.keep (congrArg AV.b (by unfold d_latheref01_less; (try simp only [pickB_or,pickB_and]); rfl)) rfl⟩
theorem fixed_R (a : Bg) : ASpec Tryz.prog 174 [eS a] (eS (d_latheref01_fixed a)) [] := by
 have key : ∀ {y : Bg},d_latheref01_fixed a = y -> eS y = eS (d_latheref01_fixed a) := fun h=>by rw [h]
 refine ASpec.enter TYok mixed Tryz.func174 rfl Tryz.call174 Tryz.ntmps174 rfl (rs := [.cell 2 167]) rfl (nodupB_ok rfl) (Clo.one rfl) (keep := [0,1,2]) ?_; conv=>whnf
 repeat' first|(refine iF (fun hb=>?_) (fun hb=>?_) <;> (try simp only [yv] at hb) <;> (have hc := hb; try simp only [sB,Int.reduceToNat] at hc; try simp only [addZ0] at hc) <;> first|(exfalso; omega)|conv=>whnf)|((first|refine ya ?_|refine yb ?_|refine yc ?_|refine yd ?_|refine yf ?_|refine yh ?_|refine yj ?_|refine dD ?_|refine dF ?_|refine d0 ?_|refine d1 ?_|refine dL ?_|refine dP ?_|refine yl ?_|refine ym ?_|refine yn ?_|refine ⟨_,fun _=>(IntKind.wrap_u64 _).symm,?_⟩); conv=>whnf)|(refine yt ?_; conv=>whnf)|exact ⟨_,.keep rfl rfl⟩|fail
 ·exact ⟨_,.keep (key (y := ⟨a.hi,a.lo,false⟩) (by unfold d_latheref01_fixed; simp only [Bool.cond_eq_ite,beq_iff_eq,Bool.and_eq_true]; (repeat' split) <;> first|rfl|(exfalso; omega))) rfl⟩
 ·exact ⟨_,.keep (key (y := ⟨a.hi,a.lo,a.below⟩) (by unfold d_latheref01_fixed; simp only [Bool.cond_eq_ite,beq_iff_eq,Bool.and_eq_true]; (repeat' split) <;> first|rfl|(exfalso; omega))) rfl⟩
theorem Plus_R (a b : Bg) : ASpec Tryz.prog 171 [eS a,eS b] (eS (d_latheref01_Plus a b)) [] := by
 have key : ∀ {y : Bg},d_latheref01_Plus a b = y -> eS y = eS (d_latheref01_Plus a b) := fun h=>by rw [h]
 refine ASpec.enter TYok mixed Tryz.func171 rfl Tryz.call171 Tryz.ntmps171 rfl (rs := [.cell 4 167]) rfl (nodupB_ok rfl) (Clo.one rfl) (keep := [0,1,2,3,4,5,6,7,8]) ?_; conv=>whnf
 repeat' first|(refine iF (fun hb=>?_) (fun hb=>?_) <;> (try simp only [yv] at hb) <;> (have hc := hb; try simp only [sB,Int.reduceToNat] at hc; try simp only [addZ0] at hc) <;> first|(exfalso; omega)|conv=>whnf)|((first|refine ya ?_|refine yb ?_|refine yc ?_|refine yd ?_|refine yf ?_|refine yh ?_|refine yj ?_|refine dD ?_|refine dF ?_|refine d0 ?_|refine d1 ?_|refine dL ?_|refine dP ?_|refine yl ?_|refine ym ?_|refine ⟨_,fun _=>rfl,?_⟩); conv=>whnf)|((first|refine cK (fun _=>less_R _ _) ?_|((try (refine CallW.lent ?_; (conv=>whnf); repeat (refine yb ?_; (conv=>whnf)))); refine cL (fun _=>less_R _ _) ?_)); conv=>whnf)|((first|refine cK (fun _=>fixed_R ⟨_,_,_⟩) ?_|((try (refine CallW.lent ?_; (conv=>whnf); repeat (refine yb ?_; (conv=>whnf)))); refine cL (fun _=>fixed_R ⟨_,_,_⟩) ?_)); conv=>whnf)|(refine yt ?_; conv=>whnf)|exact ⟨_,.keep rfl rfl⟩|fail
 ·exact ⟨_,.keep (key (y := ⟨IntKind.u64.wrap (IntKind.u64.wrap (a.hi + b.hi) + 1),IntKind.u64.wrap (a.lo + b.lo),a.below⟩) (by unfold d_latheref01_Plus; simp only [Bool.cond_eq_ite,beq_iff_eq,Bool.and_eq_true,decide_eq_true_eq]; (repeat' split) <;> first|rfl|(exfalso; omega)|contradiction|(simp_all; done))) rfl⟩
 ·exact ⟨_,.keep (key (y := ⟨IntKind.u64.wrap (a.hi + b.hi),IntKind.u64.wrap (a.lo + b.lo),a.below⟩) (by unfold d_latheref01_Plus; simp only [Bool.cond_eq_ite,beq_iff_eq,Bool.and_eq_true,decide_eq_true_eq]; (repeat' split) <;> first|rfl|(exfalso; omega)|contradiction|(simp_all; done))) rfl⟩
 all_goals exact ⟨_,.keep (key (by unfold d_latheref01_Plus; simp only [Bool.cond_eq_ite,beq_iff_eq,Bool.and_eq_true,decide_eq_true_eq]; (repeat' split) <;> first|rfl|(exfalso; omega)|contradiction|(simp_all; done))) rfl⟩
theorem Minus_R (a : Bg) : ASpec Tryz.prog 172 [eS a] (eS (d_latheref01_Minus a)) [] := by
 refine ASpec.enter TYok mixed Tryz.func172 rfl Tryz.call172 Tryz.ntmps172 rfl (rs := [.cell 2 167]) rfl (nodupB_ok rfl) (Clo.one rfl) (keep := [0,1,2]) ?_; conv=>whnf
 repeat' first|(refine iF (fun hb=>?_) (fun hb=>?_) <;> (try simp only [yv] at hb) <;> (have hc := hb; try simp only [sB,Int.reduceToNat] at hc; try simp only [addZ0] at hc) <;> first|(exfalso; omega)|conv=>whnf)|((first|refine ya ?_|refine yb ?_|refine yc ?_|refine yd ?_|refine yf ?_|refine yh ?_|refine yj ?_|refine dD ?_|refine dF ?_|refine d0 ?_|refine d1 ?_|refine dL ?_|refine dP ?_|refine yl ?_|refine ym ?_|refine yn ?_|refine ⟨_,fun _=>(IntKind.wrap_u64 _).symm,?_⟩); conv=>whnf)|((first|refine cK (fun _=>fixed_R ⟨a.hi,a.lo,!a.below⟩) ?_|((try (refine CallW.lent ?_; (conv=>whnf); repeat (refine yb ?_; (conv=>whnf)))); refine cL (fun _=>fixed_R ⟨a.hi,a.lo,!a.below⟩) ?_)); conv=>whnf)|(refine yt ?_; conv=>whnf)|exact ⟨_,.keep rfl rfl⟩|fail
theorem Wrapped_R (w : Int) (a : Bg) (hw : 0 <= w) : ASpec Tryz.prog 136 [.i .i64 w,eS a] (.i .u64 (d_latheref01_Wrapped w a)) [] := by
 refine ASpec.enter TYok mixed Tryz.func136 rfl Tryz.call136 Tryz.ntmps136 rfl (rs := [.tmp 4]) rfl (nodupB_ok rfl) (Clo.one rfl) (keep := [0,1,3,4]) ?_; conv=>whnf
 repeat' first|(refine iF (fun hb=>?_) (fun hb=>?_) <;> (try simp only [yv] at hb) <;> (have hc := hb; try simp only [sB,Int.reduceToNat] at hc; try simp only [addZ0] at hc) <;> first|(exfalso; omega)|conv=>whnf)|((first|refine ya ?_|refine yb ?_|refine yc ?_|refine yd ?_|refine yf ?_|refine yh ?_|refine yj ?_|refine dD ?_|refine dF ?_|refine d0 ?_|refine d1 ?_|refine dL ?_|refine dP ?_|refine yl ?_|refine ym ?_|refine ⟨_,fun _=>rfl,?_⟩); conv=>whnf)|((first|refine cK (fun _=>Cut_R _ _ hw) ?_|((try (refine CallW.lent ?_; (conv=>whnf); repeat (refine yb ?_; (conv=>whnf)))); refine cL (fun _=>Cut_R _ _ hw) ?_)); conv=>whnf)|(refine yt ?_; conv=>whnf)|exact ⟨_,.keep rfl rfl⟩|fail
 all_goals exact ⟨_,.keep (congrArg (AV.i .u64) (by unfold d_latheref01_Wrapped; simp_all)) rfl⟩
theorem half_R (w : Int) (hw : 1 <= w /\ w <= 64) : ASpec Tryz.prog 151 [.i .i64 w] (.i .u64 (d_latheref01_half w)) [] := by
 have h3 : (2 : Int) ^ (w - 1).toNat < 18446744073709551616 := by
  have h4 : (2 : Int) ^ ((w - 1).toNat + 1) <= 18446744073709551616 := Pl.pow_le_int (by omega)
  have hp : (0 : Int) < 2 ^ (w - 1).toNat := Int.pow_pos (by decide)
  rw [Int.pow_succ] at h4; omega
 have hp : (0 : Int) < 2 ^ (w - 1).toNat := Int.pow_pos (by decide)
 have e : IntKind.i64.wrap (w - 1) = w - 1 := (wr64 (b := true) (z := w - 1) (by omega) (by omega) rfl).symm
 have e2 : d_latheref01_half w = 2 ^ (w - 1).toNat := by
  unfold d_latheref01_half
  rw [e,show min (w - 1).toNat (IntKind.bits .u64) = (w - 1).toNat by simp only [IntKind.bits]; omega,Int.one_mul,IntKind.wrap_u64,Int.emod_eq_of_lt (by omega) (by omega)]
 rw [e2]
 refine ASpec.enter TYok mixed Tryz.func151 rfl Tryz.call151 Tryz.ntmps151 rfl (rs := [.tmp 2]) rfl (nodupB_ok rfl) (Clo.one rfl) (keep := [0,2]) ?_; conv=>whnf
 repeat' first|(refine iF (fun hb=>?_) (fun hb=>?_) <;> (try simp only [yv] at hb) <;> (have hc := hb; try simp only [sB,Int.reduceToNat] at hc; try simp only [addZ0] at hc) <;> first|(exfalso; omega)|conv=>whnf)|((first|refine ya ?_|refine yb ?_|refine yc ?_|refine yd ?_|refine yf ?_|refine yh ?_|refine yj ?_|refine dD ?_|refine dF ?_|refine d0 ?_|refine d1 ?_|refine dL ?_|refine dP ?_|refine yl ?_|refine ym ?_|refine ⟨_,fun _=>rfl,?_⟩); conv=>whnf)|(refine yt ?_; conv=>whnf)|exact ⟨_,.keep rfl rfl⟩|fail
 all_goals skip
theorem With_R (w v : Int) (hw : 1 <= w /\ w <= 64) : ASpec Tryz.prog 137 [.i .i64 w,.i .u64 v] (eS (d_latheref01_With w v)) [] := by
 have key : ∀ {y : Bg},d_latheref01_With w v = y -> eS y = eS (d_latheref01_With w v) := fun h=>by rw [h]
 refine ASpec.enter TYok mixed Tryz.func137 rfl Tryz.call137 Tryz.ntmps137 rfl (rs := [.cell 4 167]) rfl (nodupB_ok rfl) (Clo.one rfl) (keep := [0,1,4]) ?_; conv=>whnf
 repeat' first|(refine iF (fun hb=>?_) (fun hb=>?_) <;> (try simp only [yv] at hb) <;> (have hc := hb; try simp only [sB,Int.reduceToNat] at hc; try simp only [addZ0] at hc) <;> first|(exfalso; omega)|conv=>whnf)|((first|refine ya ?_|refine yb ?_|refine yc ?_|refine yd ?_|refine yf ?_|refine yh ?_|refine yj ?_|refine dD ?_|refine dF ?_|refine d0 ?_|refine d1 ?_|refine dL ?_|refine dP ?_|refine yl ?_|refine ym ?_|refine ⟨_,fun _=>rfl,?_⟩); conv=>whnf)|((first|refine cK (fun _=>Cut_R _ _ (by omega)) ?_|((try (refine CallW.lent ?_; (conv=>whnf); repeat (refine yb ?_; (conv=>whnf)))); refine cL (fun _=>Cut_R _ _ (by omega)) ?_)); conv=>whnf)|((first|refine cK (fun _=>half_R _ hw) ?_|((try (refine CallW.lent ?_; (conv=>whnf); repeat (refine yb ?_; (conv=>whnf)))); refine cL (fun _=>half_R _ hw) ?_)); conv=>whnf)|(refine yt ?_; conv=>whnf)|exact ⟨_,.keep rfl rfl⟩|fail
 ·exact ⟨_,.keep (key (y := ⟨0,d_latheref01_Cut w v,false⟩) (by unfold d_latheref01_With; simp only [Bool.cond_eq_ite,beq_iff_eq,Bool.and_eq_true,decide_eq_true_eq]; (repeat' split) <;> first|rfl|(exfalso; omega)|contradiction|(simp_all; done))) rfl⟩
 ·exact ⟨_,.keep (key (y := ⟨0,d_latheref01_Cut w (IntKind.u64.wrap (0 - d_latheref01_Cut w v)),true⟩) (by unfold d_latheref01_With; simp only [Bool.cond_eq_ite,beq_iff_eq,Bool.and_eq_true,decide_eq_true_eq]; (repeat' split) <;> first|rfl|(exfalso; omega)|contradiction|(simp_all; done))) rfl⟩
open Pl (Vl)
theorem Times_R (a b : Bg) : ASpec Tryz.prog 173 [eS a,eS b] (eS (d_latheref01_Times a b)) [] := by
 refine ASpec.enter TYok mixed Tryz.func173 rfl Tryz.call173 Tryz.ntmps173 rfl (rs := [.cell 4 167]) rfl (nodupB_ok rfl) (Clo.one rfl) (keep := [0,1,2,3,4,5,6,7,8,9,10,11,12,13]) ?_; conv=>whnf
 repeat' first|(refine iF (fun hb=>?_) (fun hb=>?_) <;> (try simp only [yv] at hb) <;> (have hc := hb; try simp only [sB,Int.reduceToNat] at hc; try simp only [addZ0] at hc) <;> first|(exfalso; omega)|conv=>whnf)|((first|refine ya ?_|refine yb ?_|refine yc ?_|refine yd ?_|refine yf ?_|refine yh ?_|refine yj ?_|refine dD ?_|refine dF ?_|refine d0 ?_|refine d1 ?_|refine dL ?_|refine dP ?_|refine yl ?_|refine ym ?_|refine ⟨_,fun _=>rfl,?_⟩); conv=>whnf)|((first|refine cK (fun _=>fixed_R ⟨_,_,!decide (a.below = b.below)⟩) ?_|((try (refine CallW.lent ?_; (conv=>whnf); repeat (refine yb ?_; (conv=>whnf)))); refine cL (fun _=>fixed_R ⟨_,_,!decide (a.below = b.below)⟩) ?_)); conv=>whnf)|((first|refine cK (fun _=>Plus_R _ _) ?_|((try (refine CallW.lent ?_; (conv=>whnf); repeat (refine yb ?_; (conv=>whnf)))); refine cL (fun _=>Plus_R _ _) ?_)); conv=>whnf)|((first|refine cK (fun _=>Plus_R _ ⟨_,_,_⟩) ?_|((try (refine CallW.lent ?_; (conv=>whnf); repeat (refine yb ?_; (conv=>whnf)))); refine cL (fun _=>Plus_R _ ⟨_,_,_⟩) ?_)); conv=>whnf)|((first|refine cK (fun _=>Plus_R ⟨_,_,_⟩ _) ?_|((try (refine CallW.lent ?_; (conv=>whnf); repeat (refine yb ?_; (conv=>whnf)))); refine cL (fun _=>Plus_R ⟨_,_,_⟩ _) ?_)); conv=>whnf)|((first|refine cK (fun _=>Plus_R ⟨_,_,_⟩ ⟨_,_,_⟩) ?_|((try (refine CallW.lent ?_; (conv=>whnf); repeat (refine yb ?_; (conv=>whnf)))); refine cL (fun _=>Plus_R ⟨_,_,_⟩ ⟨_,_,_⟩) ?_)); conv=>whnf)|(refine yt ?_; conv=>whnf)|exact ⟨_,.keep rfl rfl⟩|fail
 all_goals exact ⟨_,.keep (congrArg eS (by unfold d_latheref01_Times; rw [show (!decide (a.below = b.below)) = (a.below != b.below) by cases a.below <;> cases b.below <;> rfl])) rfl⟩
theorem Bg_dec (x y : Bg) : (decide (x.hi = y.hi) && (decide (x.lo = y.lo) && decide (x.below = y.below))) = decide (x = y) := by
 obtain ⟨a,b,c⟩ := x
 obtain ⟨a',b',c'⟩ := y
 rw [Bool.eq_iff_iff]
 simp [Bg.mk.injEq]
theorem power_R (n : Int) (h1 : n <= 18446744073709551615) : ASpec Tryz.prog 170 [.i .u64 n] (eS (d_latheref01_power n)) [] := by
 refine ASpec.enter TYok mixed Tryz.func170 rfl Tryz.call170 Tryz.ntmps170 rfl (rs := [.cell 2 167]) rfl (nodupB_ok rfl) (Clo.one rfl) (keep := [0,2,3,4]) ?_; conv=>whnf
 repeat' first|(refine iF (fun hb=>?_) (fun hb=>?_) <;> (try simp only [yv] at hb) <;> (have hc := hb; try simp only [sB,Int.reduceToNat] at hc; try simp only [addZ0] at hc) <;> first|(exfalso; omega)|conv=>whnf)|((first|refine ya ?_|refine yb ?_|refine yc ?_|refine yd ?_|refine yf ?_|refine yh ?_|refine yj ?_|refine dD ?_|refine dF ?_|refine d0 ?_|refine d1 ?_|refine dL ?_|refine dP ?_|refine yl ?_|refine ym ?_|refine ⟨_,fun _=>rfl,?_⟩); conv=>whnf)|(refine yt ?_; conv=>whnf)|exact ⟨_,.keep rfl rfl⟩|fail
 refine lp [4] (fun q : Nat × Int=>[.i .u64 q.1]) (fun q=>[(3,bx (⟨0,q.2,false⟩ : Bg)),(2,bx (⟨0,0,false⟩ : Bg))]) (fun q=>((q.1 = 0 \/ (q.1 : Int) <= n) /\ q.1 <= n.toNat) /\ d_latheref01_power_R3 n (n.toNat + 1 - q.1) q.2 q.1 = d_latheref01_power_R3 n ((n - 0).toNat + 1) 1 0) (fun q=>n.toNat - q.1) (0,1) ⟨⟨.inl rfl,by omega⟩,by rw [Int.sub_zero]; rfl⟩ ?_ fun q hq=>?_
 ·refine eP [] [] ?_ ?_ <;> repeat' first|exact eN|refine And.intro ?_ ?_
 conv=>whnf
 obtain ⟨k,v⟩ := q
 obtain ⟨⟨hq1,hq2⟩,hv⟩ := hq
 simp only at hq1 hq2 hv
 repeat' first|(refine iF (fun hb=>?_) (fun hb=>?_) <;> (try simp only [yv] at hb) <;> (have hc := hb; try simp only [sB,Int.reduceToNat] at hc; try simp only [addZ0] at hc) <;> first|(exfalso; omega)|conv=>whnf)|((first|refine ya ?_|refine yb ?_|refine yc ?_|refine yd ?_|refine yf ?_|refine yh ?_|refine yj ?_|refine dD ?_|refine dF ?_|refine d0 ?_|refine d1 ?_|refine dL ?_|refine dP ?_|refine yl ?_|refine ym ?_|refine ⟨_,fun _=>rfl,?_⟩); conv=>whnf)|(refine yt ?_; conv=>whnf)|exact ⟨_,.keep rfl rfl⟩|fail
 ·refine .mk (k + 1,IntKind.u64.wrap (v * 2)) ⟨⟨.inr (by show ((k + 1 : Nat) : Int) <= n; omega),by show k + 1 <= n.toNat; omega⟩,?_⟩ (by show n.toNat - (k + 1) < n.toNat - k; omega) ?_
  ·rw [<- hv,show n.toNat + 1 - k = (n.toNat + 1 - (k + 1)) + 1 by omega]
   show _ = bif decide ((k : Int) < n) then _ else _
   rw [decide_eq_true (by omega),cond_true]; rfl
  ·refine eP [] [] ?_ ?_ <;> repeat' first|exact eN|refine And.intro ?_ ?_
   show IntKind.u64.wrap ((k : Int) + 1) = ((k + 1 : Nat) : Int)
   rw [IntKind.wrap_u64]; omega
 ·have e : d_latheref01_power n = ⟨0,v,false⟩ := by
   unfold d_latheref01_power letV
   rw [<- hv,show n.toNat + 1 - k = (n.toNat - k) + 1 by omega]
   show (match (bif decide ((k : Int) < n) then _ else (v,(k : Int))) with|(a,b)=>(⟨0,a,false⟩ : Bg)) = _
   rw [decide_eq_false (by omega),cond_false]
  rw [e]
  exact ⟨_,.keep rfl rfl⟩
theorem bit_R (op x y : Int) : ASpec Tryz.prog 169 [.i .i64 op,.i .u64 x,.i .u64 y] (.i .u64 (d_latheref01_bit op x y)) [] := by
 refine ASpec.enter TYok mixed Tryz.func169 rfl Tryz.call169 Tryz.ntmps169 rfl (rs := [.tmp 6]) rfl (nodupB_ok rfl) (Clo.one rfl) (keep := [0,1,2,6,7]) ?_; conv=>whnf
 repeat' first|(refine iF (fun hb=>?_) (fun hb=>?_) <;> (try simp only [yv] at hb) <;> (have hc := hb; try simp only [sB,Int.reduceToNat] at hc; try simp only [addZ0] at hc) <;> first|(exfalso; omega)|conv=>whnf)|((first|refine ya ?_|refine yb ?_|refine yc ?_|refine yd ?_|refine yf ?_|refine yh ?_|refine yj ?_|refine dD ?_|refine dF ?_|refine d0 ?_|refine d1 ?_|refine dL ?_|refine dP ?_|refine yl ?_|refine ym ?_|refine ⟨_,fun _=>rfl,?_⟩); conv=>whnf)|(refine yt ?_; conv=>whnf)|exact ⟨_,.keep rfl rfl⟩|fail
 all_goals exact ⟨_,.keep (congrArg (AV.i .u64) (by unfold d_latheref01_bit; simp only [Bool.cond_eq_ite,beq_iff_eq]; (repeat' split) <;> first|rfl|(exfalso; omega))) rfl⟩
theorem fits_R (w : Int) (a : Bg) (s : Bool) (hw : 1 <= w /\ w <= 64) : ASpec Tryz.prog 166 [.i .i64 w,eS a,.b s] (.b (d_latheref01_fits w a s)) [] := by
 refine ASpec.enter TYok mixed Tryz.func166 rfl Tryz.call166 Tryz.ntmps166 rfl (rs := [.tmp 6]) rfl (nodupB_ok rfl) (Clo.one rfl) (keep := [0,1,2,4,6,7,8]) ?_; conv=>whnf
 repeat' first|(refine iF (fun hb=>?_) (fun hb=>?_) <;> (try simp only [yv] at hb) <;> (have hc := hb; try simp only [sB,Int.reduceToNat] at hc; try simp only [addZ0] at hc) <;> first|(exfalso; omega)|conv=>whnf)|((first|refine ya ?_|refine yb ?_|refine yc ?_|refine yd ?_|refine yf ?_|refine yh ?_|refine yj ?_|refine dD ?_|refine dF ?_|refine d0 ?_|refine d1 ?_|refine dL ?_|refine dP ?_|refine yl ?_|refine ym ?_|refine ⟨_,fun _=>rfl,?_⟩); conv=>whnf)|((first|refine cK (fun _=>Wrapped_R _ _ (by omega)) ?_|((try (refine CallW.lent ?_; (conv=>whnf); repeat (refine yb ?_; (conv=>whnf)))); refine cL (fun _=>Wrapped_R _ _ (by omega)) ?_)); conv=>whnf)|((first|refine cK (fun _=>With_R _ _ hw) ?_|((try (refine CallW.lent ?_; (conv=>whnf); repeat (refine yb ?_; (conv=>whnf)))); refine cL (fun _=>With_R _ _ hw) ?_)); conv=>whnf)|((first|refine cK (fun _=>Plain_R _ _ (by omega)) ?_|((try (refine CallW.lent ?_; (conv=>whnf); repeat (refine yb ?_; (conv=>whnf)))); refine cL (fun _=>Plain_R _ _ (by omega)) ?_)); conv=>whnf)|(refine yt ?_; conv=>whnf)|exact ⟨_,.keep rfl rfl⟩|fail
 ·rw [Bg_dec]
  exact ⟨_,.keep (congrArg AV.b (by unfold d_latheref01_fits; simp_all)) rfl⟩
 ·rw [Bg_dec]
  exact ⟨_,.keep (congrArg AV.b (by unfold d_latheref01_fits; simp_all)) rfl⟩
theorem quotient_R (a b : Bg) (hb : b.lo ≠ 0) : ASpec Tryz.prog 168 [eS a,eS b] (.tup [eS (d_latheref01_quotient a b).1,eS (d_latheref01_quotient a b).2]) [] := by
 refine ASpec.enter TYok mixed Tryz.func168 rfl Tryz.call168 Tryz.ntmps168 rfl (rs := [.cell 4 167,.cell 5 167]) rfl (nodupB_ok rfl) (Clo.one rfl) (keep := [0,1,2,3,4,5,6,7]) ?_; conv=>whnf
 repeat' first|(refine iF (fun hb=>?_) (fun hb=>?_) <;> (try simp only [yv] at hb) <;> (have hc := hb; try simp only [sB,Int.reduceToNat] at hc; try simp only [addZ0] at hc) <;> first|(exfalso; omega)|conv=>whnf)|((first|refine ya ?_|refine yb ?_|refine yc ?_|refine yd ?_|refine yf ?_|refine yh ?_|refine yj ?_|refine dD ?_|refine dF ?_|refine d0 ?_|refine d1 ?_|refine dL ?_|refine dP ?_|refine yl ?_|refine ym ?_|refine ⟨_,fun _=>rfl,?_⟩); conv=>whnf)|((first|refine cK (fun _=>fixed_R ⟨_,_,!decide (a.below = b.below)⟩) ?_|((try (refine CallW.lent ?_; (conv=>whnf); repeat (refine yb ?_; (conv=>whnf)))); refine cL (fun _=>fixed_R ⟨_,_,!decide (a.below = b.below)⟩) ?_)); conv=>whnf)|((first|refine cK (fun _=>fixed_R ⟨_,_,_⟩) ?_|((try (refine CallW.lent ?_; (conv=>whnf); repeat (refine yb ?_; (conv=>whnf)))); refine cL (fun _=>fixed_R ⟨_,_,_⟩) ?_)); conv=>whnf)|(refine yt ?_; conv=>whnf)|exact ⟨_,.keep rfl rfl⟩|fail
structure BW where
 i : Nat
 u : Int
 v : Int
 a : Int
 b : Int
theorem bitwise_R (op w a b : Int) (hw : w <= 64) : ASpec Tryz.prog 161 [.i .i64 op,.i .i64 w,.i .u64 a,.i .u64 b] (.i .u64 (d_latheref01_bitwise op w a b)) [] := by
 refine ASpec.enter TYok mixed Tryz.func161 rfl Tryz.call161 Tryz.ntmps161 rfl (rs := [.tmp 8]) rfl (nodupB_ok rfl) (Clo.one rfl) (keep := [0,1,2,3,8,9,10,11]) ?_; conv=>whnf
 repeat' first|(refine iF (fun hb=>?_) (fun hb=>?_) <;> (try simp only [yv] at hb) <;> (have hc := hb; try simp only [sB,Int.reduceToNat] at hc; try simp only [addZ0] at hc) <;> first|(exfalso; omega)|conv=>whnf)|((first|refine ya ?_|refine yb ?_|refine yc ?_|refine yd ?_|refine yf ?_|refine yh ?_|refine yj ?_|refine dD ?_|refine dF ?_|refine d0 ?_|refine d1 ?_|refine dL ?_|refine dP ?_|refine yl ?_|refine ym ?_|refine ⟨_,fun _=>rfl,?_⟩); conv=>whnf)|(refine yt ?_; conv=>whnf)|exact ⟨_,.keep rfl rfl⟩|fail
 refine lp [11,10,9,2,3] (fun q : BW=>[.i .i64 q.i,.i .u64 q.u,.i .u64 q.v,.i .u64 q.a,.i .u64 q.b]) (fun q=>[]) (fun q=>q.i <= w.toNat /\ d_latheref01_bitwise_R4 op w (w.toNat + 1 - q.i) q.i q.u q.v q.a q.b = d_latheref01_bitwise_R4 op w ((w - 0).toNat + 1) 0 1 0 a b) (fun q=>w.toNat - q.i) ⟨0,1,0,a,b⟩ ⟨Nat.zero_le _,by rw [Int.sub_zero]; rfl⟩ ?_ fun q hq=>?_
 ·refine eP [] [] ?_ ?_ <;> repeat' first|exact eN|refine And.intro ?_ ?_
 conv=>whnf
 obtain ⟨k,u,v,x,y⟩ := q
 obtain ⟨hq,hv⟩ := hq
 simp only at hq hv
 repeat' first|(refine iF (fun hb=>?_) (fun hb=>?_) <;> (try simp only [yv] at hb) <;> (have hc := hb; try simp only [sB,Int.reduceToNat] at hc; try simp only [addZ0] at hc) <;> first|(exfalso; omega)|conv=>whnf)|((first|refine ya ?_|refine yb ?_|refine yc ?_|refine yd ?_|refine yf ?_|refine yh ?_|refine yj ?_|refine dD ?_|refine dF ?_|refine d0 ?_|refine d1 ?_|refine dL ?_|refine dP ?_|refine yl ?_|refine ym ?_|refine ⟨_,fun _=>rfl,?_⟩); conv=>whnf)|((first|refine cK (fun _=>bit_R _ _ _) ?_|((try (refine CallW.lent ?_; (conv=>whnf); repeat (refine yb ?_; (conv=>whnf)))); refine cL (fun _=>bit_R _ _ _) ?_)); conv=>whnf)|(refine yt ?_; conv=>whnf)|exact ⟨_,.keep rfl rfl⟩|fail
 ·refine .mk ⟨k + 1,IntKind.u64.wrap (u * 2),IntKind.u64.wrap (v + IntKind.u64.wrap (u * d_latheref01_bit op (Int.tmod x 2) (Int.tmod y 2))),IntKind.u64.wrap (Int.tdiv x 2),IntKind.u64.wrap (Int.tdiv y 2)⟩ ⟨by show k + 1 <= w.toNat; omega,?_⟩ (by show w.toNat - (k + 1) < w.toNat - k; omega) ?_
  ·rw [<- hv,show w.toNat + 1 - k = (w.toNat + 1 - (k + 1)) + 1 by omega]
   show _ = bif decide ((k : Int) < w) then _ else _
   rw [decide_eq_true (by omega),cond_true]; rfl
  ·refine eP [] [] ?_ ?_ <;> repeat' first|exact eN|refine And.intro ?_ ?_
 ·have e : d_latheref01_bitwise op w a b = v := by
   unfold d_latheref01_bitwise letV
   rw [<- hv,show w.toNat + 1 - k = (w.toNat - k) + 1 by omega]
   show (match (bif decide ((k : Int) < w) then _ else ((k : Int),u,v,x,y)) with|(_,_,z,_,_)=>z) = _
   rw [decide_eq_false (by omega),cond_false]
  rw [e]
  exact ⟨_,.keep rfl rfl⟩
open Pl (Vl)
theorem beqD (x y : Int) : (x == y) = decide (x = y) := rfl
theorem bneD (x y : Int) : (x != y) = !decide (x = y) := rfl
theorem plain_lo {w v : Int} (hw : 1 <= w /\ w <= 64) (hv : 0 <= v /\ v < 18446744073709551616) : 0 <= (d_latheref01_Plain w v).lo /\ (d_latheref01_Plain w v).lo < 18446744073709551616 := by
 obtain ⟨n,rfl⟩ := Int.eq_ofNat_of_zero_le (show 0 <= w by omega)
 exact (Pl.plain_rep (n := n) (by omega) hv.1 hv.2).lo
theorem with_lo {w v : Int} (hw : 1 <= w /\ w <= 64) (hv : 0 <= v /\ v < 18446744073709551616) : 0 <= (d_latheref01_With w v).lo /\ (d_latheref01_With w v).lo < 18446744073709551616 := by
 obtain ⟨n,rfl⟩ := Int.eq_ofNat_of_zero_le (show 0 <= w by omega)
 exact (Pl.with_rep (n := n) (by omega) (by omega) hv.1 hv.2).lo
theorem exact_R (op w a b : Int) (s : Bool) (hw : 1 <= w /\ w <= 64) (hB : 0 <= b /\ b < 18446744073709551616) : ASpec Tryz.prog 165 [.i .i64 op,.i .i64 w,.i .u64 a,.i .u64 b,.b s] (eS (d_latheref01_exact op w a b s)) [] := by
 have key : ∀ {y : Bg},d_latheref01_exact op w a b s = y -> eS y = eS (d_latheref01_exact op w a b s) := fun h=>by rw [h]
 have h1 := plain_lo hw hB
 have h2 := with_lo hw hB
 refine ASpec.enter TYok mixed Tryz.func165 rfl Tryz.call165 Tryz.ntmps165 rfl (rs := [.cell 10 167]) rfl (nodupB_ok rfl) (Clo.one rfl) (keep := [0,1,2,3,4,10,11,12,28]) ?_; conv=>whnf
 repeat' first|(refine iF (fun hb=>?_) (fun hb=>?_) <;> (try simp only [yv] at hb) <;> (have hc := hb; try simp only [sB,Int.reduceToNat] at hc; try simp only [addZ0] at hc) <;> first|(exfalso; omega)|conv=>whnf)|((first|refine ya ?_|refine yb ?_|refine yc ?_|refine yd ?_|refine yf ?_|refine yh ?_|refine yj ?_|refine dD ?_|refine dF ?_|refine d0 ?_|refine d1 ?_|refine dL ?_|refine dP ?_|refine yl ?_|refine ym ?_|refine ⟨_,fun _=>rfl,?_⟩); conv=>whnf)|((first|refine cK (fun _=>Plain_R _ _ (by omega)) ?_|((try (refine CallW.lent ?_; (conv=>whnf); repeat (refine yb ?_; (conv=>whnf)))); refine cL (fun _=>Plain_R _ _ (by omega)) ?_)); conv=>whnf)|((first|refine cK (fun _=>With_R _ _ hw) ?_|((try (refine CallW.lent ?_; (conv=>whnf); repeat (refine yb ?_; (conv=>whnf)))); refine cL (fun _=>With_R _ _ hw) ?_)); conv=>whnf)|((first|refine cK (fun _=>Plus_R _ _) ?_|((try (refine CallW.lent ?_; (conv=>whnf); repeat (refine yb ?_; (conv=>whnf)))); refine cL (fun _=>Plus_R _ _) ?_)); conv=>whnf)|((first|refine cK (fun _=>Minus_R _) ?_|((try (refine CallW.lent ?_; (conv=>whnf); repeat (refine yb ?_; (conv=>whnf)))); refine cL (fun _=>Minus_R _) ?_)); conv=>whnf)|((first|refine cK (fun _=>Times_R _ _) ?_|((try (refine CallW.lent ?_; (conv=>whnf); repeat (refine yb ?_; (conv=>whnf)))); refine cL (fun _=>Times_R _ _) ?_)); conv=>whnf)|((first|refine cK (fun _=>power_R _ (by omega)) ?_|((try (refine CallW.lent ?_; (conv=>whnf); repeat (refine yb ?_; (conv=>whnf)))); refine cL (fun _=>power_R _ (by omega)) ?_)); conv=>whnf)|(refine yt ?_; conv=>whnf)|exact ⟨_,.keep rfl rfl⟩|fail
 all_goals exact ⟨_,.keep (key (by unfold d_latheref01_exact; first|(simp only [beqD,bneD,Bool.not_true,Bool.not_false,Bool.or_true,Bool.true_or,Bool.or_false,Bool.false_or,Bool.and_true,Bool.true_and,Bool.and_false,Bool.false_and,cond_true,cond_false, *]; done)|(simp_all [beqD,bneD]; done)|(simp only [Bool.cond_eq_ite,beq_iff_eq,bne_iff_ne,ne_eq,Bool.not_eq_true',Bool.and_eq_true,Bool.or_eq_true,decide_eq_true_eq]; (repeat' split) <;> first|rfl|(exfalso; omega)|contradiction|(simp_all; done)))) rfl⟩
theorem cut_lo {w v : Int} (hw : 1 <= w /\ w <= 64) (hv : 0 <= v /\ v < 18446744073709551616) : 0 <= d_latheref01_Cut w v /\ d_latheref01_Cut w v < 18446744073709551616 := by
 obtain ⟨n,rfl⟩ := Int.eq_ofNat_of_zero_le (show 0 <= w by omega)
 exact (Pl.plain_rep (n := n) (by omega) hv.1 hv.2).lo
theorem wrap_w {w : Int} (hw : 1 <= w /\ w <= 64) : IntKind.u64.wrap w = w := by rw [IntKind.wrap_u64]; omega
theorem plain_nz {w v : Int} (hw : 1 <= w /\ w <= 64) (hv : 0 <= v /\ v < 18446744073709551616) (h : ¬d_latheref01_Cut w v = 0) : (d_latheref01_Plain w v).lo ≠ 0 := h
theorem with_nz {w v : Int} (hw : 1 <= w /\ w <= 64) (hv : 0 <= v /\ v < 18446744073709551616) (h : ¬d_latheref01_Cut w v = 0) : (d_latheref01_With w v).lo ≠ 0 := by
 obtain ⟨n,rfl⟩ := Int.eq_ofNat_of_zero_le (show 0 <= w by omega)
 intro e
 have h1 := Pl.with_rep (n := n) (by omega) (by omega) hv.1 hv.2
 have h2 := Pl.lo_zero h1 (Pl.with_hi _ _)
 rw [e] at h2
 have h3 : Pl.sgn n v = 0 := by simpa using h2
 rw [Pl.cut_eq (by omega) hv.1 hv.2] at h
 exact Pl.sgn_zero h h3
theorem power_nz {n : Int} (h : 0 <= n /\ n < 64) : (d_latheref01_power n).lo ≠ 0 := by
 obtain ⟨k,rfl⟩ := Int.eq_ofNat_of_zero_le h.1
 rw [Pl.power_eq (by omega)]
 have : (0 : Int) < 2 ^ k := Int.pow_pos (by decide)
 show (2 : Int) ^ k ≠ 0
 omega
theorem flagged_R (op w fl a b : Int) (hw : 1 <= w /\ w <= 64) (hB : 0 <= b /\ b < 18446744073709551616) : ASpec Tryz.prog 159 [.i .i64 op,.i .i64 w,.i .i64 fl,.i .u64 a,.i .u64 b] (.tup [.i .u64 (d_latheref01_flagged op w fl a b).1,.i .i64 (d_latheref01_flagged op w fl a b).2]) [] := by
 have key : ∀ {x y : Int},d_latheref01_flagged op w fl a b = (x,y) -> AV.tup [.i .u64 x,.i .i64 y] = .tup [.i .u64 (d_latheref01_flagged op w fl a b).1,.i .i64 (d_latheref01_flagged op w fl a b).2] := fun h=>by rw [h]
 have h1 := wrap_w hw
 refine ASpec.enter TYok mixed Tryz.func159 rfl Tryz.call159 Tryz.ntmps159 rfl (rs := [.tmp 10,.tmp 11]) rfl (nodupB_ok rfl) (Clo.one rfl) (keep := [0,1,2,3,4,10,11,12,13,14,15]) ?_; conv=>whnf
 repeat' first|(refine iF (fun hb=>?_) (fun hb=>?_) <;> (try simp only [yv] at hb) <;> (have hc := hb; try simp only [sB,Int.reduceToNat] at hc; try simp only [addZ0] at hc) <;> first|(exfalso; omega)|conv=>whnf)|((first|refine ya ?_|refine yb ?_|refine yc ?_|refine yd ?_|refine yf ?_|refine yh ?_|refine yj ?_|refine dD ?_|refine dF ?_|refine d0 ?_|refine d1 ?_|refine dL ?_|refine dP ?_|refine yl ?_|refine ym ?_|refine ⟨_,fun _=>rfl,?_⟩); conv=>whnf)|((first|refine cK (fun _=>Cut_R _ _ (by omega)) ?_|((try (refine CallW.lent ?_; (conv=>whnf); repeat (refine yb ?_; (conv=>whnf)))); refine cL (fun _=>Cut_R _ _ (by omega)) ?_)); conv=>whnf)|((first|refine cK (fun _=>exact_R _ _ _ _ _ hw hB) ?_|((try (refine CallW.lent ?_; (conv=>whnf); repeat (refine yb ?_; (conv=>whnf)))); refine cL (fun _=>exact_R _ _ _ _ _ hw hB) ?_)); conv=>whnf)|((first|refine cK (fun _=>fits_R _ _ _ hw) ?_|((try (refine CallW.lent ?_; (conv=>whnf); repeat (refine yb ?_; (conv=>whnf)))); refine cL (fun _=>fits_R _ _ _ hw) ?_)); conv=>whnf)|((first|refine cK (fun _=>Wrapped_R _ _ (by omega)) ?_|((try (refine CallW.lent ?_; (conv=>whnf); repeat (refine yb ?_; (conv=>whnf)))); refine cL (fun _=>Wrapped_R _ _ (by omega)) ?_)); conv=>whnf)|(refine yt ?_; conv=>whnf)|exact ⟨_,.keep rfl rfl⟩|fail
 all_goals clear h1
 all_goals exact ⟨_,.keep (key (by unfold d_latheref01_flagged; first|(simp only [beqD,bneD,Bool.not_true,Bool.not_false,Bool.or_true,Bool.true_or,Bool.or_false,Bool.false_or,Bool.and_true,Bool.true_and,Bool.and_false,Bool.false_and,cond_true,cond_false, *]; done)|(simp_all [beqD,bneD]; done)|(simp only [Bool.cond_eq_ite,beq_iff_eq,bne_iff_ne,ne_eq,Bool.not_eq_true',Bool.and_eq_true,Bool.or_eq_true,decide_eq_true_eq]; (repeat' split) <;> first|rfl|(exfalso; omega)|contradiction|(simp_all; done)))) rfl⟩
theorem divided_R (op w fl a b : Int) (hw : 1 <= w /\ w <= 64) (hB : 0 <= b /\ b < 18446744073709551616) : ASpec Tryz.prog 160 [.i .i64 op,.i .i64 w,.i .i64 fl,.i .u64 a,.i .u64 b] (.tup [.i .u64 (d_latheref01_divided op w fl a b).1,.i .i64 (d_latheref01_divided op w fl a b).2]) [] := by
 have key : ∀ {x y : Int},d_latheref01_divided op w fl a b = (x,y) -> AV.tup [.i .u64 x,.i .i64 y] = .tup [.i .u64 (d_latheref01_divided op w fl a b).1,.i .i64 (d_latheref01_divided op w fl a b).2] := fun h=>by rw [h]
 have h1 := fun h=>plain_nz hw hB h
 have h2 := fun h=>with_nz hw hB h
 refine ASpec.enter TYok mixed Tryz.func160 rfl Tryz.call160 Tryz.ntmps160 rfl (rs := [.tmp 10,.tmp 11]) rfl (nodupB_ok rfl) (Clo.one rfl) (keep := [0,1,2,3,4,10,11,12,13,14,15,16]) ?_; conv=>whnf
 repeat' first|(refine iF (fun hb=>?_) (fun hb=>?_) <;> (try simp only [yv] at hb) <;> (have hc := hb; try simp only [sB,Int.reduceToNat] at hc; try simp only [addZ0] at hc) <;> first|(exfalso; omega)|conv=>whnf)|((first|refine ya ?_|refine yb ?_|refine yc ?_|refine yd ?_|refine yf ?_|refine yh ?_|refine yj ?_|refine dD ?_|refine dF ?_|refine d0 ?_|refine d1 ?_|refine dL ?_|refine dP ?_|refine yl ?_|refine ym ?_|refine ⟨_,fun _=>rfl,?_⟩); conv=>whnf)|((first|refine cK (fun _=>Cut_R _ _ (by omega)) ?_|((try (refine CallW.lent ?_; (conv=>whnf); repeat (refine yb ?_; (conv=>whnf)))); refine cL (fun _=>Cut_R _ _ (by omega)) ?_)); conv=>whnf)|((first|refine cK (fun _=>Plain_R _ _ (by omega)) ?_|((try (refine CallW.lent ?_; (conv=>whnf); repeat (refine yb ?_; (conv=>whnf)))); refine cL (fun _=>Plain_R _ _ (by omega)) ?_)); conv=>whnf)|((first|refine cK (fun _=>With_R _ _ hw) ?_|((try (refine CallW.lent ?_; (conv=>whnf); repeat (refine yb ?_; (conv=>whnf)))); refine cL (fun _=>With_R _ _ hw) ?_)); conv=>whnf)|((first|refine cK (fun _=>quotient_R _ _ (h1 (by assumption))) ?_|((try (refine CallW.lent ?_; (conv=>whnf); repeat (refine yb ?_; (conv=>whnf)))); refine cL (fun _=>quotient_R _ _ (h1 (by assumption))) ?_)); conv=>whnf)|((first|refine cK (fun _=>quotient_R _ _ (h2 (by assumption))) ?_|((try (refine CallW.lent ?_; (conv=>whnf); repeat (refine yb ?_; (conv=>whnf)))); refine cL (fun _=>quotient_R _ _ (h2 (by assumption))) ?_)); conv=>whnf)|((first|refine cK (fun _=>fits_R _ _ _ hw) ?_|((try (refine CallW.lent ?_; (conv=>whnf); repeat (refine yb ?_; (conv=>whnf)))); refine cL (fun _=>fits_R _ _ _ hw) ?_)); conv=>whnf)|((first|refine cK (fun _=>Wrapped_R _ _ (by omega)) ?_|((try (refine CallW.lent ?_; (conv=>whnf); repeat (refine yb ?_; (conv=>whnf)))); refine cL (fun _=>Wrapped_R _ _ (by omega)) ?_)); conv=>whnf)|(refine yt ?_; conv=>whnf)|exact ⟨_,.keep rfl rfl⟩|fail
 all_goals clear h1 h2
 all_goals exact ⟨_,.keep (key (by unfold d_latheref01_divided; simp only [beqD,bneD]; generalize hS : (decide (op = 5) || decide (op = 7)) = S at *; cases S <;> first|(exfalso; simp_all; done)|(simp only [beqD,bneD,Bool.not_true,Bool.not_false,Bool.or_true,Bool.true_or,Bool.or_false,Bool.false_or,Bool.and_true,Bool.true_and,Bool.and_false,Bool.false_and,cond_true,cond_false, *]; done)|(simp_all [beqD,bneD]; done)|(simp only [Bool.cond_eq_ite,beq_iff_eq,bne_iff_ne,ne_eq,Bool.not_eq_true',Bool.and_eq_true,Bool.or_eq_true,decide_eq_true_eq]; (repeat' split) <;> first|rfl|(exfalso; omega)|contradiction|(simp_all; done)))) rfl⟩
theorem right_R (op w fl a b : Int) (hw : 1 <= w /\ w <= 64) (hB : 0 <= b /\ b < 18446744073709551616) : ASpec Tryz.prog 162 [.i .i64 op,.i .i64 w,.i .i64 fl,.i .u64 a,.i .u64 b] (.tup [.i .u64 (d_latheref01_right op w fl a b).1,.i .i64 (d_latheref01_right op w fl a b).2]) [] := by
 have key : ∀ {x y : Int},d_latheref01_right op w fl a b = (x,y) -> AV.tup [.i .u64 x,.i .i64 y] = .tup [.i .u64 (d_latheref01_right op w fl a b).1,.i .i64 (d_latheref01_right op w fl a b).2] := fun h=>by rw [h]
 have h1 := wrap_w hw
 have h2 := cut_lo hw hB
 refine ASpec.enter TYok mixed Tryz.func162 rfl Tryz.call162 Tryz.ntmps162 rfl (rs := [.tmp 10,.tmp 11]) rfl (nodupB_ok rfl) (Clo.one rfl) (keep := [0,1,2,3,4,10,11,12,13,14,15]) ?_; conv=>whnf
 repeat' first|(refine iF (fun hb=>?_) (fun hb=>?_) <;> (try simp only [yv] at hb) <;> (have hc := hb; try simp only [sB,Int.reduceToNat] at hc; try simp only [addZ0] at hc) <;> first|(exfalso; omega)|conv=>whnf)|((first|refine ya ?_|refine yb ?_|refine yc ?_|refine yd ?_|refine yf ?_|refine yh ?_|refine yj ?_|refine dD ?_|refine dF ?_|refine d0 ?_|refine d1 ?_|refine dL ?_|refine dP ?_|refine yl ?_|refine ym ?_|refine ⟨_,fun _=>rfl,?_⟩); conv=>whnf)|((first|refine cK (fun _=>Cut_R _ _ (by omega)) ?_|((try (refine CallW.lent ?_; (conv=>whnf); repeat (refine yb ?_; (conv=>whnf)))); refine cL (fun _=>Cut_R _ _ (by omega)) ?_)); conv=>whnf)|((first|refine cK (fun _=>Plain_R _ _ (by omega)) ?_|((try (refine CallW.lent ?_; (conv=>whnf); repeat (refine yb ?_; (conv=>whnf)))); refine cL (fun _=>Plain_R _ _ (by omega)) ?_)); conv=>whnf)|((first|refine cK (fun _=>With_R _ _ hw) ?_|((try (refine CallW.lent ?_; (conv=>whnf); repeat (refine yb ?_; (conv=>whnf)))); refine cL (fun _=>With_R _ _ hw) ?_)); conv=>whnf)|((first|refine cK (fun _=>quotient_R _ _ (power_nz (by omega))) ?_|((try (refine CallW.lent ?_; (conv=>whnf); repeat (refine yb ?_; (conv=>whnf)))); refine cL (fun _=>quotient_R _ _ (power_nz (by omega))) ?_)); conv=>whnf)|((first|refine cK (fun _=>power_R _ (by omega)) ?_|((try (refine CallW.lent ?_; (conv=>whnf); repeat (refine yb ?_; (conv=>whnf)))); refine cL (fun _=>power_R _ (by omega)) ?_)); conv=>whnf)|((first|refine cK (fun _=>Plus_R _ ⟨_,_,_⟩) ?_|((try (refine CallW.lent ?_; (conv=>whnf); repeat (refine yb ?_; (conv=>whnf)))); refine cL (fun _=>Plus_R _ ⟨_,_,_⟩) ?_)); conv=>whnf)|((first|refine cK (fun _=>Wrapped_R _ _ (by omega)) ?_|((try (refine CallW.lent ?_; (conv=>whnf); repeat (refine yb ?_; (conv=>whnf)))); refine cL (fun _=>Wrapped_R _ _ (by omega)) ?_)); conv=>whnf)|(refine yt ?_; conv=>whnf)|exact ⟨_,.keep rfl rfl⟩|fail
 all_goals exact ⟨_,.keep (key (by unfold d_latheref01_right; first|(simp only [beqD,bneD,Bool.not_true,Bool.not_false,Bool.or_true,Bool.true_or,Bool.or_false,Bool.false_or,Bool.and_true,Bool.true_and,Bool.and_false,Bool.false_and,cond_true,cond_false, *]; done)|(simp_all [beqD,bneD]; done)|(simp only [Bool.cond_eq_ite,beq_iff_eq,bne_iff_ne,ne_eq,Bool.not_eq_true',Bool.and_eq_true,Bool.or_eq_true,decide_eq_true_eq]; (repeat' split) <;> first|rfl|(exfalso; omega)|contradiction|(simp_all; done)))) rfl⟩
open Pl (Vl)
theorem compared_R (op w a b : Int) (hw : 1 <= w /\ w <= 64) : ASpec Tryz.prog 163 [.i .i64 op,.i .i64 w,.i .u64 a,.i .u64 b] (.b (d_latheref01_compared op w a b)) [] := by
 refine ASpec.enter TYok mixed Tryz.func163 rfl Tryz.call163 Tryz.ntmps163 rfl (rs := [.tmp 8]) rfl (nodupB_ok rfl) (Clo.one rfl) (keep := [0,1,2,3,8,9,10,11,12,38]) ?_; conv=>whnf
 repeat' first|(refine iF (fun hb=>?_) (fun hb=>?_) <;> (try simp only [yv] at hb) <;> (have hc := hb; try simp only [sB,Int.reduceToNat] at hc; try simp only [addZ0] at hc) <;> first|(exfalso; omega)|conv=>whnf)|((first|refine ya ?_|refine yb ?_|refine yc ?_|refine yd ?_|refine yf ?_|refine yh ?_|refine yj ?_|refine dD ?_|refine dF ?_|refine d0 ?_|refine d1 ?_|refine dL ?_|refine dP ?_|refine yl ?_|refine ym ?_|refine ⟨_,fun _=>rfl,?_⟩); conv=>whnf)|((first|refine cK (fun _=>Plain_R _ _ (by omega)) ?_|((try (refine CallW.lent ?_; (conv=>whnf); repeat (refine yb ?_; (conv=>whnf)))); refine cL (fun _=>Plain_R _ _ (by omega)) ?_)); conv=>whnf)|((first|refine cK (fun _=>With_R _ _ hw) ?_|((try (refine CallW.lent ?_; (conv=>whnf); repeat (refine yb ?_; (conv=>whnf)))); refine cL (fun _=>With_R _ _ hw) ?_)); conv=>whnf)|((first|refine cK (fun _=>Plus_R _ _) ?_|((try (refine CallW.lent ?_; (conv=>whnf); repeat (refine yb ?_; (conv=>whnf)))); refine cL (fun _=>Plus_R _ _) ?_)); conv=>whnf)|((first|refine cK (fun _=>Minus_R _) ?_|((try (refine CallW.lent ?_; (conv=>whnf); repeat (refine yb ?_; (conv=>whnf)))); refine cL (fun _=>Minus_R _) ?_)); conv=>whnf)|(refine yt ?_; conv=>whnf)|exact ⟨_,.keep rfl rfl⟩|fail
 all_goals try rw [Bg_dec _ ⟨0,0,false⟩]
 all_goals exact ⟨_,.keep (congrArg AV.b (by unfold d_latheref01_compared; first|(simp only [beqD,bneD,Bool.not_true,Bool.not_false,Bool.or_true,Bool.true_or,Bool.or_false,Bool.false_or,Bool.and_true,Bool.true_and,Bool.and_false,Bool.false_and,cond_true,cond_false, *]; done)|(simp_all [beqD,bneD]; done)|(simp only [Bool.cond_eq_ite,beq_iff_eq,bne_iff_ne,ne_eq,Bool.not_eq_true',Bool.and_eq_true,Bool.or_eq_true,decide_eq_true_eq]; (repeat' split) <;> first|rfl|(exfalso; omega)|contradiction|(simp_all <;> omega)|(simp_all; done)))) rfl⟩
theorem Mask_R (w : Int) : ASpec Tryz.prog 118 [.i .i64 w] (.i .u64 (d_latheref01_Mask w)) [] := by
 refine ASpec.enter TYok mixed Tryz.func118 rfl Tryz.call118 Tryz.ntmps118 rfl (rs := [.tmp 2]) rfl (nodupB_ok rfl) (Clo.one rfl) (keep := [0,2,3]) ?_; conv=>whnf
 repeat' first|(refine iF (fun hb=>?_) (fun hb=>?_) <;> (try simp only [yv] at hb) <;> (have hc := hb; try simp only [sB,Int.reduceToNat] at hc; try simp only [addZ0] at hc) <;> first|(exfalso; omega)|conv=>whnf)|((first|refine ya ?_|refine yb ?_|refine yc ?_|refine yd ?_|refine yf ?_|refine yh ?_|refine yj ?_|refine dD ?_|refine dF ?_|refine d0 ?_|refine d1 ?_|refine dL ?_|refine dP ?_|refine yl ?_|refine ym ?_|refine ⟨_,fun _=>rfl,?_⟩); conv=>whnf)|((first|refine cK (fun _=>width_R _) ?_|((try (refine CallW.lent ?_; (conv=>whnf); repeat (refine yb ?_; (conv=>whnf)))); refine cL (fun _=>width_R _) ?_)); conv=>whnf)|(refine yt ?_; conv=>whnf)|exact ⟨_,.keep rfl rfl⟩|fail
 ·exact ⟨_,.keep (congrArg (AV.i .u64) (by unfold d_latheref01_Mask; simp_all)) rfl⟩
 ·have hw : 1 <= w /\ w <= 64 := by simpa [d_latheref01_width] using hb
  repeat' first|(refine iF (fun hb=>?_) (fun hb=>?_) <;> (try simp only [yv] at hb) <;> (have hc := hb; try simp only [sB,Int.reduceToNat] at hc; try simp only [addZ0] at hc) <;> first|(exfalso; omega)|conv=>whnf)|((first|refine ya ?_|refine yb ?_|refine yc ?_|refine yd ?_|refine yf ?_|refine yh ?_|refine yj ?_|refine dD ?_|refine dF ?_|refine d0 ?_|refine d1 ?_|refine dL ?_|refine dP ?_|refine yl ?_|refine ym ?_|refine ⟨_,fun _=>rfl,?_⟩); conv=>whnf)|((first|refine cK (fun _=>Cut_R _ _ (by omega)) ?_|((try (refine CallW.lent ?_; (conv=>whnf); repeat (refine yb ?_; (conv=>whnf)))); refine cL (fun _=>Cut_R _ _ (by omega)) ?_)); conv=>whnf)|(refine yt ?_; conv=>whnf)|exact ⟨_,.keep rfl rfl⟩|fail
  exact ⟨_,.keep (congrArg (AV.i .u64) (by unfold d_latheref01_Mask; simp_all)) rfl⟩
theorem Convert_R (op p q v : Int) : ASpec Tryz.prog 110 [.i .i64 op,.i .i64 p,.i .i64 q,.i .u64 v] (.tup [.i .u64 (d_latheref01_Convert op p q v).1,.b (d_latheref01_Convert op p q v).2]) [] := by
 have key : ∀ {x : Int} {y : Bool},d_latheref01_Convert op p q v = (x,y) -> AV.tup [.i .u64 x,.b y] = .tup [.i .u64 (d_latheref01_Convert op p q v).1,.b (d_latheref01_Convert op p q v).2] := fun h=>by rw [h]
 by_cases hw : (1 <= p /\ p <= 64) /\ (1 <= q /\ q <= 64)
 ·have h1 : d_latheref01_width p = true := by unfold d_latheref01_width; simp; omega
  have h2 : d_latheref01_width q = true := by unfold d_latheref01_width; simp; omega
  have hp := hw.1
  have hq := hw.2
  have w1 := width_R p
  have w2 := width_R q
  rw [h1] at w1
  rw [h2] at w2
  refine ASpec.enter TYok mixed Tryz.func110 rfl Tryz.call110 Tryz.ntmps110 rfl (rs := [.tmp 8,.tmp 9]) rfl (nodupB_ok rfl) (Clo.one rfl) (keep := [0,1,2,3,8,9,10]) ?_; conv=>whnf
  repeat' first|(refine iF (fun hb=>?_) (fun hb=>?_) <;> (try simp only [yv] at hb) <;> (have hc := hb; try simp only [sB,Int.reduceToNat] at hc; try simp only [addZ0] at hc) <;> first|(exfalso; omega)|conv=>whnf)|((first|refine ya ?_|refine yb ?_|refine yc ?_|refine yd ?_|refine yf ?_|refine yh ?_|refine yj ?_|refine dD ?_|refine dF ?_|refine d0 ?_|refine d1 ?_|refine dL ?_|refine dP ?_|refine yl ?_|refine ym ?_|refine ⟨_,fun _=>rfl,?_⟩); conv=>whnf)|((first|refine cK (fun _=>w1) ?_|((try (refine CallW.lent ?_; (conv=>whnf); repeat (refine yb ?_; (conv=>whnf)))); refine cL (fun _=>w1) ?_)); conv=>whnf)|((first|refine cK (fun _=>w2) ?_|((try (refine CallW.lent ?_; (conv=>whnf); repeat (refine yb ?_; (conv=>whnf)))); refine cL (fun _=>w2) ?_)); conv=>whnf)|((first|refine cK (fun _=>Cut_R p _ (by omega)) ?_|((try (refine CallW.lent ?_; (conv=>whnf); repeat (refine yb ?_; (conv=>whnf)))); refine cL (fun _=>Cut_R p _ (by omega)) ?_)); conv=>whnf)|((first|refine cK (fun _=>Cut_R q _ (by omega)) ?_|((try (refine CallW.lent ?_; (conv=>whnf); repeat (refine yb ?_; (conv=>whnf)))); refine cL (fun _=>Cut_R q _ (by omega)) ?_)); conv=>whnf)|((first|refine cK (fun _=>With_R p _ hp) ?_|((try (refine CallW.lent ?_; (conv=>whnf); repeat (refine yb ?_; (conv=>whnf)))); refine cL (fun _=>With_R p _ hp) ?_)); conv=>whnf)|((first|refine cK (fun _=>Wrapped_R q _ (by omega)) ?_|((try (refine CallW.lent ?_; (conv=>whnf); repeat (refine yb ?_; (conv=>whnf)))); refine cL (fun _=>Wrapped_R q _ (by omega)) ?_)); conv=>whnf)|(refine yt ?_; conv=>whnf)|exact ⟨_,.keep rfl rfl⟩|fail
  all_goals exact ⟨_,.keep (key (by unfold d_latheref01_Convert; first|(simp only [beqD,bneD,Bool.not_true,Bool.not_false,Bool.or_true,Bool.true_or,Bool.or_false,Bool.false_or,Bool.and_true,Bool.true_and,Bool.and_false,Bool.false_and,cond_true,cond_false, *]; done)|(simp_all [beqD,bneD]; done)|(simp only [Bool.cond_eq_ite,beq_iff_eq,bne_iff_ne,ne_eq,Bool.not_eq_true',Bool.and_eq_true,Bool.or_eq_true,decide_eq_true_eq]; (repeat' split) <;> first|rfl|(exfalso; omega)|contradiction|(simp_all <;> omega)|(simp_all; done)))) rfl⟩
 ·have h1 : (d_latheref01_width p && d_latheref01_width q) = false := by
   rw [<- Bool.not_eq_true]; unfold d_latheref01_width; simp only [Bool.and_eq_true,decide_eq_true_eq]; omega
  refine ASpec.enter TYok mixed Tryz.func110 rfl Tryz.call110 Tryz.ntmps110 rfl (rs := [.tmp 8,.tmp 9]) rfl (nodupB_ok rfl) (Clo.one rfl) (keep := [0,1,2,3,8,9,10]) ?_; conv=>whnf
  repeat' first|(refine iF (fun hb=>?_) (fun hb=>?_) <;> (try simp only [yv] at hb) <;> (have hc := hb; try simp only [sB,Int.reduceToNat] at hc; try simp only [addZ0] at hc) <;> first|(exfalso; omega)|conv=>whnf)|((first|refine ya ?_|refine yb ?_|refine yc ?_|refine yd ?_|refine yf ?_|refine yh ?_|refine yj ?_|refine dD ?_|refine dF ?_|refine d0 ?_|refine d1 ?_|refine dL ?_|refine dP ?_|refine yl ?_|refine ym ?_|refine ⟨_,fun _=>rfl,?_⟩); conv=>whnf)|((first|refine cK (fun _=>width_R _) ?_|((try (refine CallW.lent ?_; (conv=>whnf); repeat (refine yb ?_; (conv=>whnf)))); refine cL (fun _=>width_R _) ?_)); conv=>whnf)|(refine yt ?_; conv=>whnf)|exact ⟨_,.keep rfl rfl⟩|fail
  ·exact ⟨_,.keep (key (by unfold d_latheref01_Convert; rw [h1]; rfl)) rfl⟩
  all_goals exfalso; simp_all
theorem Apply_R (op w fl a b : Int) (hB : 0 <= b /\ b < 18446744073709551616) : ASpec Tryz.prog 150 [.i .i64 op,.i .i64 w,.i .i64 fl,.i .u64 a,.i .u64 b] (.tup [.i .u64 (d_latheref01_Apply op w fl a b).1,.i .i64 (d_latheref01_Apply op w fl a b).2]) [] := by
 have key : ∀ {x y : Int},d_latheref01_Apply op w fl a b = (x,y) -> AV.tup [.i .u64 x,.i .i64 y] = .tup [.i .u64 (d_latheref01_Apply op w fl a b).1,.i .i64 (d_latheref01_Apply op w fl a b).2] := fun h=>by rw [h]
 by_cases hw : 1 <= w /\ w <= 64
 ·have h1 : d_latheref01_width w = true := by unfold d_latheref01_width; simp; omega
  have w1 := width_R w
  rw [h1] at w1
  refine ASpec.enter TYok mixed Tryz.func150 rfl Tryz.call150 Tryz.ntmps150 rfl (rs := [.tmp 10,.tmp 11]) rfl (nodupB_ok rfl) (Clo.one rfl) (keep := [0,1,2,3,4,10,11,12,13,33]) ?_; conv=>whnf
  repeat' first|(refine iF (fun hb=>?_) (fun hb=>?_) <;> (try simp only [yv] at hb) <;> (have hc := hb; try simp only [sB,Int.reduceToNat] at hc; try simp only [addZ0] at hc) <;> first|(exfalso; omega)|conv=>whnf)|((first|refine ya ?_|refine yb ?_|refine yc ?_|refine yd ?_|refine yf ?_|refine yh ?_|refine yj ?_|refine dD ?_|refine dF ?_|refine d0 ?_|refine d1 ?_|refine dL ?_|refine dP ?_|refine yl ?_|refine ym ?_|refine ⟨_,fun _=>rfl,?_⟩); conv=>whnf)|((first|refine cK (fun _=>w1) ?_|((try (refine CallW.lent ?_; (conv=>whnf); repeat (refine yb ?_; (conv=>whnf)))); refine cL (fun _=>w1) ?_)); conv=>whnf)|((first|refine cK (fun _=>Flags_R _) ?_|((try (refine CallW.lent ?_; (conv=>whnf); repeat (refine yb ?_; (conv=>whnf)))); refine cL (fun _=>Flags_R _) ?_)); conv=>whnf)|((first|refine cK (fun _=>flagged_R _ _ _ _ _ hw hB) ?_|((try (refine CallW.lent ?_; (conv=>whnf); repeat (refine yb ?_; (conv=>whnf)))); refine cL (fun _=>flagged_R _ _ _ _ _ hw hB) ?_)); conv=>whnf)|((first|refine cK (fun _=>divided_R _ _ _ _ _ hw hB) ?_|((try (refine CallW.lent ?_; (conv=>whnf); repeat (refine yb ?_; (conv=>whnf)))); refine cL (fun _=>divided_R _ _ _ _ _ hw hB) ?_)); conv=>whnf)|((first|refine cK (fun _=>bitwise_R _ _ _ _ (by omega)) ?_|((try (refine CallW.lent ?_; (conv=>whnf); repeat (refine yb ?_; (conv=>whnf)))); refine cL (fun _=>bitwise_R _ _ _ _ (by omega)) ?_)); conv=>whnf)|((first|refine cK (fun _=>right_R _ _ _ _ _ hw hB) ?_|((try (refine CallW.lent ?_; (conv=>whnf); repeat (refine yb ?_; (conv=>whnf)))); refine cL (fun _=>right_R _ _ _ _ _ hw hB) ?_)); conv=>whnf)|((first|refine cK (fun _=>compared_R _ _ _ _ hw) ?_|((try (refine CallW.lent ?_; (conv=>whnf); repeat (refine yb ?_; (conv=>whnf)))); refine cL (fun _=>compared_R _ _ _ _ hw) ?_)); conv=>whnf)|(refine yt ?_; conv=>whnf)|exact ⟨_,.keep rfl rfl⟩|fail
  all_goals exact ⟨_,.keep (key (by unfold d_latheref01_Apply; first|(simp only [beqD,bneD,Bool.not_true,Bool.not_false,Bool.or_true,Bool.true_or,Bool.or_false,Bool.false_or,Bool.and_true,Bool.true_and,Bool.and_false,Bool.false_and,cond_true,cond_false, *]; done)|(simp_all [beqD,bneD]; done)|(simp only [Bool.cond_eq_ite,beq_iff_eq,bne_iff_ne,ne_eq,Bool.not_eq_true',Bool.and_eq_true,Bool.or_eq_true,decide_eq_true_eq]; (repeat' split) <;> first|rfl|(exfalso; omega)|contradiction|(simp_all <;> omega)|(simp_all; done)))) rfl⟩
 ·have h1 : d_latheref01_width w = false := by
   rw [<- Bool.not_eq_true]; unfold d_latheref01_width; simp only [Bool.and_eq_true,decide_eq_true_eq]; omega
  have w1 := width_R w
  rw [h1] at w1
  refine ASpec.enter TYok mixed Tryz.func150 rfl Tryz.call150 Tryz.ntmps150 rfl (rs := [.tmp 10,.tmp 11]) rfl (nodupB_ok rfl) (Clo.one rfl) (keep := [0,1,2,3,4,10,11,12,13,33]) ?_; conv=>whnf
  repeat' first|(refine iF (fun hb=>?_) (fun hb=>?_) <;> (try simp only [yv] at hb) <;> (have hc := hb; try simp only [sB,Int.reduceToNat] at hc; try simp only [addZ0] at hc) <;> first|(exfalso; omega)|conv=>whnf)|((first|refine ya ?_|refine yb ?_|refine yc ?_|refine yd ?_|refine yf ?_|refine yh ?_|refine yj ?_|refine dD ?_|refine dF ?_|refine d0 ?_|refine d1 ?_|refine dL ?_|refine dP ?_|refine yl ?_|refine ym ?_|refine ⟨_,fun _=>rfl,?_⟩); conv=>whnf)|((first|refine cK (fun _=>w1) ?_|((try (refine CallW.lent ?_; (conv=>whnf); repeat (refine yb ?_; (conv=>whnf)))); refine cL (fun _=>w1) ?_)); conv=>whnf)|((first|refine cK (fun _=>Flags_R _) ?_|((try (refine CallW.lent ?_; (conv=>whnf); repeat (refine yb ?_; (conv=>whnf)))); refine cL (fun _=>Flags_R _) ?_)); conv=>whnf)|(refine yt ?_; conv=>whnf)|exact ⟨_,.keep rfl rfl⟩|fail
  all_goals first|(exfalso; simp_all; done)|exact ⟨_,.keep (key (by unfold d_latheref01_Apply; rw [h1]; rfl)) rfl⟩
open Pl (Vl)
theorem Norm_R (t : Int) (v : Vl) : ASpec Tryz.prog 104 [.i .i64 t,eS v] (eS (d_latheref09_Norm t v)) [] := by
 have key : ∀ {k1 k2 k3 k4 : Int},d_latheref09_Norm t v = (⟨k1,k2,k3,k4⟩ : Vl) -> AV.agg [.i .i64 k1,.i .u64 k2,.i .i64 k3,.i .i64 k4] = eS (d_latheref09_Norm t v) := fun h=>by rw [h]; rfl
 refine ASpec.enter TYok mixed Tryz.func104 rfl Tryz.call104 Tryz.ntmps104 rfl (rs := [.cell 4 91]) rfl (nodupB_ok rfl) (Clo.one rfl) (keep := [0,1,3,4]) ?_; conv=>whnf
 repeat' first|(refine iF (fun hb=>?_) (fun hb=>?_) <;> (try simp only [yv] at hb) <;> (have hc := hb; try simp only [sB,Int.reduceToNat] at hc; try simp only [addZ0] at hc) <;> first|(exfalso; omega)|conv=>whnf)|((first|refine ya ?_|refine yb ?_|refine yc ?_|refine yd ?_|refine yf ?_|refine yh ?_|refine yj ?_|refine dD ?_|refine dF ?_|refine d0 ?_|refine d1 ?_|refine dL ?_|refine dP ?_|refine yl ?_|refine ym ?_|refine ⟨_,fun _=>rfl,?_⟩); conv=>whnf)|((first|refine cK (fun _=>Cut_R _ _ (by omega)) ?_|((try (refine CallW.lent ?_; (conv=>whnf); repeat (refine yb ?_; (conv=>whnf)))); refine cL (fun _=>Cut_R _ _ (by omega)) ?_)); conv=>whnf)|(refine yt ?_; conv=>whnf)|exact ⟨_,.keep rfl rfl⟩|fail
 all_goals exact ⟨_,.keep (key (by unfold d_latheref09_Norm; first|(simp only [beqD,bneD,Bool.not_true,Bool.not_false,Bool.or_true,Bool.true_or,Bool.or_false,Bool.false_or,Bool.and_true,Bool.true_and,Bool.and_false,Bool.false_and,cond_true,cond_false, *]; done)|(simp_all [beqD,bneD]; done)|(simp only [Bool.cond_eq_ite,beq_iff_eq,bne_iff_ne,ne_eq,Bool.not_eq_true',Bool.and_eq_true,Bool.or_eq_true,decide_eq_true_eq]; (repeat' split) <;> first|rfl|(exfalso; omega)|contradiction|(simp_all <;> omega)|(simp_all; done)))) rfl⟩
theorem such10_R (x : InsE) (k : Int) : ASpec Tryz.prog 103 [eS x,.i .i64 k] (.b (d_latheref10_such x k)) [] := by
 have key : ∀ {y : Bool},d_latheref10_such x k = y -> AV.b y = .b (d_latheref10_such x k) := fun h=>by rw [h]
 refine ASpec.enter TYok mixed Tryz.func103 rfl Tryz.call103 Tryz.ntmps103 rfl (rs := [.tmp 4]) rfl (nodupB_ok rfl) (Clo.one rfl) (keep := [0,1,2,4,5,7,18]) ?_; conv=>whnf
 repeat' first|(refine iF (fun hb=>?_) (fun hb=>?_) <;> (try simp only [yv] at hb) <;> (have hc := hb; try simp only [sB,Int.reduceToNat] at hc; try simp only [addZ0] at hc) <;> first|(exfalso; omega)|conv=>whnf)|((first|refine ya ?_|refine yb ?_|refine yc ?_|refine yd ?_|refine yf ?_|refine yh ?_|refine yj ?_|refine dD ?_|refine dF ?_|refine d0 ?_|refine d1 ?_|refine dL ?_|refine dP ?_|refine yl ?_|refine ym ?_|refine ⟨_,fun _=>rfl,?_⟩); conv=>whnf)|((first|refine cK (fun _=>Flags_R _) ?_|((try (refine CallW.lent ?_; (conv=>whnf); repeat (refine yb ?_; (conv=>whnf)))); refine cL (fun _=>Flags_R _) ?_)); conv=>whnf)|((first|refine cK (fun _=>Convert_R _ _ _ _) ?_|((try (refine CallW.lent ?_; (conv=>whnf); repeat (refine yb ?_; (conv=>whnf)))); refine cL (fun _=>Convert_R _ _ _ _) ?_)); conv=>whnf)|(refine yt ?_; conv=>whnf)|exact ⟨_,.keep rfl rfl⟩|fail
 all_goals exact ⟨_,.keep (key (by unfold d_latheref10_such; first|(simp only [beqD,bneD,Bool.not_true,Bool.not_false,Bool.or_true,Bool.true_or,Bool.or_false,Bool.false_or,Bool.and_true,Bool.true_and,Bool.and_false,Bool.false_and,cond_true,cond_false, *]; done)|(simp_all [beqD,bneD]; done)|(simp only [Bool.cond_eq_ite,beq_iff_eq,bne_iff_ne,ne_eq,Bool.not_eq_true',Bool.and_eq_true,Bool.or_eq_true,decide_eq_true_eq]; (repeat' split) <;> first|rfl|(exfalso; omega)|contradiction|(simp_all <;> omega)|(simp_all; done)))) rfl⟩
theorem kind10_R (x : InsE) (k : Int) : ASpec Tryz.prog 105 [eS x,.i .i64 k] (.i .i64 (d_latheref10_kind x k)) [] := by
 have key : ∀ {y : Int},d_latheref10_kind x k = y -> AV.i .i64 y = .i .i64 (d_latheref10_kind x k) := fun h=>by rw [h]
 refine ASpec.enter TYok mixed Tryz.func105 rfl Tryz.call105 Tryz.ntmps105 rfl (rs := [.tmp 4]) rfl (nodupB_ok rfl) (Clo.one rfl) (keep := [0,1,2,4,6]) ?_; conv=>whnf
 repeat' first|(refine iF (fun hb=>?_) (fun hb=>?_) <;> (try simp only [yv] at hb) <;> (have hc := hb; try simp only [sB,Int.reduceToNat] at hc; try simp only [addZ0] at hc) <;> first|(exfalso; omega)|conv=>whnf)|((first|refine ya ?_|refine yb ?_|refine yc ?_|refine yd ?_|refine yf ?_|refine yh ?_|refine yj ?_|refine dD ?_|refine dF ?_|refine d0 ?_|refine d1 ?_|refine dL ?_|refine dP ?_|refine yl ?_|refine ym ?_|refine ⟨_,fun _=>rfl,?_⟩); conv=>whnf)|(refine yt ?_; conv=>whnf)|exact ⟨_,.keep rfl rfl⟩|fail
 all_goals exact ⟨_,.keep (key (by unfold d_latheref10_kind; first|(simp only [beqD,bneD,Bool.not_true,Bool.not_false,Bool.or_true,Bool.true_or,Bool.or_false,Bool.false_or,Bool.and_true,Bool.true_and,Bool.and_false,Bool.false_and,cond_true,cond_false, *]; done)|(simp_all [beqD,bneD]; done)|(simp only [Bool.cond_eq_ite,beq_iff_eq,bne_iff_ne,ne_eq,Bool.not_eq_true',Bool.and_eq_true,Bool.or_eq_true,decide_eq_true_eq]; (repeat' split) <;> first|rfl|(exfalso; omega)|contradiction|(simp_all <;> omega)|(simp_all; done)))) rfl⟩
theorem number10_R (z : Int) : ASpec Tryz.prog 111 [.i .u64 z] (eS (d_latheref10_number z)) [] := by
 have key : ∀ {k1 k2 k3 k4 : Int},d_latheref10_number z = (⟨k1,k2,k3,k4⟩ : Vl) -> AV.agg [.i .i64 k1,.i .u64 k2,.i .i64 k3,.i .i64 k4] = eS (d_latheref10_number z) := fun h=>by rw [h]; rfl
 refine ASpec.enter TYok mixed Tryz.func111 rfl Tryz.call111 Tryz.ntmps111 rfl (rs := [.cell 2 91]) rfl (nodupB_ok rfl) (Clo.one rfl) (keep := [0,2]) ?_; conv=>whnf
 repeat' first|(refine iF (fun hb=>?_) (fun hb=>?_) <;> (try simp only [yv] at hb) <;> (have hc := hb; try simp only [sB,Int.reduceToNat] at hc; try simp only [addZ0] at hc) <;> first|(exfalso; omega)|conv=>whnf)|((first|refine ya ?_|refine yb ?_|refine yc ?_|refine yd ?_|refine yf ?_|refine yh ?_|refine yj ?_|refine dD ?_|refine dF ?_|refine d0 ?_|refine d1 ?_|refine dL ?_|refine dP ?_|refine yl ?_|refine ym ?_|refine ⟨_,fun _=>rfl,?_⟩); conv=>whnf)|(refine yt ?_; conv=>whnf)|exact ⟨_,.keep rfl rfl⟩|fail
 all_goals skip
theorem truth10_R (t : Bool) : ASpec Tryz.prog 138 [.b t] (eS (d_latheref10_truth t)) [] := by
 have key : ∀ {k1 k2 k3 k4 : Int},d_latheref10_truth t = (⟨k1,k2,k3,k4⟩ : Vl) -> AV.agg [.i .i64 k1,.i .u64 k2,.i .i64 k3,.i .i64 k4] = eS (d_latheref10_truth t) := fun h=>by rw [h]; rfl
 refine ASpec.enter TYok mixed Tryz.func138 rfl Tryz.call138 Tryz.ntmps138 rfl (rs := [.cell 2 91]) rfl (nodupB_ok rfl) (Clo.one rfl) (keep := [0,2]) ?_; conv=>whnf
 repeat' first|(refine iF (fun hb=>?_) (fun hb=>?_) <;> (try simp only [yv] at hb) <;> (have hc := hb; try simp only [sB,Int.reduceToNat] at hc; try simp only [addZ0] at hc) <;> first|(exfalso; omega)|conv=>whnf)|((first|refine ya ?_|refine yb ?_|refine yc ?_|refine yd ?_|refine yf ?_|refine yh ?_|refine yj ?_|refine dD ?_|refine dF ?_|refine d0 ?_|refine d1 ?_|refine dL ?_|refine dP ?_|refine yl ?_|refine ym ?_|refine ⟨_,fun _=>rfl,?_⟩); conv=>whnf)|((first|refine cK (fun _=>number10_R _) ?_|((try (refine CallW.lent ?_; (conv=>whnf); repeat (refine yb ?_; (conv=>whnf)))); refine cL (fun _=>number10_R _) ?_)); conv=>whnf)|(refine yt ?_; conv=>whnf)|exact ⟨_,.keep rfl rfl⟩|fail
 all_goals exact ⟨_,.keep (key (by unfold d_latheref10_truth; first|(simp only [beqD,bneD,Bool.not_true,Bool.not_false,Bool.or_true,Bool.true_or,Bool.or_false,Bool.false_or,Bool.and_true,Bool.true_and,Bool.and_false,Bool.false_and,cond_true,cond_false, *]; done)|(simp_all [beqD,bneD]; done)|(simp only [Bool.cond_eq_ite,beq_iff_eq,bne_iff_ne,ne_eq,Bool.not_eq_true',Bool.and_eq_true,Bool.or_eq_true,decide_eq_true_eq]; (repeat' split) <;> first|rfl|(exfalso; omega)|contradiction|(simp_all <;> omega)|(simp_all; done)))) rfl⟩
theorem Any_R : ASpec Tryz.prog 109 [] (eS d_latheref10_Any) [] := by
 refine ASpec.enter TYok mixed Tryz.func109 rfl Tryz.call109 Tryz.ntmps109 rfl (rs := [.cell 0 91]) rfl (nodupB_ok rfl) (Clo.one rfl) (keep := [0]) ?_; conv=>whnf
 repeat' first|(refine iF (fun hb=>?_) (fun hb=>?_) <;> (try simp only [yv] at hb) <;> (have hc := hb; try simp only [sB,Int.reduceToNat] at hc; try simp only [addZ0] at hc) <;> first|(exfalso; omega)|conv=>whnf)|((first|refine ya ?_|refine yb ?_|refine yc ?_|refine yd ?_|refine yf ?_|refine yh ?_|refine yj ?_|refine dD ?_|refine dF ?_|refine d0 ?_|refine d1 ?_|refine dL ?_|refine dP ?_|refine yl ?_|refine ym ?_|refine ⟨_,fun _=>rfl,?_⟩); conv=>whnf)|(refine yt ?_; conv=>whnf)|exact ⟨_,.keep rfl rfl⟩|fail
theorem applied10_R (x : InsE) (a b : Int) (hB : 0 <= b /\ b < 18446744073709551616) : ASpec Tryz.prog 134 [eS x,.i .u64 a,.i .u64 b] (.tup [eS (d_latheref10_applied x a b).1,.i .i64 (d_latheref10_applied x a b).2]) [] := by
 have key : ∀ {k1 k2 k3 k4 y : Int},d_latheref10_applied x a b = ((⟨k1,k2,k3,k4⟩ : Vl),y) -> AV.tup [AV.agg [.i .i64 k1,.i .u64 k2,.i .i64 k3,.i .i64 k4],.i .i64 y] = .tup [eS (d_latheref10_applied x a b).1,.i .i64 (d_latheref10_applied x a b).2] := fun h=>by rw [h]; rfl
 refine ASpec.enter TYok mixed Tryz.func134 rfl Tryz.call134 Tryz.ntmps134 rfl (rs := [.cell 6 91,.tmp 7]) rfl (nodupB_ok rfl) (Clo.one rfl) (keep := [0,1,2,3,6,7,8,9]) ?_; conv=>whnf
 repeat' first|(refine iF (fun hb=>?_) (fun hb=>?_) <;> (try simp only [yv] at hb) <;> (have hc := hb; try simp only [sB,Int.reduceToNat] at hc; try simp only [addZ0] at hc) <;> first|(exfalso; omega)|conv=>whnf)|((first|refine ya ?_|refine yb ?_|refine yc ?_|refine yd ?_|refine yf ?_|refine yh ?_|refine yj ?_|refine dD ?_|refine dF ?_|refine d0 ?_|refine d1 ?_|refine dL ?_|refine dP ?_|refine yl ?_|refine ym ?_|refine ⟨_,fun _=>rfl,?_⟩); conv=>whnf)|((first|refine cK (fun _=>Apply_R _ _ _ _ _ hB) ?_|((try (refine CallW.lent ?_; (conv=>whnf); repeat (refine yb ?_; (conv=>whnf)))); refine cL (fun _=>Apply_R _ _ _ _ _ hB) ?_)); conv=>whnf)|((first|refine cK (fun _=>number10_R _) ?_|((try (refine CallW.lent ?_; (conv=>whnf); repeat (refine yb ?_; (conv=>whnf)))); refine cL (fun _=>number10_R _) ?_)); conv=>whnf)|(refine yt ?_; conv=>whnf)|exact ⟨_,.keep rfl rfl⟩|fail
 all_goals exact ⟨_,.keep (key (by unfold d_latheref10_applied; first|(simp only [beqD,bneD,Bool.not_true,Bool.not_false,Bool.or_true,Bool.true_or,Bool.or_false,Bool.false_or,Bool.and_true,Bool.true_and,Bool.and_false,Bool.false_and,cond_true,cond_false, *]; done)|(simp_all [beqD,bneD]; done)|(simp only [Bool.cond_eq_ite,beq_iff_eq,bne_iff_ne,ne_eq,Bool.not_eq_true',Bool.and_eq_true,Bool.or_eq_true,decide_eq_true_eq]; (repeat' split) <;> first|rfl|(exfalso; omega)|contradiction|(simp_all <;> omega)|(simp_all; done)))) rfl⟩
theorem divided10_R (x : InsE) (a b : Vl) (hB : 0 <= b.b /\ b.b < 18446744073709551616) : ASpec Tryz.prog 106 [eS x,eS a,eS b] (.tup [eS (d_latheref10_divided x a b).1,.i .i64 (d_latheref10_divided x a b).2]) [] := by
 have key : ∀ {k1 k2 k3 k4 y : Int},d_latheref10_divided x a b = ((⟨k1,k2,k3,k4⟩ : Vl),y) -> AV.tup [AV.agg [.i .i64 k1,.i .u64 k2,.i .i64 k3,.i .i64 k4],.i .i64 y] = .tup [eS (d_latheref10_divided x a b).1,.i .i64 (d_latheref10_divided x a b).2] := fun h=>by rw [h]; rfl
 refine ASpec.enter TYok mixed Tryz.func106 rfl Tryz.call106 Tryz.ntmps106 rfl (rs := [.cell 6 91,.tmp 7]) rfl (nodupB_ok rfl) (Clo.one rfl) (keep := [0,1,2,3,4,5,6,7,8,9]) ?_; conv=>whnf
 repeat' first|(refine iF (fun hb=>?_) (fun hb=>?_) <;> (try simp only [yv] at hb) <;> (have hc := hb; try simp only [sB,Int.reduceToNat] at hc; try simp only [addZ0] at hc) <;> first|(exfalso; omega)|conv=>whnf)|((first|refine ya ?_|refine yb ?_|refine yc ?_|refine yd ?_|refine yf ?_|refine yh ?_|refine yj ?_|refine dD ?_|refine dF ?_|refine d0 ?_|refine d1 ?_|refine dL ?_|refine dP ?_|refine yl ?_|refine ym ?_|refine ⟨_,fun _=>rfl,?_⟩); conv=>whnf)|((first|refine cK (fun _=>Mask_R _) ?_|((try (refine CallW.lent ?_; (conv=>whnf); repeat (refine yb ?_; (conv=>whnf)))); refine cL (fun _=>Mask_R _) ?_)); conv=>whnf)|((first|refine cK (fun _=>Any_R) ?_|((try (refine CallW.lent ?_; (conv=>whnf); repeat (refine yb ?_; (conv=>whnf)))); refine cL (fun _=>Any_R) ?_)); conv=>whnf)|((first|refine cK (fun _=>applied10_R _ _ _ hB) ?_|((try (refine CallW.lent ?_; (conv=>whnf); repeat (refine yb ?_; (conv=>whnf)))); refine cL (fun _=>applied10_R _ _ _ hB) ?_)); conv=>whnf)|(refine yt ?_; conv=>whnf)|exact ⟨_,.keep rfl rfl⟩|fail
 all_goals exact ⟨_,.keep (key (by unfold d_latheref10_divided; first|(simp only [beqD,bneD,Bool.not_true,Bool.not_false,Bool.or_true,Bool.true_or,Bool.or_false,Bool.false_or,Bool.and_true,Bool.true_and,Bool.and_false,Bool.false_and,cond_true,cond_false, *]; done)|(simp_all [beqD,bneD]; done)|(simp only [Bool.cond_eq_ite,beq_iff_eq,bne_iff_ne,ne_eq,Bool.not_eq_true',Bool.and_eq_true,Bool.or_eq_true,decide_eq_true_eq]; (repeat' split) <;> first|rfl|(exfalso; omega)|contradiction|(simp_all <;> omega)|(simp_all; done)))) rfl⟩
theorem shifted10_R (x : InsE) (a b : Vl) (hB : 0 <= b.b /\ b.b < 18446744073709551616) : ASpec Tryz.prog 107 [eS x,eS a,eS b] (.tup [eS (d_latheref10_shifted x a b).1,.i .i64 (d_latheref10_shifted x a b).2]) [] := by
 have key : ∀ {k1 k2 k3 k4 y : Int},d_latheref10_shifted x a b = ((⟨k1,k2,k3,k4⟩ : Vl),y) -> AV.tup [AV.agg [.i .i64 k1,.i .u64 k2,.i .i64 k3,.i .i64 k4],.i .i64 y] = .tup [eS (d_latheref10_shifted x a b).1,.i .i64 (d_latheref10_shifted x a b).2] := fun h=>by rw [h]; rfl
 refine ASpec.enter TYok mixed Tryz.func107 rfl Tryz.call107 Tryz.ntmps107 rfl (rs := [.cell 6 91,.tmp 7]) rfl (nodupB_ok rfl) (Clo.one rfl) (keep := [0,1,2,3,4,5,6,7]) ?_; conv=>whnf
 repeat' first|(refine iF (fun hb=>?_) (fun hb=>?_) <;> (try simp only [yv] at hb) <;> (have hc := hb; try simp only [sB,Int.reduceToNat] at hc; try simp only [addZ0] at hc) <;> first|(exfalso; omega)|conv=>whnf)|((first|refine ya ?_|refine yb ?_|refine yc ?_|refine yd ?_|refine yf ?_|refine yh ?_|refine yj ?_|refine dD ?_|refine dF ?_|refine d0 ?_|refine d1 ?_|refine dL ?_|refine dP ?_|refine yl ?_|refine ym ?_|refine ⟨_,fun _=>rfl,?_⟩); conv=>whnf)|((first|refine cK (fun _=>Any_R) ?_|((try (refine CallW.lent ?_; (conv=>whnf); repeat (refine yb ?_; (conv=>whnf)))); refine cL (fun _=>Any_R) ?_)); conv=>whnf)|((first|refine cK (fun _=>applied10_R _ _ _ hB) ?_|((try (refine CallW.lent ?_; (conv=>whnf); repeat (refine yb ?_; (conv=>whnf)))); refine cL (fun _=>applied10_R _ _ _ hB) ?_)); conv=>whnf)|(refine yt ?_; conv=>whnf)|exact ⟨_,.keep rfl rfl⟩|fail
 all_goals exact ⟨_,.keep (key (by unfold d_latheref10_shifted; first|(simp only [beqD,bneD,Bool.not_true,Bool.not_false,Bool.or_true,Bool.true_or,Bool.or_false,Bool.false_or,Bool.and_true,Bool.true_and,Bool.and_false,Bool.false_and,cond_true,cond_false, *]; done)|(simp_all [beqD,bneD]; done)|(simp only [Bool.cond_eq_ite,beq_iff_eq,bne_iff_ne,ne_eq,Bool.not_eq_true',Bool.and_eq_true,Bool.or_eq_true,decide_eq_true_eq]; (repeat' split) <;> first|rfl|(exfalso; omega)|contradiction|(simp_all <;> omega)|(simp_all; done)))) rfl⟩
theorem Vl_iff (b c : Vl) : (b = c) = (b.k = c.k /\ b.b = c.b /\ b.bl = c.bl /\ b.off = c.off) := by
 obtain ⟨a1,a2,a3,a4⟩ := b
 obtain ⟨b1,b2,b3,b4⟩ := c
 exact propext ⟨fun h=>by cases h; exact ⟨rfl,rfl,rfl,rfl⟩,fun ⟨h1,h2,h3,h4⟩=>by simp only at h1 h2 h3 h4; subst h1 h2 h3 h4; rfl⟩
theorem chosen10_R (a b c : Vl) : ASpec Tryz.prog 108 [eS a,eS b,eS c] (eS (d_latheref10_chosen a b c)) [] := by
 have key : ∀ {k1 k2 k3 k4 : Int},d_latheref10_chosen a b c = (⟨k1,k2,k3,k4⟩ : Vl) -> AV.agg [.i .i64 k1,.i .u64 k2,.i .i64 k3,.i .i64 k4] = eS (d_latheref10_chosen a b c) := fun h=>by rw [h]; rfl
 refine ASpec.enter TYok mixed Tryz.func108 rfl Tryz.call108 Tryz.ntmps108 rfl (rs := [.cell 6 91]) rfl (nodupB_ok rfl) (Clo.one rfl) (keep := [0,1,2,3,4,5,6]) ?_; conv=>whnf
 repeat' first|(refine iF (fun hb=>?_) (fun hb=>?_) <;> (try simp only [yv] at hb) <;> (have hc := hb; try simp only [sB,Int.reduceToNat] at hc; try simp only [addZ0] at hc) <;> first|(exfalso; omega)|conv=>whnf)|((first|refine ya ?_|refine yb ?_|refine yc ?_|refine yd ?_|refine yf ?_|refine yh ?_|refine yj ?_|refine dD ?_|refine dF ?_|refine d0 ?_|refine d1 ?_|refine dL ?_|refine dP ?_|refine yl ?_|refine ym ?_|refine ⟨_,fun _=>rfl,?_⟩); conv=>whnf)|((first|refine cK (fun _=>Any_R) ?_|((try (refine CallW.lent ?_; (conv=>whnf); repeat (refine yb ?_; (conv=>whnf)))); refine cL (fun _=>Any_R) ?_)); conv=>whnf)|(refine yt ?_; conv=>whnf)|exact ⟨_,.keep rfl rfl⟩|fail
 all_goals exact ⟨_,.keep (key (by unfold d_latheref10_chosen; rw [show (decide (b = c)) = (decide (b.k = c.k /\ b.b = c.b /\ b.bl = c.bl /\ b.off = c.off)) by simp only [Vl_iff b c]]; first|(simp only [beqD,bneD,Bool.not_true,Bool.not_false,Bool.or_true,Bool.true_or,Bool.or_false,Bool.false_or,Bool.and_true,Bool.true_and,Bool.and_false,Bool.false_and,cond_true,cond_false, *]; done)|(simp_all [beqD,bneD]; done)|(simp only [Bool.cond_eq_ite,beq_iff_eq,bne_iff_ne,ne_eq,Bool.not_eq_true',Bool.and_eq_true,Bool.or_eq_true,decide_eq_true_eq]; (repeat' split) <;> first|rfl|(exfalso; omega)|contradiction|(simp_all <;> omega)|(simp_all; done)))) rfl⟩
theorem pair10_R (x : InsE) (a b : Vl) (hB : 0 <= b.b /\ b.b < 18446744073709551616) : ASpec Tryz.prog 112 [eS x,eS a,eS b] (.tup [eS (d_latheref10_pair x a b).1,.i .i64 (d_latheref10_pair x a b).2]) [] := by
 have key : ∀ {k1 k2 k3 k4 y : Int},d_latheref10_pair x a b = ((⟨k1,k2,k3,k4⟩ : Vl),y) -> AV.tup [AV.agg [.i .i64 k1,.i .u64 k2,.i .i64 k3,.i .i64 k4],.i .i64 y] = .tup [eS (d_latheref10_pair x a b).1,.i .i64 (d_latheref10_pair x a b).2] := fun h=>by rw [h]; rfl
 refine ASpec.enter TYok mixed Tryz.func112 rfl Tryz.call112 Tryz.ntmps112 rfl (rs := [.cell 6 91,.tmp 7]) rfl (nodupB_ok rfl) (Clo.one rfl) (keep := [0,1,2,3,4,5,6,7,8]) ?_; conv=>whnf
 repeat' first|(refine iF (fun hb=>?_) (fun hb=>?_) <;> (try simp only [yv] at hb) <;> (have hc := hb; try simp only [sB,Int.reduceToNat] at hc; try simp only [addZ0] at hc) <;> first|(exfalso; omega)|conv=>whnf)|((first|refine ya ?_|refine yb ?_|refine yc ?_|refine yd ?_|refine yf ?_|refine yh ?_|refine yj ?_|refine dD ?_|refine dF ?_|refine d0 ?_|refine d1 ?_|refine dL ?_|refine dP ?_|refine yl ?_|refine ym ?_|refine ⟨_,fun _=>rfl,?_⟩); conv=>whnf)|((first|refine cK (fun _=>Any_R) ?_|((try (refine CallW.lent ?_; (conv=>whnf); repeat (refine yb ?_; (conv=>whnf)))); refine cL (fun _=>Any_R) ?_)); conv=>whnf)|((first|refine cK (fun _=>applied10_R _ _ _ hB) ?_|((try (refine CallW.lent ?_; (conv=>whnf); repeat (refine yb ?_; (conv=>whnf)))); refine cL (fun _=>applied10_R _ _ _ hB) ?_)); conv=>whnf)|((first|refine cK (fun _=>truth10_R _) ?_|((try (refine CallW.lent ?_; (conv=>whnf); repeat (refine yb ?_; (conv=>whnf)))); refine cL (fun _=>truth10_R _) ?_)); conv=>whnf)|(refine yt ?_; conv=>whnf)|exact ⟨_,.keep rfl rfl⟩|fail
 all_goals exact ⟨_,.keep (key (by unfold d_latheref10_pair; first|(simp only [beqD,bneD,Bool.not_true,Bool.not_false,Bool.or_true,Bool.true_or,Bool.or_false,Bool.false_or,Bool.and_true,Bool.true_and,Bool.and_false,Bool.false_and,cond_true,cond_false, *]; done)|(simp_all [beqD,bneD]; done)|(simp only [Bool.cond_eq_ite,beq_iff_eq,bne_iff_ne,ne_eq,Bool.not_eq_true',Bool.and_eq_true,Bool.or_eq_true,decide_eq_true_eq]; (repeat' split) <;> first|rfl|(exfalso; omega)|contradiction|(simp_all <;> omega)|(simp_all; done)))) rfl⟩
open Pl (Vl)
def evR (p0 : InsE) (l7e : List Vl) : Vl × Int := bif (p0.op == 4) then
     (((d_latheref10_divided p0 (l7e.getD (Int.toNat 0) Vl.zero) (l7e.getD (Int.toNat 1) Vl.zero)).1), (d_latheref10_divided p0 (l7e.getD (Int.toNat 0) Vl.zero) (l7e.getD (Int.toNat 1) Vl.zero)).2)
    else bif (p0.op == 5) then
      (((d_latheref10_divided p0 (l7e.getD (Int.toNat 0) Vl.zero) (l7e.getD (Int.toNat 1) Vl.zero)).1), (d_latheref10_divided p0 (l7e.getD (Int.toNat 0) Vl.zero) (l7e.getD (Int.toNat 1) Vl.zero)).2)
     else bif (p0.op == 6) then
       (((d_latheref10_divided p0 (l7e.getD (Int.toNat 0) Vl.zero) (l7e.getD (Int.toNat 1) Vl.zero)).1), (d_latheref10_divided p0 (l7e.getD (Int.toNat 0) Vl.zero) (l7e.getD (Int.toNat 1) Vl.zero)).2)
      else bif (p0.op == 7) then
        (((d_latheref10_divided p0 (l7e.getD (Int.toNat 0) Vl.zero) (l7e.getD (Int.toNat 1) Vl.zero)).1), (d_latheref10_divided p0 (l7e.getD (Int.toNat 0) Vl.zero) (l7e.getD (Int.toNat 1) Vl.zero)).2)
       else bif (p0.op == 11) then
         (((d_latheref10_shifted p0 (l7e.getD (Int.toNat 0) Vl.zero) (l7e.getD (Int.toNat 1) Vl.zero)).1), (d_latheref10_shifted p0 (l7e.getD (Int.toNat 0) Vl.zero) (l7e.getD (Int.toNat 1) Vl.zero)).2)
        else bif (p0.op == 12) then
          (((d_latheref10_shifted p0 (l7e.getD (Int.toNat 0) Vl.zero) (l7e.getD (Int.toNat 1) Vl.zero)).1), (d_latheref10_shifted p0 (l7e.getD (Int.toNat 0) Vl.zero) (l7e.getD (Int.toNat 1) Vl.zero)).2)
         else bif (p0.op == 13) then
           (((d_latheref10_shifted p0 (l7e.getD (Int.toNat 0) Vl.zero) (l7e.getD (Int.toNat 1) Vl.zero)).1), (d_latheref10_shifted p0 (l7e.getD (Int.toNat 0) Vl.zero) (l7e.getD (Int.toNat 1) Vl.zero)).2)
          else bif (p0.op == 23) then
            ((d_latheref10_chosen (l7e.getD (Int.toNat 0) Vl.zero) (l7e.getD (Int.toNat 1) Vl.zero) (l7e.getD (Int.toNat 2) Vl.zero)), 0)
           else bif (p0.op == 24) then
             bif ((l7e.getD (Int.toNat 0) Vl.zero).k == 0) then
              (d_latheref10_Any, 0)
             else ((l7e.getD (Int.toNat 0) Vl.zero), 0)
            else bif (p0.op == 20) then
              bif ((l7e.getD (Int.toNat 0) Vl.zero).k != 1) then
               ((l7e.getD (Int.toNat 0) Vl.zero), 0)
              else ((d_latheref10_number ((d_latheref01_Convert p0.op p0.n p0.t ((l7e.getD (Int.toNat 0) Vl.zero).b)).1)), 0)
             else bif (p0.op == 21) then
               bif ((l7e.getD (Int.toNat 0) Vl.zero).k != 1) then
                ((l7e.getD (Int.toNat 0) Vl.zero), 0)
               else ((d_latheref10_number ((d_latheref01_Convert p0.op p0.n p0.t ((l7e.getD (Int.toNat 0) Vl.zero).b)).1)), 0)
              else bif (p0.op == 22) then
                bif ((l7e.getD (Int.toNat 0) Vl.zero).k != 1) then
                 ((l7e.getD (Int.toNat 0) Vl.zero), 0)
                else ((d_latheref10_number ((d_latheref01_Convert p0.op p0.n p0.t ((l7e.getD (Int.toNat 0) Vl.zero).b)).1)), 0)
               else (((d_latheref10_pair p0 (l7e.getD (Int.toNat 0) Vl.zero) (l7e.getD (Int.toNat 1) Vl.zero)).1), (d_latheref10_pair p0 (l7e.getD (Int.toNat 0) Vl.zero) (l7e.getD (Int.toNat 1) Vl.zero)).2)
theorem R6_zero (x : InsE) (l : LV) (ls : List Vl) (q : Int) (k : Nat) (h : ¬q < l.l.length) : d_latheref10_Eval_R6 x l (k + 1) ls q = (ls,q) := by
 show (bif decide (q < (l.l.length : Int)) then _ else (ls,q)) = _
 rw [decide_eq_false h,cond_false]
theorem R6_succ (x : InsE) (l : LV) (ls : List Vl) (q : Int) (k : Nat) (h : q < l.l.length) : d_latheref10_Eval_R6 x l (k + 1) ls q = d_latheref10_Eval_R6 x l k (ls ++ [d_latheref09_Norm (d_latheref10_kind x q) (l.l.getD q.toNat Vl.zero)]) (q + 1) := by
 show (bif decide (q < (l.l.length : Int)) then _ else (ls,q)) = _
 rw [decide_eq_true h,cond_true]
theorem EvalR_of (x : InsE) (l ls : List Vl) (q : Nat) (h : ¬(q : Int) < l.length) (hq : q <= l.length) (hv : d_latheref10_Eval_R6 x ⟨l⟩ (l.length + 1 - q) ls q = d_latheref10_Eval_R6 x ⟨l⟩ ((l.length - 0 : Int).toNat + 1) [] 0) (hs : d_latheref10_such x l.length = true) : d_latheref10_Eval x ⟨l⟩ = evR x ls := by
 have h1 := R6_zero x ⟨l⟩ ls q (l.length - q) h
 rw [show l.length + 1 - q = l.length - q + 1 by omega] at hv
 unfold d_latheref10_Eval
 rw [show d_latheref10_such x (((⟨l⟩ : LV).l.length : Nat) : Int) = true from hs,Bool.not_true,cond_false]
 exact Pl.letV_eq (hv.symm.trans h1)
theorem Eval_R (x : InsE) (l : List Vl) (hl : l.length < 4294967296) (hr : ∀ i,0 <= (l.getD i Enc.d).b /\ (l.getD i Enc.d).b < 18446744073709551616) (hf : inI x.f) : ASpec Tryz.prog 65 [eS x,eL l] (.tup [eS (Pl.eval x.op x.t x.n x.f l).1,.i .i64 (Pl.eval x.op x.t x.n x.f l).2]) [] := by
 have hr2 : ∀ z ∈ l,0 <= z.b /\ z.b < 18446744073709551616 := fun z hz=>by
  obtain ⟨i,hi,rfl⟩ := List.getElem_of_mem hz
  have := hr i
  rwa [List.getD_eq_getElem?_getD,List.getElem?_eq_getElem hi] at this
 have hf2 : -9223372036854775808 <= x.f /\ x.f <= 9223372036854775807 := by unfold inI at hf; omega
 rw [<- Pl.evalref_eq x ⟨l⟩ hf2 hr2]
 obtain ⟨r,hrr⟩ : ∃ r,r = d_latheref10_Eval x ⟨l⟩ := ⟨_,rfl⟩
 rw [<- hrr]
 have key : ∀ {k1 k2 k3 k4 y : Int},r = ((⟨k1,k2,k3,k4⟩ : Vl),y) -> AV.tup [AV.agg [.i .i64 k1,.i .u64 k2,.i .i64 k3,.i .i64 k4],.i .i64 y] = .tup [eS r.1,.i .i64 r.2] := fun h=>by rw [h]; rfl
 refine ASpec.enter TYok mixed Tryz.func65 rfl Tryz.call65 Tryz.ntmps65 rfl (rs := [.cell 4 91,.tmp 5]) rfl (nodupB_ok rfl) (Clo.one rfl) (keep := [0,1,2,4,5,6,7,8,9,36]) ?_; conv=>whnf
 repeat' first|(refine iF (fun hb=>?_) (fun hb=>?_) <;> (try simp only [yv] at hb) <;> (have hc := hb; try simp only [sB,Int.reduceToNat] at hc; try simp only [addZ0] at hc) <;> first|(exfalso; omega)|conv=>whnf)|((first|refine ya ?_|refine yb ?_|refine yc ?_|refine yd ?_|refine yf ?_|refine yh ?_|refine yj ?_|refine dD ?_|refine dF ?_|refine d0 ?_|refine d1 ?_|refine dL ?_|refine dP ?_|refine yl ?_|refine ym ?_|refine ⟨_,fun _=>rfl,?_⟩); conv=>whnf)|((first|refine cK (fun _=>such10_R _ _) ?_|((try (refine CallW.lent ?_; (conv=>whnf); repeat (refine yb ?_; (conv=>whnf)))); refine cL (fun _=>such10_R _ _) ?_)); conv=>whnf)|(refine yt ?_; conv=>whnf)|exact ⟨_,.keep rfl rfl⟩|fail
 ·exact ⟨_,.keep (key (hrr.trans (by unfold d_latheref10_Eval; simp_all))) rfl⟩
 have hs : d_latheref10_such x l.length = true := by simpa using hb
 refine lp [8,7] (fun q : List Vl=>[.i .i64 q.length,.orow 7 4 0 q.length]) (fun q=>[(7,oL q),(2,bx x),(4,bx (Enc.d : Vl))]) (fun q=>(q.length <= l.length /\ ∀ z ∈ q,0 <= z.b /\ z.b < 18446744073709551616) /\ d_latheref10_Eval_R6 x ⟨l⟩ (l.length + 1 - q.length) q q.length = d_latheref10_Eval_R6 x ⟨l⟩ ((l.length - 0 : Int).toNat + 1) [] 0) (fun q=>l.length - q.length) [] ⟨⟨Nat.zero_le _,fun z h=>(by cases h)⟩,by rw [Int.sub_zero]; rfl⟩ ?_ fun q hq=>?_
 ·refine eP [] [7] ?_ ?_ <;> repeat' first|exact eN|refine And.intro ?_ ?_
 conv=>whnf
 obtain ⟨⟨hq,hz⟩,hv⟩ := hq
 have hz2 : ∀ i,0 <= (q.getD i Enc.d).b /\ (q.getD i Enc.d).b < 18446744073709551616 := fun i=>by
  rcases Nat.lt_or_ge i q.length with h|h
  ·rw [List.getD_eq_getElem?_getD,List.getElem?_eq_getElem h]; exact hz _ (List.getElem_mem h)
  ·rw [List.getD_eq_getElem?_getD,List.getElem?_eq_none h]; exact ⟨by decide,by decide⟩
 rcases Nat.lt_or_ge q.length l.length with hlt|hge
 ·repeat' first|(refine iF (fun hb=>?_) (fun hb=>?_) <;> (try simp only [yv] at hb) <;> (have hc := hb; try simp only [sB,Int.reduceToNat] at hc; try simp only [addZ0] at hc) <;> first|(exfalso; omega)|conv=>whnf)|((first|refine ya ?_|refine yb ?_|refine yc ?_|refine yd ?_|refine yf ?_|refine yh ?_|refine yj ?_|refine dD ?_|refine dF ?_|refine d0 ?_|refine d1 ?_|refine dL ?_|refine dP ?_|refine yl ?_|refine ym ?_|refine ⟨_,fun _=>rfl,?_⟩); conv=>whnf)|((first|refine cK (fun _=>kind10_R _ _) ?_|((try (refine CallW.lent ?_; (conv=>whnf); repeat (refine yb ?_; (conv=>whnf)))); refine cL (fun _=>kind10_R _ _) ?_)); conv=>whnf)|((first|refine cK (fun _=>Norm_R _ _) ?_|((try (refine CallW.lent ?_; (conv=>whnf); repeat (refine yb ?_; (conv=>whnf)))); refine cL (fun _=>Norm_R _ _) ?_)); conv=>whnf)|(refine yt ?_; conv=>whnf)|exact ⟨_,.keep rfl rfl⟩|fail
  have e := R6_succ x ⟨l⟩ q q.length (l.length - q.length) (by show ((q.length : Nat) : Int) < l.length; omega)
  obtain ⟨q2,e2⟩ : ∃ q2,q2 = q ++ [d_latheref09_Norm (d_latheref10_kind x q.length) (l.getD q.length Enc.d)] := ⟨_,rfl⟩
  have e3 : q2.length = q.length + 1 := by rw [e2,List.length_append]; rfl
  refine .mk q2 ⟨⟨by omega,fun z hz'=>?_⟩,?_⟩ (by omega) ?_
  ·rw [e2] at hz'
   rcases List.mem_append.1 hz' with h|h
   ·exact hz z h
   ·rw [List.mem_singleton.1 h]; exact Pl.normref_rg (hr _)
  ·rw [<- hv,show l.length + 1 - q.length = l.length - q.length + 1 by omega,e,e3,show l.length + 1 - (q.length + 1) = l.length - q.length by omega,e2]; rfl
  refine eP [(7,34)] [] ?_ ?_ <;> repeat' first|exact eN|refine And.intro ?_ ?_|exact snoc_len e2|exact snoc_get e2 rfl|rw [e2]
 have hE := EvalR_of x l q q.length (by omega) hq hv hs
 rw [hE] at hrr
 clear hE
 have hla := Pl.arity_of hs
 have hao := Pl.arity_omega x.op
 have hqa : q.length = Pl.arity x.op := by omega
 have hcs : (x.op = 23 /\ q.length = 3) \/ ((x.op = 20 \/ x.op = 21 \/ x.op = 22 \/ x.op = 24) /\ q.length = 1) \/ ((x.op < 20 \/ x.op = 29) /\ q.length = 2) := by
  obtain ⟨_,h1,h2⟩ := hla
  obtain ⟨a1,a2,a3,a4,a5⟩ := hao
  rcases Int.lt_or_le x.op 20 with h|h
  ·have := a1 (by omega); omega
  ·rcases h2 with h2|h2
   ·by_cases h3 : x.op = 23
    ·have := a3 h3; omega
    ·by_cases h4 : x.op = 24
     ·have := a4 h4; omega
     ·have := a2 (by omega); omega
   ·have := a5 (by omega); omega
 clear hla hao hqa hv hz hr hr2 hf2
 rcases hcs with ⟨ho,hn⟩|⟨ho,hn⟩|⟨ho,hn⟩
 all_goals repeat' first|(refine iF (fun hb=>?_) (fun hb=>?_) <;> (try simp only [yv] at hb) <;> (have hc := hb; try simp only [sB,Int.reduceToNat] at hc; try simp only [addZ0] at hc) <;> first|(exfalso; omega)|conv=>whnf)|((first|refine ya ?_|refine yb ?_|refine yc ?_|refine yd ?_|refine yf ?_|refine yh ?_|refine yj ?_|refine dD ?_|refine dF ?_|refine d0 ?_|refine d1 ?_|refine dL ?_|refine dP ?_|refine yl ?_|refine ym ?_|refine ⟨_,fun _=>rfl,?_⟩); conv=>whnf)|((first|refine cK (fun _=>divided10_R _ _ _ (hz2 _)) ?_|((try (refine CallW.lent ?_; (conv=>whnf); repeat (refine yb ?_; (conv=>whnf)))); refine cL (fun _=>divided10_R _ _ _ (hz2 _)) ?_)); conv=>whnf)|((first|refine cK (fun _=>shifted10_R _ _ _ (hz2 _)) ?_|((try (refine CallW.lent ?_; (conv=>whnf); repeat (refine yb ?_; (conv=>whnf)))); refine cL (fun _=>shifted10_R _ _ _ (hz2 _)) ?_)); conv=>whnf)|((first|refine cK (fun _=>chosen10_R _ _ _) ?_|((try (refine CallW.lent ?_; (conv=>whnf); repeat (refine yb ?_; (conv=>whnf)))); refine cL (fun _=>chosen10_R _ _ _) ?_)); conv=>whnf)|((first|refine cK (fun _=>Any_R) ?_|((try (refine CallW.lent ?_; (conv=>whnf); repeat (refine yb ?_; (conv=>whnf)))); refine cL (fun _=>Any_R) ?_)); conv=>whnf)|((first|refine cK (fun _=>Convert_R _ _ _ _) ?_|((try (refine CallW.lent ?_; (conv=>whnf); repeat (refine yb ?_; (conv=>whnf)))); refine cL (fun _=>Convert_R _ _ _ _) ?_)); conv=>whnf)|((first|refine cK (fun _=>number10_R _) ?_|((try (refine CallW.lent ?_; (conv=>whnf); repeat (refine yb ?_; (conv=>whnf)))); refine cL (fun _=>number10_R _) ?_)); conv=>whnf)|((first|refine cK (fun _=>pair10_R _ _ _ (hz2 _)) ?_|((try (refine CallW.lent ?_; (conv=>whnf); repeat (refine yb ?_; (conv=>whnf)))); refine cL (fun _=>pair10_R _ _ _ (hz2 _)) ?_)); conv=>whnf)|(refine yt ?_; conv=>whnf)|exact ⟨_,.keep rfl rfl⟩|fail
 all_goals refine ⟨_,.keep (key (hrr.trans ?_)) rfl⟩
 all_goals unfold evR
 all_goals simp only [beqD,bneD,Int.reduceToNat,show Vl.zero = (Enc.d : Vl) from rfl]
 all_goals first|(simp only [Bool.not_true,Bool.not_false,Bool.or_true,Bool.true_or,Bool.or_false,Bool.false_or,Bool.and_true,Bool.true_and,Bool.and_false,Bool.false_and,decide_true,decide_false,Int.reduceEq,cond_true,cond_false, *]; done)|(simp only [Bool.not_true,Bool.not_false,Bool.or_true,Bool.true_or,Bool.or_false,Bool.false_or,Bool.and_true,Bool.true_and,Bool.and_false,Bool.false_and,decide_true,decide_false,Int.reduceEq,cond_true,cond_false, *]; rfl)|(simp only [Bool.cond_eq_ite,decide_eq_true_eq,Bool.not_eq_true',decide_eq_false_iff_not]; (repeat' split) <;> first|rfl|(exfalso; omega))
mutual
def renA (σ : Nat -> Nat) : AV -> AV
 | .op id off=>.op (σ id) off
 | .orow id e off n=>.orow (σ id) e off n
 | .rp id e i j=>.rp (σ id) e i j
 | .omap id=>.omap (σ id)
 | .pth id p e off n=>.pth (σ id) p e off n
 | .pp id p e i j=>.pp (σ id) p e i j
 | .agg cs=>.agg (renAs σ cs)
 | .tup cs=>.tup (renAs σ cs)
 | .clo f cs=>.clo f (renAs σ cs)
 | .ifc t x=>.ifc t (renA σ x)
 | x=>x
def renAs (σ : Nat -> Nat) : List AV -> List AV
 | []=>[]
 | x :: xs=>renA σ x :: renAs σ xs
end
def renOb (σ : Nat -> Nat) : Obj -> Obj
 | .box p q cs=>.box p q (renAs σ cs)
 | x=>x
def renO (σ : Nat -> Nat) : Os -> Os
 | []=>[]
 | (i,ob) :: o=>(σ i,renOb σ ob) :: renO σ o
mutual
theorem rel_ren {σ : Nat -> Nat} {S : Nat -> Prop} {β : Nat -> Wt} {w : World} : ∀ (x : AV) (u : Value),rel S β w (renA σ x) u ↔ rel S (fun i=>β (σ i)) w x u
 | .i k z,u=>Iff.rfl
 | .b t,u=>Iff.rfl
 | .s x,u=>Iff.rfl
 | .v x,u=>Iff.rfl
 | .nil,u=>Iff.rfl
 | .row nz e n get,u=>Iff.rfl
 | .cp cs,u=>Iff.rfl
 | .op id off,u=>Iff.rfl
 | .orow id e off n,u=>Iff.rfl
 | .rp id e i j,u=>Iff.rfl
 | .omap id,u=>Iff.rfl
 | .any,u=>Iff.rfl
 | .pth _ _ _ _ _,u=>Iff.rfl
 | .pp _ _ _ _ _,u=>Iff.rfl
 | .agg cs,u=>⟨fun ⟨us,h1,h2⟩=>⟨us,h1,(rels_ren cs us).1 h2⟩,fun ⟨us,h1,h2⟩=>⟨us,h1,(rels_ren cs us).2 h2⟩⟩
 | .tup cs,u=>⟨fun ⟨us,h1,h2⟩=>⟨us,h1,(rels_ren cs us).1 h2⟩,fun ⟨us,h1,h2⟩=>⟨us,h1,(rels_ren cs us).2 h2⟩⟩
 | .clo f cs,u=>⟨fun ⟨us,h1,h2⟩=>⟨us,h1,(rels_ren cs us).1 h2⟩,fun ⟨us,h1,h2⟩=>⟨us,h1,(rels_ren cs us).2 h2⟩⟩
 | .ifc t x,u=>⟨fun ⟨u',h1,h2⟩=>⟨u',h1,(rel_ren x u').1 h2⟩,fun ⟨u',h1,h2⟩=>⟨u',h1,(rel_ren x u').2 h2⟩⟩
theorem rels_ren {σ : Nat -> Nat} {S : Nat -> Prop} {β : Nat -> Wt} {w : World} : ∀ (x : List AV) (u : List Value),rels S β w (renAs σ x) u ↔ rels S (fun i=>β (σ i)) w x u
 | [],u=>Iff.rfl
 | x :: xs,u=>⟨fun ⟨q,us,h1,h2,h3⟩=>⟨q,us,h1,(rel_ren x q).1 h2,(rels_ren xs us).1 h3⟩,fun ⟨q,us,h1,h2,h3⟩=>⟨q,us,h1,(rel_ren x q).2 h2,(rels_ren xs us).2 h3⟩⟩
end
mutual
theorem men_ren {σ : Nat -> Nat} {d : Nat} : ∀ (x : AV),men d (renA σ x) = true -> ∃ i,d = σ i /\ men i x = true
 | .i k z,h=>nomatch h
 | .b t,h=>nomatch h
 | .s x,h=>nomatch h
 | .v x,h=>nomatch h
 | .nil,h=>nomatch h
 | .row nz e n get,h=>nomatch h
 | .cp cs,h=>nomatch h
 | .any,h=>nomatch h
 | .op id off,h=>⟨id,(Nat.eq_of_beq_eq_true h).symm,by simp [men]⟩
 | .orow id e off n,h=>⟨id,(Nat.eq_of_beq_eq_true h).symm,by simp [men]⟩
 | .rp id e i j,h=>⟨id,(Nat.eq_of_beq_eq_true h).symm,by simp [men]⟩
 | .omap id,h=>⟨id,(Nat.eq_of_beq_eq_true h).symm,by simp [men]⟩
 | .pth id _ _ _ _,h=>⟨id,(Nat.eq_of_beq_eq_true h).symm,by simp [men]⟩
 | .pp id _ _ _ _,h=>⟨id,(Nat.eq_of_beq_eq_true h).symm,by simp [men]⟩
 | .agg cs,h=>mens_ren cs h
 | .tup cs,h=>mens_ren cs h
 | .clo f cs,h=>mens_ren cs h
 | .ifc t x,h=>men_ren x h
theorem mens_ren {σ : Nat -> Nat} {d : Nat} : ∀ (x : List AV),mens d (renAs σ x) = true -> ∃ i,d = σ i /\ mens i x = true
 | [],h=>nomatch h
 | x :: xs,h=>by
  simp only [renAs,mens,Bool.or_eq_true] at h
  rcases h with h|h
  ·obtain ⟨i,h1,h2⟩ := men_ren x h
   exact ⟨i,h1,by simp [mens,h2]⟩
  ·obtain ⟨i,h1,h2⟩ := mens_ren xs h
   exact ⟨i,h1,by simp [mens,h2]⟩
end
theorem orel_ren {σ : Nat -> Nat} {S : Nat -> Prop} {β : Nat -> Wt} {w : World} {W : Wt} : ∀ {ob : Obj},orel S β w W (renOb σ ob) ↔ orel S (fun i=>β (σ i)) w W ob
 | .box p q cs=>⟨fun ⟨b,us,ty,h1,h2,h3,h4,h5⟩=>⟨b,us,ty,h1,h2,h3,(rels_ren cs us).1 h4,h5⟩,fun ⟨b,us,ty,h1,h2,h3,h4,h5⟩=>⟨b,us,ty,h1,h2,h3,(rels_ren cs us).2 h4,h5⟩⟩
 | .row q e n g=>Iff.rfl
 | .tree e n g=>Iff.rfl
 | .mp e n g F=>Iff.rfl
theorem omen_ren {σ : Nat -> Nat} {d : Nat} : ∀ {ob : Obj},omen d (renOb σ ob) = true -> ∃ i,d = σ i /\ omen i ob = true
 | .box p q cs,h=>mens_ren cs h
 | .row q e n g,h=>nomatch h
 | .tree e n g,h=>nomatch h
 | .mp e n g F,h=>nomatch h
theorem keys_ren {σ : Nat -> Nat} : ∀ {o : Os},(renO σ o).map (·.1) = (o.map (·.1)).map σ
 | []=>rfl
 | (i,ob) :: o=>by simp only [renO,List.map_cons,keys_ren]
theorem feet_ren {σ : Nat -> Nat} {β : Nat -> Wt} : ∀ {o : Os},feet (renO σ o) β = feet o (fun i=>β (σ i))
 | []=>rfl
 | (i,ob) :: o=>by rw [renO,feet_cons,feet_cons,feet_ren]
theorem lk_ren {σ : Nat -> Nat} {i : Nat} (hσ : ∀ i j,σ i = σ j -> i = j) : ∀ {o : Os},lk (renO σ o) (σ i) = (lk o i).map (renOb σ)
 | []=>rfl
 | (j,ob) :: o=>by
  rw [renO,lk_cons,lk_cons]
  by_cases e : j = i
  ·subst e; rw [if_pos rfl,if_pos rfl]; rfl
  ·rw [if_neg fun h=>e (hσ _ _ h),if_neg e,lk_ren hσ]
theorem lk_ren' {σ : Nat -> Nat} {j : Nat} {ob' : Obj} (hσ : ∀ i j,σ i = σ j -> i = j) : ∀ {o : Os},lk (renO σ o) j = some ob' -> ∃ i ob,j = σ i /\ lk o i = some ob /\ ob' = renOb σ ob
 | [],h=>by simp [renO,lk] at h
 | (k,ob) :: o,h=>by
  rw [renO,lk_cons] at h
  split at h
  ·rename_i e; cases h; exact ⟨k,ob,e.symm,by rw [lk_cons,if_pos rfl],rfl⟩
  ·obtain ⟨i,ob2,h1,h2,h3⟩ := lk_ren' hσ h
   rename_i e
   exact ⟨i,ob2,h1,by rw [lk_cons,if_neg fun h=>e (by rw [h,h1])]; exact h2,h3⟩
theorem isBox_ren {σ : Nat -> Nat} : ∀ {ob : Obj},isBox (renOb σ ob) = isBox ob
 | .box p q cs=>rfl
 | .row q e n g=>rfl
 | .tree e n g=>rfl
 | .mp e n g F=>rfl
theorem nodup_inj {σ : Nat -> Nat} (hσ : ∀ i j,σ i = σ j -> i = j) : ∀ {l : List Nat},l.Nodup -> (l.map σ).Nodup
 | [],_=>List.nodup_nil
 | x :: l,h=>by
  rw [List.nodup_cons] at h
  rw [List.map_cons,List.nodup_cons]
  refine ⟨fun hm=>?_,nodup_inj hσ h.2⟩
  obtain ⟨y,hy,e⟩ := List.mem_map.1 hm
  exact h.1 (hσ _ _ e ▸ hy)
theorem nodup_of_map {σ : Nat -> Nat} : ∀ {l : List Nat},(l.map σ).Nodup -> l.Nodup
 | [],_=>List.nodup_nil
 | x :: l,h=>by
  rw [List.map_cons,List.nodup_cons] at h
  rw [List.nodup_cons]
  exact ⟨fun hm=>h.1 (List.mem_map.2 ⟨x,hm,rfl⟩),nodup_of_map h.2⟩
theorem ASpecF.ren {fx : Bool} {P : Program} {f : FuncId} {args : List AV} {os : Os} {r : AV} {no : Os} (σ τ : Nat -> Nat) (hτ : ∀ i,τ (σ i) = i) (h : ASpecF fx P f args os r no) : ASpecF fx P f (renAs σ args) (renO σ os) (renA σ r) (renO σ no) := by
 obtain ⟨h1,⟨h2,h3⟩,h4⟩ := h
 have hσ : ∀ i j,σ i = σ j -> i = j := fun i j e=>by rw [<- hτ i,<- hτ j,e]
 refine ⟨h1,⟨fun id hm=>?_,fun i ob hl id hm=>?_⟩,fun S β w us hob hap hus hvr=>?_⟩
 ·obtain ⟨i,rfl,hi⟩ := men_ren r hm
  rw [lk_ren hσ,Option.isSome_map]; exact h2 i hi
 ·obtain ⟨j,ob2,rfl,hj,rfl⟩ := lk_ren' hσ hl
  obtain ⟨k,rfl,hk⟩ := omen_ren hm
  rw [lk_ren hσ,Option.isSome_map]; exact h3 j ob2 hj k hk
 ·rw [feet_ren] at hap ⊢
  have hob' : OB S (fun i=>β (σ i)) w os := ⟨fun id ob hl=>orel_ren.1 (hob.objs (σ id) (renOb σ ob) (by rw [lk_ren hσ,hl]; rfl)),by rw [<- feet_ren]; exact hob.nodup,nodup_of_map (σ := σ) (by rw [<- keys_ren]; exact hob.keys),fun k hk=>hob.lt k (by rw [feet_ren]; exact hk)⟩
  refine (h4 S _ w us hob' hap ((rels_ren args us).1 hus) hvr).mono ?_
  rintro e w' ⟨v,β',rfl,g1,g2,g3,g4,g5,g6,g7⟩
  have hβ : (fun i=>(fun j=>β' (τ j)) (σ i)) = β' := by funext i; show β' (τ (σ i)) = _; rw [hτ]
  have hfe : feet (renO σ no) (fun j=>β' (τ j)) = feet no β' := by rw [feet_ren,hβ]
  refine ⟨v,fun j=>β' (τ j),rfl,g1,fun id ob hl=>?_,by rw [hfe]; exact g3,by rw [hfe]; exact g4,by rw [keys_ren]; exact nodup_inj hσ g5,fun id ob hl hb hs=>?_,?_⟩
  ·obtain ⟨i,ob2,rfl,hi,rfl⟩ := lk_ren' hσ hl
   rw [orel_ren,hβ,hfe]
   show orel _ _ _ (β' (τ (σ i))) _
   rw [hτ]
   exact g2 i ob2 hi
  ·obtain ⟨i,ob2,rfl,hi,rfl⟩ := lk_ren' hσ hl
   rw [isBox_ren] at hb
   rw [lk_ren hσ,Option.isSome_map] at hs
   show β' (τ (σ i)) = β (σ i)
   rw [hτ]
   exact g6 i ob2 hi hb hs
  ·rw [rel_ren,hβ,hfe]; exact g7
def swp (a b i : Nat) : Nat := bif Nat.beq i a then b else bif Nat.beq i b then a else i
theorem beqNe {a b : Nat} (h : ¬a = b) : Nat.beq a b = false := by rw [<- Bool.not_eq_true]; simpa using h
theorem swp_swp (a b i : Nat) : swp a b (swp a b i) = i := by
 unfold swp
 by_cases h1 : i = a
 ·subst h1
  rw [Nat.beq_refl,cond_true]
  by_cases h2 : b = i
  ·subst h2; rw [Nat.beq_refl,cond_true]
  ·rw [beqNe h2,cond_false,Nat.beq_refl,cond_true]
 ·rw [beqNe h1,cond_false]
  by_cases h2 : i = b
  ·subst h2; rw [Nat.beq_refl,cond_true,Nat.beq_refl,cond_true]
  ·rw [beqNe h2,cond_false,beqNe h1,cond_false,beqNe h2,cond_false]
open Pl (Vl)
theorem divisor_P (x : InsE) (l : List Vl) (hl : 2 <= l.length) : ASpec Tryz.prog 98 [eS x,eL l] (.i .i64 (Pl.divisor x.op x.t (l.getD 0 Enc.d) (l.getD 1 Enc.d))) [] := by
 refine ASpec.enter TYok mixed Tryz.func98 rfl Tryz.call98 Tryz.ntmps98 rfl (rs := [.tmp 4]) rfl (nodupB_ok rfl) (Clo.one rfl) (keep := [0,1,2,4,5,6,7]) ?_; conv=>whnf
 repeat' first|(refine iF (fun hb=>?_) (fun hb=>?_) <;> (try simp only [yv] at hb) <;> (have hc := hb; try simp only [sB,Int.reduceToNat] at hc; try simp only [addZ0] at hc) <;> first|(exfalso; omega)|conv=>whnf)|((first|refine ya ?_|refine yb ?_|refine And.intro ⟨rfl,fun _ _=>rfl⟩ ?_|refine And.intro (⟨⟨rfl,rfl⟩,by omega⟩ : (_ = _ /\ _ = _) /\ _) ?_|refine And.intro (⟨rfl,by omega⟩ : _ = _ /\ _) ?_|refine yc ?_|refine ye ?_|refine yf ?_|refine yi ?_|refine yk ?_|refine dE ?_|refine dD ?_|refine dF ?_|refine d0 ?_|refine d1 ?_|refine dL ?_|refine dP ?_|refine yl ?_|refine ym ?_|refine yn ?_|refine ⟨_,fun _=>(IntKind.wrap_u64 _).symm,?_⟩); conv=>whnf)|((first|refine cK (fun _=>Mask_P _) ?_|((try (refine CallW.lent ?_; (conv=>whnf); repeat (refine yb ?_; (conv=>whnf)))); refine cL (fun _=>Mask_P _) ?_)); conv=>whnf)|(refine yt ?_; conv=>whnf)|exact ⟨_,.keep rfl rfl⟩|fail
 all_goals exact ⟨_,.keep (congrArg (AV.i .i64) (by unfold Pl.divisor; simp only [Bool.cond_eq_ite,bne_iff_ne,ne_eq,beq_iff_eq,Bool.or_eq_true,Bool.and_eq_true,decide_eq_true_eq,Bool.not_eq_true',decide_eq_false_iff_not]; (repeat' split) <;> first|rfl|(exfalso; omega)|contradiction|(simp_all; done))) rfl⟩
theorem norm_rng (t : Int) (v : Vl) (hv : 0 <= v.b) (hv' : v.b < 18446744073709551616) : 0 <= (Pl.norm t v).b /\ (Pl.norm t v).b < 18446744073709551616 := by
 unfold Pl.norm
 have h2 : (0 : Int) < 2 ^ t.toNat := Int.pow_pos (by decide)
 have h3 := Int.emod_nonneg v.b (show (2 : Int) ^ t.toNat ≠ 0 by omega)
 have h4 := Int.emod_add_mul_ediv v.b (2 ^ t.toNat)
 have h5 := Int.mul_nonneg (show (0 : Int) <= 2 ^ t.toNat by omega) (Int.ediv_nonneg hv (show (0 : Int) <= 2 ^ t.toNat by omega))
 (repeat' split) <;> first|(simp only; omega)|(simp only [Vl.zero]; omega)
theorem vl_dec {x y : Vl} : decide (x = y) = (decide (x.k = y.k) && (decide (x.b = y.b) && (decide (x.bl = y.bl) && decide (x.off = y.off)))) := by
 rw [Bool.eq_iff_iff]
 simp only [Bool.and_eq_true,decide_eq_true_eq]
 exact ⟨fun h=>by subst h; simp,fun h=>vl_ext h⟩
theorem clear_P (x : InsE) (l : List Vl) (h1 : 1 <= l.length) (h2 : x.op = 29 \/ x.op < 20 -> 2 <= l.length) (hr : ∀ i,0 <= (l.getD i Enc.d).b /\ (l.getD i Enc.d).b < 18446744073709551616) (hf : inI x.f) :
  ASpecM Tryz.prog 102 [eS x,.orow 1001 4 0 l.length] [(1001,oL l)] (.tup [eS (Pl.clear x.op x.t x.n x.f (l.getD 0 Enc.d) (l.getD 1 Enc.d)).1,.i .i64 (Pl.clear x.op x.t x.n x.f (l.getD 0 Enc.d) (l.getD 1 Enc.d)).2]) [] := by
 have r0 := hr 0
 have r1 := hr 1
 have key : ∀ {y : Vl} {e : Int},Pl.clear x.op x.t x.n x.f (l.getD 0 Enc.d) (l.getD 1 Enc.d) = (y,e) -> AV.tup [eS y,.i .i64 e] = .tup [eS (Pl.clear x.op x.t x.n x.f (l.getD 0 Enc.d) (l.getD 1 Enc.d)).1,.i .i64 (Pl.clear x.op x.t x.n x.f (l.getD 0 Enc.d) (l.getD 1 Enc.d)).2] := fun h=>by rw [h]
 refine ASpecM.enter TYok mixed Tryz.func102 rfl Tryz.call102 Tryz.ntmps102 rfl (rs := [.cell 4 91,.tmp 5]) rfl (Clo.one rfl) rfl (keep := [0,1,2,4,5,6,8,9,84]) fun pin=>?_; conv=>whnf
 repeat' first|(refine iF (fun hb=>?_) (fun hb=>?_) <;> (try simp only [yv] at hb) <;> (have hc := hb; try simp only [sB,Int.reduceToNat] at hc; try simp only [addZ0] at hc) <;> first|(exfalso; omega)|conv=>whnf)|((first|refine ya ?_|refine yb ?_|refine yc ?_|refine yd ?_|refine yf ?_|refine yh ?_|refine yj ?_|refine dD ?_|refine dF ?_|refine d0 ?_|refine d1 ?_|refine dL ?_|refine dP ?_|refine yl ?_|refine ym ?_|refine ⟨_,fun _=>rfl,?_⟩); conv=>whnf)|((first|refine cK (fun _=>Convert_P _ _ _ _ (hr _).1 (hr _).2) ?_|((try (refine CallW.lent ?_; (conv=>whnf); repeat (refine yb ?_; (conv=>whnf)))); refine cL (fun _=>Convert_P _ _ _ _ (hr _).1 (hr _).2) ?_)); conv=>whnf)|((first|refine cK (fun _=>number_P _) ?_|((try (refine CallW.lent ?_; (conv=>whnf); repeat (refine yb ?_; (conv=>whnf)))); refine cL (fun _=>number_P _) ?_)); conv=>whnf)|((first|refine cK (fun _=>Apply_P _ _ _ _ _ (hr _).1 (hr _).2 (hr _).1 (hr _).2 hf) ?_|((try (refine CallW.lent ?_; (conv=>whnf); repeat (refine yb ?_; (conv=>whnf)))); refine cL (fun _=>Apply_P _ _ _ _ _ (hr _).1 (hr _).2 (hr _).1 (hr _).2 hf) ?_)); conv=>whnf)|(refine yt ?_; conv=>whnf)|exact ⟨_,.keep rfl rfl⟩|fail
 ·rw [<- key (y := ⟨(l.getD 0 Enc.d).k,(l.getD 0 Enc.d).b,(l.getD 0 Enc.d).bl,IntKind.i64.wrap ((l.getD 0 Enc.d).off + IntKind.i64.wrap (l.getD 1 Enc.d).b)⟩) (e := 0) (by unfold Pl.clear; simp only [Bool.cond_eq_ite,bne_iff_ne,ne_eq,beq_iff_eq,Bool.or_eq_true,Bool.and_eq_true,decide_eq_true_eq,Bool.not_eq_true',decide_eq_false_iff_not]; (repeat' split) <;> first|rfl|(exfalso; omega)|contradiction|(simp_all; done))]
  refine ⟨[],[],?_,?_,rfl⟩ <;> repeat' first|exact eN|refine And.intro ?_ ?_
 ·rw [<- key (y := Pl.number (Pl.conv x.op x.n x.t (l.getD 0 Enc.d).b).1) (e := 0) (by unfold Pl.clear; simp only [Bool.cond_eq_ite,bne_iff_ne,ne_eq,beq_iff_eq,Bool.or_eq_true,Bool.and_eq_true,decide_eq_true_eq,Bool.not_eq_true',decide_eq_false_iff_not]; (repeat' split) <;> first|rfl|(exfalso; omega)|contradiction|(simp_all; done))]
  refine ⟨[],[],?_,?_,rfl⟩ <;> repeat' first|exact eN|refine And.intro ?_ ?_
 ·have e : (decide (l.getD 0 Enc.d = l.getD 1 Enc.d) == (x.op == 14)) = true := by rw [vl_dec,beq_iff_eq]; exact hc
  rw [<- key (y := Pl.number 1) (e := 0) (by unfold Pl.clear; rw [e,cond_true]; simp only [Bool.cond_eq_ite,bne_iff_ne,ne_eq,beq_iff_eq,Bool.or_eq_true,Bool.and_eq_true,decide_eq_true_eq,Bool.not_eq_true',decide_eq_false_iff_not]; (repeat' split) <;> first|rfl|(exfalso; omega)|contradiction|(simp_all; done))]
  refine ⟨[],[],?_,?_,rfl⟩ <;> repeat' first|exact eN|refine And.intro ?_ ?_
 ·have e : (decide (l.getD 0 Enc.d = l.getD 1 Enc.d) == (x.op == 14)) = false := by rw [vl_dec,beq_eq_false_iff_ne]; exact hc
  rw [<- key (y := Pl.number 0) (e := 0) (by unfold Pl.clear; rw [e,cond_false]; simp only [Bool.cond_eq_ite,bne_iff_ne,ne_eq,beq_iff_eq,Bool.or_eq_true,Bool.and_eq_true,decide_eq_true_eq,Bool.not_eq_true',decide_eq_false_iff_not]; (repeat' split) <;> first|rfl|(exfalso; omega)|contradiction|(simp_all; done))]
  refine ⟨[],[],?_,?_,rfl⟩ <;> repeat' first|exact eN|refine And.intro ?_ ?_
 ·rw [<- key (y := Pl.number (Pl.apply x.op x.t x.f (l.getD 0 Enc.d).b (l.getD 1 Enc.d).b).1) (e := 0) (by unfold Pl.clear; simp only [Bool.cond_eq_ite,bne_iff_ne,ne_eq,beq_iff_eq,Bool.or_eq_true,Bool.and_eq_true,decide_eq_true_eq,Bool.not_eq_true',decide_eq_false_iff_not]; (repeat' split) <;> first|rfl|(exfalso; omega)|contradiction|(simp_all; done))]
  refine ⟨[],[],?_,?_,rfl⟩ <;> repeat' first|exact eN|refine And.intro ?_ ?_
 ·rw [<- key (y := ⟨0,0,0,0⟩) (e := 0) (by unfold Pl.clear; simp only [Bool.cond_eq_ite,bne_iff_ne,ne_eq,beq_iff_eq,Bool.or_eq_true,Bool.and_eq_true,decide_eq_true_eq,Bool.not_eq_true',decide_eq_false_iff_not]; (repeat' split) <;> first|rfl|(exfalso; omega)|contradiction|(simp_all; done))]
  refine ⟨[],[],?_,?_,rfl⟩ <;> repeat' first|exact eN|refine And.intro ?_ ?_
 ·rw [<- key (y := ⟨0,0,0,0⟩) (e := (Pl.apply x.op x.t x.f (l.getD 0 Enc.d).b (l.getD 1 Enc.d).b).2) (by unfold Pl.clear; simp only [Bool.cond_eq_ite,bne_iff_ne,ne_eq,beq_iff_eq,Bool.or_eq_true,Bool.and_eq_true,decide_eq_true_eq,Bool.not_eq_true',decide_eq_false_iff_not]; (repeat' split) <;> first|rfl|(exfalso; omega)|contradiction|(simp_all; done))]
  refine ⟨[],[],?_,?_,rfl⟩ <;> repeat' first|exact eN|refine And.intro ?_ ?_
mutual
def wk : AV -> AV -> Prop
 | .i k z,.i k' z'=>k = k' /\ z = z'
 | .b t,.b t'=>t = t'
 | .s x,.s x'=>x = x'
 | .v x,.v x'=>x = x'
 | .nil,.nil=>True
 | .nil,.row none _ n _=>n = 0
 | .row nz e n g,.row none e' n' g'=>e = e' /\ n = n' /\ ∀ i,i < n' -> wks (g i) (g' i)
 | .agg cs,.agg cs'=>wks cs cs'
 | .tup cs,.tup cs'=>wks cs cs'
 | .any,.any=>True
 | _,_=>False
def wks : List AV -> List AV -> Prop
 | [],[]=>True
 | x :: xs,y :: ys=>wk x y /\ wks xs ys
 | _,_=>False
end
mutual
theorem wk_ok {S : Nat -> Prop} {β : Nat -> Wt} {w : World} : ∀ (x y : AV) (u : Value),wk x y -> rel S β w x u -> rel S β w y u
 | .i k z,y,u,h,hr=>by
  cases y <;> simp only [wk] at h <;> try exact h.elim
  obtain ⟨rfl,rfl⟩ := h; exact hr
 | .b t,y,u,h,hr=>by
  cases y <;> simp only [wk] at h <;> try exact h.elim
  subst h; exact hr
 | .s t,y,u,h,hr=>by
  cases y <;> simp only [wk] at h <;> try exact h.elim
  subst h; exact hr
 | .v t,y,u,h,hr=>by
  cases y <;> simp only [wk] at h <;> try exact h.elim
  subst h; exact hr
 | .nil,y,u,h,hr=>by
  unfold rel at hr
  subst hr
  cases y with
  | nil=>rfl
  | row nz e n g =>
   cases nz with
   | none =>
    simp only [wk] at h
    subst h
    exact ⟨none,0,fun _=>[],rfl,(fun z hz=>by cases hz),⟨Nat.zero_le _,Nat.zero_le _⟩,fun i hi=>by omega⟩
   | some b=>simp only [wk] at h
  | _=>simp only [wk] at h
 | .row nz e n g,y,u,h,hr=>by
  cases y with
  | row nz' e' n' g' =>
   cases nz' with
   | none =>
    simp only [wk] at h
    obtain ⟨rfl,rfl,hg⟩ := h
    unfold rel at hr ⊢
    obtain ⟨a,cap,us,h1,h2,h3,h4⟩ := hr
    exact ⟨a,cap,us,h1,(fun z hz=>by cases hz),h3,fun i hi=>⟨(h4 i hi).1,(h4 i hi).2.1,wks_ok (g i) (g' i) (us i) (hg i hi) (h4 i hi).2.2⟩⟩
   | some b=>simp only [wk] at h
  | _=>simp only [wk] at h
 | .agg cs,y,u,h,hr=>by
  cases y with
  | agg cs'=>simp only [wk] at h; obtain ⟨us,h1,h2⟩ := hr; exact ⟨us,h1,wks_ok cs cs' us h h2⟩
  | _=>simp only [wk] at h
 | .tup cs,y,u,h,hr=>by
  cases y with
  | tup cs'=>simp only [wk] at h; obtain ⟨us,h1,h2⟩ := hr; exact ⟨us,h1,wks_ok cs cs' us h h2⟩
  | _=>simp only [wk] at h
 | .any,y,u,h,hr=>by
  cases y <;> simp only [wk] at h <;> try exact h.elim
  exact hr
 | .cp _,y,u,h,hr=>by cases y <;> simp only [wk] at h
 | .op _ _,y,u,h,hr=>by cases y <;> simp only [wk] at h
 | .orow _ _ _ _,y,u,h,hr=>by cases y <;> simp only [wk] at h
 | .rp _ _ _ _,y,u,h,hr=>by cases y <;> simp only [wk] at h
 | .pth _ _ _ _ _,y,u,h,hr=>by cases y <;> simp only [wk] at h
 | .pp _ _ _ _ _,y,u,h,hr=>by cases y <;> simp only [wk] at h
 | .clo _ _,y,u,h,hr=>by cases y <;> simp only [wk] at h
 | .omap _,y,u,h,hr=>by cases y <;> simp only [wk] at h
 | .ifc _ _,y,u,h,hr=>by cases y <;> simp only [wk] at h
theorem wks_ok {S : Nat -> Prop} {β : Nat -> Wt} {w : World} : ∀ (x y : List AV) (u : List Value),wks x y -> rels S β w x u -> rels S β w y u
 | [],y,u,h,hr=>by
  cases y with
  | nil=>exact hr
  | cons=>simp only [wks] at h
 | x :: xs,y,u,h,hr=>by
  cases y with
  | nil=>simp only [wks] at h
  | cons y ys =>
   simp only [wks] at h
   obtain ⟨u,us,h1,h2,h3⟩ := hr
   exact ⟨u,us,h1,wk_ok x y u h.1 h2,wks_ok xs ys us h.2 h3⟩
end
theorem ASpec.weak {P : Program} {f : FuncId} {vs args : List AV} {r : AV} {no : Os} (h : ASpec P f args r no) (hw : wks vs args) : ASpec P f vs r no :=
 ⟨h.1,h.2.1,fun S w us hr hv=>h.2.2 S w us (wks_ok _ _ _ hw hr) hv⟩
theorem ASpec.gives {P : Program} {f : FuncId} {args : List AV} {v r : AV} {os o' no : Os} (h : ASpec P f args v os) (hg : Gives os v o' r no) (hclo : Clo r no) (hk : (no.map (·.1)).Nodup) : ASpec P f args r no := by
 refine ⟨h.1,hclo,fun S w us hr hv=>(h.2.2 S w us hr hv).mono ?_⟩
 rintro e w' ⟨v0,β,rfl,hb,h1,h2,h3,h4,h5⟩
 obtain ⟨β1,g1,g2,g3⟩ := hg.2 _ β w' v0 ⟨h1,h3,h4,fun k hk=>(h2 k hk).2⟩ h5
 obtain ⟨g4,g5⟩ := g3 (fun k=>(S k \/ w.heap.size <= k) /\ k ∉ feet no β1) β1 (fun _ _=>rfl) (fun k _ hk=>⟨hk.1,fun hq=>hk.2 (g2 k hq).1⟩) fun k q1 q2 q3=>⟨.inr (h2 k q1).1,q3⟩
 exact ⟨v0,β1,rfl,hb,g5,fun k hk=>h2 k (g2 k hk).1,g1,hk,g4⟩
theorem Clo.row0 {e n : Nat} {g : Nat -> List AV} (h : ∀ id,men id (.row none e n g) = false) : Clo (.row none e n g) [] := ⟨fun id hm=>(by rw [h] at hm; cases hm),fun i ob hl=>(by simp [lk] at hl)⟩
theorem Clo.tree {d e off n e' n' : Nat} {g : Nat -> List AV} : Clo (.orow d e off n) [(d,.tree e' n' g)] := by
 refine ⟨fun id hm=>?_,fun i ob h id hm=>?_⟩
 ·simp only [men] at hm; have := Nat.eq_of_beq_eq_true hm; subst this; rw [lk_cons,if_pos rfl]; rfl
 ·rw [lk_cons] at h
  split at h
  ·cases h; cases hm
  ·simp [lk] at h
mutual
theorem teq_refl : ∀ x : AV,teq x x
 | .row none e n g=>by unfold teq; exact ⟨rfl,rfl,fun i _=>teqs_refl (g i)⟩
 | .row (some b) e n g=>by unfold teq; rfl
 | .nil=>by unfold teq; rfl
 | .i _ _=>by unfold teq; rfl
 | .b _=>by unfold teq; rfl
 | .s _=>by unfold teq; rfl
 | .v _=>by unfold teq; rfl
 | .agg _=>by unfold teq; rfl
 | .tup _=>by unfold teq; rfl
 | .cp _=>by unfold teq; rfl
 | .op _ _=>by unfold teq; rfl
 | .orow _ _ _ _=>by unfold teq; rfl
 | .rp _ _ _ _=>by unfold teq; rfl
 | .clo _ _=>by unfold teq; rfl
 | .omap _=>by unfold teq; rfl
 | .ifc _ _=>by unfold teq; rfl
 | .any=>by unfold teq; rfl
 | .pth _ _ _ _ _=>by unfold teq; rfl
 | .pp _ _ _ _ _=>by unfold teq; rfl
theorem teqs_refl : ∀ x : List AV,teqs x x
 | []=>by unfold teqs; rfl
 | x :: xs=>by unfold teqs; exact ⟨teq_refl x,teqs_refl xs⟩
end
theorem teqs_of {x y : List AV} (h : x = y) : teqs x y := h ▸ teqs_refl x
theorem leafs_cat {n : Nat} {f g : Nat -> List AV} (h1 : ∀ i,leafs (f i) = true) (h2 : ∀ i,leafs (g i) = true) (i : Nat) : leafs (catF n f g i) = true := by
 unfold catF
 split
 ·exact h1 _
 ·exact h2 _
theorem leafs_lit1 {l : List AV} (h : leafs l = true) (i : Nat) : leafs (litF [l] i) = true := by
 exact h
theorem tree_snoc {α : Type} [Enc α] {g : Nat -> List AV} {g' : Nat -> List AV} {k t : Nat} {l l' : List α} {x : α} {cs : List AV} (hk : t = k -> l' = l ++ [x]) (hc : cs = Enc.enc x) (hg : t = k -> ∃ y,g k = [y]) (h1 : t = k -> g' t = [eL l']) (h2 : t ≠ k -> g' t = g t) :
  teqs (setG (updG [] g k 0 [.any]) k 0 [.row none (Enc.sz α) (l.length + 1) (catF l.length (offF 0 fun i=>Enc.enc (l.getD i Enc.d)) (litF [cs]))] t) (g' t) := by
 by_cases e : t = k
 ·subst e
  obtain ⟨y,hy⟩ := hg rfl
  rw [h1 rfl]
  have e1 : setG (updG [] g t 0 [.any]) t 0 [.row none (Enc.sz α) (l.length + 1) (catF l.length (offF 0 fun i=>Enc.enc (l.getD i Enc.d)) (litF [cs]))] t = [.row none (Enc.sz α) (l.length + 1) (catF l.length (offF 0 fun i=>Enc.enc (l.getD i Enc.d)) (litF [cs]))] := by
   simp only [setG,updG,if_true,hy]; rfl
  rw [e1]
  have hl := hk rfl
  unfold teqs
  refine ⟨?_,by unfold teqs; rfl⟩
  unfold eL teq
  exact ⟨rfl,snoc_len hl,fun i hi=>teqs_of (snoc_get hl hc i hi)⟩
 ·rw [h2 e]
  have e1 : setG (updG [] g k 0 [.any]) k 0 [.row none (Enc.sz α) (l.length + 1) (catF l.length (offF 0 fun i=>Enc.enc (l.getD i Enc.d)) (litF [cs]))] t = g t := by
   simp only [setG,updG,if_neg e]
  rw [e1]
  exact teqs_refl _
theorem tree_put {α : Type} [Enc α] {g : Nat -> List AV} {g' : Nat -> List AV} {k t : Nat} {l : List α} (hg : t = k -> ∃ y,g k = [y]) (h1 : t = k -> g' t = [eL l]) (h2 : t ≠ k -> teqs (g t) (g' t)) :
  teqs (setG g k 0 [.row none (Enc.sz α) l.length fun i=>Enc.enc (l.getD i Enc.d)] t) (g' t) := by
 by_cases e : t = k
 ·subst e
  obtain ⟨y,hy⟩ := hg rfl
  rw [h1 rfl]
  have e1 : setG g t 0 [.row none (Enc.sz α) l.length fun i=>Enc.enc (l.getD i Enc.d)] t = [eL l] := by
   simp only [setG,if_true,hy]; rfl
  rw [e1]
  exact teqs_refl _
 ·have e1 : setG g k 0 [.row none (Enc.sz α) l.length fun i=>Enc.enc (l.getD i Enc.d)] t = g t := by
   simp only [setG,if_neg e]
  rw [e1]
  exact h2 e
theorem tree_putR {g : Nat -> List AV} {g' : Nat -> List AV} {k t e n : Nat} {gt : Nat -> List AV} (hg : t = k -> ∃ y,g k = [y]) (h1 : t = k -> ∃ x,g' t = [x] /\ teq (.row none e n gt) x) (h2 : t ≠ k -> teqs (g t) (g' t)) :
  teqs (setG g k 0 [.row none e n gt] t) (g' t) := by
 by_cases q : t = k
 ·subst q
  obtain ⟨y,hy⟩ := hg rfl
  obtain ⟨x,hx,ht⟩ := h1 rfl
  rw [hx]
  have e1 : setG g t 0 [.row none e n gt] t = [.row none e n gt] := by
   simp only [setG,if_true,hy]; rfl
  rw [e1]
  unfold teqs
  exact ⟨ht,by unfold teqs; rfl⟩
 ·have e1 : setG g k 0 [.row none e n gt] t = g t := by
   simp only [setG,if_neg q]
  rw [e1]
  exact h2 q
theorem tree_setB {G G' : Nat -> List AV} {a t j n : Nat} {v : Bool} {g g' : Nat -> Bool} (hG : t = a -> G a = [.row none 1 n fun i=>[.b (g i)]]) (hG' : t = a -> G' t = [.row none 1 n fun i=>[.b (g' i)]]) (hg : t = a -> ∀ i,i < n -> g' i = if i = j then v else g i) (h2 : t ≠ a -> G' t = G t) :
  teqs (updG ([] ++ [(a,0)]) G j 0 [.b v] t) (G' t) := by
 by_cases q : t = a
 ·subst q
  have e := hG rfl
  rw [hG' rfl]
  have e1 : updG ([] ++ [(t,0)]) G j 0 [.b v] t = [.row none 1 n (setG (fun i=>[.b (g i)]) j 0 [.b v])] := by
   simp only [List.nil_append,updG,setC,if_true,e,nthN,List.set]
  rw [e1]
  unfold teqs
  refine ⟨?_,by unfold teqs; rfl⟩
  unfold teq
  refine ⟨rfl,rfl,fun i hi=>teqs_of ?_⟩
  have := hg rfl i hi
  unfold setG
  by_cases e : i = j
  ·subst e; rw [if_pos rfl] at this ⊢; show [AV.b v] = [AV.b (g' i)]; rw [this]
  ·rw [if_neg e] at this ⊢; show [AV.b (g i)] = [AV.b (g' i)]; rw [this]
 ·rw [h2 q]
  have e1 : updG ([] ++ [(a,0)]) G j 0 [.b v] t = G t := by
   simp only [List.nil_append,updG,setC,if_neg q]
  rw [e1]
  exact teqs_refl _
theorem Gives.wk {o : Os} {v r : AV} (h : wk v r) (hn : noOwn v = true) : Gives o v o r [] := by
 refine ⟨List.Sublist.refl _,fun S β w u ho hr=>⟨W0,List.nodup_nil,(fun k hk=>by cases hk),fun S' β' _ hS _=>⟨wk_ok _ _ _ h (rel_W0 (rel_mono ⟨Nat.le_refl _,fun k hk hs=>⟨hS k hk hs,rfl⟩⟩ _ _ (noOwn_rel hn hr))),fun id ob hl=>by simp [lk] at hl⟩⟩⟩
theorem oL_frz {α : Type} [Enc α] {f : FuncId} {args : List AV} {d : Nat} {l : List α} (hid : ∀ id,men id (eL l) = false) (h : ASpec Tryz.prog f args (.orow d (Enc.sz α) 0 l.length) [(d,oL l)]) : ASpec Tryz.prog f args (eL l) [] :=
 h.gives (.freeze (N := l.length) (q := none) (e' := Enc.sz α) (g := fun i=>Enc.enc (l.getD i Enc.d)) (by rw [lk_cons,if_pos rfl]; rfl) (by omega) rfl (fun i _=>rfl) rfl) (Clo.row0 hid) (by simp)
open Pl (Vl)
theorem row_len {ws : List Int} {xs : List Vl} (h : ws.length = xs.length) : (Pl.row ws xs).length = xs.length := Pl.row_length h
theorem row_at {ws : List Int} {xs : List Vl} {j : Nat} (h : ws.length = xs.length) (hj : j < xs.length) : (Pl.row ws xs)[j]? = some (Pl.norm (ws.getD j Enc.d) (xs.getD j Enc.d)) := by
 unfold Pl.row
 rw [List.getElem?_zipWith,List.getElem?_eq_getElem (by omega),List.getElem?_eq_getElem hj]
 simp [List.getD_eq_getElem?_getD,List.getElem?_eq_getElem hj,List.getElem?_eq_getElem (show j < ws.length by omega)]
theorem fill_zero {ws : List Int} {xs : List Vl} {i : Nat} : (Pl.fill ws xs 0).getD i Enc.d = Vl.zero := by
 have e : Pl.fill ws xs 0 = List.replicate xs.length Vl.zero := by unfold Pl.fill; simp
 rw [e,List.getD_eq_getElem?_getD,List.getElem?_replicate]
 split <;> rfl
theorem setF_self {g : Nat -> List AV} {i : Nat} {xs : List AV} : setF g i xs i = xs := if_pos rfl
theorem wkX (x : InsE) : wk (eS x) (eS x) := ⟨⟨rfl,rfl⟩,⟨rfl,rfl⟩,⟨rfl,rfl⟩,⟨rfl,rfl⟩,⟨rfl,rfl⟩,⟨rfl,rfl,fun i _=>⟨⟨rfl,rfl⟩,⟨rfl,rfl⟩,⟨rfl,rfl⟩,trivial⟩⟩,⟨rfl,rfl,fun i _=>⟨⟨rfl,rfl⟩,trivial⟩⟩,trivial⟩
def madeF (x : InsE) (ws : List Int) (xs : List Vl) (j : Nat) : Vl × Int :=
 bif Pl.isDiv x.op && Pl.divisor x.op x.t ((Pl.fill ws xs j).getD 0 Enc.d) ((Pl.fill ws xs j).getD 1 Enc.d) != 0 then (Vl.zero,Pl.divisor x.op x.t ((Pl.fill ws xs j).getD 0 Enc.d) ((Pl.fill ws xs j).getD 1 Enc.d))
 else bif x.op == 24 then (bif Pl.has 0 ws xs j then (Pl.any,0) else ((Pl.fill ws xs j).getD 0 Enc.d,0))
 else bif x.op == 23 then (Pl.chosen ((Pl.fill ws xs j).getD 0 Enc.d) ((Pl.fill ws xs j).getD 1 Enc.d) ((Pl.fill ws xs j).getD 2 Enc.d),0)
 else bif Pl.has 0 ws xs j then (Vl.zero,0)
 else bif Pl.has 3 ws xs j then (Pl.loosely x.op x.t x.f ((Pl.fill ws xs j).getD 1 Enc.d),0)
 else Pl.clear x.op x.t x.n x.f ((Pl.fill ws xs j).getD 0 Enc.d) ((Pl.fill ws xs j).getD 1 Enc.d)
theorem fill_all {ws : List Int} {xs : List Vl} {j : Nat} (h : ws.length = xs.length) (hj : xs.length <= j) : Pl.fill ws xs j = Pl.row ws xs /\ ∀ q,Pl.has q ws xs j = (Pl.row ws xs).any (·.k == q) := by
 unfold Pl.fill Pl.has
 rw [List.take_of_length_le (by rw [row_len h]; exact hj)]
 refine ⟨?_,fun q=>rfl⟩
 rw [show xs.length - j = 0 by omega]; simp
theorem made_eq {x : InsE} {ws : List Int} {xs : List Vl} {j : Nat} (h : ws.length = xs.length) (hj : xs.length <= j) : Pl.made x.op x.t x.n x.f (Pl.row ws xs) = madeF x ws xs j := by
 unfold madeF
 rw [(fill_all h hj).1,(fill_all h hj).2,(fill_all h hj).2]; rfl
theorem set_enc {l : List Vl} {j : Nat} {y : Vl} (hj : j < l.length) (i : Nat) : setF (fun i=>Enc.enc (l.getD i Enc.d)) j (Enc.enc y) i = Enc.enc ((l.set j y).getD i Enc.d) := by
 unfold setF
 split
 ·rename_i e; subst e
  rw [List.getD_eq_getElem?_getD,List.getElem?_set_self hj]; rfl
 ·rename_i e
  show Enc.enc (l.getD i Enc.d) = _
  rw [List.getD_eq_getElem?_getD,List.getD_eq_getElem?_getD,List.getElem?_set_ne (fun h=>e h.symm)]
theorem fill_rng {ws : List Int} {xs : List Vl} {j : Nat} (h : ws.length = xs.length) (hj : xs.length <= j) (hr : ∀ i,0 <= (xs.getD i Enc.d).b /\ (xs.getD i Enc.d).b < 18446744073709551616) (i : Nat) : 0 <= ((Pl.fill ws xs j).getD i Enc.d).b /\ ((Pl.fill ws xs j).getD i Enc.d).b < 18446744073709551616 := by
 rw [(fill_all h hj).1]
 rcases Nat.lt_or_ge i xs.length with hi|hi
 ·rw [List.getD_eq_getElem?_getD,row_at h hi]
  exact norm_rng _ _ (hr i).1 (hr i).2
 ·rw [List.getD_eq_getElem?_getD,List.getElem?_eq_none (by rw [row_len h]; exact hi)]
  exact ⟨by decide,by decide⟩
theorem Eval_P (x : InsE) (xs : List Vl) (hn : xs.length < 4294967296) (hr : ∀ i,0 <= (xs.getD i Enc.d).b /\ (xs.getD i Enc.d).b < 18446744073709551616) (hf : inI x.f) :
  ASpec Tryz.prog 59 [eS x,eL xs] (.tup [eS (Pl.eval x.op x.t x.n x.f xs).1,.i .i64 (Pl.eval x.op x.t x.n x.f xs).2]) [] := by
 have key : ∀ {y : Vl} {e : Int},Pl.eval x.op x.t x.n x.f xs = (y,e) -> AV.tup [eS y,.i .i64 e] = .tup [eS (Pl.eval x.op x.t x.n x.f xs).1,.i .i64 (Pl.eval x.op x.t x.n x.f xs).2] := fun h=>by rw [h]
 have hK := kinds_P x
 cases hk : Pl.kinds x.op x.t x.n x.f with
 | none =>
  rw [hk] at hK
  have e1 : Pl.eval x.op x.t x.n x.f xs = (⟨0,0,0,0⟩,3) := by unfold Pl.eval; rw [hk]; rfl
  refine ASpec.enter TYok mixed Tryz.func59 rfl Tryz.call59 Tryz.ntmps59 rfl (rs := [.cell 4 91,.tmp 5]) rfl (nodupB_ok rfl) (Clo.one rfl) (keep := [0,1,2,4,5,6,7,8,9,10,11,12,28,29,30]) ?_; conv=>whnf
  repeat' first|(refine iF (fun hb=>?_) (fun hb=>?_) <;> (try simp only [yv] at hb) <;> (have hc := hb; try simp only [sB,Int.reduceToNat] at hc; try simp only [addZ0] at hc) <;> first|(exfalso; omega)|conv=>whnf)|((first|refine ya ?_|refine yb ?_|refine yc ?_|refine yd ?_|refine yf ?_|refine yh ?_|refine yj ?_|refine dD ?_|refine dF ?_|refine d0 ?_|refine d1 ?_|refine dL ?_|refine dP ?_|refine yl ?_|refine ym ?_|refine yn ?_|refine ⟨_,fun _=>(IntKind.wrap_u64 _).symm,?_⟩); conv=>whnf)|((first|refine cK (fun _=>hK) ?_|((try (refine CallW.lent ?_; (conv=>whnf); repeat (refine yb ?_; (conv=>whnf)))); refine cL (fun _=>hK) ?_)); conv=>whnf)|(refine yt ?_; conv=>whnf)|exact ⟨_,.keep rfl rfl⟩|fail
  ·exact ⟨_,.keep (key e1) rfl⟩
  ·simp at hb
 | some ws =>
  obtain ⟨e0,hne⟩ := kindsL_ne hk
  rw [hk,e0] at hK
  obtain ⟨hwl,hop1,hop2⟩ := Pl.kinds_len hk
  have hal := Pl.arity_le x.op
  have hU : ∀ p,(bif ws.length != xs.length then (Vl.zero,(3 : Int)) else Pl.made x.op x.t x.n x.f (Pl.row ws xs)) = p -> Pl.eval x.op x.t x.n x.f xs = p := fun p h=>by unfold Pl.eval; rw [hk]; exact h
  refine ASpec.enter TYok mixed Tryz.func59 rfl Tryz.call59 Tryz.ntmps59 rfl (rs := [.cell 4 91,.tmp 5]) rfl (nodupB_ok rfl) (Clo.one rfl) (keep := [0,1,2,4,5,6,7,8,9,10,11,12,28,29,30]) ?_; conv=>whnf
  repeat' first|(refine iF (fun hb=>?_) (fun hb=>?_) <;> (try simp only [yv] at hb) <;> (have hc := hb; try simp only [sB,Int.reduceToNat] at hc; try simp only [addZ0] at hc) <;> first|(exfalso; omega)|conv=>whnf)|((first|refine ya ?_|refine yb ?_|refine yc ?_|refine yd ?_|refine yf ?_|refine yh ?_|refine yj ?_|refine dD ?_|refine dF ?_|refine d0 ?_|refine d1 ?_|refine dL ?_|refine dP ?_|refine yl ?_|refine ym ?_|refine yn ?_|refine ⟨_,fun _=>(IntKind.wrap_u64 _).symm,?_⟩); conv=>whnf)|((first|refine cK (fun _=>hK) ?_|((try (refine CallW.lent ?_; (conv=>whnf); repeat (refine yb ?_; (conv=>whnf)))); refine cL (fun _=>hK) ?_)); conv=>whnf)|(refine yt ?_; conv=>whnf)|exact ⟨_,.keep rfl rfl⟩|fail
  ·exact ⟨_,.keep (key (y := ⟨0,0,0,0⟩) (e := 3) (hU _ (by rw [show (ws.length != xs.length) = true by simp at hc ⊢; omega]; rfl))) rfl⟩
  have hl : ws.length = xs.length := by simp at hc; omega
  refine lp [30,8,9] (fun j : Nat=>[.i .i64 j,.b (Pl.has 0 ws xs j),.b (Pl.has 3 ws xs j)]) (fun j=>[(27,oL (Pl.fill ws xs j)),(2,bx x),(4,bx (Enc.d : Vl))]) (fun j=>j <= xs.length) (fun j=>xs.length - j) 0 (Nat.zero_le _) ?_ fun j hj=>?_
  ·refine eP [] [] ?_ ?_ <;> repeat' first|exact eN|refine And.intro ?_ ?_
   ·rw [Pl.fill_length hl (Nat.zero_le _)]; omega
   ·intro i hi
    show _ = Enc.enc ((Pl.fill ws xs 0).getD i Enc.d)
    rw [fill_zero]; rfl
  conv=>whnf
  have h1 := Pl.fill_length hl hj
  have har : (x.op <= 19 -> xs.length = 2) /\ (20 <= x.op /\ x.op <= 22 -> xs.length = 1) /\ (x.op = 23 -> xs.length = 3) /\ (x.op = 24 -> xs.length = 1) /\ (x.op = 29 -> xs.length = 2) := by
   unfold Pl.arity at hwl
   (repeat' split at hwl) <;> omega
  have hM : xs.length <= j -> ∀ p,madeF x ws xs j = p -> Pl.eval x.op x.t x.n x.f xs = p := fun h p hp=>hU p (by rw [show (ws.length != xs.length) = false by simp [hl],cond_false,made_eq hl h]; exact hp)
  have hC : xs.length <= j -> (x.op = 29 \/ x.op < 20 -> 2 <= xs.length) -> ASpecM Tryz.prog 102 [eS x,.orow 27 4 0 (Pl.fill ws xs j).length] [(27,oL (Pl.fill ws xs j))] (.tup [eS (Pl.clear x.op x.t x.n x.f ((Pl.fill ws xs j).getD 0 Enc.d) ((Pl.fill ws xs j).getD 1 Enc.d)).1,.i .i64 (Pl.clear x.op x.t x.n x.f ((Pl.fill ws xs j).getD 0 Enc.d) ((Pl.fill ws xs j).getD 1 Enc.d)).2]) [] := fun h h' =>
   (clear_P x (Pl.fill ws xs j) (by omega) (by rw [h1]; exact h') (fill_rng hl h hr) hf).ren (swp 1001 27) (swp 1001 27) (swp_swp _ _)
  rw [h1] at hC
  have wkx : wk (eS x) (eS x) := wkX x
  have wkf : wk (.row none 4 xs.length fun i=>Enc.enc ((Pl.fill ws xs j).getD i Enc.d)) (eL (Pl.fill ws xs j)) := ⟨rfl,h1.symm,fun i _=>⟨⟨rfl,rfl⟩,⟨rfl,rfl⟩,⟨rfl,rfl⟩,⟨rfl,rfl⟩,trivial⟩⟩
  repeat' first|(refine iF (fun hb=>?_) (fun hb=>?_) <;> (try simp only [yv] at hb) <;> (have hc := hb; try simp only [sB,Int.reduceToNat] at hc; try simp only [addZ0] at hc) <;> first|(exfalso; omega)|conv=>whnf)|((first|refine ya ?_|refine yb ?_|refine yc ?_|refine yd ?_|refine yf ?_|refine yh ?_|refine yj ?_|refine dD ?_|refine dF ?_|refine d0 ?_|refine d1 ?_|refine dL ?_|refine dP ?_|refine yl ?_|refine ym ?_|refine yn ?_|refine ⟨_,fun _=>(IntKind.wrap_u64 _).symm,?_⟩); conv=>whnf)|((first|refine cK (fun _=>Norm_P _ _ (hr _).1 (hr _).2) ?_|((try (refine CallW.lent ?_; (conv=>whnf); repeat (refine yb ?_; (conv=>whnf)))); refine cL (fun _=>Norm_P _ _ (hr _).1 (hr _).2) ?_)); conv=>whnf)|((first|refine cK (fun _=>(divisor_P x (Pl.fill ws xs j) (by omega)).weak ⟨wkx,wkf,trivial⟩) ?_|((try (refine CallW.lent ?_; (conv=>whnf); repeat (refine yb ?_; (conv=>whnf)))); refine cL (fun _=>(divisor_P x (Pl.fill ws xs j) (by omega)).weak ⟨wkx,wkf,trivial⟩) ?_)); conv=>whnf)|((first|refine cK (fun _=>anyone_P) ?_|((try (refine CallW.lent ?_; (conv=>whnf); repeat (refine yb ?_; (conv=>whnf)))); refine cL (fun _=>anyone_P) ?_)); conv=>whnf)|((first|refine cK (fun _=>(chosen_P (Pl.fill ws xs j) (by omega)).weak ⟨wkf,trivial⟩) ?_|((try (refine CallW.lent ?_; (conv=>whnf); repeat (refine yb ?_; (conv=>whnf)))); refine cL (fun _=>(chosen_P (Pl.fill ws xs j) (by omega)).weak ⟨wkf,trivial⟩) ?_)); conv=>whnf)|((first|refine cK (fun _=>(loosely_P x (Pl.fill ws xs j) (by omega)).weak ⟨wkx,wkf,trivial⟩) ?_|((try (refine CallW.lent ?_; (conv=>whnf); repeat (refine yb ?_; (conv=>whnf)))); refine cL (fun _=>(loosely_P x (Pl.fill ws xs j) (by omega)).weak ⟨wkx,wkf,trivial⟩) ?_)); conv=>whnf)|(refine yt ?_; conv=>whnf)|exact ⟨_,.keep rfl rfl⟩|fail
  ·rw [setF_self]
   conv=>whnf
   repeat' first|(refine iF (fun hb=>?_) (fun hb=>?_) <;> (try simp only [yv] at hb) <;> (have hc := hb; try simp only [sB,Int.reduceToNat] at hc; try simp only [addZ0] at hc) <;> first|(exfalso; omega)|conv=>whnf)|((first|refine ya ?_|refine yb ?_|refine yc ?_|refine yd ?_|refine yf ?_|refine yh ?_|refine yj ?_|refine dD ?_|refine dF ?_|refine d0 ?_|refine d1 ?_|refine dL ?_|refine dP ?_|refine yl ?_|refine ym ?_|refine yn ?_|refine ⟨_,fun _=>(IntKind.wrap_u64 _).symm,?_⟩); conv=>whnf)|(refine yt ?_; conv=>whnf)|exact ⟨_,.keep rfl rfl⟩|fail
   rw [setF_self]
   conv=>whnf
   repeat' first|(refine iF (fun hb=>?_) (fun hb=>?_) <;> (try simp only [yv] at hb) <;> (have hc := hb; try simp only [sB,Int.reduceToNat] at hc; try simp only [addZ0] at hc) <;> first|(exfalso; omega)|conv=>whnf)|((first|refine ya ?_|refine yb ?_|refine yc ?_|refine yd ?_|refine yf ?_|refine yh ?_|refine yj ?_|refine dD ?_|refine dF ?_|refine d0 ?_|refine d1 ?_|refine dL ?_|refine dP ?_|refine yl ?_|refine ym ?_|refine yn ?_|refine ⟨_,fun _=>(IntKind.wrap_u64 _).symm,?_⟩); conv=>whnf)|(refine yt ?_; conv=>whnf)|exact ⟨_,.keep rfl rfl⟩|fail
   have hjl : j < xs.length := by omega
   have ha := row_at hl hjl
   refine .mk (j + 1) (by omega) (by omega) ?_
   refine eP [] [] ?_ ?_ <;> repeat' first|exact eN|refine And.intro ?_ ?_
   ·show pickB _ _ _ _ _ = _
    rw [pickB_or,Pl.has_succ 0 ha]; rfl
   ·show pickB _ _ _ _ _ = _
    rw [pickB_or,Pl.has_succ 3 ha]; rfl
   ·exact h1.trans (Pl.fill_length hl hjl).symm
   ·intro i hi
    show setF _ _ _ i = Enc.enc ((Pl.fill ws xs (j + 1)).getD i Enc.d)
    rw [<- Pl.fill_succ hl ha,show addZ 0 ((j : Int)).toNat = j by simp [addZ]]
    exact set_enc (by omega) i
  ·exact ⟨_,.keep (key (y := ⟨0,0,0,0⟩) (e := Pl.divisor x.op x.t ((Pl.fill ws xs j).getD 0 Enc.d) ((Pl.fill ws xs j).getD 1 Enc.d)) (hM (by omega) _ (by unfold madeF Pl.isDiv; simp only [Bool.cond_eq_ite,bne_iff_ne,ne_eq,beq_iff_eq,Bool.or_eq_true,Bool.and_eq_true,decide_eq_true_eq,Bool.not_eq_true',decide_eq_false_iff_not]; (repeat' split) <;> first|rfl|(exfalso; omega)|contradiction|(simp_all; done)))) rfl⟩
  ·exact ⟨_,.keep (key (y := ⟨0,0,0,0⟩) (e := 0) (hM (by omega) _ (by unfold madeF Pl.isDiv; simp only [Bool.cond_eq_ite,bne_iff_ne,ne_eq,beq_iff_eq,Bool.or_eq_true,Bool.and_eq_true,decide_eq_true_eq,Bool.not_eq_true',decide_eq_false_iff_not]; (repeat' split) <;> first|rfl|(exfalso; omega)|contradiction|(simp_all; done)))) rfl⟩
  ·exact ⟨_,.keep (key (y := Pl.loosely x.op x.t x.f ((Pl.fill ws xs j).getD 1 Enc.d)) (e := 0) (hM (by omega) _ (by unfold madeF Pl.isDiv; simp only [Bool.cond_eq_ite,bne_iff_ne,ne_eq,beq_iff_eq,Bool.or_eq_true,Bool.and_eq_true,decide_eq_true_eq,Bool.not_eq_true',decide_eq_false_iff_not]; (repeat' split) <;> first|rfl|(exfalso; omega)|contradiction|(simp_all; done)))) rfl⟩
  ·repeat' first|(refine iF (fun hb=>?_) (fun hb=>?_) <;> (try simp only [yv] at hb) <;> (have hc := hb; try simp only [sB,Int.reduceToNat] at hc; try simp only [addZ0] at hc) <;> first|(exfalso; omega)|conv=>whnf)|((first|refine ya ?_|refine yb ?_|refine And.intro ⟨rfl,fun _ _=>rfl⟩ ?_|refine And.intro (⟨⟨rfl,rfl⟩,by omega⟩ : (_ = _ /\ _ = _) /\ _) ?_|refine And.intro (⟨rfl,by omega⟩ : _ = _ /\ _) ?_|refine yc ?_|refine ye ?_|refine yf ?_|refine yi ?_|refine yk ?_|refine dE ?_|refine dD ?_|refine dF ?_|refine d0 ?_|refine d1 ?_|refine dL ?_|refine dP ?_|refine yl ?_|refine ym ?_|refine yn ?_|refine ⟨_,fun _=>(IntKind.wrap_u64 _).symm,?_⟩); conv=>whnf)|(refine CallW.own ?_; (conv=>whnf); refine cM (hC (by omega) (by omega)) ?_; conv=>whnf)|(refine yt ?_; conv=>whnf)|exact ⟨_,.keep rfl rfl⟩|fail
   exact ⟨_,.keep (key (y := (Pl.clear x.op x.t x.n x.f ((Pl.fill ws xs j).getD 0 Enc.d) ((Pl.fill ws xs j).getD 1 Enc.d)).1) (e := (Pl.clear x.op x.t x.n x.f ((Pl.fill ws xs j).getD 0 Enc.d) ((Pl.fill ws xs j).getD 1 Enc.d)).2) (hM (by omega) _ (by unfold madeF Pl.isDiv; simp only [Bool.cond_eq_ite,bne_iff_ne,ne_eq,beq_iff_eq,Bool.or_eq_true,Bool.and_eq_true,decide_eq_true_eq,Bool.not_eq_true',decide_eq_false_iff_not]; (repeat' split) <;> first|rfl|(exfalso; omega)|contradiction|(simp_all; done)))) rfl⟩
  ·exact ⟨_,.keep (key (y := Pl.any) (e := 0) (hM (by omega) _ (by unfold madeF Pl.isDiv; simp only [Bool.cond_eq_ite,bne_iff_ne,ne_eq,beq_iff_eq,Bool.or_eq_true,Bool.and_eq_true,decide_eq_true_eq,Bool.not_eq_true',decide_eq_false_iff_not]; (repeat' split) <;> first|rfl|(exfalso; omega)|contradiction|(simp_all; done)))) rfl⟩
  ·exact ⟨_,.keep (key (y := ((Pl.fill ws xs j).getD 0 Enc.d)) (e := 0) (hM (by omega) _ (by unfold madeF Pl.isDiv; simp only [Bool.cond_eq_ite,bne_iff_ne,ne_eq,beq_iff_eq,Bool.or_eq_true,Bool.and_eq_true,decide_eq_true_eq,Bool.not_eq_true',decide_eq_false_iff_not]; (repeat' split) <;> first|rfl|(exfalso; omega)|contradiction|(simp_all; done)))) rfl⟩
  ·exact ⟨_,.keep (key (y := Pl.chosen ((Pl.fill ws xs j).getD 0 Enc.d) ((Pl.fill ws xs j).getD 1 Enc.d) ((Pl.fill ws xs j).getD 2 Enc.d)) (e := 0) (hM (by omega) _ (by unfold madeF Pl.isDiv; simp only [Bool.cond_eq_ite,bne_iff_ne,ne_eq,beq_iff_eq,Bool.or_eq_true,Bool.and_eq_true,decide_eq_true_eq,Bool.not_eq_true',decide_eq_false_iff_not]; (repeat' split) <;> first|rfl|(exfalso; omega)|contradiction|(simp_all; done)))) rfl⟩
  ·exact ⟨_,.keep (key (y := ⟨0,0,0,0⟩) (e := 0) (hM (by omega) _ (by unfold madeF Pl.isDiv; simp only [Bool.cond_eq_ite,bne_iff_ne,ne_eq,beq_iff_eq,Bool.or_eq_true,Bool.and_eq_true,decide_eq_true_eq,Bool.not_eq_true',decide_eq_false_iff_not]; (repeat' split) <;> first|rfl|(exfalso; omega)|contradiction|(simp_all; done)))) rfl⟩
  ·exact ⟨_,.keep (key (y := Pl.loosely x.op x.t x.f ((Pl.fill ws xs j).getD 1 Enc.d)) (e := 0) (hM (by omega) _ (by unfold madeF Pl.isDiv; simp only [Bool.cond_eq_ite,bne_iff_ne,ne_eq,beq_iff_eq,Bool.or_eq_true,Bool.and_eq_true,decide_eq_true_eq,Bool.not_eq_true',decide_eq_false_iff_not]; (repeat' split) <;> first|rfl|(exfalso; omega)|contradiction|(simp_all; done)))) rfl⟩
  ·repeat' first|(refine iF (fun hb=>?_) (fun hb=>?_) <;> (try simp only [yv] at hb) <;> (have hc := hb; try simp only [sB,Int.reduceToNat] at hc; try simp only [addZ0] at hc) <;> first|(exfalso; omega)|conv=>whnf)|((first|refine ya ?_|refine yb ?_|refine And.intro ⟨rfl,fun _ _=>rfl⟩ ?_|refine And.intro (⟨⟨rfl,rfl⟩,by omega⟩ : (_ = _ /\ _ = _) /\ _) ?_|refine And.intro (⟨rfl,by omega⟩ : _ = _ /\ _) ?_|refine yc ?_|refine ye ?_|refine yf ?_|refine yi ?_|refine yk ?_|refine dE ?_|refine dD ?_|refine dF ?_|refine d0 ?_|refine d1 ?_|refine dL ?_|refine dP ?_|refine yl ?_|refine ym ?_|refine yn ?_|refine ⟨_,fun _=>(IntKind.wrap_u64 _).symm,?_⟩); conv=>whnf)|(refine CallW.own ?_; (conv=>whnf); refine cM (hC (by omega) (by omega)) ?_; conv=>whnf)|(refine yt ?_; conv=>whnf)|exact ⟨_,.keep rfl rfl⟩|fail
   exact ⟨_,.keep (key (y := (Pl.clear x.op x.t x.n x.f ((Pl.fill ws xs j).getD 0 Enc.d) ((Pl.fill ws xs j).getD 1 Enc.d)).1) (e := (Pl.clear x.op x.t x.n x.f ((Pl.fill ws xs j).getD 0 Enc.d) ((Pl.fill ws xs j).getD 1 Enc.d)).2) (hM (by omega) _ (by unfold madeF Pl.isDiv; simp only [Bool.cond_eq_ite,bne_iff_ne,ne_eq,beq_iff_eq,Bool.or_eq_true,Bool.and_eq_true,decide_eq_true_eq,Bool.not_eq_true',decide_eq_false_iff_not]; (repeat' split) <;> first|rfl|(exfalso; omega)|contradiction|(simp_all; done)))) rfl⟩
theorem find_take {α : Type} {p : α -> Bool} (d : α) : ∀ {l : List α} {q : Nat},q < l.length -> (∀ i,i < q -> p (l.getD i d) = false) -> p (l.getD q d) = true -> l.find? p = some (l.getD q d)
 | x :: l,0,_,_,h=>by simp at h ⊢; simp [h]
 | x :: l,q + 1,hq,hn,h=>by
  rw [List.find?_cons,show p x = false from hn 0 (by omega)]
  exact find_take d (by simpa using hq) (fun i hi=>hn (i + 1) (by omega)) h
theorem find_no {α : Type} {p : α -> Bool} (d : α) {l : List α} (hn : ∀ i,i < l.length -> p (l.getD i d) = false) : l.find? p = none := by
 rw [List.find?_eq_none]; intro x hx
 obtain ⟨i,h,rfl⟩ := List.getElem_of_mem hx
 have := hn i h
 rw [List.getD_eq_getElem?_getD,List.getElem?_eq_getElem h] at this
 simpa using this
theorem getD_map {α β : Type} (g : α -> β) (l : List α) (i : Nat) (d : α) (e : β) (h : g d = e) : (l.map g).getD i e = g (l.getD i d) := by
 subst h; rw [List.getD_eq_getElem?_getD,List.getD_eq_getElem?_getD,List.getElem?_map]; cases l[i]? <;> rfl
def dfP (reg : Int) (p : InsE × Plc) : Bool := decide (p.1.reg = reg) && !decide (Result p.1 = 0)
def noP : InsE × Plc := (Enc.d,Enc.d)
def Def (f : FnE) (reg : Int) : Plc × Bool := match (Code f).find? (dfP reg) with
 | some p=>(p.2,true)
 | none=>(⟨0,0,0⟩,false)
theorem Code_siz (f : FnE) : (Code f).length <= siz f := by
 unfold Code
 rcases Nat.eq_zero_or_pos f.blocks.length with h|h
 ·rw [h]; exact Nat.zero_le _
 ·obtain ⟨n,hn⟩ : ∃ n,f.blocks.length = n + 1 := ⟨f.blocks.length - 1,by omega⟩
  rw [hn,codeTo_next]; exact codeTo_siz f n _ (by omega) (Nat.le_refl _)
theorem Def_S (f : FnE) (reg : Int) (hs : siz f < 4294967296) : ASpec Tryz.prog 74 [eS f,.i .i64 reg] (.tup [eS (Def f reg).1,.b (Def f reg).2]) [] := by
 have h1 := Code_siz f
 have h2 : ((Code f).map Prod.fst).length = (Code f).length := List.length_map _
 have h3 : ((Code f).map Prod.snd).length = (Code f).length := List.length_map _
 refine ASpec.enter TYok mixed Tryz.func74 rfl Tryz.call74 Tryz.ntmps74 rfl (rs := [.cell 4 28,.tmp 5]) rfl (nodupB_ok rfl) (Clo.one rfl) (keep := [0,1,2,4,5,6,7,8]) ?_; conv=>whnf
 repeat' first|(refine iF (fun hb=>?_) (fun hb=>?_) <;> (try simp only [yv] at hb) <;> (have hc := hb; try simp only [sB,Int.reduceToNat] at hc; try simp only [addZ0] at hc) <;> first|(exfalso; omega)|conv=>whnf)|((first|refine ya ?_|refine yb ?_|refine yc ?_|refine yd ?_|refine yf ?_|refine yh ?_|refine yj ?_|refine dD ?_|refine dF ?_|refine d0 ?_|refine d1 ?_|refine dL ?_|refine dP ?_|refine yl ?_|refine ym ?_|refine yn ?_|refine ⟨_,fun _=>(IntKind.wrap_u64 _).symm,?_⟩); conv=>whnf)|((first|refine cK (fun _=>Code_S 40 41 (by decide) f hs) ?_|((try (refine CallW.lent ?_; (conv=>whnf); repeat (refine yb ?_; (conv=>whnf)))); refine cL (fun _=>Code_S 40 41 (by decide) f hs) ?_)); conv=>whnf)|(refine yt ?_; conv=>whnf)|exact ⟨_,.keep rfl rfl⟩|fail
 refine lp [8] (fun q : Nat=>[.i .i64 q]) (fun q=>[(40,oL ((Code f).map Prod.fst)),(41,oL ((Code f).map Prod.snd)),(2,bx f),(4,bx (Enc.d : Plc))]) (fun q=>q <= (Code f).length /\ ∀ i,i < q -> dfP reg ((Code f).getD i noP) = false) (fun q=>(Code f).length - q) 0 ⟨by omega,fun i h=>by omega⟩ ?_ fun q hq=>?_
 ·refine eP [] [] ?_ ?_ <;> repeat' first|exact eN|refine And.intro ?_ ?_
 conv=>whnf
 obtain ⟨hq,hv⟩ := hq
 have h4 := getD_map Prod.fst (Code f) q noP Enc.d rfl
 have h5 := getD_map Prod.snd (Code f) q noP Enc.d rfl
 repeat' first|(refine iF (fun hb=>?_) (fun hb=>?_) <;> (try simp only [yv] at hb) <;> (have hc := hb; try simp only [sB,Int.reduceToNat] at hc; try simp only [addZ0] at hc) <;> first|(exfalso; omega)|conv=>whnf)|((first|refine ya ?_|refine yb ?_|refine yc ?_|refine yd ?_|refine yf ?_|refine yh ?_|refine yj ?_|refine dD ?_|refine dF ?_|refine d0 ?_|refine d1 ?_|refine dL ?_|refine dP ?_|refine yl ?_|refine ym ?_|refine yn ?_|refine ⟨_,fun _=>(IntKind.wrap_u64 _).symm,?_⟩); conv=>whnf)|((first|refine cK (fun _=>Result_S _) ?_|((try (refine CallW.lent ?_; (conv=>whnf); repeat (refine yb ?_; (conv=>whnf)))); refine cL (fun _=>Result_S _) ?_)); conv=>whnf)|(refine yt ?_; conv=>whnf)|exact ⟨_,.keep rfl rfl⟩|fail
 ·have e : Def f reg = (((Code f).getD q noP).2,true) := by
   unfold Def; rw [find_take noP (by omega) hv (by unfold dfP; rw [<- h4]; exact hb)]
  exact ⟨_,.keep (by rw [e,<- h5]; rfl) rfl⟩
 ·refine .mk (q + 1) ⟨by omega,all_step hv (by unfold dfP; rw [<- h4]; exact hb)⟩ (by omega) ?_
  refine eP [] [] ?_ ?_ <;> repeat' first|exact eN|refine And.intro ?_ ?_
 ·have e : Def f reg = (⟨0,0,0⟩,false) := by unfold Def; rw [find_no noP fun i hi=>hv i (by omega)]
  exact ⟨_,.keep (by rw [e]; rfl) rfl⟩
theorem BlkE.ext1 : ∀ {x y : BlkE},x.code = y.code -> x = y
 | ⟨_⟩,⟨_⟩,rfl=>rfl
theorem Funcs_S (a b : FnE) (ha : siz a < 4294967296) : ASpec Tryz.prog 13 [eS a,eS b] (.b (decide (a = b))) [] := by
 have h1 := blocks_le a
 have h2 := params_le a
 refine ASpec.enter TYok mixed Tryz.func13 rfl Tryz.call13 Tryz.ntmps13 rfl (rs := [.tmp 4]) rfl (nodupB_ok rfl) (Clo.one rfl) (keep := [0,1,2,3,4,5,6,7,8]) ?_; conv=>whnf
 repeat' first|(refine iF (fun hb=>?_) (fun hb=>?_) <;> (try simp only [yv] at hb) <;> (have hc := hb; try simp only [sB,Int.reduceToNat] at hc; try simp only [addZ0] at hc) <;> first|(exfalso; omega)|conv=>whnf)|((first|refine ya ?_|refine yb ?_|refine yc ?_|refine yd ?_|refine yf ?_|refine yh ?_|refine yj ?_|refine dD ?_|refine dF ?_|refine d0 ?_|refine d1 ?_|refine dL ?_|refine dP ?_|refine yl ?_|refine ym ?_|refine yn ?_|refine ⟨_,fun _=>(IntKind.wrap_u64 _).symm,?_⟩); conv=>whnf)|((first|refine cK (fun _=>Ints_S _ _ (by omega)) ?_|((try (refine CallW.lent ?_; (conv=>whnf); repeat (refine yb ?_; (conv=>whnf)))); refine cL (fun _=>Ints_S _ _ (by omega)) ?_)); conv=>whnf)|(refine yt ?_; conv=>whnf)|exact ⟨_,.keep rfl rfl⟩|fail
 ·refine ⟨_,.keep (congrArg AV.b (decide_eq_false fun e=>?_).symm) rfl⟩
  subst e; simp at hb
 refine lp [6] (fun q : Nat=>[.i .i64 q]) (fun q=>[(2,bx a),(3,bx b)]) (fun q=>q <= a.blocks.length /\ ∀ i,i < q -> a.blocks.getD i Enc.d = b.blocks.getD i Enc.d) (fun q=>a.blocks.length - q) 0 ⟨by omega,fun i h=>by omega⟩ ?_ fun q hq=>?_
 ·refine eP [] [] ?_ ?_ <;> repeat' first|exact eN|refine And.intro ?_ ?_
 conv=>whnf
 obtain ⟨hq,hv⟩ := hq
 have h3 := code_le a q
 repeat' first|(refine iF (fun hb=>?_) (fun hb=>?_) <;> (try simp only [yv] at hb) <;> (have hc := hb; try simp only [sB,Int.reduceToNat] at hc; try simp only [addZ0] at hc) <;> first|(exfalso; omega)|conv=>whnf)|((first|refine ya ?_|refine yb ?_|refine yc ?_|refine yd ?_|refine yf ?_|refine yh ?_|refine yj ?_|refine dD ?_|refine dF ?_|refine d0 ?_|refine d1 ?_|refine dL ?_|refine dP ?_|refine yl ?_|refine ym ?_|refine yn ?_|refine ⟨_,fun _=>(IntKind.wrap_u64 _).symm,?_⟩); conv=>whnf)|(refine yt ?_; conv=>whnf)|exact ⟨_,.keep rfl rfl⟩|fail
 ·refine ⟨_,.keep (congrArg AV.b (decide_eq_false fun e=>hc ?_).symm) rfl⟩
  rw [e]
 ·refine lp [7] (fun k : Nat=>[.i .i64 k]) (fun k=>[(2,bx a),(3,bx b)]) (fun k=>k <= (a.blocks.getD q Enc.d).code.length /\ ∀ i,i < k -> (a.blocks.getD q Enc.d).code.getD i Enc.d = (b.blocks.getD q Enc.d).code.getD i Enc.d) (fun k=>(a.blocks.getD q Enc.d).code.length - k) 0 ⟨by omega,fun i h=>by omega⟩ ?_ fun k hk=>?_
  ·refine eP [] [] ?_ ?_ <;> repeat' first|exact eN|refine And.intro ?_ ?_
  conv=>whnf
  obtain ⟨hk,hw⟩ := hk
  have h4 := ins_le a q k
  repeat' first|(refine iF (fun hb=>?_) (fun hb=>?_) <;> (try simp only [yv] at hb) <;> (have hc := hb; try simp only [sB,Int.reduceToNat] at hc; try simp only [addZ0] at hc) <;> first|(exfalso; omega)|conv=>whnf)|((first|refine ya ?_|refine yb ?_|refine yc ?_|refine yd ?_|refine yf ?_|refine yh ?_|refine yj ?_|refine dD ?_|refine dF ?_|refine d0 ?_|refine d1 ?_|refine dL ?_|refine dP ?_|refine yl ?_|refine ym ?_|refine yn ?_|refine ⟨_,fun _=>(IntKind.wrap_u64 _).symm,?_⟩); conv=>whnf)|((first|refine cK (fun _=>Instrs_S _ _ (Nat.lt_of_le_of_lt h4 ha)) ?_|((try (refine CallW.lent ?_; (conv=>whnf); repeat (refine yb ?_; (conv=>whnf)))); refine cL (fun _=>Instrs_S _ _ (Nat.lt_of_le_of_lt h4 ha)) ?_)); conv=>whnf)|(refine yt ?_; conv=>whnf)|exact ⟨_,.keep rfl rfl⟩|fail
  ·exact ⟨_,.keep (congrArg AV.b (decide_eq_false fun e=>hc (by rw [e])).symm) rfl⟩
  ·refine .mk (k + 1) ⟨by omega,all_step hw hc⟩ (by omega) ?_
   refine eP [] [] ?_ ?_ <;> repeat' first|exact eN|refine And.intro ?_ ?_
  ·refine .mk (q + 1) ⟨by omega,all_step hv (BlkE.ext1 (ext_getD (by omega) fun i hi=>hw i (by omega)))⟩ (by omega) ?_
   refine eP [] [] ?_ ?_ <;> repeat' first|exact eN|refine And.intro ?_ ?_
 ·refine ⟨_,.keep (congrArg AV.b ?_) rfl⟩
  have e : a.blocks = b.blocks := ext_getD (by omega) fun i hi=>hv i (by omega)
  cases a; cases b; simp_all
def cfO (f : FnE) (b : Nat) : Os := [(1,bx f),(2,bx (Enc.d : FnE)),(3,.box none none [.s f.name,.orow 19 1 0 f.params.length,.i .i64 f.ret,.orow 73 1 0 b]),(19,oL f.params),(73,.row none 1 b fun i=>Enc.enc (f.blocks.getD i Enc.d))]
theorem CopyFunc_S (f : FnE) (hs : siz f < 4294967296) : ASpec Tryz.prog 8 [eS f] (eS f) [] := by
 have h1 := blocks_le f
 have h2 := params_le f
 refine ASpec.enter TYok mixed Tryz.func8 rfl Tryz.call8 Tryz.ntmps8 rfl (rs := [.cell 2 34]) rfl (nodupB_ok rfl) (Clo.one rfl) (keep := [0,1,2,3,4,5,6,7,8,9]) ?_; conv=>whnf
 repeat' first|(refine iF (fun hb=>?_) (fun hb=>?_) <;> (try simp only [yv] at hb) <;> (have hc := hb; try simp only [sB,Int.reduceToNat] at hc; try simp only [addZ0] at hc) <;> first|(exfalso; omega)|conv=>whnf)|((first|refine ya ?_|refine yb ?_|refine yc ?_|refine yd ?_|refine yf ?_|refine yh ?_|refine yj ?_|refine dD ?_|refine dF ?_|refine d0 ?_|refine d1 ?_|refine dL ?_|refine dP ?_|refine yl ?_|refine ym ?_|refine yn ?_|refine ⟨_,fun _=>(IntKind.wrap_u64 _).symm,?_⟩); conv=>whnf)|(refine yt ?_; conv=>whnf)|exact ⟨_,.keep rfl rfl⟩|fail
 refine lp [4] (fun b : Nat=>[.i .i64 b]) (cfO f) (fun b=>b <= f.blocks.length) (fun b=>f.blocks.length - b) 0 (by omega) ?_ fun b hb0=>?_
 ·refine eP [] [73] ?_ ?_ <;> repeat' first|exact eN|refine And.intro ?_ ?_
 conv=>whnf
 have h3 := code_le f b
 repeat' first|(refine iF (fun hb=>?_) (fun hb=>?_) <;> (try simp only [yv] at hb) <;> (have hc := hb; try simp only [sB,Int.reduceToNat] at hc; try simp only [addZ0] at hc) <;> first|(exfalso; omega)|conv=>whnf)|((first|refine ya ?_|refine yb ?_|refine yc ?_|refine yd ?_|refine yf ?_|refine yh ?_|refine yj ?_|refine dD ?_|refine dF ?_|refine d0 ?_|refine d1 ?_|refine dL ?_|refine dP ?_|refine yl ?_|refine ym ?_|refine yn ?_|refine ⟨_,fun _=>(IntKind.wrap_u64 _).symm,?_⟩); conv=>whnf)|(refine yt ?_; conv=>whnf)|exact ⟨_,.keep rfl rfl⟩|fail
 ·refine lp [6,5] (fun k : Nat=>[.i .i64 k,.orow 5 7 0 k]) (fun k=>(5,.row none 7 k fun i=>Enc.enc ((f.blocks.getD b Enc.d).code.getD i Enc.d)) :: cfO f b) (fun k=>k <= (f.blocks.getD b Enc.d).code.length) (fun k=>(f.blocks.getD b Enc.d).code.length - k) 0 (by omega) ?_ fun k hk=>?_
  ·refine eP [] [5] ?_ ?_ <;> repeat' first|exact eN|refine And.intro ?_ ?_
  conv=>whnf
  have h4 := ins_le f b k
  have h5 := args_le ((f.blocks.getD b Enc.d).code.getD k Enc.d)
  have h6 := to_le ((f.blocks.getD b Enc.d).code.getD k Enc.d)
  repeat' first|(refine iF (fun hb=>?_) (fun hb=>?_) <;> (try simp only [yv] at hb) <;> (have hc := hb; try simp only [sB,Int.reduceToNat] at hc; try simp only [addZ0] at hc) <;> first|(exfalso; omega)|conv=>whnf)|((first|refine ya ?_|refine yb ?_|refine yc ?_|refine yd ?_|refine yf ?_|refine yh ?_|refine yj ?_|refine dD ?_|refine dF ?_|refine d0 ?_|refine d1 ?_|refine dL ?_|refine dP ?_|refine yl ?_|refine ym ?_|refine yn ?_|refine ⟨_,fun _=>(IntKind.wrap_u64 _).symm,?_⟩); conv=>whnf)|(refine yt ?_; conv=>whnf)|exact ⟨_,.keep rfl rfl⟩|fail
  ·refine .mk (k + 1) (by omega) (by omega) ?_
   refine eP [(5,63)] [] ?_ ?_ <;> repeat' first|exact eN|refine And.intro ?_ ?_
   exact snoc_fun rfl
  ·obtain rfl : k = (f.blocks.getD b Enc.d).code.length := by omega
   refine .mk (b + 1) (by omega) (by omega) ?_
   refine eP [(73,69)] [] ?_ ?_ <;> repeat' first|exact eN|refine And.intro ?_ ?_
   exact snoc_fun rfl
 ·have e : b = f.blocks.length := by omega
  subst e
  exact ⟨_,.agg (.cons (.keep rfl rfl) (.cons (.freeze rfl (by omega) rfl (fun _ _=>rfl) rfl) (.cons (.keep rfl rfl) (.cons (.freeze rfl (by omega) rfl (fun _ _=>rfl) rfl) .nil (nodupB_ok rfl)) (nodupB_ok rfl)) (nodupB_ok rfl)) (nodupB_ok rfl))⟩
def kindB (s : ByteArray) (i : Int) : Int := if (s.size : Int) <= i then 0 else if (97 <= byteAt s i /\ byteAt s i <= 122) \/ byteAt s i = 95 then 1 else if 48 <= byteAt s i /\ byteAt s i <= 57 then 2 else 0
theorem kind_S (s : ByteArray) (i : Int) (hi : 0 <= i) : ASpec Tryz.prog 139 [.s s,.i .i64 i] (.i .i64 (kindB s i)) [] := by
 refine ASpec.enter TYok mixed Tryz.func139 rfl Tryz.call139 Tryz.ntmps139 rfl (rs := [.tmp 4]) rfl (nodupB_ok rfl) (Clo.one rfl) (keep := [0,1,4,5]) ?_; conv=>whnf
 repeat' first|(refine iF (fun hb=>?_) (fun hb=>?_) <;> (try simp only [yv] at hb) <;> (have hc := hb; try simp only [sB,Int.reduceToNat] at hc; try simp only [addZ0] at hc) <;> first|(exfalso; omega)|conv=>whnf)|((first|refine ya ?_|refine yb ?_|refine yc ?_|refine yd ?_|refine yf ?_|refine yh ?_|refine yj ?_|refine dD ?_|refine dF ?_|refine d0 ?_|refine d1 ?_|refine dL ?_|refine dP ?_|refine yl ?_|refine ym ?_|refine yn ?_|refine ⟨_,fun _=>(IntKind.wrap_u64 _).symm,?_⟩); conv=>whnf)|(refine yt ?_; conv=>whnf)|exact ⟨_,.keep rfl rfl⟩|fail
 all_goals exact ⟨_,.keep (by (try simp only [pickB_or,pickB_and]); unfold kindB; repeat' (first|rfl|omega|split|(simp_all; done))) rfl⟩
def runN (p : Nat -> Bool) : Nat -> Nat -> Nat
 | 0,_=>0
 | f + 1,j=>bif p j then runN p f (j + 1) + 1 else 0
theorem runN_eq {p : Nat -> Bool} : ∀ {q f a : Nat},q <= f -> (∀ j,j < q -> p (a + j) = true) -> p (a + q) = false -> runN p f a = q
 | 0,0,a,_,_,_=>rfl
 | 0,f + 1,a,_,_,h=>by rw [runN,show p a = false from h]; rfl
 | q + 1,f + 1,a,hf,hj,h=>by
  rw [runN,show p a = true from hj 0 (by omega),cond_true,runN_eq (q := q) (by omega) (fun j h'=>by rw [show a + 1 + j = a + (j + 1) by omega]; exact hj _ (by omega)) (by rw [show a + 1 + q = a + (q + 1) by omega]; exact h)]
def kp (s : ByteArray) (j : Nat) : Bool := !decide (kindB s j = 0)
def wordN (s : ByteArray) (i : Nat) : Nat := if kindB s i = 1 then runN (kp s) s.size (i + 1) + 1 else 0
theorem kind_lt {s : ByteArray} {i : Int} (h : kindB s i ≠ 0) : i < s.size := by
 unfold kindB at h; split at h
 ·exact absurd rfl h
 ·omega
theorem word_S (s : ByteArray) (i : Nat) (hi : i <= s.size) (hs : s.size < 4294967296) : ASpec Tryz.prog 113 [.s s,.i .i64 i] (.i .i64 (wordN s i)) [] := by
 refine ASpec.enter TYok mixed Tryz.func113 rfl Tryz.call113 Tryz.ntmps113 rfl (rs := [.tmp 4]) rfl (nodupB_ok rfl) (Clo.one rfl) (keep := [0,1,4,5]) ?_; conv=>whnf
 repeat' first|(refine iF (fun hb=>?_) (fun hb=>?_) <;> (try simp only [yv] at hb) <;> (have hc := hb; try simp only [sB,Int.reduceToNat] at hc; try simp only [addZ0] at hc) <;> first|(exfalso; omega)|conv=>whnf)|((first|refine ya ?_|refine yb ?_|refine yc ?_|refine yd ?_|refine yf ?_|refine yh ?_|refine yj ?_|refine dD ?_|refine dF ?_|refine d0 ?_|refine d1 ?_|refine dL ?_|refine dP ?_|refine yl ?_|refine ym ?_|refine yn ?_|refine ⟨_,fun _=>(IntKind.wrap_u64 _).symm,?_⟩); conv=>whnf)|((first|refine cK (fun _=>kind_S _ _ (by omega)) ?_|((try (refine CallW.lent ?_; (conv=>whnf); repeat (refine yb ?_; (conv=>whnf)))); refine cL (fun _=>kind_S _ _ (by omega)) ?_)); conv=>whnf)|(refine yt ?_; conv=>whnf)|exact ⟨_,.keep rfl rfl⟩|fail
 ·exact ⟨_,.keep (by (try simp only [pickB_or,pickB_and]); unfold wordN; repeat' (first|rfl|omega|split|(simp_all; done))) rfl⟩
 have h0 := kind_lt (s := s) (i := i) (by omega)
 refine lp [5] (fun q : Nat=>[.i .i64 (q + 1)]) (fun q=>[]) (fun q=>i + 1 + q <= s.size /\ ∀ j,j < q -> kp s (i + 1 + j) = true) (fun q=>s.size - q) 0 ⟨by omega,fun j h=>by omega⟩ ?_ fun q hq=>?_
 ·refine eP [] [] ?_ ?_ <;> repeat' first|exact eN|refine And.intro ?_ ?_
 conv=>whnf
 obtain ⟨hq,hv⟩ := hq
 repeat' first|(refine iF (fun hb=>?_) (fun hb=>?_) <;> (try simp only [yv] at hb) <;> (have hc := hb; try simp only [sB,Int.reduceToNat] at hc; try simp only [addZ0] at hc) <;> first|(exfalso; omega)|conv=>whnf)|((first|refine ya ?_|refine yb ?_|refine yc ?_|refine yd ?_|refine yf ?_|refine yh ?_|refine yj ?_|refine dD ?_|refine dF ?_|refine d0 ?_|refine d1 ?_|refine dL ?_|refine dP ?_|refine yl ?_|refine ym ?_|refine yn ?_|refine ⟨_,fun _=>(IntKind.wrap_u64 _).symm,?_⟩); conv=>whnf)|((first|refine cK (fun _=>kind_S _ _ (by omega)) ?_|((try (refine CallW.lent ?_; (conv=>whnf); repeat (refine yb ?_; (conv=>whnf)))); refine cL (fun _=>kind_S _ _ (by omega)) ?_)); conv=>whnf)|(refine yt ?_; conv=>whnf)|exact ⟨_,.keep rfl rfl⟩|fail
 ·have h1 := kind_lt hc
  refine .mk (q + 1) ⟨by omega,all_step hv ?_⟩ (by omega) ?_
  ·have e : ((i + 1 + q : Nat) : Int) = i + (q + 1) := by omega
   unfold kp; rw [e]; exact hb
  ·refine eP [] [] ?_ ?_ <;> repeat' first|exact eN|refine And.intro ?_ ?_
 ·have e : ((i + 1 + q : Nat) : Int) = i + (q + 1) := by omega
  refine ⟨_,.keep (congrArg (AV.i _) ?_) rfl⟩
  rw [wordN,if_pos (by omega),runN_eq (q := q) (by omega) hv (by unfold kp; rw [e]; exact hb)]; rfl
def Word (s : ByteArray) : Bool := decide (0 < (s.size : Int)) && decide ((wordN s 0 : Int) = s.size)
theorem Word_S (s : ByteArray) (hs : s.size < 4294967296) : ASpec Tryz.prog 68 [.s s] (.b (Word s)) [] := by
 refine ASpec.enter TYok mixed Tryz.func68 rfl Tryz.call68 Tryz.ntmps68 rfl (rs := [.tmp 2]) rfl (nodupB_ok rfl) (Clo.one rfl) (keep := [0,2]) ?_; conv=>whnf
 repeat' first|(refine iF (fun hb=>?_) (fun hb=>?_) <;> (try simp only [yv] at hb) <;> (have hc := hb; try simp only [sB,Int.reduceToNat] at hc; try simp only [addZ0] at hc) <;> first|(exfalso; omega)|conv=>whnf)|((first|refine ya ?_|refine yb ?_|refine yc ?_|refine yd ?_|refine yf ?_|refine yh ?_|refine yj ?_|refine dD ?_|refine dF ?_|refine d0 ?_|refine d1 ?_|refine dL ?_|refine dP ?_|refine yl ?_|refine ym ?_|refine yn ?_|refine ⟨_,fun _=>(IntKind.wrap_u64 _).symm,?_⟩); conv=>whnf)|((first|refine cK (fun _=>word_S _ 0 (by omega) hs) ?_|((try (refine CallW.lent ?_; (conv=>whnf); repeat (refine yb ?_; (conv=>whnf)))); refine cL (fun _=>word_S _ 0 (by omega) hs) ?_)); conv=>whnf)|(refine yt ?_; conv=>whnf)|exact ⟨_,.keep rfl rfl⟩|fail
theorem irResult_S (x : InsE) : ASpec Tryz.prog 61 [eS x] (.i .i64 (Result x)) [] := by
 refine ASpec.enter TYok mixed Tryz.func61 rfl Tryz.call61 Tryz.ntmps61 rfl (rs := [.tmp 2]) rfl (nodupB_ok rfl) (Clo.one rfl) (keep := [0,1,2,3]) ?_; conv=>whnf
 repeat' first|(refine iF (fun hb=>?_) (fun hb=>?_) <;> (try simp only [yv] at hb) <;> (have hc := hb; try simp only [sB,Int.reduceToNat] at hc; try simp only [addZ0] at hc) <;> first|(exfalso; omega)|conv=>whnf)|((first|refine ya ?_|refine yb ?_|refine yc ?_|refine yd ?_|refine yf ?_|refine yh ?_|refine yj ?_|refine dD ?_|refine dF ?_|refine d0 ?_|refine d1 ?_|refine dL ?_|refine dP ?_|refine yl ?_|refine ym ?_|refine yn ?_|refine ⟨_,fun _=>(IntKind.wrap_u64 _).symm,?_⟩); conv=>whnf)|(refine yt ?_; conv=>whnf)|exact ⟨_,.keep rfl rfl⟩|fail
 all_goals exact ⟨_,.keep (by (try simp only [pickB_or,pickB_and]); unfold Result; repeat' (first|rfl|omega|split|(simp_all; done))) rfl⟩
theorem mem_Code {f : FnE} {x : InsE × Plc} (h : x ∈ Code f) : ∃ b i : Nat,b < f.blocks.length /\ i < (f.blocks.getD b Enc.d).code.length /\ x = ((f.blocks.getD b Enc.d).code.getD i Enc.d,⟨0,b,i⟩) := by
 simp only [Code,codeTo,pairs,List.range_zero,List.map_nil,List.append_nil,List.mem_flatMap,List.mem_map,List.mem_range] at h
 obtain ⟨b,hb,i,hi,rfl⟩ := h
 exact ⟨b,i,hb,hi,rfl⟩
theorem Def_mem {f : FnE} {reg : Int} (h : (Def f reg).2 = true) : ∃ b i : Nat,b < f.blocks.length /\ i < (f.blocks.getD b Enc.d).code.length /\ (Def f reg).1 = ⟨0,b,i⟩ := by
 unfold Def at h ⊢
 cases hq : (Code f).find? (dfP reg) with
 | none=>rw [hq] at h; cases h
 | some p =>
  obtain ⟨b,i,hb,hi,rfl⟩ := mem_Code (List.mem_of_find?_eq_some hq)
  exact ⟨b,i,hb,hi,rfl⟩
end Go.Proofs.YtjfdbmfcnhjfoaaGreat
