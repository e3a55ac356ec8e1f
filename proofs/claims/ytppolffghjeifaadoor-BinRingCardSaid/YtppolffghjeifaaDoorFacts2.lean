/- More closed facts on the types of the program, as instances. No condition. -/
import Derived.Test.YtppolffghjeifaaDoorOps4
import Derived.Test.YtppolffghjeifaaDoorFacts
namespace Go.Proofs.YtppolffghjeifaaDoor
open Go.Sx
set_option maxRecDepth 100000
instance : BoolT Tryd.prog 4 := ⟨Tryd.underlying4⟩
instance : RowT Tryd.prog 7 4 := RowT.mk' Tryd.underlying7 rfl (by kernel_rfl)
instance : RowT Tryd.prog 8 4 := RowT.mk' Tryd.underlying8 rfl (by kernel_rfl)
instance : RowT Tryd.prog 13 2 := RowT.mk' Tryd.underlying13 rfl (by kernel_rfl)
instance : RowT Tryd.prog 14 2 := RowT.mk' Tryd.underlying14 rfl (by kernel_rfl)
instance : PtrD Tryd.prog 15 := PtrD.mk' Tryd.underlying15 (by kernel_rfl) (by kernel_rfl)
instance : PtrD Tryd.prog 17 := PtrD.mk' Tryd.underlying17 (by kernel_rfl) (by kernel_rfl)
instance : RowT Tryd.prog 18 1 := RowT.mk' Tryd.underlying18 rfl (by kernel_rfl)
instance : RowT Tryd.prog 19 1 := RowT.mk' Tryd.underlying19 rfl (by kernel_rfl)
instance : PtrD Tryd.prog 68 := PtrD.mk' Tryd.underlying68 (by kernel_rfl) (by kernel_rfl)
instance : RowT Tryd.prog 70 4 := RowT.mk' Tryd.underlying70 rfl (by kernel_rfl)
instance : RowT Tryd.prog 71 4 := RowT.mk' Tryd.underlying71 rfl (by kernel_rfl)
instance : PtrD Tryd.prog 79 := PtrD.mk' Tryd.underlying79 (by kernel_rfl) (by kernel_rfl)
instance : RowT Tryd.prog 82 11 := RowT.mk' Tryd.underlying82 rfl (by kernel_rfl)
instance : RowT Tryd.prog 83 11 := RowT.mk' Tryd.underlying83 rfl (by kernel_rfl)
instance : RowT Tryd.prog 84 1 := RowT.mk' Tryd.underlying84 rfl (by kernel_rfl)
instance : RowT Tryd.prog 85 1 := RowT.mk' Tryd.underlying85 rfl (by kernel_rfl)
end Go.Proofs.YtppolffghjeifaaDoor
