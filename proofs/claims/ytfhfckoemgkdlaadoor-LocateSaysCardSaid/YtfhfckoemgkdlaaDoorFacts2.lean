/- More closed facts on the types of the program, as instances. No condition. -/
import Derived.Test.YtfhfckoemgkdlaaDoorOps4
import Derived.Test.YtfhfckoemgkdlaaDoorFacts
namespace Go.Proofs.YtfhfckoemgkdlaaDoor
open Go.Sx
set_option maxRecDepth 100000
instance : BoolT Tryd.prog 4 := ⟨Tryd.underlying4⟩
instance : RowT Tryd.prog 7 4 := RowT.mk' Tryd.underlying7 rfl (by kernel_rfl)
instance : RowT Tryd.prog 8 4 := RowT.mk' Tryd.underlying8 rfl (by kernel_rfl)
instance : RowT Tryd.prog 13 2 := RowT.mk' Tryd.underlying13 rfl (by kernel_rfl)
instance : RowT Tryd.prog 14 2 := RowT.mk' Tryd.underlying14 rfl (by kernel_rfl)
instance : PtrD Tryd.prog 15 := PtrD.mk' Tryd.underlying15 (by kernel_rfl) (by kernel_rfl)
instance : PtrD Tryd.prog 17 := PtrD.mk' Tryd.underlying17 (by kernel_rfl) (by kernel_rfl)
instance : RowT Tryd.prog 18 1 := RowT.mk' Tryd.underlying18 rfl (by kernel_rfl)
instance : RowT Tryd.prog 19 1 := RowT.mk' Tryd.underlying19 rfl (by kernel_rfl)
instance : PtrD Tryd.prog 24 := PtrD.mk' Tryd.underlying24 (by kernel_rfl) (by kernel_rfl)
instance : PtrD Tryd.prog 50 := PtrD.mk' Tryd.underlying50 (by kernel_rfl) (by kernel_rfl)
instance : RowT Tryd.prog 75 3 := RowT.mk' Tryd.underlying75 rfl (by kernel_rfl)
instance : RowT Tryd.prog 76 3 := RowT.mk' Tryd.underlying76 rfl (by kernel_rfl)
instance : RowT Tryd.prog 81 4 := RowT.mk' Tryd.underlying81 rfl (by kernel_rfl)
instance : RowT Tryd.prog 82 4 := RowT.mk' Tryd.underlying82 rfl (by kernel_rfl)
instance : RowT Tryd.prog 89 1 := RowT.mk' Tryd.underlying89 rfl (by kernel_rfl)
instance : RowT Tryd.prog 90 1 := RowT.mk' Tryd.underlying90 rfl (by kernel_rfl)
instance : RowT Tryd.prog 94 12 := RowT.mk' Tryd.underlying94 rfl (by kernel_rfl)
instance : PtrD Tryd.prog 95 := PtrD.mk' Tryd.underlying95 (by kernel_rfl) (by kernel_rfl)
instance : RowT Tryd.prog 97 4 := RowT.mk' Tryd.underlying97 rfl (by kernel_rfl)
instance : RowT Tryd.prog 98 4 := RowT.mk' Tryd.underlying98 rfl (by kernel_rfl)
instance : PtrD Tryd.prog 106 := PtrD.mk' Tryd.underlying106 (by kernel_rfl) (by kernel_rfl)
instance : RowT Tryd.prog 109 11 := RowT.mk' Tryd.underlying109 rfl (by kernel_rfl)
instance : RowT Tryd.prog 110 11 := RowT.mk' Tryd.underlying110 rfl (by kernel_rfl)
instance : RowT Tryd.prog 111 1 := RowT.mk' Tryd.underlying111 rfl (by kernel_rfl)
instance : RowT Tryd.prog 112 1 := RowT.mk' Tryd.underlying112 rfl (by kernel_rfl)
end Go.Proofs.YtfhfckoemgkdlaaDoor
