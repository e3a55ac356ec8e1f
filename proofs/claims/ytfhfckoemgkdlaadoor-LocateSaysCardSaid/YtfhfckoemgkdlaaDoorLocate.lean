/- The contracts of package locate that need no search: shifted and Of. Conditions: the field was made by New; the list is read where it lies. -/
import Derived.Test.YtfhfckoemgkdlaaDoorSr
namespace Go.Proofs.YtfhfckoemgkdlaaDoor
open Go Go.Sx Go.Fm
set_option maxRecDepth 100000
theorem rep_nats (k : IntKind) (s : Nat) : List.replicate s (.int k 0) = nats k (List.replicate s 0) := by simp [nats]
theorem scaleP_leq (m : Nat) (a : List Nat) (c : Nat) : (scaleP m a c).length ≤ a.length := by
  unfold scaleP pl
  rw [trim_length]
  have := tl_le ((List.range a.length).map (fun j => gm m (cf a j) c))
  simpa using this
theorem nats_app (k : IntKind) (a b : List Nat) : nats k a ++ nats k b = nats k (a ++ b) := by simp [nats]

theorem shifted_spec (A : Option Addr) (c : Nat) (a : List Nat) (k : Nat) (w : World) (ha : Has (sl 1 A a.length (nats .i64 a)) w) (hn : a.length ≤ 1073741824) (hk : k ≤ 65536) : SpecL Tryd.prog 73 [.slice A a.length c, .int .i64 (k : Nat)] w (List.replicate k 0 ++ a) := by
  refine spec_of Tryd.func73 rfl Tryd.ntmps73 rfl ?_
  refine CW.seq ?_
  refine CW.reg [0] rfl ?_   -- 0, locate.go:31
  refine s_as 4 rfl rfl ?_
  refine SX.next ?_
  refine CW.seq ?_
  refine CW.reg [0, 1, 2, 3, 4] rfl ?_   -- 1, locate.go:31
  refine s_mv 5 rfl rfl ?_
  refine s_make 6 k rfl rfl rfl rfl rfl (by omega) (fun _ _ => trivial) (fun g6 => ?_)
  refine SX.pre (fun _ h => h.blkOwn (q := 0) (c := k) (sz := 1) rfl (by simp) (by unfold maxLen; omega)) ?_
  refine s_mv 7 rfl rfl ?_
  refine s_app 8 0 rfl rfl rfl rfl (ys := nats .i64 a) (fun w hw => hw.old ha) (nats_one _ _) rfl (by omega) (by unfold maxLen; omega) (by omega) (fun _ _ _ _ => trivial) (fun A2 c2 hc2 => ?_)
  refine s_as 4 rfl rfl ?_
  refine SX.next ?_
  refine CW.ret ?_
  have hl : (List.replicate k 0 ++ a).length = k + a.length := by simp
  exact KN.ret (rs := [.tmp 4]) Tryd.results73 rfl (fun w hw => ⟨(A2, c2), by rw [hl]; rfl, by rw [hl]; exact hc2, by rw [hl, ← nats_app, ← rep_nats]; exact hw.pick [0] rfl⟩)

theorem of_spec (g m : Nat) (A : Option Addr) (n c : Nat) (l : List Int) (w : World) (hm : Ok m) (hf : Has (fieldA g m) w) (ha : Has (sl 1 A n (ints .i64 l)) w) (hn : n ≤ 40) : SpecLE Tryd.prog 32 [.pointer (some ⟨g, 0, none⟩), .slice A n c] w (ofP m l l.length) := by
  have hla := ints_len ha
  subst hla
  refine spec_of Tryd.func32 rfl Tryd.ntmps32 rfl ?_
  refine CW.seq ?_
  refine CW.reg [0, 1] rfl ?_   -- 0, locate.go:72
  refine s_as 4 rfl rfl ?_
  refine s_as 5 rfl rfl ?_
  refine SX.next ?_
  refine CW.seq ?_
  refine CW.seq ?_
  refine CW.reg [0, 1, 2] rfl ?_   -- 1, locate.go:73
  refine s_mv 10 rfl rfl ?_
  refine s_len 11 rfl rfl ?_
  refine s_gt 12 rfl rfl rfl (decide_eq_false (by omega)) ?_
  refine SX.next ?_
  refine CW.condF rfl ?_
  refine CW.skip ?_
  refine KN.code ?_
  refine CW.seq ?_
  refine CW.reg [0, 1, 2] rfl ?_   -- 3, locate.go:76
  refine s_mv 14 rfl rfl ?_
  refine s_call 15 rfl rfl rfl rfl (fun w hw => ring_spec g w) (fun _ _ => trivial) (fun r hr => ?_)
  refine s_as 6 rfl rfl ?_
  refine SX.next ?_
  refine CW.seq ?_
  refine CW.reg [0, 1] rfl ?_   -- 4, locate.go:77
  refine s_bsl 16 rfl rfl (cells := #[.int .i64 1]) (by kernel_rfl) rfl (fun _ _ => trivial) (fun gb => ?_)
  refine s_as 7 rfl rfl ?_
  refine SX.next ?_
  refine CW.seq ?_
  refine CW.seq ?_
  refine CW.reg [0, 1, 2] rfl ?_   -- 5, locate.go:78
  refine s_mv 17 rfl rfl ?_
  refine s_len 18 rfl rfl ?_
  refine s_mv 19 rfl rfl ?_
  refine SX.next ?_
  refine CW.block ?_
  refine CW.loop (G := Nat × Option Addr × Nat) (fun q => [(0, .pointer (some ⟨g, 0, none⟩)), (6, .pointer (some ⟨r, 0, none⟩)), (7, .slice q.2.1 (ofP m l q.1).length q.2.2), (17, .slice A l.length c), (18, .int .i64 (l.length : Nat)), (19, .int .i64 (q.1 : Nat))]) (fun q => Sto w [own 3 1 q.2.1 (ofP m l q.1).length q.2.2 (nats .i64 (ofP m l q.1)), blk r 90 #[.pointer (some ⟨g, 0, none⟩)]]) (fun q => q.1 ≤ l.length ∧ (ofP m l q.1).length ≤ q.2.2) (fun q => l.length - q.1) (0, some ⟨gb, 0, none⟩, 1) ⟨rfl, rfl, rfl, rfl, rfl, rfl, trivial⟩ (fun _ h => h.blkOwn (q := 0) (c := 1) rfl rfl (by unfold maxLen; omega)) ⟨Nat.zero_le _, Nat.le_refl _⟩ ?_
  rintro q ⟨hq, hqc⟩
  have hpl := ofP_le hm l q.1
  have hpt := ofP_tr hm l q.1
  have hsc := scaleP_lt hm hpt.lt (exz m (l.getD q.1 0))
  have hsl := scaleP_leq m (ofP m l q.1) (exz m (l.getD q.1 0))
  refine CW.seq ?_
  refine CW.reg [0] rfl ?_   -- 6, locate.go:78
  refine s_lt 20 rfl rfl rfl rfl ?_
  refine SX.next ?_
  refine CW.seq ?_
  refine CW.test rfl (fun hc => ?_) (fun hc => ?_)
  · skip
    refine CW.skip ?_
    refine KN.code ?_
    refine CW.seq ?_
    refine CW.block ?_
    refine CW.seq ?_
    refine CW.reg [0, 1, 2] rfl ?_   -- 7, locate.go:78
    refine s_iaV 21 q.1 (fun w hw => hw.old ha) rfl rfl rfl rfl (by omega) ?_
    refine s_ldV 22 (fun w hw => hw.old ha) rfl rfl (by rw [Nat.mul_one]; exact intsAt (by omega)) (by omega) ?_
    refine s_as 9 rfl rfl ?_
    refine SX.next ?_
    refine CW.reg [0, 1, 2, 3, 4, 5, 6, 7, 8, 9, 10] rfl ?_   -- 8, locate.go:79
    refine s_mv 23 rfl rfl ?_
    refine s_mv 24 rfl rfl ?_
    refine s_mv 25 rfl rfl ?_
    refine s_mv 26 rfl rfl ?_
    refine s_mv 27 rfl rfl ?_
    refine s_mv 28 rfl rfl ?_
    refine s_call1 29 rfl rfl rfl rfl (fun w hw => exp_spec g m _ w hm (hw.old hf)) (fun _ _ => trivial) ?_
    refine s_call 30 rfl rfl rfl rfl (fun w hw => by have := scale_spec r g m q.2.1 (ofP m l q.1).length q.2.2 ((ofP m l q.1).map Int.ofNat) (exz m (l.getD q.1 0) : Nat) w hm (ring_of (hw.old hf) (hw.has (i := 1) rfl)) (by rw [← nats_ints]; exact (hw.has (i := 0) rfl).of_own) (by omega); rw [lowL_ofNat hpt.lt, lo_nat (exz_lt hm _)] at this; exact this) (fun _ _ => trivial) (fun q30 hq30 => ?_)
    refine s_call 31 rfl rfl rfl rfl (fun w hw => shifted_spec q30.1 q30.2 _ 1 w ((hw.has (i := 0) rfl).of_own) (by omega) (by omega)) (fun _ _ => trivial) (fun q31 hq31 => ?_)
    refine s_call 32 rfl rfl rfl rfl (fun w hw => by have := padd_spec r g m q.2.1 (ofP m l q.1).length q.2.2 ((ofP m l q.1).map Int.ofNat) q31.1 (0 :: scaleP m (ofP m l q.1) (exz m (l.getD q.1 0))).length q31.2 ((0 :: scaleP m (ofP m l q.1) (exz m (l.getD q.1 0))).map Int.ofNat) w hm (ring_of (hw.old hf) (hw.has (i := 3) rfl)) (by rw [← nats_ints]; exact (hw.has (i := 2) rfl).of_own) (by rw [← nats_ints]; exact (hw.has (i := 0) rfl).of_own) (by omega) (by rw [List.length_cons]; omega); rw [lowL_ofNat hpt.lt, lowL_ofNat (zero_cons_lt hm hsc)] at this; exact this) (fun _ _ => trivial) (fun q32 hq32 => ?_)
    refine s_as 7 rfl rfl ?_
    refine SX.end_ ?_
    refine KN.blk ?_
    refine KN.code ?_
    refine CW.reg [0, 1] rfl ?_   -- 9, locate.go:78
    refine s_add 33 rfl rfl rfl (r := ((q.1 + 1 : Nat) : Int)) (w64 (by omega)) ?_
    refine s_mv 19 rfl rfl ?_
    refine SX.end_ ?_
    exact KN.back (q.1 + 1, q32.1, q32.2) ⟨rfl, rfl, rfl, rfl, rfl, rfl, trivial⟩ (fun _ h => h.pick [0, 3] rfl) ⟨by simp only; omega, hq32⟩ (by simp only; omega)
  · skip
    have hqe : q.1 = l.length := by omega
    refine CW.exit rfl ?_
    refine KN.code ?_
    refine CW.seq ?_
    have hof : ofP m l q.1 = ofP m l l.length := by rw [hqe]
    refine CW.reg [0, 1, 2] rfl ?_   -- 10, locate.go:81
    refine s_mv 34 rfl rfl ?_
    refine s_as 4 rfl rfl ?_
    refine s_as 5 rfl rfl ?_
    refine SX.next ?_
    refine CW.ret ?_
    exact KN.ret (rs := [.tmp 4, .tmp 5]) Tryd.results32 rfl (fun w hw => ⟨(q.2.1, q.2.2), by rw [← hof]; rfl, by rw [← hof]; exact hqc, by rw [← hof]; exact hw.pick [0] rfl⟩)
