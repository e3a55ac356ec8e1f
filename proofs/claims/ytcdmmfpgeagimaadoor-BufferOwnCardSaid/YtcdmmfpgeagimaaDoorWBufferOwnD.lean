/- The walk of the statement BufferOwn, text 4. Conditions: each theorem tells its own. -/
import Derived.Test.YtcdmmfpgeagimaaDoorWBufferOwnC
section
/- The statement BufferOwn, walked. Conditions: the errors' variables; the byte's range. -/
namespace Go.Proofs.YtcdmmfpgeagimaaDoor
open Go Go.Lib Go.Sx Go.Fm
set_option maxRecDepth 100000
theorem _root_.Go.Sx.Has.entRowN {A : Option Addr} {n : Nat} {es : List EntG} {w : World} (h : Has (sl 3 A n (rowsE es)) w) (hn : n ≠ 0) {i : Nat} {e : EntG} (he : es[i]? = some e) : ∀ j v, e.row[j]? = some v → w.cell? ⟨ob A, oo A + i * 3 + j, none⟩ = some v := fun j v hj => by
  have := (h.sl_cell hn (rowsE_at he hj)).2
  rw [Nat.add_assoc]
  exact this
theorem nodup_len {α : Type} [DecidableEq α] : ∀ {L1 L2 : List α}, L1.Nodup → (∀ x ∈ L1, x ∈ L2) → L1.length ≤ L2.length
  | [], _, _, _ => Nat.zero_le _
  | x :: L1, L2, hn, hs => by
    have hn := List.nodup_cons.1 hn
    have hx := hs x (List.mem_cons_self ..)
    have h1 := nodup_len (L1 := L1) (L2 := L2.erase x) hn.2 (fun y hy => (List.mem_erase_of_ne (fun (e : y = x) => hn.1 (by rw [← e]; exact hy))).2 (hs y (List.mem_cons_of_mem _ hy)))
    rw [List.length_erase_of_mem hx] at h1
    have h2 := List.length_pos_of_mem hx
    simp only [List.length_cons]
    omega
theorem keys_few {L : List Int} {n : Nat} (hn : L.Nodup) (h : ∀ x ∈ L, 0 ≤ x ∧ x < (n : Nat)) : L.length ≤ n := by
  have := nodup_len (L2 := (List.range n).map Int.ofNat) hn (fun x hx => by
    obtain ⟨h1, h2⟩ := h x hx
    exact List.mem_map.2 ⟨x.toNat, List.mem_range.2 (by omega), by show ((x.toNat : Nat) : Int) = x; omega⟩)
  simpa using this
theorem plI_free {key : Int} {es : List EntG} (h : plI key es = -1) : ∀ e ∈ es, e.k ≠ key := fun e he hk => by
  have : es.findIdx (fun e => decide (e.k = key)) < es.length := List.findIdx_lt_length_of_exists ⟨e, he, decide_eq_true hk⟩
  unfold plI plN at h
  rw [if_pos this] at h
  omega
/-- Unlike keys. -/
def KeysU (es : List EntG) : Prop := (es.map EntG.k).Nodup
theorem KeysU.self {es : List EntG} (h : KeysU es) {i : Nat} {e : EntG} (he : es[i]? = some e) : plI e.k es = (i : Nat) := plI_at (fun j e2 hj he2 hk => by
  have h1 := (List.getElem?_eq_some_iff.1 he).1
  have h2 := (List.getElem?_eq_some_iff.1 he2).1
  have := (List.getElem_inj (xs := es.map EntG.k) (h₀ := by simpa using h2) (h₁ := by simpa using h1) h).1 (by rw [List.getElem_map, List.getElem_map, (List.getElem?_eq_some_iff.1 he).2, (List.getElem?_eq_some_iff.1 he2).2, hk])
  omega) he rfl
theorem KeysU.new {es : List EntG} (h : KeysU es) (en : EntG) : KeysU (wNew es en) := by
  unfold KeysU wNew
  rw [List.map_append]
  refine List.nodup_append.2 ⟨?_, by simp, ?_⟩
  · split
    · exact h
    · exact h.sublist ((List.eraseIdx_sublist es _).map _)
  · intro a ha b hb
    obtain rfl : b = en.k := by simpa using hb
    obtain ⟨e, he, rfl⟩ := List.mem_map.1 ha
    by_cases hp : plI en.k es = -1
    · rw [if_pos hp] at he
      exact plI_free hp e he
    · rw [if_neg hp] at he
      intro hk
      obtain ⟨hp1, hp2⟩ := (plI_cases en.k es).resolve_left hp
      obtain ⟨j, hj1, hj2⟩ := List.mem_eraseIdx_iff_getElem?.1 he
      have := h.self hj2
      rw [hk, hp2] at this
      omega
theorem mem_wNew {es : List EntG} {en e : EntG} (h : e ∈ wNew es en) : e ∈ es ∨ e = en := by
  unfold wNew at h
  rcases List.mem_append.1 h with h | h
  · left
    split at h
    · exact h
    · exact List.mem_of_mem_eraseIdx h
  · exact .inr (by simpa using h)
/-- What BufferOwn's buffer holds. -/
structure OwnI (v : Nat) (es : List EntG) : Prop where
  nd : KeysU es
  ok : ∀ e ∈ es, (0 ≤ e.k ∧ e.k < 8) ∧ e.tr = false ∧ e.l = [v, 7]
theorem OwnI.nil (v : Nat) : OwnI v [] := ⟨List.nodup_nil, fun e he => by cases he⟩
theorem OwnI.few {v : Nat} {es : List EntG} (h : OwnI v es) : es.length ≤ 8 := by
  have := keys_few (n := 8) h.nd (fun x hx => by
    obtain ⟨e, he, rfl⟩ := List.mem_map.1 hx
    have := (h.ok e he).1
    omega)
  simpa using this
theorem OwnI.room {v : Nat} {es : List EntG} (h : OwnI v es) {k : Int} (h0 : 0 ≤ k) (h8 : k < 8) : ¬ (plI k es = -1 ∧ (8 : Int) ≤ (es.length : Int)) := fun ⟨h1, h2⟩ => by
  have := keys_few (L := k :: es.map EntG.k) (n := 8) (List.nodup_cons.2 ⟨fun hm => by
    obtain ⟨e, he, hk⟩ := List.mem_map.1 hm
    exact plI_free h1 e he hk, h.nd⟩) (fun x hx => by
    rcases List.mem_cons.1 hx with rfl | hx
    · omega
    · obtain ⟨e, he, rfl⟩ := List.mem_map.1 hx
      have := (h.ok e he).1
      omega)
  simp at this
  omega
theorem OwnI.next {v : Nat} {es : List EntG} (h : OwnI v es) {k : Int} (h0 : 0 ≤ k) (h8 : k < 8) (A : Option Addr) (c : Nat) : OwnI v (wNew es ⟨k, false, A, c, [v, 7]⟩) :=
  ⟨h.nd.new _, fun e he => by
    rcases mem_wNew he with he | rfl
    · exact h.ok e he
    · exact ⟨⟨h0, h8⟩, rfl, rfl⟩⟩
theorem OwnI.put {v : Nat} {es : List EntG} (h : OwnI v es) (e : Nat → Addr) {k : Int} (h0 : 0 ≤ k) (h8 : k < 8) (A : Option Addr) (c : Nat) : wV e 8 8 true es k = .nilIface ∧ wRes 8 8 true es ⟨k, false, A, c, [v, 7]⟩ = wNew es ⟨k, false, A, c, [v, 7]⟩ := by
  unfold wV wRes
  rw [if_neg (by omega), if_neg (by decide), if_neg (h.room h0 h8), if_neg (by show ¬ (k < 0 ∨ 8 ≤ k); omega), if_neg (by decide), if_neg (h.room h0 h8)]
  exact ⟨rfl, rfl⟩
theorem own_put {v : Nat} (e : Nat → Addr) (F : Nat → Prop) (b : Nat) (u : BufG) (hO : OwnI v u.es) {k : Int} (h0 : 0 ≤ k) (h8 : k < 8) (A : Option Addr) (c : Nat) (w : World) (hE1 : ∀ w', Fr F w w' → Er e w' 1) (hE2 : ∀ w', Fr F w w' → Er e w' 5) (hE3 : ∀ w', Fr F w w' → Er e w' 3)
    (hd : ∀ w', Fr F w w' → Has (sl 1 A 2 (nats .u8 [v, 7])) w') (hw : St F w [blk b 141 #[.int .i64 2, .int .i64 8, .int .i64 8, .slice u.A u.es.length u.c], own 73 3 u.A u.es.length u.c (rowsE u.es), starA (datsE u.es)] w) :
    SpecP Tryd.prog 53 [.pointer (some ⟨b, 0, none⟩), .int .i64 k, .slice A 2 c] F w (X := BufG × Option Addr × Nat) (fun _ => .nilIface) (fun x => x.1.es = wNew u.es ⟨k, false, x.2.1, x.2.2, [v, 7]⟩) (fun x => [blk b 141 #[.int .i64 2, .int .i64 8, .int .i64 8, .slice x.1.A x.1.es.length x.1.c], own 73 3 x.1.A x.1.es.length x.1.c (rowsE x.1.es), starA (datsE x.1.es)]) := by
  have hf8 := hO.few
  have h1 := put_spec e F b 2 8 8 u k A 2 c [v, 7] w (by omega) hE1 hE2 hE3 hd (by omega) hw
  refine Calls.mono h1 (fun _ _ ⟨x, q1, q2, q3⟩ => ⟨x, ?_, ?_, q3⟩)
  · exact q1.trans (congrArg _ (hO.put e h0 h8 x.2.1 x.2.2).1)
  · exact q2.trans (hO.put e h0 h8 x.2.1 x.2.2).2
/-- What is done to an entry of the answer. -/
def md (e : EntG) : EntG := ⟨77, e.tr, e.A, e.c, e.l.set 1 9⟩
def mdI (es : List EntG) (i : Nat) : List EntG := (es.take i).map md ++ es.drop i
theorem mdI_zero (es : List EntG) : mdI es 0 = es := rfl
theorem mdI_at {es : List EntG} {i : Nat} (h : i < es.length) : (mdI es i)[i]? = some (gE es i) := by
  unfold mdI
  rw [List.getElem?_append_right (by rw [List.length_map, List.length_take]; omega), List.length_map, List.length_take, Nat.min_eq_left (by omega), Nat.sub_self, List.getElem?_drop, Nat.add_zero]
  exact gE_at h
theorem mdI_next {es : List EntG} {i : Nat} (h : i < es.length) : mdI es (i + 1) = (mdI es i).set i (md (gE es i)) := by
  have e1 : es.take (i + 1) = es.take i ++ [gE es i] := by rw [List.take_add_one, gE_at h]; rfl
  have e2 : es.drop i = gE es i :: es.drop (i + 1) := by
    rw [List.drop_eq_getElem_cons h]
    congr 1
    have := gE_at h
    rw [List.getElem?_eq_getElem h] at this
    exact Option.some.inj this
  unfold mdI
  rw [e1, e2, List.set_append_right _ _ (by rw [List.length_map, List.length_take]; omega), List.length_map, List.length_take, Nat.min_eq_left (by omega), Nat.sub_self, List.map_append, List.append_assoc]
  rfl
theorem rows_key : ∀ {es : List EntG} {i : Nat} {e : EntG} (v : Int) (l : List Nat), es[i]? = some e → l.length = e.l.length → rowsE (es.set i ⟨v, e.tr, e.A, e.c, l⟩) = (rowsE es).set (i * 3) (.int .i64 v)
  | [], i, e, v, l, h, _ => by simp at h
  | e0 :: es, 0, e, v, l, h, hl => by
    obtain rfl : e0 = e := by simpa using h
    show [Value.int .i64 v, .bool e0.tr, .slice e0.A l.length e0.c] ++ rowsE es = ([Value.int .i64 e0.k, .bool e0.tr, .slice e0.A e0.l.length e0.c] ++ rowsE es).set (0 * 3) _
    rw [hl]
    rfl
  | e0 :: es, i + 1, e, v, l, h, hl => by
    have ih := rows_key (es := es) (i := i) v l (by simpa using h) hl
    show e0.row ++ rowsE (es.set i _) = (e0.row ++ rowsE es).set ((i + 1) * 3) _
    rw [ih, List.set_append_right _ _ (by show 3 ≤ _; omega)]
    congr 2
    show i * 3 = (i + 1) * 3 - 3
    omega
theorem dats_set (es : List EntG) (i : Nat) (e : EntG) : datsE (es.set i e) = (datsE es).set i e.dat := List.map_set

theorem bown_long (A0 : Option Addr) (n0 c0 : Nat) (l0 : List Int) (v : Nat) (e : Nat → Addr) (w : World) (_hs0 : Has (sl 1 A0 n0 (ints .i64 l0)) w) (hn0 : n0 ≤ 9223372036854775807) (_hv : v < 256) (he1 : Er e w 1) (he2 : Er e w 5) (he3 : Er e w 3) (h30 : 30 < n0) : Spec1 Tryd.prog 6 [.slice A0 n0 c0, .int .u8 (v : Nat)] w (.bool true) := by
  refine calls_ofI Tryd.func6 rfl Tryd.ntmps6 rfl (C := Sto w []) (St.start w) ?_
  refine CWI.seq ?_
  refine CWI.reg [0, 1] rfl (by kernel_rfl) ?_
  refine SXI.of1 (pf := fun _ => True) (fun _ hK => s_box 3 rfl rfl (fun _ _ => trivial) (fun x => SX.done (hK x trivial))) (fun b3 _ => ?_)
  refine SXI.of1 (pf := fun _ => True) (fun _ hK => s_alloc 4 rfl (fun _ _ => trivial) (fun x => SX.done (hK x trivial))) (fun b4 _ => ?_)
  refine SXI.next ?_
  refine CWI.seq ?_
  refine CWI.reg [0, 1] rfl (by kernel_rfl) ?_
  refine SXI.of (fun _ hK => s_call1 17 rfl rfl rfl rfl (fun w hw => first19_spec e w (hw.er he1) (hw.er he2) (hw.er he3)) (fun _ _ => trivial) (SX.done hK)) ?_
  refine SXI.of (fun _ hK => s_as 5 rfl rfl (SX.done hK)) ?_
  refine SXI.next ?_
  refine CWI.seq ?_
  refine CWI.reg [0, 1, 2, 3, 4, 5] rfl (by kernel_rfl) ?_
  refine SXI.of1 (fun _ hK => s_call 19 rfl rfl rfl rfl (fun w hw => bnew_ok 2 8 8 w (by decide) (by decide) (by decide) (by decide) (by decide) (by decide)) (fun _ _ => trivial) (fun x hx => SX.done (hK x hx))) (fun b _ => ?_)
  refine SXI.of (fun _ hK => s_mv 18 rfl rfl (SX.done hK)) ?_
  refine SXI.of (fun _ hK => s_ext 20 rfl rfl rfl (SX.done hK)) ?_
  refine SXI.of (fun _ hK => s_ext 21 rfl rfl rfl (SX.done hK)) ?_
  refine SXI.of (fun _ hK => s_as 6 rfl rfl (SX.done hK)) ?_
  refine SXI.of (fun _ hK => s_as 7 rfl rfl (SX.done hK)) ?_
  refine SXI.next ?_
  refine CWI.seq ?_
  refine CWI.seq ?_
  refine CWI.reg [0, 1, 2, 3, 4, 5, 6, 7, 8, 9, 10, 11, 12, 13, 14] rfl (by kernel_rfl) ?_
  refine SXI.of (fun _ hK => s_mv 22 rfl rfl (SX.done hK)) ?_
  refine SXI.of (fun _ hK => s_eqPN 23 rfl rfl (SX.done hK)) ?_
  refine SXI.of (fun _ hK => s_mv 24 rfl rfl (SX.done hK)) ?_
  refine SXI.of (fun _ hK => s_mv 25 rfl rfl (SX.done hK)) ?_
  refine SXI.of (fun _ hK => s_neNN 26 rfl rfl (SX.done hK)) ?_
  refine SXI.of (fun _ hK => s_pickF 27 rfl rfl rfl (SX.done hK)) ?_
  refine SXI.of (fun _ hK => s_mv 28 rfl rfl (SX.done hK)) ?_
  refine SXI.of (fun _ hK => s_mv 29 rfl rfl (SX.done hK)) ?_
  refine SXI.of (fun _ hK => s_len 30 rfl rfl (SX.done hK)) ?_
  refine SXI.of (fun _ hK => s_gt 31 rfl rfl rfl (decide_eq_true (by omega)) (SX.done hK)) ?_
  refine SXI.of (fun _ hK => s_pickF 32 rfl rfl rfl (SX.done hK)) ?_
  refine SXI.of (fun _ hK => s_mv 33 rfl rfl (SX.done hK)) ?_
  refine SXI.of (fun _ hK => SX.skip rfl (SX.done hK)) ?_
  refine SXI.of (fun _ hK => SX.skip rfl (SX.done hK)) ?_
  refine SXI.of (fun _ hK => s_pickT 36 rfl rfl rfl (SX.done hK)) ?_
  refine SXI.next ?_
  refine CWI.condT rfl ?_
  refine CWI.seq ?_
  refine CWI.reg [0, 1, 2, 3, 4, 5] rfl (by kernel_rfl) ?_
  refine SXI.of (fun _ hK => s_mv 37 rfl rfl (SX.done hK)) ?_
  refine SXI.of (fun _ hK => s_mv 38 rfl rfl (SX.done hK)) ?_
  refine SXI.of (fun _ hK => s_mv 39 rfl rfl (SX.done hK)) ?_
  refine SXI.of (fun _ hK => s_nePN 40 rfl rfl (SX.done hK)) ?_
  refine SXI.of (fun _ hK => s_pickT 41 rfl rfl rfl (SX.done hK)) ?_
  refine SXI.of (fun _ hK => s_stB 1 rfl rfl rfl rfl rfl (Nat.lt_succ_self 0) (fun _ _ => trivial) (SX.done hK)) ?_
  refine SXI.next ?_
  refine CWI.ret ?_
  exact retMC (rs := [.cell 4 4]) (L := [blk b4 4 #[.bool true]]) [] rfl Tryd.results6 (fun _ h => h.pick [1] rfl) (fun w hw => ⟨[_], ⟨⟨_, rfl, run_loadVar1 (hw.blkCell (i := 0) (j := 0) rfl rfl)⟩, trivial⟩, rfl, hw.pick [] rfl⟩)

set_option maxHeartbeats 3200000 in

theorem bown_ok (A0 : Option Addr) (n0 c0 : Nat) (l0 : List Int) (v : Nat) (e : Nat → Addr) (w : World) (hs0 : Has (sl 1 A0 n0 (ints .i64 l0)) w) (hn0 : n0 ≤ 9223372036854775807) (hv : v < 256) (he1 : Er e w 1) (he2 : Er e w 5) (he3 : Er e w 3) (h30 : n0 ≤ 30) : Spec1 Tryd.prog 6 [.slice A0 n0 c0, .int .u8 (v : Nat)] w (.bool true) := by
  have hla0 := ints_len hs0
  subst hla0
  refine calls_ofI Tryd.func6 rfl Tryd.ntmps6 rfl (C := Sto w []) (St.start w) ?_
  refine CWI.seq ?_
  refine CWI.reg [0, 1] rfl (by kernel_rfl) ?_
  refine SXI.of1 (pf := fun _ => True) (fun _ hK => s_box 3 rfl rfl (fun _ _ => trivial) (fun x => SX.done (hK x trivial))) (fun b3 _ => ?_)
  refine SXI.of1 (pf := fun _ => True) (fun _ hK => s_alloc 4 rfl (fun _ _ => trivial) (fun x => SX.done (hK x trivial))) (fun b4 _ => ?_)
  refine SXI.next ?_
  refine CWI.seq ?_
  refine CWI.reg [0, 1] rfl (by kernel_rfl) ?_
  refine SXI.of (fun _ hK => s_call1 17 rfl rfl rfl rfl (fun w hw => first19_spec e w (hw.er he1) (hw.er he2) (hw.er he3)) (fun _ _ => trivial) (SX.done hK)) ?_
  refine SXI.of (fun _ hK => s_as 5 rfl rfl (SX.done hK)) ?_
  refine SXI.next ?_
  refine CWI.seq ?_
  refine CWI.reg [0, 1, 2, 3, 4, 5] rfl (by kernel_rfl) ?_
  refine SXI.of1 (fun _ hK => s_call 19 rfl rfl rfl rfl (fun w hw => bnew_ok 2 8 8 w (by decide) (by decide) (by decide) (by decide) (by decide) (by decide)) (fun _ _ => trivial) (fun x hx => SX.done (hK x hx))) (fun b _ => ?_)
  refine SXI.of (fun _ hK => s_mv 18 rfl rfl (SX.done hK)) ?_
  refine SXI.of (fun _ hK => s_ext 20 rfl rfl rfl (SX.done hK)) ?_
  refine SXI.of (fun _ hK => s_ext 21 rfl rfl rfl (SX.done hK)) ?_
  refine SXI.of (fun _ hK => s_as 6 rfl rfl (SX.done hK)) ?_
  refine SXI.of (fun _ hK => s_as 7 rfl rfl (SX.done hK)) ?_
  refine SXI.next ?_
  refine CWI.seq ?_
  refine CWI.seq ?_
  refine CWI.reg [0, 1, 2, 3, 4, 5, 6, 7, 8, 9, 10, 11, 12, 13, 14] rfl (by kernel_rfl) ?_
  refine SXI.of (fun _ hK => s_mv 22 rfl rfl (SX.done hK)) ?_
  refine SXI.of (fun _ hK => s_eqPN 23 rfl rfl (SX.done hK)) ?_
  refine SXI.of (fun _ hK => s_mv 24 rfl rfl (SX.done hK)) ?_
  refine SXI.of (fun _ hK => s_mv 25 rfl rfl (SX.done hK)) ?_
  refine SXI.of (fun _ hK => s_neNN 26 rfl rfl (SX.done hK)) ?_
  refine SXI.of (fun _ hK => s_pickF 27 rfl rfl rfl (SX.done hK)) ?_
  refine SXI.of (fun _ hK => s_mv 28 rfl rfl (SX.done hK)) ?_
  refine SXI.of (fun _ hK => s_mv 29 rfl rfl (SX.done hK)) ?_
  refine SXI.of (fun _ hK => s_len 30 rfl rfl (SX.done hK)) ?_
  refine SXI.of (fun _ hK => s_gt 31 rfl rfl rfl (decide_eq_false (by omega)) (SX.done hK)) ?_
  refine SXI.of (fun _ hK => s_pickF 32 rfl rfl rfl (SX.done hK)) ?_
  refine SXI.of (fun _ hK => s_mv 33 rfl rfl (SX.done hK)) ?_
  refine SXI.of (fun _ hK => s_mv 34 rfl rfl (SX.done hK)) ?_
  refine SXI.of (fun _ hK => s_not 35 rfl rfl (SX.done hK)) ?_
  refine SXI.of (fun _ hK => s_pickF 36 rfl rfl rfl (SX.done hK)) ?_
  refine SXI.next ?_
  refine CWI.condF rfl ?_
  refine CWI.skip ?_
  refine KNI.code ?_
  refine CWI.seq ?_
  refine CWI.reg [0, 1, 2] rfl (by kernel_rfl) ?_
  refine SXI.of (fun _ hK => s_ldB 42 2 rfl rfl rfl (v := .int .u8 (v : Nat)) rfl (SX.done hK)) ?_
  refine SXI.of1 (pf := fun _ => True) (fun _ hK => s_bsl 43 rfl rfl (cells := #[.int .u8 (v : Nat), .int .u8 7]) (by kernel_rfl) rfl (fun _ _ => trivial) (fun x => SX.done (hK x trivial))) (fun bm _ => ?_)
  refine SXI.of (fun _ hK => s_as 8 rfl rfl (SX.done hK)) ?_
  refine SXI.next ?_
  refine CWI.seq ?_
  refine CWI.seq ?_
  refine CWI.pre (C' := Sto w [blk bm 5 #[.int .u8 (v : Nat), .int .u8 7], blk b4 4 #[.bool false], blk b3 5 #[.int .u8 (v : Nat)], blk b 141 #[.int .i64 2, .int .i64 8, .int .i64 8, .slice (⟨none, 0, []⟩ : BufG).A (⟨none, 0, []⟩ : BufG).es.length (⟨none, 0, []⟩ : BufG).c], own 73 3 (⟨none, 0, []⟩ : BufG).A (⟨none, 0, []⟩ : BufG).es.length (⟨none, 0, []⟩ : BufG).c (rowsE (⟨none, 0, []⟩ : BufG).es), starA (datsE (⟨none, 0, []⟩ : BufG).es)]) (fun _ h => ((h.begin_ 73 3).nilStarS).pick [2, 3, 3, 2, 1, 0] rfl) ?_
  refine CWI.reg [0] rfl (by kernel_rfl) ?_
  refine SXI.of (fun _ hK => s_as 9 rfl rfl (SX.done hK)) ?_
  refine SXI.next ?_
  refine CWI.block ?_
  refine CWI.loop (G := Nat × Int × BufG) (fun _ => []) (fun z => [(0, .slice A0 l0.length c0), (3, .pointer (some ⟨b3, 0, none⟩)), (4, .pointer (some ⟨b4, 0, none⟩)), (6, .pointer (some ⟨b, 0, none⟩)), (8, .slice (some ⟨bm, 0, none⟩) 2 2), (9, .int .i64 (z.1 : Nat))]) (fun z => Sto w [blk bm 5 #[.int .u8 z.2.1, .int .u8 7], blk b4 4 #[.bool false], blk b3 5 #[.int .u8 (v : Nat)], blk b 141 #[.int .i64 2, .int .i64 8, .int .i64 8, .slice z.2.2.A z.2.2.es.length z.2.2.c], own 73 3 z.2.2.A z.2.2.es.length z.2.2.c (rowsE z.2.2.es), starA (datsE z.2.2.es)]) (fun z => z.1 ≤ l0.length ∧ OwnI v z.2.2.es) (fun z => l0.length - z.1) (0, (v : Nat), ⟨none, 0, []⟩) rfl ⟨rfl, rfl, rfl, rfl, rfl, rfl, trivial⟩ (fun _ h => h) ⟨Nat.zero_le _, OwnI.nil v⟩ ?_
  rintro ⟨i, m0, u⟩ ⟨hi, hO⟩
  simp only at hi hO
  dsimp only
  have hf8 := hO.few
  refine CWI.seq ?_
  refine CWI.seq ?_
  refine CWI.reg [0, 1, 2, 3] rfl (by kernel_rfl) ?_
  refine SXI.of (fun _ hK => s_mv 44 rfl rfl (SX.done hK)) ?_
  refine SXI.of (fun _ hK => s_mv 45 rfl rfl (SX.done hK)) ?_
  refine SXI.of (fun _ hK => s_len 46 rfl rfl (SX.done hK)) ?_
  refine SXI.of (fun _ hK => s_lt 47 rfl rfl rfl rfl (SX.done hK)) ?_
  refine SXI.next ?_
  refine CWI.test rfl (fun hc => ?_) (fun hc => ?_)
  · skip
    have hil : i < l0.length := by omega
    have hk0 := Int.emod_nonneg (l0.getD i 0) (b := 8) (by omega)
    have hk8 := Int.emod_lt_of_pos (l0.getD i 0) (b := 8) (by omega)
    have hand := ibit_and_mask (l0.getD i 0) (m := 3) (by omega) (s := 7) rfl
    refine CWI.skip ?_
    refine KNI.code ?_
    refine CWI.seq ?_
    refine CWI.block ?_
    refine CWI.seq ?_
    refine CWI.reg [0, 1, 2, 3] rfl (by kernel_rfl) ?_
    refine SXI.of (fun _ hK => s_mv 50 rfl rfl (SX.done hK)) ?_
    refine SXI.of (fun _ hK => s_ldB 51 2 rfl rfl rfl (v := .int .u8 (v : Nat)) rfl (SX.done hK)) ?_
    refine SXI.of (fun _ hK => s_ia0 52 0 rfl rfl rfl rfl (by omega) (SX.done hK)) ?_
    refine SXI.of (fun _ hK => s_stB 0 rfl rfl rfl rfl rfl (by show 0 < 2; omega) (fun _ _ => trivial) (SX.done hK)) ?_
    refine SXI.next ?_
    refine CWI.seq ?_
    refine CWI.seq ?_
    refine CWI.reg [0, 1, 2, 3, 4, 5, 6, 7, 8] rfl (by kernel_rfl) ?_
    refine SXI.of (fun _ hK => s_mv 53 rfl rfl (SX.done hK)) ?_
    refine SXI.of (fun _ hK => s_mv 54 rfl rfl (SX.done hK)) ?_
    refine SXI.of (fun _ hK => s_mv 55 rfl rfl (SX.done hK)) ?_
    refine SXI.of (fun _ hK => s_iaV 56 i (fun w hw => hw.old hs0) rfl rfl rfl rfl hil (SX.done hK)) ?_
    refine SXI.of (fun _ hK => s_ldV 57 (fun w hw => hw.old hs0) rfl rfl (by rw [Nat.mul_one]; exact intsAt hil) (by omega) (SX.done hK)) ?_
    refine SXI.of (fun _ hK => s_bit 58 rfl rfl rfl rfl (r := l0.getD i 0 % 8) hand (SX.done hK)) ?_
    refine SXI.of (fun _ hK => s_mv 59 rfl rfl (SX.done hK)) ?_
    refine SXI.of1 (fun _ hK => s_callP 60 [3, 3, 3, 0, 0, 0] (M := [blk b 141 #[.int .i64 2, .int .i64 8, .int .i64 8, .slice u.A u.es.length u.c], own 73 3 u.A u.es.length u.c (rowsE u.es), starA (datsE u.es)]) (R := [blk bm 5 #[.int .u8 (v : Nat), .int .u8 7], blk b4 4 #[.bool false], blk b3 5 #[.int .u8 (v : Nat)]]) (X := BufG × Option Addr × Nat) (v := fun _ => .nilIface) (pf := fun x => x.1.es = wNew u.es ⟨l0.getD i 0 % 8, false, x.2.1, x.2.2, [v, 7]⟩) (M' := fun x => [blk b 141 #[.int .i64 2, .int .i64 8, .int .i64 8, .slice x.1.A x.1.es.length x.1.c], own 73 3 x.1.A x.1.es.length x.1.c (rowsE x.1.es), starA (datsE x.1.es)]) rfl rfl rfl rfl rfl (fun F' w' hR hM => own_put e F' b u hO hk0 hk8 (some ⟨bm, 0, none⟩) 2 w' (fun w2 hf => (hR w2 hf).er he1) (fun w2 hf => (hR w2 hf).er he2) (fun w2 hf => (hR w2 hf).er he3) (fun w2 hf => Has.cong (((hR w2 hf).has (i := 0) rfl).blk_sl (m := 2) rfl) rfl) hM) (fun _ _ _ => trivial) (fun x hx => SX.done (hK x hx))) (fun x hx => ?_)
    refine SXI.of (fun _ hK => s_neNN 61 rfl rfl (SX.done hK)) ?_
    refine SXI.next ?_
    refine CWI.condF rfl ?_
    refine CWI.skip ?_
    refine KNI.code ?_
    refine CWI.reg [0, 1, 2, 3, 4] rfl (by kernel_rfl) ?_
    refine SXI.of (fun _ hK => s_mv 62 rfl rfl (SX.done hK)) ?_
    refine SXI.of (fun _ hK => s_ldB 63 5 rfl rfl rfl (v := .int .u8 (v : Nat)) rfl (SX.done hK)) ?_
    refine SXI.of (fun _ hK => s_add 64 rfl rfl rfl (r := IntKind.u8.wrap (((v : Nat) : Int) + 1)) rfl (SX.done hK)) ?_
    refine SXI.of (fun _ hK => s_ia0 65 0 rfl rfl rfl rfl (by omega) (SX.done hK)) ?_
    refine SXI.of (fun _ hK => s_stB 3 rfl rfl rfl rfl rfl (by show 0 < 2; omega) (fun _ _ => trivial) (SX.done hK)) ?_
    refine SXI.end_ ?_
    refine KNI.blk ?_
    refine KNI.code ?_
    refine CWI.reg [0, 1, 2] rfl (by kernel_rfl) ?_
    refine SXI.of (fun _ hK => s_mv 48 rfl rfl (SX.done hK)) ?_
    refine SXI.of (fun _ hK => s_add 49 rfl rfl rfl (r := ((i + 1 : Nat) : Int)) (w64 (by omega)) (SX.done hK)) ?_
    refine SXI.of (fun _ hK => s_as 9 rfl rfl (SX.done hK)) ?_
    refine SXI.end_ ?_
    exact KNI.back (i + 1, IntKind.u8.wrap (((v : Nat) : Int) + 1), x.1) rfl ⟨rfl, rfl, rfl, rfl, rfl, rfl, trivial⟩ (fun _ h => h.pick [3, 3, 3, 0, 0, 0] rfl) ⟨by simp only; omega, by simp only; rw [hx]; exact hO.next hk0 hk8 _ _⟩ (by simp only; omega)
  · skip
    have hie : i = l0.length := by omega
    have hhd := fun e (he : e ∈ u.es) => (hO.ok e he).2.2
    have hl6 : ∀ e ∈ u.es, e.l.length ≤ 1000000 := fun e he => by rw [hhd e he]; simp
    refine CWI.exit rfl ?_
    refine KNI.code ?_
    refine CWI.seq ?_
    refine CWI.seq ?_
    refine CWI.reg [0] rfl (by kernel_rfl) ?_
    refine SXI.of (fun _ hK => s_as 10 rfl rfl (SX.done hK)) ?_
    refine SXI.next ?_
    refine CWI.block ?_
    refine CWI.loop (G := Nat × List Nat) (fun q => q.2.map Go.Sx.mark) (fun q => [(3, .pointer (some ⟨b3, 0, none⟩)), (4, .pointer (some ⟨b4, 0, none⟩)), (6, .pointer (some ⟨b, 0, none⟩)), (10, .int .i64 (q.1 : Nat))]) (fun q => Sto w [blk b4 4 #[.bool false], blk b3 5 #[.int .u8 (v : Nat)], blk b 141 #[.int .i64 2, .int .i64 8, .int .i64 8, .slice u.A u.es.length u.c], own 73 3 u.A u.es.length u.c (rowsE u.es), starA (datsE u.es), starA (q.2.map defB)]) (fun q => q.1 ≤ 2) (fun q => 2 - q.1) (0, []) rfl ⟨rfl, rfl, rfl, rfl, trivial⟩ (fun _ h => (h.pick [1, 1, 1, 1, 1] rfl).nilStar) (Nat.zero_le _) ?_
    rintro q hq
    refine CWI.seq ?_
    refine CWI.seq ?_
    refine CWI.reg [0, 1] rfl (by kernel_rfl) ?_
    refine SXI.of (fun _ hK => s_mv 66 rfl rfl (SX.done hK)) ?_
    refine SXI.of (fun _ hK => s_lt 67 rfl rfl rfl rfl (SX.done hK)) ?_
    refine SXI.next ?_
    refine CWI.test rfl (fun hc => ?_) (fun hc => ?_)
    · skip
      refine CWI.skip ?_
      refine KNI.code ?_
      refine CWI.seq ?_
      refine CWI.block ?_
      refine CWI.seq ?_
      refine CWI.reg [0, 1, 2] rfl (by kernel_rfl) ?_
      refine SXI.of (fun _ hK => s_mv 70 rfl rfl (SX.done hK)) ?_
      refine SXI.of1 (fun _ hK => s_call 71 rfl rfl rfl rfl (fun w hw => entries_spec b u.A u.c u.es w ((hw.has (i := 3) rfl).of_own) (by omega) (hw.blkCell (i := 2) rfl rfl) (fun e he => (Has.starM (hw.has (i := 4) rfl) (List.mem_map_of_mem he)).of_own) hl6) (fun _ _ => trivial) (fun x hx => SX.done (hK x hx))) (fun y hy => ?_)
      obtain ⟨hy1, hy2⟩ := hy
      have hyl : y.es.length = u.es.length := by have := keys_len hy1; rw [this]; simp [absE]
      refine SXI.of (fun _ hK => s_as 11 rfl rfl (SX.done hK)) ?_
      refine SXI.next ?_
      refine CWI.seq ?_
      refine CWI.seq ?_
      refine CWI.reg [0] rfl (by kernel_rfl) ?_
      refine SXI.of (fun _ hK => s_as 12 rfl rfl (SX.done hK)) ?_
      refine SXI.next ?_
      refine CWI.block ?_
      refine CWI.loop (G := Nat) (fun _ => q.2.map Go.Sx.mark) (fun i => [(3, .pointer (some ⟨b3, 0, none⟩)), (4, .pointer (some ⟨b4, 0, none⟩)), (6, .pointer (some ⟨b, 0, none⟩)), (10, .int .i64 (q.1 : Nat)), (11, .slice y.A y.es.length y.c), (12, .int .i64 (i : Nat))]) (fun i => Sto w [own 73 3 y.A y.es.length y.c (rowsE (mdI y.es i)), starA (datsE (mdI y.es i)), blk b4 4 #[.bool false], blk b3 5 #[.int .u8 (v : Nat)], blk b 141 #[.int .i64 2, .int .i64 8, .int .i64 8, .slice u.A u.es.length u.c], own 73 3 u.A u.es.length u.c (rowsE u.es), starA (datsE u.es), starA (q.2.map defB)]) (fun i => i ≤ y.es.length) (fun i => y.es.length - i) 0 rfl ⟨rfl, rfl, rfl, rfl, rfl, rfl, trivial⟩ (fun _ h => h) (Nat.zero_le _) ?_
      intro i hi
      refine CWI.seq ?_
      refine CWI.seq ?_
      refine CWI.reg [0, 1, 2, 3] rfl (by kernel_rfl) ?_
      refine SXI.of (fun _ hK => s_mv 72 rfl rfl (SX.done hK)) ?_
      refine SXI.of (fun _ hK => s_mv 73 rfl rfl (SX.done hK)) ?_
      refine SXI.of (fun _ hK => s_len 74 rfl rfl (SX.done hK)) ?_
      refine SXI.of (fun _ hK => s_lt 75 rfl rfl rfl rfl (SX.done hK)) ?_
      refine SXI.next ?_
      refine CWI.test rfl (fun hc => ?_) (fun hc => ?_)
      · skip
        have hil : i < y.es.length := by omega
        have hmi := mdI_at hil
        obtain ⟨e3, k1, k2, k3, k4⟩ := key_at hy1 (i := i) (by unfold absE; rw [List.getElem?_map, gE_at (show i < u.es.length by omega)]; rfl)
        obtain rfl : gE y.es i = e3 := Option.some.inj ((gE_at hil).symm.trans k1)
        obtain ⟨j1, j2, j3⟩ := hO.ok _ (gE_mem (show i < u.es.length by omega))
        have hku : (gE y.es i).k = (gE u.es i).k := k2
        have htu : (gE y.es i).tr = false := k3.trans j2
        have hlu : (gE y.es i).l = [v, 7] := k4.trans j3
        have hpl : plI (gE y.es i).k u.es = (i : Nat) := by rw [hku]; exact hO.nd.self (gE_at (by omega))
        have hl2 : (gE y.es i).l.length = 2 := by rw [hlu]; rfl
        have hu2 : (gE u.es i).l.length = 2 := by rw [j3]; rfl
        refine CWI.skip ?_
        refine KNI.code ?_
        refine CWI.seq ?_
        refine CWI.block ?_
        refine CWI.seq ?_
        refine CWI.seq ?_
        refine CWI.regD (.st true 0 (.st true 1 (.st true 2 (.st true 3 (.st true 4 (.st true 5 (.st true 6 (.st true 7 (.st true 8 (.st true 9 (.st false 10 (.st false 11 (.st false 12 (.st true 13 .done)))))))))))))) (Sto w [own 73 3 y.A y.es.length y.c (rowsE (mdI y.es i)), starA (datsE (mdI y.es i)), blk b4 4 #[.bool false], blk b3 5 #[.int .u8 (v : Nat)], blk b 141 #[.int .i64 2, .int .i64 8, .int .i64 8, .slice u.A u.es.length u.c], own 73 3 u.A u.es.length u.c (rowsE u.es), starA (datsE u.es), starA (q.2.map defB)]) mixed (by kernel_rfl) (fun _ h => h.drew) (fun _ h => h) ?_
        refine SXI.of (fun _ hK => s_mv 78 rfl rfl (SX.done hK)) ?_
        refine SXI.of (fun _ hK => s_mv 79 rfl rfl (SX.done hK)) ?_
        refine SXI.of (fun _ hK => s_iaOS 80 0 i rfl rfl rfl rfl rfl hil (SX.done hK)) ?_
        refine SXI.of (fun _ hK => s_ldRS 81 (cs := (gE y.es i).row) rfl rfl rfl (fun _ hw => hw.ownRow (q := 0) (t := i * 3) (r := 0) rfl (fun j v hj => rowsE_at hmi hj)) (SX.done hK)) ?_
        refine SXI.of (fun _ hK => s_mv 82 rfl rfl (SX.done hK)) ?_
        refine SXI.of (fun _ hK => s_mv 83 rfl rfl (SX.done hK)) ?_
        refine SXI.of (fun _ hK => s_iaV 84 i (fun w hw => by first | exact (hw.has (i := 0) rfl).of_own | exact (hw.has (i := 1) rfl).of_own) rfl rfl rfl rfl hil (SX.done hK)) ?_
        refine SXI.of (fun _ hK => s_fa 85 rfl rfl (SX.done hK)) ?_
        refine SXI.of (fun _ hK => s_ldS 86 rfl rfl (v := .int .i64 (gE y.es i).k) (fun _ hw => ((hw.has (i := 0) rfl).of_own).entRowN (by omega) hmi 0 _ rfl) (SX.done hK)) ?_
        refine SXI.of (fun _ hK => s_ldS 87 rfl rfl (v := .int .u8 (v : Nat)) (fun _ hw => hw.blkCell (i := 3) rfl rfl) (SX.done hK)) ?_
        refine SXI.of1 (pf := fun _ => True) (fun _ hK => s_bsl 88 rfl rfl (cells := #[.int .u8 (v : Nat), .int .u8 7]) (by kernel_rfl) rfl (fun _ h => h) (fun x => SX.done (hK x trivial))) (fun g88 _ => ?_)
        refine SXI.of (fun _ hK => s_build 89 rfl rfl (cells := #[.int .i64 (gE y.es i).k, .bool false, .slice (some ⟨g88, 0, none⟩) 2 2]) (by kernel_rfl) (SX.done hK)) ?_
        refine SXI.of (fun _ hK => s_call1 90 rfl rfl rfl rfl (v := .bool true) (fun w hw => by have := sameEntry_spec (gE y.es i) ⟨(gE y.es i).k, false, some ⟨g88, 0, none⟩, 2, [v, 7]⟩ w ((Has.starM (hw.has (i := 2) rfl) (List.mem_of_getElem? (show (datsE (mdI y.es i))[i]? = some (gE y.es i).dat by unfold datsE; rw [List.getElem?_map, hmi]; rfl))).of_own) (Has.cong ((hw.has (i := 0) rfl).blk_sl (m := 2) rfl) rfl) (by rw [hlu]; intro t ht; simp at ht; omega) (by intro t ht; simp at ht; omega); rw [decide_eq_true (by unfold EntG.abs; rw [htu, hlu])] at this; exact this) (fun _ h => h.tail) (SX.done hK)) ?_
        refine SXI.of (fun _ hK => s_not 91 rfl rfl (SX.done hK)) ?_
        refine SXI.next ?_
        refine CWI.condF rfl ?_
        refine CWI.skip ?_
        refine KNI.code ?_
        refine CWI.seq ?_
        refine CWI.reg [0, 1, 2, 3, 4, 5, 6, 7, 8, 9, 10, 11, 12] rfl (by kernel_rfl) ?_
        refine SXI.of (fun _ hK => s_mv 93 rfl rfl (SX.done hK)) ?_
        refine SXI.of (fun _ hK => s_mv 94 rfl rfl (SX.done hK)) ?_
        refine SXI.of (fun _ hK => s_mv 95 rfl rfl (SX.done hK)) ?_
        refine SXI.of (fun _ hK => s_iaOS 96 1 i rfl rfl rfl rfl rfl hil (SX.done hK)) ?_
        refine SXI.of (fun _ hK => s_fa 97 rfl rfl (SX.done hK)) ?_
        refine SXI.of (fun _ hK => s_ld 98 rfl rfl (v := .int .i64 (gE y.es i).k) (fun _ hw => hw.ownCell (q := 1) (j := i * 3) rfl (rowsE_at (j := 0) hmi rfl)) (SX.done hK)) ?_
        refine SXI.of1 (fun _ hK => s_call 99 rfl rfl rfl rfl (fun w hw => get_some b u.A u.c u.es (gE y.es i).k i (gE u.es i) w ((hw.has (i := 6) rfl).of_own) (by omega) (hw.blkCell (i := 5) rfl rfl) (fun e he => (Has.starM (hw.has (i := 7) rfl) (List.mem_map_of_mem he)).of_own) hl6 hpl (gE_at (by omega))) (fun _ _ => trivial) (fun x hx => SX.done (hK x hx))) (fun z hz => ?_)
        refine SXI.of (fun _ hK => s_mv 92 rfl rfl (SX.done hK)) ?_
        refine SXI.of (fun _ hK => s_ext 100 rfl rfl rfl (SX.done hK)) ?_
        refine SXI.of (fun _ hK => s_ext 101 rfl rfl rfl (SX.done hK)) ?_
        refine SXI.of1 (pf := fun _ => True) (fun _ hK => s_alloc 13 rfl (fun _ _ => trivial) (fun x => SX.done (hK x trivial))) (fun b13 _ => ?_)
        refine SXI.of (fun _ hK => s_stAll 0 rfl rfl (by kernel_rfl) rfl rfl rfl rfl (fun _ _ => trivial) (SX.done hK)) ?_
        refine SXI.of (fun _ hK => s_as 14 rfl rfl (SX.done hK)) ?_
        refine SXI.next ?_
        refine CWI.seq ?_
        refine CWI.seq ?_
        refine CWI.regD (.st true 0 (.st true 1 (.st true 2 (.st true 3 (.st true 4 (.st true 5 (.st true 6 (.st true 7 (.st true 8 (.st true 9 (.st true 10 (.st true 11 (.st true 12 (.st true 13 (.st true 14 (.st true 15 .done)))))))))))))))) (Sto w [blk b13 73 #[.int .i64 (gE u.es i).k, .bool (gE u.es i).tr, .slice z.1 (gE u.es i).l.length z.2], own 5 1 z.1 (gE u.es i).l.length z.2 (nats .u8 (gE u.es i).l), blk b3 5 #[.int .u8 (v : Nat)]]) mixed (by kernel_rfl) (fun _ h => h.drew) (fun _ h => h.pick [0, 0, 4] rfl) ?_
        refine SXI.of (fun _ hK => s_mv 102 rfl rfl (SX.done hK)) ?_
        refine SXI.of (fun _ hK => s_not 103 rfl rfl (SX.done hK)) ?_
        refine SXI.of (fun _ hK => s_mv 104 rfl rfl (SX.done hK)) ?_
        refine SXI.of (fun _ hK => s_fa 105 rfl rfl (SX.done hK)) ?_
        refine SXI.of (fun _ hK => s_ldS 106 rfl rfl (v := .slice z.1 (gE u.es i).l.length z.2) (fun _ hw => hw.blkCell (i := 0) (j := 2) rfl rfl) (SX.done hK)) ?_
        refine SXI.of (fun _ hK => s_len 107 rfl rfl (SX.done hK)) ?_
        refine SXI.of (fun _ hK => s_ne 108 rfl rfl rfl (decide_eq_false (by omega)) (SX.done hK)) ?_
        refine SXI.of (fun _ hK => s_pickF 109 rfl rfl rfl (SX.done hK)) ?_
        refine SXI.of (fun _ hK => s_mv 110 rfl rfl (SX.done hK)) ?_
        refine SXI.of (fun _ hK => s_fa 111 rfl rfl (SX.done hK)) ?_
        refine SXI.of (fun _ hK => s_ldS 112 rfl rfl (v := .slice z.1 (gE u.es i).l.length z.2) (fun _ hw => hw.blkCell (i := 0) (j := 2) rfl rfl) (SX.done hK)) ?_
        refine SXI.of (fun _ hK => s_iaO 113 1 0 rfl rfl rfl rfl rfl (by omega) (SX.done hK)) ?_
        refine SXI.of (fun _ hK => s_ldS 114 rfl rfl (v := .int .u8 (v : Nat)) (fun _ hw => hw.ownCell (q := 1) (j := 0) rfl (by rw [j3]; rfl)) (SX.done hK)) ?_
        refine SXI.of (fun _ hK => s_ldS 115 rfl rfl (v := .int .u8 (v : Nat)) (fun _ hw => hw.blkCell (i := 2) rfl rfl) (SX.done hK)) ?_
        refine SXI.of (fun _ hK => s_ne 116 rfl rfl rfl (decide_eq_false (fun h => h rfl)) (SX.done hK)) ?_
        refine SXI.of (fun _ hK => s_pickF 117 rfl rfl rfl (SX.done hK)) ?_
        refine SXI.next ?_
        refine CWI.condF rfl ?_
        refine CWI.skip ?_
        refine KNI.code ?_
        refine CWI.seq ?_
        refine CWI.reg [0, 1, 2, 3, 4, 5] rfl (by kernel_rfl) ?_
        refine SXI.of (fun _ hK => s_fa 118 rfl rfl (SX.done hK)) ?_
        refine SXI.of (fun _ hK => s_ld 119 rfl rfl (v := .slice z.1 (gE u.es i).l.length z.2) (fun _ hw => hw.blkCell (i := 0) (j := 2) rfl rfl) (SX.done hK)) ?_
        refine SXI.of (fun _ hK => s_ldB 120 6 rfl rfl rfl (v := .int .u8 (v : Nat)) rfl (SX.done hK)) ?_
        refine SXI.of (fun _ hK => s_add 121 rfl rfl rfl (r := IntKind.u8.wrap (((v : Nat) : Int) + 2)) rfl (SX.done hK)) ?_
        refine SXI.of (fun _ hK => s_iaO 122 1 0 rfl rfl rfl rfl rfl (by omega) (SX.done hK)) ?_
        refine SXI.of (fun _ hK => s_stO 1 rfl rfl rfl rfl rfl (by omega) (fun _ _ => trivial) (SX.done hK)) ?_
        refine SXI.next ?_
        refine CWI.seq ?_
        refine CWI.reg [0, 1, 2, 3, 4, 5, 6] rfl (by kernel_rfl) ?_
        refine SXI.of (fun _ hK => s_mv 123 rfl rfl (SX.done hK)) ?_
        refine SXI.of (fun _ hK => s_mv 124 rfl rfl (SX.done hK)) ?_
        refine SXI.of (fun _ hK => s_iaOS 125 3 i rfl rfl rfl rfl rfl hil (SX.done hK)) ?_
        refine SXI.of (fun _ hK => s_fa 126 rfl rfl (SX.done hK)) ?_
        refine SXI.of (fun _ hK => s_ld 127 rfl rfl (v := .slice (gE y.es i).A (gE y.es i).l.length (gE y.es i).c) (fun _ hw => hw.ownCell (q := 3) (j := i * 3 + 2) rfl (rowsE_at (j := 2) hmi rfl)) (SX.done hK)) ?_
        have hXi : (datsE (mdI y.es i))[i]? = some (own 5 1 (gE y.es i).A (gE y.es i).l.length (gE y.es i).c (nats .u8 (gE y.es i).l)) := by unfold datsE; rw [List.getElem?_map, hmi]; rfl
        refine SXI.of (fun _ hK => s_iaStar 128 4 i 1 rfl hXi rfl rfl rfl rfl (by omega) (SX.done hK)) ?_
        refine SXI.of (fun _ hK => s_stStar 4 i rfl hXi rfl rfl rfl rfl (by omega) (fun _ _ => trivial) (SX.done hK)) ?_
        refine SXI.next ?_
        refine CWI.reg [0, 1, 2, 3, 4] rfl (by kernel_rfl) ?_
        refine SXI.of (fun _ hK => s_mv 129 rfl rfl (SX.done hK)) ?_
        refine SXI.of (fun _ hK => s_mv 130 rfl rfl (SX.done hK)) ?_
        refine SXI.of (fun _ hK => s_iaOS 131 3 i rfl rfl rfl rfl rfl hil (SX.done hK)) ?_
        refine SXI.of (fun _ hK => s_fa 132 rfl rfl (SX.done hK)) ?_
        refine SXI.of (fun _ hK => s_stOS 3 (j := i * 3) rfl rfl rfl rfl rfl (by omega) (fun _ _ => trivial) (SX.done hK)) ?_
        refine SXI.end_ ?_
        refine KNI.blk ?_
        refine KNI.code ?_
        refine CWI.reg [0, 1, 2] rfl (by kernel_rfl) ?_
        refine SXI.of (fun _ hK => s_mv 76 rfl rfl (SX.done hK)) ?_
        refine SXI.of (fun _ hK => s_add 77 rfl rfl rfl (r := ((i + 1 : Nat) : Int)) (w64 (by omega)) (SX.done hK)) ?_
        refine SXI.of (fun _ hK => s_as 12 rfl rfl (SX.done hK)) ?_
        refine SXI.end_ ?_
        exact KNI.back (i + 1) rfl ⟨rfl, rfl, rfl, rfl, rfl, rfl, trivial⟩ (fun _ h => by
  have e1 : rowsE (mdI y.es (i + 1)) = (rowsE (mdI y.es i)).set (i * 3) (.int .i64 77) := by rw [mdI_next hil]; exact rows_key 77 _ hmi (by simp)
  have e2 : datsE (mdI y.es (i + 1)) = (datsE (mdI y.es i)).set i (own 5 1 (gE y.es i).A (gE y.es i).l.length (gE y.es i).c ((nats .u8 (gE y.es i).l).set 1 (.int .u8 9))) := by
    rw [mdI_next hil, dats_set]
    congr 1
    show own _ 1 _ ((gE y.es i).l.set 1 9).length _ (nats .u8 ((gE y.es i).l.set 1 9)) = _
    rw [List.length_set, show nats .u8 ((gE y.es i).l.set 1 9) = (nats .u8 (gE y.es i).l).set 1 (.int .u8 9) by simp [nats, List.map_set]]
    rfl
  rw [e1, e2]
  exact h.pick [3, 3, 3, 3, 3, 3, 3, 3] rfl) (by omega) (by omega)
      · skip
        have hie3 : i = y.es.length := by omega
        refine CWI.exit rfl ?_
        refine KNI.code ?_
        refine CWI.seq ?_
        refine CWI.reg [0, 1] rfl (by kernel_rfl) ?_
        refine SXI.of (fun _ hK => s_mv 133 rfl rfl (SX.done hK)) ?_
        refine SXI.of1 (fun _ hK => s_call 134 rfl rfl rfl rfl (fun w hw => each_spec b w) (fun _ _ => trivial) (fun x hx => SX.done (hK x hx))) (fun bx _ => ?_)
        refine SXI.next ?_
        refine CWI.block ?_
        refine CWI.rangeFuncY (G := Unit) (GX := Empty) (X := Option Addr × Nat) (Y := Nat) (fun _ _ => [blk b3 5 #[.int .u8 (v : Nat)]]) (fun _ _ => True) (fun _ x => x.elim) (fun _ _ => False) (fun x => x.elim) () [blk bx 69 #[.pointer (some ⟨b, 0, none⟩)], blk b 141 #[.int .i64 2, .int .i64 8, .int .i64 8, .slice u.A u.es.length u.c], own 73 3 u.A u.es.length u.c (rowsE u.es), starA (datsE u.es)] [blk b4 4 #[.bool false], starA (q.2.map defB)] (fun i x y => [blk y 73 #[.int .i64 (gE u.es i).k, .bool (gE u.es i).tr, .slice x.1 (gE u.es i).l.length x.2]]) (fun i x y => [(3, .pointer (some ⟨b3, 0, none⟩)), (16, .pointer (some ⟨y, 0, none⟩))]) rfl (eachItB b bx 2 8 8 u w (by omega) hl6) [4, 0, 3, 3, 3, 2, 2] rfl trivial (fun _ _ => rfl) (by simp) ?_ ?_ ?_ ?_
        · intro lr i x B hi hx
          refine CWI.reg [0, 1] rfl (by kernel_rfl) ?_
          refine SXI.of1 (pf := fun _ => True) (fun _ hK => s_alloc 16 rfl (fun _ _ => trivial) (fun x => SX.done (hK x trivial))) (fun b16 _ => ?_)
          refine SXI.of (fun _ hK => s_stAll 0 rfl rfl (by kernel_rfl) rfl rfl rfl rfl (fun _ _ => trivial) (SX.done hK)) ?_
          refine SXI.end_ ?_
          exact ⟨fun a w he hc => ⟨b16, he.sub (SubL.sub ⟨rfl, rfl, trivial⟩), hc⟩⟩
        · intro lr T i g x y hi hg hx
          obtain ⟨j1, j2, j3⟩ := hO.ok _ (gE_mem hi)
          have hu2 : (gE u.es i).l.length = 2 := by rw [j3]; rfl
          refine CWI.block ?_
          refine CWI.seq ?_
          refine CWI.seq ?_
          refine CWI.regD (.st true 0 (.st true 1 (.st true 2 (.st true 3 (.st true 4 (.st true 5 (.st true 6 (.st true 7 (.st true 8 (.st true 9 (.st true 10 (.st true 11 (.st true 12 (.st true 13 (.st true 14 (.st true 15 (.st true 16 (.st true 17 (.st true 18 .done))))))))))))))))))) (Sto w [blk y 73 #[.int .i64 (gE u.es i).k, .bool (gE u.es i).tr, .slice x.1 (gE u.es i).l.length x.2], own 5 1 x.1 (gE u.es i).l.length x.2 (nats .u8 (gE u.es i).l), blk b3 5 #[.int .u8 (v : Nat)], T]) mixed (by kernel_rfl) (fun _ h => h.drew) (fun _ h => h) ?_
          refine SXI.of (fun _ hK => s_fa 137 rfl rfl (SX.done hK)) ?_
          refine SXI.of (fun _ hK => s_ldS 138 rfl rfl (v := .slice x.1 (gE u.es i).l.length x.2) (fun _ hw => hw.blkCell (i := 0) (j := 2) rfl rfl) (SX.done hK)) ?_
          refine SXI.of (fun _ hK => s_len 139 rfl rfl (SX.done hK)) ?_
          refine SXI.of (fun _ hK => s_ne 140 rfl rfl rfl (decide_eq_false (by omega)) (SX.done hK)) ?_
          refine SXI.of (fun _ hK => s_mv 141 rfl rfl (SX.done hK)) ?_
          refine SXI.of (fun _ hK => s_fa 142 rfl rfl (SX.done hK)) ?_
          refine SXI.of (fun _ hK => s_ldS 143 rfl rfl (v := .slice x.1 (gE u.es i).l.length x.2) (fun _ hw => hw.blkCell (i := 0) (j := 2) rfl rfl) (SX.done hK)) ?_
          refine SXI.of (fun _ hK => s_iaO 144 1 0 rfl rfl rfl rfl rfl (by omega) (SX.done hK)) ?_
          refine SXI.of (fun _ hK => s_ldS 145 rfl rfl (v := .int .u8 (v : Nat)) (fun _ hw => hw.ownCell (q := 1) (j := 0) rfl (by rw [j3]; rfl)) (SX.done hK)) ?_
          refine SXI.of (fun _ hK => s_ldS 146 rfl rfl (v := .int .u8 (v : Nat)) (fun _ hw => hw.blkCell (i := 2) rfl rfl) (SX.done hK)) ?_
          refine SXI.of (fun _ hK => s_ne 147 rfl rfl rfl (decide_eq_false (fun h => h rfl)) (SX.done hK)) ?_
          refine SXI.of (fun _ hK => s_pickF 148 rfl rfl rfl (SX.done hK)) ?_
          refine SXI.of (fun _ hK => s_mv 149 rfl rfl (SX.done hK)) ?_
          refine SXI.of (fun _ hK => s_fa 150 rfl rfl (SX.done hK)) ?_
          refine SXI.of (fun _ hK => s_ldS 151 rfl rfl (v := .slice x.1 (gE u.es i).l.length x.2) (fun _ hw => hw.blkCell (i := 0) (j := 2) rfl rfl) (SX.done hK)) ?_
          refine SXI.of (fun _ hK => s_iaO 152 1 1 rfl rfl rfl rfl rfl (by omega) (SX.done hK)) ?_
          refine SXI.of (fun _ hK => s_ldS 153 rfl rfl (v := .int .u8 7) (fun _ hw => hw.ownCell (q := 1) (j := 1) rfl (by rw [j3]; rfl)) (SX.done hK)) ?_
          refine SXI.of (fun _ hK => s_ne 154 rfl rfl rfl (decide_eq_false (fun h => h rfl)) (SX.done hK)) ?_
          refine SXI.of (fun _ hK => s_pickF 155 rfl rfl rfl (SX.done hK)) ?_
          refine SXI.next ?_
          refine CWI.condF rfl ?_
          refine CWI.skip ?_
          refine KNI.code ?_
          refine CWI.reg [0, 1, 2, 3] rfl (by kernel_rfl) ?_
          refine SXI.of (fun _ hK => s_fa 156 rfl rfl (SX.done hK)) ?_
          refine SXI.of (fun _ hK => s_ld 157 rfl rfl (v := .slice x.1 (gE u.es i).l.length x.2) (fun _ hw => hw.blkCell (i := 0) (j := 2) rfl rfl) (SX.done hK)) ?_
          refine SXI.of (fun _ hK => s_iaO 158 1 1 rfl rfl rfl rfl rfl (by omega) (SX.done hK)) ?_
          refine SXI.of (fun _ hK => s_stO 1 rfl rfl rfl rfl rfl (by omega) (fun _ _ => trivial) (SX.done hK)) ?_
          refine SXI.end_ ?_
          refine KNI.blk ?_
          exact ⟨fun a w he hc => ⟨(), trivial, hc.pick [2, 2] rfl⟩⟩
        · intro D g hg
          refine KNI.blk ?_
          refine KNI.blk ?_
          refine KNI.code ?_
          refine CWI.reg [0, 1, 2] rfl (by kernel_rfl) ?_
          refine SXI.of (fun _ hK => s_mv 68 rfl rfl (SX.done hK)) ?_
          refine SXI.of (fun _ hK => s_add 69 rfl rfl rfl (r := ((q.1 + 1 : Nat) : Int)) (w64 (by omega)) (SX.done hK)) ?_
          refine SXI.of (fun _ hK => s_as 10 rfl rfl (SX.done hK)) ?_
          refine SXI.end_ ?_
          exact KNI.back (q.1 + 1, D :: q.2) rfl ⟨rfl, rfl, rfl, rfl, trivial⟩ (fun _ h => ((h.pick [0, 6, 5, 0, 1, 1, 1] rfl).markStar).pick [1, 1, 1, 1, 1, 0] rfl) (by simp only; omega) (by simp only; omega)
        · intro D i g hi hg
          exact hg.elim
    · skip
      refine CWI.exit rfl ?_
      refine KNI.code ?_
      refine CWI.seq ?_
      refine CWI.reg [0, 1, 2, 3] rfl (by kernel_rfl) ?_
      refine SXI.of (fun _ hK => s_mv 159 rfl rfl (SX.done hK)) ?_
      refine SXI.of (fun _ hK => s_call1 160 rfl rfl rfl rfl (fun w hw => blen_spec b u.A u.c u.es w (hw.blkCell (i := 2) rfl rfl)) (fun _ _ => trivial) (SX.done hK)) ?_
      refine SXI.of (fun _ hK => s_le 161 rfl rfl rfl (decide_eq_true (by omega)) (SX.done hK)) ?_
      refine SXI.of (fun _ hK => s_stB 0 rfl rfl rfl rfl rfl (Nat.lt_succ_self 0) (fun _ _ => trivial) (SX.done hK)) ?_
      refine SXI.next ?_
      refine CWI.ret ?_
      exact retMC (rs := [.cell 4 4]) (L := [blk b4 4 #[.bool true]]) q.2 rfl Tryd.results6 (fun _ h => (St.star _).2 (h.pick [5, 0] rfl)) (fun w hw => ⟨[_], ⟨⟨_, rfl, run_loadVar1 (hw.blkCell (i := 0) (j := 0) rfl rfl)⟩, trivial⟩, rfl, hw.pick [] rfl⟩)

theorem walk_BufferOwn (A0 : Option Addr) (n0 c0 : Nat) (l0 : List Int) (a1 : Int) (e : Nat → Addr) (w : World) (hs0 : Has (sl 1 A0 n0 (ints .i64 l0)) w) (hn0 : n0 ≤ 9223372036854775807) (h1 : 0 ≤ a1 ∧ a1 < 256) (he1 : Er e w 1) (he2 : Er e w 5) (he3 : Er e w 3) : Spec1 Tryd.prog 6 [.slice A0 n0 c0, .int .u8 a1] w (.bool true) := by
  obtain ⟨v, rfl⟩ := Int.eq_ofNat_of_zero_le h1.1
  by_cases h : n0 ≤ 30
  · exact bown_ok A0 n0 c0 l0 v e w hs0 hn0 (by omega) he1 he2 he3 h
  · exact bown_long A0 n0 c0 l0 v e w hs0 hn0 (by omega) he1 he2 he3 (by omega)
theorem u8_wf {a : Int} (h : (Lit.int .u8 a).wf = true) : 0 ≤ a ∧ a < 256 := by
  simp only [Lit.wf, Bool.and_eq_true, decide_eq_true_eq] at h
  have e1 : IntKind.u8.min = 0 := by decide
  have e2 : IntKind.u8.max = 255 := by decide
  omega
end Go.Proofs.YtcdmmfpgeagimaaDoor
end
