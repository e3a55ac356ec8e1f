/- The walk of the statement BufferKeeps, text 4. Conditions: each theorem tells its own. -/
import Derived.Test.YtcdmmfpgeagimaaDoorWBufferKeepsC
import Derived.Test.YtcdmmfpgeagimaaDoorWBufferKeepsB
import Derived.Deep.Strs
section
/- The statement BufferOwn, walked. Conditions: the errors' variables; the byte's range. -/
namespace Go.Proofs.YtcdmmfpgeagimaaDoor
open Go Go.Lib Go.Sx Go.Fm
set_option maxRecDepth 100000
theorem _root_.Go.Sx.Has.entRowN {A : Option Addr} {n : Nat} {es : List EntG} {w : World} (h : Has (sl 3 A n (rowsE es)) w) (hn : n ≠ 0) {i : Nat} {e : EntG} (he : es[i]? = some e) : ∀ j v, e.row[j]? = some v → w.cell? ⟨ob A, oo A + i * 3 + j, none⟩ = some v := fun j v hj => by
  have := (h.sl_cell hn (rowsE_at he hj)).2
  rw [Nat.add_assoc]
  exact this
theorem nodup_len {α : Type} [DecidableEq α] : ∀ {L1 L2 : List α}, L1.Nodup → (∀ x ∈ L1, x ∈ L2) → L1.length ≤ L2.length
  | [], _, _, _ => Nat.zero_le _
  | x :: L1, L2, hn, hs => by
    have hn := List.nodup_cons.1 hn
    have hx := hs x (List.mem_cons_self ..)
    have h1 := nodup_len (L1 := L1) (L2 := L2.erase x) hn.2 (fun y hy => (List.mem_erase_of_ne (fun (e : y = x) => hn.1 (by rw [← e]; exact hy))).2 (hs y (List.mem_cons_of_mem _ hy)))
    rw [List.length_erase_of_mem hx] at h1
    have h2 := List.length_pos_of_mem hx
    simp only [List.length_cons]
    omega
theorem keys_few {L : List Int} {n : Nat} (hn : L.Nodup) (h : ∀ x ∈ L, 0 ≤ x ∧ x < (n : Nat)) : L.length ≤ n := by
  have := nodup_len (L2 := (List.range n).map Int.ofNat) hn (fun x hx => by
    obtain ⟨h1, h2⟩ := h x hx
    exact List.mem_map.2 ⟨x.toNat, List.mem_range.2 (by omega), by show ((x.toNat : Nat) : Int) = x; omega⟩)
  simpa using this
theorem plI_free {key : Int} {es : List EntG} (h : plI key es = -1) : ∀ e ∈ es, e.k ≠ key := fun e he hk => by
  have : es.findIdx (fun e => decide (e.k = key)) < es.length := List.findIdx_lt_length_of_exists ⟨e, he, decide_eq_true hk⟩
  unfold plI plN at h
  rw [if_pos this] at h
  omega
/-- Unlike keys. -/
def KeysU (es : List EntG) : Prop := (es.map EntG.k).Nodup
theorem KeysU.self {es : List EntG} (h : KeysU es) {i : Nat} {e : EntG} (he : es[i]? = some e) : plI e.k es = (i : Nat) := plI_at (fun j e2 hj he2 hk => by
  have h1 := (List.getElem?_eq_some_iff.1 he).1
  have h2 := (List.getElem?_eq_some_iff.1 he2).1
  have := (List.getElem_inj (xs := es.map EntG.k) (h₀ := by simpa using h2) (h₁ := by simpa using h1) h).1 (by rw [List.getElem_map, List.getElem_map, (List.getElem?_eq_some_iff.1 he).2, (List.getElem?_eq_some_iff.1 he2).2, hk])
  omega) he rfl
theorem KeysU.new {es : List EntG} (h : KeysU es) (en : EntG) : KeysU (wNew es en) := by
  unfold KeysU wNew
  rw [List.map_append]
  refine List.nodup_append.2 ⟨?_, by simp, ?_⟩
  · split
    · exact h
    · exact h.sublist ((List.eraseIdx_sublist es _).map _)
  · intro a ha b hb
    obtain rfl : b = en.k := by simpa using hb
    obtain ⟨e, he, rfl⟩ := List.mem_map.1 ha
    by_cases hp : plI en.k es = -1
    · rw [if_pos hp] at he
      exact plI_free hp e he
    · rw [if_neg hp] at he
      intro hk
      obtain ⟨hp1, hp2⟩ := (plI_cases en.k es).resolve_left hp
      obtain ⟨j, hj1, hj2⟩ := List.mem_eraseIdx_iff_getElem?.1 he
      have := h.self hj2
      rw [hk, hp2] at this
      omega
theorem mem_wNew {es : List EntG} {en e : EntG} (h : e ∈ wNew es en) : e ∈ es ∨ e = en := by
  unfold wNew at h
  rcases List.mem_append.1 h with h | h
  · left
    split at h
    · exact h
    · exact List.mem_of_mem_eraseIdx h
  · exact .inr (by simpa using h)
/-- What BufferOwn's buffer holds. -/
structure OwnI (v : Nat) (es : List EntG) : Prop where
  nd : KeysU es
  ok : ∀ e ∈ es, (0 ≤ e.k ∧ e.k < 8) ∧ e.tr = false ∧ e.l = [v, 7]
theorem OwnI.nil (v : Nat) : OwnI v [] := ⟨List.nodup_nil, fun e he => by cases he⟩
theorem OwnI.few {v : Nat} {es : List EntG} (h : OwnI v es) : es.length ≤ 8 := by
  have := keys_few (n := 8) h.nd (fun x hx => by
    obtain ⟨e, he, rfl⟩ := List.mem_map.1 hx
    have := (h.ok e he).1
    omega)
  simpa using this
theorem OwnI.room {v : Nat} {es : List EntG} (h : OwnI v es) {k : Int} (h0 : 0 ≤ k) (h8 : k < 8) : ¬ (plI k es = -1 ∧ (8 : Int) ≤ (es.length : Int)) := fun ⟨h1, h2⟩ => by
  have := keys_few (L := k :: es.map EntG.k) (n := 8) (List.nodup_cons.2 ⟨fun hm => by
    obtain ⟨e, he, hk⟩ := List.mem_map.1 hm
    exact plI_free h1 e he hk, h.nd⟩) (fun x hx => by
    rcases List.mem_cons.1 hx with rfl | hx
    · omega
    · obtain ⟨e, he, rfl⟩ := List.mem_map.1 hx
      have := (h.ok e he).1
      omega)
  simp at this
  omega
theorem OwnI.next {v : Nat} {es : List EntG} (h : OwnI v es) {k : Int} (h0 : 0 ≤ k) (h8 : k < 8) (A : Option Addr) (c : Nat) : OwnI v (wNew es ⟨k, false, A, c, [v, 7]⟩) :=
  ⟨h.nd.new _, fun e he => by
    rcases mem_wNew he with he | rfl
    · exact h.ok e he
    · exact ⟨⟨h0, h8⟩, rfl, rfl⟩⟩
theorem OwnI.put {v : Nat} {es : List EntG} (h : OwnI v es) (e : Nat → Addr) {k : Int} (h0 : 0 ≤ k) (h8 : k < 8) (A : Option Addr) (c : Nat) : wV e 8 8 true es k = .nilIface ∧ wRes 8 8 true es ⟨k, false, A, c, [v, 7]⟩ = wNew es ⟨k, false, A, c, [v, 7]⟩ := by
  unfold wV wRes
  rw [if_neg (by omega), if_neg (by decide), if_neg (h.room h0 h8), if_neg (by show ¬ (k < 0 ∨ 8 ≤ k); omega), if_neg (by decide), if_neg (h.room h0 h8)]
  exact ⟨rfl, rfl⟩
theorem own_put {v : Nat} (e : Nat → Addr) (F : Nat → Prop) (b : Nat) (u : BufG) (hO : OwnI v u.es) {k : Int} (h0 : 0 ≤ k) (h8 : k < 8) (A : Option Addr) (c : Nat) (w : World) (hE1 : ∀ w', Fr F w w' → Er e w' 1) (hE2 : ∀ w', Fr F w w' → Er e w' 5) (hE3 : ∀ w', Fr F w w' → Er e w' 3)
    (hd : ∀ w', Fr F w w' → Has (sl 1 A 2 (nats .u8 [v, 7])) w') (hw : St F w [blk b 141 #[.int .i64 2, .int .i64 8, .int .i64 8, .slice u.A u.es.length u.c], own 73 3 u.A u.es.length u.c (rowsE u.es), starA (datsE u.es)] w) :
    SpecP Tryd.prog 53 [.pointer (some ⟨b, 0, none⟩), .int .i64 k, .slice A 2 c] F w (X := BufG × Option Addr × Nat) (fun _ => .nilIface) (fun x => x.1.es = wNew u.es ⟨k, false, x.2.1, x.2.2, [v, 7]⟩) (fun x => [blk b 141 #[.int .i64 2, .int .i64 8, .int .i64 8, .slice x.1.A x.1.es.length x.1.c], own 73 3 x.1.A x.1.es.length x.1.c (rowsE x.1.es), starA (datsE x.1.es)]) := by
  have hf8 := hO.few
  have h1 := put_spec e F b 2 8 8 u k A 2 c [v, 7] w (by omega) hE1 hE2 hE3 hd (by omega) hw
  refine Calls.mono h1 (fun _ _ ⟨x, q1, q2, q3⟩ => ⟨x, ?_, ?_, q3⟩)
  · exact q1.trans (congrArg _ (hO.put e h0 h8 x.2.1 x.2.2).1)
  · exact q2.trans (hO.put e h0 h8 x.2.1 x.2.2).2
/-- What is done to an entry of the answer. -/
def md (e : EntG) : EntG := ⟨77, e.tr, e.A, e.c, e.l.set 1 9⟩
def mdI (es : List EntG) (i : Nat) : List EntG := (es.take i).map md ++ es.drop i
theorem mdI_zero (es : List EntG) : mdI es 0 = es := rfl
theorem mdI_at {es : List EntG} {i : Nat} (h : i < es.length) : (mdI es i)[i]? = some (gE es i) := by
  unfold mdI
  rw [List.getElem?_append_right (by rw [List.length_map, List.length_take]; omega), List.length_map, List.length_take, Nat.min_eq_left (by omega), Nat.sub_self, List.getElem?_drop, Nat.add_zero]
  exact gE_at h
theorem mdI_next {es : List EntG} {i : Nat} (h : i < es.length) : mdI es (i + 1) = (mdI es i).set i (md (gE es i)) := by
  have e1 : es.take (i + 1) = es.take i ++ [gE es i] := by rw [List.take_add_one, gE_at h]; rfl
  have e2 : es.drop i = gE es i :: es.drop (i + 1) := by
    rw [List.drop_eq_getElem_cons h]
    congr 1
    have := gE_at h
    rw [List.getElem?_eq_getElem h] at this
    exact Option.some.inj this
  unfold mdI
  rw [e1, e2, List.set_append_right _ _ (by rw [List.length_map, List.length_take]; omega), List.length_map, List.length_take, Nat.min_eq_left (by omega), Nat.sub_self, List.map_append, List.append_assoc]
  rfl
theorem rows_key : ∀ {es : List EntG} {i : Nat} {e : EntG} (v : Int) (l : List Nat), es[i]? = some e → l.length = e.l.length → rowsE (es.set i ⟨v, e.tr, e.A, e.c, l⟩) = (rowsE es).set (i * 3) (.int .i64 v)
  | [], i, e, v, l, h, _ => by simp at h
  | e0 :: es, 0, e, v, l, h, hl => by
    obtain rfl : e0 = e := by simpa using h
    show [Value.int .i64 v, .bool e0.tr, .slice e0.A l.length e0.c] ++ rowsE es = ([Value.int .i64 e0.k, .bool e0.tr, .slice e0.A e0.l.length e0.c] ++ rowsE es).set (0 * 3) _
    rw [hl]
    rfl
  | e0 :: es, i + 1, e, v, l, h, hl => by
    have ih := rows_key (es := es) (i := i) v l (by simpa using h) hl
    show e0.row ++ rowsE (es.set i _) = (e0.row ++ rowsE es).set ((i + 1) * 3) _
    rw [ih, List.set_append_right _ _ (by show 3 ≤ _; omega)]
    congr 2
    show i * 3 = (i + 1) * 3 - 3
    omega
theorem dats_set (es : List EntG) (i : Nat) (e : EntG) : datsE (es.set i e) = (datsE es).set i e.dat := List.map_set

theorem bown_long (A0 : Option Addr) (n0 c0 : Nat) (l0 : List Int) (v : Nat) (e : Nat → Addr) (w : World) (_hs0 : Has (sl 1 A0 n0 (ints .i64 l0)) w) (hn0 : n0 ≤ 9223372036854775807) (_hv : v < 256) (he1 : Er e w 1) (he2 : Er e w 5) (he3 : Er e w 3) (h30 : 30 < n0) : Spec1 Tryd.prog 6 [.slice A0 n0 c0, .int .u8 (v : Nat)] w (.bool true) := by
  refine calls_ofI Tryd.func6 rfl Tryd.ntmps6 rfl (C := Sto w []) (St.start w) ?_
  refine CWI.seq ?_
  refine CWI.reg [0, 1] rfl (by kernel_rfl) ?_
  refine SXI.of1 (pf := fun _ => True) (fun _ hK => s_box 3 rfl rfl (fun _ _ => trivial) (fun x => SX.done (hK x trivial))) (fun b3 _ => ?_)
  refine SXI.of1 (pf := fun _ => True) (fun _ hK => s_alloc 4 rfl (fun _ _ => trivial) (fun x => SX.done (hK x trivial))) (fun b4 _ => ?_)
  refine SXI.next ?_
  refine CWI.seq ?_
  refine CWI.reg [0, 1] rfl (by kernel_rfl) ?_
  refine SXI.of (fun _ hK => s_call1 17 rfl rfl rfl rfl (fun w hw => first19_spec e w (hw.er he1) (hw.er he2) (hw.er he3)) (fun _ _ => trivial) (SX.done hK)) ?_
  refine SXI.of (fun _ hK => s_as 5 rfl rfl (SX.done hK)) ?_
  refine SXI.next ?_
  refine CWI.seq ?_
  refine CWI.reg [0, 1, 2, 3, 4, 5] rfl (by kernel_rfl) ?_
  refine SXI.of1 (fun _ hK => s_call 19 rfl rfl rfl rfl (fun w hw => bnew_ok 2 8 8 w (by decide) (by decide) (by decide) (by decide) (by decide) (by decide)) (fun _ _ => trivial) (fun x hx => SX.done (hK x hx))) (fun b _ => ?_)
  refine SXI.of (fun _ hK => s_mv 18 rfl rfl (SX.done hK)) ?_
  refine SXI.of (fun _ hK => s_ext 20 rfl rfl rfl (SX.done hK)) ?_
  refine SXI.of (fun _ hK => s_ext 21 rfl rfl rfl (SX.done hK)) ?_
  refine SXI.of (fun _ hK => s_as 6 rfl rfl (SX.done hK)) ?_
  refine SXI.of (fun _ hK => s_as 7 rfl rfl (SX.done hK)) ?_
  refine SXI.next ?_
  refine CWI.seq ?_
  refine CWI.seq ?_
  refine CWI.reg [0, 1, 2, 3, 4, 5, 6, 7, 8, 9, 10, 11, 12, 13, 14] rfl (by kernel_rfl) ?_
  refine SXI.of (fun _ hK => s_mv 22 rfl rfl (SX.done hK)) ?_
  refine SXI.of (fun _ hK => s_eqPN 23 rfl rfl (SX.done hK)) ?_
  refine SXI.of (fun _ hK => s_mv 24 rfl rfl (SX.done hK)) ?_
  refine SXI.of (fun _ hK => s_mv 25 rfl rfl (SX.done hK)) ?_
  refine SXI.of (fun _ hK => s_neNN 26 rfl rfl (SX.done hK)) ?_
  refine SXI.of (fun _ hK => s_pickF 27 rfl rfl rfl (SX.done hK)) ?_
  refine SXI.of (fun _ hK => s_mv 28 rfl rfl (SX.done hK)) ?_
  refine SXI.of (fun _ hK => s_mv 29 rfl rfl (SX.done hK)) ?_
  refine SXI.of (fun _ hK => s_len 30 rfl rfl (SX.done hK)) ?_
  refine SXI.of (fun _ hK => s_gt 31 rfl rfl rfl (decide_eq_true (by omega)) (SX.done hK)) ?_
  refine SXI.of (fun _ hK => s_pickF 32 rfl rfl rfl (SX.done hK)) ?_
  refine SXI.of (fun _ hK => s_mv 33 rfl rfl (SX.done hK)) ?_
  refine SXI.of (fun _ hK => SX.skip rfl (SX.done hK)) ?_
  refine SXI.of (fun _ hK => SX.skip rfl (SX.done hK)) ?_
  refine SXI.of (fun _ hK => s_pickT 36 rfl rfl rfl (SX.done hK)) ?_
  refine SXI.next ?_
  refine CWI.condT rfl ?_
  refine CWI.seq ?_
  refine CWI.reg [0, 1, 2, 3, 4, 5] rfl (by kernel_rfl) ?_
  refine SXI.of (fun _ hK => s_mv 37 rfl rfl (SX.done hK)) ?_
  refine SXI.of (fun _ hK => s_mv 38 rfl rfl (SX.done hK)) ?_
  refine SXI.of (fun _ hK => s_mv 39 rfl rfl (SX.done hK)) ?_
  refine SXI.of (fun _ hK => s_nePN 40 rfl rfl (SX.done hK)) ?_
  refine SXI.of (fun _ hK => s_pickT 41 rfl rfl rfl (SX.done hK)) ?_
  refine SXI.of (fun _ hK => s_stB 1 rfl rfl rfl rfl rfl (Nat.lt_succ_self 0) (fun _ _ => trivial) (SX.done hK)) ?_
  refine SXI.next ?_
  refine CWI.ret ?_
  exact retMC (rs := [.cell 4 4]) (L := [blk b4 4 #[.bool true]]) [] rfl Tryd.results6 (fun _ h => h.pick [1] rfl) (fun w hw => ⟨[_], ⟨⟨_, rfl, run_loadVar1 (hw.blkCell (i := 0) (j := 0) rfl rfl)⟩, trivial⟩, rfl, hw.pick [] rfl⟩)

set_option maxHeartbeats 3200000 in

theorem bown_ok (A0 : Option Addr) (n0 c0 : Nat) (l0 : List Int) (v : Nat) (e : Nat → Addr) (w : World) (hs0 : Has (sl 1 A0 n0 (ints .i64 l0)) w) (hn0 : n0 ≤ 9223372036854775807) (hv : v < 256) (he1 : Er e w 1) (he2 : Er e w 5) (he3 : Er e w 3) (h30 : n0 ≤ 30) : Spec1 Tryd.prog 6 [.slice A0 n0 c0, .int .u8 (v : Nat)] w (.bool true) := by
  have hla0 := ints_len hs0
  subst hla0
  refine calls_ofI Tryd.func6 rfl Tryd.ntmps6 rfl (C := Sto w []) (St.start w) ?_
  refine CWI.seq ?_
  refine CWI.reg [0, 1] rfl (by kernel_rfl) ?_
  refine SXI.of1 (pf := fun _ => True) (fun _ hK => s_box 3 rfl rfl (fun _ _ => trivial) (fun x => SX.done (hK x trivial))) (fun b3 _ => ?_)
  refine SXI.of1 (pf := fun _ => True) (fun _ hK => s_alloc 4 rfl (fun _ _ => trivial) (fun x => SX.done (hK x trivial))) (fun b4 _ => ?_)
  refine SXI.next ?_
  refine CWI.seq ?_
  refine CWI.reg [0, 1] rfl (by kernel_rfl) ?_
  refine SXI.of (fun _ hK => s_call1 17 rfl rfl rfl rfl (fun w hw => first19_spec e w (hw.er he1) (hw.er he2) (hw.er he3)) (fun _ _ => trivial) (SX.done hK)) ?_
  refine SXI.of (fun _ hK => s_as 5 rfl rfl (SX.done hK)) ?_
  refine SXI.next ?_
  refine CWI.seq ?_
  refine CWI.reg [0, 1, 2, 3, 4, 5] rfl (by kernel_rfl) ?_
  refine SXI.of1 (fun _ hK => s_call 19 rfl rfl rfl rfl (fun w hw => bnew_ok 2 8 8 w (by decide) (by decide) (by decide) (by decide) (by decide) (by decide)) (fun _ _ => trivial) (fun x hx => SX.done (hK x hx))) (fun b _ => ?_)
  refine SXI.of (fun _ hK => s_mv 18 rfl rfl (SX.done hK)) ?_
  refine SXI.of (fun _ hK => s_ext 20 rfl rfl rfl (SX.done hK)) ?_
  refine SXI.of (fun _ hK => s_ext 21 rfl rfl rfl (SX.done hK)) ?_
  refine SXI.of (fun _ hK => s_as 6 rfl rfl (SX.done hK)) ?_
  refine SXI.of (fun _ hK => s_as 7 rfl rfl (SX.done hK)) ?_
  refine SXI.next ?_
  refine CWI.seq ?_
  refine CWI.seq ?_
  refine CWI.reg [0, 1, 2, 3, 4, 5, 6, 7, 8, 9, 10, 11, 12, 13, 14] rfl (by kernel_rfl) ?_
  refine SXI.of (fun _ hK => s_mv 22 rfl rfl (SX.done hK)) ?_
  refine SXI.of (fun _ hK => s_eqPN 23 rfl rfl (SX.done hK)) ?_
  refine SXI.of (fun _ hK => s_mv 24 rfl rfl (SX.done hK)) ?_
  refine SXI.of (fun _ hK => s_mv 25 rfl rfl (SX.done hK)) ?_
  refine SXI.of (fun _ hK => s_neNN 26 rfl rfl (SX.done hK)) ?_
  refine SXI.of (fun _ hK => s_pickF 27 rfl rfl rfl (SX.done hK)) ?_
  refine SXI.of (fun _ hK => s_mv 28 rfl rfl (SX.done hK)) ?_
  refine SXI.of (fun _ hK => s_mv 29 rfl rfl (SX.done hK)) ?_
  refine SXI.of (fun _ hK => s_len 30 rfl rfl (SX.done hK)) ?_
  refine SXI.of (fun _ hK => s_gt 31 rfl rfl rfl (decide_eq_false (by omega)) (SX.done hK)) ?_
  refine SXI.of (fun _ hK => s_pickF 32 rfl rfl rfl (SX.done hK)) ?_
  refine SXI.of (fun _ hK => s_mv 33 rfl rfl (SX.done hK)) ?_
  refine SXI.of (fun _ hK => s_mv 34 rfl rfl (SX.done hK)) ?_
  refine SXI.of (fun _ hK => s_not 35 rfl rfl (SX.done hK)) ?_
  refine SXI.of (fun _ hK => s_pickF 36 rfl rfl rfl (SX.done hK)) ?_
  refine SXI.next ?_
  refine CWI.condF rfl ?_
  refine CWI.skip ?_
  refine KNI.code ?_
  refine CWI.seq ?_
  refine CWI.reg [0, 1, 2] rfl (by kernel_rfl) ?_
  refine SXI.of (fun _ hK => s_ldB 42 2 rfl rfl rfl (v := .int .u8 (v : Nat)) rfl (SX.done hK)) ?_
  refine SXI.of1 (pf := fun _ => True) (fun _ hK => s_bsl 43 rfl rfl (cells := #[.int .u8 (v : Nat), .int .u8 7]) (by kernel_rfl) rfl (fun _ _ => trivial) (fun x => SX.done (hK x trivial))) (fun bm _ => ?_)
  refine SXI.of (fun _ hK => s_as 8 rfl rfl (SX.done hK)) ?_
  refine SXI.next ?_
  refine CWI.seq ?_
  refine CWI.seq ?_
  refine CWI.pre (C' := Sto w [blk bm 5 #[.int .u8 (v : Nat), .int .u8 7], blk b4 4 #[.bool false], blk b3 5 #[.int .u8 (v : Nat)], blk b 141 #[.int .i64 2, .int .i64 8, .int .i64 8, .slice (⟨none, 0, []⟩ : BufG).A (⟨none, 0, []⟩ : BufG).es.length (⟨none, 0, []⟩ : BufG).c], own 73 3 (⟨none, 0, []⟩ : BufG).A (⟨none, 0, []⟩ : BufG).es.length (⟨none, 0, []⟩ : BufG).c (rowsE (⟨none, 0, []⟩ : BufG).es), starA (datsE (⟨none, 0, []⟩ : BufG).es)]) (fun _ h => ((h.begin_ 73 3).nilStarS).pick [2, 3, 3, 2, 1, 0] rfl) ?_
  refine CWI.reg [0] rfl (by kernel_rfl) ?_
  refine SXI.of (fun _ hK => s_as 9 rfl rfl (SX.done hK)) ?_
  refine SXI.next ?_
  refine CWI.block ?_
  refine CWI.loop (G := Nat × Int × BufG) (fun _ => []) (fun z => [(0, .slice A0 l0.length c0), (3, .pointer (some ⟨b3, 0, none⟩)), (4, .pointer (some ⟨b4, 0, none⟩)), (6, .pointer (some ⟨b, 0, none⟩)), (8, .slice (some ⟨bm, 0, none⟩) 2 2), (9, .int .i64 (z.1 : Nat))]) (fun z => Sto w [blk bm 5 #[.int .u8 z.2.1, .int .u8 7], blk b4 4 #[.bool false], blk b3 5 #[.int .u8 (v : Nat)], blk b 141 #[.int .i64 2, .int .i64 8, .int .i64 8, .slice z.2.2.A z.2.2.es.length z.2.2.c], own 73 3 z.2.2.A z.2.2.es.length z.2.2.c (rowsE z.2.2.es), starA (datsE z.2.2.es)]) (fun z => z.1 ≤ l0.length ∧ OwnI v z.2.2.es) (fun z => l0.length - z.1) (0, (v : Nat), ⟨none, 0, []⟩) rfl ⟨rfl, rfl, rfl, rfl, rfl, rfl, trivial⟩ (fun _ h => h) ⟨Nat.zero_le _, OwnI.nil v⟩ ?_
  rintro ⟨i, m0, u⟩ ⟨hi, hO⟩
  simp only at hi hO
  dsimp only
  have hf8 := hO.few
  refine CWI.seq ?_
  refine CWI.seq ?_
  refine CWI.reg [0, 1, 2, 3] rfl (by kernel_rfl) ?_
  refine SXI.of (fun _ hK => s_mv 44 rfl rfl (SX.done hK)) ?_
  refine SXI.of (fun _ hK => s_mv 45 rfl rfl (SX.done hK)) ?_
  refine SXI.of (fun _ hK => s_len 46 rfl rfl (SX.done hK)) ?_
  refine SXI.of (fun _ hK => s_lt 47 rfl rfl rfl rfl (SX.done hK)) ?_
  refine SXI.next ?_
  refine CWI.test rfl (fun hc => ?_) (fun hc => ?_)
  · skip
    have hil : i < l0.length := by omega
    have hk0 := Int.emod_nonneg (l0.getD i 0) (b := 8) (by omega)
    have hk8 := Int.emod_lt_of_pos (l0.getD i 0) (b := 8) (by omega)
    have hand := ibit_and_mask (l0.getD i 0) (m := 3) (by omega) (s := 7) rfl
    refine CWI.skip ?_
    refine KNI.code ?_
    refine CWI.seq ?_
    refine CWI.block ?_
    refine CWI.seq ?_
    refine CWI.reg [0, 1, 2, 3] rfl (by kernel_rfl) ?_
    refine SXI.of (fun _ hK => s_mv 50 rfl rfl (SX.done hK)) ?_
    refine SXI.of (fun _ hK => s_ldB 51 2 rfl rfl rfl (v := .int .u8 (v : Nat)) rfl (SX.done hK)) ?_
    refine SXI.of (fun _ hK => s_ia0 52 0 rfl rfl rfl rfl (by omega) (SX.done hK)) ?_
    refine SXI.of (fun _ hK => s_stB 0 rfl rfl rfl rfl rfl (by show 0 < 2; omega) (fun _ _ => trivial) (SX.done hK)) ?_
    refine SXI.next ?_
    refine CWI.seq ?_
    refine CWI.seq ?_
    refine CWI.reg [0, 1, 2, 3, 4, 5, 6, 7, 8] rfl (by kernel_rfl) ?_
    refine SXI.of (fun _ hK => s_mv 53 rfl rfl (SX.done hK)) ?_
    refine SXI.of (fun _ hK => s_mv 54 rfl rfl (SX.done hK)) ?_
    refine SXI.of (fun _ hK => s_mv 55 rfl rfl (SX.done hK)) ?_
    refine SXI.of (fun _ hK => s_iaV 56 i (fun w hw => hw.old hs0) rfl rfl rfl rfl hil (SX.done hK)) ?_
    refine SXI.of (fun _ hK => s_ldV 57 (fun w hw => hw.old hs0) rfl rfl (by rw [Nat.mul_one]; exact intsAt hil) (by omega) (SX.done hK)) ?_
    refine SXI.of (fun _ hK => s_bit 58 rfl rfl rfl rfl (r := l0.getD i 0 % 8) hand (SX.done hK)) ?_
    refine SXI.of (fun _ hK => s_mv 59 rfl rfl (SX.done hK)) ?_
    refine SXI.of1 (fun _ hK => s_callP 60 [3, 3, 3, 0, 0, 0] (M := [blk b 141 #[.int .i64 2, .int .i64 8, .int .i64 8, .slice u.A u.es.length u.c], own 73 3 u.A u.es.length u.c (rowsE u.es), starA (datsE u.es)]) (R := [blk bm 5 #[.int .u8 (v : Nat), .int .u8 7], blk b4 4 #[.bool false], blk b3 5 #[.int .u8 (v : Nat)]]) (X := BufG × Option Addr × Nat) (v := fun _ => .nilIface) (pf := fun x => x.1.es = wNew u.es ⟨l0.getD i 0 % 8, false, x.2.1, x.2.2, [v, 7]⟩) (M' := fun x => [blk b 141 #[.int .i64 2, .int .i64 8, .int .i64 8, .slice x.1.A x.1.es.length x.1.c], own 73 3 x.1.A x.1.es.length x.1.c (rowsE x.1.es), starA (datsE x.1.es)]) rfl rfl rfl rfl rfl (fun F' w' hR hM => own_put e F' b u hO hk0 hk8 (some ⟨bm, 0, none⟩) 2 w' (fun w2 hf => (hR w2 hf).er he1) (fun w2 hf => (hR w2 hf).er he2) (fun w2 hf => (hR w2 hf).er he3) (fun w2 hf => Has.cong (((hR w2 hf).has (i := 0) rfl).blk_sl (m := 2) rfl) rfl) hM) (fun _ _ _ => trivial) (fun x hx => SX.done (hK x hx))) (fun x hx => ?_)
    refine SXI.of (fun _ hK => s_neNN 61 rfl rfl (SX.done hK)) ?_
    refine SXI.next ?_
    refine CWI.condF rfl ?_
    refine CWI.skip ?_
    refine KNI.code ?_
    refine CWI.reg [0, 1, 2, 3, 4] rfl (by kernel_rfl) ?_
    refine SXI.of (fun _ hK => s_mv 62 rfl rfl (SX.done hK)) ?_
    refine SXI.of (fun _ hK => s_ldB 63 5 rfl rfl rfl (v := .int .u8 (v : Nat)) rfl (SX.done hK)) ?_
    refine SXI.of (fun _ hK => s_add 64 rfl rfl rfl (r := IntKind.u8.wrap (((v : Nat) : Int) + 1)) rfl (SX.done hK)) ?_
    refine SXI.of (fun _ hK => s_ia0 65 0 rfl rfl rfl rfl (by omega) (SX.done hK)) ?_
    refine SXI.of (fun _ hK => s_stB 3 rfl rfl rfl rfl rfl (by show 0 < 2; omega) (fun _ _ => trivial) (SX.done hK)) ?_
    refine SXI.end_ ?_
    refine KNI.blk ?_
    refine KNI.code ?_
    refine CWI.reg [0, 1, 2] rfl (by kernel_rfl) ?_
    refine SXI.of (fun _ hK => s_mv 48 rfl rfl (SX.done hK)) ?_
    refine SXI.of (fun _ hK => s_add 49 rfl rfl rfl (r := ((i + 1 : Nat) : Int)) (w64 (by omega)) (SX.done hK)) ?_
    refine SXI.of (fun _ hK => s_as 9 rfl rfl (SX.done hK)) ?_
    refine SXI.end_ ?_
    exact KNI.back (i + 1, IntKind.u8.wrap (((v : Nat) : Int) + 1), x.1) rfl ⟨rfl, rfl, rfl, rfl, rfl, rfl, trivial⟩ (fun _ h => h.pick [3, 3, 3, 0, 0, 0] rfl) ⟨by simp only; omega, by simp only; rw [hx]; exact hO.next hk0 hk8 _ _⟩ (by simp only; omega)
  · skip
    have hie : i = l0.length := by omega
    have hhd := fun e (he : e ∈ u.es) => (hO.ok e he).2.2
    have hl6 : ∀ e ∈ u.es, e.l.length ≤ 1000000 := fun e he => by rw [hhd e he]; simp
    refine CWI.exit rfl ?_
    refine KNI.code ?_
    refine CWI.seq ?_
    refine CWI.seq ?_
    refine CWI.reg [0] rfl (by kernel_rfl) ?_
    refine SXI.of (fun _ hK => s_as 10 rfl rfl (SX.done hK)) ?_
    refine SXI.next ?_
    refine CWI.block ?_
    refine CWI.loop (G := Nat × List Nat) (fun q => q.2.map Go.Sx.mark) (fun q => [(3, .pointer (some ⟨b3, 0, none⟩)), (4, .pointer (some ⟨b4, 0, none⟩)), (6, .pointer (some ⟨b, 0, none⟩)), (10, .int .i64 (q.1 : Nat))]) (fun q => Sto w [blk b4 4 #[.bool false], blk b3 5 #[.int .u8 (v : Nat)], blk b 141 #[.int .i64 2, .int .i64 8, .int .i64 8, .slice u.A u.es.length u.c], own 73 3 u.A u.es.length u.c (rowsE u.es), starA (datsE u.es), starA (q.2.map defB)]) (fun q => q.1 ≤ 2) (fun q => 2 - q.1) (0, []) rfl ⟨rfl, rfl, rfl, rfl, trivial⟩ (fun _ h => (h.pick [1, 1, 1, 1, 1] rfl).nilStar) (Nat.zero_le _) ?_
    rintro q hq
    refine CWI.seq ?_
    refine CWI.seq ?_
    refine CWI.reg [0, 1] rfl (by kernel_rfl) ?_
    refine SXI.of (fun _ hK => s_mv 66 rfl rfl (SX.done hK)) ?_
    refine SXI.of (fun _ hK => s_lt 67 rfl rfl rfl rfl (SX.done hK)) ?_
    refine SXI.next ?_
    refine CWI.test rfl (fun hc => ?_) (fun hc => ?_)
    · skip
      refine CWI.skip ?_
      refine KNI.code ?_
      refine CWI.seq ?_
      refine CWI.block ?_
      refine CWI.seq ?_
      refine CWI.reg [0, 1, 2] rfl (by kernel_rfl) ?_
      refine SXI.of (fun _ hK => s_mv 70 rfl rfl (SX.done hK)) ?_
      refine SXI.of1 (fun _ hK => s_call 71 rfl rfl rfl rfl (fun w hw => entries_spec b u.A u.c u.es w ((hw.has (i := 3) rfl).of_own) (by omega) (hw.blkCell (i := 2) rfl rfl) (fun e he => (Has.starM (hw.has (i := 4) rfl) (List.mem_map_of_mem he)).of_own) hl6) (fun _ _ => trivial) (fun x hx => SX.done (hK x hx))) (fun y hy => ?_)
      obtain ⟨hy1, hy2⟩ := hy
      have hyl : y.es.length = u.es.length := by have := keys_len hy1; rw [this]; simp [absE]
      refine SXI.of (fun _ hK => s_as 11 rfl rfl (SX.done hK)) ?_
      refine SXI.next ?_
      refine CWI.seq ?_
      refine CWI.seq ?_
      refine CWI.reg [0] rfl (by kernel_rfl) ?_
      refine SXI.of (fun _ hK => s_as 12 rfl rfl (SX.done hK)) ?_
      refine SXI.next ?_
      refine CWI.block ?_
      refine CWI.loop (G := Nat) (fun _ => q.2.map Go.Sx.mark) (fun i => [(3, .pointer (some ⟨b3, 0, none⟩)), (4, .pointer (some ⟨b4, 0, none⟩)), (6, .pointer (some ⟨b, 0, none⟩)), (10, .int .i64 (q.1 : Nat)), (11, .slice y.A y.es.length y.c), (12, .int .i64 (i : Nat))]) (fun i => Sto w [own 73 3 y.A y.es.length y.c (rowsE (mdI y.es i)), starA (datsE (mdI y.es i)), blk b4 4 #[.bool false], blk b3 5 #[.int .u8 (v : Nat)], blk b 141 #[.int .i64 2, .int .i64 8, .int .i64 8, .slice u.A u.es.length u.c], own 73 3 u.A u.es.length u.c (rowsE u.es), starA (datsE u.es), starA (q.2.map defB)]) (fun i => i ≤ y.es.length) (fun i => y.es.length - i) 0 rfl ⟨rfl, rfl, rfl, rfl, rfl, rfl, trivial⟩ (fun _ h => h) (Nat.zero_le _) ?_
      intro i hi
      refine CWI.seq ?_
      refine CWI.seq ?_
      refine CWI.reg [0, 1, 2, 3] rfl (by kernel_rfl) ?_
      refine SXI.of (fun _ hK => s_mv 72 rfl rfl (SX.done hK)) ?_
      refine SXI.of (fun _ hK => s_mv 73 rfl rfl (SX.done hK)) ?_
      refine SXI.of (fun _ hK => s_len 74 rfl rfl (SX.done hK)) ?_
      refine SXI.of (fun _ hK => s_lt 75 rfl rfl rfl rfl (SX.done hK)) ?_
      refine SXI.next ?_
      refine CWI.test rfl (fun hc => ?_) (fun hc => ?_)
      · skip
        have hil : i < y.es.length := by omega
        have hmi := mdI_at hil
        obtain ⟨e3, k1, k2, k3, k4⟩ := key_at hy1 (i := i) (by unfold absE; rw [List.getElem?_map, gE_at (show i < u.es.length by omega)]; rfl)
        obtain rfl : gE y.es i = e3 := Option.some.inj ((gE_at hil).symm.trans k1)
        obtain ⟨j1, j2, j3⟩ := hO.ok _ (gE_mem (show i < u.es.length by omega))
        have hku : (gE y.es i).k = (gE u.es i).k := k2
        have htu : (gE y.es i).tr = false := k3.trans j2
        have hlu : (gE y.es i).l = [v, 7] := k4.trans j3
        have hpl : plI (gE y.es i).k u.es = (i : Nat) := by rw [hku]; exact hO.nd.self (gE_at (by omega))
        have hl2 : (gE y.es i).l.length = 2 := by rw [hlu]; rfl
        have hu2 : (gE u.es i).l.length = 2 := by rw [j3]; rfl
        refine CWI.skip ?_
        refine KNI.code ?_
        refine CWI.seq ?_
        refine CWI.block ?_
        refine CWI.seq ?_
        refine CWI.seq ?_
        refine CWI.regD (.st true 0 (.st true 1 (.st true 2 (.st true 3 (.st true 4 (.st true 5 (.st true 6 (.st true 7 (.st true 8 (.st true 9 (.st false 10 (.st false 11 (.st false 12 (.st true 13 .done)))))))))))))) (Sto w [own 73 3 y.A y.es.length y.c (rowsE (mdI y.es i)), starA (datsE (mdI y.es i)), blk b4 4 #[.bool false], blk b3 5 #[.int .u8 (v : Nat)], blk b 141 #[.int .i64 2, .int .i64 8, .int .i64 8, .slice u.A u.es.length u.c], own 73 3 u.A u.es.length u.c (rowsE u.es), starA (datsE u.es), starA (q.2.map defB)]) mixed (by kernel_rfl) (fun _ h => h.drew) (fun _ h => h) ?_
        refine SXI.of (fun _ hK => s_mv 78 rfl rfl (SX.done hK)) ?_
        refine SXI.of (fun _ hK => s_mv 79 rfl rfl (SX.done hK)) ?_
        refine SXI.of (fun _ hK => s_iaOS 80 0 i rfl rfl rfl rfl rfl hil (SX.done hK)) ?_
        refine SXI.of (fun _ hK => s_ldRS 81 (cs := (gE y.es i).row) rfl rfl rfl (fun _ hw => hw.ownRow (q := 0) (t := i * 3) (r := 0) rfl (fun j v hj => rowsE_at hmi hj)) (SX.done hK)) ?_
        refine SXI.of (fun _ hK => s_mv 82 rfl rfl (SX.done hK)) ?_
        refine SXI.of (fun _ hK => s_mv 83 rfl rfl (SX.done hK)) ?_
        refine SXI.of (fun _ hK => s_iaV 84 i (fun w hw => by first | exact (hw.has (i := 0) rfl).of_own | exact (hw.has (i := 1) rfl).of_own) rfl rfl rfl rfl hil (SX.done hK)) ?_
        refine SXI.of (fun _ hK => s_fa 85 rfl rfl (SX.done hK)) ?_
        refine SXI.of (fun _ hK => s_ldS 86 rfl rfl (v := .int .i64 (gE y.es i).k) (fun _ hw => ((hw.has (i := 0) rfl).of_own).entRowN (by omega) hmi 0 _ rfl) (SX.done hK)) ?_
        refine SXI.of (fun _ hK => s_ldS 87 rfl rfl (v := .int .u8 (v : Nat)) (fun _ hw => hw.blkCell (i := 3) rfl rfl) (SX.done hK)) ?_
        refine SXI.of1 (pf := fun _ => True) (fun _ hK => s_bsl 88 rfl rfl (cells := #[.int .u8 (v : Nat), .int .u8 7]) (by kernel_rfl) rfl (fun _ h => h) (fun x => SX.done (hK x trivial))) (fun g88 _ => ?_)
        refine SXI.of (fun _ hK => s_build 89 rfl rfl (cells := #[.int .i64 (gE y.es i).k, .bool false, .slice (some ⟨g88, 0, none⟩) 2 2]) (by kernel_rfl) (SX.done hK)) ?_
        refine SXI.of (fun _ hK => s_call1 90 rfl rfl rfl rfl (v := .bool true) (fun w hw => by have := sameEntry_spec (gE y.es i) ⟨(gE y.es i).k, false, some ⟨g88, 0, none⟩, 2, [v, 7]⟩ w ((Has.starM (hw.has (i := 2) rfl) (List.mem_of_getElem? (show (datsE (mdI y.es i))[i]? = some (gE y.es i).dat by unfold datsE; rw [List.getElem?_map, hmi]; rfl))).of_own) (Has.cong ((hw.has (i := 0) rfl).blk_sl (m := 2) rfl) rfl) (by rw [hlu]; intro t ht; simp at ht; omega) (by intro t ht; simp at ht; omega); rw [decide_eq_true (by unfold EntG.abs; rw [htu, hlu])] at this; exact this) (fun _ h => h.tail) (SX.done hK)) ?_
        refine SXI.of (fun _ hK => s_not 91 rfl rfl (SX.done hK)) ?_
        refine SXI.next ?_
        refine CWI.condF rfl ?_
        refine CWI.skip ?_
        refine KNI.code ?_
        refine CWI.seq ?_
        refine CWI.reg [0, 1, 2, 3, 4, 5, 6, 7, 8, 9, 10, 11, 12] rfl (by kernel_rfl) ?_
        refine SXI.of (fun _ hK => s_mv 93 rfl rfl (SX.done hK)) ?_
        refine SXI.of (fun _ hK => s_mv 94 rfl rfl (SX.done hK)) ?_
        refine SXI.of (fun _ hK => s_mv 95 rfl rfl (SX.done hK)) ?_
        refine SXI.of (fun _ hK => s_iaOS 96 1 i rfl rfl rfl rfl rfl hil (SX.done hK)) ?_
        refine SXI.of (fun _ hK => s_fa 97 rfl rfl (SX.done hK)) ?_
        refine SXI.of (fun _ hK => s_ld 98 rfl rfl (v := .int .i64 (gE y.es i).k) (fun _ hw => hw.ownCell (q := 1) (j := i * 3) rfl (rowsE_at (j := 0) hmi rfl)) (SX.done hK)) ?_
        refine SXI.of1 (fun _ hK => s_call 99 rfl rfl rfl rfl (fun w hw => get_some b u.A u.c u.es (gE y.es i).k i (gE u.es i) w ((hw.has (i := 6) rfl).of_own) (by omega) (hw.blkCell (i := 5) rfl rfl) (fun e he => (Has.starM (hw.has (i := 7) rfl) (List.mem_map_of_mem he)).of_own) hl6 hpl (gE_at (by omega))) (fun _ _ => trivial) (fun x hx => SX.done (hK x hx))) (fun z hz => ?_)
        refine SXI.of (fun _ hK => s_mv 92 rfl rfl (SX.done hK)) ?_
        refine SXI.of (fun _ hK => s_ext 100 rfl rfl rfl (SX.done hK)) ?_
        refine SXI.of (fun _ hK => s_ext 101 rfl rfl rfl (SX.done hK)) ?_
        refine SXI.of1 (pf := fun _ => True) (fun _ hK => s_alloc 13 rfl (fun _ _ => trivial) (fun x => SX.done (hK x trivial))) (fun b13 _ => ?_)
        refine SXI.of (fun _ hK => s_stAll 0 rfl rfl (by kernel_rfl) rfl rfl rfl rfl (fun _ _ => trivial) (SX.done hK)) ?_
        refine SXI.of (fun _ hK => s_as 14 rfl rfl (SX.done hK)) ?_
        refine SXI.next ?_
        refine CWI.seq ?_
        refine CWI.seq ?_
        refine CWI.regD (.st true 0 (.st true 1 (.st true 2 (.st true 3 (.st true 4 (.st true 5 (.st true 6 (.st true 7 (.st true 8 (.st true 9 (.st true 10 (.st true 11 (.st true 12 (.st true 13 (.st true 14 (.st true 15 .done)))))))))))))))) (Sto w [blk b13 73 #[.int .i64 (gE u.es i).k, .bool (gE u.es i).tr, .slice z.1 (gE u.es i).l.length z.2], own 5 1 z.1 (gE u.es i).l.length z.2 (nats .u8 (gE u.es i).l), blk b3 5 #[.int .u8 (v : Nat)]]) mixed (by kernel_rfl) (fun _ h => h.drew) (fun _ h => h.pick [0, 0, 4] rfl) ?_
        refine SXI.of (fun _ hK => s_mv 102 rfl rfl (SX.done hK)) ?_
        refine SXI.of (fun _ hK => s_not 103 rfl rfl (SX.done hK)) ?_
        refine SXI.of (fun _ hK => s_mv 104 rfl rfl (SX.done hK)) ?_
        refine SXI.of (fun _ hK => s_fa 105 rfl rfl (SX.done hK)) ?_
        refine SXI.of (fun _ hK => s_ldS 106 rfl rfl (v := .slice z.1 (gE u.es i).l.length z.2) (fun _ hw => hw.blkCell (i := 0) (j := 2) rfl rfl) (SX.done hK)) ?_
        refine SXI.of (fun _ hK => s_len 107 rfl rfl (SX.done hK)) ?_
        refine SXI.of (fun _ hK => s_ne 108 rfl rfl rfl (decide_eq_false (by omega)) (SX.done hK)) ?_
        refine SXI.of (fun _ hK => s_pickF 109 rfl rfl rfl (SX.done hK)) ?_
        refine SXI.of (fun _ hK => s_mv 110 rfl rfl (SX.done hK)) ?_
        refine SXI.of (fun _ hK => s_fa 111 rfl rfl (SX.done hK)) ?_
        refine SXI.of (fun _ hK => s_ldS 112 rfl rfl (v := .slice z.1 (gE u.es i).l.length z.2) (fun _ hw => hw.blkCell (i := 0) (j := 2) rfl rfl) (SX.done hK)) ?_
        refine SXI.of (fun _ hK => s_iaO 113 1 0 rfl rfl rfl rfl rfl (by omega) (SX.done hK)) ?_
        refine SXI.of (fun _ hK => s_ldS 114 rfl rfl (v := .int .u8 (v : Nat)) (fun _ hw => hw.ownCell (q := 1) (j := 0) rfl (by rw [j3]; rfl)) (SX.done hK)) ?_
        refine SXI.of (fun _ hK => s_ldS 115 rfl rfl (v := .int .u8 (v : Nat)) (fun _ hw => hw.blkCell (i := 2) rfl rfl) (SX.done hK)) ?_
        refine SXI.of (fun _ hK => s_ne 116 rfl rfl rfl (decide_eq_false (fun h => h rfl)) (SX.done hK)) ?_
        refine SXI.of (fun _ hK => s_pickF 117 rfl rfl rfl (SX.done hK)) ?_
        refine SXI.next ?_
        refine CWI.condF rfl ?_
        refine CWI.skip ?_
        refine KNI.code ?_
        refine CWI.seq ?_
        refine CWI.reg [0, 1, 2, 3, 4, 5] rfl (by kernel_rfl) ?_
        refine SXI.of (fun _ hK => s_fa 118 rfl rfl (SX.done hK)) ?_
        refine SXI.of (fun _ hK => s_ld 119 rfl rfl (v := .slice z.1 (gE u.es i).l.length z.2) (fun _ hw => hw.blkCell (i := 0) (j := 2) rfl rfl) (SX.done hK)) ?_
        refine SXI.of (fun _ hK => s_ldB 120 6 rfl rfl rfl (v := .int .u8 (v : Nat)) rfl (SX.done hK)) ?_
        refine SXI.of (fun _ hK => s_add 121 rfl rfl rfl (r := IntKind.u8.wrap (((v : Nat) : Int) + 2)) rfl (SX.done hK)) ?_
        refine SXI.of (fun _ hK => s_iaO 122 1 0 rfl rfl rfl rfl rfl (by omega) (SX.done hK)) ?_
        refine SXI.of (fun _ hK => s_stO 1 rfl rfl rfl rfl rfl (by omega) (fun _ _ => trivial) (SX.done hK)) ?_
        refine SXI.next ?_
        refine CWI.seq ?_
        refine CWI.reg [0, 1, 2, 3, 4, 5, 6] rfl (by kernel_rfl) ?_
        refine SXI.of (fun _ hK => s_mv 123 rfl rfl (SX.done hK)) ?_
        refine SXI.of (fun _ hK => s_mv 124 rfl rfl (SX.done hK)) ?_
        refine SXI.of (fun _ hK => s_iaOS 125 3 i rfl rfl rfl rfl rfl hil (SX.done hK)) ?_
        refine SXI.of (fun _ hK => s_fa 126 rfl rfl (SX.done hK)) ?_
        refine SXI.of (fun _ hK => s_ld 127 rfl rfl (v := .slice (gE y.es i).A (gE y.es i).l.length (gE y.es i).c) (fun _ hw => hw.ownCell (q := 3) (j := i * 3 + 2) rfl (rowsE_at (j := 2) hmi rfl)) (SX.done hK)) ?_
        have hXi : (datsE (mdI y.es i))[i]? = some (own 5 1 (gE y.es i).A (gE y.es i).l.length (gE y.es i).c (nats .u8 (gE y.es i).l)) := by unfold datsE; rw [List.getElem?_map, hmi]; rfl
        refine SXI.of (fun _ hK => s_iaStar 128 4 i 1 rfl hXi rfl rfl rfl rfl (by omega) (SX.done hK)) ?_
        refine SXI.of (fun _ hK => s_stStar 4 i rfl hXi rfl rfl rfl rfl (by omega) (fun _ _ => trivial) (SX.done hK)) ?_
        refine SXI.next ?_
        refine CWI.reg [0, 1, 2, 3, 4] rfl (by kernel_rfl) ?_
        refine SXI.of (fun _ hK => s_mv 129 rfl rfl (SX.done hK)) ?_
        refine SXI.of (fun _ hK => s_mv 130 rfl rfl (SX.done hK)) ?_
        refine SXI.of (fun _ hK => s_iaOS 131 3 i rfl rfl rfl rfl rfl hil (SX.done hK)) ?_
        refine SXI.of (fun _ hK => s_fa 132 rfl rfl (SX.done hK)) ?_
        refine SXI.of (fun _ hK => s_stOS 3 (j := i * 3) rfl rfl rfl rfl rfl (by omega) (fun _ _ => trivial) (SX.done hK)) ?_
        refine SXI.end_ ?_
        refine KNI.blk ?_
        refine KNI.code ?_
        refine CWI.reg [0, 1, 2] rfl (by kernel_rfl) ?_
        refine SXI.of (fun _ hK => s_mv 76 rfl rfl (SX.done hK)) ?_
        refine SXI.of (fun _ hK => s_add 77 rfl rfl rfl (r := ((i + 1 : Nat) : Int)) (w64 (by omega)) (SX.done hK)) ?_
        refine SXI.of (fun _ hK => s_as 12 rfl rfl (SX.done hK)) ?_
        refine SXI.end_ ?_
        exact KNI.back (i + 1) rfl ⟨rfl, rfl, rfl, rfl, rfl, rfl, trivial⟩ (fun _ h => by
  have e1 : rowsE (mdI y.es (i + 1)) = (rowsE (mdI y.es i)).set (i * 3) (.int .i64 77) := by rw [mdI_next hil]; exact rows_key 77 _ hmi (by simp)
  have e2 : datsE (mdI y.es (i + 1)) = (datsE (mdI y.es i)).set i (own 5 1 (gE y.es i).A (gE y.es i).l.length (gE y.es i).c ((nats .u8 (gE y.es i).l).set 1 (.int .u8 9))) := by
    rw [mdI_next hil, dats_set]
    congr 1
    show own _ 1 _ ((gE y.es i).l.set 1 9).length _ (nats .u8 ((gE y.es i).l.set 1 9)) = _
    rw [List.length_set, show nats .u8 ((gE y.es i).l.set 1 9) = (nats .u8 (gE y.es i).l).set 1 (.int .u8 9) by simp [nats, List.map_set]]
    rfl
  rw [e1, e2]
  exact h.pick [3, 3, 3, 3, 3, 3, 3, 3] rfl) (by omega) (by omega)
      · skip
        have hie3 : i = y.es.length := by omega
        refine CWI.exit rfl ?_
        refine KNI.code ?_
        refine CWI.seq ?_
        refine CWI.reg [0, 1] rfl (by kernel_rfl) ?_
        refine SXI.of (fun _ hK => s_mv 133 rfl rfl (SX.done hK)) ?_
        refine SXI.of1 (fun _ hK => s_call 134 rfl rfl rfl rfl (fun w hw => each_spec b w) (fun _ _ => trivial) (fun x hx => SX.done (hK x hx))) (fun bx _ => ?_)
        refine SXI.next ?_
        refine CWI.block ?_
        refine CWI.rangeFuncY (G := Unit) (GX := Empty) (X := Option Addr × Nat) (Y := Nat) (fun _ _ => [blk b3 5 #[.int .u8 (v : Nat)]]) (fun _ _ => True) (fun _ x => x.elim) (fun _ _ => False) (fun x => x.elim) () [blk bx 69 #[.pointer (some ⟨b, 0, none⟩)], blk b 141 #[.int .i64 2, .int .i64 8, .int .i64 8, .slice u.A u.es.length u.c], own 73 3 u.A u.es.length u.c (rowsE u.es), starA (datsE u.es)] [blk b4 4 #[.bool false], starA (q.2.map defB)] (fun i x y => [blk y 73 #[.int .i64 (gE u.es i).k, .bool (gE u.es i).tr, .slice x.1 (gE u.es i).l.length x.2]]) (fun i x y => [(3, .pointer (some ⟨b3, 0, none⟩)), (16, .pointer (some ⟨y, 0, none⟩))]) rfl (eachItB b bx 2 8 8 u w (by omega) hl6) [4, 0, 3, 3, 3, 2, 2] rfl trivial (fun _ _ => rfl) (by simp) ?_ ?_ ?_ ?_
        · intro lr i x B hi hx
          refine CWI.reg [0, 1] rfl (by kernel_rfl) ?_
          refine SXI.of1 (pf := fun _ => True) (fun _ hK => s_alloc 16 rfl (fun _ _ => trivial) (fun x => SX.done (hK x trivial))) (fun b16 _ => ?_)
          refine SXI.of (fun _ hK => s_stAll 0 rfl rfl (by kernel_rfl) rfl rfl rfl rfl (fun _ _ => trivial) (SX.done hK)) ?_
          refine SXI.end_ ?_
          exact ⟨fun a w he hc => ⟨b16, he.sub (SubL.sub ⟨rfl, rfl, trivial⟩), hc⟩⟩
        · intro lr T i g x y hi hg hx
          obtain ⟨j1, j2, j3⟩ := hO.ok _ (gE_mem hi)
          have hu2 : (gE u.es i).l.length = 2 := by rw [j3]; rfl
          refine CWI.block ?_
          refine CWI.seq ?_
          refine CWI.seq ?_
          refine CWI.regD (.st true 0 (.st true 1 (.st true 2 (.st true 3 (.st true 4 (.st true 5 (.st true 6 (.st true 7 (.st true 8 (.st true 9 (.st true 10 (.st true 11 (.st true 12 (.st true 13 (.st true 14 (.st true 15 (.st true 16 (.st true 17 (.st true 18 .done))))))))))))))))))) (Sto w [blk y 73 #[.int .i64 (gE u.es i).k, .bool (gE u.es i).tr, .slice x.1 (gE u.es i).l.length x.2], own 5 1 x.1 (gE u.es i).l.length x.2 (nats .u8 (gE u.es i).l), blk b3 5 #[.int .u8 (v : Nat)], T]) mixed (by kernel_rfl) (fun _ h => h.drew) (fun _ h => h) ?_
          refine SXI.of (fun _ hK => s_fa 137 rfl rfl (SX.done hK)) ?_
          refine SXI.of (fun _ hK => s_ldS 138 rfl rfl (v := .slice x.1 (gE u.es i).l.length x.2) (fun _ hw => hw.blkCell (i := 0) (j := 2) rfl rfl) (SX.done hK)) ?_
          refine SXI.of (fun _ hK => s_len 139 rfl rfl (SX.done hK)) ?_
          refine SXI.of (fun _ hK => s_ne 140 rfl rfl rfl (decide_eq_false (by omega)) (SX.done hK)) ?_
          refine SXI.of (fun _ hK => s_mv 141 rfl rfl (SX.done hK)) ?_
          refine SXI.of (fun _ hK => s_fa 142 rfl rfl (SX.done hK)) ?_
          refine SXI.of (fun _ hK => s_ldS 143 rfl rfl (v := .slice x.1 (gE u.es i).l.length x.2) (fun _ hw => hw.blkCell (i := 0) (j := 2) rfl rfl) (SX.done hK)) ?_
          refine SXI.of (fun _ hK => s_iaO 144 1 0 rfl rfl rfl rfl rfl (by omega) (SX.done hK)) ?_
          refine SXI.of (fun _ hK => s_ldS 145 rfl rfl (v := .int .u8 (v : Nat)) (fun _ hw => hw.ownCell (q := 1) (j := 0) rfl (by rw [j3]; rfl)) (SX.done hK)) ?_
          refine SXI.of (fun _ hK => s_ldS 146 rfl rfl (v := .int .u8 (v : Nat)) (fun _ hw => hw.blkCell (i := 2) rfl rfl) (SX.done hK)) ?_
          refine SXI.of (fun _ hK => s_ne 147 rfl rfl rfl (decide_eq_false (fun h => h rfl)) (SX.done hK)) ?_
          refine SXI.of (fun _ hK => s_pickF 148 rfl rfl rfl (SX.done hK)) ?_
          refine SXI.of (fun _ hK => s_mv 149 rfl rfl (SX.done hK)) ?_
          refine SXI.of (fun _ hK => s_fa 150 rfl rfl (SX.done hK)) ?_
          refine SXI.of (fun _ hK => s_ldS 151 rfl rfl (v := .slice x.1 (gE u.es i).l.length x.2) (fun _ hw => hw.blkCell (i := 0) (j := 2) rfl rfl) (SX.done hK)) ?_
          refine SXI.of (fun _ hK => s_iaO 152 1 1 rfl rfl rfl rfl rfl (by omega) (SX.done hK)) ?_
          refine SXI.of (fun _ hK => s_ldS 153 rfl rfl (v := .int .u8 7) (fun _ hw => hw.ownCell (q := 1) (j := 1) rfl (by rw [j3]; rfl)) (SX.done hK)) ?_
          refine SXI.of (fun _ hK => s_ne 154 rfl rfl rfl (decide_eq_false (fun h => h rfl)) (SX.done hK)) ?_
          refine SXI.of (fun _ hK => s_pickF 155 rfl rfl rfl (SX.done hK)) ?_
          refine SXI.next ?_
          refine CWI.condF rfl ?_
          refine CWI.skip ?_
          refine KNI.code ?_
          refine CWI.reg [0, 1, 2, 3] rfl (by kernel_rfl) ?_
          refine SXI.of (fun _ hK => s_fa 156 rfl rfl (SX.done hK)) ?_
          refine SXI.of (fun _ hK => s_ld 157 rfl rfl (v := .slice x.1 (gE u.es i).l.length x.2) (fun _ hw => hw.blkCell (i := 0) (j := 2) rfl rfl) (SX.done hK)) ?_
          refine SXI.of (fun _ hK => s_iaO 158 1 1 rfl rfl rfl rfl rfl (by omega) (SX.done hK)) ?_
          refine SXI.of (fun _ hK => s_stO 1 rfl rfl rfl rfl rfl (by omega) (fun _ _ => trivial) (SX.done hK)) ?_
          refine SXI.end_ ?_
          refine KNI.blk ?_
          exact ⟨fun a w he hc => ⟨(), trivial, hc.pick [2, 2] rfl⟩⟩
        · intro D g hg
          refine KNI.blk ?_
          refine KNI.blk ?_
          refine KNI.code ?_
          refine CWI.reg [0, 1, 2] rfl (by kernel_rfl) ?_
          refine SXI.of (fun _ hK => s_mv 68 rfl rfl (SX.done hK)) ?_
          refine SXI.of (fun _ hK => s_add 69 rfl rfl rfl (r := ((q.1 + 1 : Nat) : Int)) (w64 (by omega)) (SX.done hK)) ?_
          refine SXI.of (fun _ hK => s_as 10 rfl rfl (SX.done hK)) ?_
          refine SXI.end_ ?_
          exact KNI.back (q.1 + 1, D :: q.2) rfl ⟨rfl, rfl, rfl, rfl, trivial⟩ (fun _ h => ((h.pick [0, 6, 5, 0, 1, 1, 1] rfl).markStar).pick [1, 1, 1, 1, 1, 0] rfl) (by simp only; omega) (by simp only; omega)
        · intro D i g hi hg
          exact hg.elim
    · skip
      refine CWI.exit rfl ?_
      refine KNI.code ?_
      refine CWI.seq ?_
      refine CWI.reg [0, 1, 2, 3] rfl (by kernel_rfl) ?_
      refine SXI.of (fun _ hK => s_mv 159 rfl rfl (SX.done hK)) ?_
      refine SXI.of (fun _ hK => s_call1 160 rfl rfl rfl rfl (fun w hw => blen_spec b u.A u.c u.es w (hw.blkCell (i := 2) rfl rfl)) (fun _ _ => trivial) (SX.done hK)) ?_
      refine SXI.of (fun _ hK => s_le 161 rfl rfl rfl (decide_eq_true (by omega)) (SX.done hK)) ?_
      refine SXI.of (fun _ hK => s_stB 0 rfl rfl rfl rfl rfl (Nat.lt_succ_self 0) (fun _ _ => trivial) (SX.done hK)) ?_
      refine SXI.next ?_
      refine CWI.ret ?_
      exact retMC (rs := [.cell 4 4]) (L := [blk b4 4 #[.bool true]]) q.2 rfl Tryd.results6 (fun _ h => (St.star _).2 (h.pick [5, 0] rfl)) (fun w hw => ⟨[_], ⟨⟨_, rfl, run_loadVar1 (hw.blkCell (i := 0) (j := 0) rfl rfl)⟩, trivial⟩, rfl, hw.pick [] rfl⟩)

theorem walk_BufferOwn (A0 : Option Addr) (n0 c0 : Nat) (l0 : List Int) (a1 : Int) (e : Nat → Addr) (w : World) (hs0 : Has (sl 1 A0 n0 (ints .i64 l0)) w) (hn0 : n0 ≤ 9223372036854775807) (h1 : 0 ≤ a1 ∧ a1 < 256) (he1 : Er e w 1) (he2 : Er e w 5) (he3 : Er e w 3) : Spec1 Tryd.prog 6 [.slice A0 n0 c0, .int .u8 a1] w (.bool true) := by
  obtain ⟨v, rfl⟩ := Int.eq_ofNat_of_zero_le h1.1
  by_cases h : n0 ≤ 30
  · exact bown_ok A0 n0 c0 l0 v e w hs0 hn0 (by omega) he1 he2 he3 h
  · exact bown_long A0 n0 c0 l0 v e w hs0 hn0 (by omega) he1 he2 he3 (by omega)
theorem u8_wf {a : Int} (h : (Lit.int .u8 a).wf = true) : 0 ≤ a ∧ a < 256 := by
  simp only [Lit.wf, Bool.and_eq_true, decide_eq_true_eq] at h
  have e1 : IntKind.u8.min = 0 := by decide
  have e2 : IntKind.u8.max = 255 := by decide
  omega
end Go.Proofs.YtcdmmfpgeagimaaDoor
end
section
/- What a buffer of few keys holds: each key once, with what came last; how many. No condition. -/
namespace Go.Proofs.YtcdmmfpgeagimaaDoor
open Go Go.Lib Go.Sx Go.Fm
/-- What came last for a key, as a number; 0: it does not wait. -/
def valE (e : EntG) : Int := if e.tr then 200 else (e.l.headD 0 : Nat)
def tabE (es : List EntG) (k : Int) : Int := match es.find? (fun e => decide (e.k = k)) with | some e => valE e | none => 0
theorem tabE_none {es : List EntG} {k : Int} (h : plI k es = -1) : tabE es k = 0 := by
  unfold tabE
  rw [List.find?_eq_none.2 (fun e he => by simpa using plI_free h e he)]
theorem tabE_some {es : List EntG} {k : Int} (hu : KeysU es) {e : EntG} (he : e ∈ es) (hk : e.k = k) : tabE es k = valE e := by
  unfold tabE
  cases hf : es.find? (fun e => decide (e.k = k)) with
  | none => exact absurd hk (by simpa using List.find?_eq_none.1 hf e he)
  | some e2 =>
    have h1 := List.mem_of_find?_eq_some hf
    have h2 : e2.k = k := by simpa using List.find?_some hf
    obtain ⟨i, hi⟩ := List.getElem?_of_mem he
    obtain ⟨j, hj⟩ := List.getElem?_of_mem h1
    have a1 := hu.self hi
    have a2 := hu.self hj
    rw [hk] at a1
    rw [h2, a1] at a2
    obtain rfl : i = j := by omega
    rw [hi] at hj
    obtain rfl := Option.some.inj hj
    rfl
theorem tabE_new {es : List EntG} (hu : KeysU es) (en : EntG) (k : Int) : tabE (wNew es en) k = if k = en.k then valE en else tabE es k := by
  split
  · rename_i h
    exact tabE_some (hu.new en) (by unfold wNew; simp) h.symm
  · rename_i h
    have hf : (wNew es en).find? (fun e => decide (e.k = k)) = es.find? (fun e => decide (e.k = k)) := by
      unfold wNew
      rw [List.find?_append, List.find?_cons_of_neg (by simpa using fun e => h e.symm), List.find?_nil, Option.or_none]
      rcases plI_cases en.k es with h1 | ⟨h1, h2⟩
      · rw [if_pos h1]
      · rw [if_neg (by omega), List.eraseIdx_eq_take_drop_succ, List.find?_append]
        conv => rhs; rw [← List.take_append_drop (plN en.k es) es, List.find?_append, List.drop_eq_getElem_cons h1]
        rw [List.find?_cons_of_neg]
        have := List.findIdx_getElem (p := fun e : EntG => decide (e.k = en.k)) (xs := es) (w := h1)
        have h3 : (es[plN en.k es]).k = en.k := of_decide_eq_true this
        rw [h3]
        simpa using fun e => h e.symm
    unfold tabE
    rw [hf]
/-- What BufferKeeps's buffer holds. -/
structure KeepI (most : Int) (es : List EntG) : Prop where
  nd : KeysU es
  few : (es.length : Int) ≤ most
  ok : ∀ e ∈ es, (0 ≤ e.k ∧ e.k < 16) ∧ (e.tr = true ∧ e.l = [] ∨ e.tr = false ∧ ∃ v : Nat, e.l = [v] ∧ 1 ≤ v ∧ v ≤ 128)
theorem KeepI.nil {most : Int} (h : 0 ≤ most) : KeepI most [] := ⟨List.nodup_nil, h, fun e he => by cases he⟩
theorem wNew_len (es : List EntG) (en : EntG) : (wNew es en).length = if plI en.k es = -1 then es.length + 1 else es.length := by
  unfold wNew
  rw [List.length_append]
  rcases plI_cases en.k es with h1 | ⟨h1, h2⟩
  · rw [if_pos h1, if_pos h1]; rfl
  · rw [if_neg (by omega), if_neg (by omega), List.length_eraseIdx_of_lt h1]
    simp only [List.length_singleton]
    omega
theorem KeepI.next {most : Int} {es : List EntG} (h : KeepI most es) {en : EntG} (hr : ¬ (plI en.k es = -1 ∧ most ≤ (es.length : Int))) (h0 : (0 ≤ en.k ∧ en.k < 16) ∧ (en.tr = true ∧ en.l = [] ∨ en.tr = false ∧ ∃ v : Nat, en.l = [v] ∧ 1 ≤ v ∧ v ≤ 128)) : KeepI most (wNew es en) :=
  ⟨h.nd.new en, by
    have := h.few
    rw [wNew_len]
    split <;> omega, fun e he => by
    rcases mem_wNew he with he | rfl
    · exact h.ok e he
    · exact h0⟩
theorem KeepI.few16 {most : Int} {es : List EntG} (h : KeepI most es) : es.length ≤ 16 := by
  have := keys_few (n := 16) h.nd (fun x hx => by
    obtain ⟨e, he, rfl⟩ := List.mem_map.1 hx
    have := (h.ok e he).1
    omega)
  simpa using this
/-- The two answers. -/
theorem keep_put {most : Int} {es : List EntG} (h : KeepI most es) (e : Nat → Addr) (en : EntG) (h0 : 0 ≤ en.k ∧ en.k < 16) :
    (wV e most 16 true es en.k = .nilIface ∧ wRes most 16 true es en = wNew es en ∧ ¬ (plI en.k es = -1 ∧ most ≤ (es.length : Int))) ∨
    (wV e most 16 true es en.k = errV e 3 ∧ wRes most 16 true es en = es ∧ tabE es en.k = 0 ∧ (es.length : Int) = most) := by
  have hA : ¬ (en.k < 0 ∨ (16 : Int) ≤ en.k) := by omega
  unfold wV wRes
  rw [if_neg hA, if_neg hA, if_neg (show ¬ (true = false) by decide), if_neg (show ¬ (true = false) by decide)]
  by_cases h1 : plI en.k es = -1 ∧ most ≤ (es.length : Int)
  · rw [if_pos h1, if_pos h1]
    exact .inr ⟨rfl, rfl, tabE_none h1.1, by have := h.few; omega⟩
  · rw [if_neg h1, if_neg h1]
    exact .inl ⟨rfl, rfl, h1⟩
/-- The table of what came last. -/
def tabL (es : List EntG) : List Int := (List.range 16).map (fun k => tabE es (k : Nat))
theorem tabL_len (es : List EntG) : (tabL es).length = 16 := by simp [tabL]
theorem tabL_nil : tabL [] = List.replicate 16 0 := by decide
theorem tabL_at (es : List EntG) {k : Nat} (h : k < 16) : (tabL es).getD k 0 = tabE es (k : Nat) := by
  unfold tabL
  rw [List.getD_eq_getElem?_getD, List.getElem?_map, List.getElem?_range h]
  rfl
theorem tabL_new {es : List EntG} (hu : KeysU es) (en : EntG) {k : Nat} (hk : en.k = (k : Nat)) : tabL (wNew es en) = (tabL es).set k (valE en) := by
  apply List.ext_getElem?
  intro j
  unfold tabL
  by_cases hj : j < 16
  · rw [List.getElem?_map, List.getElem?_range hj, Option.map_some, tabE_new hu]
    by_cases hjk : j = k
    · subst hjk
      rw [if_pos hk.symm, List.getElem?_set_self (by simpa using hj)]
    · rw [if_neg (by omega), List.getElem?_set_ne (by omega), List.getElem?_map, List.getElem?_range hj, Option.map_some]
  · rw [List.getElem?_eq_none (by simp; omega), List.getElem?_eq_none (by simp; omega)]
/-- How many keys below one wait. -/
def cntK (es : List EntG) (k : Nat) : Nat := (es.filter (fun e => decide (e.k < ((k : Nat) : Int)))).length
theorem cntK_le (es : List EntG) (k : Nat) : cntK es k ≤ es.length := List.length_filter_le ..
theorem cntK_zero {most : Int} {es : List EntG} (h : KeepI most es) : cntK es 0 = 0 := by
  unfold cntK
  rw [List.filter_eq_nil_iff.2 (fun e he => by have := (h.ok e he).1; simp; omega)]
  rfl
theorem cntK_all {most : Int} {es : List EntG} (h : KeepI most es) : cntK es 16 = es.length := by
  unfold cntK
  rw [List.filter_eq_self.2 (fun e he => by have := (h.ok e he).1; simp; omega)]
theorem cnt_split (es : List EntG) (k : Nat) : cntK es (k + 1) = cntK es k + (es.filter (fun e => decide (e.k = ((k : Nat) : Int)))).length := by
  unfold cntK
  induction es with
  | nil => rfl
  | cons e es ih =>
    rw [List.filter_cons, List.filter_cons, List.filter_cons]
    by_cases h1 : e.k < (k : Nat)
    · rw [if_pos (by simp; omega), if_pos (by simpa using h1), if_neg (by simp; omega)]
      simp only [List.length_cons]
      omega
    · by_cases h2 : e.k = (k : Nat)
      · rw [if_pos (by simp; omega), if_neg (by simpa using h1), if_pos (by simpa using h2)]
        simp only [List.length_cons]
        omega
      · rw [if_neg (by simp; omega), if_neg (by simpa using h1), if_neg (by simpa using h2)]
        exact ih
theorem cnt_one : ∀ {es : List EntG}, KeysU es → ∀ {e : EntG}, e ∈ es → (es.filter (fun e2 => decide (e2.k = e.k))).length = 1
  | [], _, e, he => by cases he
  | e0 :: es, hu, e, he => by
    have hu2 := List.nodup_cons.1 (show (e0.k :: es.map EntG.k).Nodup from hu)
    rw [List.filter_cons]
    by_cases h : e0.k = e.k
    · rw [if_pos (by simpa using h), List.filter_eq_nil_iff.2 (fun e2 he2 => by
        have : e2.k ≠ e0.k := fun h3 => hu2.1 (h3 ▸ List.mem_map_of_mem he2)
        simp
        omega)]
      rfl
    · rw [if_neg (by simpa using h)]
      rcases List.mem_cons.1 he with rfl | he
      · exact absurd rfl h
      · exact cnt_one hu2.2 he
theorem cntK_next {es : List EntG} (hu : KeysU es) (k : Nat) : cntK es (k + 1) = cntK es k + if plI (k : Nat) es = -1 then 0 else 1 := by
  rw [cnt_split]
  congr 1
  split
  · rename_i h
    rw [List.filter_eq_nil_iff.2 (fun e he => by simpa using plI_free h e he)]
    rfl
  · rename_i h
    obtain ⟨h1, h2⟩ := (plI_cases (k : Nat) es).resolve_left h
    have h3 := List.findIdx_getElem (p := fun e : EntG => decide (e.k = (k : Nat))) (xs := es) (w := h1)
    have h4 : (es[plN (k : Nat) es]).k = (k : Nat) := of_decide_eq_true h3
    have := cnt_one hu (List.getElem_mem h1)
    rw [h4] at this
    exact this
end Go.Proofs.YtcdmmfpgeagimaaDoor
end
section
/- What a slice of bytes that comes in gives a walk. No condition. -/
namespace Go.Sx
open Go Go.ChangeShapes Go.WideShapes
theorem open_slB {H : Type} {enc : TypeId × Value → H} {P : Program} {W : World} {base b0 : Nat} {spare : Nat → Bool} {held : Bool} {t e : TypeId} {v : Value} {d : DataW H} {ps : List MemPlace}
    (ht : P.underlying t = some (.slice e)) (he : P.underlying e = some (.int .u8)) (hc : P.cellsOf e = 1) (hval : Value.okWide P W .any b0 t v) (hd : DataW.Trod enc P W base spare held t v d ps) :
    ∃ A n c p, v = .slice A n c ∧ n ≤ c ∧ (c : Int) ≤ 9223372036854775807 ∧ p.length = n ∧ Has (sl 1 A n (nats .u8 p)) W ∧ ∀ x ∈ p, x < 256 := by
  obtain ⟨A, n, c, zs, hv, h1, h2, h3, h4, h5⟩ := open_slI ht he hc hval hd
  have hb : ∀ z ∈ zs, 0 ≤ z ∧ z < 256 := fun z hz => by
    have := h5 z hz
    simp only [Lit.wf, Bool.and_eq_true, decide_eq_true_eq] at this
    have e1 : IntKind.u8.min = 0 := by decide
    have e2 : IntKind.u8.max = 255 := by decide
    omega
  refine ⟨A, n, c, zs.map Int.toNat, hv, h1, h2, by simpa using h3, ?_, fun x hx => ?_⟩
  · have e2 : nats .u8 (zs.map Int.toNat) = ints .u8 zs := by
      unfold nats ints
      rw [List.map_map]
      exact List.map_congr_left (fun z hz => by
        show Value.int .u8 ((z.toNat : Nat) : Int) = Value.int .u8 z
        rw [Int.toNat_of_nonneg (hb z hz).1])
    rw [e2]
    exact h4
  · obtain ⟨z, hz, rfl⟩ := List.mem_map.1 hx
    have := hb z hz
    omega
end Go.Sx
end
section
/- What slices of entries, and of things that a buffer or a model is told, give a walk. No condition. -/
namespace Go.Sx
open Go Go.ChangeShapes Go.WideShapes Go.Proofs.YtcdmmfpgeagimaaDoor Go.Deep
section
variable {H : Type} {enc : TypeId × Value → H} {P : Program} {W : World} {base b0 : Nat} {spare : Nat → Bool} {held : Bool}
/-- The rows of a slice's elements, each with its own reading. -/
theorem open_slS {t e : TypeId} {s : Nat} {v : Value} {d : DataW H} {ps : List MemPlace} (ht : P.underlying t = some (.slice e)) (hc : P.cellsOf e = s) (hs : 0 < s) (hval : Value.okWide P W .any b0 t v) (hd : DataW.Trod enc P W base spare held t v d ps) :
    ∃ (A : Option Addr) (n c : Nat) (rows : List (List Value)), v = .slice A n c ∧ n ≤ c ∧ (c : Int) ≤ 9223372036854775807 ∧ rows.length = n ∧ (∀ r ∈ rows, r.length = s ∧ ∃ m y, DataW.trod enc P W base spare held m e r = some y) ∧ Has (sl s A n rows.flatten) W := by
  obtain ⟨A, n, c, rfl⟩ := okWide_slice ht hval
  obtain ⟨fuel, hf⟩ := hd
  rcases DataW.trod_slice ht hf with ⟨hcs, _⟩ | ⟨a, len, cap, elems, rest, m, _, hcs, _, hb, hl, hm, hlen, hel, _, _⟩
  · have hcs2 : [Value.slice A n c] = [.slice none 0 0] := hcs
    simp only [List.cons.injEq, Value.slice.injEq, and_true] at hcs2
    obtain ⟨rfl, rfl, rfl⟩ := hcs2
    exact ⟨none, 0, 0, [], rfl, Nat.le_refl _, by omega, rfl, (fun r hr => absurd hr (List.not_mem_nil)), Has.sl_nil W s none⟩
  · have hcs2 : [Value.slice A n c] = [.slice (some a) len cap] := hcs
    simp only [List.cons.injEq, Value.slice.injEq, and_true] at hcs2
    obtain ⟨rfl, rfl, rfl⟩ := hcs2
    subst hc
    have key : ∀ i, i < n → ∃ r, W.cells? base (a.add (i * P.cellsOf e)) (P.cellsOf e) = some r ∧ ∃ y, DataW.trod enc P W base spare held m e r = some y := fun i hi => by
      have h1 := hel i hi
      rw [List.getElem?_eq_getElem (by omega), Option.bind_eq_some_iff] at h1
      obtain ⟨r, h2, h3⟩ := h1
      exact ⟨r, h2, _, h3⟩
    have hrows : ∀ k, k ≤ n → ∃ rows : List (List Value), rows.length = k ∧ (∀ r ∈ rows, r.length = P.cellsOf e ∧ ∃ m y, DataW.trod enc P W base spare held m e r = some y) ∧ ∀ i, i < k → W.cells? base (a.add (i * P.cellsOf e)) (P.cellsOf e) = rows[i]? := by
      intro k
      induction k with
      | zero => exact fun _ => ⟨[], rfl, (fun r hr => absurd hr (List.not_mem_nil)), fun i hi => by omega⟩
      | succ k ih =>
        intro hk
        obtain ⟨rows, k1, k2, k3⟩ := ih (by omega)
        obtain ⟨r, h1, h2⟩ := key k (by omega)
        refine ⟨rows ++ [r], by simp [k1], fun r2 hr2 => ?_, fun i hi => ?_⟩
        · rcases List.mem_append.1 hr2 with h | h
          · exact k2 r2 h
          · obtain rfl : r2 = r := by simpa using h
            exact ⟨(World.cells?_some h1).2.1, m, h2⟩
        · by_cases hik : i < k
          · rw [k3 i hik, List.getElem?_append_left (by omega)]
          · obtain rfl : i = k := by omega
            rw [h1, List.getElem?_append_right (by omega), k1, Nat.sub_self]
            rfl
    obtain ⟨rows, k1, k2, k3⟩ := hrows n (Nat.le_refl _)
    refine ⟨some a, n, c, rows, rfl, hl, by unfold maxLen at hm; omega, k1, k2, ?_⟩
    by_cases hn : n = 0
    · subst hn
      obtain rfl := List.eq_nil_of_length_eq_zero k1
      exact Has.sl_nil W _ (some a)
    · have hcell : ∀ i, i < n → ∀ j, j < P.cellsOf e → W.cell? (a.add (i * P.cellsOf e + j)) = rows.flatten[i * P.cellsOf e + j]? := by
        intro i hi j hj
        have h1 : ∃ r, rows[i]? = some r := ⟨_, List.getElem?_eq_getElem (by omega)⟩
        obtain ⟨r, hr⟩ := h1
        have h2 := (World.cells?_some ((k3 i hi).trans hr)).2.2 j hj
        have e1 : (a.add (i * P.cellsOf e)).add j = a.add (i * P.cellsOf e + j) := by
          unfold Addr.add
          by_cases z1 : i * P.cellsOf e = 0
          · rw [if_pos z1, z1, Nat.zero_add]
          · by_cases z2 : j = 0
            · subst z2; simp
            · rw [if_neg z1, if_neg z2, if_neg (by omega)]
              simp [Nat.add_assoc]
        rw [e1] at h2
        rw [h2]
        clear h2 e1 hel key hrows k3
        have hl2 : ∀ (rows : List (List Value)) (i : Nat), (∀ r ∈ rows, r.length = P.cellsOf e) → rows[i]? = some r → rows.flatten[i * P.cellsOf e + j]? = r[j]? := by
          intro rows
          induction rows with
          | nil => intro i _ h; simp at h
          | cons r0 rows ih =>
            intro i hrl h
            have hr0 := hrl r0 (by simp)
            cases i with
            | zero =>
              obtain rfl : r0 = r := by simpa using h
              rw [List.flatten_cons, List.getElem?_append_left (by omega)]
              congr 1
              omega
            | succ i =>
              rw [List.flatten_cons, List.getElem?_append_right (by rw [hr0, Nat.succ_mul]; omega), hr0, ← ih i (fun r hr => hrl r (by simp [hr])) (by simpa using h)]
              congr 1
              rw [Nat.succ_mul]
              omega
        exact (hl2 rows i (fun r hr => (k2 r hr).1) hr).symm
      have hfl : rows.flatten.length = n * P.cellsOf e := by
        have : ∀ rows : List (List Value), (∀ r ∈ rows, r.length = P.cellsOf e) → rows.flatten.length = rows.length * P.cellsOf e := by
          intro rows
          induction rows with
          | nil => intro _; simp
          | cons r0 rows ih =>
            intro hrl
            rw [List.flatten_cons, List.length_append, ih (fun r hr => hrl r (by simp [hr])), hrl r0 (by simp), List.length_cons, Nat.succ_mul]
            omega
        rw [this rows (fun r hr => (k2 r hr).1), k1]
      have hall : ∀ q, q < n * P.cellsOf e → W.cell? (a.add q) = rows.flatten[q]? := fun q hq => by
        have hq1 : q / P.cellsOf e < n := (Nat.div_lt_iff_lt_mul hs).2 hq
        have := hcell _ hq1 (q % P.cellsOf e) (Nat.mod_lt _ hs)
        rwa [Nat.div_add_mod'] at this
      have hpos : 0 < n * P.cellsOf e := Nat.mul_pos (by omega) hs
      have h0 := hall 0 hpos
      rw [List.getElem?_eq_getElem (by omega)] at h0
      have ha : a = ⟨a.block, a.off, none⟩ := by
        cases a with
        | mk b o sp =>
          cases sp with
          | none => rfl
          | some x => simp [Addr.add, World.cell?] at h0; split at h0 <;> simp_all
      refine ⟨fun b => b = a.block, ⟨hfl, fun _ => ⟨by simp only [ob, oo]; rw [← ha], rfl, fun j v hj => ?_⟩⟩, fun b hb => ?_⟩
      · have hjn := (List.getElem?_eq_some_iff.1 hj).1
        have h1 := hall j (by omega)
        rw [ha, add_at, hj] at h1
        exact h1
      · subst hb
        have := World.block_lt_of_cell? W _ h0
        rwa [block_add] at this
/-- A slice of bytes inside of a value. -/
theorem open_rowB {t e : TypeId} (ht : P.underlying t = some (.slice e)) (he : P.underlying e = some (.int .u8)) (hc : P.cellsOf e = 1) {fuel : Nat} {v : Value} {x : DataW H × List MemPlace} (hf : DataW.trod enc P W base spare held fuel t [v] = some x) :
    ∃ A n c p, v = .slice A n c ∧ n ≤ c ∧ (c : Int) ≤ 9223372036854775807 ∧ p.length = n ∧ Has (sl 1 A n (nats .u8 p)) W ∧ ∀ x ∈ p, x < 256 := by
  rcases open_ints ht he hc hf with ⟨hcs2, _⟩ | ⟨a, n, c, zs, hcs2, _, hl, hm, hz, _, hcell, hw⟩
  · simp only [List.cons.injEq, and_true] at hcs2
    subst hcs2
    exact ⟨none, 0, 0, [], rfl, Nat.le_refl _, by omega, rfl, Has.sl_nil W 1 none, fun z hz => by simp at hz⟩
  · simp only [List.cons.injEq, and_true] at hcs2
    subst hcs2
    have hlz : n ≤ zs.length := by rw [hz]; split <;> omega
    have hlen : (zs.take n).length = n := by rw [List.length_take]; exact Nat.min_eq_left hlz
    have hb : ∀ z ∈ zs.take n, 0 ≤ z ∧ z < 256 := fun z hz => by
      have := hw z (List.mem_of_mem_take hz)
      simp only [Lit.wf, Bool.and_eq_true, decide_eq_true_eq] at this
      have e1 : IntKind.u8.min = 0 := by decide
      have e2 : IntKind.u8.max = 255 := by decide
      omega
    refine ⟨some a, n, c, (zs.take n).map Int.toNat, rfl, hl, by unfold maxLen at hm; omega, by rw [List.length_map]; exact hlen, ?_, fun x hx => ?_⟩
    · have e2 : nats .u8 ((zs.take n).map Int.toNat) = ints .u8 (zs.take n) := by
        unfold nats ints
        rw [List.map_map]
        exact List.map_congr_left (fun z hz => by
          show Value.int .u8 ((z.toNat : Nat) : Int) = Value.int .u8 z
          rw [Int.toNat_of_nonneg (hb z hz).1])
      rw [e2]
      by_cases hn : n = 0
      · subst hn
        exact Has.sl_nil W 1 (some a)
      · have h0 := hcell 0 (by omega)
        have ha : a = ⟨a.block, a.off, none⟩ := by
          cases a with
          | mk b o sp =>
            cases sp with
            | none => rfl
            | some x => simp [Addr.add, World.cell?] at h0; split at h0 <;> simp_all
        refine ⟨fun b => b = a.block, ⟨by simp only [ints, List.length_map, hlen, Nat.mul_one], fun _ => ⟨by simp only [ob, oo]; rw [← ha], rfl, fun j v hj => ?_⟩⟩, fun b hb => ?_⟩
        · have hjn : j < n := by
            have := (List.getElem?_eq_some_iff.1 hj).1
            simp only [ints, List.length_map, hlen] at this
            exact this
          rw [intsAt (by omega)] at hj
          have hc2 := hcell j (by omega)
          rw [ha, add_at] at hc2
          simp only [ob, oo]
          rw [hc2, ← hj]
          simp [hjn]
        · subst hb
          have hc2 := hcell 0 (by omega)
          have := World.block_lt_of_cell? W _ hc2
          rwa [block_add] at this
    · obtain ⟨z, hz, rfl⟩ := List.mem_map.1 hx
      have := hb z hz
      omega
/-- What an entry that comes in is. -/
def EntIn (W : World) (en : EntG) : Prop := Has (sl 1 en.A en.l.length (nats .u8 en.l)) W ∧ (∀ x ∈ en.l, x < 256) ∧ (-9223372036854775808 ≤ en.k ∧ en.k ≤ 9223372036854775807) ∧ en.l.length ≤ en.c ∧ (en.c : Int) ≤ 9223372036854775807
theorem open_rowE {t e : TypeId} {f0 f1 f2 : Field} (ht : P.underlying t = some (.struct #[f0, f1, f2])) (hi : P.underlying f0.type = some (.int .i64)) (hb : P.underlying f1.type = some .bool) (hs : P.underlying f2.type = some (.slice e)) (he : P.underlying e = some (.int .u8))
    (hct : P.cellsOf t = 3) (hci : P.cellsOf f0.type = 1) (hcb : P.cellsOf f1.type = 1) (hcs : P.cellsOf f2.type = 1) (hce : P.cellsOf e = 1) (h0 : f0.offset = 0) (h1 : f1.offset = 1) (h2 : f2.offset = 2) {fuel : Nat} {r : List Value} {x : DataW H × List MemPlace} (hf : DataW.trod enc P W base spare held fuel t r = some x) :
    ∃ en : EntG, r = en.row ∧ EntIn W en := by
  obtain ⟨y0, y1, y2, m, _, hl, k0, k1, k2⟩ := trod_struct3 ht hf
  rw [hct] at hl
  match r, hl with
  | [v0, v1, v2], _ =>
    simp only [hci, hcb, hcs, h0, h1, h2, List.drop, List.take] at k0 k1 k2
    obtain ⟨z, hz, _, hw⟩ := DataW.trod_int hi k0
    obtain ⟨b, hb2, _⟩ := DataW.trod_bool hb k1
    obtain ⟨A, n, c, p, rfl, g1, g2, g3, g4, g5⟩ := open_rowB hs he hce k2
    simp only [List.cons.injEq, and_true] at hz hb2
    subst hz hb2 g3
    refine ⟨⟨z, b, A, c, p⟩, rfl, g4, g5, ?_, g1, g2⟩
    simp only [Lit.wf, Bool.and_eq_true, decide_eq_true_eq] at hw
    have e1 : IntKind.i64.min = -9223372036854775808 := by decide
    have e2 : IntKind.i64.max = 9223372036854775807 := by decide
    simp only
    omega
/-- What a slice of entries that comes in gives a walk. -/
theorem rows_ent {Q : List Value → Prop} {R : EntG → Prop} (hQ : ∀ r, Q r → ∃ en : EntG, r = en.row ∧ R en) : ∀ rows : List (List Value), (∀ r ∈ rows, Q r) → ∃ es : List EntG, es.length = rows.length ∧ rows.flatten = rowsE es ∧ ∀ e ∈ es, R e
  | [], _ => ⟨[], rfl, rfl, fun e he => by cases he⟩
  | r :: rows, h => by
    obtain ⟨es, h1, h2, h3⟩ := rows_ent hQ rows (fun r hr => h r (by simp [hr]))
    obtain ⟨en, rfl, h4⟩ := hQ r (h r (by simp))
    refine ⟨en :: es, by simp [h1], by rw [List.flatten_cons, h2]; rfl, fun e he => ?_⟩
    rcases List.mem_cons.1 he with rfl | he
    · exact h4
    · exact h3 e he
theorem rows_do {Q : List Value → Prop} {R : DoG → Prop} (hQ : ∀ r, Q r → ∃ d : DoG, r = d.row ∧ R d) : ∀ rows : List (List Value), (∀ r ∈ rows, Q r) → ∃ ds : List DoG, ds.length = rows.length ∧ rows.flatten = rowsD ds ∧ ∀ d ∈ ds, R d
  | [], _ => ⟨[], rfl, rfl, fun e he => by cases he⟩
  | r :: rows, h => by
    obtain ⟨ds, h1, h2, h3⟩ := rows_do hQ rows (fun r hr => h r (by simp [hr]))
    obtain ⟨d, rfl, h4⟩ := hQ r (h r (by simp))
    refine ⟨d :: ds, by simp [h1], by rw [List.flatten_cons, h2]; rfl, fun e he => ?_⟩
    rcases List.mem_cons.1 he with rfl | he
    · exact h4
    · exact h3 e he
theorem open_slE {t te e : TypeId} {f0 f1 f2 : Field} {v : Value} {d : DataW H} {ps : List MemPlace} (ht : P.underlying t = some (.slice te)) (hte : P.underlying te = some (.struct #[f0, f1, f2])) (hi : P.underlying f0.type = some (.int .i64)) (hb : P.underlying f1.type = some .bool) (hs : P.underlying f2.type = some (.slice e)) (he : P.underlying e = some (.int .u8))
    (hct : P.cellsOf te = 3) (hci : P.cellsOf f0.type = 1) (hcb : P.cellsOf f1.type = 1) (hcs : P.cellsOf f2.type = 1) (hce : P.cellsOf e = 1) (h0 : f0.offset = 0) (h1 : f1.offset = 1) (h2 : f2.offset = 2) (hval : Value.okWide P W .any b0 t v) (hd : DataW.Trod enc P W base spare held t v d ps) :
    ∃ A n c es, v = .slice A n c ∧ n ≤ c ∧ (c : Int) ≤ 9223372036854775807 ∧ es.length = n ∧ Has (sl 3 A n (rowsE es)) W ∧ ∀ en ∈ es, EntIn W en := by
  obtain ⟨A, n, c, rows, rfl, k1, k2, k3, k4, k5⟩ := open_slS ht hct (by omega) hval hd
  obtain ⟨es, j1, j2, j3⟩ := rows_ent (Q := fun r => r.length = 3 ∧ ∃ m y, DataW.trod enc P W base spare held m te r = some y) (R := EntIn W) (fun r ⟨_, m, y, hr⟩ => open_rowE hte hi hb hs he hct hci hcb hcs hce h0 h1 h2 hr) rows k4
  exact ⟨A, n, c, es, rfl, k1, k2, j1.trans k3, j2 ▸ k5, j3⟩
theorem open_slD {t td e : TypeId} {g0 g1 f0 f1 f2 : Field} {v : Value} {d : DataW H} {ps : List MemPlace} (ht : P.underlying t = some (.slice td)) (htd : P.underlying td = some (.struct #[g0, g1])) (hte : P.underlying g0.type = some (.struct #[f0, f1, f2])) (hcl : P.underlying g1.type = some .bool) (hi : P.underlying f0.type = some (.int .i64)) (hb : P.underlying f1.type = some .bool) (hs : P.underlying f2.type = some (.slice e)) (he : P.underlying e = some (.int .u8))
    (hctd : P.cellsOf td = 4) (hct : P.cellsOf g0.type = 3) (hccl : P.cellsOf g1.type = 1) (hci : P.cellsOf f0.type = 1) (hcb : P.cellsOf f1.type = 1) (hcs : P.cellsOf f2.type = 1) (hce : P.cellsOf e = 1) (m0 : g0.offset = 0) (m1 : g1.offset = 3) (h0 : f0.offset = 0) (h1 : f1.offset = 1) (h2 : f2.offset = 2) (hval : Value.okWide P W .any b0 t v) (hd : DataW.Trod enc P W base spare held t v d ps) :
    ∃ A n c ds, v = .slice A n c ∧ n ≤ c ∧ (c : Int) ≤ 9223372036854775807 ∧ ds.length = n ∧ Has (sl 4 A n (rowsD ds)) W ∧ ∀ d ∈ ds, EntIn W d.e := by
  obtain ⟨A, n, c, rows, rfl, k1, k2, k3, k4, k5⟩ := open_slS ht hctd (by omega) hval hd
  obtain ⟨ds, j1, j2, j3⟩ := rows_do (Q := fun r => r.length = 4 ∧ ∃ m y, DataW.trod enc P W base spare held m td r = some y) (R := fun d => EntIn W d.e) (fun r ⟨hl, m, y, hr⟩ => by
    obtain ⟨y0, y1, m2, _, _, q0, q1⟩ := trod_struct2 htd hr
    match r, hl with
    | [v0, v1, v2, v3], _ =>
      simp only [hct, hccl, m0, m1, List.drop, List.take] at q0 q1
      obtain ⟨en, hrow, hen⟩ := open_rowE hte hi hb hs he hct hci hcb hcs hce h0 h1 h2 q0
      obtain ⟨b, hb2, _⟩ := DataW.trod_bool hcl q1
      simp only [List.cons.injEq, and_true] at hb2
      subst hb2
      refine ⟨⟨en, b⟩, ?_, hen⟩
      show _ = en.row ++ [.bool b]
      rw [← hrow]
      rfl) rows k4
  exact ⟨A, n, c, ds, rfl, k1, k2, j1.trans k3, j2 ▸ k5, j3⟩
end
end Go.Sx
end
section
/- The statement BufferKeeps, walked. Conditions: the errors' variables. -/
namespace Go.Proofs.YtcdmmfpgeagimaaDoor
open Go Go.Lib Go.Sx Go.Fm
set_option maxRecDepth 100000
theorem ints_set (l : List Int) (k : Nat) (v : Int) : (ints .i64 l).toArray.setIfInBounds k (.int .i64 v) = (ints .i64 (l.set k v)).toArray := by
  rw [List.setIfInBounds_toArray]
  unfold ints
  rw [List.map_set]
theorem ktab_set {es es' : List EntG} {k : Nat} {v : Int} (h : tabL es' = (tabL es).set k v) : (ints .i64 (tabL es)).toArray.setIfInBounds k (.int .i64 v) = (ints .i64 (tabL es')).toArray := by
  rw [ints_set, h]
theorem tab_cell (es : List EntG) {k : Nat} (h : k < 16) {v : Int} (hv : tabE es (k : Nat) = v) : (ints .i64 (tabL es)).toArray[k]? = some (.int .i64 v) := by
  have h1 := tabL_at es h
  rw [hv] at h1
  rw [List.getElem?_toArray, intsAt (by rw [tabL_len]; exact h), h1]
theorem tab_nil : (List.replicate 16 (Value.int .i64 0)).toArray = (ints .i64 (tabL [])).toArray := by
  rw [tabL_nil]
  rfl
theorem ktab_size (es : List EntG) {k : Nat} (h : k < 16) : k < (ints .i64 (tabL es)).toArray.size := by
  rw [List.size_toArray]
  unfold ints
  rw [List.length_map, tabL_len]
  exact h
theorem KeepI.ofOne {most : Int} {es : List EntG} (h : KeepI most es) : ∀ e ∈ es, e.l.length ≤ 1000000 := fun e he => by
  rcases (h.ok e he).2 with ⟨_, h1⟩ | ⟨_, v, h1, _⟩ <;> rw [h1] <;> simp
theorem kput_spec (e : Nat → Addr) (F : Nat → Prop) (b : Nat) (m : Int) (u : BufG) (hn : u.es.length ≤ 1000) (key : Int) (A : Option Addr) (v : Nat) (w : World) (hE1 : ∀ w', Fr F w w' → Er e w' 1) (hE2 : ∀ w', Fr F w w' → Er e w' 5) (hE3 : ∀ w', Fr F w w' → Er e w' 3)
    (hd : ∀ w', Fr F w w' → Has (sl 1 A 1 (nats .u8 [v])) w') (hw : St F w [blk b 141 #[.int .i64 1, .int .i64 m, .int .i64 16, .slice u.A u.es.length u.c], own 73 3 u.A u.es.length u.c (rowsE u.es), starA (datsE u.es)] w) :
    SpecP Tryd.prog 53 [.pointer (some ⟨b, 0, none⟩), .int .i64 key, .slice A 1 1] F w (X := BufG × Option Addr × Nat) (fun _ => wV e m 16 true u.es key) (fun x => x.1.es = wRes m 16 true u.es ⟨key, false, x.2.1, x.2.2, [v]⟩) (fun x => [blk b 141 #[.int .i64 1, .int .i64 m, .int .i64 16, .slice x.1.A x.1.es.length x.1.c], own 73 3 x.1.A x.1.es.length x.1.c (rowsE x.1.es), starA (datsE x.1.es)]) := by
  have h1 := put_spec e F b 1 m 16 u key A 1 1 [v] w hn hE1 hE2 hE3 hd (by omega) hw
  rw [decide_eq_true (show (([v] : List Nat).length : Int) = 1 from rfl)] at h1
  exact h1

theorem bkeep_long (a0 : Int) (A1 : Option Addr) (c1 : Nat) (l1 : List DoG) (e : Nat → Addr) (w : World) (_hs1 : Has (sl 4 A1 l1.length (rowsD l1)) w) (hn1 : l1.length ≤ 9223372036854775807) (he1 : Er e w 1) (he2 : Er e w 5) (he3 : Er e w 3) (h100 : 100 < l1.length) : Spec1 Tryd.prog 5 [.int .i64 a0, .slice A1 l1.length c1] w (.bool true) := by
  have hm0 := Int.emod_nonneg a0 (b := 16) (by omega)
  have hm1 := Int.emod_lt_of_pos a0 (b := 16) (by omega)
  have hand := ibit_and_mask a0 (m := 4) (by omega) (s := 15) rfl
  refine spec_of Tryd.func5 rfl Tryd.ntmps5 rfl ?_
  refine CW.seq ?_
  refine CW.reg [0] rfl ?_
  refine s_as 4 rfl rfl ?_
  refine SX.next ?_
  refine CW.seq ?_
  refine CW.reg [0, 1] rfl ?_
  refine s_call1 17 rfl rfl rfl rfl (fun w hw => first19_spec e w (hw.er he1) (hw.er he2) (hw.er he3)) (fun _ _ => trivial) ?_
  refine s_as 5 rfl rfl ?_
  refine SX.next ?_
  refine CW.seq ?_
  refine CW.reg [0, 1, 2, 3] rfl ?_
  refine s_mv 18 rfl rfl ?_
  refine s_bit 19 rfl rfl rfl rfl (r := a0 % 16) hand ?_
  refine s_add 20 rfl rfl rfl (r := a0 % 16 + 1) (w64 (by omega)) ?_
  refine s_as 0 rfl rfl ?_
  refine SX.next ?_
  refine CW.seq ?_
  refine CW.reg [0, 1, 2, 3, 4, 5, 6] rfl ?_
  refine s_mv 22 rfl rfl ?_
  refine s_call 23 rfl rfl rfl rfl (fun w hw => bnew_ok 1 (a0 % 16 + 1) 16 w (by decide) (by decide) (by omega) (by omega) (by decide) (by decide)) (fun _ _ => trivial) (fun b _ => ?_)
  refine s_mv 21 rfl rfl ?_
  refine s_ext 24 rfl rfl rfl ?_
  refine s_ext 25 rfl rfl rfl ?_
  refine s_as 6 rfl rfl ?_
  refine s_as 7 rfl rfl ?_
  refine SX.next ?_
  refine CW.seq ?_
  refine CW.seq ?_
  refine CW.reg [0, 1, 2, 3, 4, 5, 6, 7, 8, 9, 10, 11, 12, 13, 14] rfl ?_
  refine s_mv 26 rfl rfl ?_
  refine s_eqPN 27 rfl rfl ?_
  refine s_mv 28 rfl rfl ?_
  refine s_mv 29 rfl rfl ?_
  refine s_neNN 30 rfl rfl ?_
  refine s_pickF 31 rfl rfl rfl ?_
  refine s_mv 32 rfl rfl ?_
  refine s_mv 33 rfl rfl ?_
  refine s_len 34 rfl rfl ?_
  refine s_gt 35 rfl rfl rfl (decide_eq_true (by omega)) ?_
  refine s_pickF 36 rfl rfl rfl ?_
  refine s_mv 37 rfl rfl ?_
  refine SX.skip rfl ?_
  refine SX.skip rfl ?_
  refine s_pickT 40 rfl rfl rfl ?_
  refine SX.next ?_
  refine CW.condT rfl ?_
  refine CW.seq ?_
  refine CW.reg [0, 1, 2, 3, 4, 5] rfl ?_
  refine s_mv 41 rfl rfl ?_
  refine s_mv 42 rfl rfl ?_
  refine s_mv 43 rfl rfl ?_
  refine s_nePN 44 rfl rfl ?_
  refine s_pickT 45 rfl rfl rfl ?_
  refine s_as 4 rfl rfl ?_
  refine SX.next ?_
  refine CW.ret ?_
  exact KN.ret (rs := [.tmp 4]) Tryd.results5 rfl (fun w hw => ⟨rfl, hw.nothing⟩)

theorem kcase {m : Int} {es : List EntG} (hK : KeepI m es) {k : Nat} : plI ((k : Nat) : Int) es = -1 ∨ (∃ (j : Nat) (A : Option Addr) (c : Nat), es[j]? = some ⟨((k : Nat) : Int), true, A, c, []⟩ ∧ plI ((k : Nat) : Int) es = (j : Nat) ∧ tabE es ((k : Nat) : Int) = 200) ∨
    (∃ (j : Nat) (A : Option Addr) (c v : Nat), es[j]? = some ⟨((k : Nat) : Int), false, A, c, [v]⟩ ∧ plI ((k : Nat) : Int) es = (j : Nat) ∧ tabE es ((k : Nat) : Int) = ((v : Nat) : Int) ∧ 1 ≤ v ∧ v ≤ 128) := by
  rcases plI_cases ((k : Nat) : Int) es with h | ⟨h1, h2⟩
  · exact .inl h
  · refine .inr ?_
    have h3 := List.findIdx_getElem (p := fun e : EntG => decide (e.k = ((k : Nat) : Int))) (xs := es) (w := h1)
    have h4 : (es[plN ((k : Nat) : Int) es]).k = ((k : Nat) : Int) := of_decide_eq_true h3
    have h5 := List.getElem?_eq_getElem h1
    have h6 := List.getElem_mem h1
    have h7 := tabE_some hK.nd h6 h4
    have h8 := hK.ok _ h6
    cases hen : es[plN ((k : Nat) : Int) es] with
    | mk k0 tr0 A0 c0 l0 =>
      rw [hen] at h4 h5 h7 h8
      simp only at h4 h8
      subst h4
      rcases h8.2 with ⟨rfl, rfl⟩ | ⟨rfl, v, rfl, h9, h10⟩
      · exact .inl ⟨_, A0, c0, h5, h2, h7⟩
      · exact .inr ⟨_, A0, c0, v, h5, h2, h7, h9, h10⟩
set_option maxHeartbeats 1600000 in

theorem bkeep_ok (a0 : Int) (A1 : Option Addr) (c1 : Nat) (l1 : List DoG) (e : Nat → Addr) (w : World) (hs1 : Has (sl 4 A1 l1.length (rowsD l1)) w) (hn1 : l1.length ≤ 9223372036854775807) (he1 : Er e w 1) (he2 : Er e w 5) (he3 : Er e w 3) (h100 : l1.length ≤ 100) : Spec1 Tryd.prog 5 [.int .i64 a0, .slice A1 l1.length c1] w (.bool true) := by
  have hm0 := Int.emod_nonneg a0 (b := 16) (by omega)
  have hm1 := Int.emod_lt_of_pos a0 (b := 16) (by omega)
  have hand := ibit_and_mask a0 (m := 4) (by omega) (s := 15) rfl
  refine spec_of Tryd.func5 rfl Tryd.ntmps5 rfl ?_
  refine CW.seq ?_
  refine CW.reg [0] rfl ?_
  refine s_as 4 rfl rfl ?_
  refine SX.next ?_
  refine CW.seq ?_
  refine CW.reg [0, 1] rfl ?_
  refine s_call1 17 rfl rfl rfl rfl (fun w hw => first19_spec e w (hw.er he1) (hw.er he2) (hw.er he3)) (fun _ _ => trivial) ?_
  refine s_as 5 rfl rfl ?_
  refine SX.next ?_
  refine CW.seq ?_
  refine CW.reg [0, 1, 2, 3] rfl ?_
  refine s_mv 18 rfl rfl ?_
  refine s_bit 19 rfl rfl rfl rfl (r := a0 % 16) hand ?_
  refine s_add 20 rfl rfl rfl (r := a0 % 16 + 1) (w64 (by omega)) ?_
  refine s_as 0 rfl rfl ?_
  refine SX.next ?_
  refine CW.seq ?_
  refine CW.reg [0, 1, 2, 3, 4, 5, 6] rfl ?_
  refine s_mv 22 rfl rfl ?_
  refine s_call 23 rfl rfl rfl rfl (fun w hw => bnew_ok 1 (a0 % 16 + 1) 16 w (by decide) (by decide) (by omega) (by omega) (by decide) (by decide)) (fun _ _ => trivial) (fun b _ => ?_)
  refine s_mv 21 rfl rfl ?_
  refine s_ext 24 rfl rfl rfl ?_
  refine s_ext 25 rfl rfl rfl ?_
  refine s_as 6 rfl rfl ?_
  refine s_as 7 rfl rfl ?_
  refine SX.next ?_
  refine CW.seq ?_
  refine CW.seq ?_
  refine CW.reg [0, 1, 2, 3, 4, 5, 6, 7, 8, 9, 10, 11, 12, 13, 14] rfl ?_
  refine s_mv 26 rfl rfl ?_
  refine s_eqPN 27 rfl rfl ?_
  refine s_mv 28 rfl rfl ?_
  refine s_mv 29 rfl rfl ?_
  refine s_neNN 30 rfl rfl ?_
  refine s_pickF 31 rfl rfl rfl ?_
  refine s_mv 32 rfl rfl ?_
  refine s_mv 33 rfl rfl ?_
  refine s_len 34 rfl rfl ?_
  refine s_gt 35 rfl rfl rfl (decide_eq_false (by omega)) ?_
  refine s_pickF 36 rfl rfl rfl ?_
  refine s_mv 37 rfl rfl ?_
  refine s_mv 38 rfl rfl ?_
  refine s_not 39 rfl rfl ?_
  refine s_pickF 40 rfl rfl rfl ?_
  refine SX.next ?_
  refine CW.condF rfl ?_
  refine CW.skip ?_
  refine KN.code ?_
  refine CW.seq ?_
  refine CW.reg [0, 1] rfl ?_
  refine s_make 46 16 rfl rfl rfl rfl rfl (by omega) (fun _ _ => trivial) (fun lb => ?_)
  rw [tab_nil]
  refine s_as 8 rfl rfl ?_
  refine SX.next ?_
  refine CW.seq ?_
  refine CW.seq ?_
  refine CW.reg [0] rfl ?_
  refine s_as 9 rfl rfl ?_
  refine SX.next ?_
  refine CW.block ?_
  refine CW.loop (G := Nat × BufG) (fun z => [(0, .int .i64 (a0 % 16 + 1)), (1, .slice A1 l1.length c1), (6, .pointer (some ⟨b, 0, none⟩)), (8, .slice (some ⟨lb, 0, none⟩) 16 16), (9, .int .i64 (z.1 : Nat))]) (fun z => (Sto w [blk b 141 #[.int .i64 1, .int .i64 (a0 % 16 + 1), .int .i64 16, .slice z.2.A z.2.es.length z.2.c], own 73 3 z.2.A z.2.es.length z.2.c (rowsE z.2.es), starA (datsE z.2.es), blk lb 3 (ints .i64 (tabL z.2.es)).toArray])) (fun z => z.1 ≤ l1.length ∧ KeepI (a0 % 16 + 1) z.2.es) (fun z => l1.length - z.1) (0, ⟨none, 0, []⟩) ⟨rfl, rfl, rfl, rfl, rfl, trivial⟩ (fun _ h => ((h.begin_ 73 3).nilStarS).pick [3, 1, 0, 0] rfl) ⟨Nat.zero_le _, KeepI.nil (by omega)⟩ ?_
  rintro ⟨i, u⟩ ⟨hi, hK⟩
  simp only at hi hK
  dsimp only
  have hf8 := hK.few16
  have hfm := hK.few
  refine CW.seq ?_
  refine CW.seq ?_
  refine CW.reg [0, 1, 2, 3] rfl ?_
  refine s_mv 47 rfl rfl ?_
  refine s_mv 48 rfl rfl ?_
  refine s_len 49 rfl rfl ?_
  refine s_lt 50 rfl rfl rfl rfl ?_
  refine SX.next ?_
  refine CW.test rfl (fun hc => ?_) (fun hc => ?_)
  · skip
    have hil : i < l1.length := by omega
    obtain ⟨d, hd⟩ : ∃ d, l1[i]? = some d := ⟨_, List.getElem?_eq_getElem hil⟩
    obtain ⟨k, hk⟩ : ∃ k : Nat, d.e.k % 16 = (k : Nat) := ⟨(d.e.k % 16).toNat, by omega⟩
    have hk16 : k < 16 := by omega
    have hand2 := (ibit_and_mask d.e.k (m := 4) (by omega) (s := 15) rfl).trans hk
    have hand3 := (ibit_and_mask ((i : Nat) : Int) (m := 7) (by omega) (s := 127) rfl).trans (show ((i : Nat) : Int) % 128 = ((i : Nat) : Int) by omega)
    refine CW.skip ?_
    refine KN.code ?_
    refine CW.seq ?_
    refine CW.block ?_
    refine CW.seq ?_
    refine CW.reg [0, 1, 2, 3, 4, 5, 6, 7] rfl ?_
    refine s_mv 53 rfl rfl ?_
    refine s_mv 54 rfl rfl ?_
    refine s_iaV 55 i (fun w hw => hw.old hs1) rfl rfl rfl rfl hil ?_
    refine s_fa 56 rfl rfl ?_
    refine s_fa 57 rfl rfl ?_
    refine s_ld 58 rfl rfl (v := .int .i64 d.e.k) (fun _ hw => (hw.old hs1).doRow hd 0 _ rfl) ?_
    refine s_bit 59 rfl rfl rfl rfl (r := ((k : Nat) : Int)) hand2 ?_
    refine s_as 10 rfl rfl ?_
    refine SX.next ?_
    refine CW.seq ?_
    refine CW.reg [0, 1, 2, 3] rfl ?_
    refine s_mv 60 rfl rfl ?_
    refine s_bit 61 rfl rfl rfl rfl (r := ((i : Nat) : Int)) hand3 ?_
    refine s_add 62 rfl rfl rfl (r := ((i + 1 : Nat) : Int)) (w64 (by omega)) ?_
    refine s_as 11 rfl rfl ?_
    refine SX.next ?_
    refine CW.seq ?_
    refine CW.reg [0] rfl ?_
    refine s_as 12 rfl rfl ?_
    refine SX.next ?_
    refine CW.seq ?_
    refine CW.seq ?_
    refine CW.reg [0, 1, 2, 3, 4, 5] rfl ?_
    refine s_mv 63 rfl rfl ?_
    refine s_mv 64 rfl rfl ?_
    refine s_iaV 65 i (fun w hw => hw.old hs1) rfl rfl rfl rfl hil ?_
    refine s_fa 66 rfl rfl ?_
    refine s_fa 67 rfl rfl ?_
    refine s_ld 68 rfl rfl (v := .bool d.e.tr) (fun _ hw => (hw.old hs1).doRow hd 1 _ rfl) ?_
    refine SX.next ?_
    refine CW.cond rfl (fun hc => ?_) (fun hc => ?_)
    · skip
      refine CW.seq ?_
      refine CW.reg [0, 1, 2, 3] rfl ?_
      refine s_mv 69 rfl rfl ?_
      refine s_mv 70 rfl rfl ?_
      refine s_callP 71 [0, 0, 0, 0] (M := [blk b 141 #[.int .i64 1, .int .i64 (a0 % 16 + 1), .int .i64 16, .slice u.A u.es.length u.c], own 73 3 u.A u.es.length u.c (rowsE u.es), starA (datsE u.es)]) (R := [blk lb 3 (ints .i64 (tabL u.es)).toArray]) (X := BufG) (v := fun _ => wV e (a0 % 16 + 1) 16 true u.es ((k : Nat) : Int)) (pf := fun x => x.es = wRes (a0 % 16 + 1) 16 true u.es ⟨((k : Nat) : Int), true, none, 0, []⟩) (M' := fun x => [blk b 141 #[.int .i64 1, .int .i64 (a0 % 16 + 1), .int .i64 16, .slice x.A x.es.length x.c], own 73 3 x.A x.es.length x.c (rowsE x.es), starA (datsE x.es)]) rfl rfl rfl rfl rfl (fun F' w' hR hM => drop_spec e F' b 1 (a0 % 16 + 1) 16 u ((k : Nat) : Int) w' (by omega) (fun w2 hf => (hR w2 hf).er he1) (fun w2 hf => (hR w2 hf).er he2) (fun w2 hf => (hR w2 hf).er he3) hM) (fun _ _ _ => trivial) (fun x hx => ?_)
      obtain ⟨en, henk, hx, hval, hok⟩ : ∃ en : EntG, en.k = ((k : Nat) : Int) ∧ x.es = wRes (a0 % 16 + 1) 16 true u.es en ∧ valE en = 200 ∧ (en.tr = true ∧ en.l = [] ∨ en.tr = false ∧ ∃ v : Nat, en.l = [v] ∧ 1 ≤ v ∧ v ≤ 128) := ⟨_, rfl, hx, rfl, .inl ⟨rfl, rfl⟩⟩
      refine s_as 12 rfl rfl ?_
      refine SX.next ?_
      refine CW.reg [0] rfl ?_
      refine s_as 11 rfl rfl ?_
      refine SX.next ?_
      refine CW.seq ?_
      rcases keep_put hK e en (by omega) with ⟨hv, hr, hn⟩ | ⟨hv, hr, hz, hl⟩
      · skip
        rw [henk] at hv
        rw [hv]
        rw [hr] at hx
        refine CW.reg [0, 1] rfl ?_
        refine s_mv 78 rfl rfl ?_
        refine s_eqNN 79 rfl rfl ?_
        refine SX.next ?_
        refine CW.condT rfl ?_
        refine CW.reg [0, 1, 2, 3, 4] rfl ?_
        refine s_mv 80 rfl rfl ?_
        refine s_mv 81 rfl rfl ?_
        refine s_mv 82 rfl rfl ?_
        refine s_ia0 83 k rfl rfl rfl rfl hk16 ?_
        refine s_stB 3 rfl rfl rfl rfl rfl (ktab_size _ hk16) (fun _ _ => trivial) ?_
        rw [ktab_set (es' := x.es) (by rw [hx, ← hval]; exact tabL_new hK.nd en henk)]
        refine SX.end_ ?_
        refine KN.blk ?_
        refine KN.code ?_
        refine CW.reg [0, 1, 2] rfl ?_
        refine s_mv 51 rfl rfl ?_
        refine s_add 52 rfl rfl rfl (r := ((i + 1 : Nat) : Int)) (w64 (by omega)) ?_
        refine s_as 9 rfl rfl ?_
        refine SX.end_ ?_
        exact KN.back (i + 1, x) ⟨rfl, rfl, rfl, rfl, rfl, trivial⟩ (fun _ h => h) ⟨by simp only; omega, by simp only; rw [hx]; exact hK.next hn ⟨by omega, hok⟩⟩ (by simp only; omega)
      · skip
        rw [henk] at hv hz
        rw [hv]
        rw [hr] at hx
        refine CW.reg [0, 1] rfl ?_
        refine s_mv 78 rfl rfl ?_
        refine s_eqHN 79 rfl rfl ?_
        refine SX.next ?_
        refine CW.condF rfl ?_
        refine CW.seq ?_
        refine CW.reg [0, 1, 2, 3, 4, 5, 6, 7, 8, 9, 10, 11, 12, 13, 14, 15] rfl ?_
        refine s_mv 84 rfl rfl ?_
        refine s_ld 85 rfl rfl (fun _ h => h.cell he3) ?_
        refine s_neE 86 rfl rfl rfl ?_
        refine s_mv 87 rfl rfl ?_
        refine s_mv 88 rfl rfl ?_
        refine s_mv 89 rfl rfl ?_
        refine s_ia0 90 k rfl rfl rfl rfl hk16 ?_
        refine s_ldB 91 3 rfl rfl rfl (v := .int .i64 0) (tab_cell _ hk16 hz) ?_
        refine s_ne 92 rfl rfl rfl (decide_eq_false (fun h => h rfl)) ?_
        refine s_pickF 93 rfl rfl rfl ?_
        refine s_mv 94 rfl rfl ?_
        refine s_mv 95 rfl rfl ?_
        refine s_call1 96 rfl rfl rfl rfl (fun w hw => blen_spec b x.A x.c x.es w (hw.blkCell (i := 0) rfl rfl)) (fun _ _ => trivial) ?_
        refine s_mv 97 rfl rfl ?_
        refine s_ne 98 rfl rfl rfl (decide_eq_false (by rw [hx]; omega)) ?_
        refine s_pickF 99 rfl rfl rfl ?_
        refine SX.next ?_
        refine CW.condF rfl ?_
        refine CW.skip ?_
        refine KN.blk ?_
        refine KN.code ?_
        refine CW.reg [0, 1, 2] rfl ?_
        refine s_mv 51 rfl rfl ?_
        refine s_add 52 rfl rfl rfl (r := ((i + 1 : Nat) : Int)) (w64 (by omega)) ?_
        refine s_as 9 rfl rfl ?_
        refine SX.end_ ?_
        exact KN.back (i + 1, x) ⟨rfl, rfl, rfl, rfl, rfl, trivial⟩ (fun _ h => by rw [← hx] at h; exact h) ⟨by simp only; omega, by simp only; rw [hx]; exact hK⟩ (by simp only; omega)
    · skip
      refine CW.reg [0, 1, 2, 3, 4, 5, 6] rfl ?_
      refine s_mv 72 rfl rfl ?_
      refine s_mv 73 rfl rfl ?_
      refine s_mv 74 rfl rfl ?_
      refine s_conv 75 rfl rfl (r := ((i + 1 : Nat) : Int)) (w8 (by omega)) ?_
      refine s_bsl 76 rfl rfl (cells := #[.int .u8 ((i + 1 : Nat) : Int)]) (by kernel_rfl) rfl (fun _ _ => trivial) (fun bm => ?_)
      refine s_callP 77 [1, 1, 1, 0, 0] (M := [blk b 141 #[.int .i64 1, .int .i64 (a0 % 16 + 1), .int .i64 16, .slice u.A u.es.length u.c], own 73 3 u.A u.es.length u.c (rowsE u.es), starA (datsE u.es)]) (R := [blk bm 5 #[.int .u8 ((i + 1 : Nat) : Int)], blk lb 3 (ints .i64 (tabL u.es)).toArray]) (X := BufG × Option Addr × Nat) (v := fun _ => wV e (a0 % 16 + 1) 16 true u.es ((k : Nat) : Int)) (pf := fun x => x.1.es = wRes (a0 % 16 + 1) 16 true u.es ⟨((k : Nat) : Int), false, x.2.1, x.2.2, [i + 1]⟩) (M' := fun x => [blk b 141 #[.int .i64 1, .int .i64 (a0 % 16 + 1), .int .i64 16, .slice x.1.A x.1.es.length x.1.c], own 73 3 x.1.A x.1.es.length x.1.c (rowsE x.1.es), starA (datsE x.1.es)]) rfl rfl rfl rfl rfl (fun F' w' hR hM => kput_spec e F' b (a0 % 16 + 1) u (by omega) ((k : Nat) : Int) (some ⟨bm, 0, none⟩) (i + 1) w' (fun w2 hf => (hR w2 hf).er he1) (fun w2 hf => (hR w2 hf).er he2) (fun w2 hf => (hR w2 hf).er he3) (fun w2 hf => Has.cong (((hR w2 hf).has (i := 0) rfl).blk_sl (m := 1) rfl) rfl) hM) (fun _ _ _ => trivial) (fun x hx => ?_)
      obtain ⟨x, zA, zc⟩ := x
      obtain ⟨en, henk, hx, hval, hok⟩ : ∃ en : EntG, en.k = ((k : Nat) : Int) ∧ x.es = wRes (a0 % 16 + 1) 16 true u.es en ∧ valE en = ((i + 1 : Nat) : Int) ∧ (en.tr = true ∧ en.l = [] ∨ en.tr = false ∧ ∃ v : Nat, en.l = [v] ∧ 1 ≤ v ∧ v ≤ 128) := ⟨_, rfl, hx, rfl, .inr ⟨rfl, i + 1, rfl, by omega, by omega⟩⟩
      dsimp only
      refine SX.pre (fun _ h => h.pick [0, 0, 0, 1] rfl) ?_
      refine s_as 12 rfl rfl ?_
      refine SX.next ?_
      refine CW.seq ?_
      rcases keep_put hK e en (by omega) with ⟨hv, hr, hn⟩ | ⟨hv, hr, hz, hl⟩
      · skip
        rw [henk] at hv
        rw [hv]
        rw [hr] at hx
        refine CW.reg [0, 1] rfl ?_
        refine s_mv 78 rfl rfl ?_
        refine s_eqNN 79 rfl rfl ?_
        refine SX.next ?_
        refine CW.condT rfl ?_
        refine CW.reg [0, 1, 2, 3, 4] rfl ?_
        refine s_mv 80 rfl rfl ?_
        refine s_mv 81 rfl rfl ?_
        refine s_mv 82 rfl rfl ?_
        refine s_ia0 83 k rfl rfl rfl rfl hk16 ?_
        refine s_stB 3 rfl rfl rfl rfl rfl (ktab_size _ hk16) (fun _ _ => trivial) ?_
        rw [ktab_set (es' := x.es) (by rw [hx, ← hval]; exact tabL_new hK.nd en henk)]
        refine SX.end_ ?_
        refine KN.blk ?_
        refine KN.code ?_
        refine CW.reg [0, 1, 2] rfl ?_
        refine s_mv 51 rfl rfl ?_
        refine s_add 52 rfl rfl rfl (r := ((i + 1 : Nat) : Int)) (w64 (by omega)) ?_
        refine s_as 9 rfl rfl ?_
        refine SX.end_ ?_
        exact KN.back (i + 1, x) ⟨rfl, rfl, rfl, rfl, rfl, trivial⟩ (fun _ h => h) ⟨by simp only; omega, by simp only; rw [hx]; exact hK.next hn ⟨by omega, hok⟩⟩ (by simp only; omega)
      · skip
        rw [henk] at hv hz
        rw [hv]
        rw [hr] at hx
        refine CW.reg [0, 1] rfl ?_
        refine s_mv 78 rfl rfl ?_
        refine s_eqHN 79 rfl rfl ?_
        refine SX.next ?_
        refine CW.condF rfl ?_
        refine CW.seq ?_
        refine CW.reg [0, 1, 2, 3, 4, 5, 6, 7, 8, 9, 10, 11, 12, 13, 14, 15] rfl ?_
        refine s_mv 84 rfl rfl ?_
        refine s_ld 85 rfl rfl (fun _ h => h.cell he3) ?_
        refine s_neE 86 rfl rfl rfl ?_
        refine s_mv 87 rfl rfl ?_
        refine s_mv 88 rfl rfl ?_
        refine s_mv 89 rfl rfl ?_
        refine s_ia0 90 k rfl rfl rfl rfl hk16 ?_
        refine s_ldB 91 3 rfl rfl rfl (v := .int .i64 0) (tab_cell _ hk16 hz) ?_
        refine s_ne 92 rfl rfl rfl (decide_eq_false (fun h => h rfl)) ?_
        refine s_pickF 93 rfl rfl rfl ?_
        refine s_mv 94 rfl rfl ?_
        refine s_mv 95 rfl rfl ?_
        refine s_call1 96 rfl rfl rfl rfl (fun w hw => blen_spec b x.A x.c x.es w (hw.blkCell (i := 0) rfl rfl)) (fun _ _ => trivial) ?_
        refine s_mv 97 rfl rfl ?_
        refine s_ne 98 rfl rfl rfl (decide_eq_false (by rw [hx]; omega)) ?_
        refine s_pickF 99 rfl rfl rfl ?_
        refine SX.next ?_
        refine CW.condF rfl ?_
        refine CW.skip ?_
        refine KN.blk ?_
        refine KN.code ?_
        refine CW.reg [0, 1, 2] rfl ?_
        refine s_mv 51 rfl rfl ?_
        refine s_add 52 rfl rfl rfl (r := ((i + 1 : Nat) : Int)) (w64 (by omega)) ?_
        refine s_as 9 rfl rfl ?_
        refine SX.end_ ?_
        exact KN.back (i + 1, x) ⟨rfl, rfl, rfl, rfl, rfl, trivial⟩ (fun _ h => by rw [← hx] at h; exact h) ⟨by simp only; omega, by simp only; rw [hx]; exact hK⟩ (by simp only; omega)
  · skip
    have hc0 := cntK_zero hK
    have hca := cntK_all hK
    have ho1 := hK.ofOne
    refine CW.exit rfl ?_
    refine KN.code ?_
    refine CW.seq ?_
    refine CW.reg [0] rfl ?_
    refine s_as 13 rfl rfl ?_
    refine SX.next ?_
    refine CW.seq ?_
    refine CW.seq ?_
    refine CW.reg [0] rfl ?_
    refine s_as 14 rfl rfl ?_
    refine SX.next ?_
    refine CW.block ?_
    refine CW.loop (G := Nat) (fun k => [(0, .int .i64 (a0 % 16 + 1)), (6, .pointer (some ⟨b, 0, none⟩)), (8, .slice (some ⟨lb, 0, none⟩) 16 16), (13, .int .i64 (cntK u.es k : Nat)), (14, .int .i64 (k : Nat))]) (fun _ => (Sto w [blk b 141 #[.int .i64 1, .int .i64 (a0 % 16 + 1), .int .i64 16, .slice u.A u.es.length u.c], own 73 3 u.A u.es.length u.c (rowsE u.es), starA (datsE u.es), blk lb 3 (ints .i64 (tabL u.es)).toArray])) (fun k => k ≤ 16) (fun k => 16 - k) 0 ⟨rfl, rfl, rfl, by rw [hc0]; rfl, rfl, trivial⟩ (fun _ h => h) (Nat.zero_le _) ?_
    intro k hk
    have hck := cntK_le u.es k
    have hcn := cntK_next hK.nd k
    refine CW.seq ?_
    refine CW.seq ?_
    refine CW.reg [0, 1] rfl ?_
    refine s_mv 100 rfl rfl ?_
    refine s_lt 101 rfl rfl rfl rfl ?_
    refine SX.next ?_
    refine CW.test rfl (fun hc => ?_) (fun hc => ?_)
    · skip
      have hk16 : k < 16 := by omega
      refine CW.skip ?_
      refine KN.code ?_
      refine CW.seq ?_
      refine CW.block ?_
      refine CW.seq ?_
      rcases kcase hK (k := k) with hpl | ⟨j, A5, c5, he, hpl, hval⟩ | ⟨j, A5, c5, v, he, hpl, hval, hv1, hv2⟩
      · skip
        have hz := tabE_none hpl
        rw [hpl, if_pos rfl] at hcn
        refine CW.reg [0, 1, 2, 3, 4, 5, 6, 7, 8] rfl ?_
        refine s_mv 105 rfl rfl ?_
        refine s_mv 106 rfl rfl ?_
        refine s_call1 107 rfl rfl rfl rfl (fun w hw => get_none b u.A u.c u.es ((k : Nat) : Int) w ((hw.has (i := 1) rfl).of_own) (by omega) (hw.blkCell (i := 0) rfl rfl) hpl) (fun _ _ => trivial) ?_
        refine s_mv 104 rfl rfl ?_
        refine s_ext 108 rfl rfl rfl ?_
        refine s_ext 109 rfl rfl rfl ?_
        refine s_alloc 15 rfl (fun _ _ => trivial) (fun b15 => ?_)
        refine s_stAll 0 rfl rfl (by kernel_rfl) rfl rfl rfl rfl (fun _ _ => trivial) ?_
        refine s_as 16 rfl rfl ?_
        refine SX.next ?_
        refine CW.seq ?_
        refine CW.seq ?_
        refine CW.regD (.st true 0 (.st true 1 (.st true 2 (.st true 3 (.st true 4 (.st true 5 (.st true 6 (.st true 7 (.st true 8 (.st true 9 (.st true 10 (.st true 11 (.st true 12 (.st true 13 (.st true 14 (.st true 15 (.st true 16 (.st true 17 (.st true 18 (.st true 19 (.st true 20 (.st true 21 (.st true 22 (.st true 23 (.st true 24 (.st true 25 (.st true 26 (.st true 27 (.st true 28 (.st true 29 (.st true 30 (.st true 31 (.st true 32 (.st true 33 (.st true 34 (.st true 35 (.st true 36 (.st true 37 (.st true 38 (.st true 39 (.st true 40 (.st true 41 (.st true 42 (.st true 43 (.st true 44 (.st true 45 (.st true 46 (.st true 47 (.st true 48 .done))))))))))))))))))))))))))))))))))))))))))))))))) (Sto w [blk lb 3 (ints .i64 (tabL u.es)).toArray]) mixed (by kernel_rfl) (fun _ h => h.drew) (fun _ h => h.pick [4] rfl) ?_
        refine s_mv 110 rfl rfl ?_
        refine s_mv 111 rfl rfl ?_
        refine s_mv 112 rfl rfl ?_
        refine s_ia0 113 k rfl rfl rfl rfl hk16 ?_
        refine s_ldS 114 rfl rfl (v := .int .i64 0) (fun _ hw => hw.blkCell (i := 0) rfl (tab_cell _ hk16 hz)) ?_
        refine s_ne 115 rfl rfl rfl (decide_eq_false (fun h => h rfl)) ?_
        refine s_neB 116 rfl rfl rfl (r := false) rfl ?_
        refine s_mv 117 rfl rfl ?_
        refine s_mv 118 rfl rfl ?_
        refine s_mv 119 rfl rfl ?_
        refine SX.skip rfl ?_
        refine SX.skip rfl ?_
        refine SX.skip rfl ?_
        refine SX.skip rfl ?_
        refine SX.skip rfl ?_
        refine SX.skipU rfl ?_
        refine SX.skipU rfl ?_
        refine SX.skipU rfl ?_
        refine SX.skipU rfl ?_
        refine SX.skipU rfl ?_
        refine SX.skipU rfl ?_
        refine SX.skipU rfl ?_
        refine SX.skipU rfl ?_
        refine SX.skip rfl ?_
        refine SX.skip rfl ?_
        refine SX.skipU rfl ?_
        refine SX.skipU rfl ?_
        refine SX.skipU rfl ?_
        refine SX.skipU rfl ?_
        refine SX.skipU rfl ?_
        refine SX.skipU rfl ?_
        refine SX.skipU rfl ?_
        refine SX.skipU rfl ?_
        refine SX.skipU rfl ?_
        refine SX.skipU rfl ?_
        refine SX.skipU rfl ?_
        refine SX.skipU rfl ?_
        refine SX.skipU rfl ?_
        refine SX.skipU rfl ?_
        refine SX.skipU rfl ?_
        refine SX.skipU rfl ?_
        refine SX.skipU rfl ?_
        refine SX.skipU rfl ?_
        refine SX.skipU rfl ?_
        refine SX.skipU rfl ?_
        refine SX.skipU rfl ?_
        refine SX.skip rfl ?_
        refine s_pickF 157 rfl rfl rfl ?_
        refine s_pickF 158 rfl rfl rfl ?_
        refine SX.next ?_
        refine CW.condF rfl ?_
        refine CW.skip ?_
        refine KN.code ?_
        refine CW.seq ?_
        refine CW.reg [0] rfl ?_
        refine s_mv 159 rfl rfl ?_
        refine SX.next ?_
        refine CW.condF rfl ?_
        refine CW.skip ?_
        refine KN.blk ?_
        refine KN.code ?_
        rw [show ((cntK u.es k : Nat) : Int) = ((cntK u.es (k + 1) : Nat) : Int) by rw [hcn]; rfl]
        refine CW.reg [0, 1, 2] rfl ?_
        refine s_mv 102 rfl rfl ?_
        refine s_add 103 rfl rfl rfl (r := ((k + 1 : Nat) : Int)) (w64 (by omega)) ?_
        refine s_as 14 rfl rfl ?_
        refine SX.end_ ?_
        exact KN.back (k + 1) ⟨rfl, rfl, rfl, rfl, rfl, trivial⟩ (fun _ h => h.pick [1, 1, 1, 1] rfl) (by omega) (by omega)
      · skip
        have hem := List.mem_of_getElem? he
        rw [hpl, if_neg (by omega)] at hcn
        refine CW.reg [0, 1, 2, 3, 4, 5, 6, 7, 8] rfl ?_
        refine s_mv 105 rfl rfl ?_
        refine s_mv 106 rfl rfl ?_
        refine s_call 107 rfl rfl rfl rfl (fun w hw => get_some b u.A u.c u.es ((k : Nat) : Int) j ⟨((k : Nat) : Int), true, A5, c5, []⟩ w ((hw.has (i := 1) rfl).of_own) (by omega) (hw.blkCell (i := 0) rfl rfl) (fun e he => (Has.starM (hw.has (i := 2) rfl) (List.mem_map_of_mem he)).of_own) ho1 hpl he) (fun _ _ => trivial) (fun z hz => ?_)
        refine s_mv 104 rfl rfl ?_
        refine s_ext 108 rfl rfl rfl ?_
        refine s_ext 109 rfl rfl rfl ?_
        refine s_alloc 15 rfl (fun _ _ => trivial) (fun b15 => ?_)
        refine s_stAll 0 rfl rfl (by kernel_rfl) rfl rfl rfl rfl (fun _ _ => trivial) ?_
        refine s_as 16 rfl rfl ?_
        refine SX.next ?_
        refine CW.seq ?_
        refine CW.seq ?_
        refine CW.regD (.st true 0 (.st true 1 (.st true 2 (.st true 3 (.st true 4 (.st true 5 (.st true 6 (.st true 7 (.st true 8 (.st true 9 (.st true 10 (.st true 11 (.st true 12 (.st true 13 (.st true 14 (.st true 15 (.st true 16 (.st true 17 (.st true 18 (.st true 19 (.st true 20 (.st true 21 (.st true 22 (.st true 23 (.st true 24 (.st true 25 (.st true 26 (.st true 27 (.st true 28 (.st true 29 (.st true 30 (.st true 31 (.st true 32 (.st true 33 (.st true 34 (.st true 35 (.st true 36 (.st true 37 (.st true 38 (.st true 39 (.st true 40 (.st true 41 (.st true 42 (.st true 43 (.st true 44 (.st true 45 (.st true 46 (.st true 47 (.st true 48 .done))))))))))))))))))))))))))))))))))))))))))))))))) (Sto w [blk b15 73 #[.int .i64 ((k : Nat) : Int), .bool true, .slice z.1 ([] : List Nat).length z.2], own 5 1 z.1 ([] : List Nat).length z.2 (nats .u8 []), blk lb 3 (ints .i64 (tabL u.es)).toArray]) mixed (by kernel_rfl) (fun _ h => h.drew) (fun _ h => h.pick [0, 0, 3] rfl) ?_
        refine s_mv 110 rfl rfl ?_
        refine s_mv 111 rfl rfl ?_
        refine s_mv 112 rfl rfl ?_
        refine s_ia0 113 k rfl rfl rfl rfl hk16 ?_
        refine s_ldS 114 rfl rfl (v := .int .i64 200) (fun _ hw => hw.blkCell (i := 2) rfl (tab_cell _ hk16 hval)) ?_
        refine s_ne 115 rfl rfl rfl (decide_eq_true (by omega)) ?_
        refine s_neB 116 rfl rfl rfl (r := false) rfl ?_
        refine s_mv 117 rfl rfl ?_
        refine s_mv 118 rfl rfl ?_
        refine s_mv 119 rfl rfl ?_
        refine s_fa 120 rfl rfl ?_
        refine s_ldS 121 rfl rfl (v := .int .i64 ((k : Nat) : Int)) (fun _ hw => hw.blkCell (i := 0) rfl rfl) ?_
        refine s_mv 122 rfl rfl ?_
        refine s_ne 123 rfl rfl rfl (decide_eq_false (fun h => h rfl)) ?_
        refine s_mv 124 rfl rfl ?_
        refine s_fa 125 rfl rfl ?_
        refine s_ldS 126 rfl rfl (v := .bool true) (fun _ hw => hw.blkCell (i := 0) rfl rfl) ?_
        refine s_mv 127 rfl rfl ?_
        refine s_mv 128 rfl rfl ?_
        refine s_ia0 129 k rfl rfl rfl rfl hk16 ?_
        refine s_ldS 130 rfl rfl (v := .int .i64 200) (fun _ hw => hw.blkCell (i := 2) rfl (tab_cell _ hk16 hval)) ?_
        refine s_eq 131 rfl rfl rfl (decide_eq_true (by omega)) ?_
        refine s_neB 132 rfl rfl rfl (r := false) rfl ?_
        refine s_pickF 133 rfl rfl rfl ?_
        refine s_mv 134 rfl rfl ?_
        refine s_fa 135 rfl rfl ?_
        refine s_ldS 136 rfl rfl (v := .bool true) (fun _ hw => hw.blkCell (i := 0) rfl rfl) ?_
        refine s_not 137 rfl rfl ?_
        refine s_mv 138 rfl rfl ?_
        refine SX.skip rfl ?_
        refine SX.skip rfl ?_
        refine SX.skip rfl ?_
        refine SX.skip rfl ?_
        refine SX.skip rfl ?_
        refine SX.skipU rfl ?_
        refine SX.skipU rfl ?_
        refine SX.skipU rfl ?_
        refine SX.skipU rfl ?_
        refine SX.skipU rfl ?_
        refine SX.skipU rfl ?_
        refine SX.skipU rfl ?_
        refine SX.skipU rfl ?_
        refine SX.skipU rfl ?_
        refine SX.skipU rfl ?_
        refine SX.skip rfl ?_
        refine s_pickF 155 rfl rfl rfl ?_
        refine s_pickF 156 rfl rfl rfl ?_
        refine s_pickT 157 rfl rfl rfl ?_
        refine s_pickF 158 rfl rfl rfl ?_
        refine SX.next ?_
        refine CW.condF rfl ?_
        refine CW.skip ?_
        refine KN.code ?_
        refine CW.seq ?_
        refine CW.reg [0] rfl ?_
        refine s_mv 159 rfl rfl ?_
        refine SX.next ?_
        refine CW.condT rfl ?_
        refine CW.reg [0, 1, 2] rfl ?_
        refine s_mv 160 rfl rfl ?_
        refine s_add 161 rfl rfl rfl (r := ((cntK u.es (k + 1) : Nat) : Int)) (by rw [show ((cntK u.es k : Nat) : Int) + 1 = ((cntK u.es (k + 1) : Nat) : Int) by rw [hcn]; rfl]; exact w64 (by omega)) ?_
        refine s_as 13 rfl rfl ?_
        refine SX.end_ ?_
        refine KN.blk ?_
        refine KN.code ?_
        refine CW.reg [0, 1, 2] rfl ?_
        refine s_mv 102 rfl rfl ?_
        refine s_add 103 rfl rfl rfl (r := ((k + 1 : Nat) : Int)) (w64 (by omega)) ?_
        refine s_as 14 rfl rfl ?_
        refine SX.end_ ?_
        exact KN.back (k + 1) ⟨rfl, rfl, rfl, rfl, rfl, trivial⟩ (fun _ h => h.pick [2, 2, 2, 2] rfl) (by omega) (by omega)
      · skip
        have hem := List.mem_of_getElem? he
        rw [hpl, if_neg (by omega)] at hcn
        refine CW.reg [0, 1, 2, 3, 4, 5, 6, 7, 8] rfl ?_
        refine s_mv 105 rfl rfl ?_
        refine s_mv 106 rfl rfl ?_
        refine s_call 107 rfl rfl rfl rfl (fun w hw => get_some b u.A u.c u.es ((k : Nat) : Int) j ⟨((k : Nat) : Int), false, A5, c5, [v]⟩ w ((hw.has (i := 1) rfl).of_own) (by omega) (hw.blkCell (i := 0) rfl rfl) (fun e he => (Has.starM (hw.has (i := 2) rfl) (List.mem_map_of_mem he)).of_own) ho1 hpl he) (fun _ _ => trivial) (fun z hz => ?_)
        refine s_mv 104 rfl rfl ?_
        refine s_ext 108 rfl rfl rfl ?_
        refine s_ext 109 rfl rfl rfl ?_
        refine s_alloc 15 rfl (fun _ _ => trivial) (fun b15 => ?_)
        refine s_stAll 0 rfl rfl (by kernel_rfl) rfl rfl rfl rfl (fun _ _ => trivial) ?_
        refine s_as 16 rfl rfl ?_
        refine SX.next ?_
        refine CW.seq ?_
        refine CW.seq ?_
        refine CW.regD (.st true 0 (.st true 1 (.st true 2 (.st true 3 (.st true 4 (.st true 5 (.st true 6 (.st true 7 (.st true 8 (.st true 9 (.st true 10 (.st true 11 (.st true 12 (.st true 13 (.st true 14 (.st true 15 (.st true 16 (.st true 17 (.st true 18 (.st true 19 (.st true 20 (.st true 21 (.st true 22 (.st true 23 (.st true 24 (.st true 25 (.st true 26 (.st true 27 (.st true 28 (.st true 29 (.st true 30 (.st true 31 (.st true 32 (.st true 33 (.st true 34 (.st true 35 (.st true 36 (.st true 37 (.st true 38 (.st true 39 (.st true 40 (.st true 41 (.st true 42 (.st true 43 (.st true 44 (.st true 45 (.st true 46 (.st true 47 (.st true 48 .done))))))))))))))))))))))))))))))))))))))))))))))))) (Sto w [blk b15 73 #[.int .i64 ((k : Nat) : Int), .bool false, .slice z.1 ([v] : List Nat).length z.2], own 5 1 z.1 ([v] : List Nat).length z.2 (nats .u8 [v]), blk lb 3 (ints .i64 (tabL u.es)).toArray]) mixed (by kernel_rfl) (fun _ h => h.drew) (fun _ h => h.pick [0, 0, 3] rfl) ?_
        refine s_mv 110 rfl rfl ?_
        refine s_mv 111 rfl rfl ?_
        refine s_mv 112 rfl rfl ?_
        refine s_ia0 113 k rfl rfl rfl rfl hk16 ?_
        refine s_ldS 114 rfl rfl (v := .int .i64 ((v : Nat) : Int)) (fun _ hw => hw.blkCell (i := 2) rfl (tab_cell _ hk16 hval)) ?_
        refine s_ne 115 rfl rfl rfl (decide_eq_true (by omega)) ?_
        refine s_neB 116 rfl rfl rfl (r := false) rfl ?_
        refine s_mv 117 rfl rfl ?_
        refine s_mv 118 rfl rfl ?_
        refine s_mv 119 rfl rfl ?_
        refine s_fa 120 rfl rfl ?_
        refine s_ldS 121 rfl rfl (v := .int .i64 ((k : Nat) : Int)) (fun _ hw => hw.blkCell (i := 0) rfl rfl) ?_
        refine s_mv 122 rfl rfl ?_
        refine s_ne 123 rfl rfl rfl (decide_eq_false (fun h => h rfl)) ?_
        refine s_mv 124 rfl rfl ?_
        refine s_fa 125 rfl rfl ?_
        refine s_ldS 126 rfl rfl (v := .bool false) (fun _ hw => hw.blkCell (i := 0) rfl rfl) ?_
        refine s_mv 127 rfl rfl ?_
        refine s_mv 128 rfl rfl ?_
        refine s_ia0 129 k rfl rfl rfl rfl hk16 ?_
        refine s_ldS 130 rfl rfl (v := .int .i64 ((v : Nat) : Int)) (fun _ hw => hw.blkCell (i := 2) rfl (tab_cell _ hk16 hval)) ?_
        refine s_eq 131 rfl rfl rfl (decide_eq_false (by omega)) ?_
        refine s_neB 132 rfl rfl rfl (r := false) rfl ?_
        refine s_pickF 133 rfl rfl rfl ?_
        refine s_mv 134 rfl rfl ?_
        refine s_fa 135 rfl rfl ?_
        refine s_ldS 136 rfl rfl (v := .bool false) (fun _ hw => hw.blkCell (i := 0) rfl rfl) ?_
        refine s_not 137 rfl rfl ?_
        refine s_mv 138 rfl rfl ?_
        refine s_fa 139 rfl rfl ?_
        refine s_ldS 140 rfl rfl (v := .slice z.1 ([v] : List Nat).length z.2) (fun _ hw => hw.blkCell (i := 0) (j := 2) rfl rfl) ?_
        refine s_len 141 rfl rfl ?_
        refine s_ne 142 rfl rfl rfl (decide_eq_false (fun h => h rfl)) ?_
        refine s_mv 143 rfl rfl ?_
        refine s_fa 144 rfl rfl ?_
        refine s_ldS 145 rfl rfl (v := .slice z.1 ([v] : List Nat).length z.2) (fun _ hw => hw.blkCell (i := 0) (j := 2) rfl rfl) ?_
        refine s_iaO 146 1 0 rfl rfl rfl rfl rfl (Nat.lt_succ_self 0) ?_
        refine s_ldS 147 rfl rfl (v := .int .u8 (v : Nat)) (fun _ hw => hw.ownCell (q := 1) (j := 0) rfl rfl) ?_
        refine s_conv 148 rfl rfl (r := ((v : Nat) : Int)) (w64 (by omega)) ?_
        refine s_mv 149 rfl rfl ?_
        refine s_mv 150 rfl rfl ?_
        refine s_ia0 151 k rfl rfl rfl rfl hk16 ?_
        refine s_ldS 152 rfl rfl (v := .int .i64 ((v : Nat) : Int)) (fun _ hw => hw.blkCell (i := 2) rfl (tab_cell _ hk16 hval)) ?_
        refine s_ne 153 rfl rfl rfl (decide_eq_false (fun h => h rfl)) ?_
        refine s_pickF 154 rfl rfl rfl ?_
        refine s_pickT 155 rfl rfl rfl ?_
        refine s_pickF 156 rfl rfl rfl ?_
        refine s_pickT 157 rfl rfl rfl ?_
        refine s_pickF 158 rfl rfl rfl ?_
        refine SX.next ?_
        refine CW.condF rfl ?_
        refine CW.skip ?_
        refine KN.code ?_
        refine CW.seq ?_
        refine CW.reg [0] rfl ?_
        refine s_mv 159 rfl rfl ?_
        refine SX.next ?_
        refine CW.condT rfl ?_
        refine CW.reg [0, 1, 2] rfl ?_
        refine s_mv 160 rfl rfl ?_
        refine s_add 161 rfl rfl rfl (r := ((cntK u.es (k + 1) : Nat) : Int)) (by rw [show ((cntK u.es k : Nat) : Int) + 1 = ((cntK u.es (k + 1) : Nat) : Int) by rw [hcn]; rfl]; exact w64 (by omega)) ?_
        refine s_as 13 rfl rfl ?_
        refine SX.end_ ?_
        refine KN.blk ?_
        refine KN.code ?_
        refine CW.reg [0, 1, 2] rfl ?_
        refine s_mv 102 rfl rfl ?_
        refine s_add 103 rfl rfl rfl (r := ((k + 1 : Nat) : Int)) (w64 (by omega)) ?_
        refine s_as 14 rfl rfl ?_
        refine SX.end_ ?_
        exact KN.back (k + 1) ⟨rfl, rfl, rfl, rfl, rfl, trivial⟩ (fun _ h => h.pick [2, 2, 2, 2] rfl) (by omega) (by omega)
    · skip
      obtain rfl : k = 16 := by omega
      refine CW.exit rfl ?_
      refine KN.code ?_
      refine CW.seq ?_
      refine CW.reg [0, 1, 2, 3, 4, 5, 6, 7, 8, 9, 10, 11, 12, 13, 14, 15, 16, 17] rfl ?_
      refine s_mv 162 rfl rfl ?_
      refine s_mv 163 rfl rfl ?_
      refine s_call1 164 rfl rfl rfl rfl (fun w hw => blen_spec b u.A u.c u.es w (hw.blkCell (i := 0) rfl rfl)) (fun _ _ => trivial) ?_
      refine s_eq 165 rfl rfl rfl (decide_eq_true (by omega)) ?_
      refine s_mv 166 rfl rfl ?_
      refine s_mv 167 rfl rfl ?_
      refine s_mv 168 rfl rfl ?_
      refine s_le 169 rfl rfl rfl (decide_eq_true (by omega)) ?_
      refine s_pickT 170 rfl rfl rfl ?_
      refine s_mv 171 rfl rfl ?_
      refine s_mv 172 rfl rfl ?_
      refine s_call1 173 rfl rfl rfl rfl (fun w hw => bfull_spec b u.A u.c u.es (a0 % 16 + 1) w (hw.blkCell (i := 0) rfl rfl) (hw.blkCell (i := 0) rfl rfl)) (fun _ _ => trivial) ?_
      refine s_mv 174 rfl rfl ?_
      refine s_mv 175 rfl rfl ?_
      refine s_eq 176 rfl rfl rfl (r := decide ((u.es.length : Int) ≥ (a0 % 16 + 1))) (decide_eq_decide.2 (by omega)) ?_
      refine s_eqB 177 rfl rfl rfl (r := true) (by simp) ?_
      refine s_pickT 178 rfl rfl rfl ?_
      refine s_as 4 rfl rfl ?_
      refine SX.next ?_
      refine CW.ret ?_
      exact KN.ret (rs := [.tmp 4]) Tryd.results5 rfl (fun w hw => ⟨rfl, hw.nothing⟩)

theorem walk_BufferKeeps (a0 : Int) (A1 : Option Addr) (n1 c1 : Nat) (l1 : List DoG) (e : Nat → Addr) (w : World) (hs1 : Has (sl 4 A1 n1 (rowsD l1)) w) (_hz1 : ∀ d ∈ l1, EntIn w d.e) (hn1 : n1 ≤ 9223372036854775807) (he1 : Er e w 1) (he2 : Er e w 5) (he3 : Er e w 3) : Spec1 Tryd.prog 5 [.int .i64 a0, .slice A1 n1 c1] w (.bool true) := by
  have hl1 : l1.length = n1 := by
    obtain ⟨D, ⟨h1, _⟩, _⟩ := hs1
    rw [rowsD_len] at h1
    omega
  subst hl1
  by_cases h : l1.length ≤ 100
  · exact bkeep_ok a0 A1 c1 l1 e w hs1 hn1 he1 he2 he3 h
  · exact bkeep_long a0 A1 c1 l1 e w hs1 hn1 he1 he2 he3 (by omega)
end Go.Proofs.YtcdmmfpgeagimaaDoor
end
