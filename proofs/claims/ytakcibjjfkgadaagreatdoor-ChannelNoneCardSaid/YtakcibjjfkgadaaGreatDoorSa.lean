/- The law ChannelNone: for all inputs it answers true (row and card); ahead of it what the rows of layer 20 share. -/
import Derived.Test.YtakcibjjfkgadaaGreatDoorFc
import Derived.Test.YtakcibjjfkgadaaGreatDoorEvSr
import Derived.Test.YtakcibjjfkgadaaGreatDoorRows
import Derived.Test.YtakcibjjfkgadaaGreatDoorTie
import Derived.Test.YtakcibjjfkgadaaGreatDoorCards
import Derived.JoinedOf
import Derived.LaidLaws
import Derived.LaidHandle
import Derived.SevenTiedAt
set_option linter.unusedSimpArgs false
set_option linter.unusedVariables false
set_option maxRecDepth 100000
namespace Go.Proofs.YtakcibjjfkgadaaGreatDoor
open Go Go.Ev Go.ChangeShapes Go.WideShapes Go.RowKit

theorem own : ownKnob Tryz.prog.godebug = none := by kernel_rfl
theorem kC : kindsT Tryz.prog 8 25 = some (List.replicate 31 (.int .i64)) := by kernel_rfl
theorem kT : kindsT Tryz.prog 8 39 = some [.int .i64, .bool, .int .i64, .bool] := by kernel_rfl
theorem k_none : kindsT Tryz.prog 8 139 = some [.int .i64, .int .u64] := by kernel_rfl
theorem k_places : kindsT Tryz.prog 8 199 = some (List.replicate 9 (.int .i64)) := by kernel_rfl
theorem k_rows : kindsT Tryz.prog 8 201 = some (List.replicate 9 (.int .i64)) := by kernel_rfl
theorem k_table : kindsT Tryz.prog 8 155 = some (List.replicate 47 (.int .i64)) := by kernel_rfl
theorem k_least : kindsT Tryz.prog 8 139 = some [.int .i64, .int .u64] := by kernel_rfl

def imD (r : Nat) : Prop := r = 1 ∨ r = 2 ∨ r = 3 ∨ r = 0 ∨ r = 4
theorem gokD {W : World} {l : List (String × DataW Unit)} (hL : laidMet Tryz.prog l W) (h0 : ("aneroid/wide.none", Rows.laid_aneroid_wide_none) ∈ l) (h1 : ("aneroid/sym.places", Rows.laid_aneroid_sym_places) ∈ l) (h2 : ("aneroid/spread.rows", Rows.laid_aneroid_spread_rows) ∈ l) (h3 : ("aneroid/atmos.table", Rows.laid_aneroid_atmos_table) ∈ l) (h4 : ("aneroid/wide.least", Rows.laid_aneroid_wide_least) ∈ l) :
    GOK GD W imD ∧ ∀ r, imD r → r < W.heap.size := by
  have r0 := laid_row (g := 1) (t := 139) hL h0 (by kernel_rfl) (by kernel_rfl) k_none
  have r1 := laid_row (g := 2) (t := 199) hL h1 (by kernel_rfl) (by kernel_rfl) k_places
  have r2 := laid_row (g := 3) (t := 201) hL h2 (by kernel_rfl) (by kernel_rfl) k_rows
  have r3 := laid_row (g := 0) (t := 155) hL h3 (by kernel_rfl) (by kernel_rfl) k_table
  have r4 := laid_row (g := 4) (t := 139) hL h4 (by kernel_rfl) (by kernel_rfl) k_least
  refine ⟨fun g cs hg => ?_, fun r hr => ?_⟩
  · unfold GD at hg
    split at hg
    · rename_i e
      subst e
      cases hg
      have rr : Row W 1 0 [.int .i64 0, .int .u64 0] := r0
      refine ⟨.inl rfl, _, ?_, rr⟩
      simp [VRs, VR]
    split at hg
    · rename_i e
      subst e
      cases hg
      have rr : Row W 2 0 [.int .i64 0, .int .i64 1, .int .i64 2, .int .i64 1, .int .i64 3, .int .i64 4, .int .i64 2, .int .i64 4, .int .i64 5] := r1
      refine ⟨.inr (.inl rfl), _, ?_, rr⟩
      simp [VRs, VR]
    split at hg
    · rename_i e
      subst e
      cases hg
      have rr : Row W 3 0 [.int .i64 32768, .int .i64 256, .int .i64 (-1), .int .i64 0, .int .i64 32768, .int .i64 (-256), .int .i64 0, .int .i64 0, .int .i64 32768] := r2
      refine ⟨.inr (.inr (.inl rfl)), _, ?_, rr⟩
      simp [VRs, VR]
    split at hg
    · rename_i e
      subst e
      cases hg
      have rr : Row W 0 0 [.int .i64 430515, .int .i64 417754, .int .i64 405300, .int .i64 393149, .int .i64 381294, .int .i64 369731, .int .i64 358453, .int .i64 347455, .int .i64 336732, .int .i64 326279, .int .i64 316090, .int .i64 306161, .int .i64 296485, .int .i64 287058, .int .i64 277876, .int .i64 268933, .int .i64 260224, .int .i64 251746, .int .i64 243492, .int .i64 235459, .int .i64 227641, .int .i64 220036, .int .i64 212637, .int .i64 205441, .int .i64 198444, .int .i64 191640, .int .i64 185027, .int .i64 178600, .int .i64 172355, .int .i64 166288, .int .i64 160395, .int .i64 154672, .int .i64 149116, .int .i64 143723, .int .i64 138488, .int .i64 133409, .int .i64 128482, .int .i64 123703, .int .i64 119069, .int .i64 114577, .int .i64 110223, .int .i64 106004, .int .i64 101917, .int .i64 97958, .int .i64 94125, .int .i64 90414, .int .i64 86822] := r3
      refine ⟨.inr (.inr (.inr (.inl rfl))), _, ?_, rr⟩
      simp [tableA, VRs, VR]
    split at hg
    · rename_i e
      subst e
      cases hg
      have rr : Row W 4 0 [.int .i64 (-9223372036854775808), .int .u64 0] := r4
      refine ⟨.inr (.inr (.inr (.inr rfl))), _, ?_, rr⟩
      simp [VRs, VR]
    cases hg
  · rcases hr with rfl | rfl | rfl | rfl | rfl
    · exact r0.lt
    · exact r1.lt
    · exact r2.lt
    · exact r3.lt
    · exact r4.lt

noncomputable def lay (w : World) (g : Nat) (cs : Array Value) : World :=
  { w with heap := w.heap.modify g fun
      | .cells _ t frozen => .cells cs t frozen
      | o => o }
noncomputable def laidWorld (os : Os) : World :=
  lay (lay (lay (lay (World.holding Tryz.prog os ⟨#[], #[], []⟩) 2 #[.int .i64 0, .int .i64 1, .int .i64 2, .int .i64 1, .int .i64 3, .int .i64 4, .int .i64 2, .int .i64 4, .int .i64 5]) 3 #[.int .i64 32768, .int .i64 256, .int .i64 (-1), .int .i64 0, .int .i64 32768, .int .i64 (-256), .int .i64 0, .int .i64 0, .int .i64 32768]) 0 #[.int .i64 430515, .int .i64 417754, .int .i64 405300, .int .i64 393149, .int .i64 381294, .int .i64 369731, .int .i64 358453, .int .i64 347455, .int .i64 336732, .int .i64 326279, .int .i64 316090, .int .i64 306161, .int .i64 296485, .int .i64 287058, .int .i64 277876, .int .i64 268933, .int .i64 260224, .int .i64 251746, .int .i64 243492, .int .i64 235459, .int .i64 227641, .int .i64 220036, .int .i64 212637, .int .i64 205441, .int .i64 198444, .int .i64 191640, .int .i64 185027, .int .i64 178600, .int .i64 172355, .int .i64 166288, .int .i64 160395, .int .i64 154672, .int .i64 149116, .int .i64 143723, .int .i64 138488, .int .i64 133409, .int .i64 128482, .int .i64 123703, .int .i64 119069, .int .i64 114577, .int .i64 110223, .int .i64 106004, .int .i64 101917, .int .i64 97958, .int .i64 94125, .int .i64 90414, .int .i64 86822]) 4 #[.int .i64 (-9223372036854775808), .int .u64 0]
def cfV (c : Cf) : Value := .agg #[.int .i64 c.q.x, .int .i64 c.q.y, .int .i64 c.q.z, .int .i64 c.loose.x, .int .i64 c.loose.y, .int .i64 c.loose.z, .int .i64 c.r, .int .i64 c.rg, .int .i64 c.start.x, .int .i64 c.start.y, .int .i64 c.start.z, .int .i64 c.floor.x, .int .i64 c.floor.y, .int .i64 c.floor.z, .int .i64 c.ceil.x, .int .i64 c.ceil.y, .int .i64 c.ceil.z, .int .i64 c.bound.x, .int .i64 c.bound.y, .int .i64 c.bound.z, .int .i64 c.gate, .int .i64 c.table.x, .int .i64 c.table.y, .int .i64 c.table.z, .int .i64 c.scale, .int .i64 c.rest, .int .i64 c.clip, .int .i64 c.hold, .int .i64 c.coast, .int .i64 c.out, .int .i64 c.band]
theorem VR_cf {m : List Nat} {w : World} {im : Nat → Prop} (c : Cf) : VR m w im c.av (cfV c) := by
  simp only [Cf.av, cfV, VR]
  exact ⟨[.int .i64 c.q.x, .int .i64 c.q.y, .int .i64 c.q.z, .int .i64 c.loose.x, .int .i64 c.loose.y, .int .i64 c.loose.z, .int .i64 c.r, .int .i64 c.rg, .int .i64 c.start.x, .int .i64 c.start.y, .int .i64 c.start.z, .int .i64 c.floor.x, .int .i64 c.floor.y, .int .i64 c.floor.z, .int .i64 c.ceil.x, .int .i64 c.ceil.y, .int .i64 c.ceil.z, .int .i64 c.bound.x, .int .i64 c.bound.y, .int .i64 c.bound.z, .int .i64 c.gate, .int .i64 c.table.x, .int .i64 c.table.y, .int .i64 c.table.z, .int .i64 c.scale, .int .i64 c.rest, .int .i64 c.clip, .int .i64 c.hold, .int .i64 c.coast, .int .i64 c.out, .int .i64 c.band], rfl, by simp [Cf.cells, VRs, VR]⟩
theorem valCf {v : Value} (h : ValOk Tryz.prog 25 (List.replicate 31 (.int .i64)) v) : ∃ c : Cf, v = cfV c ∧ c.In64 := by
  rcases h with ⟨_, cs, rfl, hk⟩ | ⟨h1, _⟩
  · obtain ⟨zs, hl, hz, hin⟩ := ints_of 31 _ hk
    rcases zs with _ | ⟨z0, zs⟩
    · simp at hl
    rcases zs with _ | ⟨z1, zs⟩
    · simp at hl
    rcases zs with _ | ⟨z2, zs⟩
    · simp at hl
    rcases zs with _ | ⟨z3, zs⟩
    · simp at hl
    rcases zs with _ | ⟨z4, zs⟩
    · simp at hl
    rcases zs with _ | ⟨z5, zs⟩
    · simp at hl
    rcases zs with _ | ⟨z6, zs⟩
    · simp at hl
    rcases zs with _ | ⟨z7, zs⟩
    · simp at hl
    rcases zs with _ | ⟨z8, zs⟩
    · simp at hl
    rcases zs with _ | ⟨z9, zs⟩
    · simp at hl
    rcases zs with _ | ⟨z10, zs⟩
    · simp at hl
    rcases zs with _ | ⟨z11, zs⟩
    · simp at hl
    rcases zs with _ | ⟨z12, zs⟩
    · simp at hl
    rcases zs with _ | ⟨z13, zs⟩
    · simp at hl
    rcases zs with _ | ⟨z14, zs⟩
    · simp at hl
    rcases zs with _ | ⟨z15, zs⟩
    · simp at hl
    rcases zs with _ | ⟨z16, zs⟩
    · simp at hl
    rcases zs with _ | ⟨z17, zs⟩
    · simp at hl
    rcases zs with _ | ⟨z18, zs⟩
    · simp at hl
    rcases zs with _ | ⟨z19, zs⟩
    · simp at hl
    rcases zs with _ | ⟨z20, zs⟩
    · simp at hl
    rcases zs with _ | ⟨z21, zs⟩
    · simp at hl
    rcases zs with _ | ⟨z22, zs⟩
    · simp at hl
    rcases zs with _ | ⟨z23, zs⟩
    · simp at hl
    rcases zs with _ | ⟨z24, zs⟩
    · simp at hl
    rcases zs with _ | ⟨z25, zs⟩
    · simp at hl
    rcases zs with _ | ⟨z26, zs⟩
    · simp at hl
    rcases zs with _ | ⟨z27, zs⟩
    · simp at hl
    rcases zs with _ | ⟨z28, zs⟩
    · simp at hl
    rcases zs with _ | ⟨z29, zs⟩
    · simp at hl
    rcases zs with _ | ⟨z30, zs⟩
    · simp at hl
    rcases zs with _ | ⟨z31, zs⟩
    rotate_left
    · simp at hl
    have hh : ∀ z ∈ [z0, z1, z2, z3, z4, z5, z6, z7, z8, z9, z10, z11, z12, z13, z14, z15, z16, z17, z18, z19, z20, z21, z22, z23, z24, z25, z26, z27, z28, z29, z30], In64 z := hin
    simp only [List.mem_cons, forall_eq_or_imp, List.not_mem_nil, false_imp_iff, implies_true, and_true] at hh
    obtain ⟨w0, w1, w2, w3, w4, w5, w6, w7, w8, w9, w10, w11, w12, w13, w14, w15, w16, w17, w18, w19, w20, w21, w22, w23, w24, w25, w26, w27, w28, w29, w30⟩ := hh
    refine ⟨⟨⟨z0, z1, z2⟩, ⟨z3, z4, z5⟩, z6, z7, ⟨z8, z9, z10⟩, ⟨z11, z12, z13⟩, ⟨z14, z15, z16⟩, ⟨z17, z18, z19⟩, z20, ⟨z21, z22, z23⟩, z24, z25, z26, z27, z28, z29, z30⟩, ?_, ⟨⟨w0, w1, w2⟩, ⟨w3, w4, w5⟩, w6, w7, ⟨w8, w9, w10⟩, ⟨w11, w12, w13⟩, ⟨w14, w15, w16⟩, ⟨w17, w18, w19⟩, w20, ⟨w21, w22, w23⟩, w24, w25, w26, w27, w28, w29, w30⟩⟩
    exact congrArg Value.agg (arr_of_list hz)
  · rw [show tAgg Tryz.prog 25 = some true by kernel_rfl] at h1; cases h1
theorem laidOut' : laidOutB Tryz.prog = true := by kernel_rfl
/-- A slice of ticks: what it stands for. -/
theorem ticks_arg {W : World} {rr : Reach} {b0 : Nat} {H : Type} {enc : TypeId × Value → H} {v : Value} {d : DataW H} {p : List MemPlace} (hv : Value.okWide Tryz.prog W rr b0 62 v) (h : DataW.Trod enc Tryz.prog W 0 (fun _ => true) true 62 v d p) :
    ∃ ts : List Tk, ∃ im : Nat → Prop, (∀ r, im r → r < W.heap.size) ∧ ∀ im' : Nat → Prop, (∀ r, im r → im' r) → VR [] W im' (.islice ts.length (tkC ts)) v := by
  rcases slice_open undT kT (by kernel_rfl) hv h with rfl | ⟨r, off, len, cap, us, rfl, hl, h1, h2, h3, h4⟩
  · exact ⟨[], fun _ => False, fun _ h => h.elim, fun im' _ => by simp only [VR]; refine .inl ⟨?_, ?_, ?_⟩ <;> first | rfl | trivial | simp [tkC]⟩
  · obtain ⟨ts, g1, g2⟩ := ticks_of len us h2
    subst g1
    refine ⟨ts, (· = r), fun q e => by rw [e]; exact h4, fun im' hi => ?_⟩
    simp only [VR]
    exact .inr ⟨r, off, cap, us, ⟨hi r rfl, hl⟩, rfl, g2 _ _ _, h3⟩
theorem ticks_stay {W W' : World} {H : Type} {enc : TypeId × Value → H} {v : Value} {d : DataW H} {p : List MemPlace} (h : DataW.Trod enc Tryz.prog W 0 (fun _ => true) true 62 v d p) (hw : Kept W W') (hlt : ∀ x ∈ p, x.block < W.heap.size) {sp' : Nat → Bool} (hs : ∀ x ∈ p, sp' x.block = true) :
    DataW.Trod enc Tryz.prog W' 0 sp' true 62 v d p := by
  refine WideElems.Trod_stays laidOut' (by kernel_rfl) (of_decide_eq_true (by kernel_rfl)) h (fun x hx => ?_) hs
  have := hw.2.2.2 x.block (hlt x hx)
  cases x with
  | cell b off =>
    show World.cell? _ _ = World.cell? _ _
    unfold World.cell?
    rw [show W'.heap[b]? = W.heap[b]? from this]
  | map b => exact this
end Go.Proofs.YtakcibjjfkgadaaGreatDoor
/- The law ChannelNone: for all inputs it answers true (row and card). -/
set_option linter.unusedSimpArgs false
set_option linter.unusedVariables false
set_option maxRecDepth 100000
namespace Go.Proofs.YtakcibjjfkgadaaGreatDoor
open Go Go.Ev Go.ChangeShapes Go.WideShapes Go.RowKit

theorem channelNone_laid (os : Os) (args : Array Value) : laidMetH Tryz.prog Rows.channelNoneRow.laid ((laidWorld os).forCall (fun _ _ => 0) ⟨#[], args, []⟩).memory :=
  laidMetH_of_parts (laidMet_of_run' 8 (by kernel_rfl) (by kernel_rfl)) (by kernel_rfl)

theorem channelNone_lifted (os : Os) (started : os.Started) (H : Type) (enc : TypeId × Value → H) :
    ReturnsInHanded {} Tryz.checked os 7 .any (fun w args => (Rows.channelNoneSpec.pre enc Tryz.prog Tryz.f7 Rows.channelNoneRow.domain Rows.channelNoneRow.apart w args ∧ laidMetH Tryz.prog Rows.channelNoneRow.laid w) ∧ sizedMet enc Tryz.prog Tryz.f7 (OpenSpec.ofChange Rows.channelNoneSpec) Rows.channelNoneRow.apart w args)
      (Rows.channelNoneSpec.post enc Tryz.prog Tryz.f7 Rows.channelNoneRow.apart Rows.channelNoneRow.fresh Rows.channelNoneRow.handsOn Rows.channelNoneRow.again) := by
  refine returnsInHanded_of_change_and (C := Tryz.checked) (X := fun w _ => laidMetH Tryz.prog Rows.channelNoneRow.laid w) (fun _ _ _ hh h => h.of_heap hh) own started (by kernel_rfl) Tryz.func7
    (ChangeSpec.witness_at (enc := enc) (C := Tryz.checked) (os := os) (X := fun w _ => laidMetH Tryz.prog Rows.channelNoneRow.laid w) false (laidWorld os) #[.agg #[.int .i64 0, .int .i64 0, .int .i64 0, .int .i64 0, .int .i64 0, .int .i64 0, .int .i64 0, .int .i64 0, .int .i64 0, .int .i64 0, .int .i64 0, .int .i64 0, .int .i64 0, .int .i64 0, .int .i64 0, .int .i64 0, .int .i64 0, .int .i64 0, .int .i64 0, .int .i64 0, .int .i64 0, .int .i64 0, .int .i64 0, .int .i64 0, .int .i64 0, .int .i64 0, .int .i64 0, .int .i64 0, .int .i64 0, .int .i64 0, .int .i64 0], .slice none 0 0] 8 rfl (by kernel_rfl) (by kernel_rfl) (by kernel_rfl) (by kernel_rfl) (by kernel_rfl) (channelNone_laid os _)) ?_
  intro W base args ds gs before hval0 hW _ _ hL _
  have hval : ∀ (j : Nat) t v, Tryz.f7.params[j]? = some t → args[j]? = some v → Value.okWide Tryz.prog W .any base t v := hval0
  have hW' := hW
  have hlt := hW.lt
  obtain ⟨p, q, hA0, hV0, rfl, hfz, hnd⟩ := hW
  have hA : DataW.TrodAll enc Tryz.prog W 0 (fun _ => true) true Tryz.f7.params.toList args.toList ds p := hA0
  have hV : DataW.TrodVars enc Tryz.prog W (fun _ => true) [] gs q := hV0
  rw [Tryz.params7] at hA hval
  obtain ⟨v0, v1, d0, d1, p0, p1, rfl, rfl, rfl, h0, h1⟩ := trodAll_two hA
  obtain ⟨o0, rfl, s0⟩ := valOk_of kC (hval 0 _ v0 rfl rfl) h0
  obtain ⟨c, rfl, hcI⟩ := valCf o0
  obtain ⟨ts, im1, him1, hts⟩ := ticks_arg (hval 1 _ v1 rfl rfl) h1
  obtain ⟨rfl, rfl⟩ := trodVars_none hV
  have hL' : laidMet Tryz.prog Rows.channelNoneRow.laid W := by
    have := hL
    rw [MakeChecks.laidMetH_plain _ _ _ (by kernel_rfl)] at this
    exact this
  obtain ⟨hG, him⟩ := gokD hL' (by simp [Rows.channelNoneRow]) (by simp [Rows.channelNoneRow]) (by simp [Rows.channelNoneRow]) (by simp [Rows.channelNoneRow]) (by simp [Rows.channelNoneRow])
  have hG2 : GOK GD W (fun r => imD r ∨ im1 r) := GOK.more hG fun r h => .inl h
  refine ((V_ChannelNone c ts hcI).law (vs := [cfV c, v1]) (by kernel_rfl) hG2 (fun r hr => hr.elim (him r) (him1 r)) (by simp only [VRs]; exact ⟨VR_cf c, hts _ fun r h => .inr h, trivial⟩)).mono fun e W' ⟨he, hw⟩ => ?_
  subst he
  have hp1 : ∀ x ∈ p1, x.block < W.heap.size := fun x hx => hlt x (by simp [hx])
  refine ⟨_, rfl, _, _, _, [], [] ++ p1, [], hW', ?_, ?_, ?_, hw.but _, fun h => by cases h⟩
  · exact trodAll_mk1 (shut_bool Tryz.underlying4 true)
  · exact trodAll_mk2 (s0 _ _) (ticks_stay h1 hw hp1 (fun x hx => by simpa using hp1 x hx))
  · rfl

theorem channelNone_holds : Rows.ChannelNoneSaid :=
  OpenClaim.holds_of_wide 7 Tryz.f7 rfl rfl rfl rfl rfl rfl rfl ⟨rfl, rfl, rfl, rfl, rfl⟩ rfl rfl rfl rfl rfl (by kernel_rfl) Tryz.func7 (by kernel_rfl)
    (of_decide_eq_true (by kernel_rfl)) (by unfold Func.isWrapper; rw [if_neg (of_decide_eq_false (by kernel_rfl))]; exact ⟨rfl, rfl⟩)
    (fun os started H enc _ => channelNone_lifted os started H enc)

theorem channelNone_card : Rows.ChannelNoneCardSaid :=
  Claim7.holds_tied_plain_at .later [] [.data, .data, .data, .widerDeep, .data] true Rows.channelNoneCard.stood.harness false
    channelNone_holds (fun _ h => by cases h) (by kernel_rfl) (fun _ h => by cases h) channelNone_row_tie rfl ⟨rfl, rfl⟩ (by kernel_rfl) rfl
    (fun f fn hf hfn => by
      obtain rfl : f = 7 := Option.some.inj ((show Tryz.prog.funcNamed "aneroid/aneroidlaw20.ChannelNone" = some 7 by kernel_rfl).symm.trans hf) |>.symm
      obtain rfl : fn = Tryz.f7 := (Option.some.inj (Tryz.func7.symm.trans hfn)).symm
      exact ⟨by kernel_rfl, fun j t ht => by
        rw [Tryz.params7] at ht
        have h3 : t = 25 ∨ t = 62 := by
          rcases j with _ | _ | j
          · exact .inl (by simpa using ht.symm)
          · exact .inr (by simpa using ht.symm)
          · simp at ht
        rcases h3 with rfl | rfl
        · exact (show Tryz.prog.wantsStandIn 25 = false by kernel_rfl)
        · exact (show Tryz.prog.wantsStandIn 62 = false by kernel_rfl)
      ⟩)
    (by kernel_rfl)
#print axioms channelNone_card
end Go.Proofs.YtakcibjjfkgadaaGreatDoor
