/- Regions that draw their order: one order serves for all, where the others only swap what may be swapped. -/
import Derived.Test.YtakcibjjfkgadaaGreatDoorEvT
import Derived.OrdersIn
set_option linter.unusedVariables false
set_option linter.unusedSimpArgs false
namespace Go.Ev

/-- What an operation does: nothing, or what it asks for. -/
inductive Eff where
  | und
  | req (q : Req)
  | oth (op : Op) (xs : List AV)

/-- Of no kind of its own. -/
def othO : Op → Bool
  | .move _ | .assign _ | .pick .. | .build .. | .nilCheck _ | .binOp .. | .unOp .. | .convert .. | .makeFunc .. | .fieldAddr .. | .field .. | .indexAddr .. | .index .. | .slice .. | .extract .. => false
  | .load .. | .store .. | .alloc _ | .box .. | .buildSlice .. => false
  | .call c => match c.callee with
    | .builtin .len | .builtin .max | .builtin .min => false
    | .value (.func _) => false
    | _ => true
  | _ => true
def effQ (op : Op) (xs : List AV) : Req → Eff
  | .bad => match othO op with
    | true => .oth op xs
    | false => .req .bad
  | q => .req q

section
variable (P : Program) (G : Glob) (vf : List FuncId) (Kt : FuncId → List AV → AV → Prop)

/-- Listed as one that only looks at the memory, and maybe adds to it. -/
def rdF (vf : List FuncId) (f : FuncId) : Bool := vf.contains (f + 1000000)
/-- Listed as one that only looks at the memory, adds nothing, and yields the same however much lies behind it. -/
def stF (vf : List FuncId) (f : FuncId) : Bool := vf.contains (f + 2000000)
def Still (P : Program) (G : Glob) (f : FuncId) (args : List AV) (h : List Blk) (Rc : AO → List Blk → Prop) : Prop :=
  ∃ u, (∀ ao h', Rc ao h' ↔ ao = .ret u ∧ h' = h) ∧ ∀ ext, HSem P G f args (h ++ ext) fun ao h' => ao = .ret u ∧ h' = h ++ ext

def eff (all : List Oper) (o : Oper) (t : List AV) : Eff :=
  match guardA all t o.guard with
  | none => .req .bad
  | some true => effQ o.op (mapA (evO G t) o.op.operands.toList) (reqOf P (evO G t) o.op)
  | some false => .und

def AEx (dst : Option Tmp) (st : St) (K : St → Prop) : Eff → Prop
  | .und => K ⟨putT st.tmps dst (.raw undef), st.heap, st.dfs⟩
  | .req (.call f args) => (vf.contains f = true → mfrees args = true ∧ VSem P G f args (Kt f args) ∧ (∃ v, Kt f args v) ∧ ∀ v, Kt f args v → K ⟨putT st.tmps dst v, st.heap, st.dfs⟩) ∧
      (vf.contains f = false → ∃ Rc, HSem P G f args st.heap Rc ∧ (rdF vf f = true → (∃ ao h', Rc ao h') ∧ ∀ ao h', Rc ao h' → ∃ ext, h' = st.heap ++ ext) ∧ (stF vf f = true → Still P G f args st.heap Rc) ∧ ∀ ao h', Rc ao h' → ∃ v, ao = .ret v ∧ K ⟨putT st.tmps dst v, h', st.dfs⟩)
  | .req q => ∃ v h', doReq q st.heap = some (true, v, h') ∧ K ⟨putT st.tmps dst v, h', st.dfs⟩
  | .oth op xs => ∃ Rc, OpSem P G op xs st.heap Rc ∧ ∀ ao h', Rc ao h' → ∃ v, ao = .ret v ∧ K ⟨putT st.tmps dst v, h', st.dfs⟩

def AStep (all : List Oper) (i : Nat) (st : St) (K : St → Prop) : Prop :=
  match all.toArray[i]? with
  | none => K st
  | some o => AEx P G vf Kt o.dst st K (eff P G all o st.tmps)

def AbsAny (all : List Oper) (F : St → Prop) : Nat → Array Bool → St → Prop
  | 0, listed, st => Region.ready .any all.toArray listed = [] ∧ F st
  | n + 1, listed, st => (Region.ready .any all.toArray listed = [] → F st) ∧
      ∀ i ∈ Region.ready .any all.toArray listed, AStep P G vf Kt all i st (AbsAny all F n (listed.setIfInBounds i true))
end

section
variable {r : Option Nat} {P : Program} {G : Glob} {vf : List FuncId} {Kt : FuncId → List AV → AV → Prop} {n0 : Nat}

theorem AEx.mono {dst : Option Tmp} {st : St} {K K' : St → Prop} {E : Eff} (h : AEx P G vf Kt dst st K E) (hk : ∀ s, (∃ v, s.tmps = putT st.tmps dst v) → K s → K' s) : AEx P G vf Kt dst st K' E := by
  cases E with
  | und => exact hk _ ⟨_, rfl⟩ h
  | oth op xs =>
    obtain ⟨Rc, h1, h2⟩ := h
    exact ⟨Rc, h1, fun ao h' hr => by obtain ⟨v, e, hv⟩ := h2 ao h' hr; exact ⟨v, e, hk _ ⟨v, rfl⟩ hv⟩⟩
  | req q =>
    cases q with
    | call f args =>
      refine ⟨fun hc => ?_, fun hc => ?_⟩
      · obtain ⟨h1, h2, h3, h4⟩ := h.1 hc
        exact ⟨h1, h2, h3, fun v hv => hk _ ⟨v, rfl⟩ (h4 v hv)⟩
      · obtain ⟨Rc, h1, h3, h4, h2⟩ := h.2 hc
        exact ⟨Rc, h1, h3, h4, fun ao h' hr => by obtain ⟨v, e, hv⟩ := h2 ao h' hr; exact ⟨v, e, hk _ ⟨v, rfl⟩ hv⟩⟩
    | val c v => obtain ⟨v, h', e, hh⟩ := h; exact ⟨v, h', e, hk _ ⟨v, rfl⟩ hh⟩
    | rd b off n g => obtain ⟨v, h', e, hh⟩ := h; exact ⟨v, h', e, hk _ ⟨v, rfl⟩ hh⟩
    | wr b off cs => obtain ⟨v, h', e, hh⟩ := h; exact ⟨v, h', e, hk _ ⟨v, rfl⟩ hh⟩
    | push cs e sl => obtain ⟨v, h', e, hh⟩ := h; exact ⟨v, h', e, hk _ ⟨v, rfl⟩ hh⟩
    | bad => obtain ⟨v, h', e, hh⟩ := h; exact ⟨v, h', e, hk _ ⟨v, rfl⟩ hh⟩

/-- One operation: what it does on the machine. -/
theorem ax_sound {all : List Oper} {o : Oper} {st : St} {K : St → Prop} (hx : AEx P G vf Kt o.dst st K (eff P G all o st.tmps))
    {m : List Nat} {im : Nat → Prop} {a : Act} {w : World} {Next : Act → World → Prop} {Q : Exit → Act → World → Prop} (h : SR G m im st a w) (hn : n0 ≤ m.length)
    (hN : ∀ st' m' im' a' w', K st' → SR G m' im' st' a' w' → n0 ≤ m'.length → Ext n0 m im w m' im' w' → Next a' w') :
    if Region.wanted o (yielded all.toArray a.tmps) then o.wpIn (wideR r) 0 P a w Next Q else Next (a.put o.dst undef) w := by
  obtain ⟨us, h1, h2⟩ := h.tm
  have he : ∀ x, VR m w im (evO G st.tmps x) (a.eval x) := fun x => evO_sound h.hp h1 h2 x
  unfold eff at hx
  split at hx
  · obtain ⟨v, h', e, _⟩ := hx; simp [doReq] at e
  · -- it is carried out
    rename_i hg
    have hw : Region.wanted o (yielded all.toArray a.tmps) = true := by
      cases hgo : o.guard with
      | none => simp [Region.wanted, hgo]
      | some g =>
        obtain ⟨j, want⟩ := g
        rw [hgo] at hg
        have hy := yielded_of h1 hg
        simp only [Region.wanted, hgo, h2]
        exact hy
    rw [if_pos hw]
    cases hq : reqOf P (evO G st.tmps) o.op with
    | call f args =>
      rw [hq] at hx
      obtain ⟨c, x, cap, ho, hxc, hf, rfl⟩ := call_req hq
      have hxv := he x
      rw [hf] at hxv
      simp only [VR] at hxv
      obtain ⟨cs, hxe, hcs⟩ := hxv
      have hargs : VRs m w im (mapA (evO G st.tmps) c.args.toList ++ cap) (c.args.toList.map a.eval ++ cs) := (mapA_sound he _).append hcs
      have hH : ∃ Rc, HSem P G f (mapA (evO G st.tmps) c.args.toList ++ cap) st.heap Rc ∧ ∀ ao h', Rc ao h' → ∃ v, ao = .ret v ∧ K ⟨putT st.tmps o.dst v, h', st.dfs⟩ := by
        cases hv : vf.contains f with
        | true =>
          obtain ⟨g1, g2, _, g4⟩ := hx.1 hv
          exact ⟨_, g2.call g1 st.heap, fun ao h' ⟨e1, v, e2, hv, _⟩ => ⟨v, e2, by rw [e1]; exact g4 v hv⟩⟩
        | false => obtain ⟨Rc, q1, _, _, q2⟩ := hx.2 hv; exact ⟨Rc, q1, q2⟩
      obtain ⟨Rc, hsem, hk⟩ := hH
      have hC := hsem m im w _ h.hp hargs
      refine ⟨fun _ _ => trivial, ?_⟩
      rw [Oper.semAt_eq _ _ _ (by rw [ho]; intro _ h; cases h)]
      have hrun : (execOp a.eval o).run P w = (callFunc f (c.args.toList.map a.eval ++ cs).toArray).run P w := by
        obtain ⟨dst, op, ty, pos, after, guard⟩ := o
        simp only at ho
        subst ho
        obtain ⟨callee, as, tys⟩ := c
        simp only at hxc
        subst hxc
        unfold execOp
        dsimp only
        simp only [resolve, hxe, Deferred.ofValue, Sem.run_bind, Sem.run_pure, Result.andThen_ok, invoke]
        congr 2
        apply Array.ext'
        simp
      rw [hrun]
      have go : ∀ (e : Ending) (w' : World), (∃ ao m' im' h', Rc ao h' ∧ HR G m' im' h' w' ∧ Ext m.length m im w m' im' w' ∧ m.length ≤ m'.length ∧
          match ao with
          | .ret v => ∃ r, e = .returned r ∧ VR m' w' im' v r
          | .pan v => e = .panicked [{ v, recovered := false }]) → (match e with
        | .returned v => Next (a.put o.dst v) w'
        | .panicked chain => Q (.panic chain) a w'
        | .outgrown => LetsOut Q) := by
        rintro e w' ⟨ao, m', im', h', hR, hH, hE, hl, hao⟩
        have st' : Stay m w im m' w' im' := ⟨fun b r hb => hE.pre b r (by
            rcases Nat.lt_or_ge b m.length with h' | h'
            · exact h'
            · rw [List.getElem?_eq_none h'] at hb; cases hb) hb, fun r hr => ⟨hE.imm r hr, hE.keep r (h.hp.imx r hr).1 (h.hp.imx r hr).2⟩⟩
        obtain ⟨v, rfl, hkv⟩ := hk ao h' hR
        obtain ⟨r, rfl, hv⟩ := hao
        exact hN _ m' im' _ w' hkv (h.put st' hH hv o.dst) (Nat.le_trans hn hl) (hE.less hn)
      rcases hC with ⟨hcall, hC⟩ | ⟨u, hr, hR⟩
      · rw [run_callFunc hcall, Oper.uponIn_enter]
        refine ⟨fun h => (by cases h), callsIn_R (hC.mono fun e w' h => ?_)⟩
        have := go e w' h
        cases e <;> exact this
      · rw [hr, Oper.uponIn_value]
        exact go _ _ hR
    | val c v => rw [hq] at hx; obtain ⟨v', h', e, hK⟩ := hx; exact fin h hn he hN (hq ▸ e) hK
    | rd b off n g => rw [hq] at hx; obtain ⟨v', h', e, hK⟩ := hx; exact fin h hn he hN (hq ▸ e) hK
    | wr b off cs => rw [hq] at hx; obtain ⟨v', h', e, hK⟩ := hx; exact fin h hn he hN (hq ▸ e) hK
    | push cs el sl => rw [hq] at hx; obtain ⟨v', h', e, hK⟩ := hx; exact fin h hn he hN (hq ▸ e) hK
    | bad =>
      rw [hq] at hx
      simp only [effQ] at hx
      split at hx
      · obtain ⟨Rc, ho, hk⟩ := hx
        refine ho r n0 o m im a w Next Q rfl hn h.hp (mapA_sound he _) fun ao m' im' h' w' hR hH hst hE hl => ?_
        obtain ⟨v, rfl, hK⟩ := hk ao h' hR
        exact fun u hu => hN _ m' im' _ w' hK (h.put hst hH hu o.dst) hl hE
      · obtain ⟨v', h', e, hK⟩ := hx; simp [doReq] at e
  · rename_i hg
    have hw : Region.wanted o (yielded all.toArray a.tmps) = false := by
      cases hgo : o.guard with
      | none => rw [hgo] at hg; simp [guardA] at hg
      | some g =>
        obtain ⟨j, want⟩ := g
        rw [hgo] at hg
        have hy := yielded_of h1 hg
        simp only [Region.wanted, hgo, h2]
        exact hy
    rw [if_neg (by rw [hw]; simp)]
    exact hN _ m im _ w hx (h.put (Stay.refl _ _ _) h.hp VR_raw o.dst) hn (Ext.refl _ _ _ _)
where
  fin {o : Oper} {st : St} {K : St → Prop} {m : List Nat} {im : Nat → Prop} {a : Act} {w : World} {Next : Act → World → Prop} {Q : Exit → Act → World → Prop} (h : SR G m im st a w) (hn : n0 ≤ m.length)
    (he : ∀ x, VR m w im (evO G st.tmps x) (a.eval x))
    (hN : ∀ st' m' im' a' w', K st' → SR G m' im' st' a' w' → n0 ≤ m'.length → Ext n0 m im w m' im' w' → Next a' w') {v : AV} {h' : List Blk}
    (hd : doReq (reqOf P (evO G st.tmps) o.op) st.heap = some (true, v, h')) (hK : K ⟨putT st.tmps o.dst v, h', st.dfs⟩) : o.wpIn (wideR r) 0 P a w Next Q := by
    obtain ⟨m', w', nx, u, hrun, hnx, hv, hH, hst, hE⟩ := req_sound hn h.hp he hd rfl
    have hlen : n0 ≤ m'.length := by
      rcases Nat.lt_or_ge m'.length n0 with hlt | hge
      · have := hE.pre m'.length (m[m'.length]'(by omega)) hlt (List.getElem?_eq_getElem (by omega))
        simp at this
      · exact hge
    have hC := hN _ m' im (a.put o.dst u) w' hK (h.put hst hH hv o.dst) hlen hE
    refine ⟨fun _ _ => trivial, ?_⟩
    rw [Oper.semAt_eq _ _ _ (by
      intro c hc
      have : reqOf P (evO G st.tmps) o.op = .bad := by rw [hc]; simp [reqOf]
      rw [this] at hd
      cases hd)]
    rw [hrun]
    rcases hnx with rfl | ⟨rfl, rfl⟩
    · exact hC
    · exact hC

theorem abs_sound {all : List Oper} {F : St → Prop} {Q : Exit → Act → World → Prop} : ∀ (n : Nat) (listed : Array Bool) (st : St), AbsAny P G vf Kt all F n listed st →
    ∀ (m : List Nat) (im : Nat → Prop) (a : Act) (w : World), SR G m im st a w → n0 ≤ m.length →
    (∀ st' m' im' a' w', F st' → SR G m' im' st' a' w' → n0 ≤ m'.length → Ext n0 m im w m' im' w' → Q .normal a' w') → wpAnyIn (wideR r) 0 P .any all.toArray Q n listed a w
  | 0, listed, st, h, m, im, a, w, hs, hn, hF => ⟨h.1, hF st m im a w h.2 hs hn (Ext.refl _ _ _ _)⟩
  | n + 1, listed, st, h, m, im, a, w, hs, hn, hF => by
    refine ⟨fun h0 => hF st m im a w (h.1 h0) hs hn (Ext.refl _ _ _ _), fun i hi => ?_⟩
    have h1 := h.2 i hi
    unfold AStep at h1
    unfold wpOpIn
    split
    · rename_i ho
      rw [ho] at h1
      exact abs_sound n _ st h1 m im a w hs hn hF
    · rename_i o ho
      rw [ho] at h1
      have := ax_sound (r := r) (n0 := n0) (Q := Q) (Next := wpAnyIn (wideR r) 0 P .any all.toArray Q n (listed.setIfInBounds i true)) h1 hs hn fun st' m' im' a' w' hK hs' hn' hE =>
        abs_sound n _ st' hK m' im' a' w' hs' hn' fun st2 m2 im2 a2 w2 hf2 hs2 hn2 hE2 => hF st2 m2 im2 a2 w2 hf2 hs2 hn2 (hE.trans hE2)
      split
      · rename_i hw
        rw [if_pos hw] at this
        exact this
      · rename_i hw
        rw [if_neg hw] at this
        exact ⟨fun _ _ => trivial, this⟩

/-! ### What may be swapped -/

/-- A first effect that may stand behind a second one. -/
def swapOK (vf : List FuncId) : Eff → Eff → Prop
  | .und, _ => True
  | .req (.val _ _), _ => True
  | .req .bad, _ => True
  | .oth _ _, _ => False
  | .req (.rd _ _ _ _), .oth _ _ => False
  | .req (.call _ _), .oth _ _ => False
  | .req (.rd b _ _ _), .req (.wr b' _ _) => b ≠ b'
  | .req (.rd _ _ _ _), .req (.call f _) => vf.contains f = true ∨ rdF vf f = true
  | .req (.rd _ _ _ _), _ => True
  | .req (.call f _), .req (.call f' _) => (vf.contains f = true ∨ rdF vf f = true) ∧ vf.contains f' = true
  | .req (.call f _), .req (.rd _ _ _ _) => vf.contains f = true ∨ rdF vf f = true ∧ stF vf f = true
  | .req (.call f _), .req (.wr _ _ _) => vf.contains f = true
  | .req (.call f _), .req (.push _ _ _) => vf.contains f = true ∨ rdF vf f = true ∧ stF vf f = true
  | .req (.call f _), _ => vf.contains f = true ∨ rdF vf f = true
  | .req (.wr _ _ _), _ => False
  | .req (.push _ _ _), _ => False

theorem putT_comm {t : List AV} {d1 d2 : Option Tmp} (h : ∀ x, d1 = some x → d2 ≠ some x) (v1 v2 : AV) : putT (putT t d1 v1) d2 v2 = putT (putT t d2 v2) d1 v1 := by
  cases d1 <;> cases d2 <;> simp only [putT]
  rename_i a b
  rw [lset_eq, lset_eq, lset_eq, lset_eq]
  exact List.set_comm _ _ (fun e => h a rfl (by rw [e]))

theorem doReq_val {q : Req} {h : List Blk} {v : AV} {h' : List Blk} (hd : doReq q h = some (true, v, h')) : (∃ c, q = .val c v ∧ c = true ∧ h' = h) ∨ (∃ b off n g, q = .rd b off n g ∧ h' = h) ∨ (∃ b off cs, q = .wr b off cs) ∨ ∃ cs e sl, q = .push cs e sl := by
  cases q with
  | val c v0 => simp [doReq] at hd; exact .inl ⟨c, by rw [hd.2.1], hd.1, hd.2.2.symm⟩
  | rd b off n g =>
    refine .inr (.inl ⟨b, off, n, g, rfl, ?_⟩)
    simp only [doReq] at hd
    split at hd
    · split at hd <;> simp at hd <;> exact hd.2.2.symm
    · cases hd
  | wr b off cs => exact .inr (.inr (.inl ⟨b, off, cs, rfl⟩))
  | push cs e sl => exact .inr (.inr (.inr ⟨cs, e, sl, rfl⟩))
  | call f a => simp [doReq] at hd
  | bad => simp [doReq] at hd

theorem rd_wr {b off n b' off' : Nat} {g : Bool} {cs : List AV} {h h' : List Blk} {v u : AV} (hne : b ≠ b') (h1 : doReq (.rd b off n g) h = some (true, v, h)) (h2 : doReq (.wr b' off' cs) h = some (true, u, h')) :
    doReq (.rd b off n g) h' = some (true, v, h') := by
  simp only [doReq] at h1 h2 ⊢
  split at h2
  · rename_i k hk
    simp only [Option.some.injEq, Prod.mk.injEq] at h2
    obtain ⟨_, _, e⟩ := h2
    subst e
    rw [bget_eq, bset_eq, List.getElem?_set_ne (Ne.symm hne), ← bget_eq]
    split at h1
    · rename_i k' hk'
      cases g <;> simp at h1 ⊢ <;> exact ⟨h1.1, h1.2⟩
    · cases h1
  · cases h2

theorem rd_push {b off n : Nat} {g : Bool} {cs : List AV} {e : TypeId} {sl : Option Nat} {h h' : List Blk} {v u : AV} (h1 : doReq (.rd b off n g) h = some (true, v, h)) (h2 : doReq (.push cs e sl) h = some (true, u, h')) :
    doReq (.rd b off n g) h' = some (true, v, h') := by
  have hh : h' = h ++ [⟨cs, e⟩] := by
    simp only [doReq] at h2
    split at h2 <;> simp at h2 <;> exact h2.2.symm
  subst hh
  simp only [doReq] at h1 ⊢
  split at h1
  · rename_i k hk
    have hlt : b < h.length := by
      rw [bget_eq] at hk
      rcases Nat.lt_or_ge b h.length with h' | h'
      · exact h'
      · rw [List.getElem?_eq_none h'] at hk; cases hk
    rw [bget_eq, List.getElem?_append_left hlt, ← bget_eq, hk]
    cases g <;> simp at h1 ⊢ <;> exact ⟨h1.1, h1.2⟩
  · cases h1

theorem rd_app {b off n : Nat} {g : Bool} {h ext : List Blk} {v : AV} (h1 : doReq (.rd b off n g) h = some (true, v, h)) : doReq (.rd b off n g) (h ++ ext) = some (true, v, h ++ ext) := by
  simp only [doReq] at h1 ⊢
  split at h1
  · rename_i k hk
    have hlt : b < h.length := by
      rw [bget_eq] at hk
      rcases Nat.lt_or_ge b h.length with h' | h'
      · exact h'
      · rw [List.getElem?_eq_none h'] at hk; cases hk
    rw [bget_eq, List.getElem?_append_left hlt, ← bget_eq, hk]
    cases g <;> simp at h1 ⊢ <;> exact ⟨h1.1, h1.2⟩
  · cases h1

theorem push_app {cs : List AV} {e : TypeId} {sl : Option Nat} {h h' : List Blk} {u : AV} (h2 : doReq (.push cs e sl) h = some (true, u, h')) : ∃ blk, h' = h ++ [blk] := by
  simp only [doReq] at h2
  first
    | (cases h2; exact ⟨_, rfl⟩)
    | (split at h2 <;> (cases h2; exact ⟨_, rfl⟩))
    | (simp at h2; exact ⟨_, h2.2.2.symm⟩)
    | (simp at h2; exact ⟨_, h2.2.symm⟩)
/-- The second one first: where the first one leaves the memory alone and yields the same behind it. -/
theorem ax_swap {E1 E2 : Eff} {d1 d2 : Option Tmp} {st : St} {K : St → Prop} (hd : ∀ x, d1 = some x → d2 ≠ some x) (hs : swapOK vf E1 E2)
    (h : AEx P G vf Kt d1 st (fun s => AEx P G vf Kt d2 s K E2) E1) : AEx P G vf Kt d2 st (fun s => AEx P G vf Kt d1 s K E1) E2 := by
  -- what the second one does, behind a value of the first one
  have second : ∀ (v : AV), (∀ s : St, AEx P G vf Kt d2 ⟨putT st.tmps d1 v, st.heap, st.dfs⟩ K E2 → True) → AEx P G vf Kt d2 ⟨putT st.tmps d1 v, st.heap, st.dfs⟩ K E2 →
      (∀ u h', (match E2 with
        | .req (.call f _) => (vf.contains f = true → h' = st.heap) ∧ (vf.contains f = false → rdF vf f = true → ∃ ext, h' = st.heap ++ ext)
        | .oth _ _ => True
        | .req q => doReq q st.heap = some (true, u, h')
        | .und => h' = st.heap ∧ u = .raw undef) → K ⟨putT (putT st.tmps d1 v) d2 u, h', st.dfs⟩ → AEx P G vf Kt d1 ⟨putT st.tmps d2 u, h', st.dfs⟩ K E1) →
      AEx P G vf Kt d2 st (fun s => AEx P G vf Kt d1 s K E1) E2 := by
    intro v _ h2 hk
    cases E2 with
    | und => exact hk _ _ ⟨rfl, rfl⟩ h2
    | oth op xs =>
      obtain ⟨Rc, g1, g2⟩ := h2
      exact ⟨Rc, g1, fun ao h' hr => by obtain ⟨u, e, hu⟩ := g2 ao h' hr; exact ⟨u, e, hk u h' trivial hu⟩⟩
    | req q =>
      cases q with
      | call f args =>
        refine ⟨fun hc => ?_, fun hc => ?_⟩
        · obtain ⟨g1, g2, g3, g4⟩ := h2.1 hc
          exact ⟨g1, g2, g3, fun u hu => hk u st.heap ⟨fun _ => rfl, fun hc' => (by rw [hc] at hc'; cases hc')⟩ (g4 u hu)⟩
        · obtain ⟨Rc, g1, gr, gs, g2⟩ := h2.2 hc
          exact ⟨Rc, g1, gr, gs, fun ao h' hr => by
            obtain ⟨u, e, hu⟩ := g2 ao h' hr
            exact ⟨u, e, hk u h' ⟨fun hc' => (by rw [hc] at hc'; cases hc'), fun _ hrd => (gr hrd).2 ao h' hr⟩ hu⟩⟩
      | val c x => obtain ⟨u, h', e, hh⟩ := h2; exact ⟨u, h', e, hk u h' e hh⟩
      | rd b off n g => obtain ⟨u, h', e, hh⟩ := h2; exact ⟨u, h', e, hk u h' e hh⟩
      | wr b off cs => obtain ⟨u, h', e, hh⟩ := h2; exact ⟨u, h', e, hk u h' e hh⟩
      | push cs e sl => obtain ⟨u, h', e', hh⟩ := h2; exact ⟨u, h', e', hk u h' e' hh⟩
      | bad => obtain ⟨u, h', e, hh⟩ := h2; exact ⟨u, h', e, hk u h' e hh⟩
  cases E1 with
  | oth op xs => exact hs.elim
  | und =>
    refine second _ (fun _ _ => trivial) h fun u h' _ hK => ?_
    show K _
    rw [← putT_comm hd]; exact hK
  | req q =>
    cases q with
    | val c v =>
      obtain ⟨v', h1, e, h2⟩ := h
      simp only [doReq, Option.some.injEq, Prod.mk.injEq] at e
      obtain ⟨rfl, rfl, rfl⟩ := e
      refine second _ (fun _ _ => trivial) h2 fun u h' _ hK => ⟨_, _, rfl, ?_⟩
      rw [← putT_comm hd]; exact hK
    | bad => obtain ⟨v', h1, e, h2⟩ := h; simp [doReq] at e
    | rd b off n g =>
      obtain ⟨v, h1, e, h2⟩ := h
      have e1 : h1 = st.heap := by
        rcases doReq_val e with ⟨c, hq, _⟩ | ⟨_, _, _, _, _, h0⟩ | ⟨_, _, _, hq⟩ | ⟨_, _, _, hq⟩
        · cases hq
        · exact h0
        · cases hq
        · cases hq
      subst e1
      refine second _ (fun _ _ => trivial) h2 fun u h' hu hK => ⟨v, h', ?_, ?_⟩
      · cases E2 with
        | und => simp only at hu; rw [hu.1]; exact e
        | oth op xs => exact hs.elim
        | req q2 =>
          cases q2 with
          | call f args =>
            simp only at hu
            cases hvf : vf.contains f with
            | true => rw [hu.1 hvf]; exact e
            | false =>
              obtain ⟨ext, rfl⟩ := hu.2 hvf (hs.resolve_left (by rw [hvf]; simp))
              exact rd_app e
          | val c x =>
            simp only [doReq, Option.some.injEq, Prod.mk.injEq] at hu
            rw [← hu.2.2]; exact e
          | rd b2 off2 n2 g2 =>
            simp only at hu
            rcases doReq_val hu with ⟨c, hq, _⟩ | ⟨_, _, _, _, _, h0⟩ | ⟨_, _, _, hq⟩ | ⟨_, _, _, hq⟩
            · cases hq
            · rw [h0]; exact e
            · cases hq
            · cases hq
          | wr b2 off2 cs2 => exact rd_wr hs e hu
          | push cs2 e2 sl2 => exact rd_push e hu
          | bad => simp [doReq] at hu
      · rw [← putT_comm hd]; exact hK
    | call f args =>
      have hor : vf.contains f = true ∨ rdF vf f = true := by
        cases E2 with
        | und => exact hs
        | oth op xs => exact hs.elim
        | req q2 =>
          cases q2 with
          | call f' a' => exact hs.1
          | rd _ _ _ _ => exact hs.imp id And.left
          | wr _ _ _ => exact .inl hs
          | push _ _ _ => exact hs.imp id And.left
          | _ => exact hs
      by_cases hf : vf.contains f = true
      rotate_left
      · have hf : vf.contains f = false := by simpa using hf
        have hrd := hor.resolve_left (by rw [hf]; simp)
        obtain ⟨Rc, g1, gr, gs, g2⟩ := h.2 hf
        obtain ⟨⟨ao0, h0, hr0⟩, gx⟩ := gr hrd
        have nt : ¬ vf.contains f = true := fun hc => by rw [hf] at hc; cases hc
        have back : ∀ (u : AV), (∀ ao h', Rc ao h' → ∃ v, ao = .ret v ∧ K ⟨putT (putT st.tmps d1 v) d2 u, h', st.dfs⟩) → AEx P G vf Kt d1 ⟨putT st.tmps d2 u, st.heap, st.dfs⟩ K (.req (.call f args)) := fun u hu =>
          ⟨fun hc => (nt hc).elim, fun _ => ⟨Rc, g1, gr, gs, fun ao h' hr => by
            obtain ⟨v, e, hK⟩ := hu ao h' hr
            exact ⟨v, e, by show K _; rw [← putT_comm hd]; exact hK⟩⟩⟩
        cases E2 with
        | oth op xs => exact hs.elim
        | und => exact back _ g2
        | req q2 =>
          cases q2 with
          | call f' a' =>
            obtain ⟨v0, e0, hv0⟩ := g2 ao0 h0 hr0
            refine ⟨fun hc => ?_, fun hc => by have := hs.2; rw [hc] at this; cases this⟩
            obtain ⟨k1, k2, k3, _⟩ := hv0.1 hc
            refine ⟨k1, k2, k3, fun u hu => back u fun ao h' hr => ?_⟩
            obtain ⟨v, e, hv⟩ := g2 ao h' hr
            exact ⟨v, e, (hv.1 hc).2.2.2 u hu⟩
          | val c x =>
            obtain ⟨v0, e0, u, h', e, _⟩ := g2 ao0 h0 hr0
            simp only [doReq, Option.some.injEq, Prod.mk.injEq] at e
            obtain ⟨rfl, rfl, rfl⟩ := e
            refine ⟨_, _, rfl, back _ fun ao h' hr => ?_⟩
            obtain ⟨v, e, u2, h2, e2, hK⟩ := g2 ao h' hr
            simp only [doReq, Option.some.injEq, Prod.mk.injEq] at e2
            obtain ⟨_, rfl, rfl⟩ := e2
            exact ⟨v, e, hK⟩
          | rd b off n g =>
            obtain ⟨u0, hRc, _⟩ := gs (hs.resolve_left nt).2
            obtain ⟨v0, e0, u, h', e, _⟩ := g2 _ _ ((hRc _ _).2 ⟨rfl, rfl⟩)
            have e1 : h' = st.heap := by
              rcases doReq_val e with ⟨c, hq, _⟩ | ⟨_, _, _, _, _, h0⟩ | ⟨_, _, _, hq⟩ | ⟨_, _, _, hq⟩
              · cases hq
              · exact h0
              · cases hq
              · cases hq
            subst e1
            refine ⟨u, _, e, back _ fun ao h' hr => ?_⟩
            obtain ⟨v, e', u2, h2, e2, hK⟩ := g2 ao h' hr
            obtain ⟨_, rfl⟩ := (hRc _ _).1 hr
            rw [e] at e2
            cases e2
            exact ⟨v, e', hK⟩
          | wr b off cs => exact (nt hs).elim
          | push cs el sl =>
            obtain ⟨u0, hRc, hst⟩ := gs (hs.resolve_left nt).2
            obtain ⟨v0, e0, u, h', e, hK⟩ := g2 _ _ ((hRc _ _).2 ⟨rfl, rfl⟩)
            obtain ⟨blk, e1⟩ := push_app e
            subst e1
            cases e0
            refine ⟨u, _, e, fun hc => (nt hc).elim, fun _ => ⟨fun ao h' => ao = .ret u0 ∧ h' = st.heap ++ [blk], hst [blk], fun _ => ⟨⟨_, _, rfl, rfl⟩, fun ao h' hr => ⟨[], by rw [hr.2]; simp⟩⟩,
              fun _ => ⟨u0, fun _ _ => Iff.rfl, fun ext => by have := hst ([blk] ++ ext); simpa [List.append_assoc] using this⟩, fun ao h' hr => ?_⟩⟩
            obtain ⟨rfl, rfl⟩ := hr
            exact ⟨u0, rfl, by show K _; rw [← putT_comm hd]; exact hK⟩
          | bad => obtain ⟨v0, e0, u, h', e, _⟩ := g2 ao0 h0 hr0; simp [doReq] at e
      obtain ⟨g1, g2, ⟨v0, hv0⟩, g4⟩ := h.1 hf
      have noH : vf.contains f = false → ∃ Rc, HSem P G f args st.heap Rc ∧ ∀ ao h', Rc ao h' → ∃ v, ao = .ret v ∧ K ⟨putT (putT st.tmps d2 (.raw undef)) d1 v, h', st.dfs⟩ := fun hc => by rw [hf] at hc; cases hc
      have nf : ¬ vf.contains f = false := fun hc => by rw [hf] at hc; cases hc
      cases E2 with
      | oth op xs => exact hs.elim
      | und =>
        refine ⟨fun _ => ⟨g1, g2, ⟨v0, hv0⟩, fun v hv => ?_⟩, fun hc => (nf hc).elim⟩
        have := g4 v hv
        show K _
        rw [← putT_comm hd]; exact this
      | req q2 =>
        cases q2 with
        | call f' a' =>
          refine ⟨fun hc => ?_, fun hc => by have := hs.2; rw [hc] at this; cases this⟩
          obtain ⟨k1, k2, k3, _⟩ := (g4 v0 hv0).1 hc
          refine ⟨k1, k2, k3, fun u hu => ⟨fun _ => ⟨g1, g2, ⟨v0, hv0⟩, fun v hv => ?_⟩, fun hc => (nf hc).elim⟩⟩
          have := ((g4 v hv).1 hc).2.2.2 u hu
          show K _
          rw [← putT_comm hd]; exact this
        | val c x =>
          obtain ⟨u, h', e, _⟩ := g4 v0 hv0
          refine ⟨u, h', e, ⟨fun _ => ⟨g1, g2, ⟨v0, hv0⟩, fun v hv => ?_⟩, fun hc => (nf hc).elim⟩⟩
          obtain ⟨u2, h2, e2, hK⟩ := g4 v hv
          rw [e] at e2; cases e2
          show K _
          rw [← putT_comm hd]; exact hK
        | rd b off n g =>
          obtain ⟨u, h', e, _⟩ := g4 v0 hv0
          refine ⟨u, h', e, ⟨fun _ => ⟨g1, g2, ⟨v0, hv0⟩, fun v hv => ?_⟩, fun hc => (nf hc).elim⟩⟩
          obtain ⟨u2, h2, e2, hK⟩ := g4 v hv
          have e3 := e.symm.trans e2
          cases e3
          show K _
          rw [← putT_comm hd]; exact hK
        | wr b off cs =>
          obtain ⟨u, h', e, _⟩ := g4 v0 hv0
          refine ⟨u, h', e, ⟨fun _ => ⟨g1, g2, ⟨v0, hv0⟩, fun v hv => ?_⟩, fun hc => (nf hc).elim⟩⟩
          obtain ⟨u2, h2, e2, hK⟩ := g4 v hv
          have e3 := e.symm.trans e2
          cases e3
          show K _
          rw [← putT_comm hd]; exact hK
        | push cs el sl =>
          obtain ⟨u, h', e, _⟩ := g4 v0 hv0
          refine ⟨u, h', e, ⟨fun _ => ⟨g1, g2, ⟨v0, hv0⟩, fun v hv => ?_⟩, fun hc => (nf hc).elim⟩⟩
          obtain ⟨u2, h2, e2, hK⟩ := g4 v hv
          have e3 := e.symm.trans e2
          cases e3
          show K _
          rw [← putT_comm hd]; exact hK
        | bad => obtain ⟨u, h', e, _⟩ := g4 v0 hv0; simp [doReq] at e
    | wr b off cs => exact hs.elim
    | push cs e sl => exact hs.elim
end
end Go.Ev
