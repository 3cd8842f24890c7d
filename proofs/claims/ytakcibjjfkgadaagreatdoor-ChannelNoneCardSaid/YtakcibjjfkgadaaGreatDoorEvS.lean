/- The rules by which the abstract run is carried out. -/
import Derived.Test.YtakcibjjfkgadaaGreatDoorEvH
set_option linter.unusedVariables false
set_option linter.unusedSimpArgs false
namespace Go.Ev

theorem wrap_i64 (n : Int) (h1 : -9223372036854775808 ≤ n) (h2 : n ≤ 9223372036854775807) : IntKind.i64.wrap n = n := by
  simp only [IntKind.wrap, IntKind.signed, IntKind.bits]
  simp
  split <;> omega
theorem wrap_u64 (n : Int) (h1 : 0 ≤ n) (h2 : n ≤ 18446744073709551615) : IntKind.u64.wrap n = n := by
  simp only [IntKind.wrap, IntKind.signed, IntKind.bits]
  simp
  omega
theorem wrap_u8 (n : Int) (h1 : 0 ≤ n) (h2 : n ≤ 255) : IntKind.u8.wrap n = n := by
  simp only [IntKind.wrap, IntKind.signed, IntKind.bits]
  simp
  omega

theorem toList_mk {α : Type} (l : List α) : l.toArray.toList = l := rfl
theorem isSomeBool_true (b : Bool) : (b == true) = b := by cases b <;> rfl
theorem isSomeBool_false (b : Bool) : (b == false) = !b := by cases b <;> rfl

theorem app_nil (l : List AV) : ([] : List AV) ++ l = l := rfl
theorem app_cons (x : AV) (l r : List AV) : (x :: l) ++ r = x :: (l ++ r) := rfl
theorem app_nilB (l : List Blk) : ([] : List Blk) ++ l = l := rfl
theorem app_consB (x : Blk) (l r : List Blk) : (x :: l) ++ r = x :: (l ++ r) := rfl

theorem brk_t (r : Cfg → Stop) (a b : Cfg) : brk r true a b = r a := rfl
theorem brk_f (r : Cfg → Stop) (a b : Cfg) : brk r false a b = r b := rfl
theorem need_t (r : Cfg → Stop) (a : Cfg) : needK r true a = r a := rfl
theorem guardS_some (r : Cfg → Stop) (a b : Cfg) (c : Bool) : guardS r a b (some c) = brk r c a b := rfl
theorem condS_bool (r : Cfg → Stop) (a b : Cfg) (c : Bool) : condS r a b (.bool c) = brk r c a b := rfl
theorem finReq_call (r : Cfg → Stop) (dst : Option Tmp) (o : Oper) (all rest : List Oper) (k : List Fr) (st : St) (f : FuncId) (args : List AV) : finReq r dst o all rest k st (.call f args) = .call f args dst all rest k st := rfl
theorem finReq_bad (r : Cfg → Stop) (dst : Option Tmp) (o : Oper) (all rest : List Oper) (k : List Fr) (st : St) : finReq r dst o all rest k st .bad = .more ⟨.ops all (o :: rest), k, st⟩ := rfl
theorem finReq_val (r : Cfg → Stop) (dst : Option Tmp) (o : Oper) (all rest : List Oper) (k : List Fr) (st : St) (c : Bool) (v : AV) :
    finReq r dst o all rest k st (.val c v) = needK r c ⟨.ops all rest, k, ⟨putT st.tmps dst v, st.heap, st.dfs⟩⟩ := rfl
theorem finReq_rd (r : Cfg → Stop) (dst : Option Tmp) (o : Oper) (all rest : List Oper) (k : List Fr) (st : St) (b off n : Nat) (g : Bool) :
    finReq r dst o all rest k st (.rd b off n g) = finD r dst all rest k st (doReq (.rd b off n g) st.heap) := rfl
theorem finReq_wr (r : Cfg → Stop) (dst : Option Tmp) (o : Oper) (all rest : List Oper) (k : List Fr) (st : St) (b off : Nat) (cs : List AV) :
    finReq r dst o all rest k st (.wr b off cs) = finD r dst all rest k st (doReq (.wr b off cs) st.heap) := rfl
theorem finReq_push (r : Cfg → Stop) (dst : Option Tmp) (o : Oper) (all rest : List Oper) (k : List Fr) (st : St) (cs : List AV) (e : TypeId) (sl : Option Nat) :
    finReq r dst o all rest k st (.push cs e sl) = finD r dst all rest k st (doReq (.push cs e sl) st.heap) := rfl
theorem finD_some (r : Cfg → Stop) (dst : Option Tmp) (all rest : List Oper) (k : List Fr) (st : St) (c : Bool) (v : AV) (h : List Blk) :
    finD r dst all rest k st (some (c, v, h)) = needK r c ⟨.ops all rest, k, ⟨putT st.tmps dst v, h, st.dfs⟩⟩ := rfl
theorem holdsO_some (R : AV → Prop) (v : AV) : holdsO R (some v) = R v := rfl

attribute [go_sem] run runOp finReq_call finReq_bad finReq_val finReq_rd finReq_wr finReq_push finD_some condS_bool guardS_some gtag brk_t brk_f need_t doReq reqOf bin eqReq eqBy eqC ibin strBin un partA fillA pget zipA mapA lenA callA idxA idxV bndA sliceA lenOfA
  evO ofV lget lset lsets putT enterT bget bset cellsA guardA guardB_bool guardB_undef guardT guardO oget one allOne toList_mk app_nil app_cons app_nilB app_consB
  resA resL resF frz frzs mfree mfrees isSomeBool_true isSomeBool_false vres holdsO_some
  List.length_cons List.length_nil List.replicate_succ List.replicate_zero and_self if_true if_false decide_true decide_false Bool.and_true Bool.true_and Bool.and_false Bool.false_and Bool.not_true Bool.not_false
  cond_true cond_false IntKind.bits Nat.min_def List.drop_zero List.take_zero List.take_succ_cons List.take_nil List.drop_succ_cons List.drop_nil and_true true_and
end Go.Ev
