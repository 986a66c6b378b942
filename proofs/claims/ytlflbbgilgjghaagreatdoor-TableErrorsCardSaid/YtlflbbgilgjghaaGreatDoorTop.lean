/- What the function of the statement does in whatever world. -/
import Derived.Test.YtlflbbgilgjghaaGreatDoorData
import Derived.Below
set_option linter.all false
set_option linter.unusedVariables false
set_option linter.unusedSimpArgs false
set_option maxRecDepth 100000
namespace Go.AX
open Go Go.Proofs

def nibs : List Nat := [0, 274646895, 549293790, 820201905, 1098587580, 1361435347, 1640403810, 1905808397, 2197175160, 2460548119, 2722870694, 2987750089, 3280807620, 3553878443, 3811616794, 4084100981]
def pays : List Nat := [3, 7, 15, 31, 60]
theorem vrl_ints {σ : Sg} {ρ : Ren} (k : IntKind) : ∀ l : List Nat, VRL σ ρ (l.map fun n => AV.int k (.ofNat n)) (l.map fun n => Value.int k (.ofNat n))
  | [] => rfl
  | n :: l => ⟨_, _, rfl, rfl, vrl_ints k l⟩
/-- Where the world's variables lie. -/
def ρ0 : Ren := fun b => if b < 1000 then some ⟨b, 0, 0⟩ else none
theorem start_rel {σ : Sg} {W : World} {t0 t3 : TypeId} (h0 : W.heap[0]? = some (.cells (pays.map fun n => Value.int .i64 (.ofNat n)).toArray t0 (0, 0))) (h3 : W.heap[3]? = some (.cells (nibs.map fun n => Value.int .u32 (.ofNat n)).toArray t3 (0, 0))) :
    Rel Tryz.prog σ ρ0 (litSt F2.pre F2.nx) W := by
  have hget : ∀ b o, (litSt F2.pre F2.nx).h.get b = some o → (b = 0 ∧ o = .rom (pays.map fun n => AV.int .i64 (.ofNat n))) ∨ (b = 3 ∧ o = .rom (nibs.map fun n => AV.int .u32 (.ofNat n))) := by
    intro b o hb
    have := litH_get (l := F2.pre) hb
    have e : F2.pre = [(0, .rom (pays.map fun n => AV.int .i64 (.ofNat n))), (3, .rom (nibs.map fun n => AV.int .u32 (.ofNat n)))] := rfl
    rw [e] at this
    simp only [List.mem_cons, Prod.mk.injEq, List.not_mem_nil, or_false] at this
    exact this
  have hlt : ∀ b o, (litSt F2.pre F2.nx).h.get b = some o → b < 1000 := by
    intro b o hb
    rcases hget b o hb with ⟨rfl, _⟩ | ⟨rfl, _⟩ <;> omega
  have hnx : (litSt F2.pre F2.nx).nx = 1000 := rfl
  refine ⟨fun b o hb => ?_, fun b b' o o' l l' hb hb' hl hl' he => ?_, fun b hb => ?_, fun g hg => if_pos hg, fun b o hb => by rw [hnx]; exact hlt b o hb⟩
  · rcases hget b o hb with ⟨rfl, rfl⟩ | ⟨rfl, rfl⟩
    · exact ⟨⟨0, 0, 0⟩, _, if_pos (by omega), h0, _, _, _, rfl, vrl_ints .i64 pays, rfl, rfl⟩
    · exact ⟨⟨3, 0, 0⟩, _, if_pos (by omega), h3, _, _, _, rfl, vrl_ints .u32 nibs, rfl, rfl⟩
  · have e1 : ρ0 b = some ⟨b, 0, 0⟩ := if_pos (hlt b o hb)
    have e2 : ρ0 b' = some ⟨b', 0, 0⟩ := if_pos (hlt b' o' hb')
    rw [e1] at hl
    rw [e2] at hl'
    cases hl
    cases hl'
    exact he
  · rw [hnx] at hb
    exact if_neg (by omega)
theorem top_of (hF : ∀ σ, Plain σ → FactOK Tryz.prog σ F2) {W : World} {t0 t3 : TypeId} (h0 : W.heap[0]? = some (.cells (pays.map fun n => Value.int .i64 (.ofNat n)).toArray t0 (0, 0))) (h3 : W.heap[3]? = some (.cells (nibs.map fun n => Value.int .u32 (.ofNat n)).toArray t3 (0, 0)))
    (s : ByteArray) (x a b : Int) : Calls Tryz.prog 3 #[.string s, .int .u32 x, .agg #[.int .u32 a, .int .u32 b]] W fun e W' => e = .returned (.bool true) ∧ RowKit.Below W.heap.size W W' := by
  let σ : Sg := ⟨fun i => match i with | 0 => .string s | 1 => .int .u32 x | 2 => .int .u32 a | _ => .int .u32 b, fun _ _ => undef⟩
  have hσ : Plain σ := by
    intro i
    match i with
    | 0 => rfl
    | 1 => rfl
    | 2 => rfl
    | _ + 3 => rfl
  have hA : VRL σ ρ0 F2.args (#[.string s, .int .u32 x, .agg #[.int .u32 a, .int .u32 b]] : Array Value).toList :=
    ⟨_, _, rfl, rfl, _, _, rfl, rfl, _, _, rfl, ⟨[.int .u32 a, .int .u32 b], ⟨_, _, rfl, rfl, _, _, rfl, rfl, rfl⟩, rfl⟩, rfl⟩
  have h := (hF σ hσ).call 0 ρ0 W _ (start_rel h0 h3) hA
  refine callsIn_wide.1 (CallsIn.mono (F := Fence.wide) h fun e W' he => ?_)
  cases e with
  | returned cv =>
    obtain ⟨ρ', g0, _, _, g3⟩ := he
    refine ⟨congrArg Ending.returned g0, ⟨g3.os, g3.tape, g3.out, g3.size, fun k hk => g3.keep k hk fun b o l hb hr _ _ => ?_⟩⟩
    have := litH_get (l := F2.pre) hb
    have e : F2.pre = [(0, .rom (pays.map fun n => AV.int .i64 (.ofNat n))), (3, .rom (nibs.map fun n => AV.int .u32 (.ofNat n)))] := rfl
    rw [e] at this
    simp only [List.mem_cons, Prod.mk.injEq, List.not_mem_nil, or_false] at this
    rcases this with ⟨_, rfl⟩ | ⟨_, rfl⟩ <;> cases hr
  | panicked c => exact he.elim
  | outgrown => exact he.elim
end Go.AX
