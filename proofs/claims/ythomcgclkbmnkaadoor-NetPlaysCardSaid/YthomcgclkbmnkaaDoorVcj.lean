/-
  Symbolic execution, part J: every operation that 'vcOp' knows is sound.
-/
import Derived.Test.YthomcgclkbmnkaaDoorVci
namespace Go.Vc
theorem eqIn {P : Program} {w : World} {t : TypeId} {X Y : Value} {b : Bool} (h : ∀ d, (Op.equalIn (d + 1) t X Y).run P w = .ok b w) : (Op.equal t X Y).run P w = .ok b w := h 9999
theorem guard_ok {P : Program} {w : World} {t : TypeId} {x y : Operand} {X Y : Value} (h1 : X ≠ .nilIface ∨ Y ≠ .nilIface) (h2 : ∀ cs, X ≠ .agg cs) (op : BinOp) : (eqGuard op t x y X Y).run P w = .ok () w := by
  unfold eqGuard
  generalize (!(match op with | .eql | .neq => true | _ => false)) = b
  cases b with
  | true => rfl
  | false =>
    simp only [Bool.false_eq_true, if_false]
    split
    · simp at h1
    · exact absurd rfl (h2 _)
    · rfl
theorem guard_nil {P : Program} {w : World} {t : TypeId} {x y : Operand} (h : (isConstO x || isConstO y) = true) (op : BinOp) : (eqGuard op t x y .nilIface .nilIface).run P w = .ok () w := by
  unfold eqGuard
  generalize (!(match op with | .eql | .neq => true | _ => false)) = b
  cases b with
  | true => rfl
  | false =>
    simp only [Bool.false_eq_true, if_false]
    cases x <;> cases y <;> first | rfl | (simp [isConstO] at h)
section
variable {P : Program} {Γ : Nat → Option Trans} {tm : List SV} {hp : List Ent} {M F : HL} {K : SV → List Ent → HL → Prop} {ρ : Nat → Loc} {w : World} {a : Act}
variable (H : Holds ρ hp M F w) (hD : DenL ρ tm a.tmps.toList)
include H hD

theorem s_tassert {o : Oper} {x : Operand} {t u : TypeId} {ok : Bool} {z : Value} (ho : o.op = .typeAssert x t u ok) (hz : zeroOf P u = some z) (hc : P.concrete u = true) (h : vcOp Γ (.tassert u ok (.ofV z) (carg x)) tm hp M K) : POk P o a ρ fun v => K v hp M := by
  have _ := @H
  unfold zeroOf at hz
  obtain ⟨ti, hti, hz'⟩ := Option.bind_eq_some_iff.1 hz
  obtain ⟨d, hd, hnd⟩ : ∃ d, P.underlying u = some d ∧ ∀ ms, d ≠ .interface ms := by
    unfold Program.concrete at hc
    cases hd : P.underlying u with
    | none => simp [hd] at hc
    | some d => exact ⟨d, rfl, fun ms hm => by subst hm; simp [hd] at hc⟩
  have hrun : ∀ (w : World) (y : Value), (∃ t' v, y = .iface t' v) ∨ y = .nilIface → a.eval x = y → (execOp a.eval o).run P w =
      (match y with
      | .iface t' v => if t' = u then .ok (.value (if ok then .tuple #[v, .bool true] else v)) w else ((execOp a.eval o).run P w)
      | _ => ((execOp a.eval o).run P w)) := by
    intro w y hy he
    rcases hy with ⟨t', v, rfl⟩ | rfl
    · dsimp only
      split
      · rename_i htu
        subst htu
        cases d <;> (try exact absurd rfl (hnd _)) <;> (cases ok <;> simp [execOp, ho, he, Instr.typeAssert, run_underlying hd])
      · rfl
    · rfl
  have hfail : ∀ (w : World) (y : Value), (∃ t' v, y = .iface t' v ∧ t' ≠ u) ∨ y = .nilIface → a.eval x = y → ok = true → (execOp a.eval o).run P w = .ok (.value (.tuple #[z, .bool false])) w := by
    intro w y hy he hok
    subst hok
    rcases hy with ⟨t', v, rfl, htu⟩ | rfl
    · cases d <;> (try exact absurd rfl (hnd _)) <;> simp [execOp, ho, he, Instr.typeAssert, run_underlying hd, htu, zeroValue, typeInfo, hti, hz']
    · cases d <;> (try exact absurd rfl (hnd _)) <;> simp [execOp, ho, he, Instr.typeAssert, run_underlying hd, zeroValue, typeInfo, hti, hz']
  simp only [vcOp, vTassert] at h
  have hx := ev_den hD x
  have zden : Den ρ (.tup [.ofV z, .v (.bool false)]) (.tuple #[z, .bool false]) := ⟨[z, .bool false], rfl, by simp only [DenL, Den, and_true]; exact den_ofV ρ z⟩
  split at h
  · rename_i t' y he
    rw [he] at hx
    simp only [Den] at hx
    obtain ⟨v, hv, hdv⟩ := hx
    split at h
    · rename_i htu
      have htu := Nat.eq_of_beq_eq_true htu
      refine .mk' (v := .tuple #[v, .bool true]) (fun w => ?_) h ⟨[v, .bool true], rfl, by simp only [DenL, Den, and_true]; exact hdv⟩
      rw [hrun w _ (.inl ⟨_, _, rfl⟩) hv]; simp [htu]
    · rename_i htu
      have htu := Nat.eq_of_beq_eq_true htu
      refine .mk' (v := v) (fun w => ?_) h hdv
      rw [hrun w _ (.inl ⟨_, _, rfl⟩) hv]; simp [htu]
    · rename_i htu
      exact .mk' (fun w => hfail w _ (.inl ⟨t', v, rfl, Nat.ne_of_beq_eq_false htu⟩) hv rfl) h zden
    · exact h.elim
  · rename_i t' y he
    rw [he] at hx
    simp only [Den] at hx
    split at h
    · rename_i htu
      have htu := Nat.eq_of_beq_eq_true htu
      refine .mk' (v := .tuple #[y, .bool true]) (fun w => ?_) h ⟨[y, .bool true], rfl, by simp [DenL, Den]⟩
      rw [hrun w _ (.inl ⟨_, _, rfl⟩) hx.symm]; simp [htu]
    · rename_i htu
      have htu := Nat.eq_of_beq_eq_true htu
      refine .mk' (v := y) (fun w => ?_) h rfl
      rw [hrun w _ (.inl ⟨_, _, rfl⟩) hx.symm]; simp [htu]
    · rename_i htu
      exact .mk' (fun w => hfail w _ (.inl ⟨t', y, rfl, Nat.ne_of_beq_eq_false htu⟩) hx.symm rfl) h zden
    · exact h.elim
  · rename_i he
    rw [he] at hx
    simp only [Den] at hx
    split at h
    · exact .mk' (fun w => hfail w _ (.inr rfl) hx.symm rfl) h zden
    · exact h.elim
  · exact h.elim

theorem s_eqp {o : Oper} {op : BinOp} {t u : TypeId} {x y : Operand} {k : Nat} (ho : o.op = .binOp op t x y u) (hop : op = .eql ∨ op = .neq) (h : vcOp Γ (.eqp k (isConstO x || isConstO y) (isNeq op) (carg x) (carg y)) tm hp M K)
    (hk : (k = 0 ∧ ∃ e, P.underlying t = some (.pointer e)) ∨ (k = 1 ∧ ∃ ms, P.underlying t = some (.interface ms)) ∨ (k = 2 ∧ ∃ p q v, P.underlying t = some (.func p q v)) ∨ (k = 3 ∧ ∃ e, P.underlying t = some (.slice e))) : POk P o a ρ fun v => K v hp M := by
  have _ := @H
  simp only [vcOp] at h
  have hx := ev_den hD x
  have hy := ev_den hD y
  have key : ∀ (X Y : Value) (b : Bool), a.eval x = X → a.eval y = Y → (∀ w op, (eqGuard op t x y X Y).run P w = .ok () w) → (∀ w, (Op.equal t X Y).run P w = .ok b w) → (Go.binOp .eql t X Y = do pure (.bool (← Op.equal t X Y))) → (Go.binOp .neq t X Y = do pure (.bool (!(← Op.equal t X Y)))) →
      K (.v (.bool (match (isNeq op) with | true => !b | false => b))) hp M → POk P o a ρ fun v => K v hp M := by
    intro X Y b hX hY hg he h1 h2 hK
    rcases hop with rfl | rfl
    · exact .mk' (v := .bool b) (fun w => by simp [execOp, ho, hX, hY, hg, h1, he]) hK rfl
    · exact .mk' (v := .bool !b) (fun w => by simp [execOp, ho, hX, hY, hg, h2, he]) hK rfl
  rcases hk with ⟨rfl, e, hu⟩ | ⟨rfl, ms, hu⟩ | ⟨rfl, p, q, vr, hu⟩ | ⟨rfl, e, hu⟩
  · simp only [vEq, vEq0] at h
    split at h
    · rename_i he1 he2
      rw [he1] at hx; rw [he2] at hy
      simp only [Den] at hx hy
      obtain ⟨_, _, _, _, hx⟩ := hx
      exact key _ _ false hx hy.symm (fun w => guard_ok (by simp) (by simp)) (fun w => eqIn fun d => by simp [Op.equalIn, run_underlying hu]) rfl rfl h
    · rename_i he1 he2
      rw [he1] at hx; rw [he2] at hy
      simp only [Den] at hx hy
      obtain ⟨_, _, _, _, hy⟩ := hy
      exact key _ _ false hx.symm hy (fun w => guard_ok (by simp) (by simp)) (fun w => eqIn fun d => by simp [Op.equalIn, run_underlying hu]) rfl rfl h
    · rename_i he1 he2
      rw [he1] at hx; rw [he2] at hy
      simp only [Den] at hx hy
      obtain ⟨_, _, _, _, hx⟩ := hx
      exact key _ _ false hx hy.symm (fun w => guard_ok (by simp) (by simp)) (fun w => eqIn fun d => by simp [Op.equalIn, run_underlying hu]) rfl rfl h
    · rename_i he1 he2
      rw [he1] at hx; rw [he2] at hy
      simp only [Den] at hx hy
      obtain ⟨_, _, _, _, hy⟩ := hy
      exact key _ _ false hx.symm hy (fun w => guard_ok (by simp) (by simp)) (fun w => eqIn fun d => by simp [Op.equalIn, run_underlying hu]) rfl rfl h
    · rename_i he1 he2
      rw [he1] at hx; rw [he2] at hy
      simp only [Den] at hx hy
      exact key _ _ false hx.symm hy.symm (fun w => guard_ok (by simp) (by simp)) (fun w => eqIn fun d => by simp [Op.equalIn, run_underlying hu]) rfl rfl h
    · rename_i he1 he2
      rw [he1] at hx; rw [he2] at hy
      simp only [Den] at hx hy
      exact key _ _ false hx.symm hy.symm (fun w => guard_ok (by simp) (by simp)) (fun w => eqIn fun d => by simp [Op.equalIn, run_underlying hu]) rfl rfl h
    · rename_i he1 he2
      rw [he1] at hx; rw [he2] at hy
      simp only [Den] at hx hy
      exact key _ _ true hx.symm hy.symm (fun w => guard_ok (by simp) (by simp)) (fun w => eqIn fun d => by simp [Op.equalIn, run_underlying hu]) rfl rfl h
    · exact h.elim
  · simp only [vEq, vEq1] at h
    split at h
    · rename_i he1 he2
      rw [he1] at hx; rw [he2] at hy
      simp only [Den] at hx hy
      split at h
      case h_2 => exact h.elim
      rename_i hcc
      exact key _ _ true hx.symm hy.symm (fun w => guard_nil ‹_›) (fun w => eqIn fun d => by simp [Op.equalIn, run_underlying hu]) rfl rfl h
    · rename_i he1 he2
      rw [he1] at hx; rw [he2] at hy
      simp only [Den] at hx hy
      obtain ⟨_, hy, _⟩ := hy
      exact key _ _ false hx.symm hy (fun w => guard_ok (by simp) (by simp)) (fun w => eqIn fun d => by simp [Op.equalIn, run_underlying hu]) rfl rfl h
    · rename_i he1 he2
      rw [he1] at hx; rw [he2] at hy
      simp only [Den] at hx hy
      obtain ⟨_, hx, _⟩ := hx
      exact key _ _ false hx hy.symm (fun w => guard_ok (by simp) (by simp)) (fun w => eqIn fun d => by simp [Op.equalIn, run_underlying hu]) rfl rfl h
    · rename_i he1 he2
      rw [he1] at hx; rw [he2] at hy
      simp only [Den] at hx hy
      exact key _ _ false hx.symm hy.symm (fun w => guard_ok (by simp) (by simp)) (fun w => eqIn fun d => by simp [Op.equalIn, run_underlying hu]) rfl rfl h
    · rename_i he1 he2
      rw [he1] at hx; rw [he2] at hy
      simp only [Den] at hx hy
      exact key _ _ false hx.symm hy.symm (fun w => guard_ok (by simp) (by simp)) (fun w => eqIn fun d => by simp [Op.equalIn, run_underlying hu]) rfl rfl h
    · exact h.elim
  · simp only [vEq, vEq2] at h
    split at h
    · rename_i he1 he2
      rw [he1] at hx; rw [he2] at hy
      simp only [Den] at hx hy
      exact key _ _ true hx.symm hy.symm (fun w => guard_ok (by simp) (by simp)) (fun w => eqIn fun d => by simp [Op.equalIn, run_underlying hu]) rfl rfl h
    · rename_i he1 he2
      rw [he1] at hx; rw [he2] at hy
      simp only [Den] at hx hy
      obtain ⟨_, _, hx, _⟩ := hx
      exact key _ _ false hx hy.symm (fun w => guard_ok (by simp) (by simp)) (fun w => eqIn fun d => by simp [Op.equalIn, run_underlying hu]) rfl rfl h
    · exact h.elim
  · simp only [vEq, vEq3] at h
    split at h
    case h_2 => exact h.elim
    rename_i he2
    rw [he2] at hy
    simp only [Den] at hy
    have kt : ∀ l c, a.eval x = .slice none l c → K (.v (.bool (match (isNeq op) with | true => !true | false => true))) hp M → POk P o a ρ fun v => K v hp M := fun l c hX hK =>
      key _ _ true hX hy.symm (fun w => guard_ok (by simp) (by simp)) (fun w => eqIn fun d => by simp [Op.equalIn, run_underlying hu]) rfl rfl hK
    have kf : ∀ b l c, a.eval x = .slice (some b) l c → K (.v (.bool (match (isNeq op) with | true => !false | false => false))) hp M → POk P o a ρ fun v => K v hp M := fun b l c hX hK =>
      key _ _ false hX hy.symm (fun w => guard_ok (by simp) (by simp)) (fun w => eqIn fun d => by simp [Op.equalIn, run_underlying hu]) rfl rfl hK
    split at h
    · rename_i he1
      rw [he1] at hx
      simp only [Den] at hx
      exact kt _ _ hx.symm h
    · rename_i he1
      rw [he1] at hx
      simp only [Den] at hx
      exact kf _ _ _ hx.symm h
    · rename_i len he1
      rw [he1] at hx
      simp only [Den] at hx
      obtain ⟨ad, c, hx, hc, hb⟩ := hx
      by_cases hl : 0 < len
      · rcases hb with hb | ⟨b, base, cap, _, hb, _⟩
        · omega
        · subst hb
          exact kf _ _ _ hx (h.1 hl)
      · have h := h.2 (by omega)
        cases ad with
        | none => exact kt _ _ hx h.1
        | some b => exact kf _ _ _ hx h.2
    · rename_i he1
      rw [he1] at hx
      simp only [Den] at hx
      obtain ⟨ad, hx⟩ := hx
      cases ad with
      | none => exact kt _ _ hx h.1
      | some b => exact kf _ _ _ hx h.2
    · rename_i y he1
      rw [he1] at hx
      simp only [Den] at hx
      obtain ⟨hx, ad, n, c, rfl, _, hnn⟩ := hx
      have e : slen (.slice ad n c) = n := rfl
      rw [e] at h
      by_cases hl : 0 < n
      · cases ad with
        | none => have := hnn rfl; omega
        | some b => exact kf _ _ _ hx (h.1 hl)
      · have h := h.2 (by omega)
        cases ad with
        | none => exact kt _ _ hx h.1
        | some b => exact kf _ _ _ hx h.2
    · exact h.elim
end
end Go.Vc
