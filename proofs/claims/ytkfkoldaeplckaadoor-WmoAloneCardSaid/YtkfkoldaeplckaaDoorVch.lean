/-
  Symbolic execution, part F: each operation is sound.
-/
import Derived.Test.YtkfkoldaeplckaaDoorVce
set_option linter.unusedSimpArgs false
set_option linter.unusedVariables false

namespace Go.Vc

/-- A contract in terms of names. -/
def TOK (P : Program) (f : FuncId) (T : Trans) : Prop :=
  (∃ fn, P.funcs[f]? = some fn ∧ fn.body.isSome = true ∧ (fn.name == "runtime.NumGoroutine") = false) ∧
  ∀ args hp M K, T args hp M K → ∀ ρ F w vs, Holds ρ hp M F w → DenL ρ args vs → Calls P f vs.toArray w fun e w' => ∃ v, e = .returned v ∧ Post K hp.length ρ M F w v w'
def GOK (P : Program) (Γ : Nat → Option Trans) : Prop := ∀ f T, Γ f = some T → TOK P f T

theorem isNilS_den {ρ : Nat → Loc} {s : SV} {y : Value} (h : isNilS s = true) (hd : Den ρ s y) : ∃ ad, y = .slice ad 0 0 := by
  unfold isNilS at h
  split at h
  · simpa [Den] using hd
  · simp only [Den] at hd
    exact ⟨none, hd.symm⟩
  · cases h
theorem int_den {ρ : Nat → Loc} {s : SV} {y : Value} {K : Int → Prop} (h : vInt s K) (hd : Den ρ s y) : ∃ k n, y = .int k n ∧ K n := by
  unfold vInt at h
  split at h
  · rename_i k n
    simp only [Den] at hd
    exact ⟨k, n, hd.symm, h⟩
  · exact h.elim

section
variable {P : Program} {Γ : Nat → Option Trans} {tm : List SV} {hp : List Ent} {M F : HL} {K : SV → List Ent → HL → Prop} {ρ : Nat → Loc} {w : World} {a : Act}
variable (H : Holds ρ hp M F w) (hD : DenL ρ tm a.tmps.toList)
include H hD

theorem evL_den : ∀ (xs : List Operand), DenL ρ (evL tm (xs.map carg)) (xs.map a.eval)
  | [] => by have _ := @H; simp [evL, DenL]
  | x :: r => by simp only [List.map_cons, evL, DenL]; exact ⟨ev_den hD x, evL_den r⟩

theorem s_mov {o : Oper} {x : Operand} (ho : o.op = .move x ∨ o.op = .assign x) (h : vcOp Γ (.mov (carg x)) tm hp M K) : POk P o a ρ fun v => K v hp M := by
  have _ := @H
  have _ := @H
  simp only [vcOp, force_eq] at h
  exact .mk' (v := a.eval x) (fun w => by rcases ho with ho | ho <;> simp [execOp, ho]) h (ev_den hD x)

theorem s_pick {o : Oper} {c x y : Operand} (ho : o.op = .pick c x y) (h : vcOp Γ (.pick (carg c) (carg x) (carg y)) tm hp M K) : POk P o a ρ fun v => K v hp M := by
  have _ := @H
  simp only [vcOp, vPick, force_eq] at h
  have hc := ev_den hD c
  split at h
  · rename_i t he
    rw [he] at hc
    simp only [Den] at hc
    cases t with
    | true => exact .mk' (v := a.eval x) (fun w => by simp [execOp, ho, ← hc, asBool]) (h.t rfl) (ev_den hD x)
    | false => exact .mk' (v := a.eval y) (fun w => by simp [execOp, ho, ← hc, asBool]) (h.f rfl) (ev_den hD y)
  · exact h.elim

theorem s_load {o : Oper} {t : TypeId} {x : Operand} (ho : o.op = .load t x) (h : vcOp Γ (cop P o) tm hp M K) : OpWp P o a w (Post K hp.length ρ M F w) := by
  simp only [cop, ho] at h
  split at h
  case isFalse => simp [vcOp] at h
  rename_i hside
  obtain ⟨hu, hi⟩ := hside
  simp only [vcOp] at h
  obtain ⟨ad, y, sv, h1, h2, h3, h4⟩ := vLoad_sound h H (ev_den hD x)
  obtain ⟨d, hd⟩ := Option.isSome_iff_exists.1 hu
  obtain ⟨i, hi⟩ := Option.isSome_iff_exists.1 hi
  refine .of_value (w' := w) (v := y) ?_ (.same H h3 h4)
  have hag : (isAgg t).run P w = .ok (isAggT P t) w := by
    cases d <;> simp [isAgg, isAggT, run_underlying hd, hd]
  unfold sizeO at h2
  cases hb : isAggT P t with
  | true =>
    simp only [hb, if_true, Finds] at h2
    obtain ⟨cs, rfl, hcl, hcs⟩ := h2
    have hl := run_loadCells_list (P := P) w ad cs hcs
    rw [hcl] at hl
    simp only [szOf, hi, Option.map_some, Option.getD_some] at hl
    simp [execOp, ho, Instr.loadAt, h1, Instr.sureAddr, loadVar, hag, hb, sizeOf, typeInfo, hi, hl]
  | false =>
    simp only [hb, Bool.false_eq_true, if_false, Finds] at h2
    simp [execOp, ho, Instr.loadAt, h1, Instr.sureAddr, loadVar, hag, hb, h2]

theorem s_store {o : Oper} {t : TypeId} {x y : Operand} (ho : o.op = .store t x y) (h : vcOp Γ (cop P o) tm hp M K) : OpWp P o a w (Post K hp.length ρ M F w) := by
  simp only [cop, ho] at h
  split at h
  case isFalse => simp [vcOp] at h
  rename_i hi
  simp only [vcOp] at h
  obtain ⟨ad, hp', M', F', w', h1, h2, h3, h4, h5, h6, hG, h7⟩ := vStore_sound (P := P) h H (ev_den hD x) (ev_den hD y)
  obtain ⟨i, hi⟩ := Option.isSome_iff_exists.1 hi
  simp only [szOf, hi, Option.map_some, Option.getD_some] at h2
  refine .of_skip (w' := w') ?_ ⟨_, ρ, hp', M', F', h4, by omega, Ext.refl _ _, h6, hG, h7, rfl⟩
  simp [execOp, ho, Instr.storeAt, h1, Instr.sureAddr, storeVar, sizeOf, typeInfo, hi, h2, h3]

theorem s_nilck {o : Oper} {x : Operand} (ho : o.op = .nilCheck x) (h : vcOp Γ (.nilck (carg x)) tm hp M K) : POk P o a ρ fun v => K v hp M := by
  have _ := @H
  simp only [vcOp, vNil] at h
  have hc := ev_den hD x
  split at h
  · rename_i he
    rw [he] at hc
    have hc' := hc
    simp only [Den] at hc
    obtain ⟨b, base, cap, _, hv⟩ := hc
    exact .mk' (v := a.eval x) (fun w => by simp [execOp, ho, hv]) h hc'
  · rename_i he
    rw [he] at hc
    have hc' := hc
    simp only [Den] at hc
    obtain ⟨ad, n, c, _, hv⟩ := hc
    exact .mk' (v := a.eval x) (fun w => by simp [execOp, ho, hv]) h hc'
  · rename_i he
    rw [he] at hc
    have hc' := hc
    simp only [Den] at hc
    exact .mk' (v := a.eval x) (fun w => by simp [execOp, ho, ← hc]) h hc'
  · exact h.elim

theorem s_conv {o : Oper} {s d : TypeId} {x : Operand} (ho : o.op = .convert s d x) (h : vcOp Γ (cop P o) tm hp M K) : POk P o a ρ fun v => K v hp M := by
  have _ := @H
  simp only [cop, ho] at h
  split at h
  · rename_i k0 k he1 hk
    simp only [vcOp, vConv] at h
    have hc := ev_den hD x
    split at h
    · rename_i k' n he
      rw [he] at hc
      simp only [Den] at hc
      refine .mk' (v := .int k (k.wrap n)) (fun w => ?_) h rfl
      simp only [execOp, ho, ← hc, convert]
      simp [run_underlying he1, run_underlying hk, Conv.intToInt]
    · exact h.elim
  · simp [vcOp] at h

theorem s_fld {o : Oper} {t : TypeId} {x : Operand} {f : Nat} (ho : o.op = .fieldAddr t x f) (h : vcOp Γ (cop P o) tm hp M K) : POk P o a ρ fun v => K v hp M := by
  have _ := @H
  simp only [cop, ho] at h
  split at h
  · rename_i off ft hf
    split at h
    · simp [vcOp] at h
    · rename_i hsz
      simp only [vcOp, vFld] at h
      have hc := ev_den hD x
      split at h
      · rename_i n wd i g he
        rw [he] at hc
        simp only [Den] at hc
        obtain ⟨b, base, cap, hρ, hv⟩ := hc
        unfold fieldOf at hf
        split at hf
        · rename_i fs hu
          cases hfs : fs[f]? with
          | none => simp [hfs] at hf
          | some fl =>
            simp only [hfs, Option.map_some, Option.some.injEq, Prod.mk.injEq] at hf
            obtain ⟨rfl, rfl⟩ := hf
            obtain ⟨ti, hti⟩ : ∃ ti, P.info? fl.type = some ti := by
              cases hh : P.info? fl.type with
              | none => simp [szOf, hh] at hsz
              | some ti => exact ⟨ti, rfl⟩
            have hs : ti.size ≠ 0 := by simpa [szOf, hti] using hsz
            refine .mk' (v := .pointer (some ⟨b, base + (i * wd + (g + fl.offset)), none⟩)) (fun w => ?_) h ⟨b, base, cap, hρ, rfl⟩
            have hadd : base + (i * wd + g) + fl.offset = base + (i * wd + (g + fl.offset)) := by omega
            simp [execOp, ho, Instr.fieldAt, run_underlying hu, hfs, hv, Instr.sureAddr, fieldPlace, sizeOf, typeInfo, hti, hs, add_lit, hadd]
        · cases hf
      · rename_i y wd i g he
        rw [he] at hc
        simp only [Den] at hc
        obtain ⟨ad, n, c, hy, hv⟩ := hc
        unfold fieldOf at hf
        split at hf
        · rename_i fs hu
          cases hfs : fs[f]? with
          | none => simp [hfs] at hf
          | some fl =>
            simp only [hfs, Option.map_some, Option.some.injEq, Prod.mk.injEq] at hf
            obtain ⟨rfl, rfl⟩ := hf
            obtain ⟨ti, hti⟩ : ∃ ti, P.info? fl.type = some ti := by
              cases hh : P.info? fl.type with
              | none => simp [szOf, hh] at hsz
              | some ti => exact ⟨ti, rfl⟩
            have hs : ti.size ≠ 0 := by simpa [szOf, hti] using hsz
            refine .mk' (v := .pointer (some (ad.add (i * wd + (g + fl.offset))))) (fun w => ?_) h ⟨ad, n, c, hy, rfl⟩
            have hadd : (ad.add (i * wd + g)).add fl.offset = ad.add (i * wd + (g + fl.offset)) := by rw [Addr.add_add, Nat.add_assoc]
            simp [execOp, ho, Instr.fieldAt, run_underlying hu, hfs, hv, Instr.sureAddr, fieldPlace, sizeOf, typeInfo, hti, hs, hadd]
        · cases hf
      · exact h.elim
  · simp [vcOp] at h

theorem s_ext {o : Oper} {x : Operand} {i : Nat} (ho : o.op = .extract x i) (h : vcOp Γ (.ext (carg x) i) tm hp M K) : POk P o a ρ fun v => K v hp M := by
  have _ := @H
  simp only [vcOp, vExt, force_eq] at h
  have hc := ev_den hD x
  split at h
  · rename_i l he
    rw [he] at hc
    simp only [Den] at hc
    obtain ⟨cs, hv, hd⟩ := hc
    split at h
    · rename_i y r hy
      rw [dropN_eq] at hy
      have hy' : l[i]? = some y := by
        have := congrArg (fun l => l[0]?) hy
        simpa using this
      obtain ⟨u, hu, hdu⟩ := hd.get hy'
      exact .mk' (v := u) (fun w => by simp [execOp, ho, hv, Instr.extract, hu]) h hdu
    · exact h.elim
  · exact h.elim

theorem s_iface {o : Oper} {t : TypeId} {x : Operand} (ho : o.op = .makeInterface t x) (h : vcOp Γ (.iface t (carg x)) tm hp M K) (hc : P.concrete t = true) : POk P o a ρ fun v => K v hp M := by
  have _ := @H
  simp only [vcOp, force_eq] at h
  exact .mk' (v := .iface t (a.eval x)) (fun w => by simp [execOp, ho, run_makeInterface w t _ hc]) h ⟨_, rfl, ev_den hD x⟩

theorem s_clo {o : Oper} {f : Fn} {xs ys : Array Operand} (ho : o.op = .makeFunc f xs ys) (h : vcOp Γ (.clo f (xs.toList.map carg) (ys.toList.map carg)) tm hp M K) : POk P o a ρ fun v => K v hp M := by
  simp only [vcOp, evK_eq] at h
  refine .mk' (v := .func f (xs.map a.eval) (ys.map a.eval)) (fun w => by simp [execOp, ho, Instr.makeFunc]) h ⟨xs.toList.map a.eval, ys.toList.map a.eval, ?_, evL_den H hD _, evL_den H hD _⟩
  congr 1 <;> (apply Array.ext'; simp)

theorem s_un {o : Oper} {op : UnOp} {t : TypeId} {x : Operand} (ho : o.op = .unOp op t x) (h : vcOp Γ (.un op (carg x)) tm hp M K) : POk P o a ρ fun v => K v hp M := by
  have _ := @H
  simp only [vcOp, vUn] at h
  have hc := ev_den hD x
  split at h
  · rename_i k n he
    rw [he] at hc
    simp only [Den] at hc
    exact .mk' (v := .int k (k.wrap (0 - n))) (fun w => by simp [execOp, ho, ← hc, Op.unary, Op.intArith]) h rfl
  · rename_i k n he
    rw [he] at hc
    simp only [Den] at hc
    exact .mk' (fun w => by simp only [execOp, ho, ← hc, Op.unary, Op.intBits]; rfl) h rfl
  · rename_i b he
    rw [he] at hc
    simp only [Den] at hc
    exact .mk' (v := .bool !b) (fun w => by simp [execOp, ho, ← hc, Op.unary]) h rfl
  · exact h.elim

theorem s_cap {o : Oper} {c : Call} {x : Operand} {t : TypeId} {e : TypeId} (ho : o.op = .call c) (hc1 : c.callee = .builtin .cap) (hc2 : c.args = #[x]) (hc3 : c.argTypes = #[t]) (hu : P.underlying t = some (.slice e))
    (h : vcOp Γ (.cap (carg x)) tm hp M K) : POk P o a ρ fun v => K v hp M := by
  have _ := @H
  have key : ∀ (w : World) (ad : Option Addr) (n cp : Nat), a.eval x = .slice ad n cp → (execOp a.eval o).run P w = .ok (.value (.int .i64 cp)) w := by
    intro w ad n cp he
    simp [execOp, ho, resolve, hc1, hc2, hc3, invoke, builtin, Builtin.cap_, he, run_underlying hu, goInt]
  simp only [vcOp, vCap] at h
  have hc := ev_den hD x
  split at h
  · rename_i hn
    obtain ⟨ad, hv⟩ := isNilS_den hn hc
    exact .mk' (fun w => key w _ _ _ hv) h rfl
  · exact h.elim
theorem s_len {o : Oper} {c : Call} {x : Operand} {t : TypeId} {e : TypeId} (ho : o.op = .call c) (hc1 : c.callee = .builtin .len) (hc2 : c.args = #[x]) (hc3 : c.argTypes = #[t]) (hu : P.underlying t = some (.slice e))
    (h : vcOp Γ (.len (carg x)) tm hp M K) : POk P o a ρ fun v => K v hp M := by
  have _ := @H
  have key : ∀ (w : World) (ad : Option Addr) (n cp : Nat), a.eval x = .slice ad n cp → (execOp a.eval o).run P w = .ok (.value (.int .i64 n)) w := by
    intro w ad n cp he
    simp [execOp, ho, resolve, hc1, hc2, hc3, invoke, builtin, Builtin.len_, he, run_underlying hu, goInt]
  simp only [vcOp, vLen] at h
  have hc := ev_den hD x
  split at h
  · rename_i hn
    obtain ⟨ad, hv⟩ := isNilS_den hn hc
    exact .mk' (fun w => key w _ _ _ hv) h rfl
  · split at h
    · rename_i n wd i len he
      rw [he] at hc
      simp only [Den] at hc
      obtain ⟨ad, cp, hv, _⟩ := hc
      exact .mk' (fun w => key w _ _ _ hv) h rfl
    · rename_i y he
      rw [he] at hc
      simp only [Den] at hc
      obtain ⟨hv, ad, n, c, rfl, _⟩ := hc
      exact .mk' (fun w => key w _ _ _ hv) h rfl
    · rename_i n wd len c he
      rw [he] at hc
      simp only [Den] at hc
      obtain ⟨b, base, cap, _, hv, _⟩ := hc
      exact .mk' (fun w => key w _ _ _ hv) h rfl
    · exact h.elim

theorem s_idx {o : Oper} {t e : TypeId} {x i : Operand} (ho : o.op = .indexAddr t x i) (hu : P.underlying t = some (.slice e)) (hi : (P.info? e).isSome = true) (h : vcOp Γ (.idx (szOf P e) (carg x) (carg i)) tm hp M K) : POk P o a ρ fun v => K v hp M := by
  have _ := @H
  simp only [vcOp, vIdx] at h
  have hx := ev_den hD x
  split at h
  case h_3 => exact h.elim
  case h_2 =>
    rename_i y he
    rw [he] at hx
    simp only [Den] at hx
    obtain ⟨hv, ad, n, cp, rfl, hlc, hnn⟩ := hx
    obtain ⟨k, q, hq, h0, h1, h⟩ := int_den h (ev_den hD i)
    obtain ⟨ti, hti⟩ := Option.isSome_iff_exists.1 hi
    have hsz : szOf P e = ti.size := by simp [szOf, hti]
    cases ad with
    | none => have := hnn rfl; subst this; have h1' : q < ((0 : Nat) : Int) := h1; omega
    | some ad =>
      refine .mk' (v := .pointer (some (ad.add (q.toNat * szOf P e + 0)))) (fun w => ?_) h ⟨ad, n, cp, rfl, rfl⟩
      rw [hsz, Nat.add_zero]
      have h1' : q < (n : Int) := h1
      simp [execOp, ho, Instr.indexAt, hq, asIntOf, hv, run_underlying hu, h0, h1', sizeOf, typeInfo, hti]
  rename_i n wd j len he
  rw [he] at hx
  simp only [Den] at hx
  obtain ⟨ad, cp, hv, hlc, hor⟩ := hx
  have h' := int_den h (ev_den hD i)
  clear h
  obtain ⟨k, q, hq, h⟩ := h'
  split at h
  case h_2 => exact h.elim
  rename_i hw
  have hw := Nat.eq_of_beq_eq_true hw
  subst hw
  obtain ⟨h0, h1, h⟩ := h
  rcases hor with h2 | ⟨b, base, cap, hρ, rfl, hcap⟩
  · omega
  obtain ⟨ti, hti⟩ := Option.isSome_iff_exists.1 hi
  have hrun : ∀ w, (execOp a.eval o).run P w = .ok (.value (.pointer (some ⟨b, base + j * szOf P e + q.toNat * szOf P e, none⟩))) w := by
    intro w
    have hsz : szOf P e = ti.size := by simp [szOf, hti]
    rw [hsz]
    simp [execOp, ho, Instr.indexAt, hq, asIntOf, hv, run_underlying hu, h0, h1, sizeOf, typeInfo, hti, add_lit, hsz]
  have hmul : base + j * szOf P e + q.toNat * szOf P e = base + ((j + q.toNat) * szOf P e) := by rw [Nat.add_mul]; omega
  rw [hmul] at hrun
  split at h
  · exact .mk' (fun w => hrun w) h ⟨b, base, cap, hρ, by simp⟩
  · exact .mk' (fun w => hrun w) h ⟨b, base, cap, hρ, by simp⟩

theorem s_idxa {o : Oper} {t e : TypeId} {n : Nat} {x i : Operand} (ho : o.op = .indexAddr t x i) (hu : P.underlying t = some (.array n e)) (hi : (P.info? e).isSome = true) (h : vcOp Γ (.idxa n (szOf P e) (carg x) (carg i)) tm hp M K) : POk P o a ρ fun v => K v hp M := by
  have _ := @H
  simp only [vcOp, vIdxa] at h
  have hx := ev_den hD x
  split at h
  case h_2 => exact h.elim
  rename_i nm wd j f he
  rw [he] at hx
  simp only [Den] at hx
  obtain ⟨b, base, cap, hρ, hv⟩ := hx
  have h' := int_den h (ev_den hD i)
  clear h
  obtain ⟨k, q, hq, m, rfl, hm, h⟩ := h'
  obtain ⟨ti, hti⟩ := Option.isSome_iff_exists.1 hi
  have hsz : szOf P e = ti.size := by simp [szOf, hti]
  refine .mk' (v := .pointer (some ⟨b, base + (j * wd + (f + m * szOf P e)), none⟩)) (fun w => ?_) h ⟨b, base, cap, hρ, rfl⟩
  have e : base + (j * wd + f) + m * ti.size = base + (j * wd + (f + m * szOf P e)) := by rw [hsz]; omega
  rw [← e]
  simp [execOp, ho, Instr.indexAt, Instr.sureAddr, hq, asIntOf, hv, run_underlying hu, hm, sizeOf, typeInfo, hti, add_lit]
theorem s_ixv {o : Oper} {t e : TypeId} {n : Nat} {x i : Operand} (ho : o.op = .index t x i) (hu : P.underlying t = some (.array n e)) (hue : (P.underlying e).isSome = true) (hi : (P.info? e).isSome = true) (hag : isAggT P e = false) (hsz : szOf P e = 1)
    (h : vcOp Γ (.ixv n (carg x) (carg i)) tm hp M K) : POk P o a ρ fun v => K v hp M := by
  have _ := @H
  simp only [vcOp, vIxv] at h
  have hx := ev_den hD x
  split at h
  case h_2 => exact h.elim
  rename_i l he
  rw [he] at hx
  simp only [Den] at hx
  obtain ⟨cs, hv, hdl⟩ := hx
  have h' := int_den h (ev_den hD i)
  clear h
  obtain ⟨k, q, hq, m, rfl, hm, h⟩ := h'
  obtain ⟨d, hd⟩ := Option.isSome_iff_exists.1 hue
  obtain ⟨ti, hti⟩ := Option.isSome_iff_exists.1 hi
  have hsz : ti.size = 1 := by rw [← hsz]; simp [szOf, hti]
  have hagr : ∀ w, (isAgg e).run P w = .ok (isAggT P e) w := by
    intro w
    cases d <;> simp [isAgg, isAggT, run_underlying hd, hd]
  split at h
  · rename_i y r hy
    rw [dropN_eq] at hy
    have hy' : l[m]? = some y := by
      have := congrArg (fun l => l[0]?) hy
      simpa using this
    obtain ⟨u, hu', hdu⟩ := hdl.get hy'
    exact .mk' (v := u) (fun w => by simp [execOp, ho, Instr.index, hq, asIntOf, run_underlying hu, hv, hm, part, hagr, hag, hu', sizeOf, typeInfo, hti, hsz]) h hdu
  · exact h.elim

theorem s_call {o : Oper} {c : Call} {f : FuncId} (hG : GOK P Γ) (ho : o.op = .call c) (hc1 : c.callee = .value (.func f)) (h : vcOp Γ (.call f (c.args.toList.map carg)) tm hp M K) : OpWp P o a w (Post K hp.length ρ M F w) := by
  simp only [vcOp, evK_eq, vCall] at h
  split at h
  case h_2 => exact h.elim
  rename_i T hT
  obtain ⟨⟨fn, hf1, hf2, hf3⟩, hT⟩ := hG f T hT
  have hcalls := hT _ _ _ _ h ρ F w _ H (evL_den H hD c.args.toList)
  have hargs : (c.args.toList.map a.eval).toArray = c.args.map a.eval := by apply Array.ext'; simp
  rw [hargs] at hcalls
  refine .of_enter (w' := w) (f := f) (args := c.args.map a.eval) ?_ hcalls
  have hb : fn.body.isNone = false := by cases hfb : fn.body <;> simp_all
  have hcf : (callFunc f (c.args.map a.eval)).run P w = .ok (.enter f (c.args.map a.eval)) w := by
    simp only [callFunc, Sem.run_bind, run_program, Result.andThen_ok, hf1, hf3, hb, Bool.false_eq_true, if_false]
    rfl
  simp [execOp, ho, resolve, hc1, Act.eval, Deferred.ofValue, invoke, hcf]

theorem s_callv {o : Oper} {c : Call} {g : Operand} (hG : GOK P Γ) (ho : o.op = .call c) (hc1 : c.callee = .value g) (h : vcOp Γ (.callv (carg g) (c.args.toList.map carg)) tm hp M K) : OpWp P o a w (Post K hp.length ρ M F w) := by
  simp only [vcOp, evK_eq, vCallv] at h
  have hg := ev_den hD g
  split at h
  case h_2 => exact h.elim
  rename_i f first caps he
  rw [he] at hg
  simp only [Den] at hg
  obtain ⟨x, y, hv, hd1, hd2⟩ := hg
  unfold vCall at h
  split at h
  case h_2 => exact h.elim
  rename_i T hT
  obtain ⟨⟨fn, hf1, hf2, hf3⟩, hT⟩ := hG f T hT
  have hcalls := hT _ _ _ _ h ρ F w _ H ((hd1.append (evL_den H hD c.args.toList)).append hd2)
  have hargs : (x ++ c.args.toList.map a.eval ++ y).toArray = x.toArray ++ c.args.map a.eval ++ y.toArray := by apply Array.ext'; simp
  rw [hargs] at hcalls
  refine .of_enter (w' := w) (f := f) ?_ hcalls
  have hb : fn.body.isNone = false := by cases hfb : fn.body <;> simp_all
  have hcf : ∀ z, (callFunc f z).run P w = .ok (.enter f z) w := by
    intro z
    simp only [callFunc, Sem.run_bind, run_program, Result.andThen_ok, hf1, hf3, hb, Bool.false_eq_true, if_false]
    rfl
  simp [execOp, ho, resolve, hc1, hv, Deferred.ofValue, invoke, hcf]

theorem s_part {o : Oper} {t : TypeId} {x : Operand} {f : Nat} (ho : o.op = .field t x f) (h : vcOp Γ (cop P o) tm hp M K) : POk P o a ρ fun v => K v hp M := by
  have _ := @H
  simp only [cop, ho] at h
  split at h
  · rename_i off ft hf
    split at h
    case isFalse => simp [vcOp] at h
    rename_i hside
    obtain ⟨hu, hi⟩ := hside
    obtain ⟨d, hd⟩ := Option.isSome_iff_exists.1 hu
    obtain ⟨ti, hti⟩ := Option.isSome_iff_exists.1 hi
    have hag : ∀ w, (isAgg ft).run P w = .ok (isAggT P ft) w := by
      intro w
      cases d <;> simp [isAgg, isAggT, run_underlying hd, hd]
    simp only [vcOp, vPart] at h
    have hx := ev_den hD x
    split at h
    · rename_i l he
      rw [he] at hx
      simp only [Den] at hx
      obtain ⟨cs, hv, hdl⟩ := hx
      unfold fieldOf at hf
      split at hf
      · rename_i fs hus
        cases hfs : fs[f]? with
        | none => simp [hfs] at hf
        | some fl =>
          simp only [hfs, Option.map_some, Option.some.injEq, Prod.mk.injEq] at hf
          obtain ⟨rfl, rfl⟩ := hf
          unfold sizeO at h
          cases hb : isAggT P fl.type with
          | false =>
            simp only [hb, Bool.false_eq_true, if_false] at h
            split at h
            · rename_i y r hy
              rw [dropN_eq] at hy
              have hy' : l[fl.offset]? = some y := by
                have := congrArg (fun l => l[0]?) hy
                simpa using this
              obtain ⟨u, hu', hdu⟩ := hdl.get hy'
              exact .mk' (v := u) (fun w => by simp [execOp, ho, Instr.field, run_underlying hus, hfs, hv, asAgg, part, hag, hb, hu']) h hdu
            · exact h.elim
          | true =>
            simp only [hb, if_true, szOf, hti, Option.map_some, Option.getD_some] at h
            rw [takeN_iff, dropN_eq] at h
            refine .mk' (v := .agg (cs.toArray.extract fl.offset (fl.offset + ti.size))) (fun w => by simp [execOp, ho, Instr.field, run_underlying hus, hfs, hv, asAgg, part, hag, hb, sizeOf, typeInfo, hti]) h.2 ⟨_, ?_, (hdl.drop _).take _⟩
            congr 1
            apply Array.ext'
            simp [List.extract]
      · cases hf
    · exact h.elim
  · simp [vcOp] at h

theorem s_bin {o : Oper} {op : BinOp} {t u : TypeId} {x y : Operand} (ho : o.op = .binOp op t x y u) (h : vcOp Γ (.bin op (carg x) (carg y)) tm hp M K) : POk P o a ρ fun v => K v hp M := by
  have _ := @H
  simp only [vcOp, vBin] at h
  have hx := ev_den hD x
  have hy := ev_den hD y
  split at h
  · rename_i k p k' q he1 he2
    rw [he1] at hx
    rw [he2] at hy
    simp only [Den] at hx hy
    have hg : ∀ w op, (eqGuard op t x y (.int k p) (.int k' q)).run P w = .ok () w := by
      intro w op
      cases op <;> simp [eqGuard]
    have fin : ∀ {v : Value} (w : World), (Go.binOp op t (.int k p) (.int k' q)).run P w = .ok v w → (execOp a.eval o).run P w = .ok (.value v) w := by
      intro v w hv
      simp [execOp, ho, ← hx, ← hy, hg, hv]
    have cases2 : ∀ op', op' ≠ .shl → op' ≠ .shr → kEq k k' = true → Go.binOp op' t (.int k p) (.int k' q) = (match op' with
      | .add | .sub | .mul => Op.intArith op' k p q
      | .quo | .rem => Op.intDiv op' k p q
      | .and | .or | .xor | .andNot => Op.intBits op' k p q
      | _ => Op.intCmp op' p q) := by
      intro op' h1 h2 hk
      have := kEq_eq hk
      subst this
      cases op' <;> simp [Go.binOp] at h1 h2 ⊢
    have hc0 := cases2 op
    cases op
    case shl => exact .mk' (fun w => fin w (by simp only [Go.binOp, Op.shift]; rw [if_neg (by omega)]; rfl)) h.2 rfl
    case shr => exact .mk' (fun w => fin w (by simp only [Go.binOp, Op.shift]; rw [if_neg (by omega)]; rfl)) h.2 rfl
    all_goals
      dsimp only at h
      split at h
      case h_2 => exact h.elim
      rename_i hk
      have hc := hc0 (by decide) (by decide) hk
      dsimp only at h hc
      first
        | exact .mk' (fun w => fin w (by rw [hc]; simp only [Op.intDiv]; rw [if_neg h.1]; rfl)) h.2 rfl
        | exact .mk' (fun w => fin w (by rw [hc]; simp only [Op.intArith, Op.intBits, Op.intCmp]; rfl)) h rfl
        | exact h.elim
  · exact h.elim

theorem s_eqb {o : Oper} {op : BinOp} {t u : TypeId} {x y : Operand} (ho : o.op = .binOp op t x y u) (hop : op = .eql ∨ op = .neq) (h : vcOp Γ (.eqb (isNeq op) (carg x) (carg y)) tm hp M K) (hb : P.underlying t = some .bool) : POk P o a ρ fun v => K v hp M := by
  have _ := @H
  simp only [vcOp, vEqb] at h
  have hx := ev_den hD x
  have hy := ev_den hD y
  split at h
  case h_2 => exact h.elim
  rename_i p q he1 he2
  rw [he1] at hx
  rw [he2] at hy
  simp only [Den] at hx hy
  rcases hop with rfl | rfl
  · exact .mk' (v := .bool (p == q)) (fun w => by simp [execOp, ho, ← hx, ← hy, eqGuard, run_eql_bool w t p q hb]) h rfl
  · exact .mk' (v := .bool (!(p == q))) (fun w => by simp [execOp, ho, ← hx, ← hy, eqGuard, run_neq_bool w t p q hb]) h rfl

theorem s_box {o : Oper} {e : TypeId} {x : Operand} (ho : o.op = .box e x) (h : vcOp Γ (.box e (carg x)) tm hp M K) : OpWp P o a w (Post K hp.length ρ M F w) := by
  simp only [vcOp, vBox] at h
  obtain ⟨l, h, hfl⟩ := flat_iff h
  split at h
  case h_2 => exact h.elim
  rename_i hone
  rw [epush_iff, lenK_eq, llen_eq] at h
  obtain ⟨hd, _⟩ := den_flat (ev_den hD x) hfl hone
  refine .of_value (w' := w.alloc (.cells (a.eval x).cells e)) (v := .pointer (some ⟨w.heap.size, 0, none⟩)) (by simp [execOp, ho, Instr.box, newVar, newRow]) ?_
  have hle := H.le (grow_ext ρ hp.length (some (w.heap.size, 0, 1)))
  refine ⟨_, grow ρ hp.length (some (w.heap.size, 0, 1)), _, M, F, h, by simp, grow_ext _ _ _, H.alloc rfl ?_, Gr.refl M F, ⟨rfl, rfl, rfl, by simp⟩, ⟨w.heap.size, 0, 1, grow_self _ _ _, by simp⟩⟩
  exact ⟨w.heap.size, 1, _, grow_self _ _ _, heap_alloc_new w _, hd.mono hle⟩

theorem s_alloc {o : Oper} {e : TypeId} (ho : o.op = .alloc e) (h : vcOp Γ (cop P o) tm hp M K) : OpWp P o a w (Post K hp.length ρ M F w) := by
  have _ := @hD
  simp only [cop, ho] at h
  split at h
  case h_2 => simp [vcOp] at h
  rename_i z hz
  simp only [vcOp, vBox] at h
  obtain ⟨l, h, hfl⟩ := flat_iff h
  split at h
  case h_2 => exact h.elim
  rename_i hone
  rw [epush_iff, lenK_eq, llen_eq] at h
  obtain ⟨hd, _⟩ := den_flat (ρ := ρ) (den_ofV ρ z) hfl hone
  unfold zeroOf at hz
  obtain ⟨ti, hti, hz'⟩ := Option.bind_eq_some_iff.1 hz
  refine .of_value (w' := w.alloc (.cells z.cells e)) (v := .pointer (some ⟨w.heap.size, 0, none⟩)) (by simp [execOp, ho, Instr.alloc, zeroValue, typeInfo, hti, hz', newVar, newRow]) ?_
  have hle := H.le (grow_ext ρ hp.length (some (w.heap.size, 0, 1)))
  refine ⟨_, grow ρ hp.length (some (w.heap.size, 0, 1)), _, M, F, h, by simp, grow_ext _ _ _, H.alloc rfl ?_, Gr.refl M F, ⟨rfl, rfl, rfl, by simp⟩, ⟨w.heap.size, 0, 1, grow_self _ _ _, by simp⟩⟩
  exact ⟨w.heap.size, 1, _, grow_self _ _ _, heap_alloc_new w _, hd.mono hle⟩

theorem s_minmax {o : Oper} {c : Call} {mx : Bool} (ho : o.op = .call c) (hc1 : c.callee = .builtin (if mx then .max else .min)) (h : vcOp Γ (.minmax mx (c.args.toList.map carg)) tm hp M K) : POk P o a ρ fun v => K v hp M := by
  simp only [vcOp, vMinmax] at h
  have hl := evL_den H hD c.args.toList
  split at h
  case h_2 => exact h.elim
  rename_i k p r he
  rw [he] at hl
  have key : ∀ (r : List SV) (ys : List Value) (p : Int), DenL ρ r ys → vFold mx k r p (fun v => K v hp M) → ∃ q, (∀ w, (ys.foldlM (if mx then Builtin.max2 else Builtin.min2) (.int k p)).run P w = .ok (.int k q) w) ∧ K (.v (.int k q)) hp M := by
    intro r
    induction r with
    | nil => intro ys p hd hf; cases ys with
      | nil => exact ⟨p, fun _ => rfl, hf⟩
      | cons => simp [DenL] at hd
    | cons s r ih => intro ys p hd hf; cases ys with
      | nil => simp [DenL] at hd
      | cons y ys =>
        simp only [DenL] at hd
        unfold vFold at hf
        split at hf
        · rename_i h0; cases h0
        · rename_i k' q r' h0
          cases h0
          simp only [Den] at hd
          cases mx with
          | true =>
            obtain ⟨z, h1, h2⟩ := ih ys _ hd.2 hf
            refine ⟨z, fun w => ?_, h2⟩
            have h1 := h1 w
            simp only [if_true] at h1 ⊢
            simp only [List.foldlM_cons, Sem.run_bind, ← hd.1, Builtin.max2, Sem.run_pure, Result.andThen_ok]
            exact h1
          | false =>
            obtain ⟨z, h1, h2⟩ := ih ys _ hd.2 hf
            refine ⟨z, fun w => ?_, h2⟩
            have h1 := h1 w
            simp only [Bool.false_eq_true, if_false] at h1 ⊢
            simp only [List.foldlM_cons, Sem.run_bind, ← hd.1, Builtin.min2, Sem.run_pure, Result.andThen_ok]
            exact h1
        · exact hf.elim
  cases hm : c.args.toList.map a.eval with
  | nil => rw [hm] at hl; simp [DenL] at hl
  | cons y ys =>
    rw [hm] at hl
    simp only [DenL, Den] at hl
    obtain ⟨q, h1, h2⟩ := key r ys p hl.2 h
    have hargs : c.args.map a.eval = (y :: ys).toArray := by apply Array.ext'; simp [← hm]
    refine .mk' (v := .int k q) (fun w => ?_) h2 rfl
    cases mx with
    | true =>
      simp only [if_true] at h1 hc1
      simp [execOp, ho, resolve, hc1, invoke, builtin, Builtin.max_, hargs, ← hl.1, h1]
    | false =>
      simp only [Bool.false_eq_true, if_false] at h1 hc1
      simp [execOp, ho, resolve, hc1, invoke, builtin, Builtin.min_, hargs, ← hl.1, h1]
end
end Go.Vc
/-
  Symbolic execution, part G: the operations that build, slice, append.
-/
namespace Go.Vc

theorem zipIdx_set (off : Nat) : ∀ (l : List Value) (k : Nat) (cs : Array Value), off + k + l.length ≤ cs.size →
    ((l.zipIdx k).foldl (fun cs (c, j) => cs.setIfInBounds (off + j) c) cs).toList = cs.toList.take (off + k) ++ l ++ cs.toList.drop (off + k + l.length)
  | [], k, cs, _ => by simp
  | x :: l, k, cs, h => by
    simp only [List.zipIdx_cons, List.foldl_cons]
    rw [zipIdx_set off l (k + 1) _ (by simp at h ⊢; omega)]
    simp only [Array.toList_setIfInBounds, List.length_cons]
    have hk : off + k < cs.toList.length := by simp at h ⊢; omega
    have e1 : (cs.toList.set (off + k) x).take (off + (k + 1)) = cs.toList.take (off + k) ++ [x] := by
      apply List.ext_getElem?
      intro j
      rw [List.getElem?_take]
      by_cases hj : j < off + k
      · rw [if_pos (by omega), List.getElem?_set_ne (by omega), List.getElem?_append_left (by simp; omega), List.getElem?_take_of_lt hj]
      · by_cases hj2 : j = off + k
        · subst hj2
          rw [if_pos (by omega), List.getElem?_set_self hk, List.getElem?_append_right (by simp; omega)]
          simp at hk ⊢
          rw [Nat.min_eq_left (by omega)]
          simp
        · rw [if_neg (by omega), List.getElem?_eq_none]
          simp at hk ⊢; omega
    rw [e1, List.drop_set_of_lt (by omega), show off + (k + 1) + l.length = off + k + (l.length + 1) by omega]
    simp

theorem DenL.split {ρ : Nat → Loc} (k : Nat) {s : List SV} {y : List Value} (h : DenL ρ s y) : DenL ρ (s.take k) (y.take k) ∧ DenL ρ (s.drop k) (y.drop k) := ⟨h.take k, h.drop k⟩
theorem rowsOf_spec {ρ : Nat → Loc} (ck : List CK) : ∀ (n : Nat) (l : List SV) (K : List (List Value) → Prop), l.length = n * ck.length → rowsOf ck n l K →
    ∃ rows, K rows ∧ rows.length = n ∧ ∀ us, DenL ρ l us → us = rows.flatten ∧ (∀ (i : Nat) (r : List Value), rows[i]? = some r → r.length = ck.length ∧ ∀ (f : Nat) (k : CK) (x : Value), ck[f]? = some k → r[f]? = some x → k.fits x)
  | 0, l, K, hl, h => ⟨[], h, rfl, fun us hu => by
    have := hu.length
    rw [hl] at this
    exact ⟨List.eq_nil_of_length_eq_zero (by omega), by simp⟩⟩
  | n + 1, l, K, hl, h => by
    simp only [rowsOf, llen_eq, dropN_eq] at h
    rw [takeN_iff] at h
    obtain ⟨hle, h⟩ := h
    obtain ⟨vs, h, hvs, hrig, _, hvl⟩ := valsOf_spec (ρ := ρ) h
    have hl2 : (l.drop ck.length).length = n * ck.length := by rw [List.length_drop, hl, Nat.succ_mul]; omega
    obtain ⟨rows, h1, h2, h3⟩ := rowsOf_spec (ρ := ρ) ck n _ _ hl2 h
    have hvlen : vs.length = ck.length := by
      rw [List.length_take] at hvs; omega
    refine ⟨vs :: rows, h1, by simp [h2], fun us hu => ?_⟩
    obtain ⟨hu1, hu2⟩ := hu.split ck.length
    obtain ⟨e1, hfit⟩ := hrig _ hu1
    obtain ⟨e2, h4⟩ := h3 _ hu2
    refine ⟨?_, ?_⟩
    · rw [List.flatten_cons, ← e2, ← e1, List.take_append_drop]
    · intro i r hr
      cases i with
      | zero => simp at hr; subst hr; exact ⟨hvlen, hfit⟩
      | succ i => exact h4 i r (by simpa using hr)

theorem flatten_get {w : Nat} : ∀ (rows : List (List Value)), (∀ r ∈ rows, r.length = w) → ∀ (i f : Nat) (r : List Value) (x : Value), rows[i]? = some r → r[f]? = some x → f < w → rows.flatten[i * w + f]? = some x
  | [], _, i, f, r, x, hr, _, _ => by simp at hr
  | r0 :: rows, hw, 0, f, r, x, hr, hx, hf => by
    simp at hr
    subst hr
    have := hw r0 (by simp)
    rw [List.flatten_cons, Nat.zero_mul, Nat.zero_add, List.getElem?_append_left (by omega)]
    exact hx
  | r0 :: rows, hw, i + 1, f, r, x, hr, hx, hf => by
    have h0 := hw r0 (by simp)
    rw [List.flatten_cons, List.getElem?_append_right (by rw [Nat.succ_mul]; omega), h0, show (i + 1) * w + f - w = i * w + f by rw [Nat.succ_mul]; omega]
    exact flatten_get rows (fun r hr => hw r (by simp [hr])) i f r x (by simpa using hr) hx hf

theorem denL_vs_eq {ρ : Nat → Loc} : ∀ (vs us : List Value), DenL ρ (vs.map .v) us → us = vs
  | [], [], _ => rfl
  | [], _ :: _, h => by simp [DenL] at h
  | _ :: _, [], h => by simp [DenL] at h
  | x :: r, u :: us, h => by simp only [List.map_cons, DenL, Den] at h; rw [h.1, denL_vs_eq r us h.2]

theorem rowAt_flatten {ck : List CK} {rows : List (List Value)} {cur : Array Value} {base : Nat}
    (hall : ∀ (i : Nat) (r : List Value), rows[i]? = some r → r.length = ck.length ∧ ∀ (f : Nat) (k : CK) (x : Value), ck[f]? = some k → r[f]? = some x → k.fits x)
    (hcur : ∀ j x, rows.flatten[j]? = some x → cur[base + j]? = some x) : RowAt ck cur base rows := by
  intro i r hr
  obtain ⟨h1, h2⟩ := hall i r hr
  refine ⟨h1, fun f k x hk hx => ⟨?_, h2 f k x hk hx⟩⟩
  refine hcur _ _ (flatten_get rows (fun r' hr' => ?_) i f r x hr hx (List.getElem?_eq_some_iff.1 hk).1)
  obtain ⟨j, hj⟩ := List.getElem?_of_mem hr'
  exact (hall j r' hj).1

/-- A new row. -/
theorem Holds.newRow {ρ : Nat → Loc} {hp : List Ent} {M F : HL} {w w' : World} (H : Holds ρ hp M F w) {e : TypeId} {ck : List CK} {rows : List (List Value)} {cur : Array Value} (hh : w'.heap = w.heap.push (.cells cur e (0, 0))) {cap : Nat}
    (hck : 0 < ck.length) (hcap : cap ≤ maxLen) (hsz : cur.size = cap * ck.length) (hlen : rows.length ≤ cap) (hrow : RowAt ck cur 0 rows) :
    Holds (grow ρ hp.length (some (w.heap.size, 0, cap))) (hp ++ [.row true e ck rows]) M F w' := by
  refine H.alloc hh ?_
  simp only [EntOK, grow_self, if_true]
  refine ⟨hck, cur, (0, 0), ⟨?_, by omega, hcap⟩, hlen, hrow⟩
  rw [hh, Array.getElem?_push, if_pos rfl]

section
variable {P : Program} {Γ : Nat → Option Trans} {tm : List SV} {hp : List Ent} {M F : HL} {K : SV → List Ent → HL → Prop} {ρ : Nat → Loc} {w : World} {a : Act}

/-- The parts of a value, laid one after the other. -/
theorem fill_parts (hD : DenL ρ tm a.tmps.toList) (place : Nat → Option (Nat × Nat)) : ∀ (ps : List (Nat × Operand)) (qs : List (Nat × Nat × PArg)) (zs : List SV) (cs : Array Value) (K : List SV → Prop),
    ps.mapM (fun x => (place x.1).map fun (o, s) => (o, s, carg x.2)) = some qs → DenL ρ zs cs.toList → vParts tm qs zs K →
    ∃ l cs', Instr.fill place cs (ps.map fun x => (x.1, a.eval x.2)) = some cs' ∧ K l ∧ DenL ρ l cs'.toList ∧ cs'.size = cs.size
  | [], qs, zs, cs, K, hq, hd, hv => by
    simp at hq
    subst hq
    exact ⟨zs, cs, rfl, hv, hd, rfl⟩
  | (i, x) :: ps, qs, zs, cs, K, hq, hd, hv => by
    simp only [List.mapM_cons, Option.pure_def, Option.bind_eq_bind, Option.bind_eq_some_iff] at hq
    obtain ⟨q, h1, qs', h2, h3⟩ := hq
    cases hpl : place i with
    | none => simp [hpl] at h1
    | some os =>
      obtain ⟨off, size⟩ := os
      simp only [hpl, Option.map_some, Option.some.injEq] at h1
      simp only [Option.some.injEq] at h3
      subst h3
      subst h1
      simp only [vParts] at hv
      obtain ⟨l, hv, hfl⟩ := flat_iff hv
      split at hv
      case h_2 => exact hv.elim
      rename_i hlen hone
      rw [llen_eq] at hlen
      have hlen := Nat.eq_of_beq_eq_true hlen
      rw [overN_iff] at hv
      obtain ⟨hfit, hv⟩ := hv
      obtain ⟨hdl, _⟩ := den_flat (ev_den hD x) hfl hone
      have hl1 := hdl.length
      have hl2 := hd.length
      have hlst := zipIdx_set off (a.eval x).cells.toList 0 cs (by simp at hl1 hl2 ⊢; omega)
      have hcs : (((a.eval x).cells.zipIdx).foldl (fun cs (c, j) => cs.setIfInBounds (off + j) c) cs).toList = cs.toList.take off ++ (a.eval x).cells.toList ++ cs.toList.drop (off + (a.eval x).cells.toList.length) := by
        rw [← Array.foldl_toList, Array.toList_zipIdx]
        simpa using hlst
      have hd' : DenL ρ (zs.take off ++ l ++ zs.drop (off + l.length)) (((a.eval x).cells.zipIdx).foldl (fun cs (c, j) => cs.setIfInBounds (off + j) c) cs).toList := by
        rw [hcs, ← hl1]
        exact ((hd.take off).append hdl).append (hd.drop _)
      obtain ⟨l', cs', h4, h5, h6, h7⟩ := fill_parts hD place ps qs' _ _ K h2 hd' hv
      have hl3 := hd'.length
      refine ⟨l', cs', ?_, h5, h6, ?_⟩
      · simp only [List.map_cons, Instr.fill, hpl]
        rw [if_neg]
        · exact h4
        · simp at hl1 hl2 ⊢
          omega
      · rw [h7]
        simp at hl2 hl3 ⊢
        omega

variable (H : Holds ρ hp M F w) (hD : DenL ρ tm a.tmps.toList)
include H hD

theorem s_build {o : Oper} {t : TypeId} {ps : Array (Nat × Operand)} (ho : o.op = .build t ps) (h : vcOp Γ (cop P o) tm hp M K) : POk P o a ρ fun v => K v hp M := by
  have _ := @H
  simp only [cop, ho] at h
  split at h
  case h_2 => simp [vcOp] at h
  rename_i z l hz hl
  simp only [vcOp] at h
  unfold zeroOf at hz
  obtain ⟨ti, hti, hz'⟩ := Option.bind_eq_some_iff.1 hz
  unfold partsOf at hl
  obtain ⟨pl, hpl, hl⟩ := Option.bind_eq_some_iff.1 hl
  obtain ⟨l', cs', h1, h2, h3, _⟩ := fill_parts hD pl ps.toList l (z.cells.toList.map .v) z.cells _ hl (DenL.vs _) h
  have hpm : (ps.map fun (i, x) => (i, a.eval x)).toList = ps.toList.map fun x => (x.1, a.eval x.2) := by simp
  have hb : P.built t (ps.map fun (i, x) => (i, a.eval x)).toList = some cs' := by
    rw [hpm]
    unfold Program.built
    unfold placesOf at hpl
    split at hpl
    · rename_i fs hu
      obtain ⟨places, hp1, rfl⟩ := Option.map_eq_some_iff.1 hpl
      simp only [hti, hu, hz', hp1]
      exact h1
    · rename_i n e hu
      obtain ⟨ie, hp1, rfl⟩ := Option.map_eq_some_iff.1 hpl
      simp only [hti, hu, hz', hp1]
      exact h1
    · cases hpl
  exact .mk' (v := .agg cs') (fun w => by simp [execOp, ho, run_build w t _ cs' hb]) h2 ⟨cs'.toList, by simp, h3⟩

theorem s_bslice2 {o : Oper} {t : TypeId} {n : Nat} {ps : Array (Nat × Operand)} (ho : o.op = .buildSlice t n ps) (h : vcOp Γ (cop P o) tm hp M K) : OpWp P o a w (fun v w' => Post K hp.length ρ M F w v w' ∧ ∃ ob, w' = w.alloc ob) := by
  simp only [cop, ho] at h
  split at h
  case h_2 => simp [vcOp] at h
  rename_i e hu
  split at h
  case h_2 => simp [vcOp] at h
  rename_i z l hz hl
  split at h
  case isFalse => simp [vcOp] at h
  rename_i hside
  obtain ⟨hz1, hz0, hzc, hz2⟩ := hside
  simp only [vcOp] at h
  unfold zeroOf at hz
  obtain ⟨ti, hti, hz'⟩ := Option.bind_eq_some_iff.1 hz
  have hsz : szOf P e = ti.size := by simp [szOf, hti]
  rw [hsz] at hz1 hz0 hzc hz2 hl
  have hnz : n * ti.size = 0 → n = 0 := fun h0 => by
    rcases Nat.mul_eq_zero.1 h0 with h0 | h0 <;> omega
  rw [hsz] at h
  obtain ⟨l', cs', h1, h2, h3, h4⟩ := fill_parts hD (fun i => some (i * ti.size, ti.size)) ps.toList l _ ((Array.range (n * ti.size)).map (z.cells[· % z.cells.size]!)) _ hl (DenL.vs _) h
  have hcsz : cs'.size = n * ti.size := by rw [h4]; simp
  have hrun : (execOp a.eval o).run P w = .ok (.value (.slice (some ⟨w.heap.size, 0, none⟩) n n)) (w.alloc (.cells cs' e)) := by
    have hpm : (ps.map fun (i, x) => (i, a.eval x)).toList = ps.toList.map fun x => (x.1, a.eval x.2) := by simp
    have h16 : ¬ (16777216 < n * ti.size) := by omega
    by_cases hn : n * ti.size = 0
    · have e0 : (Array.range (n * ti.size)).map (z.cells[· % z.cells.size]!) = (Array.range (n * ti.size)).map ((#[] : Array Value)[· % (#[] : Array Value).size]!) := by
        rw [hn]; simp
      rw [e0] at h1
      simp only [execOp, ho, Instr.buildSlice, Sem.run_bind, run_underlying hu, Result.andThen_ok, sizeOf, typeInfo, run_program, hti, Sem.run_pure, Nat.reducePow, gt_iff_lt, if_neg h16, if_pos hn, hpm, h1, newRow, run_newObj]
      simp [newRow]
    · simp only [execOp, ho, Instr.buildSlice, Sem.run_bind, run_underlying hu, Result.andThen_ok, sizeOf, typeInfo, run_program, hti, Sem.run_pure, Nat.reducePow, gt_iff_lt, if_neg h16, if_neg hn, zeroValue, hz', hpm, h1, newRow, run_newObj]
      simp [newRow]
  have core : ∀ (hp1 : List Ent) (M1 F1 : HL) (l' : List SV), hp1.length = hp.length → Holds ρ hp1 M1 F1 w → Gr M F M1 F1 → DenL ρ l' cs'.toList → vBslice0 e (cks P e) n l' hp1 (fun v hp2 => K v hp2 M1) → OpWp P o a w (fun v w' => Post K hp.length ρ M F w v w' ∧ ∃ ob, w' = w.alloc ob) := by
    clear h2 h3
    intro hp1 M1 F1 l' hl1 H hG h3 h2
    unfold vBslice0 at h2
    split at h2
    · exact h2.elim
    rename_i c0 cr hck
    have hw : (cks P e).length = ti.size := hzc.symm
    have hlen := h3.length
    have hn16 : n ≤ maxLen := by
      have : n ≤ n * ti.size := Nat.le_mul_of_pos_right _ hz0
      unfold maxLen
      omega
    split at h2
    · obtain ⟨rows, h5, h6, h7⟩ := rowsOf_spec (ρ := ρ) (cks P e) n l' _ (by rw [hlen, hw]; simp [hcsz]) h2
      split at h5
      case h_2 => exact h5.elim
      rw [epush_iff, lenK_eq, lenK_eq, llen_eq, llen_eq] at h5
      obtain ⟨h9, h8⟩ := h7 _ h3
      rw [hl1] at h5
      refine .of_value hrun ⟨⟨_, grow ρ hp.length (some (w.heap.size, 0, n)), _, M1, F1, h5, by simp [hl1], grow_ext _ _ _, hl1 ▸ H.newRow rfl (by omega) hn16 (by rw [hcsz, hw]) (by omega) (rowAt_flatten h8 ?_), hG, ⟨rfl, rfl, rfl, by simp⟩, ?_⟩, _, rfl⟩
      · intro j x hj
        rw [← h9] at hj
        simpa using hj
      · exact ⟨_, n, rfl, Nat.le_refl _, .inr ⟨w.heap.size, 0, n, grow_self _ _ _, by simp, by omega⟩⟩
    · split at h2
      case h_2 => exact h2.elim
      rw [epush_iff, lenK_eq, lenK_eq, llen_eq, llen_eq] at h2
      rw [hl1] at h2
      refine .of_value hrun ⟨⟨_, grow ρ hp.length (some (w.heap.size, 0, n)), _, M1, F1, h2, by simp [hl1], grow_ext _ _ _, hl1 ▸ H.alloc rfl ?_, hG, ⟨rfl, rfl, rfl, by simp⟩, ?_⟩, _, rfl⟩
      · exact ⟨w.heap.size, n, cs', grow_self _ _ _, heap_alloc_new w _, h3.mono (H.le (grow_ext _ _ _))⟩
      · exact ⟨_, n, rfl, Nat.le_refl _, .inr ⟨w.heap.size, 0, n, grow_self _ _ _, by simp, by omega⟩⟩
  unfold vBslice at h2
  split at h2
  · obtain ⟨l1, hp1, M1, F1, h5, h6, h7, h8, h9, _⟩ := frzL_sound h2 H h3
    exact core hp1 M1 F1 l1 h6 h7 h8 h9 h5
  · exact core hp M F l' rfl H (Gr.refl M F) h3 h2
theorem s_bslice {o : Oper} {t : TypeId} {n : Nat} {ps : Array (Nat × Operand)} (ho : o.op = .buildSlice t n ps) (h : vcOp Γ (cop P o) tm hp M K) : OpWp P o a w (Post K hp.length ρ M F w) :=
  fun K' Q hk => s_bslice2 H hD ho h K' Q fun v w' hr => hk v w' hr.1
theorem cop_bslice {o : Oper} {e : TypeId} {ck : List CK} {n : Nat} {z : List SV} {ps : List (Nat × Nat × PArg)} (h : cop P o = .bslice e ck n z ps) : ∃ t n ps, o.op = .buildSlice t n ps := by
  have _ := @H
  have _ := @hD
  cases hop : o.op <;> simp only [cop, hop] at h
  case buildSlice t n ps => exact ⟨t, n, ps, rfl⟩
  all_goals
    first
      | cases h
      | (repeat' split at h) <;> cases h
end
end Go.Vc
/-
  Symbolic execution, part H: make, slice expressions.
-/
namespace Go.Vc

theorem fitsB_fits {k : CK} {x : Value} (h : k.fitsB x = true) : k.fits x := by
  cases k
  case sl =>
    have : x = .slice none 0 0 := by
      simp only [CK.fitsB] at h
      unfold isNil0 at h
      split at h
      · rfl
      · cases h
    subst this
    exact ⟨none, 0, 0, rfl, Nat.le_refl _, fun _ => rfl⟩
  all_goals cases x <;> simp [CK.fitsB] at h <;> simp [CK.fits, Value.oneCell', h]

theorem fitsAll_spec : ∀ {ck : List CK} {l : List Value}, fitsAll ck l = true → l.length = ck.length ∧ ∀ (f : Nat) (k : CK) (x : Value), ck[f]? = some k → l[f]? = some x → k.fits x
  | [], [], _ => ⟨rfl, by simp⟩
  | k :: r, x :: l, h => by
    simp only [fitsAll, Bool.and_eq_true] at h
    obtain ⟨h1, h2⟩ := fitsAll_spec h.2
    refine ⟨by simp [h1], fun f k' x' hk hx => ?_⟩
    cases f with
    | zero => simp at hk hx; subst hk; subst hx; exact fitsB_fits h.1
    | succ f => exact h2 f k' x' (by simpa using hk) (by simpa using hx)
  | [], _ :: _, h => by simp [fitsAll] at h
  | _ :: _, [], h => by simp [fitsAll] at h

section
variable {P : Program} {Γ : Nat → Option Trans} {tm : List SV} {hp : List Ent} {M F : HL} {K : SV → List Ent → HL → Prop} {ρ : Nat → Loc} {w : World} {a : Act}
variable (H : Holds ρ hp M F w) (hD : DenL ρ tm a.tmps.toList)
include H hD

theorem s_mslice {o : Oper} {t : TypeId} {x y : Operand} (ho : o.op = .makeSlice t x y) (h : vcOp Γ (cop P o) tm hp M K) : OpWp P o a w (Post K hp.length ρ M F w) := by
  simp only [cop, ho] at h
  split at h
  case h_2 => simp [vcOp] at h
  rename_i e hu
  split at h
  case h_2 => simp [vcOp] at h
  rename_i z hz
  split at h
  case isFalse => simp [vcOp] at h
  rename_i hside
  obtain ⟨hfa, hsz0⟩ := hside
  obtain ⟨hzl, hzf⟩ := fitsAll_spec hfa
  unfold zeroOf at hz
  obtain ⟨ti, hti, hz'⟩ := Option.bind_eq_some_iff.1 hz
  have hsz : szOf P e = ti.size := by simp [szOf, hti]
  have hby : byOf P e = ti.bytes := by simp [byOf, hti]
  simp only [vcOp, vMslice] at h
  split at h
  · exact h.elim
  rename_i c0 cr hck
  have h' := int_den h (ev_den hD x)
  clear h
  obtain ⟨kl, n, hn, h⟩ := h'
  have h' := int_den h (ev_den hD y)
  clear h
  obtain ⟨kc, m, hm, h0, h1, h2, h3, h⟩ := h'
  rw [hby] at h2
  have hrun := run_make (P := P) w t e ti z hu hti hz' kl kc n m h0 h1 h2 h3
  have hw : 0 < (cks P e).length := by rw [hck]; simp
  have hzs : z.cells.size = (cks P e).length := by simpa using hzl
  have hts : ti.size = (cks P e).length := by omega
  have key : ∀ sv, K sv (hp ++ [.row true e (cks P e) (List.replicate n.toNat z.cells.toList)]) M → Den (grow ρ hp.length (some (w.heap.size, 0, m.toNat))) sv (.slice (some ⟨w.heap.size, 0, none⟩) n.toNat m.toNat) → OpWp P o a w (Post K hp.length ρ M F w) := by
    intro sv h hden
    refine .of_value (v := .slice (some ⟨w.heap.size, 0, none⟩) n.toNat m.toNat) (w' := w.alloc (.cells (madeCells z.cells (m.toNat * ti.size)) e)) (by simp [execOp, ho, hn, hm, hrun])
      ⟨_, grow ρ hp.length (some (w.heap.size, 0, m.toNat)), _, M, F, h, by simp, grow_ext _ _ _, H.newRow (cap := m.toNat) rfl hw (by unfold maxLen; omega) (by rw [size_madeCells, hts]) (by simp; omega) ?_, Gr.refl M F, ⟨rfl, rfl, rfl, by simp⟩, hden⟩
    intro i r hr
    have hi : i < n.toNat := by have := (List.getElem?_eq_some_iff.1 hr).1; simpa using this
    rw [List.getElem?_replicate, if_pos hi] at hr
    cases hr
    refine ⟨by simpa using hzs, fun f k v hk hv => ⟨?_, hzf f k v hk hv⟩⟩
    have hf : f < (cks P e).length := (List.getElem?_eq_some_iff.1 hk).1
    have hmul : i * (cks P e).length + (cks P e).length ≤ m.toNat * (cks P e).length := by
      have : (i + 1) * (cks P e).length ≤ m.toNat * (cks P e).length := Nat.mul_le_mul_right _ (by omega)
      rwa [Nat.succ_mul] at this
    simp only [madeCells, hts, Nat.zero_add]
    rw [Array.getElem?_map, Array.getElem?_range, if_pos (by omega)]
    have hmod : (i * (cks P e).length + f) % z.cells.size = f := by
      rw [hzs, Nat.add_comm, Nat.add_mul_mod_self_right, Nat.mod_eq_of_lt hf]
    have hv' : z.cells[f]? = some v := by simpa using hv
    simp only [Option.map_some, hmod, Option.some.injEq]
    rw [getElem!_def, hv']
  cases h with
  | std h =>
    rw [epush_iff, lenK_eq, lenK_eq, llen_eq, llen_eq] at h
    exact key _ h ⟨_, m.toNat, rfl, by omega, .inr ⟨w.heap.size, 0, m.toNat, grow_self _ _ _, by simp, by omega⟩⟩
  | exact h =>
    rw [epush_iff, lenK_eq, lenK_eq, llen_eq, llen_eq] at h
    exact key _ h ⟨w.heap.size, 0, m.toNat, grow_self _ _ _, rfl, by omega, Nat.le_refl _⟩

theorem bound_den {x : Option Operand} {d : Nat} {K' : Int → Prop} (h : vBound tm (x.map carg) d K') : (∃ k i, x.map a.eval = some (.int k i) ∧ K' i) ∨ (x = none ∧ K' d) := by
  have _ := @H
  cases x with
  | none => exact .inr ⟨rfl, h⟩
  | some p =>
    simp only [Option.map_some, vBound] at h
    have hp := ev_den hD p
    split at h
    · rename_i k i he
      rw [he] at hp
      simp only [Den] at hp
      exact .inl ⟨k, i, by simp [← hp], h⟩
    · exact h.elim

theorem s_slice {o : Oper} {t e : TypeId} {x : Operand} {lo hi mx : Option Operand} (ho : o.op = .slice t x lo hi mx) (hu : P.underlying t = some (.slice e)) (hi' : (P.info? e).isSome = true)
    (h : vcOp Γ (.slice (szOf P e) (carg x) (lo.map carg) (hi.map carg) (mx.map carg)) tm hp M K) : POk P o a ρ fun v => K v hp M := by
  obtain ⟨ti, hti⟩ := Option.isSome_iff_exists.1 hi'
  have hsz : szOf P e = ti.size := by simp [szOf, hti]
  simp only [vcOp, vSlice] at h
  have hx := ev_den hD x
  -- the bounds of a slice expression without a third one
  have run2 : ∀ (w : World) (ad : Option Addr) (len cap : Nat) (l hh : Int), a.eval x = .slice ad len cap → mx = none → len ≤ cap →
      ((∃ k, lo.map a.eval = some (.int k l)) ∨ (lo = none ∧ l = 0)) → ((∃ k, hi.map a.eval = some (.int k hh)) ∨ (hi = none ∧ hh = len)) → 0 ≤ l → l ≤ hh → hh ≤ cap →
      (execOp a.eval o).run P w = .ok (.value (.slice (if cap = l.toNat then ad else ad.map (·.add (l.toNat * ti.size))) (hh.toNat - l.toNat) (cap - l.toNat))) w := by
    intro w ad len cap l hh he hm hlc hl hhh h0 h1 h2
    subst hm
    obtain ⟨l, rfl⟩ : ∃ n : Nat, l = n := ⟨l.toNat, by omega⟩
    obtain ⟨hh, rfl⟩ : ∃ n : Nat, hh = n := ⟨hh.toNat, by omega⟩
    have bd : ∀ (k : IntKind) (i y : Nat) (code : BoundsCode), i ≤ y → (Instr.sliceBound (.int k (i : Int)) y code).run P w = .ok i w := fun k i y code hiy => by
      rw [run_sliceBound w k i y code (by omega) (by omega)]; simp
    have h1 : l ≤ hh := by omega
    have h2 : hh ≤ cap := by omega
    rcases hl with ⟨k, hl⟩ | ⟨rfl, hl⟩ <;> rcases hhh with ⟨k', hh'⟩ | ⟨rfl, hh'⟩
    · simp only [execOp, ho, Instr.sliceAt, Sem.run_bind, run_underlying hu, Result.andThen_ok, Instr.slice, he, Instr.sliceBounds, hl, hh', Option.map_none, Sem.run_pure, bd _ _ _ _ h1, bd _ _ _ _ h2, sizeOf, typeInfo, run_program, hti, Int.toNat_natCast]
    · obtain rfl : hh = len := by omega
      simp only [execOp, ho, Instr.sliceAt, Sem.run_bind, run_underlying hu, Result.andThen_ok, Instr.slice, he, Instr.sliceBounds, hl, Option.map_none, Sem.run_pure, bd _ _ _ _ h1, sizeOf, typeInfo, run_program, hti, Int.toNat_natCast]
    · obtain rfl : l = 0 := by omega
      simp only [execOp, ho, Instr.sliceAt, Sem.run_bind, run_underlying hu, Result.andThen_ok, Instr.slice, he, Instr.sliceBounds, hh', Option.map_none, Sem.run_pure, bd _ _ _ _ h2, sizeOf, typeInfo, run_program, hti, Int.toNat_natCast]
    · obtain rfl : l = 0 := by omega
      obtain rfl : hh = len := by omega
      simp only [execOp, ho, Instr.sliceAt, Sem.run_bind, run_underlying hu, Result.andThen_ok, Instr.slice, he, Instr.sliceBounds, Option.map_none, Sem.run_pure, sizeOf, typeInfo, run_program, hti, Int.toNat_natCast]
  split at h
  · rename_i hmx
    have hmx : mx = none := by cases mx <;> simp [isO] at hmx ⊢
    split at h
    · rename_i hn
      obtain ⟨ad, hv⟩ := isNilS_den hn hx
      have hl := bound_den H hD h
      clear h
      have hl : ∃ l : Int, ((∃ k, lo.map a.eval = some (.int k l)) ∨ (lo = none ∧ l = 0)) ∧ vBound tm (hi.map carg) 0 fun h => 0 ≤ l ∧ l ≤ h ∧ h ≤ 0 ∧ K .emp hp M := by
        rcases hl with ⟨k, i, h1, h2⟩ | ⟨h1, h2⟩
        · exact ⟨i, .inl ⟨k, h1⟩, h2⟩
        · exact ⟨0, .inr ⟨h1, rfl⟩, by simpa using h2⟩
      obtain ⟨l, hl, h⟩ := hl
      have hh := bound_den H hD h
      clear h
      have hh : ∃ q : Int, ((∃ k, hi.map a.eval = some (.int k q)) ∨ (hi = none ∧ q = 0)) ∧ 0 ≤ l ∧ l ≤ q ∧ q ≤ 0 ∧ K .emp hp M := by
        rcases hh with ⟨k, i, h1, h2⟩ | ⟨h1, h2⟩
        · exact ⟨i, .inl ⟨k, h1⟩, h2⟩
        · exact ⟨0, .inr ⟨h1, rfl⟩, by simpa using h2⟩
      obtain ⟨q, hh, h0, h1, h2, h⟩ := hh
      obtain rfl : l = 0 := by omega
      obtain rfl : q = 0 := by omega
      have hr := fun w => run2 w ad 0 0 0 0 hv hmx (Nat.le_refl _) hl hh (by omega) (by omega) (by omega)
      exact .mk' (fun w => hr w) h ⟨ad, by simp⟩
    · split at h
      case h_3 => exact h.elim
      case h_2 =>
        rename_i y he
        rw [he] at hx
        simp only [Den] at hx
        obtain ⟨hv, ad, len, cp, rfl, hlc, hnn⟩ := hx
        have hl := bound_den H hD h
        clear h
        have hl : ∃ l : Int, ((∃ k, lo.map a.eval = some (.int k l)) ∨ (lo = none ∧ l = 0)) ∧ vBound tm (hi.map carg) len fun h => 0 ≤ l ∧ l ≤ h ∧ h ≤ (len : Int) ∧ K (.rsl (subY (.slice ad len cp) (szOf P e) l.toNat h.toNat)) hp M := by
          rcases hl with ⟨k, i, h1, h2⟩ | ⟨h1, h2⟩
          · exact ⟨i, .inl ⟨k, h1⟩, h2⟩
          · exact ⟨0, .inr ⟨h1, rfl⟩, h2⟩
        obtain ⟨l, hl, h⟩ := hl
        have hh := bound_den H hD h
        clear h
        have hh : ∃ q : Int, ((∃ k, hi.map a.eval = some (.int k q)) ∨ (hi = none ∧ q = len)) ∧ 0 ≤ l ∧ l ≤ q ∧ q ≤ (len : Int) ∧ K (.rsl (subY (.slice ad len cp) (szOf P e) l.toNat q.toNat)) hp M := by
          rcases hh with ⟨k, i, h1, h2⟩ | ⟨h1, h2⟩
          · exact ⟨i, .inl ⟨k, h1⟩, h2⟩
          · exact ⟨len, .inr ⟨h1, rfl⟩, h2⟩
        obtain ⟨q, hh, h0, h1, h2, h⟩ := hh
        have hr := fun w => run2 w ad len cp l q hv hmx hlc hl hh h0 h1 (by omega)
        refine .mk' (fun w => hr w) h ⟨by simp only [subY, hsz], _, _, _, rfl, by omega, fun hno => ?_⟩
        cases ad with
        | none => have := hnn rfl; omega
        | some ad => by_cases hc : cp = l.toNat <;> simp [hc] at hno
      rename_i n wd i len he
      rw [he] at hx
      simp only [Den] at hx
      obtain ⟨ad, cp, hv, hlc, hor⟩ := hx
      split at h
      case h_2 => exact h.elim
      rename_i hw
      have hw := Nat.eq_of_beq_eq_true hw
      have hl := bound_den H hD h
      clear h
      have hl : ∃ l : Int, ((∃ k, lo.map a.eval = some (.int k l)) ∨ (lo = none ∧ l = 0)) ∧ vBound tm (hi.map carg) len fun h => 0 ≤ l ∧ l ≤ h ∧ h ≤ (len : Int) ∧ K (.slc n (szOf P e) (i + l.toNat) (h.toNat - l.toNat)) hp M := by
        rcases hl with ⟨k, i, h1, h2⟩ | ⟨h1, h2⟩
        · exact ⟨i, .inl ⟨k, h1⟩, h2⟩
        · exact ⟨0, .inr ⟨h1, rfl⟩, by simpa using h2⟩
      obtain ⟨l, hl, h⟩ := hl
      have hh := bound_den H hD h
      clear h
      have hh : ∃ q : Int, ((∃ k, hi.map a.eval = some (.int k q)) ∨ (hi = none ∧ q = len)) ∧ 0 ≤ l ∧ l ≤ q ∧ q ≤ (len : Int) ∧ K (.slc n (szOf P e) (i + l.toNat) (q.toNat - l.toNat)) hp M := by
        rcases hh with ⟨k, i, h1, h2⟩ | ⟨h1, h2⟩
        · exact ⟨i, .inl ⟨k, h1⟩, h2⟩
        · exact ⟨len, .inr ⟨h1, rfl⟩, h2⟩
      obtain ⟨q, hh, h0, h1, h2, h⟩ := hh
      have hr := fun w => run2 w ad len cp l q hv hmx hlc hl hh h0 h1 (by omega)
      refine .mk' (fun w => hr w) h ⟨_, _, rfl, by omega, ?_⟩
      by_cases hcl : cp - l.toNat = 0
      · exact .inl hcl
      · rcases hor with hc0 | ⟨b, base, cap, hρ, hab, hcap⟩
        · omega
        · refine .inr ⟨b, base, cap, hρ, ?_, by omega⟩
          rw [if_neg (by omega), hab]
          simp only [Option.map_some, add_lit, Option.some.injEq, Addr.mk.injEq, true_and, and_true]
          rw [← hw, hsz, Nat.add_mul]
          omega
  · rename_i hmx
    split at h
    case h_2 => exact h.elim
    rename_i n wd i len he
    rw [he] at hx
    simp only [Den] at hx
    obtain ⟨ad, cp, hv, hlc, _⟩ := hx
    split at h
    case h_2 => exact h.elim
    rename_i hlo hhi hmx'
    have zero : ∀ y : Option Operand, isI0 (match y.map carg with | some p => ev tm p | none => .any) = true → ∃ k, y.map a.eval = some (.int k 0) := by
      intro y hy
      cases y with
      | none => simp [isI0] at hy
      | some p =>
        simp only [Option.map_some] at hy
        have hp := ev_den hD p
        unfold isI0 at hy
        split at hy
        · rename_i k hk
          rw [hk] at hp
          simp only [Den] at hp
          exact ⟨k, by simp [← hp]⟩
        · cases hy
    obtain ⟨k1, h1⟩ := zero hi hhi
    obtain ⟨k2, h2⟩ := zero mx hmx'
    have hlo : lo = none := by cases lo <;> simp [isO] at hlo ⊢
    subst hlo
    refine .mk' (v := .slice ad 0 0) (fun w => ?_) h ⟨ad, rfl⟩
    simp [execOp, ho, Instr.sliceAt, run_underlying hu, Instr.slice, hv, Instr.sliceBounds, h1, h2, run_sliceBound, sizeOf, typeInfo, hti]
end
end Go.Vc
