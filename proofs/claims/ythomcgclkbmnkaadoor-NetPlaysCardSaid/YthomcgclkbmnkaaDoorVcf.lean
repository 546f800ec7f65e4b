/-
  Symbolic execution, part F: each operation is sound.
-/
import Derived.Test.YthomcgclkbmnkaaDoorVce
namespace Go.Vc

/-- A contract in terms of names. -/
def TOK (P : Program) (f : FuncId) (T : Trans) : Prop :=
  (∃ fn, P.funcs[f]? = some fn ∧ fn.body.isSome = true ∧ (fn.name == "runtime.NumGoroutine") = false) ∧
  ∀ args hp M K, T args hp M K → ∀ ρ F w vs, Holds ρ hp M F w → DenL ρ args vs → Calls P f vs.toArray w fun e w' => ∃ v, e = .returned v ∧ Post K hp.length ρ M F w v w'
def GOK (P : Program) (Γ : Nat → Option Trans) : Prop := ∀ f T, Γ f = some T → TOK P f T

theorem isNilS_den {ρ : Nat → Loc} {s : SV} {y : Value} (h : isNilS s = true) (hd : Den ρ s y) : ∃ ad, y = .slice ad 0 0 := by
  unfold isNilS at h
  split at h
  · simpa [Den] using hd
  · simp only [Den] at hd
    exact ⟨none, hd.symm⟩
  · cases h
theorem int_den {ρ : Nat → Loc} {s : SV} {y : Value} {K : Int → Prop} (h : vInt s K) (hd : Den ρ s y) : ∃ k n, y = .int k n ∧ K n := by
  unfold vInt at h
  split at h
  · rename_i k n
    simp only [Den] at hd
    exact ⟨k, n, hd.symm, h⟩
  · exact h.elim

section
variable {P : Program} {Γ : Nat → Option Trans} {tm : List SV} {hp : List Ent} {M F : HL} {K : SV → List Ent → HL → Prop} {ρ : Nat → Loc} {w : World} {a : Act}
variable (H : Holds ρ hp M F w) (hD : DenL ρ tm a.tmps.toList)
include H hD

theorem evL_den : ∀ (xs : List Operand), DenL ρ (evL tm (xs.map carg)) (xs.map a.eval)
  | [] => by have _ := @H; simp [evL, DenL]
  | x :: r => by simp only [List.map_cons, evL, DenL]; exact ⟨ev_den hD x, evL_den r⟩

theorem s_mov {o : Oper} {x : Operand} (ho : o.op = .move x ∨ o.op = .assign x) (h : vcOp Γ (.mov (carg x)) tm hp M K) : POk P o a ρ fun v => K v hp M := by
  have _ := @H
  have _ := @H
  simp only [vcOp, force_eq] at h
  exact .mk' (v := a.eval x) (fun w => by rcases ho with ho | ho <;> simp [execOp, ho]) h (ev_den hD x)

theorem s_pick {o : Oper} {c x y : Operand} (ho : o.op = .pick c x y) (h : vcOp Γ (.pick (carg c) (carg x) (carg y)) tm hp M K) : POk P o a ρ fun v => K v hp M := by
  have _ := @H
  simp only [vcOp, vPick, force_eq] at h
  have hc := ev_den hD c
  split at h
  · rename_i t he
    rw [he] at hc
    simp only [Den] at hc
    cases t with
    | true => exact .mk' (v := a.eval x) (fun w => by simp [execOp, ho, ← hc, asBool]) (h.t rfl) (ev_den hD x)
    | false => exact .mk' (v := a.eval y) (fun w => by simp [execOp, ho, ← hc, asBool]) (h.f rfl) (ev_den hD y)
  · exact h.elim

theorem s_load {o : Oper} {t : TypeId} {x : Operand} (ho : o.op = .load t x) (h : vcOp Γ (cop P o) tm hp M K) : OpWp P o a w (Post K hp.length ρ M F w) := by
  simp only [cop, ho] at h
  split at h
  case isFalse => simp [vcOp] at h
  rename_i hside
  obtain ⟨hu, hi⟩ := hside
  simp only [vcOp] at h
  obtain ⟨ad, y, sv, h1, h2, h3, h4⟩ := vLoad_sound h H (ev_den hD x)
  obtain ⟨d, hd⟩ := Option.isSome_iff_exists.1 hu
  obtain ⟨i, hi⟩ := Option.isSome_iff_exists.1 hi
  refine .of_value (w' := w) (v := y) ?_ (.same H h3 h4)
  have hag : (isAgg t).run P w = .ok (isAggT P t) w := by
    cases d <;> simp [isAgg, isAggT, run_underlying hd, hd]
  unfold sizeO at h2
  cases hb : isAggT P t with
  | true =>
    simp only [hb, if_true, Finds] at h2
    obtain ⟨cs, rfl, hcl, hcs⟩ := h2
    have hl := run_loadCells_list (P := P) w ad cs hcs
    rw [hcl] at hl
    simp only [szOf, hi, Option.map_some, Option.getD_some] at hl
    simp [execOp, ho, Instr.loadAt, h1, Instr.sureAddr, loadVar, hag, hb, sizeOf, typeInfo, hi, hl]
  | false =>
    simp only [hb, Bool.false_eq_true, if_false, Finds] at h2
    simp [execOp, ho, Instr.loadAt, h1, Instr.sureAddr, loadVar, hag, hb, h2]

theorem s_store {o : Oper} {t : TypeId} {x y : Operand} (ho : o.op = .store t x y) (h : vcOp Γ (cop P o) tm hp M K) : OpWp P o a w (Post K hp.length ρ M F w) := by
  simp only [cop, ho] at h
  split at h
  case isFalse => simp [vcOp] at h
  rename_i hi
  simp only [vcOp] at h
  obtain ⟨ad, hp', M', F', w', h1, h2, h3, h4, h5, h6, hG, h7⟩ := vStore_sound (P := P) h H (ev_den hD x) (ev_den hD y)
  obtain ⟨i, hi⟩ := Option.isSome_iff_exists.1 hi
  simp only [szOf, hi, Option.map_some, Option.getD_some] at h2
  refine .of_skip (w' := w') ?_ ⟨_, ρ, hp', M', F', h4, by omega, Ext.refl _ _, h6, hG, h7, rfl⟩
  simp [execOp, ho, Instr.storeAt, h1, Instr.sureAddr, storeVar, sizeOf, typeInfo, hi, h2, h3]

theorem s_nilck {o : Oper} {x : Operand} (ho : o.op = .nilCheck x) (h : vcOp Γ (.nilck (carg x)) tm hp M K) : POk P o a ρ fun v => K v hp M := by
  have _ := @H
  simp only [vcOp, vNil] at h
  have hc := ev_den hD x
  split at h
  · rename_i he
    rw [he] at hc
    have hc' := hc
    simp only [Den] at hc
    obtain ⟨b, base, cap, _, hv⟩ := hc
    exact .mk' (v := a.eval x) (fun w => by simp [execOp, ho, hv]) h hc'
  · rename_i he
    rw [he] at hc
    have hc' := hc
    simp only [Den] at hc
    obtain ⟨ad, n, c, _, hv⟩ := hc
    exact .mk' (v := a.eval x) (fun w => by simp [execOp, ho, hv]) h hc'
  · rename_i he
    rw [he] at hc
    have hc' := hc
    simp only [Den] at hc
    exact .mk' (v := a.eval x) (fun w => by simp [execOp, ho, ← hc]) h hc'
  · exact h.elim

theorem s_conv {o : Oper} {s d : TypeId} {x : Operand} (ho : o.op = .convert s d x) (h : vcOp Γ (cop P o) tm hp M K) : POk P o a ρ fun v => K v hp M := by
  have _ := @H
  simp only [cop, ho] at h
  split at h
  · rename_i k0 k he1 hk
    simp only [vcOp, vConv] at h
    have hc := ev_den hD x
    split at h
    · rename_i k' n he
      rw [he] at hc
      simp only [Den] at hc
      refine .mk' (v := .int k (k.wrap n)) (fun w => ?_) h rfl
      simp only [execOp, ho, ← hc, convert]
      simp [run_underlying he1, run_underlying hk, Conv.intToInt]
    · exact h.elim
  · simp [vcOp] at h

theorem s_fld {o : Oper} {t : TypeId} {x : Operand} {f : Nat} (ho : o.op = .fieldAddr t x f) (h : vcOp Γ (cop P o) tm hp M K) : POk P o a ρ fun v => K v hp M := by
  have _ := @H
  simp only [cop, ho] at h
  split at h
  · rename_i off ft hf
    split at h
    · simp [vcOp] at h
    · rename_i hsz
      simp only [vcOp, vFld] at h
      have hc := ev_den hD x
      split at h
      · rename_i n wd i g he
        rw [he] at hc
        simp only [Den] at hc
        obtain ⟨b, base, cap, hρ, hv⟩ := hc
        unfold fieldOf at hf
        split at hf
        · rename_i fs hu
          cases hfs : fs[f]? with
          | none => simp [hfs] at hf
          | some fl =>
            simp only [hfs, Option.map_some, Option.some.injEq, Prod.mk.injEq] at hf
            obtain ⟨rfl, rfl⟩ := hf
            obtain ⟨ti, hti⟩ : ∃ ti, P.info? fl.type = some ti := by
              cases hh : P.info? fl.type with
              | none => simp [szOf, hh] at hsz
              | some ti => exact ⟨ti, rfl⟩
            have hs : ti.size ≠ 0 := by simpa [szOf, hti] using hsz
            refine .mk' (v := .pointer (some ⟨b, base + (i * wd + (g + fl.offset)), none⟩)) (fun w => ?_) h ⟨b, base, cap, hρ, rfl⟩
            have hadd : base + (i * wd + g) + fl.offset = base + (i * wd + (g + fl.offset)) := by omega
            simp [execOp, ho, Instr.fieldAt, run_underlying hu, hfs, hv, Instr.sureAddr, fieldPlace, sizeOf, typeInfo, hti, hs, add_lit, hadd]
        · cases hf
      · rename_i y wd i g he
        rw [he] at hc
        simp only [Den] at hc
        obtain ⟨ad, n, c, hy, hv⟩ := hc
        unfold fieldOf at hf
        split at hf
        · rename_i fs hu
          cases hfs : fs[f]? with
          | none => simp [hfs] at hf
          | some fl =>
            simp only [hfs, Option.map_some, Option.some.injEq, Prod.mk.injEq] at hf
            obtain ⟨rfl, rfl⟩ := hf
            obtain ⟨ti, hti⟩ : ∃ ti, P.info? fl.type = some ti := by
              cases hh : P.info? fl.type with
              | none => simp [szOf, hh] at hsz
              | some ti => exact ⟨ti, rfl⟩
            have hs : ti.size ≠ 0 := by simpa [szOf, hti] using hsz
            refine .mk' (v := .pointer (some (ad.add (i * wd + (g + fl.offset))))) (fun w => ?_) h ⟨ad, n, c, hy, rfl⟩
            have hadd : (ad.add (i * wd + g)).add fl.offset = ad.add (i * wd + (g + fl.offset)) := by rw [Addr.add_add, Nat.add_assoc]
            simp [execOp, ho, Instr.fieldAt, run_underlying hu, hfs, hv, Instr.sureAddr, fieldPlace, sizeOf, typeInfo, hti, hs, hadd]
        · cases hf
      · exact h.elim
  · simp [vcOp] at h

theorem s_ext {o : Oper} {x : Operand} {i : Nat} (ho : o.op = .extract x i) (h : vcOp Γ (.ext (carg x) i) tm hp M K) : POk P o a ρ fun v => K v hp M := by
  have _ := @H
  simp only [vcOp, vExt, force_eq] at h
  have hc := ev_den hD x
  split at h
  · rename_i l he
    rw [he] at hc
    simp only [Den] at hc
    obtain ⟨cs, hv, hd⟩ := hc
    split at h
    · rename_i y r hy
      rw [dropN_eq] at hy
      have hy' : l[i]? = some y := by
        have := congrArg (fun l => l[0]?) hy
        simpa using this
      obtain ⟨u, hu, hdu⟩ := hd.get hy'
      exact .mk' (v := u) (fun w => by simp [execOp, ho, hv, Instr.extract, hu]) h hdu
    · exact h.elim
  · exact h.elim

theorem s_iface {o : Oper} {t : TypeId} {x : Operand} (ho : o.op = .makeInterface t x) (h : vcOp Γ (.iface t (carg x)) tm hp M K) (hc : P.concrete t = true) : POk P o a ρ fun v => K v hp M := by
  have _ := @H
  simp only [vcOp, force_eq] at h
  exact .mk' (v := .iface t (a.eval x)) (fun w => by simp [execOp, ho, run_makeInterface w t _ hc]) h ⟨_, rfl, ev_den hD x⟩

theorem s_clo {o : Oper} {f : Fn} {xs ys : Array Operand} (ho : o.op = .makeFunc f xs ys) (h : vcOp Γ (.clo f (xs.toList.map carg) (ys.toList.map carg)) tm hp M K) : POk P o a ρ fun v => K v hp M := by
  simp only [vcOp, evK_eq] at h
  refine .mk' (v := .func f (xs.map a.eval) (ys.map a.eval)) (fun w => by simp [execOp, ho, Instr.makeFunc]) h ⟨xs.toList.map a.eval, ys.toList.map a.eval, ?_, evL_den H hD _, evL_den H hD _⟩
  congr 1 <;> (apply Array.ext'; simp)

theorem s_un {o : Oper} {op : UnOp} {t : TypeId} {x : Operand} (ho : o.op = .unOp op t x) (h : vcOp Γ (.un op (carg x)) tm hp M K) : POk P o a ρ fun v => K v hp M := by
  have _ := @H
  simp only [vcOp, vUn] at h
  have hc := ev_den hD x
  split at h
  · rename_i k n he
    rw [he] at hc
    simp only [Den] at hc
    exact .mk' (v := .int k (k.wrap (0 - n))) (fun w => by simp [execOp, ho, ← hc, Op.unary, Op.intArith]) h rfl
  · rename_i k n he
    rw [he] at hc
    simp only [Den] at hc
    exact .mk' (fun w => by simp only [execOp, ho, ← hc, Op.unary, Op.intBits]; rfl) h rfl
  · rename_i b he
    rw [he] at hc
    simp only [Den] at hc
    exact .mk' (v := .bool !b) (fun w => by simp [execOp, ho, ← hc, Op.unary]) h rfl
  · exact h.elim

theorem s_cap {o : Oper} {c : Call} {x : Operand} {t : TypeId} {e : TypeId} (ho : o.op = .call c) (hc1 : c.callee = .builtin .cap) (hc2 : c.args = #[x]) (hc3 : c.argTypes = #[t]) (hu : P.underlying t = some (.slice e))
    (h : vcOp Γ (.cap (carg x)) tm hp M K) : POk P o a ρ fun v => K v hp M := by
  have _ := @H
  have key : ∀ (w : World) (ad : Option Addr) (n cp : Nat), a.eval x = .slice ad n cp → (execOp a.eval o).run P w = .ok (.value (.int .i64 cp)) w := by
    intro w ad n cp he
    simp [execOp, ho, resolve, hc1, hc2, hc3, invoke, builtin, Builtin.cap_, he, run_underlying hu, goInt]
  simp only [vcOp, vCap] at h
  have hc := ev_den hD x
  split at h
  · rename_i hn
    obtain ⟨ad, hv⟩ := isNilS_den hn hc
    exact .mk' (fun w => key w _ _ _ hv) h rfl
  · exact h.elim
theorem s_len {o : Oper} {c : Call} {x : Operand} {t : TypeId} {e : TypeId} (ho : o.op = .call c) (hc1 : c.callee = .builtin .len) (hc2 : c.args = #[x]) (hc3 : c.argTypes = #[t]) (hu : P.underlying t = some (.slice e))
    (h : vcOp Γ (.len (carg x)) tm hp M K) : POk P o a ρ fun v => K v hp M := by
  have _ := @H
  have key : ∀ (w : World) (ad : Option Addr) (n cp : Nat), a.eval x = .slice ad n cp → (execOp a.eval o).run P w = .ok (.value (.int .i64 n)) w := by
    intro w ad n cp he
    simp [execOp, ho, resolve, hc1, hc2, hc3, invoke, builtin, Builtin.len_, he, run_underlying hu, goInt]
  simp only [vcOp, vLen] at h
  have hc := ev_den hD x
  split at h
  · rename_i hn
    obtain ⟨ad, hv⟩ := isNilS_den hn hc
    exact .mk' (fun w => key w _ _ _ hv) h rfl
  · split at h
    · rename_i n wd i len he
      rw [he] at hc
      simp only [Den] at hc
      obtain ⟨ad, cp, hv, _⟩ := hc
      exact .mk' (fun w => key w _ _ _ hv) h rfl
    · rename_i y he
      rw [he] at hc
      simp only [Den] at hc
      obtain ⟨hv, ad, n, c, rfl, _⟩ := hc
      exact .mk' (fun w => key w _ _ _ hv) h rfl
    · rename_i n wd len c he
      rw [he] at hc
      simp only [Den] at hc
      obtain ⟨b, base, cap, _, hv, _⟩ := hc
      exact .mk' (fun w => key w _ _ _ hv) h rfl
    · exact h.elim

theorem s_idx {o : Oper} {t e : TypeId} {x i : Operand} (ho : o.op = .indexAddr t x i) (hu : P.underlying t = some (.slice e)) (hi : (P.info? e).isSome = true) (h : vcOp Γ (.idx (szOf P e) (carg x) (carg i)) tm hp M K) : POk P o a ρ fun v => K v hp M := by
  have _ := @H
  simp only [vcOp, vIdx] at h
  have hx := ev_den hD x
  split at h
  case h_3 => exact h.elim
  case h_2 =>
    rename_i y he
    rw [he] at hx
    simp only [Den] at hx
    obtain ⟨hv, ad, n, cp, rfl, hlc, hnn⟩ := hx
    obtain ⟨k, q, hq, h0, h1, h⟩ := int_den h (ev_den hD i)
    obtain ⟨ti, hti⟩ := Option.isSome_iff_exists.1 hi
    have hsz : szOf P e = ti.size := by simp [szOf, hti]
    cases ad with
    | none => have := hnn rfl; subst this; have h1' : q < ((0 : Nat) : Int) := h1; omega
    | some ad =>
      refine .mk' (v := .pointer (some (ad.add (q.toNat * szOf P e + 0)))) (fun w => ?_) h ⟨ad, n, cp, rfl, rfl⟩
      rw [hsz, Nat.add_zero]
      have h1' : q < (n : Int) := h1
      simp [execOp, ho, Instr.indexAt, hq, asIntOf, hv, run_underlying hu, h0, h1', sizeOf, typeInfo, hti]
  rename_i n wd j len he
  rw [he] at hx
  simp only [Den] at hx
  obtain ⟨ad, cp, hv, hlc, hor⟩ := hx
  have h' := int_den h (ev_den hD i)
  clear h
  obtain ⟨k, q, hq, h⟩ := h'
  split at h
  case h_2 => exact h.elim
  rename_i hw
  have hw := Nat.eq_of_beq_eq_true hw
  subst hw
  obtain ⟨h0, h1, h⟩ := h
  rcases hor with h2 | ⟨b, base, cap, hρ, rfl, hcap⟩
  · omega
  obtain ⟨ti, hti⟩ := Option.isSome_iff_exists.1 hi
  have hrun : ∀ w, (execOp a.eval o).run P w = .ok (.value (.pointer (some ⟨b, base + j * szOf P e + q.toNat * szOf P e, none⟩))) w := by
    intro w
    have hsz : szOf P e = ti.size := by simp [szOf, hti]
    rw [hsz]
    simp [execOp, ho, Instr.indexAt, hq, asIntOf, hv, run_underlying hu, h0, h1, sizeOf, typeInfo, hti, add_lit, hsz]
  have hmul : base + j * szOf P e + q.toNat * szOf P e = base + ((j + q.toNat) * szOf P e) := by rw [Nat.add_mul]; omega
  rw [hmul] at hrun
  split at h
  · exact .mk' (fun w => hrun w) h ⟨b, base, cap, hρ, by simp⟩
  · exact .mk' (fun w => hrun w) h ⟨b, base, cap, hρ, by simp⟩

theorem s_idxa {o : Oper} {t e : TypeId} {n : Nat} {x i : Operand} (ho : o.op = .indexAddr t x i) (hu : P.underlying t = some (.array n e)) (hi : (P.info? e).isSome = true) (h : vcOp Γ (.idxa n (szOf P e) (carg x) (carg i)) tm hp M K) : POk P o a ρ fun v => K v hp M := by
  have _ := @H
  simp only [vcOp, vIdxa] at h
  have hx := ev_den hD x
  split at h
  case h_2 => exact h.elim
  rename_i nm wd j f he
  rw [he] at hx
  simp only [Den] at hx
  obtain ⟨b, base, cap, hρ, hv⟩ := hx
  have h' := int_den h (ev_den hD i)
  clear h
  obtain ⟨k, q, hq, m, rfl, hm, h⟩ := h'
  obtain ⟨ti, hti⟩ := Option.isSome_iff_exists.1 hi
  have hsz : szOf P e = ti.size := by simp [szOf, hti]
  refine .mk' (v := .pointer (some ⟨b, base + (j * wd + (f + m * szOf P e)), none⟩)) (fun w => ?_) h ⟨b, base, cap, hρ, rfl⟩
  have e : base + (j * wd + f) + m * ti.size = base + (j * wd + (f + m * szOf P e)) := by rw [hsz]; omega
  rw [← e]
  simp [execOp, ho, Instr.indexAt, Instr.sureAddr, hq, asIntOf, hv, run_underlying hu, hm, sizeOf, typeInfo, hti, add_lit]
theorem s_ixv {o : Oper} {t e : TypeId} {n : Nat} {x i : Operand} (ho : o.op = .index t x i) (hu : P.underlying t = some (.array n e)) (hue : (P.underlying e).isSome = true) (hi : (P.info? e).isSome = true) (hag : isAggT P e = false) (hsz : szOf P e = 1)
    (h : vcOp Γ (.ixv n (carg x) (carg i)) tm hp M K) : POk P o a ρ fun v => K v hp M := by
  have _ := @H
  simp only [vcOp, vIxv] at h
  have hx := ev_den hD x
  split at h
  case h_2 => exact h.elim
  rename_i l he
  rw [he] at hx
  simp only [Den] at hx
  obtain ⟨cs, hv, hdl⟩ := hx
  have h' := int_den h (ev_den hD i)
  clear h
  obtain ⟨k, q, hq, m, rfl, hm, h⟩ := h'
  obtain ⟨d, hd⟩ := Option.isSome_iff_exists.1 hue
  obtain ⟨ti, hti⟩ := Option.isSome_iff_exists.1 hi
  have hsz : ti.size = 1 := by rw [← hsz]; simp [szOf, hti]
  have hagr : ∀ w, (isAgg e).run P w = .ok (isAggT P e) w := by
    intro w
    cases d <;> simp [isAgg, isAggT, run_underlying hd, hd]
  split at h
  · rename_i y r hy
    rw [dropN_eq] at hy
    have hy' : l[m]? = some y := by
      have := congrArg (fun l => l[0]?) hy
      simpa using this
    obtain ⟨u, hu', hdu⟩ := hdl.get hy'
    exact .mk' (v := u) (fun w => by simp [execOp, ho, Instr.index, hq, asIntOf, run_underlying hu, hv, hm, part, hagr, hag, hu', sizeOf, typeInfo, hti, hsz]) h hdu
  · exact h.elim

theorem s_call {o : Oper} {c : Call} {f : FuncId} (hG : GOK P Γ) (ho : o.op = .call c) (hc1 : c.callee = .value (.func f)) (h : vcOp Γ (.call f (c.args.toList.map carg)) tm hp M K) : OpWp P o a w (Post K hp.length ρ M F w) := by
  simp only [vcOp, evK_eq, vCall] at h
  split at h
  case h_2 => exact h.elim
  rename_i T hT
  obtain ⟨⟨fn, hf1, hf2, hf3⟩, hT⟩ := hG f T hT
  have hcalls := hT _ _ _ _ h ρ F w _ H (evL_den H hD c.args.toList)
  have hargs : (c.args.toList.map a.eval).toArray = c.args.map a.eval := by apply Array.ext'; simp
  rw [hargs] at hcalls
  refine .of_enter (w' := w) (f := f) (args := c.args.map a.eval) ?_ hcalls
  have hb : fn.body.isNone = false := by cases hfb : fn.body <;> simp_all
  have hcf : (callFunc f (c.args.map a.eval)).run P w = .ok (.enter f (c.args.map a.eval)) w := by
    simp only [callFunc, Sem.run_bind, run_program, Result.andThen_ok, hf1, hf3, hb, Bool.false_eq_true, if_false]
    rfl
  simp [execOp, ho, resolve, hc1, Act.eval, Deferred.ofValue, invoke, hcf]

theorem s_callv {o : Oper} {c : Call} {g : Operand} (hG : GOK P Γ) (ho : o.op = .call c) (hc1 : c.callee = .value g) (h : vcOp Γ (.callv (carg g) (c.args.toList.map carg)) tm hp M K) : OpWp P o a w (Post K hp.length ρ M F w) := by
  simp only [vcOp, evK_eq, vCallv] at h
  have hg := ev_den hD g
  split at h
  case h_2 => exact h.elim
  rename_i f first caps he
  rw [he] at hg
  simp only [Den] at hg
  obtain ⟨x, y, hv, hd1, hd2⟩ := hg
  unfold vCall at h
  split at h
  case h_2 => exact h.elim
  rename_i T hT
  obtain ⟨⟨fn, hf1, hf2, hf3⟩, hT⟩ := hG f T hT
  have hcalls := hT _ _ _ _ h ρ F w _ H ((hd1.append (evL_den H hD c.args.toList)).append hd2)
  have hargs : (x ++ c.args.toList.map a.eval ++ y).toArray = x.toArray ++ c.args.map a.eval ++ y.toArray := by apply Array.ext'; simp
  rw [hargs] at hcalls
  refine .of_enter (w' := w) (f := f) ?_ hcalls
  have hb : fn.body.isNone = false := by cases hfb : fn.body <;> simp_all
  have hcf : ∀ z, (callFunc f z).run P w = .ok (.enter f z) w := by
    intro z
    simp only [callFunc, Sem.run_bind, run_program, Result.andThen_ok, hf1, hf3, hb, Bool.false_eq_true, if_false]
    rfl
  simp [execOp, ho, resolve, hc1, hv, Deferred.ofValue, invoke, hcf]

theorem s_part {o : Oper} {t : TypeId} {x : Operand} {f : Nat} (ho : o.op = .field t x f) (h : vcOp Γ (cop P o) tm hp M K) : POk P o a ρ fun v => K v hp M := by
  have _ := @H
  simp only [cop, ho] at h
  split at h
  · rename_i off ft hf
    split at h
    case isFalse => simp [vcOp] at h
    rename_i hside
    obtain ⟨hu, hi⟩ := hside
    obtain ⟨d, hd⟩ := Option.isSome_iff_exists.1 hu
    obtain ⟨ti, hti⟩ := Option.isSome_iff_exists.1 hi
    have hag : ∀ w, (isAgg ft).run P w = .ok (isAggT P ft) w := by
      intro w
      cases d <;> simp [isAgg, isAggT, run_underlying hd, hd]
    simp only [vcOp, vPart] at h
    have hx := ev_den hD x
    split at h
    · rename_i l he
      rw [he] at hx
      simp only [Den] at hx
      obtain ⟨cs, hv, hdl⟩ := hx
      unfold fieldOf at hf
      split at hf
      · rename_i fs hus
        cases hfs : fs[f]? with
        | none => simp [hfs] at hf
        | some fl =>
          simp only [hfs, Option.map_some, Option.some.injEq, Prod.mk.injEq] at hf
          obtain ⟨rfl, rfl⟩ := hf
          unfold sizeO at h
          cases hb : isAggT P fl.type with
          | false =>
            simp only [hb, Bool.false_eq_true, if_false] at h
            split at h
            · rename_i y r hy
              rw [dropN_eq] at hy
              have hy' : l[fl.offset]? = some y := by
                have := congrArg (fun l => l[0]?) hy
                simpa using this
              obtain ⟨u, hu', hdu⟩ := hdl.get hy'
              exact .mk' (v := u) (fun w => by simp [execOp, ho, Instr.field, run_underlying hus, hfs, hv, asAgg, part, hag, hb, hu']) h hdu
            · exact h.elim
          | true =>
            simp only [hb, if_true, szOf, hti, Option.map_some, Option.getD_some] at h
            rw [takeN_iff, dropN_eq] at h
            refine .mk' (v := .agg (cs.toArray.extract fl.offset (fl.offset + ti.size))) (fun w => by simp [execOp, ho, Instr.field, run_underlying hus, hfs, hv, asAgg, part, hag, hb, sizeOf, typeInfo, hti]) h.2 ⟨_, ?_, (hdl.drop _).take _⟩
            congr 1
            apply Array.ext'
            simp [List.extract]
      · cases hf
    · exact h.elim
  · simp [vcOp] at h

theorem s_bin {o : Oper} {op : BinOp} {t u : TypeId} {x y : Operand} (ho : o.op = .binOp op t x y u) (h : vcOp Γ (.bin op (carg x) (carg y)) tm hp M K) : POk P o a ρ fun v => K v hp M := by
  have _ := @H
  simp only [vcOp, vBin] at h
  have hx := ev_den hD x
  have hy := ev_den hD y
  split at h
  · rename_i k p k' q he1 he2
    rw [he1] at hx
    rw [he2] at hy
    simp only [Den] at hx hy
    have hg : ∀ w op, (eqGuard op t x y (.int k p) (.int k' q)).run P w = .ok () w := by
      intro w op
      cases op <;> simp [eqGuard]
    have fin : ∀ {v : Value} (w : World), (Go.binOp op t (.int k p) (.int k' q)).run P w = .ok v w → (execOp a.eval o).run P w = .ok (.value v) w := by
      intro v w hv
      simp [execOp, ho, ← hx, ← hy, hg, hv]
    have cases2 : ∀ op', op' ≠ .shl → op' ≠ .shr → kEq k k' = true → Go.binOp op' t (.int k p) (.int k' q) = (match op' with
      | .add | .sub | .mul => Op.intArith op' k p q
      | .quo | .rem => Op.intDiv op' k p q
      | .and | .or | .xor | .andNot => Op.intBits op' k p q
      | _ => Op.intCmp op' p q) := by
      intro op' h1 h2 hk
      have := kEq_eq hk
      subst this
      cases op' <;> simp [Go.binOp] at h1 h2 ⊢
    have hc0 := cases2 op
    cases op
    case shl => exact .mk' (fun w => fin w (by simp only [Go.binOp, Op.shift]; rw [if_neg (by omega)]; rfl)) h.2 rfl
    case shr => exact .mk' (fun w => fin w (by simp only [Go.binOp, Op.shift]; rw [if_neg (by omega)]; rfl)) h.2 rfl
    all_goals
      dsimp only at h
      split at h
      case h_2 => exact h.elim
      rename_i hk
      have hc := hc0 (by decide) (by decide) hk
      dsimp only at h hc
      first
        | exact .mk' (fun w => fin w (by rw [hc]; simp only [Op.intDiv]; rw [if_neg h.1]; rfl)) h.2 rfl
        | exact .mk' (fun w => fin w (by rw [hc]; simp only [Op.intArith, Op.intBits, Op.intCmp]; rfl)) h rfl
        | exact h.elim
  · exact h.elim

theorem s_eqb {o : Oper} {op : BinOp} {t u : TypeId} {x y : Operand} (ho : o.op = .binOp op t x y u) (hop : op = .eql ∨ op = .neq) (h : vcOp Γ (.eqb (isNeq op) (carg x) (carg y)) tm hp M K) (hb : P.underlying t = some .bool) : POk P o a ρ fun v => K v hp M := by
  have _ := @H
  simp only [vcOp, vEqb] at h
  have hx := ev_den hD x
  have hy := ev_den hD y
  split at h
  case h_2 => exact h.elim
  rename_i p q he1 he2
  rw [he1] at hx
  rw [he2] at hy
  simp only [Den] at hx hy
  rcases hop with rfl | rfl
  · exact .mk' (v := .bool (p == q)) (fun w => by simp [execOp, ho, ← hx, ← hy, eqGuard, run_eql_bool w t p q hb]) h rfl
  · exact .mk' (v := .bool (!(p == q))) (fun w => by simp [execOp, ho, ← hx, ← hy, eqGuard, run_neq_bool w t p q hb]) h rfl

theorem s_box {o : Oper} {e : TypeId} {x : Operand} (ho : o.op = .box e x) (h : vcOp Γ (.box e (carg x)) tm hp M K) : OpWp P o a w (Post K hp.length ρ M F w) := by
  simp only [vcOp, vBox] at h
  obtain ⟨l, h, hfl⟩ := flat_iff h
  split at h
  case h_2 => exact h.elim
  rename_i hone
  rw [epush_iff, lenK_eq, llen_eq] at h
  obtain ⟨hd, _⟩ := den_flat (ev_den hD x) hfl hone
  refine .of_value (w' := w.alloc (.cells (a.eval x).cells e)) (v := .pointer (some ⟨w.heap.size, 0, none⟩)) (by simp [execOp, ho, Instr.box, newVar, newRow]) ?_
  have hle := H.le (grow_ext ρ hp.length (some (w.heap.size, 0, 1)))
  refine ⟨_, grow ρ hp.length (some (w.heap.size, 0, 1)), _, M, F, h, by simp, grow_ext _ _ _, H.alloc rfl ?_, Gr.refl M F, ⟨rfl, rfl, rfl, by simp⟩, ⟨w.heap.size, 0, 1, grow_self _ _ _, by simp⟩⟩
  exact ⟨w.heap.size, 1, _, grow_self _ _ _, heap_alloc_new w _, hd.mono hle⟩

theorem s_alloc {o : Oper} {e : TypeId} (ho : o.op = .alloc e) (h : vcOp Γ (cop P o) tm hp M K) : OpWp P o a w (Post K hp.length ρ M F w) := by
  have _ := @hD
  simp only [cop, ho] at h
  split at h
  case h_2 => simp [vcOp] at h
  rename_i z hz
  simp only [vcOp, vBox] at h
  obtain ⟨l, h, hfl⟩ := flat_iff h
  split at h
  case h_2 => exact h.elim
  rename_i hone
  rw [epush_iff, lenK_eq, llen_eq] at h
  obtain ⟨hd, _⟩ := den_flat (ρ := ρ) (den_ofV ρ z) hfl hone
  unfold zeroOf at hz
  obtain ⟨ti, hti, hz'⟩ := Option.bind_eq_some_iff.1 hz
  refine .of_value (w' := w.alloc (.cells z.cells e)) (v := .pointer (some ⟨w.heap.size, 0, none⟩)) (by simp [execOp, ho, Instr.alloc, zeroValue, typeInfo, hti, hz', newVar, newRow]) ?_
  have hle := H.le (grow_ext ρ hp.length (some (w.heap.size, 0, 1)))
  refine ⟨_, grow ρ hp.length (some (w.heap.size, 0, 1)), _, M, F, h, by simp, grow_ext _ _ _, H.alloc rfl ?_, Gr.refl M F, ⟨rfl, rfl, rfl, by simp⟩, ⟨w.heap.size, 0, 1, grow_self _ _ _, by simp⟩⟩
  exact ⟨w.heap.size, 1, _, grow_self _ _ _, heap_alloc_new w _, hd.mono hle⟩

theorem s_minmax {o : Oper} {c : Call} {mx : Bool} (ho : o.op = .call c) (hc1 : c.callee = .builtin (if mx then .max else .min)) (h : vcOp Γ (.minmax mx (c.args.toList.map carg)) tm hp M K) : POk P o a ρ fun v => K v hp M := by
  simp only [vcOp, vMinmax] at h
  have hl := evL_den H hD c.args.toList
  split at h
  case h_2 => exact h.elim
  rename_i k p r he
  rw [he] at hl
  have key : ∀ (r : List SV) (ys : List Value) (p : Int), DenL ρ r ys → vFold mx k r p (fun v => K v hp M) → ∃ q, (∀ w, (ys.foldlM (if mx then Builtin.max2 else Builtin.min2) (.int k p)).run P w = .ok (.int k q) w) ∧ K (.v (.int k q)) hp M := by
    intro r
    induction r with
    | nil => intro ys p hd hf; cases ys with
      | nil => exact ⟨p, fun _ => rfl, hf⟩
      | cons => simp [DenL] at hd
    | cons s r ih => intro ys p hd hf; cases ys with
      | nil => simp [DenL] at hd
      | cons y ys =>
        simp only [DenL] at hd
        unfold vFold at hf
        split at hf
        · rename_i h0; cases h0
        · rename_i k' q r' h0
          cases h0
          simp only [Den] at hd
          cases mx with
          | true =>
            obtain ⟨z, h1, h2⟩ := ih ys _ hd.2 hf
            refine ⟨z, fun w => ?_, h2⟩
            have h1 := h1 w
            simp only [if_true] at h1 ⊢
            simp only [List.foldlM_cons, Sem.run_bind, ← hd.1, Builtin.max2, Sem.run_pure, Result.andThen_ok]
            exact h1
          | false =>
            obtain ⟨z, h1, h2⟩ := ih ys _ hd.2 hf
            refine ⟨z, fun w => ?_, h2⟩
            have h1 := h1 w
            simp only [Bool.false_eq_true, if_false] at h1 ⊢
            simp only [List.foldlM_cons, Sem.run_bind, ← hd.1, Builtin.min2, Sem.run_pure, Result.andThen_ok]
            exact h1
        · exact hf.elim
  cases hm : c.args.toList.map a.eval with
  | nil => rw [hm] at hl; simp [DenL] at hl
  | cons y ys =>
    rw [hm] at hl
    simp only [DenL, Den] at hl
    obtain ⟨q, h1, h2⟩ := key r ys p hl.2 h
    have hargs : c.args.map a.eval = (y :: ys).toArray := by apply Array.ext'; simp [← hm]
    refine .mk' (v := .int k q) (fun w => ?_) h2 rfl
    cases mx with
    | true =>
      simp only [if_true] at h1 hc1
      simp [execOp, ho, resolve, hc1, invoke, builtin, Builtin.max_, hargs, ← hl.1, h1]
    | false =>
      simp only [Bool.false_eq_true, if_false] at h1 hc1
      simp [execOp, ho, resolve, hc1, invoke, builtin, Builtin.min_, hargs, ← hl.1, h1]
end
end Go.Vc
