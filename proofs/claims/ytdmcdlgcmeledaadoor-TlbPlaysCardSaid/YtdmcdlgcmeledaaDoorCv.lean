/-
  TlbPlays: plain law; contracts of what refuses.
-/
import Derived.Test.YtdmcdlgcmeledaaDoorCu
import Derived.Test.YtdmcdlgcmeledaaDoorCg
import Derived.Test.YtdmcdlgcmeledaaDoorCs
namespace Go.Proofs.YtdmcdlgcmeledaaDoor
open Go Go.Vc
set_option maxRecDepth 100000
set_option linter.unusedSimpArgs false
set_option linter.unusedVariables false
theorem newB_run (M : HL) (K : SV → List Ent → HL → Prop) (n : Int) (h : n < 1 ∨ 64 < n) (y : Value) (hy : mcell M ⟨0, 0, none⟩ = some y) (hK : K (.tup [.v (.pointer none), .v y]) [] M) :
    runF G1 pf6 [.v (.int .i64 n)] [] M K := by
  by_cases h1 : n < 1
  · repeat ((conv => whnf); (first | refine Cnd.yes ?_ | refine Cnd.no ?_ | refine And.intro rfl ?_ | refine And.intro (by omega) ?_ | (refine And.intro ?_ ?_; focus (simp only [IntKind.wrap_i64, IntKind.wrap_u64, IntKind.wrap_u32]; omega)) | (refine And.intro ?_ ?_; focus (simp only [zl1, zl2, zl3, zl4, zl5, zl6, zl7, zl8] <;> omega)) | (refine Cnd.tt ?_ ?_; focus (first | (apply decide_eq_true; omega) | (simp only [zq1, zq2, zq3, zq4, zq5, zq6, zq7, zq8, zq9, zq10, zq11, zq12] <;> omega) | rfl)) | (refine Cnd.ff ?_ ?_; focus (first | (apply decide_eq_false; omega) | (simp only [zq1, zq2, zq3, zq4, zq5, zq6, zq7, zq8, zq9, zq10, zq11, zq12] <;> omega) | rfl))))
    conv => whnf
    refine ⟨y, hy, ?_⟩
    repeat ((conv => whnf); (first | refine Cnd.yes ?_ | refine Cnd.no ?_ | refine And.intro rfl ?_ | refine And.intro (by omega) ?_ | (refine And.intro ?_ ?_; focus (simp only [IntKind.wrap_i64, IntKind.wrap_u64, IntKind.wrap_u32]; omega)) | (refine And.intro ?_ ?_; focus (simp only [zl1, zl2, zl3, zl4, zl5, zl6, zl7, zl8] <;> omega)) | (refine Cnd.tt ?_ ?_; focus (first | (apply decide_eq_true; omega) | (simp only [zq1, zq2, zq3, zq4, zq5, zq6, zq7, zq8, zq9, zq10, zq11, zq12] <;> omega) | rfl)) | (refine Cnd.ff ?_ ?_; focus (first | (apply decide_eq_false; omega) | (simp only [zq1, zq2, zq3, zq4, zq5, zq6, zq7, zq8, zq9, zq10, zq11, zq12] <;> omega) | rfl))))
    conv => whnf
    exact hK
  · repeat ((conv => whnf); (first | refine Cnd.yes ?_ | refine Cnd.no ?_ | refine And.intro rfl ?_ | refine And.intro (by omega) ?_ | (refine And.intro ?_ ?_; focus (simp only [IntKind.wrap_i64, IntKind.wrap_u64, IntKind.wrap_u32]; omega)) | (refine And.intro ?_ ?_; focus (simp only [zl1, zl2, zl3, zl4, zl5, zl6, zl7, zl8] <;> omega)) | (refine Cnd.tt ?_ ?_; focus (first | (apply decide_eq_true; omega) | (simp only [zq1, zq2, zq3, zq4, zq5, zq6, zq7, zq8, zq9, zq10, zq11, zq12] <;> omega) | rfl)) | (refine Cnd.ff ?_ ?_; focus (first | (apply decide_eq_false; omega) | (simp only [zq1, zq2, zq3, zq4, zq5, zq6, zq7, zq8, zq9, zq10, zq11, zq12] <;> omega) | rfl))))
    conv => whnf
    refine ⟨y, hy, ?_⟩
    repeat ((conv => whnf); (first | refine Cnd.yes ?_ | refine Cnd.no ?_ | refine And.intro rfl ?_ | refine And.intro (by omega) ?_ | (refine And.intro ?_ ?_; focus (simp only [IntKind.wrap_i64, IntKind.wrap_u64, IntKind.wrap_u32]; omega)) | (refine And.intro ?_ ?_; focus (simp only [zl1, zl2, zl3, zl4, zl5, zl6, zl7, zl8] <;> omega)) | (refine Cnd.tt ?_ ?_; focus (first | (apply decide_eq_true; omega) | (simp only [zq1, zq2, zq3, zq4, zq5, zq6, zq7, zq8, zq9, zq10, zq11, zq12] <;> omega) | rfl)) | (refine Cnd.ff ?_ ?_; focus (first | (apply decide_eq_false; omega) | (simp only [zq1, zq2, zq3, zq4, zq5, zq6, zq7, zq8, zq9, zq10, zq11, zq12] <;> omega) | rfl))))
    conv => whnf
    exact hK
def newBS : Vc.Spec := fun args hp M K => ∃ (n : Int) (y : Value), args = [.v (.int .i64 n)] ∧ hp = [] ∧ (n < 1 ∨ 64 < n) ∧ mcell M ⟨0, 0, none⟩ = some y ∧ K (.tup [.v (.pointer none), .v y]) []
theorem newB_ok : SOK Tryd.prog 6 newBS := by
  refine TOK.weaken (runF_eq G1_ok mixed at6.1 at6.2 pf6_eq) fun args hp M K h => ?_
  obtain ⟨n, y, rfl, rfl, h1, h2, h3⟩ := h
  exact newB_run M K n h1 y h2 h3
theorem samepsN_run (M : HL) (K : SV → List Ent → HL → Prop) (o : Bool) (e : TypeId) (hK : K (.v (.bool true)) [.row o e pck []] M) :
    runF G7 pf14 [.slc 0 5 0 0, .v (.slice none 0 0)] [.row o e pck []] M K := by
  repeat ((conv => whnf); (first | refine Cnd.yes ?_ | refine Cnd.no ?_ | refine And.intro rfl ?_ | refine And.intro (by omega) ?_ | (refine And.intro ?_ ?_; focus (simp only [IntKind.wrap_i64, IntKind.wrap_u64, IntKind.wrap_u32]; omega)) | (refine And.intro ?_ ?_; focus (simp only [zl1, zl2, zl3, zl4, zl5, zl6, zl7, zl8] <;> omega)) | (refine Cnd.tt ?_ ?_; focus (first | (apply decide_eq_true; omega) | (simp only [zq1, zq2, zq3, zq4, zq5, zq6, zq7, zq8, zq9, zq10, zq11, zq12] <;> omega) | rfl)) | (refine Cnd.ff ?_ ?_; focus (first | (apply decide_eq_false; omega) | (simp only [zq1, zq2, zq3, zq4, zq5, zq6, zq7, zq8, zq9, zq10, zq11, zq12] <;> omega) | rfl))))
  conv => whnf
  refine ⟨InvS 29 (fun s : Nat => 0 - s) (fun s : Nat => s = 0) (fun s : Nat => [(0, .slc 0 5 0 0), (1, .v (.slice none 0 0)), (5, .v (.int .i64 s))]) (fun s : Nat => [Ent.row o e pck []]) M, ⟨(fun s : Nat => 0 - s) 0, [0], tmk 29 0 ((fun s : Nat => [(0, .slc 0 5 0 0), (1, .v (.slice none 0 0)), (5, .v (.int .i64 s))]) 0), (fun s : Nat => [Ent.row o e pck []]) 0, ?_⟩, ?_⟩
  · repeat ((conv => whnf); (first | refine Cnd.yes ?_ | refine Cnd.no ?_ | refine And.intro rfl ?_ | refine And.intro (by omega) ?_ | (refine And.intro ?_ ?_; focus (simp only [IntKind.wrap_i64, IntKind.wrap_u64, IntKind.wrap_u32]; omega)) | (refine And.intro ?_ ?_; focus (simp only [zl1, zl2, zl3, zl4, zl5, zl6, zl7, zl8] <;> omega))))
    conv => whnf
    exact ⟨0, rfl, rfl, rfl, (tmkK_eq _ _ _ _).mpr rfl, rfl⟩
  · rintro cnt tm hp M1 ⟨i, hC_, rfl, rfl, htm, hhp_⟩
    replace hC_ : i = 0 := hC_
    have hi := hC_
    replace htm : tmkK 29 0 [(0, .slc 0 5 0 0), (1, .v (.slice none 0 0)), (5, .v (.int .i64 i))] (fun l => tm = l) := htm
    conv at htm => whnf
    subst htm
    replace hhp_ : hp = [Ent.row o e pck []] := hhp_
    subst hhp_
    subst hi
    repeat ((conv => whnf); (first | refine Cnd.yes ?_ | refine Cnd.no ?_ | refine And.intro rfl ?_ | refine And.intro (by omega) ?_ | (refine And.intro ?_ ?_; focus (simp only [IntKind.wrap_i64, IntKind.wrap_u64, IntKind.wrap_u32]; omega)) | (refine And.intro ?_ ?_; focus (simp only [zl1, zl2, zl3, zl4, zl5, zl6, zl7, zl8] <;> omega)) | (refine Cnd.tt ?_ ?_; focus (first | (apply decide_eq_true; omega) | (simp only [zq1, zq2, zq3, zq4, zq5, zq6, zq7, zq8, zq9, zq10, zq11, zq12] <;> omega) | rfl)) | (refine Cnd.ff ?_ ?_; focus (first | (apply decide_eq_false; omega) | (simp only [zq1, zq2, zq3, zq4, zq5, zq6, zq7, zq8, zq9, zq10, zq11, zq12] <;> omega) | rfl))))
    conv => whnf
    exact hK
def samepsNS : Vc.Spec := fun args hp _ K => ∃ (o : Bool) (e : TypeId), args = [.slc 0 5 0 0, .v (.slice none 0 0)] ∧ hp = [.row o e pck []] ∧ K (.v (.bool true)) [.row o e pck []]
theorem samepsN_ok : SOK Tryd.prog 14 samepsNS := by
  refine TOK.weaken (runF_eq G7_ok mixed at14.1 at14.2 pf14_eq) fun args hp M K h => ?_
  obtain ⟨o, e, rfl, rfl, h3⟩ := h
  exact samepsN_run M K o e h3
def pc (x : One) : Int × List (List Value) := (x.p, x.c)
def Kp (M : HL) (l : List One) : Prop := ∀ x ∈ l, Vc.RowsIn M 42 pck x.y x.c ∧ ∃ c : List Pte, x.c = c.map prow ∧ c.length ≤ 2
theorem Kp.mono {M M' : HL} {l : List One} (h : Kp M l) (hM : FLe M M') : Kp M' l := fun x hx => ⟨(h x hx).1.mono hM, (h x hx).2⟩
theorem Kp.kept {M : HL} {l : List One} (h : Kp M l) : Kept M l := fun x hx => by
  obtain ⟨h1, c, h2, h3⟩ := h x hx
  exact ⟨h1, by rw [h2, List.length_map]; omega⟩
theorem Kp.look {M : HL} {l : List One} (h : Kp M l) (p : Int) : ∃ c : List Pte, look l p = c.map prow ∧ c.length ≤ 2 := by
  unfold YtdmcdlgcmeledaaDoor.look
  cases hi : idx l p with
  | none => exact ⟨[], rfl, by simp⟩
  | some i =>
    have : i < l.length := by
      unfold idx at hi
      exact (List.findIdx?_eq_some_iff_getElem.1 hi).1
    exact (h _ (getD_mem this)).2
structure TP (M : HL) (n : Int) (l ld : List One) (J : List (List Value)) : Prop where
  eq : l.map pc = ld.map pc
  kl : Kp M l
  kd : Kp M ld
  len : l.length + J.length ≤ 64
  n : (l.length : Int) ≤ n
  J : ∀ r ∈ J, r.length = 2
theorem idx_pc (l : List One) (p : Int) : idx l p = (l.map pc).findIdx? fun q => decide (q.1 = p) := by
  unfold idx
  rw [List.findIdx?_map]
  rfl
theorem TP.idx {M : HL} {n : Int} {l ld : List One} {J : List (List Value)} (h : TP M n l ld J) (p : Int) : YtdmcdlgcmeledaaDoor.idx ld p = YtdmcdlgcmeledaaDoor.idx l p := by
  rw [idx_pc, idx_pc, h.eq]
theorem TP.ll {M : HL} {n : Int} {l ld : List One} {J : List (List Value)} (h : TP M n l ld J) : ld.length = l.length := by
  have := congrArg List.length h.eq
  simpa using this.symm
theorem TP.ps {M : HL} {n : Int} {l ld : List One} {J : List (List Value)} (h : TP M n l ld J) : ld.map (·.p) = l.map (·.p) := by
  have := congrArg (List.map Prod.fst) h.eq
  simpa [pc, Function.comp_def] using this.symm
theorem TP.cs {M : HL} {n : Int} {l ld : List One} {J : List (List Value)} (h : TP M n l ld J) {i : Nat} (hi : i < l.length) : (ld.getD i default).c = (l.getD i default).c := by
  have h1 := congrArg (fun x => (x.getD i (0, [])).2) h.eq
  have h2 := h.ll
  simpa [List.getD, hi, h2, pc] using h1.symm
theorem idx_lt {l : List One} {p : Int} {i : Nat} (h : idx l p = some i) : i < l.length := by
  unfold idx at h
  exact (List.findIdx?_eq_some_iff_getElem.1 h).1
theorem TP.mono {M M' : HL} {n : Int} {l ld : List One} {J : List (List Value)} (h : TP M n l ld J) (hM : FLe M M') : TP M' n l ld J := ⟨h.eq, h.kl.mono hM, h.kd.mono hM, h.len, h.n, h.J⟩
theorem Kp.set {M : HL} {l : List One} (h : Kp M l) (i : Nat) {p : Int} {y : Value} {c : List Pte} (hR : Vc.RowsIn M 42 pck y (c.map prow)) (hc : c.length ≤ 2) : Kp M (l.set i ⟨p, y, c.map prow⟩) := fun x hx => by
  rcases List.mem_or_eq_of_mem_set hx with h1 | rfl
  · exact h x h1
  · exact ⟨hR, c, rfl, hc⟩
theorem Kp.putN {M : HL} {l : List One} (h : Kp M l) (n : Int) {p : Int} {y : Value} {c : List Pte} (hR : Vc.RowsIn M 42 pck y (c.map prow)) (hc : c.length ≤ 2) : Kp M (putN n l ⟨p, y, c.map prow⟩) := fun x hx => by
  unfold YtdmcdlgcmeledaaDoor.putN at hx
  rw [List.mem_append] at hx
  rcases hx with h1 | h1
  · split at h1
    · exact h x (List.mem_of_mem_drop h1)
    · exact h x h1
  · simp at h1
    subst h1
    exact ⟨hR, c, rfl, hc⟩
theorem TP.set {M : HL} {n : Int} {l ld : List One} {J : List (List Value)} (h : TP M n l ld J) (i : Nat) {p : Int} {y z : Value} {c : List Pte} (hy : Vc.RowsIn M 42 pck y (c.map prow)) (hz : Vc.RowsIn M 42 pck z (c.map prow)) (hc : c.length ≤ 2) :
    TP M n (l.set i ⟨p, y, c.map prow⟩) (ld.set i ⟨p, z, c.map prow⟩) J :=
  ⟨by rw [List.map_set, List.map_set, h.eq]; rfl, h.kl.set i hy hc, h.kd.set i hz hc, by simpa using h.len, by simpa using h.n, h.J⟩
theorem putN_len {n : Int} {l : List One} (x : One) (h1 : 1 ≤ n) (h : (l.length : Int) ≤ n) : ((putN n l x).length : Int) ≤ n := by
  unfold putN
  split
  · simp; omega
  · simp; omega
theorem TP.put {M : HL} {n : Int} {l ld : List One} {J : List (List Value)} (h : TP M n l ld J) {p : Int} {y z : Value} {c : List Pte} (hy : Vc.RowsIn M 42 pck y (c.map prow)) (hz : Vc.RowsIn M 42 pck z (c.map prow)) (hc : c.length ≤ 2) (hn : 1 ≤ n) (hn2 : n ≤ 64) :
    TP M n (putN n l ⟨p, y, c.map prow⟩) (putN n ld ⟨p, z, c.map prow⟩) [] := by
  have hl := putN_len ⟨p, y, c.map prow⟩ hn h.n
  refine ⟨?_, h.kl.putN n hy hc, h.kd.putN n hz hc, by simp; omega, hl, by simp⟩
  unfold putN
  rw [h.ll, List.map_append, List.map_append]
  congr 1
  split
  · rw [List.map_drop, List.map_drop, h.eq]
  · exact h.eq
theorem keep_pc (w : List Int) (l : List One) : (l.filter (keep w)).map pc = (l.map pc).filter fun q => !gone w q.1 := by
  rw [List.filter_map]
  rfl
theorem TP.flush {M : HL} {n : Int} {l ld : List One} {J J' : List (List Value)} (h : TP M n l ld J) (w : List Int) (hJ : ∀ r ∈ J', r.length = 2) (hl : (l.filter (keep w)).length + J'.length = l.length + J.length) :
    TP M n (l.filter (keep w)) (ld.filter (keep w)) J' :=
  ⟨by rw [keep_pc, keep_pc, h.eq], fun x hx => h.kl x (List.mem_filter.1 hx).1, fun x hx => h.kd x (List.mem_filter.1 hx).1, by have := h.len; omega, by have := h.n; have := List.length_filter_le (keep w) l; omega, hJ⟩
/-- What a TLB is told. -/
structure Do where
  k : Int
  p : Int
  yl : Value
  yp : Value
  l : List Pte
  w : List Int
deriving Inhabited
def drow (d : Do) : List Value := [.int .i64 d.k, .int .u32 d.p, d.yl, d.yp]
def dck : List CK := [.int .i64, .int .u32, .sl, .sl]
def DosIn (M : HL) (ds : List Do) : Prop := ∀ d ∈ ds, 0 ≤ d.p ∧ (∃ e, Vc.RowsIn M e pck d.yl (d.l.map prow)) ∧ ∃ e, Vc.RowsIn M e [.int .u32] d.yp (d.w.map urow)
theorem DosIn.mono {M M' : HL} {ds : List Do} (h : DosIn M ds) (hM : FLe M M') : DosIn M' ds := fun d hd => by
  obtain ⟨h0, ⟨e1, h1⟩, e2, h2⟩ := h d hd
  exact ⟨h0, ⟨e1, h1.mono hM⟩, e2, h2.mono hM⟩
end Go.Proofs.YtdmcdlgcmeledaaDoor
