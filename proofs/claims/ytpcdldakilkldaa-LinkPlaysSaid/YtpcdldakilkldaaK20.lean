/-
  min, max, function values, clear, append where there is room, x[i:j:k].
-/
import Derived.Test.YtpcdldakilkldaaK19
namespace Go.Wk
open Go

section
variable {P : Program} {ρ : Operand → Value} {ty : TypeId} {w : World}

theorem y_max {t u : TypeId} {x y : Operand} {k q : IntKind} {a b c : Int} (hx : ρ x = .int k a) (hy : ρ y = .int q b) (h : (if b > a then b else a) = c) :
    (exOp ρ (.call ⟨.builtin .max, #[x, y], #[t, u]⟩) ty).run P w = .ok (.value (.int k c)) w := by
  subst h
  simp [exOp, execOp, resolve, invoke, builtin, hx, hy, Builtin.max_, Builtin.max2]
theorem y_min {t u : TypeId} {x y : Operand} {k q : IntKind} {a b c : Int} (hx : ρ x = .int k a) (hy : ρ y = .int q b) (h : (if b < a then b else a) = c) :
    (exOp ρ (.call ⟨.builtin .min, #[x, y], #[t, u]⟩) ty).run P w = .ok (.value (.int k c)) w := by
  subst h
  simp [exOp, execOp, resolve, invoke, builtin, hx, hy, Builtin.min_, Builtin.min2]

/-- A call of a function value. -/
theorem x_callv {f : FuncId} {fn : Func} {c : Code} {g : Operand} {args : Array Operand} {ats : Array TypeId} {first caps vs : Array Value} (hf : P.funcs[f]? = some fn) (hn : (fn.name == "runtime.NumGoroutine") = false) (hb : fn.body = some c)
    (hg : ρ g = .func (.func f) first caps) (ha : first ++ args.map ρ ++ caps = vs) :
    (exOp ρ (.call { callee := .value g, args := args, argTypes := ats }) ty).run P w = .ok (.enter f vs) w := by
  have hn' : ¬ (fn.name == "runtime.NumGoroutine") = true := by simp [hn]
  simp only [exOp, execOp, resolve, Deferred.ofValue, hg, ha, Sem.run_bind, Sem.run_pure, Result.andThen_ok, invoke, callFunc, run_program, hf]
  rw [if_neg hn', hb]
  rfl
theorem y_makeFunc {fn : Fn} {first caps : Array Operand} {fv cv : Array Value} (h1 : first.map ρ = fv) (h2 : caps.map ρ = cv) : (exOp ρ (.makeFunc fn first caps) ty).run P w = .ok (.value (.func fn fv cv)) w := by
  subst h1 h2
  rfl
/-- x[l:h:m], looked at for its bounds alone. -/
theorem x_cut3 {t e : TypeId} {x lo hi mx : Operand} {a : Option Addr} {n c sz l h m : Nat} {k q p : IntKind} {li hi' mi : Int} (ht : elemT P t = some (e, sz)) (hx : ρ x = .slice a n c) (hl : ρ lo = .int k li) (hh : ρ hi = .int q hi') (hm : ρ mx = .int p mi)
    (hli : li = l) (hhi : hi' = h) (hmi : mi = m) (h0 : l ≤ h ∧ h ≤ m ∧ m ≤ c) : (exOp ρ (.slice t x (some lo) (some hi) (some mx)) ty).run P w = .ok (.value (.slice (cutA a m l sz) (h - l) (m - l))) w := by
  obtain ⟨hu, inf, hinf, rfl⟩ := elemT_spec ht
  subst hli; subst hhi; subst hmi
  simp only [exOp, execOp, hx, hl, hh, hm, Option.map_some, Instr.sliceAt, Instr.slice, Instr.sliceBounds, Sem.run_bind, run_underlying hu, Result.andThen_ok, Sem.run_pure, if_true, Option.isSome_some, run_bound _ h0.2.2, run_bound _ h0.2.1,
    run_bound _ h0.1, sizeOf, typeInfo, run_program, hinf]
  rfl
end

section
variable {P : Program} {ops : Array Oper} {C : World → Prop} {Q : Fr → World → Prop} {r : List (Nat × Md)} {ρ : Fr} {w : World} {i : Nat}
  {d : Option Tmp} {ty : TypeId} {gd : Option (Nat × Bool)} {α : Type} {enc : α → List Value} {sz : Nat}

theorem flatten_rep {β : Type} (zs : List β) : ∀ (n j : Nat) (h0 : 0 < zs.length) (h : j < n * zs.length) (hm : j % zs.length < zs.length), (List.replicate n zs).flatten[j]'(by rw [List.length_flatten, List.map_replicate, List.sum_replicate_nat]; exact h) = zs[j % zs.length]
  | 0, j, h0, h, hm => by omega
  | n + 1, j, h0, h, hm => by
    have e : (List.replicate (n + 1) zs).flatten = zs ++ (List.replicate n zs).flatten := by simp [List.replicate_succ]
    simp only [e]
    by_cases hj : j < zs.length
    · rw [List.getElem_append_left hj]
      simp only [Nat.mod_eq_of_lt hj]
    · rw [List.getElem_append_right (by omega)]
      have := flatten_rep zs n (j - zs.length) h0 (by rw [Nat.add_mul, Nat.one_mul] at h; omega) (Nat.mod_lt _ h0)
      rw [this]
      have e2 : (j - zs.length) % zs.length = j % zs.length := (Nat.mod_eq_sub_mod (by omega)).symm
      simp only [e2]

/-- Cells of a row, replaced. -/
theorem putCells_at (xs vs : List Value) (off : Nat) (h : off + vs.length ≤ xs.length) : (putCells xs.toArray off vs).toList = xs.take off ++ vs ++ xs.drop (off + vs.length) := by
  rw [putCells_list vs xs off h]

/-- append where there is room: there. -/
theorem wk_append_fit {t e : TypeId} {by_ n m c cx g off bx offx : Nat} {s x : Operand} {ax : Option Addr} {xs news : List Value} (ho : opD ops i = some (d, .call ⟨.builtin .append, #[s, x], #[t, t]⟩, ty, gd)) (hw : wantedG ops ρ gd = true)
    (ht : appT P t = some (e, sz, by_)) (hs : ρ.ev s = .slice (some ⟨g, off, none⟩) n c) (hg : w.heap[g]? = some (.cells xs.toArray e (0, 0))) (hx : ρ.ev x = .slice ax m cx) (hsl : Sl w sz ax m bx offx news)
    (hroom : n + m ≤ c) (hfit : off + n * sz + news.length ≤ xs.length) (h1 : news.all Value.oneCell' = true)
    (h : ∀ w', Ext [g] w w' → w'.heap.size = w.heap.size → w'.heap[g]? = some (.cells (xs.take (off + n * sz) ++ news ++ xs.drop (off + n * sz + news.length)).toArray e (0, 0)) → C w' ∧ wk P ops C Q r (updO ρ d (.slice (some ⟨g, off, none⟩) (n + m) c)) w') :
    wk P ops C Q ((i, .loud) :: r) ρ w := by
  obtain ⟨hu, inf, z, hi, hzv, rfl, rfl⟩ := appT_spec ht
  obtain ⟨w', h2, h3, h4, h5⟩ := run_storeCells_put (P := P) g e news (off + n * inf.size) 0 xs.toArray w hg (by simpa using hfit) (fun v hv => List.all_eq_true.1 h1 v hv)
  have e1 : putCells xs.toArray (off + n * inf.size + 0) news = (xs.take (off + n * inf.size) ++ news ++ xs.drop (off + n * inf.size + news.length)).toArray := by
    rw [Nat.add_zero]
    exact putCells_list news xs _ hfit
  rw [e1] at h5
  have hk := h w' h3 h4 h5
  have hadd : (⟨g, off, none⟩ : Addr).add (n * inf.size) = ⟨g, off + n * inf.size, none⟩ := by unfold Addr.add; split <;> simp_all
  have hr : (Builtin.append_ #[t, t] ty #[.slice (some ⟨g, off, none⟩) n c, .slice ax m cx]).run P w = .ok (.slice (some ⟨g, off, none⟩) (n + m) c) w' := by
    have hfc : (Builtin.firstCells inf.size m (.slice ax m cx)).run P w = .ok news.toArray w := by
      by_cases hm : m = 0
      · subst hm
        have : news = [] := List.eq_nil_of_length_eq_zero (by simpa using hsl.len)
        subst this
        cases ax with
        | none => rfl
        | some a => simp [Builtin.firstCells, loadCells, loadCellsFrom]
      · have hsm := hsl.addr (by omega)
        subst hsm
        exact run_firstCells_some (P := P) w inf.size m ⟨bx, offx, none⟩ m cx news hsl.len (fun j v hv => by
          rw [Addr.add_off]
          obtain ⟨hj, rfl⟩ := List.getElem?_eq_some_iff.1 hv
          exact hsl.cell j hj)
    simp [Builtin.append_, run_underlying hu, sizeOf, typeInfo, hi, Builtin.lenOf, hroom, hfc, hadd, h2]
  exact wk_val ho hw _ (x_builtin_append hs hx hr) hk.1 hk.2

/-- clear(x): noughts. -/
theorem wk_clear {t e : TypeId} {by_ n c g off : Nat} {x : Operand} {a : Option Addr} {xs zs : List Value} (ho : opD ops i = some (d, .call ⟨.builtin .clear, #[x], #[t]⟩, ty, gd)) (hw : wantedG ops ρ gd = true)
    (ht : appT P t = some (e, sz, by_)) (hz : zeroOf P e = some zs.toArray) (hzl : zs.length = sz) (hx : ρ.ev x = .slice a n c) (ha : 0 < n → a = some ⟨g, off, none⟩) (hg : w.heap[g]? = some (.cells xs.toArray e (0, 0)))
    (hfit : off + n * sz ≤ xs.length) (h1 : zs.all Value.oneCell' = true)
    (h : ∀ w', Ext [g] w w' → w'.heap.size = w.heap.size → w'.heap[g]? = some (.cells (xs.take off ++ (List.replicate n zs).flatten ++ xs.drop (off + n * sz)).toArray e (0, 0)) → C w' ∧ wk P ops C Q r (updO ρ d (.tuple #[])) w') :
    wk P ops C Q ((i, .loud) :: r) ρ w := by
  obtain ⟨hu, inf, z, hi, hzv, rfl, rfl⟩ := appT_spec ht
  have hzc : z.cells = zs.toArray := by
    unfold zeroOf at hz
    simp only [hi, hzv] at hz
    simpa using hz
  have hrun : ∀ w', (Builtin.clear_ #[t] ty #[.slice a n c]).run P w = .ok (.tuple #[]) w' → (exOp ρ.ev (.call { callee := .builtin .clear, args := #[x], argTypes := #[t] }) ty).run P w = .ok (.value (.tuple #[])) w' := fun w' hr => by
    simp [exOp, execOp, resolve, invoke, builtin, hx, hr]
  by_cases hn : n = 0
  · subst hn
    have hk := h w (.refl _ _) rfl (by simpa using hg)
    refine wk_val ho hw _ (hrun w ?_) hk.1 hk.2
    cases a with
    | none => simp [Builtin.clear_, run_underlying hu]
    | some a => simp [Builtin.clear_, run_underlying hu]
  · have := ha (by omega)
    subst this
    have hlen : ((List.replicate n zs).flatten).length = n * inf.size := by
      rw [List.length_flatten, List.map_replicate, List.sum_replicate_nat, hzl]
    have hall : ∀ v ∈ (List.replicate n zs).flatten, v.oneCell' = true := by
      intro v hv
      obtain ⟨l, hl, hvl⟩ := List.mem_flatten.1 hv
      rw [List.eq_of_mem_replicate hl] at hvl
      exact List.all_eq_true.1 h1 v hvl
    have hzcells : (Builtin.zeroCells z.cells n).toList = (List.replicate n zs).flatten := by
      rw [hzc]
      refine List.ext_getElem (by rw [hlen]; simp [Builtin.zeroCells, hzl]) fun j h1 h2 => ?_
      rw [hlen] at h2
      have hsz : 0 < inf.size := by
        rcases Nat.eq_zero_or_pos inf.size with h0 | h0
        · rw [h0] at h2; omega
        · exact h0
      have hm : j % inf.size < zs.length := by rw [hzl]; exact Nat.mod_lt _ hsz
      have e1 : (Builtin.zeroCells zs.toArray n).toList[j] = zs[j % inf.size] := by
        have e3 : (Builtin.zeroCells zs.toArray n).toList[j] = zs.toArray[j % zs.toArray.size]! := by simp [Builtin.zeroCells]
        rw [e3, getElem!_pos zs.toArray _ (by simpa [hzl] using hm)]
        simp [hzl]
      rw [e1]
      have hm2 : j % zs.length < zs.length := Nat.mod_lt _ (by rw [hzl]; exact hsz)
      have e2 := flatten_rep zs n j (by rw [hzl]; exact hsz) (by rw [hzl]; exact h2) hm2
      rw [e2]
      simp only [hzl]
    obtain ⟨w', h2, h3, h4, h5⟩ := run_storeCells_put (P := P) g e ((List.replicate n zs).flatten) off 0 xs.toArray w hg (by simpa [hlen] using hfit) hall
    rw [Nat.add_zero, putCells_list _ xs _ (by rw [hlen]; exact hfit), hlen] at h5
    have hk := h w' h3 h4 h5
    refine wk_val ho hw _ (hrun w' ?_) hk.1 hk.2
    have hn' : n ≠ 0 := hn
    obtain ⟨n', rfl⟩ : ∃ n', n = n' + 1 := ⟨n - 1, by omega⟩
    simp [Builtin.clear_, run_underlying hu, zeroValue, typeInfo, hi, hzv, hzcells, h2]
end
end Go.Wk
