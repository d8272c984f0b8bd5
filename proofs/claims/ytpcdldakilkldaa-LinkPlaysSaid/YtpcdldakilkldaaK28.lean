/-
  Shorter words for the commonest steps.
-/
import Derived.Test.YtpcdldakilkldaaK27
namespace Go.Wk
open Go
theorem ni1 {a b : Nat} (h : a ≠ b := by omega) : a ∉ [b] := by simpa using h
theorem ni2 {a b c : Nat} (h : a ≠ b ∧ a ≠ c := by omega) : a ∉ [b, c] := by simpa using h
theorem ni3 {a b c d : Nat} (h : a ≠ b ∧ a ≠ c ∧ a ≠ d := by omega) : a ∉ [b, c, d] := by simpa using h
theorem ni0 {a : Nat} : a ∉ ([] : List Nat) := List.not_mem_nil
@[reducible] def pu (i : Nat) : Nat × Md := (i, .pure)
@[reducible] def rd (i : Nat) : Nat × Md := (i, .read)
@[reducible] def lo (i : Nat) : Nat × Md := (i, .loud)
section
variable {P : Program} {ops : Array Oper} {C : World → Prop} {Q : Fr → World → Prop} {r : List (Nat × Md)} {ρ : Fr} {w : World} {i : Nat}
theorem wpm (d : Tmp) (x : Operand) (ty : TypeId) (v : Value) (h : wk P ops C Q r (updO ρ (some d) v) w) (hx : ρ.ev x = v := by kernel_rfl) (ho : opD ops i = some (some d, .move x, ty, none) := by kernel_rfl) :
    wk P ops C Q ((i, .pure) :: r) ρ w := wk_pure ho rfl v (fun _ => y_move hx) h
theorem wpa (d : Tmp) (x : Operand) (ty : TypeId) (v : Value) (h : wk P ops C Q r (updO ρ (some d) v) w) (hx : ρ.ev x = v := by kernel_rfl) (ho : opD ops i = some (some d, .assign x, ty, none) := by kernel_rfl) :
    wk P ops C Q ((i, .pure) :: r) ρ w := wk_pure ho rfl v (fun _ => y_assign hx) h
theorem wpn (d : Tmp) (x : Operand) (a : Addr) (h : wk P ops C Q r (updO ρ (some d) (.pointer (some a))) w) (hx : ρ.ev x = .pointer (some a) := by kernel_rfl) (ho : opD ops i = some (some d, .nilCheck x, 0, none) := by kernel_rfl) :
    wk P ops C Q ((i, .pure) :: r) ρ w := wk_pure ho rfl _ (fun _ => x_nilCheck hx) h
theorem wpf (d : Tmp) (s : TypeId) (x : Operand) (f b off o n : Nat) (h : wk P ops C Q r (updO ρ (some d) (.pointer (some ⟨b, n, none⟩))) w) (hx : ρ.ev x = .pointer (some ⟨b, off, none⟩) := by kernel_rfl) (hn : off + o = n := by rfl)
    (hf : fieldOff P s f = some o := by kernel_rfl) (ho : opD ops i = some (some d, .fieldAddr s x f, 0, none) := by kernel_rfl) :
    wk P ops C Q ((i, .pure) :: r) ρ w := by subst hn; exact wk_pure ho rfl _ (fun _ => x_fieldAddr hf hx) h
theorem wpl {cs : Array Value} {e : TypeId} {fz : Nat × Nat} (d : Tmp) (t : TypeId) (x : Operand) (v : Value) (b off : Nat) (hb : w.heap[b]? = some (.cells cs e fz)) (h : wk P ops C Q r (updO ρ (some d) v) w) (hx : ρ.ev x = .pointer (some ⟨b, off, none⟩) := by kernel_rfl)
    (ht : oneT P t = true := by kernel_rfl) (hv : cs[off]? = some v := by kernel_rfl) (ho : opD ops i = some (some d, .load t x, t, none) := by kernel_rfl) (hC : C w := by trivial) :
    wk P ops C Q ((i, .loud) :: r) ρ w := wk_val ho rfl v (x_load ht hx hb hv) hC h
theorem wkc (d : Tmp) (f : FuncId) (args : Array Operand) (ats : Array TypeId) (ty : TypeId) (vs : Array Value) {fn : Func} (hf : P.funcs[f]? = some fn) (h : CallsV P f vs w fun v w' => C w' ∧ wk P ops C Q r (updO ρ (some d) v) w')
    (ha : args.map ρ.ev = vs := by kernel_rfl) (ho : opD ops i = some (some d, .call { callee := .value (.func f), args := args, argTypes := ats }, ty, none) := by kernel_rfl) (hn : (fn.name == "runtime.NumGoroutine") = false := by kernel_rfl)
    (hb : fn.body = some (fn.body.getD .skip) := by kernel_rfl) (hfn : ρ.ev (.func f) = .func (.func f) #[] #[] := by kernel_rfl) : wk P ops C Q ((i, .loud) :: r) ρ w :=
  wk_call ho rfl f vs (x_call hf hn hb ha hfn) h
theorem wpt (d : Tmp) (o x y : Operand) (ty : TypeId) (v : Value) (h : wk P ops C Q r (updO ρ (some d) v) w) (hc : ρ.ev o = .bool true := by kernel_rfl) (hx : ρ.ev x = v := by kernel_rfl) (ho : opD ops i = some (some d, .pick o x y, ty, none) := by kernel_rfl) :
    wk P ops C Q ((i, .pure) :: r) ρ w := wk_pure ho rfl v (fun _ => y_pick_t hc hx) h
theorem wpk (d : Tmp) (o x y : Operand) (ty : TypeId) (v : Value) (h : wk P ops C Q r (updO ρ (some d) v) w) (hc : ρ.ev o = .bool false := by kernel_rfl) (hx : ρ.ev y = v := by kernel_rfl) (ho : opD ops i = some (some d, .pick o x y, ty, none) := by kernel_rfl) :
    wk P ops C Q ((i, .pure) :: r) ρ w := wk_pure ho rfl v (fun _ => y_pick_f hc hx) h
theorem wks {m : Md} (d : Tmp) (h : wk P ops C Q r (updO ρ (some d) undef) w) (hs : skipD ops i ρ (some d) = true := by kernel_rfl) : wk P ops C Q ((i, m) :: r) ρ w := wk_skp (some d) hs h
end
end Go.Wk
