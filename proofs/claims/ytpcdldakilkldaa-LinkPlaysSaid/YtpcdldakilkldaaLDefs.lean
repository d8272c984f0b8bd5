/-
  Links: messages and a link's state, as they lie in memory, and as plain data.
-/
import Derived.Test.YtpcdldakilkldaaK28
import Derived.Test.YtpcdldakilkldaaProg
namespace Go.Proofs.Ytpcdldakilkldaa
open Go Go.Wk

def encI (z : Int) : List Value := [.int .i64 z]
theorem encI_len (z : Int) : (encI z).length = 1 := rfl
theorem encI_one (z : Int) : (encI z).all Value.oneCell' = true := rfl
def hiOf (z : Int) : Int := z / 18446744073709551616
def loOf (z : Int) : Int := z % 18446744073709551616
def encW (z : Int) : List Value := [.int .i64 (hiOf z), .int .u64 (loOf z)]
theorem encW_len (z : Int) : (encW z).length = 2 := rfl
theorem encW_one (z : Int) : (encW z).all Value.oneCell' = true := rfl
theorem wide_eq {x y : Int} : (hiOf x = hiOf y ∧ loOf x = loOf y) ↔ x = y := by unfold hiOf loOf; omega

/-- A message, with where its lists lie. -/
structure MsgR where
  kind : Int
  frm : Int
  to : Int
  view : Int
  seq : Int
  na : Option Addr
  nb : Nat
  noff : Nat
  nc : Nat
  N : List Int
  wa : Option Addr
  wb : Nat
  woff : Nat
  wc : Nat
  W : List Int
def M0 : MsgR := ⟨0, 0, 0, 0, 0, none, 0, 0, 0, [], none, 0, 0, 0, []⟩
def encM (m : MsgR) : List Value := [.int .i64 m.kind, .int .i64 m.frm, .int .i64 m.to, .int .u32 m.view, .int .u32 m.seq, .slice m.na m.N.length m.nc, .slice m.wa m.W.length m.wc]
theorem encM_len (m : MsgR) : (encM m).length = 7 := rfl
theorem encM_one (m : MsgR) : (encM m).all Value.oneCell' = true := rfl
structure Msg where
  kind : Int
  frm : Int
  to : Int
  view : Int
  seq : Int
  N : List Int
  W : List Int
  deriving DecidableEq
def MsgR.abs (m : MsgR) : Msg := ⟨m.kind, m.frm, m.to, m.view, m.seq, m.N, m.W⟩

/-- Its lists lie where nothing is written. -/
structure MOk (γ : Nat → Nat) (w : World) (m : MsgR) : Prop where
  n : SlG γ w 0 1 m.na m.nb m.noff encI m.N
  w : SlG γ w 0 2 m.wa m.wb m.woff encW m.W
  v0 : 0 ≤ m.view ∧ m.view < 4294967296
  s0 : 0 ≤ m.seq ∧ m.seq < 4294967296
  nr : ∀ i, -9223372036854775808 ≤ m.N.getD i 0 ∧ m.N.getD i 0 ≤ 9223372036854775807
  nl : m.N.length ≤ 8796093022208
  wl : m.W.length ≤ 8796093022208

section
variable {C : List Nat} {w w1 : World} {γ γ1 : Nat → Nat}
theorem MOk.keep {m : MsgR} (h : MOk γ w m) (g : GX C w γ w1 γ1) (hc : 0 ∉ C) : MOk γ1 w1 m := ⟨h.n.keep g hc, h.w.keep g hc, h.v0, h.s0, h.nr, h.nl, h.wl⟩
/-- All of them are right. -/
def AllOk (γ : Nat → Nat) (w : World) (L : List MsgR) : Prop := ∀ m ∈ L, MOk γ w m
theorem AllOk.keep {L : List MsgR} (h : AllOk γ w L) (g : GX C w γ w1 γ1) (hc : 0 ∉ C) : AllOk γ1 w1 L := fun m hm => (h m hm).keep g hc
theorem AllOk.nil : AllOk γ w [] := fun m hm => absurd hm List.not_mem_nil
theorem AllOk.get {L : List MsgR} (h : AllOk γ w L) {i : Nat} (hi : i < L.length) : MOk γ w (L.getD i M0) := by
  rw [List.getD_eq_getElem?_getD, List.getElem?_eq_getElem hi]
  exact h _ (List.getElem_mem hi)
theorem AllOk.add {L : List MsgR} {m : MsgR} (h : AllOk γ w L) (hm : MOk γ w m) : AllOk γ w (L ++ [m]) := fun x hx => by
  rcases List.mem_append.1 hx with hx | hx
  · exact h x hx
  · rw [List.mem_singleton.1 hx]; exact hm
theorem AllOk.sub {L M : List MsgR} (h : AllOk γ w L) (hs : ∀ m ∈ M, m ∈ L) : AllOk γ w M := fun m hm => h m (hs m hm)
end

/-- A slice of messages, to be read. -/
def MsgsAt (γ : Nat → Nat) (w : World) (v : Value) (L : List MsgR) : Prop := ∃ a b off c, v = .slice a L.length c ∧ SlG γ w 0 7 a b off encM L ∧ AllOk γ w L
theorem MsgsAt.keep {C : List Nat} {w w1 : World} {γ γ1 : Nat → Nat} {v : Value} {L : List MsgR} (h : MsgsAt γ w v L) (g : GX C w γ w1 γ1) (hc : 0 ∉ C) : MsgsAt γ1 w1 v L := by
  obtain ⟨a, b, off, c, h1, h2, h3⟩ := h
  exact ⟨a, b, off, c, h1, h2.keep g hc, h3.keep g hc⟩

/-- A message that waits for an acknowledgement. -/
structure SndR where
  m : MsgR
  sent : Bool
  at_ : Int
def S0 : SndR := ⟨M0, false, 0⟩
def encS (s : SndR) : List Value := encM s.m ++ [.bool s.sent, .int .i64 s.at_]
theorem encS_len (s : SndR) : (encS s).length = 9 := rfl
theorem encS_one (s : SndR) : (encS s).all Value.oneCell' = true := rfl

theorem AllOk.getS {γ : Nat → Nat} {w : World} {L : List SndR} (h : AllOk γ w (L.map (·.m))) {i : Nat} (hi : i < L.length) : MOk γ w (L.getD i S0).m := by
  rw [List.getD_eq_getElem?_getD, List.getElem?_eq_getElem hi]
  exact h _ (List.mem_map.2 ⟨_, List.getElem_mem hi, rfl⟩)

/-- A link, with where its parts lie. -/
structure LkR where
  own : Int
  peer : Int
  view : Int
  now : Int
  oa : Option Addr
  og : Nat
  oc : Nat
  out : List SndR
  orest : List Value
  pushed : Int
  told : Int
  next : Int
  ha : Option Addr
  hg : Nat
  hc : Nat
  held : List MsgR
  hrest : List Value
def LkR.obj (s : LkR) : Obj := .cells #[.int .i64 s.own, .int .i64 s.peer, .int .u32 s.view, .int .i64 s.now, .slice s.oa s.out.length s.oc, .int .u32 s.pushed, .int .u32 s.told, .int .u32 s.next, .slice s.ha s.held.length s.hc] 61 (0, 0)
structure LinkAt (γ : Nat → Nat) (w : World) (k p : Nat) (s : LkR) : Prop where
  hp : Bk γ w p k s.obj
  ho : OwNG γ w (k + 1) 65 9 s.oa s.og s.oc encS s.out s.orest
  hh : OwNG γ w (k + 2) 32 7 s.ha s.hg s.hc encM s.held s.hrest
  ao : AllOk γ w (s.out.map (·.m))
  ah : AllOk γ w s.held
  b1 : 0 ≤ s.view ∧ s.view < 4294967296
  b2 : 0 ≤ s.pushed ∧ s.pushed < 4294967296
  b3 : 0 ≤ s.told ∧ s.told < 4294967296
  b4 : 0 ≤ s.next ∧ s.next < 4294967296
  b5 : 0 ≤ s.now ∧ s.now ≤ 9223372036854775807
  l1 : s.out.length ≤ 1024
  l2 : s.held.length ≤ 1000000
  l3 : ∀ j, j < s.out.length → 0 ≤ (s.out.getD j S0).at_ ∧ (s.out.getD j S0).at_ ≤ s.now
theorem LinkAt.keep {C : List Nat} {w w1 : World} {γ γ1 : Nat → Nat} {k p : Nat} {s : LkR} (h : LinkAt γ w k p s) (g : GX C w γ w1 γ1) (h0 : 0 ∉ C) (h1 : k ∉ C) (h2 : k + 1 ∉ C) (h3 : k + 2 ∉ C) : LinkAt γ1 w1 k p s :=
  ⟨h.hp.keep g h1, h.ho.keep g h2, h.hh.keep g h3, h.ao.keep g h0, h.ah.keep g h0, h.b1, h.b2, h.b3, h.b4, h.b5, h.l1, h.l2, h.l3⟩
theorem getD_app {α : Type} {L : List α} {x d : α} {j : Nat} (h : j < (L ++ [x]).length) : (L ++ [x]).getD j d = if j < L.length then L.getD j d else x := by
  rw [List.length_append, List.length_singleton] at h
  by_cases hl : j < L.length
  · rw [if_pos hl]; simp [List.getD, List.getElem?_append, hl]
  · have : j = L.length := by omega
    subst this
    rw [if_neg hl]; simp [List.getD]
theorem getD_set {α : Type} {L : List α} {x d : α} {j i : Nat} (h : i < L.length) : (L.set i x).getD j d = if j = i then x else L.getD j d := by
  simp only [List.getD_eq_getElem?_getD, List.getElem?_set]
  by_cases hji : i = j
  · subst hji; simp [h]
  · rw [if_neg hji, if_neg (fun e => hji e.symm)]
end Go.Proofs.Ytpcdldakilkldaa
