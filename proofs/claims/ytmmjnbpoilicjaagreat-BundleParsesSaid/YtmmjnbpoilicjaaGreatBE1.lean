/- An evaluator of a part of Go, and what its memory says of a world; first part of its soundness. -/
import Derived.OrdersHeld
import Derived.Deep.AppendSrc
import Derived.WalkKit
import Derived.Below
import Derived.Deep.MidRow
set_option linter.unusedVariables false
set_option linter.unusedSimpArgs false
section
namespace Go.E
open Go
inductive DV where
  | lit (v : Value)
  | int (k : IntKind) (n : Int)
  | bool (b : Bool)
  | str (l : List Nat)
  | ptr (n e o k : Nat)
  | sl (n e i sz len : Nat) (lim : Option Nat)
  | map (n : Nat)
  | fn (f : Nat) (fs cs : List DV)
  | agg (cs : List DV)
  | tup (vs : List DV)
  | row (e m fz : Nat) (cs : List DV)
  | ents (clk : Nat) (ks vs : List DV) (bs : List Nat)
  | iter (nl : Bool) (m since : Nat) (seen : List Nat) (last : Nat)
  | none
instance : Inhabited DV := ⟨.none⟩
noncomputable def seqN {β : Type _} (n : Nat) (k : Nat → β) : β := Nat.rec (k 0) (fun m _ => k (Nat.succ m)) n
noncomputable def seqI {β : Type _} (n : Int) (k : Int → β) : β := Int.rec (fun m => seqN m fun m => k (.ofNat m)) (fun m => seqN m fun m => k (.negSucc m)) n
noncomputable def seqB {β : Type _} (b : Bool) (k : Bool → β) : β := Bool.rec (k false) (k true) b
noncomputable def seqD {β : Type _} (d : DV) (k : DV → β) : β :=
  DV.casesOn (motive_1 := fun _ => β) d (fun v => k (.lit v)) (fun a b => k (.int a b)) (fun b => k (.bool b)) (fun l => k (.str l)) (fun n e o x => k (.ptr n e o x)) (fun n e i z l m => k (.sl n e i z l m))
    (fun n => k (.map n)) (fun f fs cs => k (.fn f fs cs)) (fun l => k (.agg l)) (fun l => k (.tup l)) (fun e m z l => k (.row e m z l)) (fun c ks vs bs => k (.ents c ks vs bs)) (fun b m s l t => k (.iter b m s l t)) (k .none)
noncomputable def seqLN {β : Type _} (l : List Nat) : (List Nat → β) → β := List.rec (fun k => k []) (fun a _ ih k => seqN a fun a' => ih fun r' => k (a' :: r')) l
noncomputable def seqLD {β : Type _} (l : List DV) : (List DV → β) → β := List.rec (fun k => k []) (fun a _ ih k => seqD a fun a' => ih fun r' => k (a' :: r')) l
theorem seqN_eq {β : Type _} (n : Nat) (k : Nat → β) : seqN n k = k n := by cases n <;> rfl
theorem seqI_eq {β : Type _} (n : Int) (k : Int → β) : seqI n k = k n := by cases n with
  | ofNat m => exact seqN_eq m (fun m => k (.ofNat m))
  | negSucc m => exact seqN_eq m (fun m => k (.negSucc m))
theorem seqB_eq {β : Type _} (b : Bool) (k : Bool → β) : seqB b k = k b := by cases b <;> rfl
theorem seqD_eq {β : Type _} (d : DV) (k : DV → β) : seqD d k = k d := by cases d <;> rfl
theorem seqLN_eq {β : Type _} (l : List Nat) : ∀ k : List Nat → β, seqLN l k = k l := by
  induction l with
  | nil => intro k; rfl
  | cons a r ih => intro k; show seqN a (fun a' => seqLN r fun r' => k (a' :: r')) = _; rw [seqN_eq]; exact ih _
theorem seqLD_eq {β : Type _} (l : List DV) : ∀ k : List DV → β, seqLD l k = k l := by
  induction l with
  | nil => intro k; rfl
  | cons a r ih => intro k; show seqD a (fun a' => seqLD r fun r' => k (a' :: r')) = _; rw [seqD_eq]; exact ih _
noncomputable def lenR {α : Type} (l : List α) : Nat := List.rec 0 (fun _ _ ih => Nat.succ ih) l
noncomputable def dropR {α : Type} (l : List α) : Nat → List α := List.rec (fun _ => []) (fun a r ih n => Nat.rec (a :: r) (fun m _ => ih m) n) l
noncomputable def takeR {α : Type} {β : Type _} (l : List α) : Nat → (List α → β) → β := List.rec (fun _ k => k []) (fun a _ ih n k => Nat.rec (k []) (fun m _ => ih m fun r => k (a :: r)) n) l
noncomputable def appR {α : Type} {β : Type _} (l m : List α) : (List α → β) → β := List.rec (fun k => k m) (fun a _ ih k => ih fun r => k (a :: r)) l
noncomputable def mapR {α γ : Type} {β : Type _} (f : α → γ) (l : List α) : (List γ → β) → β := List.rec (fun k => k []) (fun a _ ih k => ih fun r => k (f a :: r)) l
theorem lenR_eq {α : Type} (l : List α) : lenR l = l.length := by
  induction l with
  | nil => rfl
  | cons a r ih => show Nat.succ (lenR r) = _; rw [ih]; rfl
theorem dropR_eq {α : Type} (l : List α) : ∀ n, dropR l n = l.drop n := by
  induction l with
  | nil => intro n; simp [dropR]
  | cons a r ih => intro n; cases n with
    | zero => rfl
    | succ m => exact ih m
theorem takeR_eq {α : Type} {β : Type _} (l : List α) : ∀ (n : Nat) (k : List α → β), takeR l n k = k (l.take n) := by
  induction l with
  | nil => intro n k; simp [takeR]
  | cons a r ih => intro n k; cases n with
    | zero => rfl
    | succ m => exact ih m _
theorem appR_eq {α : Type} {β : Type _} (l m : List α) : ∀ k : List α → β, appR l m k = k (l ++ m) := by
  induction l with
  | nil => intro k; rfl
  | cons a r ih => intro k; exact ih _
theorem mapR_eq {α γ : Type} {β : Type _} (f : α → γ) (l : List α) : ∀ k : List γ → β, mapR f l k = k (l.map f) := by
  induction l with
  | nil => intro k; rfl
  | cons a r ih => intro k; exact ih _
noncomputable def least {α : Type} (l : List α) : Nat → Bool := List.rec (fun n => Nat.ble n 0) (fun _ _ ih n => Nat.rec true (fun m _ => ih m) n) l
theorem least_eq {α : Type} (l : List α) : ∀ n, least l n = decide (n ≤ l.length) := by
  induction l with
  | nil => intro n; show Nat.ble n 0 = _; cases n <;> simp [Nat.ble]
  | cons a r ih => intro n; cases n with
    | zero => show true = _; simp
    | succ m => show least r m = _; rw [ih m]; simp
theorem beq_ite {β : Type _} (n m : Nat) (a b : β) : (Bool.rec b a (Nat.beq n m) : β) = if n = m then a else b := by
  by_cases h : n = m
  · subst h; rw [if_pos rfl, Nat.beq_refl]
  · rw [if_neg h]
    cases hb : Nat.beq n m with
    | true => exact absurd (Nat.eq_of_beq_eq_true hb) h
    | false => rfl
theorem ble_ite {β : Type _} (n m : Nat) (a b : β) : (Bool.rec b a (Nat.ble n m) : β) = if n ≤ m then a else b := by
  by_cases h : n ≤ m
  · rw [if_pos h, Nat.ble_eq_true_of_le h]
  · rw [if_neg h]
    cases hb : Nat.ble n m with
    | true => exact absurd (Nat.le_of_ble_eq_true hb) h
    | false => rfl
inductive TD where
  | int (k : IntKind)
  | bool
  | str
  | slice (e : Nat)
  | struct (fs : List (Nat × Nat))
  | arr (n e : Nat)
  | map (k e : Nat)
  | other
structure TI where
  td : TD
  zero : List Value
  size : Nat
  bytes : Nat
inductive Tr (α : Type) where
  | e
  | n (v : Option α) (l r : Tr α)
noncomputable def look {α : Type} (t : Tr α) : Nat → Option α := Tr.rec (fun _ => none) (fun v _ _ il ir k => Nat.rec v (fun m _ => Nat.rec (il (Nat.div m 2)) (fun _ _ => ir (Nat.div m 2)) (Nat.mod m 2)) k) t
noncomputable def nth {α : Type} (l : List α) : Nat → Option α := List.rec (fun _ => none) (fun a _ ih n => Nat.rec (some a) (fun m _ => ih m) n) l
theorem nth_eq {α : Type} (l : List α) : ∀ n, nth l n = l[n]? := by
  induction l with
  | nil => intro n; simp [nth]
  | cons a r ih =>
    intro n
    cases n with
    | zero => rfl
    | succ m => rw [List.getElem?_cons_succ, ← ih m]; rfl
inductive Tm where
  | e
  | n (v : DV) (l r : Tm)
noncomputable def Tm.get (t : Tm) : Nat → DV := Tm.rec (fun _ => .none) (fun v _ _ il ir k => Nat.rec v (fun m _ => Nat.rec (il (Nat.div m 2)) (fun _ _ => ir (Nat.div m 2)) (Nat.mod m 2)) k) t
noncomputable def Tm.set {β : Type} (t : Tm) (v : DV) : Nat → (Tm → β) → β := Tm.rec (fun _ c => c .e) (fun u l r il ir k c => Nat.rec (c (.n v l r)) (fun m _ => Nat.rec (il (Nat.div m 2) fun l' => c (.n u l' r)) (fun _ _ => ir (Nat.div m 2) fun r' => c (.n u l r')) (Nat.mod m 2)) k) t
noncomputable def Tm.put (t : Tm) (v : DV) (x : Nat) : Tm := t.set v x id
noncomputable def Tm.blank (D : Nat) : Tm := Nat.rec .e (fun _ t => .n .none t t) D
def Tm.Full : Nat → Tm → Prop
  | 0, .e => True
  | D + 1, .n _ l r => Full D l ∧ Full D r
  | _, _ => False
theorem Tm.blank_full : ∀ D, Tm.Full D (Tm.blank D)
  | 0 => trivial
  | D + 1 => ⟨Tm.blank_full D, Tm.blank_full D⟩
theorem rec_ite {β : Type _} (n : Nat) (a b : β) : (Nat.rec a (fun _ _ => b) n : β) = if n = 0 then a else b := by cases n <;> rfl
theorem Tm.blank_get : ∀ D x, (Tm.blank D).get x = DV.none
  | 0, _ => rfl
  | D + 1, 0 => rfl
  | D + 1, m + 1 => by
    show (Nat.rec ((Tm.blank D).get (m / 2)) (fun _ _ => (Tm.blank D).get (m / 2)) (m % 2) : DV) = DV.none
    rw [rec_ite]; split <;> exact Tm.blank_get D _
theorem Tm.get_succ (v : DV) (l r : Tm) (m : Nat) : (Tm.n v l r).get (m + 1) = if m % 2 = 0 then l.get (m / 2) else r.get (m / 2) := rec_ite (m % 2) _ _
theorem Tm.set_succ {β : Type _} (u v : DV) (l r : Tm) (m : Nat) (c : Tm → β) : (Tm.n u l r).set v (m + 1) c = if m % 2 = 0 then l.set v (m / 2) (fun l' => c (Tm.n u l' r)) else r.set v (m / 2) (fun r' => c (Tm.n u l r')) := by
  show (Nat.rec (l.set v (m / 2) (fun l' => c (Tm.n u l' r))) (fun _ _ => r.set v (m / 2) (fun r' => c (Tm.n u l r'))) (m % 2) : β) = _
  exact rec_ite _ _ _
theorem Tm.set_eq (t : Tm) (v : DV) : ∀ {β : Type} (x : Nat) (c : Tm → β), t.set v x c = c (t.put v x) := by
  induction t with
  | e => intro β x c; rfl
  | n u l r il ir =>
    intro β x c
    cases x with
    | zero => rfl
    | succ m =>
      unfold Tm.put
      rw [Tm.set_succ, Tm.set_succ]
      split
      · rw [il, @il Tm]; rfl
      · rw [ir, @ir Tm]; rfl
theorem Tm.put_zero (u v : DV) (l r : Tm) : (Tm.n u l r).put v 0 = .n v l r := rfl
theorem Tm.put_succ (u v : DV) (l r : Tm) (m : Nat) : (Tm.n u l r).put v (m + 1) = if m % 2 = 0 then .n u (l.put v (m / 2)) r else .n u l (r.put v (m / 2)) := by
  unfold Tm.put
  rw [Tm.set_succ]
  split
  · rw [Tm.set_eq]; rfl
  · rw [Tm.set_eq]; rfl
theorem Tm.put_full (v : DV) : ∀ (D : Nat) (t : Tm) (x : Nat), Tm.Full D t → Tm.Full D (t.put v x)
  | 0, .e, _, h => h
  | 0, .n .., _, h => h.elim
  | D + 1, .e, _, h => h.elim
  | D + 1, .n u l r, 0, h => h
  | D + 1, .n u l r, m + 1, h => by
    rw [Tm.put_succ]
    split
    · exact ⟨Tm.put_full v D l _ h.1, h.2⟩
    · exact ⟨h.1, Tm.put_full v D r _ h.2⟩
theorem Tm.get_put_ne (v : DV) : ∀ (t : Tm) (x y : Nat), y ≠ x → (t.put v x).get y = t.get y := by
  intro t
  induction t with
  | e => intro x y _; rfl
  | n u l r il ir =>
    intro x y h
    cases x with
    | zero =>
      cases y with
      | zero => exact absurd rfl h
      | succ m => rw [Tm.put_zero, Tm.get_succ, Tm.get_succ]
    | succ k =>
      rw [Tm.put_succ]
      cases y with
      | zero => split <;> rfl
      | succ m =>
        by_cases h1 : k % 2 = 0
        · rw [if_pos h1, Tm.get_succ, Tm.get_succ]
          by_cases h2 : m % 2 = 0
          · rw [if_pos h2, if_pos h2]; exact il _ _ (by omega)
          · rw [if_neg h2, if_neg h2]
        · rw [if_neg h1, Tm.get_succ, Tm.get_succ]
          by_cases h2 : m % 2 = 0
          · rw [if_pos h2, if_pos h2]
          · rw [if_neg h2, if_neg h2]; exact ir _ _ (by omega)
theorem Tm.get_put (v : DV) : ∀ (D : Nat) (t : Tm) (x : Nat), Tm.Full D t → x + 1 < 2 ^ D → (t.put v x).get x = v
  | 0, _, _, _, h => by omega
  | D + 1, .e, _, h, _ => h.elim
  | D + 1, .n u l r, 0, _, _ => rfl
  | D + 1, .n u l r, m + 1, h, hx => by
    rw [Tm.put_succ]
    have h2 : 2 ^ (D + 1) = 2 * 2 ^ D := by rw [Nat.pow_succ]; omega
    by_cases h1 : m % 2 = 0
    · rw [if_pos h1, Tm.get_succ, if_pos h1]; exact Tm.get_put v D l _ h.1 (by omega)
    · rw [if_neg h1, Tm.get_succ, if_neg h1]; exact Tm.get_put v D r _ h.2 (by omega)
inductive Loc where
  | nil
  | cons (t : Nat) (v : DV) (r : Loc)
noncomputable def Loc.get (l : Loc) (t : Nat) (d : DV) : DV := Loc.rec d (fun u v _ ih => Bool.rec ih v (Nat.beq t u)) l
noncomputable def bit (V t : Nat) : Bool := Nat.beq (Nat.mod (Nat.shiftRight V t) 2) 1
noncomputable def Loc.save {β : Type _} (V : Nat) (l : Loc) : Tm → (Tm → β) → β := Loc.rec (fun tm k => k tm) (fun t v _ ih tm k => ih tm fun tm' => Bool.rec (k tm') (tm'.set v t k) (bit V t)) l
noncomputable def Tm.lay {β : Type} (args : List DV) : Nat → Tm → (Tm → β) → β := List.rec (fun _ t c => c t) (fun a _ ih i t c => t.set a i fun t' => seqN (Nat.succ i) fun i' => ih i' t' c) args
noncomputable def has (l : List Nat) (n : Nat) : Bool := List.rec false (fun m _ ih => Bool.rec ih true (Nat.beq n m)) l
theorem has_cons (m : Nat) (r : List Nat) (n : Nat) : has (m :: r) n = if n = m then true else has r n := beq_ite _ _ _ _
inductive Sto where
  | mk (lg : Bool) (c : Nat) (s : Tm) (R W : List Nat)
abbrev Ans := Option (DV × Sto)
def M (α : Type) := Sto → (α → Sto → Ans) → Ans
def pur {α : Type} (a : α) : M α := fun σ k => k a σ
def fail {α : Type} : M α := fun _ _ => none
def bind {α β : Type} (m : M α) (f : α → M β) : M β := fun σ k => m σ fun a σ' => f a σ' k
noncomputable def add {β : Type _} (n : Nat) (l : List Nat) (k : List Nat → β) : β := Bool.rec (k (n :: l)) (k l) (has l n)
noncomputable def uni {β : Type _} (Y : List Nat) : List Nat → (List Nat → β) → β := List.rec (fun X k => k X) (fun n _ ih X k => add n X fun X' => ih X' k) Y
noncomputable def rd (n : Nat) : M DV := fun σ k => Sto.rec (fun lg c s R W => Bool.rec (k (s.get n) (.mk lg c s R W)) (add n R fun R' => k (s.get n) (.mk lg c s R' W)) lg) σ
noncomputable def wr (n : Nat) (e : DV) : M Unit := fun σ k => Sto.rec (fun lg c s R W => Bool.rec none (s.set e n fun s' => Bool.rec (k () (.mk lg c s' R W)) (add n R fun R' => add n W fun W' => k () (.mk lg c s' R' W')) lg) (Nat.ble n 65000)) σ
def depth : Nat := 16
noncomputable def new (e : DV) : M Nat := fun σ k => Sto.rec (fun lg c s R W => Bool.rec none (s.set e c fun s' => seqN (Nat.succ c) fun c' => k c (.mk lg c' s' R W)) (Nat.ble c 65000)) σ
noncomputable def below (c c' : Nat) (l : List Nat) : (List Nat → Ans) → Ans := List.rec (fun k => k []) (fun n _ ih k => ih fun r => Bool.rec (Bool.rec none (k r) (Nat.ble (Nat.succ n) c')) (k (n :: r)) (Nat.ble (Nat.succ n) c)) l
inductive Did (α : Type) where
  | mk (a : α) (c c' : Nat) (R W : List Nat)
noncomputable def probe {α : Type} (m : M α) : M (Did α) := fun σ k => Sto.rec (fun lg c s R W => m (.mk true c s [] []) fun a σ' => Sto.rec (fun _ c' s' R' W' => below c c' R' fun R' => below c c' W' fun W' =>
  Bool.rec (k (.mk a c c' R' W') (.mk false c' s' R W)) (uni R' R fun R => uni W' W fun W => k (.mk a c c' R' W') (.mk true c' s' R W)) lg) σ') σ
noncomputable def outer {α : Type} (m : M α) : M α := fun σ k => Sto.rec (fun lg c s R W => Bool.rec (m (.mk lg c s R W) k) (probe m (.mk lg c s R W) fun d σ' => Did.rec (fun a _ _ _ _ => k a σ') d) lg) σ
noncomputable def orFail (o : Option DV) : M DV := Option.rec fail (fun a => seqD a pur) o
structure Tab where
  ty : Tr TI
  /-- functions, with the temporaries that are kept -/
  fn : Tr (Nat × Func)
  /-- struct types that are compared cell by cell -/
  eq : List Nat
  /-- functions whose answer is known -/
  prim : Tr (List DV → M DV)
noncomputable def ofBytes (s : ByteArray) : List Nat := mapR UInt8.toNat s.data.toList id
def nilS : DV := .lit (.slice none 0 0)
noncomputable def lit : Value → DV
  | .int k n => .int k n
  | .bool b => .bool b
  | .string s => .str (ofBytes s)
  | v => .lit v
def cells : DV → List DV
  | .agg cs => cs
  | d => [d]
def one : DV → Bool
  | .lit v => v.oneCell'
  | .int _ _ => true
  | .bool _ => true
  | .str _ => true
  | .ptr _ _ _ _ => true
  | .sl _ _ _ _ _ _ => true
  | .map _ => true
  | .fn _ _ _ => true
  | _ => false
noncomputable def ones (l : List DV) : Bool := List.rec true (fun d _ ih => Bool.rec false ih (one d)) l
def isAgg : TD → Bool
  | .struct _ => true
  | .arr _ _ => true
  | _ => false
noncomputable def whole (t : TI) (cs : List DV) : M DV :=
  bif isAgg t.td then pur (.agg cs) else match cs with
    | [c] => seqD c pur
    | _ => fail
noncomputable def range (cs : List DV) (o n : Nat) : Option (List DV) := bif least cs (Nat.add o n) then takeR (dropR cs o) n some else none
noncomputable def over (cs : List DV) (o : Nat) (new : List DV) : Option (List DV) := bif least cs (Nat.add o (lenR new)) then takeR cs o fun a => appR new (dropR cs (Nat.add o (lenR new))) fun b => appR a b some else none
noncomputable def konst (v : Value) : DV :=
  match v with
  | .agg cs => .agg (mapR lit cs.toList id)
  | .string b => mapR UInt8.toNat b.data.toList fun l => seqLN l .str
  | v => lit v
inductive Fr where
  | mk (l : Loc) (tm : Tm)
noncomputable def Fr.get (tm : Fr) (t : Nat) : DV := Fr.rec (fun l m => l.get t (m.get t)) tm
noncomputable def eval (tm : Fr) (x : Operand) : DV := Operand.rec tm.get konst (fun _ => .none) (fun f => .fn f [] []) x
noncomputable def evals {β : Type _} (tm : Fr) (xs : List Operand) (k : List DV → β) : β := mapR (eval tm) xs fun l => seqLD l k
def eqK : IntKind → IntKind → Bool
  | .i64, .i64 => true
  | .u8, .u8 => true
  | .u64, .u64 => true
  | .i32, .i32 => true
  | _, _ => false
noncomputable def wrap64 (n : Int) : Int :=
  Int.rec (fun m => Bool.rec (IntKind.i64.wrap (.ofNat m)) (.ofNat m) (Nat.ble m 4611686018427387904)) (fun m => Bool.rec (IntKind.i64.wrap (.negSucc m)) (.negSucc m) (Nat.ble m 4611686018427387904)) n
noncomputable def wrapI (k : IntKind) (n : Int) : Int :=
  IntKind.rec (IntKind.i8.wrap n) (IntKind.i16.wrap n) (IntKind.i32.wrap n) (wrap64 n) (IntKind.u8.wrap n) (IntKind.u16.wrap n) (IntKind.u32.wrap n) (IntKind.u64.wrap n) k
def eqZ : Int → Int → Bool
  | .ofNat a, .ofNat b => Nat.beq a b
  | .negSucc a, .negSucc b => Nat.beq a b
  | _, _ => false
def leZ : Int → Int → Bool
  | .ofNat a, .ofNat b => Nat.ble a b
  | .negSucc a, .negSucc b => Nat.ble b a
  | .ofNat _, .negSucc _ => false
  | .negSucc _, .ofNat _ => true
theorem eqK_eq {a b : IntKind} (h : eqK a b = true) : a = b := by cases a <;> cases b <;> simp_all [eqK]
theorem eqZ_eq (a b : Int) : eqZ a b = (a == b) := by
  cases a <;> cases b <;> simp only [eqZ] <;> rw [Bool.eq_iff_iff] <;> simp <;> omega
theorem leZ_eq (a b : Int) : leZ a b = decide (a ≤ b) := by
  cases a <;> cases b <;> simp only [leZ] <;> rw [Bool.eq_iff_iff] <;> simp <;> omega
noncomputable def eqLN (l : List Nat) : List Nat → Bool := List.rec (fun b => List.rec true (fun _ _ _ => false) b) (fun x _ ih b => List.rec false (fun y r _ => Bool.rec false (ih r) (Nat.beq x y)) b) l
def maxU : IntKind → Nat
  | .u8 => 255
  | .u64 => 18446744073709551615
  | .i64 => 9223372036854775807
  | _ => 0
def bits (k : IntKind) (f : Nat → Nat → Nat) : Int → Int → Option DV
  | .ofNat a, .ofNat b => bif Nat.ble a (maxU k) && Nat.ble b (maxU k) then some (.int k (.ofNat (f a b))) else none
  | _, _ => none
noncomputable def shl (k : IntKind) : Int → Int → Option DV
  | .ofNat a, .ofNat b => bif Nat.ble b 63 && Nat.ble b k.bits then some (.int k (wrapI k (.ofNat (a * 2 ^ b)))) else none
  | _, _ => none
def shr (k : IntKind) : Int → Int → Option DV
  | .ofNat a, .ofNat b => bif Nat.ble b 63 && Nat.ble b k.bits then some (.int k (.ofNat (a / 2 ^ b))) else none
  | _, _ => none
noncomputable def litEq : List DV → List DV → Option Bool
  | [], [] => some true
  | .int k a :: r, .int k' b :: r' => bif eqK k k' then (litEq r r').map (fun x => eqZ a b && x) else none
  | .bool a :: r, .bool b :: r' => (litEq r r').map (fun x => a == b && x)
  | .str a :: r, .str b :: r' => (litEq r r').map (fun x => eqLN a b && x)
  | _, _ => none
def addZ : Int → Int → Int
  | .ofNat a, .ofNat b => .ofNat (Nat.add a b)
  | a, b => a + b
noncomputable def subZ : Int → Int → Int
  | .ofNat a, .ofNat b => Bool.rec (.negSucc (Nat.pred (Nat.sub b a))) (.ofNat (Nat.sub a b)) (Nat.ble b a)
  | a, b => a - b
noncomputable def intOp (op : BinOp) (k : IntKind) (a b : Int) : Option DV :=
  match op with
  | .add => some (.int k (wrapI k (addZ a b)))
  | .sub => some (.int k (wrapI k (subZ a b)))
  | .mul => some (.int k (wrapI k (a * b)))
  | .quo => bif eqZ b 0 then none else some (.int k (wrapI k (a.tdiv b)))
  | .rem => bif eqZ b 0 then none else some (.int k (a.tmod b))
  | .and => bits k Nat.land a b
  | .or => bits k Nat.lor a b
  | .xor => bits k Nat.xor a b
  | .eql => some (.bool (eqZ a b))
  | .neq => some (.bool (!eqZ a b))
  | .lss => some (.bool (!leZ b a))
  | .leq => some (.bool (leZ a b))
  | .gtr => some (.bool (!leZ a b))
  | .geq => some (.bool (leZ b a))
  | _ => none
noncomputable def strOp (op : BinOp) (a b : List Nat) : Option DV :=
  match op with
  | .add => bif Nat.ble (a.length + b.length) 1000000 then some (.str (a ++ b)) else none
  | .eql => some (.bool (eqLN a b))
  | .neq => some (.bool (!eqLN a b))
  | _ => none
noncomputable def nfD (d : DV) : M DV :=
  match d with
  | .int a n => seqI n fun n => pur (.int a n)
  | .bool b => seqB b fun b => pur (.bool b)
  | .str l => seqLN l fun l => pur (.str l)
  | d => pur d
noncomputable def orNf (o : Option DV) : M DV := Option.rec fail nfD o
def isShift : BinOp → Bool
  | .shl => true
  | .shr => true
  | _ => false
noncomputable def eqT (tb : Tab) (n : Nat) : Nat → List DV → List DV → Option Bool :=
  Nat.rec (fun _ _ _ => none) (fun _ ih t a b => Option.rec none (fun ti => match ti.td, a, b with
    | .int _, [.int k x], [.int k' y] => bif eqK k k' then some (eqZ x y) else none
    | .bool, [.bool x], [.bool y] => some (Bool.rec (Bool.rec true false y) y x)
    | .str, [.str x], [.str y] => some (eqLN x y)
    | .struct fs, _, _ => Bool.rec none (List.rec (some true) (fun f _ rest => match look tb.ty f.2 with
      | some fi => match range a f.1 fi.size, range b f.1 fi.size with
        | some a', some b' => match ih f.2 a' b', rest with
          | some r, some r' => some (Bool.rec false r' r)
          | _, _ => none
        | _, _ => none
      | none => none) fs) (has tb.eq t)
    | _, _, _ => none) (look tb.ty t)) n
noncomputable def nilEq : TD → DV → DV → Option Bool
  | .slice _, .sl _ _ _ _ _ _, .lit (.slice none 0 0) => some false
  | .slice _, .lit (.slice none 0 0), .lit (.slice none 0 0) => some true
  | .map _ _, .map _, .lit (.map none) => some false
  | .map _ _, .lit (.map none), .lit (.map none) => some true
  | .bool, .bool a, .bool b => some (Bool.rec (Bool.rec true false b) b a)
  | _, _, _ => none
noncomputable def bin (tb : Tab) (op : BinOp) (t : Nat) (x y : DV) : Option DV :=
  match x, y with
  | .int k a, .int k' b => bif isShift op then (match op with | .shl => shl k a b | _ => shr k a b) else bif eqK k k' then intOp op k a b else none
  | .str a, .str b => strOp op a b
  | .agg a, .agg b => bif has tb.eq t then match op with
      | .eql => (eqT tb 5 t a b).map fun r => .bool r
      | .neq => (eqT tb 5 t a b).map fun r => .bool (!r)
      | _ => none
    else none
  | x, y => Option.rec none (fun ti => Option.rec none (fun r => match op with
      | .eql => some (.bool r)
      | .neq => some (.bool (!r))
      | _ => none) (nilEq ti.td x y)) (look tb.ty t)
noncomputable def loadC (n e o k : Nat) : M (List DV) := bind (rd n) fun r => match r with
  | .row e' m fz cs => bif Nat.ble m e && Nat.ble e e' then Option.rec fail pur (range cs o k) else fail
  | _ => fail
noncomputable def storeC (n e o : Nat) (new : List DV) : M Unit := bind (rd n) fun r => match r with
  | .row e' m fz cs => bif Nat.beq e e' && ones new then Option.rec fail (fun cs' => wr n (.row e' (bif Nat.ble fz o then m else e') fz cs')) (over cs o new) else fail
  | _ => fail
noncomputable def newRow (cs : List DV) : M Nat := bif ones cs then new (.row 0 0 0 cs) else fail
noncomputable def fill1 (place : Nat → Option (Nat × Nat)) (cs : List DV) (i : Nat) (d : DV) : Option (List DV) :=
  match place i with
  | none => none
  | some (o, n) => bif Nat.beq (lenR (cells d)) n && ones (cells d) then over cs o (cells d) else none
noncomputable def fill (place : Nat → Option (Nat × Nat)) (cs : List DV) (l : List (Nat × DV)) : Option (List DV) :=
  List.rec (fun cs => some cs) (fun p _ ih cs => Option.rec none ih (fill1 place cs p.1 p.2)) l cs
noncomputable def fieldPlaces (tb : Tab) (fs : List (Nat × Nat)) (i : Nat) : Option (Nat × Nat) :=
  match nth fs i with
  | none => none
  | some (o, t) => match look tb.ty t with
    | none => none
    | some ti => some (o, ti.size)
noncomputable def opBuild (tb : Tab) (t : Nat) (parts : List (Nat × DV)) : M DV :=
  match look tb.ty t with
  | none => fail
  | some ti => match ti.td with
    | .struct fs => match fill (fieldPlaces tb fs) (mapR lit ti.zero id) parts with
      | none => fail
      | some cs => pur (.agg cs)
    | .arr n e => match look tb.ty e with
      | none => fail
      | some te => match fill (fun i => some (Nat.mul i te.size, te.size)) (mapR lit ti.zero id) parts with
        | none => fail
        | some cs => pur (.agg cs)
    | _ => fail
noncomputable def fine (te : TI) : Bool := Nat.beq (lenR te.zero) te.size && Nat.ble 1 te.size && Nat.ble 1 te.bytes && Nat.ble te.bytes 1024
noncomputable def zeros (te : TI) (n : Nat) : List DV := Nat.rec [] (fun _ ih => appR (mapR lit te.zero id) ih id) n
noncomputable def opBuildSlice (tb : Tab) (t len : Nat) (parts : List (Nat × DV)) : M DV :=
  match look tb.ty t with
  | some { td := .slice e, .. } => match look tb.ty e with
    | none => fail
    | some te => bif fine te && Nat.ble (len * te.size) 1000000 then
        match fill (fun i => some (Nat.mul i te.size, te.size)) (zeros te len) parts with
        | none => fail
        | some cs => bind (newRow cs) fun n => pur (.sl n 0 0 te.size len none)
      else fail
  | _ => fail
noncomputable def opMakeSlice (tb : Tab) (t : Nat) (len cap : DV) : M DV :=
  match look tb.ty t, len, cap with
  | some { td := .slice e, .. }, .int .i64 (.ofNat l), .int .i64 (.ofNat c) => match look tb.ty e with
    | none => fail
    | some te => bif fine te && Nat.ble c 100000 && Nat.ble l c then seqLD (zeros te c) fun cs => bind (newRow cs) fun n => seqN l fun l => pur (.sl n 0 0 te.size l none)
      else fail
  | _, _, _ => fail
noncomputable def opLoad (tb : Tab) (t : Nat) (a : DV) : M DV :=
  match look tb.ty t, a with
  | some ti, .ptr n e o k => bif Nat.ble ti.size k then bind (loadC n e o ti.size) (whole ti) else fail
  | _, _ => fail
noncomputable def opStore (tb : Tab) (t : Nat) (a x : DV) : M DV :=
  match look tb.ty t, a with
  | some ti, .ptr n e o k => bif Nat.ble ti.size k && Nat.beq (lenR (cells x)) ti.size then bind (storeC n e o (cells x)) fun _ => pur (.tup []) else fail
  | _, _ => fail
noncomputable def opFieldAddr (tb : Tab) (t : Nat) (a : DV) (f : Nat) : M DV :=
  match look tb.ty t with
  | some { td := .struct fs, .. } => match fieldPlaces tb fs f with
    | none => fail
    | some (o, n) => match a with
      | .ptr m e q k => bif Nat.ble 1 n && Nat.ble (Nat.add o n) k then seqN (Nat.add q o) fun q => pur (.ptr m e q n) else fail
      | _ => fail
  | _ => fail
noncomputable def opField (tb : Tab) (t : Nat) (a : DV) (f : Nat) : M DV :=
  match look tb.ty t with
  | some { td := .struct fs, .. } => match nth fs f with
    | none => fail
    | some (o, ft) => match look tb.ty ft, a with
      | some ti, .agg cs => Option.rec fail (whole ti) (range cs o ti.size)
      | _, _ => fail
  | _ => fail
noncomputable def opIndexAddr (tb : Tab) (t : Nat) (x i : DV) : M DV :=
  match look tb.ty t, i with
  | some { td := .slice el, .. }, .int _ n => match look tb.ty el, x with
    | some te, .sl m e j sz len _ => bif leZ 0 n && Nat.ble (Nat.succ n.toNat) len && Nat.beq te.size sz then seqN (Nat.mul (Nat.add j n.toNat) sz) fun o => pur (.ptr m e o sz) else fail
    | _, _ => fail
  | some { td := .arr len el, .. }, .int _ n => match look tb.ty el, x with
    | some te, .ptr m e q k => bif leZ 0 n && Nat.ble (Nat.succ n.toNat) len && Nat.ble 1 te.size && Nat.ble (Nat.mul len te.size) k then seqN (Nat.add q (Nat.mul n.toNat te.size)) fun o => pur (.ptr m e o te.size) else fail
    | _, _ => fail
  | _, _ => fail
noncomputable def opIndex (tb : Tab) (t : Nat) (x i : DV) : M DV :=
  match look tb.ty t, x, i with
  | some { td := .str, .. }, .str s, .int _ n => bif leZ 0 n then match nth s n.toNat with
      | none => fail
      | some b => seqN b fun b => pur (.int .u8 (.ofNat b))
    else fail
  | _, _, _ => fail
def bound (len : Nat) : Option DV → Nat → Option Nat
  | none, n => some n
  | some (.int _ n), _ => bif leZ 0 n && Nat.ble n.toNat len then some n.toNat else none
  | _, _ => none
noncomputable def opSlice (tb : Tab) (t : Nat) (x : DV) (lo hi mx : Option DV) : M DV :=
  match look tb.ty t, x, mx with
  | some { td := .str, .. }, .str s, none => match bound (lenR s) hi (lenR s) with
    | none => fail
    | some h => match bound h lo 0 with
      | none => fail
      | some l => takeR (dropR s l) (Nat.sub h l) fun s => pur (.str s)
  | some { td := .slice el, .. }, .sl n e i sz len lim, none => match bound len hi len, look tb.ty el with
    | some h, some te => bif Nat.beq te.size sz then match bound h lo 0 with
      | none => fail
      | some l => seqN (Nat.add i l) fun i => seqN (Nat.sub h l) fun len => Option.rec (pur (.sl n e i sz len none)) (fun c => seqN (Nat.sub c l) fun c => pur (.sl n e i sz len (some c))) lim
      else fail
    | _, _ => fail
  | some { td := .slice el, .. }, .sl n e i sz len lim, some m => match bound len (some m) 0, look tb.ty el, hi with
    | some m, some te, some hi => bif Nat.beq te.size sz then match bound m (some hi) 0 with
      | none => fail
      | some h => match bound h lo 0 with
        | none => fail
        | some l => seqN (Nat.add i l) fun i => seqN (Nat.sub h l) fun len => seqN (Nat.sub m l) fun c => pur (.sl n e i sz len (some c))
      else fail
    | _, _, _ => fail
  | some { td := .slice el, .. }, .lit (.slice none 0 0), none => match bound 0 hi 0, bound 0 lo 0, look tb.ty el with
    | some _, some _, some _ => pur nilS
    | _, _, _ => fail
  | some { td := .slice el, .. }, .lit (.slice none 0 0), some m => match bound 0 (some m) 0, hi, bound 0 lo 0, look tb.ty el with
    | some _, some hi, some _, some _ => match bound 0 (some hi) 0 with
      | some _ => pur nilS
      | none => fail
    | _, _, _, _ => fail
  | _, _, _ => fail
noncomputable def bytesOf : List DV → Option (List Nat)
  | [] => some []
  | .int .u8 n :: r => bif leZ 0 n && Nat.ble n.toNat 255 then match bytesOf r with
      | none => none
      | some l => some (n.toNat :: l)
    else none
  | _ => none
noncomputable def opConvert (tb : Tab) (s t : Nat) (x : DV) : M DV :=
  match look tb.ty s, look tb.ty t with
  | some { td := .int _, .. }, some { td := .int k, .. } => match x with
    | .int _ n => seqI (wrapI k n) fun n => pur (.int k n)
    | _ => fail
  | some { td := .slice e, .. }, some { td := .str, .. } => match look tb.ty e, x with
    | some { td := .int .u8, .. }, .sl n e i 1 len _ => bind (loadC n e i len) fun cs => Option.rec fail (fun l => seqLN l fun l => pur (.str l)) (bytesOf cs)
    | _, _ => fail
  | _, _ => fail
noncomputable def opLen (tb : Tab) (t : Nat) (x : DV) : M DV :=
  match look tb.ty t, x with
  | some { td := .str, .. }, .str s => seqN (lenR s) fun n => pur (.int .i64 (.ofNat n))
  | some { td := .slice _, .. }, .sl _ _ _ _ len _ => pur (.int .i64 (.ofNat len))
  | some { td := .slice _, .. }, .lit (.slice none 0 0) => pur (.int .i64 (.ofNat 0))
  | some { td := .map _ _, .. }, .lit (.map none) => pur (.int .i64 (.ofNat 0))
  | some { td := .map _ _, .. }, .map n => bind (rd n) fun r => match r with
    | .ents _ ks _ _ => seqN (lenR ks) fun l => pur (.int .i64 (.ofNat l))
    | _ => fail
  | _, _ => fail
noncomputable def source (tb : Tab) (t sz : Nat) (x : DV) (k : Nat → List DV → M DV) : M DV :=
  match look tb.ty t, x with
  | some { td := .slice _, .. }, .lit (.slice none 0 0) => k 0 []
  | some { td := .slice _, .. }, .sl n e i sz' len _ => bif Nat.beq sz' sz then bind (loadC n e (Nat.mul i sz) (Nat.mul len sz)) (k len) else fail
  | some { td := .str, .. }, .str s => bif Nat.beq sz 1 then mapR (fun b => .int .u8 (.ofNat b)) s (k (lenR s)) else fail
  | _, _ => fail
noncomputable def grow (n e i sz len lx : Nat) (xs : List DV) : M DV := bind (rd n) fun r => match r with
  | .row e' m fz cs => bif Nat.beq e e' && Nat.beq (Nat.mul (Nat.add i len) sz) (lenR cs) && ones xs && Nat.ble (Nat.add len lx) 100000 then seqN (Nat.succ e) fun e1 => seqN (Nat.mul (Nat.add i len) sz) fun fz => appR cs xs fun cs' => bind (wr n (.row e1 m fz cs')) fun _ => seqN (Nat.add len lx) fun l => pur (.sl n e1 i sz l none)
    else bif least cs (Nat.mul (Nat.add (Nat.add i len) lx) sz) then bind (storeC n e (Nat.mul (Nat.add i len) sz) xs) fun _ => seqN (Nat.add len lx) fun l => pur (.sl n e i sz l none)
    else fail
  | _ => fail
noncomputable def opAppend (tb : Tab) (t t' : Nat) (s x : DV) : M DV :=
  match look tb.ty t with
  | some { td := .slice el, .. } => match look tb.ty el with
    | none => fail
    | some te => bif fine te then source tb t' te.size x fun lx xs =>
        match s with
        | .lit (.slice none 0 0) => bif Nat.beq lx 0 then pur s else bif Nat.ble lx 100000 then seqN lx fun lx => bind (newRow xs) fun n => pur (.sl n 0 0 te.size lx none) else fail
        | .sl n e i sz len lim => bif Nat.beq sz te.size then bif Nat.beq lx 0 then pur s else
            Option.rec (grow n e i sz len lx xs) (fun c => bif Nat.ble (Nat.add len lx) c then bind (storeC n e (Nat.mul (Nat.add i len) sz) xs) fun _ => seqN (Nat.add len lx) fun l => pur (.sl n e i sz l (some c))
              else bif Nat.ble (Nat.add len lx) 100000 then bind (loadC n e (Nat.mul i sz) (Nat.mul len sz)) fun olds => appR olds xs fun cs => bind (newRow cs) fun n' => seqN (Nat.add len lx) fun l => pur (.sl n' 0 0 sz l none) else fail) lim
          else fail
        | _ => fail
      else fail
  | _ => fail
noncomputable def opCopy (tb : Tab) (t t' : Nat) (d x : DV) : M DV :=
  match look tb.ty t, d with
  | some { td := .slice el, .. }, .sl n e i sz len _ => match look tb.ty el with
    | none => fail
    | some te => bif Nat.beq te.size sz then source tb t' sz x fun lx xs => seqN (bif Nat.ble lx len then lx else len) fun l =>
        takeR xs (Nat.mul l sz) fun ys => bif Nat.beq l 0 then pur (.int .i64 (.ofNat 0)) else bind (storeC n e (Nat.mul i sz) ys) fun _ => pur (.int .i64 (.ofNat l))
      else fail
  | _, _ => fail
def maxes : List DV → Option DV
  | [.int k a, .int k' b] => bif eqK k k' then some (.int k (bif leZ b a then a else b)) else none
  | _ => none
def mins : List DV → Option DV
  | [.int k a, .int k' b] => bif eqK k k' then some (.int k (bif leZ a b then a else b)) else none
  | _ => none
def isAggD : DV → Bool
  | .agg _ => true
  | _ => false
def eqB : Bool → Bool → Bool
  | true, b => b
  | false, true => false
  | false, false => true
noncomputable def keyEq (tb : Tab) (kt : Nat) (a b : DV) : Option Bool :=
  bif eqB (isAggD a) (isAggD b) then Option.rec none (fun r => Bool.rec (some false) (Option.rec none (fun q => Bool.rec none (some true) q) (litEq (cells a) (cells b))) r) (eqT tb 5 kt (cells a) (cells b)) else none
noncomputable def findKs (tb : Tab) (kt : Nat) (a : DV) (ks : List DV) : Nat → Option (Option Nat) :=
  List.rec (fun _ => some none) (fun b _ ih i => Option.rec none (fun r => Bool.rec (ih (Nat.succ i)) (some (some i)) r) (keyEq tb kt a b)) ks
noncomputable def find2 (k1 k2 : IntKind) (x y : Int) (ks : List DV) : Nat → Option (Option Nat) :=
  List.rec (fun _ => some none) (fun b _ ih i => match b with
    | .agg [.int j1 u, .int j2 v] => Bool.rec none (Bool.rec none (Bool.rec (ih (Nat.succ i)) (Bool.rec (ih (Nat.succ i)) (some (some i)) (eqZ y v)) (eqZ x u)) (eqK k2 j2)) (eqK k1 j1)
    | _ => none) ks
noncomputable def find1 (k1 : IntKind) (x : Int) (ks : List DV) : Nat → Option (Option Nat) :=
  List.rec (fun _ => some none) (fun b _ ih i => match b with
    | .int j1 u => Bool.rec none (Bool.rec (ih (Nat.succ i)) (some (some i)) (eqZ x u)) (eqK k1 j1)
    | _ => none) ks
noncomputable def pairT (tb : Tab) (kt : Nat) : Bool :=
  Option.rec false (fun ti => match ti.td with
    | .struct [(0, t1), (1, t2)] => Bool.rec false (match look tb.ty t1, look tb.ty t2 with
        | some { td := .int _, size := 1, .. }, some { td := .int _, size := 1, .. } => true
        | _, _ => false) (has tb.eq kt)
    | _ => false) (look tb.ty kt)
noncomputable def intT (tb : Tab) (kt : Nat) : Bool :=
  Option.rec false (fun ti => match ti.td with
    | .int _ => true
    | _ => false) (look tb.ty kt)
noncomputable def findK (tb : Tab) (kt : Nat) (a : DV) (ks : List DV) (i : Nat) : Option (Option Nat) :=
  match a with
  | .int k x => Bool.rec (findKs tb kt a ks i) (find1 k x ks i) (intT tb kt)
  | .agg [.int k1 x, .int k2 y] => Bool.rec (findKs tb kt a ks i) (find2 k1 k2 x y ks i) (pairT tb kt)
  | a => findKs tb kt a ks i
noncomputable def keyOk (tb : Tab) (kt : Nat) (a : DV) : Bool := Option.rec false (fun ti => bif eqB (isAgg ti.td) (isAggD a) then Option.rec false (fun _ => true) (eqT tb 5 kt (cells a) (cells a)) else false) (look tb.ty kt)
noncomputable def found (ok b : Bool) (v : DV) : M DV := Bool.rec (pur v) (pur (.tup [v, .bool b])) ok
noncomputable def opLookup (tb : Tab) (t : Nat) (ok : Bool) (x i : DV) : M DV :=
  match look tb.ty t with
  | some { td := .map kt et, .. } => match look tb.ty et with
    | none => fail
    | some te => bif keyOk tb kt i then match x with
        | .lit (.map none) => mapR lit te.zero fun z => bind (whole te z) (found ok false)
        | .map n => bind (rd n) fun r => match r with
          | .ents _ ks vs _ => match findK tb kt i ks 0 with
            | none => fail
            | some none => mapR lit te.zero fun z => bind (whole te z) (found ok false)
            | some (some j) => Option.rec fail (fun v => seqD v (found ok true)) (nth vs j)
          | _ => fail
        | _ => fail
      else fail
  | _ => fail
noncomputable def opMapUpdate (tb : Tab) (t : Nat) (m k x : DV) : M DV :=
  match look tb.ty t, m with
  | some { td := .map kt _, .. }, .map n => bif keyOk tb kt k then bind (rd n) fun r => match r with
      | .ents clk ks vs bs => match findK tb kt k ks 0 with
        | none => fail
        | some none => appR ks [k] fun ks => appR vs [x] fun vs => appR bs [clk] fun bs => seqN (Nat.succ clk) fun c => bind (wr n (.ents c ks vs bs)) fun _ => pur (.tup [])
        | some (some j) => takeR vs j fun a => appR a (x :: dropR vs (Nat.succ j)) fun vs => bind (wr n (.ents clk ks vs bs)) fun _ => pur (.tup [])
      | _ => fail
    else fail
  | _, _ => fail
noncomputable def without {α : Type} {β : Type _} (l : List α) (j : Nat) (k : List α → β) : β := takeR l j fun a => appR a (dropR l (Nat.succ j)) k
noncomputable def opDelete (tb : Tab) (t : Nat) (m k : DV) : M DV :=
  match look tb.ty t, m with
  | some { td := .map kt _, .. }, .map n => bif keyOk tb kt k then bind (rd n) fun r => match r with
      | .ents clk ks vs bs => match findK tb kt k ks 0 with
        | none => fail
        | some none => pur (.tup [])
        | some (some j) => without ks j fun ks => without vs j fun vs => without bs j fun bs => bind (wr n (.ents clk ks vs bs)) fun _ => pur (.tup [])
      | _ => fail
    else fail
  | _, _ => fail
noncomputable def opRange (tb : Tab) (t : Nat) (x : DV) : M DV :=
  match look tb.ty t, x with
  | some { td := .map _ _, .. }, .lit (.map none) => bind (new (.iter true 0 0 [] 0)) fun n => pur (.ptr n 0 0 0)
  | some { td := .map _ _, .. }, .map m => bind (rd m) fun r => match r with
    | .ents clk _ _ _ => bind (new (.iter false m clk [] clk)) fun n => pur (.ptr n 0 0 0)
    | _ => fail
  | _, _ => fail
noncomputable def unseen (seen : List Nat) (bs : List Nat) : Nat → List (Nat × Nat) := List.rec (fun _ => []) (fun b _ ih i => Bool.rec ((i, b) :: ih (Nat.succ i)) (ih (Nat.succ i)) (has seen b)) bs
noncomputable def opNext (it : DV) : M DV :=
  match it with
  | .ptr n 0 0 0 => bind (rd n) fun r => match r with
    | .iter true _ _ _ _ => pur (.tup [.bool false])
    | .iter false m since seen last => bind (rd m) fun r => match r with
      | .ents clk ks vs bs => match unseen seen bs 0 with
        | [] => match seen, bs with
          | [], _ => pur (.tup [.bool false])
          | _, [] => pur (.tup [.bool false])
          | _, b :: _ => bif Nat.ble (Nat.succ b) last then pur (.tup [.bool false]) else fail
        | [(j, b)] => bif Nat.ble (Nat.succ b) since then match nth ks j, nth vs j, seen with
            | some k, some v, [] => appR seen [b] fun seen => bind (wr n (.iter false m since seen clk)) fun _ => pur (.tup [.bool true, k, v])
            | _, _, _ => fail
          else fail
        | _ => fail
      | _ => fail
    | _ => fail
  | _ => fail
noncomputable def opEntry (it : DV) : M DV :=
  match it with
  | .ptr n 0 0 0 => bind (rd n) fun r => match r with
    | .iter false m _ [b] last => bind (rd m) fun r => match r with
      | .ents clk [k] [v] [b'] => bif Nat.beq clk last && Nat.beq b b' then pur (.tup [k, v]) else fail
      | _ => fail
    | _ => fail
  | _ => fail
noncomputable def evCall (tb : Tab) (call : Nat → List DV → M DV) (tm : Fr) (c : Call) : M DV :=
  match c.callee, c.args.toList, c.argTypes.toList with
  | .value f, xs, _ => match eval tm f with
    | .fn g fs cap => evals tm xs fun vs => match fs, cap with
      | [], [] => outer (call g vs)
      | _, _ => outer (call g (fs ++ vs ++ cap))
    | _ => fail
  | .builtin .len, [x], t :: _ => opLen tb t (eval tm x)
  | .builtin .append, [s, x], t :: t' :: _ => seqD (eval tm s) fun s => seqD (eval tm x) fun x => opAppend tb t t' s x
  | .builtin .copy, [s, x], t :: t' :: _ => seqD (eval tm s) fun s => seqD (eval tm x) fun x => opCopy tb t t' s x
  | .builtin .delete, [m, k], t :: _ => seqD (eval tm m) fun m => seqD (eval tm k) fun k => opDelete tb t m k
  | .builtin .max, xs, _ => orNf (maxes (xs.map (eval tm)))
  | .builtin .min, xs, _ => orNf (mins (xs.map (eval tm)))
  | _, _, _ => fail
noncomputable def evParts (tm : Fr) (ps : List (Nat × Operand)) : List (Nat × DV) := mapR (fun p => (p.1, eval tm p.2)) ps id
abbrev Ev := Tab → (Nat → List DV → M DV) → Fr → M DV
noncomputable def evMove (x : Operand) : Ev := fun _ _ tm => seqD (eval tm x) pur
noncomputable def evPick (c a b : Operand) : Ev := fun _ _ tm =>
  match eval tm c with
  | .bool x => bif x then seqD (eval tm a) pur else seqD (eval tm b) pur
  | _ => fail
noncomputable def evAlloc (t : Nat) : Ev := fun tb _ _ =>
  match look tb.ty t with
  | some ti => bif Nat.beq (lenR ti.zero) ti.size then mapR lit ti.zero fun cs => seqLD cs fun cs => bind (newRow cs) fun n => pur (.ptr n 0 0 ti.size) else fail
  | none => fail
noncomputable def evBox (t : Nat) (x : Operand) : Ev := fun _ _ tm =>
  seqLD (cells (eval tm x)) fun cs => bind (newRow cs) fun n => seqN (lenR cs) fun k => pur (.ptr n 0 0 k)
noncomputable def evBuild (t : Nat) (ps : Array (Nat × Operand)) : Ev := fun tb _ tm => opBuild tb t (evParts tm ps.toList)
noncomputable def evBuildSlice (t len : Nat) (ps : Array (Nat × Operand)) : Ev := fun tb _ tm => opBuildSlice tb t len (evParts tm ps.toList)
noncomputable def evLoad (t : Nat) (a : Operand) : Ev := fun tb _ tm => seqD (eval tm a) (opLoad tb t)
noncomputable def evStore (t : Nat) (a x : Operand) : Ev := fun tb _ tm => seqD (eval tm a) fun a => seqD (eval tm x) (opStore tb t a)
noncomputable def evNil (x : Operand) : Ev := fun _ _ tm =>
  match eval tm x with
  | .ptr n e o k => pur (.ptr n e o k)
  | _ => fail
noncomputable def evBin (op : BinOp) (t : Nat) (x y : Operand) (_ : Nat) : Ev := fun tb _ tm => seqD (eval tm x) fun x => seqD (eval tm y) fun y => orNf (bin tb op t x y)
noncomputable def evUn (op : UnOp) (_ : Nat) (x : Operand) : Ev := fun _ _ tm =>
  match op, eval tm x with
  | .not, .bool b => seqB (!b) fun b => pur (.bool b)
  | _, _ => fail
noncomputable def evConvert (s t : Nat) (x : Operand) : Ev := fun tb _ tm => seqD (eval tm x) fun x => opConvert tb s t x
noncomputable def evMakeFunc (f : Fn) (first cap : Array Operand) : Ev := fun _ _ tm =>
  match f with
  | .func g => evals tm first.toList fun fs => evals tm cap.toList fun cs => pur (.fn g fs cs)
  | _ => fail
noncomputable def evMakeSlice (t : Nat) (len cap : Operand) : Ev := fun tb _ tm => seqD (eval tm len) fun l => seqD (eval tm cap) fun c => opMakeSlice tb t l c
noncomputable def evSlice (t : Nat) (x : Operand) (lo hi mx : Option Operand) : Ev := fun tb _ tm => seqD (eval tm x) fun x => opSlice tb t x (lo.map (eval tm)) (hi.map (eval tm)) (mx.map (eval tm))
noncomputable def evFieldAddr (t : Nat) (x : Operand) (f : Nat) : Ev := fun tb _ tm => seqD (eval tm x) fun x => opFieldAddr tb t x f
noncomputable def evField (t : Nat) (x : Operand) (f : Nat) : Ev := fun tb _ tm => seqD (eval tm x) fun x => opField tb t x f
noncomputable def evIndexAddr (t : Nat) (x i : Operand) : Ev := fun tb _ tm => seqD (eval tm x) fun x => seqD (eval tm i) fun i => opIndexAddr tb t x i
noncomputable def evIndex (t : Nat) (x i : Operand) : Ev := fun tb _ tm => seqD (eval tm x) fun x => seqD (eval tm i) fun i => opIndex tb t x i
noncomputable def evExtract (x : Operand) (i : Nat) : Ev := fun _ _ tm =>
  match eval tm x with
  | .tup vs => orFail (nth vs i)
  | _ => fail
noncomputable def evMakeMap (_ : Nat) (r : Option Operand) : Ev := fun _ _ tm =>
  match r with
  | none => bind (new (.ents 0 [] [] [])) fun n => pur (.map n)
  | some _ => fail
noncomputable def evMakeMapOf (t : Nat) (r : Option Operand) : Ev := fun tb call tm =>
  match r, look tb.ty t with
  | some x, some { td := .map _ _, .. } => match eval tm x with
    | .int _ _ => bind (new (.ents 0 [] [] [])) fun n => pur (.map n)
    | _ => fail
  | some _, _ => fail
  | none, _ => evMakeMap t none tb call tm
noncomputable def evLookup (t : Nat) (x i : Operand) (ok : Bool) : Ev := fun tb _ tm => seqD (eval tm x) fun x => seqD (eval tm i) fun i => opLookup tb t ok x i
noncomputable def evMapUpdate (t : Nat) (m k x : Operand) : Ev := fun tb _ tm => seqD (eval tm m) fun m => seqD (eval tm k) fun k => seqD (eval tm x) fun x => opMapUpdate tb t m k x
noncomputable def evRange (t : Nat) (x : Operand) : Ev := fun tb _ tm => seqD (eval tm x) fun x => opRange tb t x
noncomputable def evNext (it : Operand) (str : Bool) : Ev := fun _ _ tm => Bool.rec (seqD (eval tm it) opNext) fail str
noncomputable def evEntry (it : Operand) : Ev := fun _ _ tm => seqD (eval tm it) opEntry
noncomputable def evCallOp (c : Call) : Ev := fun tb call tm => evCall tb call tm c
noncomputable def ev0 : Ev := fun _ _ _ => fail
noncomputable def ev1 {A : Type} (_ : A) : Ev := ev0
noncomputable def ev2 {A B : Type} (_ : A) (_ : B) : Ev := ev0
noncomputable def ev3 {A B C : Type} (_ : A) (_ : B) (_ : C) : Ev := ev0
noncomputable def ev4 {A B C D : Type} (_ : A) (_ : B) (_ : C) (_ : D) : Ev := ev0
noncomputable def evOp (o : Op) : Ev :=
  Op.rec (motive := fun _ => Ev) evMove evMove evPick evAlloc evBox evBuild evBuildSlice ev4 evLoad evStore ev1 ev1 evNil evBin evUn evConvert ev2 ev2 evMakeFunc evMakeMapOf ev2 evMakeSlice evSlice evFieldAddr evField evIndexAddr evIndex evLookup evMapUpdate ev3 ev4 evRange evNext evEntry ev4 evExtract evCallOp ev1 ev1 ev1 ev2 ev3 ev2 o
noncomputable def setT {β : Type _} (tm : Fr) (dst : Option Nat) (v : DV) (k : Fr → β) : β := Option.rec (k tm) (fun x => Fr.rec (fun l m => k (.mk (.cons x v l) m)) tm) dst
noncomputable def wants (ops : List Oper) (tm : Fr) (o : Oper) : Option Bool :=
  Option.rec (some true) (fun p => Option.rec (some false) (fun g => Option.rec (some false) (fun x => match tm.get x with
    | .bool v => some (Bool.rec (Bool.rec true false v) v p.2)
    | .tup [] => some false
    | _ => none) (Oper.dst g)) (nth ops p.1)) o.guard
noncomputable def evOper (tb : Tab) (call : Nat → List DV → M DV) (ops : List Oper) (o : Oper) (tm : Fr) : M Fr := fun σ k =>
  Option.rec none (fun b => Bool.rec (setT tm o.dst (.tup []) fun tm => k tm σ) (evOp o.op tb call tm σ fun v σ' => setT tm o.dst v fun tm => k tm σ') b) (wants ops tm o)
noncomputable def evOps (tb : Tab) (call : Nat → List DV → M DV) (ops : List Oper) (r : List Oper) : Fr → M Fr :=
  List.rec (fun tm => pur tm) (fun o _ ih tm σ k => evOper tb call ops o tm σ fun tm σ => ih tm σ k) r
noncomputable def dstM (o : Oper) : Nat := Option.rec 0 (Nat.pow 2) o.dst
noncomputable def guardM (ops : List Oper) (o : Oper) : Nat := Option.rec 0 (fun p => Option.rec 0 dstM (nth ops p.1)) o.guard
noncomputable def lookM (ops : List Oper) (o : Oper) : Nat := List.rec (guardM ops o) (fun x _ ih => Operand.rec (fun t => Nat.lor (Nat.pow 2 t) ih) (fun _ => ih) (fun _ => ih) (fun _ => ih) x) o.op.operands.toList
noncomputable def ahead (pre : List Nat) (l : List Edge) : Nat := List.rec 0 (fun e _ ih => Bool.rec ih (Nat.lor (Nat.lor (Nat.pow 2 e.on) (Option.rec 0 (fun m => m) (nth pre e.on))) ih) (Region.binds .any e)) l
noncomputable def pres (r : List Oper) : List Nat → List Nat := List.rec (fun acc => acc) (fun o _ ih acc => appR acc [ahead acc o.after.toList] ih) r
noncomputable def apartT (ops : List Oper) (p d l : Nat) (prev : List Oper) : Nat → Bool :=
  List.rec (fun _ => true) (fun q _ ih j => Bool.rec (Bool.rec false (ih (Nat.succ j)) (Nat.beq (Nat.lor (Nat.land (dstM q) (Nat.lor l d)) (Nat.land d (lookM ops q))) 0)) (ih (Nat.succ j)) (bit p j)) prev
noncomputable def back (i : Nat) (l : List Edge) : Bool := List.rec true (fun e _ ih => Bool.rec ih (Bool.rec false ih (Nat.ble (Nat.succ e.on) i)) (Region.binds .any e)) l
noncomputable def quietT (ops : List Oper) (r : List Oper) : List Nat → Nat → Bool :=
  List.rec (fun _ _ => true) (fun o _ ih ps i => List.rec false (fun p ps _ => Bool.rec false (Bool.rec false (ih ps (Nat.succ i)) (takeR ops i fun prev => apartT ops p (dstM o) (lookM ops o) prev 0)) (back i o.after.toList)) ps) r
noncomputable def still (ops : List Oper) : Bool := quietT ops ops (pres ops []) 0
inductive Foot where
  | mk (j c c' : Nat) (R W : List Nat)
noncomputable def meet (a b : List Nat) : Bool := List.rec false (fun n _ ih => Bool.rec ih true (has b n)) a
noncomputable def noneIn (c c' : Nat) (l : List Nat) : Bool := List.rec true (fun n _ ih => Bool.rec ih (Bool.rec ih false (Nat.ble (Nat.succ n) c')) (Nat.ble c n)) l
noncomputable def apart1 (R W : List Nat) (c c' : Nat) (R' W' : List Nat) : Bool := Bool.rec (Bool.rec (noneIn c c' R) false (meet W R')) false (meet W' R)
noncomputable def apart (p : Nat) (R W : List Nat) (fs : List Foot) : Bool :=
  List.rec true (fun _ _ _ => List.rec true (fun f _ ih => Foot.rec (fun j c c' R' W' => Bool.rec (Bool.rec false ih (apart1 R W c c' R' W')) ih (bit p j)) f) fs) R
noncomputable def addFoot {β : Type _} (i c c' : Nat) (R W : List Nat) (fs : List Foot) (k : List Foot → β) : β := Bool.rec (k (.mk i c c' R W :: fs)) (List.rec (k fs) (fun _ _ _ => k (.mk i c c' R W :: fs)) R) (Nat.beq c c')
noncomputable def drawOps (tb : Tab) (call : Nat → List DV → M DV) (ops : List Oper) (r : List Oper) : List Nat → Nat → List Foot → Fr → M Fr :=
  List.rec (fun _ _ _ tm => pur tm) (fun o _ ih ps i fs tm => List.rec fail (fun p ps _ => bind (probe (evOper tb call ops o tm)) fun d =>
    Did.rec (fun tm' c c' R' W' => Bool.rec fail (addFoot i c c' R' W' fs fun fs' => ih ps (Nat.succ i) fs' tm') (apart p R' W' fs)) d) ps) r
inductive Ex where
  | normal
  | exit (id : Nat)
  | ret
structure Out where
  ex : Ex
  tm : Tm
noncomputable def next (o : Out) (f : Tm → M Out) : M Out := Out.rec (fun e tm => Ex.rec (f tm) (fun id => pur ⟨.exit id, tm⟩) (pur ⟨.ret, tm⟩) e) o
noncomputable def iter (body : Tm → M Out) (k : Nat) : Tm → M Out := Nat.rec (fun _ => fail) (fun _ ih tm => bind (body tm) fun o => next o ih) k
noncomputable def unblock (id : Nat) (o : Out) : M Out := Out.rec (fun e tm => Ex.rec (pur ⟨.normal, tm⟩) (fun id' => bif Nat.beq id' id then pur ⟨.normal, tm⟩ else pur ⟨.exit id', tm⟩) (pur ⟨.ret, tm⟩) e) o
noncomputable def evRegion (tb : Tab) (call : Nat → List DV → M DV) (V : Nat) (ops : List Oper) (draw : Bool) (tm : Tm) : M Out := fun σ k =>
  Bool.rec (evOps tb call ops ops (.mk .nil tm)) (Bool.rec fail (drawOps tb call ops ops (pres ops []) 0 [] (.mk .nil tm)) (still ops)) draw σ fun tm' σ => Fr.rec (fun l m => l.save V m fun m' => k ⟨.normal, m'⟩ σ) tm'
noncomputable def evCond (tm : Tm) (x : Operand) (a b : M Out) : M Out :=
  match eval (.mk .nil tm) x with
  | .bool t => Bool.rec b a t
  | _ => fail
noncomputable def evCode (tb : Tab) (call : Nat → List DV → M DV) (fuel V : Nat) (x : Code) : Tm → M Out :=
  Code.rec (fun tm => pur ⟨.normal, tm⟩) (fun _ ops draw tm => evRegion tb call V ops.toList draw tm)
    (fun _ _ fa fb tm => bind (fa tm) fun o => next o fb) (fun x _ _ fa fb tm => evCond tm x (fa tm) (fb tm))
    (fun id _ fa tm => bind (fa tm) (unblock id)) (fun _ fa tm => iter fa fuel tm) (fun _ _ _ _ _ _ _ => fail)
    (fun id tm => pur ⟨.exit id, tm⟩) (fun _ _ _ => fail) (fun _ tm => pur ⟨.normal, tm⟩) (fun _ _ => fail) (fun tm => pur ⟨.ret, tm⟩) (fun _ _ => fail) x
noncomputable def resultOf (tb : Tab) (tm : Tm) : ResultVar → M DV
  | .tmp t => seqD (tm.get t) pur
  | .cell a t => seqD (tm.get a) (opLoad tb t)
noncomputable def resultsOf (tb : Tab) (tm : Tm) (l : List ResultVar) : M (List DV) :=
  List.rec (pur []) (fun r _ ih => bind (resultOf tb tm r) fun v => bind ih fun vs => pur (v :: vs)) l
def single : List DV → DV
  | [v] => v
  | vs => .tup vs
noncomputable def results (tb : Tab) (fn : Func) (o : Out) : M DV :=
  match o.ex with
  | .exit _ => fail
  | _ => bind (resultsOf tb o.tm fn.results.toList) fun vs => seqD (single vs) pur
noncomputable def enter (tb : Tab) (call : Nat → List DV → M DV) (fuel : Nat) (args : List DV) (V : Nat) (fn : Func) : M DV :=
  match fn.body with
  | none => fail
  | some b => bif Nat.ble fn.ntmps 1000 && Nat.ble (lenR args) fn.ntmps && Nat.beq (Nat.mod (Nat.succ V) (Nat.pow 2 (lenR args))) 0 then Tm.lay args 0 (Tm.blank 10) fun tm => bind (evCode tb call fuel V b tm) (results tb fn) else fail
noncomputable def evFn (tb : Tab) (fuel n : Nat) : Nat → List DV → M DV :=
  Nat.rec (fun _ _ => fail) (fun _ ih f args => Option.rec (Option.rec fail (fun p => Prod.rec (fun V fn => enter tb ih fuel args V fn) p) (look tb.fn f)) (fun g => g args) (look tb.prim f)) n
noncomputable def run (tb : Tab) (fuel n f : Nat) (args : List DV) : Ans := evFn tb fuel n f args (.mk false 0 (Tm.blank depth) [] []) fun r σ => some (r, σ)
end Go.E
end
section
namespace Go.E
open Go
instance : Inhabited Sto := ⟨.mk false 0 .e [] []⟩
def Runs {α : Type} (m : M α) (σ : Sto) (a : α) (σ' : Sto) : Prop := ∀ k, m σ k = k a σ'
theorem Runs.det {α : Type} {m : M α} {σ : Sto} {a b : α} {σ₁ σ₂ : Sto} (h : Runs m σ a σ₁) (h' : Runs m σ b σ₂) : a = b ∧ σ₁ = σ₂ := by
  have := (h fun x y => open Classical in if x = a ∧ y = σ₁ then some default else none).symm.trans (h' _)
  simp only [and_self, if_true] at this
  split at this
  · rename_i hh; exact ⟨hh.1.symm, hh.2.symm⟩
  · cases this
def addL (n : Nat) (l : List Nat) : List Nat := if n ∈ l then l else n :: l
theorem has_iff (l : List Nat) (n : Nat) : has l n = true ↔ n ∈ l := by
  induction l with
  | nil => simp [has]
  | cons m r ih =>
    rw [has_cons]
    by_cases h : n = m
    · simp [h]
    · rw [if_neg h, ih]; simp [h]
theorem add_eq {β : Type _} (n : Nat) (l : List Nat) (k : List Nat → β) : add n l k = k (addL n l) := by
  unfold add addL
  cases h : has l n with
  | true => rw [if_pos ((has_iff _ _).1 h)]
  | false => rw [if_neg (fun hh => by rw [(has_iff _ _).2 hh] at h; cases h)]
theorem mem_addL {n m : Nat} {l : List Nat} : m ∈ addL n l ↔ m = n ∨ m ∈ l := by
  unfold addL; split
  · constructor
    · exact Or.inr
    · rintro (rfl | h) <;> assumption
  · simp
def uniL : List Nat → List Nat → List Nat
  | [], X => X
  | n :: r, X => uniL r (addL n X)
theorem uni_eq {β : Type _} (Y : List Nat) : ∀ (X : List Nat) (k : List Nat → β), uni Y X k = k (uniL Y X) := by
  induction Y with
  | nil => intro X k; rfl
  | cons n r ih => intro X k; show add n X (fun X' => uni r X' k) = _; rw [add_eq]; exact ih _ _
theorem mem_uniL {m : Nat} : ∀ {Y X : List Nat}, m ∈ uniL Y X ↔ m ∈ Y ∨ m ∈ X
  | [], X => by simp [uniL]
  | n :: r, X => by
    rw [uniL, mem_uniL, mem_addL]; simp only [List.mem_cons]
    constructor
    · rintro (h | h | h) <;> simp [h]
    · rintro ((h | h) | h) <;> simp [h]
def Agree (R : List Nat) (c c' : Nat) (s s2 : Tm) : Prop := ∀ n, (n ∈ R ∨ (c ≤ n ∧ n < c')) → s2.get n = s.get n
structure Does {α : Type} (m : M α) (c : Nat) (s : Tm) (R0 W0 : List Nat) (a : α) (c' : Nat) (s' : Tm) (R W : List Nat) : Prop where
  le : c ≤ c'
  full : Tm.Full depth s'
  subR : ∀ n ∈ R0, n ∈ R
  subW : ∀ n ∈ W0, n ∈ W
  sub : ∀ n ∈ W, n ∈ R
  same : ∀ n, n ∉ W → (n < c ∨ c' ≤ n) → s'.get n = s.get n
  again : ∀ s2, Tm.Full depth s2 → Agree R c c' s s2 → ∃ s2', Runs m (.mk true c s2 R0 W0) a (.mk true c' s2' R W) ∧ Tm.Full depth s2' ∧
    ∀ n, s2'.get n = if n ∈ W ∨ (c ≤ n ∧ n < c') then s'.get n else s2.get n
structure Ok {α : Type} (m : M α) : Prop where
  det : ∀ σ k x, m σ k = some x → ∃ a σ', Runs m σ a σ'
  quiet : ∀ c s R0 W0 a σ', Tm.Full depth s → Runs m (.mk false c s R0 W0) a σ' → ∃ c' s', σ' = .mk false c' s' R0 W0 ∧ c ≤ c' ∧ Tm.Full depth s'
  does : ∀ c s R0 W0 a σ', (∀ n ∈ W0, n ∈ R0) → Tm.Full depth s → Runs m (.mk true c s R0 W0) a σ' → ∃ c' s' R W, σ' = .mk true c' s' R W ∧ Does m c s R0 W0 a c' s' R W
variable {α β : Type}
theorem Ok.pur (a : α) : Ok (pur a) where
  det σ k x _ := ⟨a, σ, fun _ => rfl⟩
  quiet c s R0 W0 b σ' hs h := by
    obtain ⟨rfl, rfl⟩ := Runs.det (m := E.pur a) (fun _ => rfl) h
    exact ⟨c, s, rfl, Nat.le_refl _, hs⟩
  does c s R0 W0 b σ' hw hs h := by
    obtain ⟨rfl, rfl⟩ := Runs.det (m := E.pur a) (fun _ => rfl) h
    refine ⟨c, s, R0, W0, rfl, Nat.le_refl _, hs, fun _ h => h, fun _ h => h, hw, fun _ _ _ => rfl, fun s2 hs2 hag => ⟨s2, fun _ => rfl, hs2, fun n => ?_⟩⟩
    split
    · rename_i hn
      exact hag n (hn.imp (hw n) id)
    · rfl
theorem Ok.fail : Ok (fail : M α) where
  det σ k x h := by cases h
  quiet c s R0 W0 a σ' _ h := by cases h fun _ _ => some default
  does c s R0 W0 a σ' _ _ h := by cases h fun _ _ => some default
theorem Runs.split {m : M α} {f : α → M β} (hm : Ok m) {σ : Sto} {b : β} {σ₂ : Sto} (h : Runs (bind m f) σ b σ₂) : ∃ a σ₁, Runs m σ a σ₁ ∧ Runs (f a) σ₁ b σ₂ := by
  obtain ⟨a, σ₁, h1⟩ := hm.det σ _ _ (h fun _ _ => some default)
  refine ⟨a, σ₁, h1, fun k => ?_⟩
  have := h k
  unfold bind at this
  rw [h1] at this
  exact this
theorem Runs.bind {m : M α} {f : α → M β} {σ σ₁ σ₂ : Sto} {a : α} {b : β} (h : Runs m σ a σ₁) (h' : Runs (f a) σ₁ b σ₂) : Runs (bind m f) σ b σ₂ := fun k => by
  unfold E.bind; rw [h]; exact h' k
theorem Ok.bind {m : M α} {f : α → M β} (hm : Ok m) (hf : ∀ a, Ok (f a)) : Ok (bind m f) where
  det σ k x h := by
    obtain ⟨a, σ₁, h1⟩ := hm.det σ _ _ h
    have h2 : f a σ₁ k = some x := by unfold E.bind at h; rw [h1] at h; exact h
    obtain ⟨b, σ₂, h3⟩ := (hf a).det _ _ _ h2
    exact ⟨b, σ₂, h1.bind h3⟩
  quiet c s R0 W0 b σ' hs h := by
    obtain ⟨a, σ₁, h1, h2⟩ := h.split hm
    obtain ⟨c1, s1, rfl, l1, f1⟩ := hm.quiet _ _ _ _ _ _ hs h1
    obtain ⟨c2, s2, rfl, l2, f2⟩ := (hf a).quiet _ _ _ _ _ _ f1 h2
    exact ⟨c2, s2, rfl, Nat.le_trans l1 l2, f2⟩
  does c s R0 W0 b σ' hw hs h := by
    obtain ⟨a, σ₁, h1, h2⟩ := h.split hm
    obtain ⟨c1, s1, R1, W1, rfl, d1⟩ := hm.does _ _ _ _ _ _ hw hs h1
    obtain ⟨c2, s2, R2, W2, rfl, d2⟩ := (hf a).does _ _ _ _ _ _ d1.sub d1.full h2
    refine ⟨c2, s2, R2, W2, rfl, Nat.le_trans d1.le d2.le, d2.full, fun n hn => d2.subR n (d1.subR n hn), fun n hn => d2.subW n (d1.subW n hn), d2.sub, fun n hn hc => ?_, fun t ht hag => ?_⟩
    · have l1 := d1.le
      have l2 := d2.le
      rw [d2.same n hn (by omega), d1.same n (fun hh => hn (d2.subW n hh)) (by omega)]
    · have l1 := d1.le
      have l2 := d2.le
      obtain ⟨t1, r1, g1, e1⟩ := d1.again t ht fun n hn => hag n (hn.imp (d2.subR n) (fun h => ⟨h.1, by omega⟩))
      obtain ⟨t2, r2, g2, e2⟩ := d2.again t1 g1 fun n hn => by
        rw [e1]
        split
        · rfl
        · rename_i hh
          have h3 : n ∉ W1 := fun h => hh (.inl h)
          rw [hag n (hn.imp id fun h => ⟨by omega, h.2⟩), d1.same n h3 (by
            by_cases h4 : n < c
            · exact .inl h4
            · exact .inr (by rcases Nat.lt_or_ge n c1 with h5 | h5
                             · exact absurd (.inr ⟨by omega, h5⟩) hh
                             · exact h5))]
      refine ⟨t2, r1.bind r2, g2, fun n => ?_⟩
      rw [e2, e1]
      by_cases h3 : n ∈ W2
      · rw [if_pos (.inl h3), if_pos (.inl h3)]
      · have h4 : n ∉ W1 := fun h => h3 (d2.subW n h)
        by_cases h5 : c1 ≤ n ∧ n < c2
        · rw [if_pos (.inr h5), if_pos (.inr ⟨by omega, h5.2⟩)]
        · rw [if_neg (by simp [h3]; omega)]
          by_cases h6 : c ≤ n ∧ n < c1
          · rw [if_pos (.inr h6), if_pos (.inr ⟨h6.1, by omega⟩), d2.same n h3 (.inl h6.2)]
          · rw [if_neg (by simp [h4]; omega), if_neg (by simp [h3]; omega)]
theorem rd_true (n c : Nat) (s : Tm) (R W : List Nat) : Runs (rd n) (.mk true c s R W) (s.get n) (.mk true c s (addL n R) W) := fun k => add_eq n R (fun R' => k (s.get n) (.mk true c s R' W))
theorem rd_false (n c : Nat) (s : Tm) (R W : List Nat) : Runs (rd n) (.mk false c s R W) (s.get n) (.mk false c s R W) := fun k => rfl
theorem Ok.rd (n : Nat) : Ok (rd n) where
  det σ k x h := by
    obtain ⟨lg, c, s, R, W⟩ := σ
    cases lg
    · exact ⟨_, _, rd_false n c s R W⟩
    · exact ⟨_, _, rd_true n c s R W⟩
  quiet c s R0 W0 a σ' hs h := by
    obtain ⟨rfl, rfl⟩ := (rd_false n c s R0 W0).det h
    exact ⟨c, s, rfl, Nat.le_refl _, hs⟩
  does c s R0 W0 a σ' hw hs h := by
    obtain ⟨rfl, rfl⟩ := (rd_true n c s R0 W0).det h
    refine ⟨c, s, addL n R0, W0, rfl, Nat.le_refl _, hs, fun m hm => mem_addL.2 (.inr hm), fun _ h => h, fun m hm => mem_addL.2 (.inr (hw m hm)), fun _ _ _ => rfl, fun s2 hs2 hag => ⟨s2, ?_, hs2, fun m => ?_⟩⟩
    · have := rd_true n c s2 R0 W0
      rw [hag n (.inl (mem_addL.2 (.inl rfl)))] at this
      exact this
    · split
      · rename_i hm
        exact hag m (hm.imp (fun h => mem_addL.2 (.inr (hw m h))) id)
      · rfl
theorem le_depth {n : Nat} (h : Nat.ble n 65000 = true) : n + 1 < 2 ^ depth := by
  have := Nat.le_of_ble_eq_true h
  show n + 1 < 65536
  omega
theorem wr_true (n : Nat) (e : DV) (c : Nat) (s : Tm) (R W : List Nat) (h : Nat.ble n 65000 = true) : Runs (wr n e) (.mk true c s R W) () (.mk true c (s.put e n) (addL n R) (addL n W)) := fun k => by
  show (Bool.rec none _ (Nat.ble n 65000) : Ans) = _
  rw [h]
  show s.set e n _ = _
  rw [Tm.set_eq]
  show add n R _ = _
  rw [add_eq, add_eq]
theorem wr_false (n : Nat) (e : DV) (c : Nat) (s : Tm) (R W : List Nat) (h : Nat.ble n 65000 = true) : Runs (wr n e) (.mk false c s R W) () (.mk false c (s.put e n) R W) := fun k => by
  show (Bool.rec none _ (Nat.ble n 65000) : Ans) = _
  rw [h]
  show s.set e n _ = _
  rw [Tm.set_eq]
theorem wr_none (n : Nat) (e : DV) (σ : Sto) (k : Unit → Sto → Ans) (h : Nat.ble n 65000 = false) : wr n e σ k = none := by
  obtain ⟨lg, c, s, R, W⟩ := σ
  show (Bool.rec none _ (Nat.ble n 65000) : Ans) = _
  rw [h]
theorem Tm.get_put_ite (s : Tm) (hs : Tm.Full depth s) (e : DV) (n m : Nat) (h : n + 1 < 2 ^ depth) : (s.put e n).get m = if m = n then e else s.get m := by
  split
  · rename_i hh; subst hh; exact Tm.get_put e depth s m hs h
  · rename_i hh; exact Tm.get_put_ne e s n m hh
theorem Ok.wr (n : Nat) (e : DV) : Ok (wr n e) where
  det σ k x h := by
    cases hb : Nat.ble n 65000 with
    | false => rw [wr_none n e σ k hb] at h; cases h
    | true =>
      obtain ⟨lg, c, s, R, W⟩ := σ
      cases lg
      · exact ⟨_, _, wr_false n e c s R W hb⟩
      · exact ⟨_, _, wr_true n e c s R W hb⟩
  quiet c s R0 W0 a σ' hs h := by
    cases hb : Nat.ble n 65000 with
    | false => have := h fun _ _ => some default; rw [wr_none n e _ _ hb] at this; cases this
    | true =>
      obtain ⟨-, rfl⟩ := (wr_false n e c s R0 W0 hb).det h
      exact ⟨c, _, rfl, Nat.le_refl _, Tm.put_full e depth s n hs⟩
  does c s R0 W0 a σ' hw hs h := by
    cases hb : Nat.ble n 65000 with
    | false => have := h fun _ _ => some default; rw [wr_none n e _ _ hb] at this; cases this
    | true =>
      obtain ⟨-, rfl⟩ := (wr_true n e c s R0 W0 hb).det h
      refine ⟨c, _, _, _, rfl, Nat.le_refl _, Tm.put_full e depth s n hs, fun m hm => mem_addL.2 (.inr hm), fun m hm => mem_addL.2 (.inr hm), fun m hm => mem_addL.2 ((mem_addL.1 hm).imp id (hw m)), fun m hm _ => ?_, fun s2 hs2 hag => ⟨s2.put e n, wr_true n e c s2 R0 W0 hb, Tm.put_full e depth s2 n hs2, fun m => ?_⟩⟩
      · rw [Tm.get_put_ite s hs e n m (le_depth hb), if_neg (fun hh => hm (mem_addL.2 (.inl hh)))]
      · rw [Tm.get_put_ite s hs e n m (le_depth hb), Tm.get_put_ite s2 hs2 e n m (le_depth hb)]
        by_cases hmn : m = n
        · rw [if_pos hmn, if_pos hmn, if_pos (.inl (mem_addL.2 (.inl hmn)))]
        · rw [if_neg hmn, if_neg hmn]
          split
          · rename_i hm
            rcases hm with hm | hm
            · exact hag m (.inl (mem_addL.2 (.inr (hw m ((mem_addL.1 hm).resolve_left hmn)))))
            · omega
          · rfl
theorem new_mk (e : DV) (lg : Bool) (c : Nat) (s : Tm) (R W : List Nat) (h : Nat.ble c 65000 = true) : Runs (new e) (.mk lg c s R W) c (.mk lg (c + 1) (s.put e c) R W) := fun k => by
  show (Bool.rec none _ (Nat.ble c 65000) : Ans) = _
  rw [h]
  show s.set e c _ = _
  rw [Tm.set_eq, seqN_eq]
theorem new_none (e : DV) (lg : Bool) (c : Nat) (s : Tm) (R W : List Nat) (k : Nat → Sto → Ans) (h : Nat.ble c 65000 = false) : new e (.mk lg c s R W) k = none := by
  show (Bool.rec none _ (Nat.ble c 65000) : Ans) = _
  rw [h]
theorem Ok.new (e : DV) : Ok (new e) where
  det σ k x h := by
    obtain ⟨lg, c, s, R, W⟩ := σ
    cases hb : Nat.ble c 65000 with
    | false => rw [new_none e lg c s R W k hb] at h; cases h
    | true => exact ⟨_, _, new_mk e lg c s R W hb⟩
  quiet c s R0 W0 a σ' hs h := by
    cases hb : Nat.ble c 65000 with
    | false => have := h fun _ _ => some default; rw [new_none e _ c s _ _ _ hb] at this; cases this
    | true =>
      obtain ⟨-, rfl⟩ := (new_mk e false c s R0 W0 hb).det h
      exact ⟨c + 1, _, rfl, Nat.le_succ _, Tm.put_full e depth s c hs⟩
  does c s R0 W0 a σ' hw hs h := by
    cases hb : Nat.ble c 65000 with
    | false => have := h fun _ _ => some default; rw [new_none e _ c s _ _ _ hb] at this; cases this
    | true =>
      obtain ⟨rfl, rfl⟩ := (new_mk e true c s R0 W0 hb).det h
      refine ⟨c + 1, _, R0, W0, rfl, Nat.le_succ _, Tm.put_full e depth s c hs, fun _ h => h, fun _ h => h, hw, fun m hm hc => ?_, fun s2 hs2 hag => ⟨s2.put e c, new_mk e true c s2 R0 W0 hb, Tm.put_full e depth s2 c hs2, fun m => ?_⟩⟩
      · rw [Tm.get_put_ite s hs e c m (le_depth hb), if_neg (by omega)]
      · rw [Tm.get_put_ite s hs e c m (le_depth hb), Tm.get_put_ite s2 hs2 e c m (le_depth hb)]
        by_cases hmn : m = c
        · simp [hmn]
        · rw [if_neg hmn, if_neg hmn]
          split
          · rename_i hm
            rcases hm with hm | hm
            · exact hag m (.inl (hw m hm))
            · omega
          · rfl
def belowL (c : Nat) : List Nat → List Nat
  | [] => []
  | n :: r => if n < c then n :: belowL c r else belowL c r
theorem mem_belowL {c n : Nat} : ∀ {l : List Nat}, n ∈ belowL c l ↔ n ∈ l ∧ n < c
  | [] => by simp [belowL]
  | m :: r => by
    rw [belowL]
    split
    · rename_i h
      simp only [List.mem_cons, mem_belowL]
      constructor
      · rintro (rfl | ⟨h1, h2⟩)
        · exact ⟨.inl rfl, h⟩
        · exact ⟨.inr h1, h2⟩
      · rintro ⟨rfl | h1, h2⟩
        · exact .inl rfl
        · exact .inr ⟨h1, h2⟩
    · rename_i h
      simp only [List.mem_cons, mem_belowL]
      constructor
      · rintro ⟨h1, h2⟩; exact ⟨.inr h1, h2⟩
      · rintro ⟨rfl | h1, h2⟩
        · exact absurd h2 h
        · exact ⟨h1, h2⟩
theorem below_cons (c c' n : Nat) (r : List Nat) (k : List Nat → Ans) : below c c' (n :: r) k = below c c' r fun r' => if n < c then k (n :: r') else if n < c' then k r' else none := by
  show below c c' r (fun r' => (Bool.rec (Bool.rec none (k r') (Nat.ble (n + 1) c')) (k (n :: r')) (Nat.ble (n + 1) c) : Ans)) = _
  congr 1
  funext r'
  rw [ble_ite, ble_ite]
  rfl
theorem below_or (c c' : Nat) : ∀ l : List Nat, ((∀ n ∈ l, n < c ∨ n < c') ∧ ∀ k, below c c' l k = k (belowL c l)) ∨ ∀ k, below c c' l k = none
  | [] => .inl ⟨by simp, fun k => rfl⟩
  | n :: r => by
    rcases below_or c c' r with ⟨h1, h2⟩ | h2
    · by_cases h : n < c
      · refine .inl ⟨fun m hm => ?_, fun k => ?_⟩
        · rcases List.mem_cons.1 hm with rfl | hm
          · exact .inl h
          · exact h1 m hm
        · rw [below_cons, h2, belowL, if_pos h, if_pos h]
      · by_cases h' : n < c'
        · refine .inl ⟨fun m hm => ?_, fun k => ?_⟩
          · rcases List.mem_cons.1 hm with rfl | hm
            · exact .inr h'
            · exact h1 m hm
          · rw [below_cons, h2, belowL, if_neg h, if_neg h, if_pos h']
        · exact .inr fun k => by rw [below_cons, h2, if_neg h, if_neg h']
    · exact .inr fun k => by rw [below_cons, h2]
theorem probe_mk (m : M α) (lg : Bool) (c : Nat) (s : Tm) (R W : List Nat) {a : α} {b : Bool} {c' : Nat} {s' : Tm} {R' W' : List Nat} (h : Runs m (.mk true c s [] []) a (.mk b c' s' R' W')) (k : Did α → Sto → Ans) :
    probe m (.mk lg c s R W) k = below c c' R' fun R' => below c c' W' fun W' => if lg = true then k (.mk a c c' R' W') (.mk true c' s' (uniL R' R) (uniL W' W)) else k (.mk a c c' R' W') (.mk false c' s' R W) := by
  show m (.mk true c s [] []) _ = _
  rw [h]
  show below c c' R' _ = _
  congr 1
  funext R1
  congr 1
  funext W1
  cases lg
  · rfl
  · show uni R1 R _ = _
    rw [uni_eq, uni_eq]; rfl
theorem Ok.probe {m : M α} (hm : Ok m) : Ok (probe m) where
  det σ k x h := by
    obtain ⟨lg, c, s, R, W⟩ := σ
    obtain ⟨a, ⟨b, c', s', R', W'⟩, h1⟩ := hm.det (.mk true c s [] []) _ x h
    have e := fun k => probe_mk m lg c s R W h1 k
    rw [e] at h
    rcases below_or c c' R' with ⟨-, h2⟩ | h2
    · rcases below_or c c' W' with ⟨-, h3⟩ | h3
      · cases lg
        · exact ⟨_, _, fun k => by rw [e, h2, h3]; rfl⟩
        · exact ⟨_, _, fun k => by rw [e, h2, h3]; rfl⟩
      · rw [h2, h3] at h; cases h
    · rw [h2] at h; cases h
  quiet c s R0 W0 d σ' hs h := by
    obtain ⟨a, σ₁, h1⟩ := hm.det (.mk true c s [] []) _ _ (h fun _ _ => some default)
    obtain ⟨c', s', R', W', rfl, d1⟩ := hm.does _ _ _ _ _ _ (by simp) hs h1
    have e := fun k => probe_mk m false c s R0 W0 h1 k
    rcases below_or c c' R' with ⟨-, h2⟩ | h2
    · rcases below_or c c' W' with ⟨-, h3⟩ | h3
      · have h4 : Runs (E.probe m) (.mk false c s R0 W0) _ _ := fun k => by rw [e, h2, h3]; rfl
        obtain ⟨-, rfl⟩ := h4.det h
        exact ⟨c', s', rfl, d1.le, d1.full⟩
      · have := h fun _ _ => some default; rw [e, h2, h3] at this; cases this
    · have := h fun _ _ => some default; rw [e, h2] at this; cases this
  does c s R0 W0 d σ' hw hs h := by
    obtain ⟨a, σ₁, h1⟩ := hm.det (.mk true c s [] []) _ _ (h fun _ _ => some default)
    obtain ⟨c', s', R', W', rfl, d1⟩ := hm.does _ _ _ _ _ _ (by simp) hs h1
    have e := fun k => probe_mk m true c s R0 W0 h1 k
    rcases below_or c c' R' with ⟨hR, h2⟩ | h2
    · rcases below_or c c' W' with ⟨hW, h3⟩ | h3
      · have h4 : Runs (E.probe m) (.mk true c s R0 W0) _ _ := fun k => by rw [e, h2, h3]; rfl
        obtain ⟨rfl, rfl⟩ := h4.det h
        refine ⟨c', s', _, _, rfl, d1.le, d1.full, fun n hn => mem_uniL.2 (.inr hn), fun n hn => mem_uniL.2 (.inr hn), fun n hn => ?_, fun n hn hc => ?_, fun s2 hs2 hag => ?_⟩
        · rcases mem_uniL.1 hn with hn | hn
          · exact mem_uniL.2 (.inl (mem_belowL.2 ⟨d1.sub n (mem_belowL.1 hn).1, (mem_belowL.1 hn).2⟩))
          · exact mem_uniL.2 (.inr (hw n hn))
        · refine d1.same n (fun hh => hn (mem_uniL.2 (.inl (mem_belowL.2 ⟨hh, ?_⟩)))) hc
          rcases hW n hh with h5 | h5
          · exact h5
          · rcases hc with hc | hc
            · exact hc
            · omega
        · obtain ⟨s2', r, f2, g⟩ := d1.again s2 hs2 fun n hn => by
            rcases hn with hn | hn
            · by_cases hc : n < c
              · exact hag n (.inl (mem_uniL.2 (.inl (mem_belowL.2 ⟨hn, hc⟩))))
              · exact hag n (.inr ⟨by omega, by rcases hR n hn with h5 | h5 <;> omega⟩)
            · exact hag n (.inr hn)
          refine ⟨s2', fun k => by rw [probe_mk m true c s2 R0 W0 r k, h2, h3]; rfl, f2, fun n => ?_⟩
          rw [g]
          by_cases h5 : n ∈ W' ∨ (c ≤ n ∧ n < c')
          · rw [if_pos h5]
            by_cases h6 : c ≤ n ∧ n < c'
            · rw [if_pos (.inr h6)]
            · have h7 := h5.resolve_right h6
              rw [if_pos (.inl (mem_uniL.2 (.inl (mem_belowL.2 ⟨h7, by rcases hW n h7 with h8 | h8 <;> omega⟩))))]
          · rw [if_neg h5]
            split
            · rename_i h6
              rcases h6 with h6 | h6
              · rcases mem_uniL.1 h6 with h7 | h7
                · exact absurd (.inl (mem_belowL.1 h7).1) h5
                · have h8 : n ∉ W' := fun hh => h5 (.inl hh)
                  have h9 : n < c ∨ c' ≤ n := by
                    rcases Nat.lt_or_ge n c with h | h
                    · exact .inl h
                    · exact .inr (by rcases Nat.lt_or_ge n c' with h' | h'
                                     · exact absurd (.inr ⟨h, h'⟩) h5
                                     · exact h')
                  rw [d1.same n h8 h9, hag n (.inl (mem_uniL.2 (.inr (hw n h7))))]
              · exact absurd (.inr h6) h5
            · rfl
      · have := h fun _ _ => some default; rw [e, h2, h3] at this; cases this
    · have := h fun _ _ => some default; rw [e, h2] at this; cases this
theorem outer_false (m : M α) (c : Nat) (s : Tm) (R W : List Nat) (k : α → Sto → Ans) : outer m (.mk false c s R W) k = m (.mk false c s R W) k := rfl
noncomputable def Did.ans : Did α → α := Did.rec fun a _ _ _ _ => a
theorem outer_true (m : M α) (c : Nat) (s : Tm) (R W : List Nat) (k : α → Sto → Ans) : outer m (.mk true c s R W) k = bind (probe m) (fun d => E.pur d.ans) (.mk true c s R W) k := by
  show probe m (.mk true c s R W) (fun d σ' => (Did.rec (fun a _ _ _ _ => k a σ') d : Ans)) = probe m (.mk true c s R W) fun d σ' => k d.ans σ'
  congr 1
theorem Ok.outer {m : M α} (hm : Ok m) : Ok (outer m) := by
  have hb : Ok (E.bind (E.probe m) fun d => E.pur d.ans) := hm.probe.bind fun d => Ok.pur _
  refine ⟨fun σ k x h => ?_, fun c s R0 W0 a σ' hs h => hm.quiet c s R0 W0 a σ' hs fun k => (outer_false m c s R0 W0 k).symm.trans (h k), fun c s R0 W0 a σ' hw hs h => ?_⟩
  · obtain ⟨lg, c, s, R, W⟩ := σ
    cases lg
    · obtain ⟨a, σ', h1⟩ := hm.det _ _ _ ((outer_false m c s R W k).symm.trans h)
      exact ⟨a, σ', fun k => (outer_false m c s R W k).trans (h1 k)⟩
    · obtain ⟨a, σ', h1⟩ := hb.det _ _ _ ((outer_true m c s R W k).symm.trans h)
      exact ⟨a, σ', fun k => (outer_true m c s R W k).trans (h1 k)⟩
  · obtain ⟨c', s', R, W, rfl, d⟩ := hb.does c s R0 W0 a σ' hw hs fun k => (outer_true m c s R0 W0 k).symm.trans (h k)
    refine ⟨c', s', R, W, rfl, d.le, d.full, d.subR, d.subW, d.sub, d.same, fun s2 hs2 hag => ?_⟩
    obtain ⟨s2', r, f2, g⟩ := d.again s2 hs2 hag
    exact ⟨s2', fun k => (outer_true m c s2 R0 W0 k).trans (r k), f2, g⟩
end Go.E
end
section
namespace Go.E
open Go
variable {α β γ : Type}
theorem Ok.opt {o : Option γ} {m : M α} {f : γ → M α} (hm : Ok m) (hf : ∀ a, Ok (f a)) : Ok (Option.rec m f o : M α) := by
  cases o with
  | none => exact hm
  | some a => exact hf a
theorem Ok.bool {b : Bool} {m m' : M α} (h : Ok m) (h' : Ok m') : Ok (Bool.rec m m' b : M α) := by
  cases b with
  | false => exact h
  | true => exact h'
theorem Ok.cond {b : Bool} {m m' : M α} (h : Ok m) (h' : Ok m') : Ok (cond b m m') := by
  cases b with
  | true => exact h
  | false => exact h'
theorem ok_orFail (o : Option DV) : Ok (orFail o) := by
  cases o with
  | none => exact Ok.fail
  | some d => show Ok (seqD d E.pur); rw [seqD_eq]; exact Ok.pur d
theorem ok_nfD (d : DV) : Ok (nfD d) := by
  unfold E.nfD
  split <;> first | (rw [seqI_eq]; exact Ok.pur _) | (rw [seqB_eq]; exact Ok.pur _) | (rw [seqLN_eq]; exact Ok.pur _) | exact Ok.pur _
theorem ok_orNf (o : Option DV) : Ok (orNf o) := by
  cases o with
  | none => exact Ok.fail
  | some d => exact ok_nfD d
theorem ok_whole (t : TI) (cs : List DV) : Ok (whole t cs) := by
  unfold E.whole
  refine Ok.cond (Ok.pur _) ?_
  split
  · rw [seqD_eq]; exact Ok.pur _
  · exact Ok.fail
theorem ok_loadC (n e o k : Nat) : Ok (loadC n e o k) := by
  unfold E.loadC
  refine Ok.bind (Ok.rd n) fun r => ?_
  split
  · exact Ok.cond (Ok.opt Ok.fail fun _ => Ok.pur _) Ok.fail
  · exact Ok.fail
theorem ok_storeC (n e o : Nat) (l : List DV) : Ok (storeC n e o l) := by
  unfold E.storeC
  refine Ok.bind (Ok.rd n) fun r => ?_
  split
  · exact Ok.cond (Ok.opt Ok.fail fun _ => Ok.wr _ _) Ok.fail
  · exact Ok.fail
theorem ok_newRow (cs : List DV) : Ok (newRow cs) := Ok.cond (Ok.new _) Ok.fail
theorem ok_opBuild (tb : Tab) (t : Nat) (ps : List (Nat × DV)) : Ok (opBuild tb t ps) := by
  unfold E.opBuild
  repeat' (first | with_reducible exact Ok.fail | with_reducible exact Ok.pur _ | split)
theorem ok_opBuildSlice (tb : Tab) (t len : Nat) (ps : List (Nat × DV)) : Ok (opBuildSlice tb t len ps) := by
  unfold E.opBuildSlice
  repeat' (first | with_reducible exact Ok.fail | with_reducible exact Ok.pur _ | with_reducible exact ok_newRow _ | with_reducible refine Ok.cond ?_ ?_ | with_reducible refine Ok.bind ?_ fun _ => ?_ | split)
theorem ok_opMakeSlice (tb : Tab) (t : Nat) (l c : DV) : Ok (opMakeSlice tb t l c) := by
  unfold E.opMakeSlice
  simp only [seqN_eq, seqLD_eq]
  repeat' (first | with_reducible exact Ok.fail | with_reducible exact Ok.pur _ | with_reducible exact ok_newRow _ | with_reducible refine Ok.cond ?_ ?_ | with_reducible refine Ok.bind ?_ fun _ => ?_ | split)
theorem ok_opLoad (tb : Tab) (t : Nat) (a : DV) : Ok (opLoad tb t a) := by
  unfold E.opLoad
  repeat' (first | with_reducible exact Ok.fail | with_reducible exact Ok.pur _ | with_reducible exact ok_loadC _ _ _ _ | with_reducible exact ok_whole _ _ | with_reducible refine Ok.cond ?_ ?_ | with_reducible refine Ok.bind ?_ fun _ => ?_ | split)
theorem ok_opStore (tb : Tab) (t : Nat) (a x : DV) : Ok (opStore tb t a x) := by
  unfold E.opStore
  repeat' (first | with_reducible exact Ok.fail | with_reducible exact Ok.pur _ | with_reducible exact ok_storeC _ _ _ _ | with_reducible refine Ok.cond ?_ ?_ | with_reducible refine Ok.bind ?_ fun _ => ?_ | split)
theorem ok_opFieldAddr (tb : Tab) (t : Nat) (a : DV) (f : Nat) : Ok (opFieldAddr tb t a f) := by
  unfold E.opFieldAddr
  simp only [seqN_eq]
  repeat' (first | with_reducible exact Ok.fail | with_reducible exact Ok.pur _ | with_reducible refine Ok.cond ?_ ?_ | split)
theorem ok_opField (tb : Tab) (t : Nat) (a : DV) (f : Nat) : Ok (opField tb t a f) := by
  unfold E.opField
  repeat' (first | with_reducible exact Ok.fail | with_reducible exact ok_whole _ _ | with_reducible refine Ok.opt ?_ fun _ => ?_ | split)
theorem ok_opIndexAddr (tb : Tab) (t : Nat) (x i : DV) : Ok (opIndexAddr tb t x i) := by
  unfold E.opIndexAddr
  simp only [seqN_eq]
  repeat' (first | with_reducible exact Ok.fail | with_reducible exact Ok.pur _ | with_reducible refine Ok.cond ?_ ?_ | split)
theorem ok_opIndex (tb : Tab) (t : Nat) (x i : DV) : Ok (opIndex tb t x i) := by
  unfold E.opIndex
  simp only [seqN_eq]
  repeat' (first | with_reducible exact Ok.fail | with_reducible exact Ok.pur _ | with_reducible refine Ok.cond ?_ ?_ | split)
theorem ok_opSlice (tb : Tab) (t : Nat) (x : DV) (lo hi mx : Option DV) : Ok (opSlice tb t x lo hi mx) := by
  unfold E.opSlice
  simp only [seqN_eq, takeR_eq]
  repeat' (first | with_reducible exact Ok.fail | with_reducible exact Ok.pur _ | with_reducible refine Ok.cond ?_ ?_ | with_reducible refine Ok.opt ?_ fun _ => ?_ | split)
theorem ok_opConvert (tb : Tab) (s t : Nat) (x : DV) : Ok (opConvert tb s t x) := by
  unfold E.opConvert
  simp only [seqN_eq, seqI_eq, seqLN_eq]
  repeat' (first | with_reducible exact Ok.fail | with_reducible exact Ok.pur _ | with_reducible exact ok_loadC _ _ _ _ | with_reducible refine Ok.cond ?_ ?_ | with_reducible refine Ok.opt ?_ fun _ => ?_ | with_reducible refine Ok.bind ?_ fun _ => ?_ | split)
theorem ok_opLen (tb : Tab) (t : Nat) (x : DV) : Ok (opLen tb t x) := by
  unfold E.opLen
  simp only [seqN_eq]
  repeat' (first | with_reducible exact Ok.fail | with_reducible exact Ok.pur _ | with_reducible exact Ok.rd _ | with_reducible refine Ok.bind ?_ fun _ => ?_ | split)
theorem ok_found (ok b : Bool) (v : DV) : Ok (found ok b v) := by
  unfold E.found
  exact Ok.bool (Ok.pur _) (Ok.pur _)
theorem without_eq {γ : Type} {β : Type _} (l : List γ) (j : Nat) (k : List γ → β) : without l j k = k (l.take j ++ l.drop (j + 1)) := by
  unfold E.without
  rw [takeR_eq, appR_eq, dropR_eq]
theorem ok_opLookup (tb : Tab) (t : Nat) (ok : Bool) (x i : DV) : Ok (opLookup tb t ok x i) := by
  unfold E.opLookup
  simp only [mapR_eq, seqD_eq]
  repeat' (first | with_reducible exact Ok.fail | with_reducible exact ok_whole _ _ | with_reducible exact ok_found _ _ _ | with_reducible exact Ok.rd _ | with_reducible refine Ok.cond ?_ ?_ | with_reducible refine Ok.opt ?_ fun _ => ?_ | with_reducible refine Ok.bind ?_ fun _ => ?_ | split)
theorem ok_opMapUpdate (tb : Tab) (t : Nat) (m k x : DV) : Ok (opMapUpdate tb t m k x) := by
  unfold E.opMapUpdate
  simp only [appR_eq, takeR_eq, seqN_eq]
  repeat' (first | with_reducible exact Ok.fail | with_reducible exact Ok.pur _ | with_reducible exact Ok.rd _ | with_reducible exact Ok.wr _ _ | with_reducible refine Ok.cond ?_ ?_ | with_reducible refine Ok.bind ?_ fun _ => ?_ | split)
theorem ok_opDelete (tb : Tab) (t : Nat) (m k : DV) : Ok (opDelete tb t m k) := by
  unfold E.opDelete
  simp only [without_eq]
  repeat' (first | with_reducible exact Ok.fail | with_reducible exact Ok.pur _ | with_reducible exact Ok.rd _ | with_reducible exact Ok.wr _ _ | with_reducible refine Ok.cond ?_ ?_ | with_reducible refine Ok.bind ?_ fun _ => ?_ | split)
theorem ok_opRange (tb : Tab) (t : Nat) (x : DV) : Ok (opRange tb t x) := by
  unfold E.opRange
  repeat' (first | with_reducible exact Ok.fail | with_reducible exact Ok.pur _ | with_reducible exact Ok.rd _ | with_reducible exact Ok.new _ | with_reducible refine Ok.bind ?_ fun _ => ?_ | split)
theorem ok_opNext (it : DV) : Ok (opNext it) := by
  unfold E.opNext
  simp only [appR_eq]
  repeat' (first | with_reducible exact Ok.fail | with_reducible exact Ok.pur _ | with_reducible exact Ok.rd _ | with_reducible exact Ok.wr _ _ | with_reducible refine Ok.cond ?_ ?_ | with_reducible refine Ok.bind ?_ fun _ => ?_ | split)
theorem ok_opEntry (it : DV) : Ok (opEntry it) := by
  unfold E.opEntry
  repeat' (first | with_reducible exact Ok.fail | with_reducible exact Ok.pur _ | with_reducible exact Ok.rd _ | with_reducible refine Ok.cond ?_ ?_ | with_reducible refine Ok.bind ?_ fun _ => ?_ | split)
theorem ok_source (tb : Tab) (t sz : Nat) (x : DV) (k : Nat → List DV → M DV) (hk : ∀ n l, Ok (k n l)) : Ok (source tb t sz x k) := by
  unfold E.source
  simp only [mapR_eq]
  repeat' (first | with_reducible exact Ok.fail | with_reducible exact hk _ _ | with_reducible exact ok_loadC _ _ _ _ | with_reducible refine Ok.cond ?_ ?_ | with_reducible refine Ok.bind ?_ fun _ => ?_ | split)
theorem ok_grow (n e i sz len lx : Nat) (xs : List DV) : Ok (grow n e i sz len lx xs) := by
  unfold E.grow
  simp only [seqN_eq, appR_eq]
  repeat' (first | with_reducible exact Ok.fail | with_reducible exact Ok.pur _ | with_reducible exact Ok.rd _ | with_reducible exact Ok.wr _ _ | with_reducible exact ok_storeC _ _ _ _ | with_reducible refine Ok.cond ?_ ?_ | with_reducible refine Ok.bind ?_ fun _ => ?_ | split)
theorem ok_opAppend (tb : Tab) (t t' : Nat) (s x : DV) : Ok (opAppend tb t t' s x) := by
  unfold E.opAppend
  simp only [seqN_eq, appR_eq]
  repeat' (first | with_reducible exact Ok.fail | with_reducible exact Ok.pur _ | with_reducible exact ok_newRow _ | with_reducible exact ok_storeC _ _ _ _ | with_reducible exact ok_loadC _ _ _ _ | with_reducible exact ok_grow _ _ _ _ _ _ _ | with_reducible refine Ok.cond ?_ ?_ | with_reducible refine Ok.opt ?_ fun _ => ?_ | with_reducible refine Ok.bind ?_ fun _ => ?_ | with_reducible refine ok_source _ _ _ _ _ fun _ _ => ?_ | split)
theorem ok_opCopy (tb : Tab) (t t' : Nat) (d x : DV) : Ok (opCopy tb t t' d x) := by
  unfold E.opCopy
  simp only [seqN_eq, takeR_eq]
  repeat' (first | with_reducible exact Ok.fail | with_reducible exact Ok.pur _ | with_reducible exact ok_storeC _ _ _ _ | with_reducible refine Ok.cond ?_ ?_ | with_reducible refine Ok.bind ?_ fun _ => ?_ | with_reducible refine ok_source _ _ _ _ _ fun _ _ => ?_ | split)
def putT : Fr → Option Nat → DV → Fr
  | tm, none, _ => tm
  | .mk l m, some x, v => .mk (.cons x v l) m
theorem setT_eq {β : Type _} (tm : Fr) (dst : Option Nat) (v : DV) (k : Fr → β) : setT tm dst v k = k (putT tm dst v) := by
  obtain ⟨l, m⟩ := tm
  cases dst <;> rfl
noncomputable def saveT (V : Nat) : Loc → Tm → Tm
  | .nil, tm => tm
  | .cons t v r, tm => if bit V t = true then (saveT V r tm).put v t else saveT V r tm
theorem save_eq {β : Type} (V : Nat) (l : Loc) : ∀ (tm : Tm) (k : Tm → β), l.save V tm k = k (saveT V l tm) := by
  induction l with
  | nil => intro tm k; rfl
  | cons t v r ih =>
    intro tm k
    show r.save V tm (fun tm' => (Bool.rec (k tm') (tm'.set v t k) (bit V t) : β)) = _
    rw [ih, saveT]
    cases h : bit V t with
    | false => rfl
    | true => rw [if_pos rfl]; exact Tm.set_eq _ _ _ _
section
variable {tb : Tab} {call : Nat → List DV → M DV} (hc : ∀ f args, Ok (call f args))
include hc
theorem ok_evCall (tm : Fr) (c : Call) : Ok (evCall tb call tm c) := by
  unfold E.evCall
  simp only [evals, seqD_eq, mapR_eq, seqLD_eq]
  repeat' (first | with_reducible exact Ok.fail | with_reducible exact Ok.outer (hc _ _) | with_reducible exact ok_opLen _ _ _ | with_reducible exact ok_opAppend _ _ _ _ _ | with_reducible exact ok_opCopy _ _ _ _ _ | with_reducible exact ok_opDelete _ _ _ _ | with_reducible exact ok_orNf _ | split)
theorem ok_evOp (o : Op) (tm : Fr) : Ok (evOp o tb call tm) := by
  cases o
  case move x => show Ok (seqD (eval tm x) E.pur); rw [seqD_eq]; exact Ok.pur _
  case assign x => show Ok (seqD (eval tm x) E.pur); rw [seqD_eq]; exact Ok.pur _
  case pick c a b =>
    show Ok (evPick c a b tb call tm)
    unfold evPick
    simp only [seqD_eq]
    repeat' (first | with_reducible exact Ok.fail | with_reducible exact Ok.pur _ | with_reducible refine Ok.cond ?_ ?_ | split)
  case alloc t =>
    show Ok (evAlloc t tb call tm)
    unfold evAlloc
    simp only [mapR_eq, seqLD_eq]
    repeat' (first | with_reducible exact Ok.fail | with_reducible exact Ok.pur _ | with_reducible exact ok_newRow _ | with_reducible refine Ok.cond ?_ ?_ | with_reducible refine Ok.bind ?_ fun _ => ?_ | split)
  case box t x =>
    show Ok (evBox t x tb call tm)
    unfold evBox
    simp only [seqN_eq, seqLD_eq]
    exact Ok.bind (ok_newRow _) fun _ => Ok.pur _
  case build t ps => exact ok_opBuild _ _ _
  case buildSlice t l ps => exact ok_opBuildSlice _ _ _ _
  case load t a => show Ok (seqD (eval tm a) (opLoad tb t)); rw [seqD_eq]; exact ok_opLoad _ _ _
  case store t a x => show Ok (seqD (eval tm a) fun a => seqD (eval tm x) (opStore tb t a)); rw [seqD_eq, seqD_eq]; exact ok_opStore _ _ _ _
  case nilCheck x =>
    show Ok (evNil x tb call tm)
    unfold evNil
    repeat' (first | with_reducible exact Ok.fail | with_reducible exact Ok.pur _ | split)
  case binOp op t x y u => show Ok (seqD (eval tm x) fun x => seqD (eval tm y) fun y => orNf (bin tb op t x y)); rw [seqD_eq, seqD_eq]; exact ok_orNf _
  case unOp op t x =>
    show Ok (evUn op t x tb call tm)
    unfold evUn
    simp only [seqB_eq]
    repeat' (first | with_reducible exact Ok.fail | with_reducible exact Ok.pur _ | split)
  case convert s t x => show Ok (seqD (eval tm x) fun x => opConvert tb s t x); rw [seqD_eq]; exact ok_opConvert _ _ _ _
  case makeFunc f a b =>
    show Ok (evMakeFunc f a b tb call tm)
    unfold evMakeFunc
    simp only [evals, mapR_eq, seqLD_eq]
    repeat' (first | with_reducible exact Ok.fail | with_reducible exact Ok.pur _ | split)
  case makeMap t r =>
    show Ok (evMakeMapOf t r tb call tm)
    unfold evMakeMapOf evMakeMap
    repeat' (first | with_reducible exact Ok.fail | with_reducible exact Ok.pur _ | with_reducible exact Ok.new _ | with_reducible refine Ok.bind ?_ fun _ => ?_ | split)
  case lookup t x i ok => show Ok (seqD (eval tm x) fun x => seqD (eval tm i) fun i => opLookup tb t ok x i); rw [seqD_eq, seqD_eq]; exact ok_opLookup _ _ _ _ _
  case mapUpdate t m k x => show Ok (seqD (eval tm m) fun m => seqD (eval tm k) fun k => seqD (eval tm x) fun x => opMapUpdate tb t m k x); rw [seqD_eq, seqD_eq, seqD_eq]; exact ok_opMapUpdate _ _ _ _ _
  case range t x => show Ok (seqD (eval tm x) fun x => opRange tb t x); rw [seqD_eq]; exact ok_opRange _ _ _
  case next it str =>
    show Ok (Bool.rec (seqD (eval tm it) opNext) fail str)
    rw [seqD_eq]
    exact Ok.bool (ok_opNext _) Ok.fail
  case entry it => show Ok (seqD (eval tm it) opEntry); rw [seqD_eq]; exact ok_opEntry _
  case makeSlice t l c => show Ok (seqD (eval tm l) fun l => seqD (eval tm c) fun c => opMakeSlice tb t l c); rw [seqD_eq, seqD_eq]; exact ok_opMakeSlice _ _ _ _
  case slice t x l h m => show Ok (seqD (eval tm x) fun x => opSlice tb t x (l.map (eval tm)) (h.map (eval tm)) (m.map (eval tm))); rw [seqD_eq]; exact ok_opSlice _ _ _ _ _ _
  case fieldAddr t x f => show Ok (seqD (eval tm x) fun x => opFieldAddr tb t x f); rw [seqD_eq]; exact ok_opFieldAddr _ _ _ _
  case field t x f => show Ok (seqD (eval tm x) fun x => opField tb t x f); rw [seqD_eq]; exact ok_opField _ _ _ _
  case indexAddr t x i => show Ok (seqD (eval tm x) fun x => seqD (eval tm i) fun i => opIndexAddr tb t x i); rw [seqD_eq, seqD_eq]; exact ok_opIndexAddr _ _ _ _
  case index t x i => show Ok (seqD (eval tm x) fun x => seqD (eval tm i) fun i => opIndex tb t x i); rw [seqD_eq, seqD_eq]; exact ok_opIndex _ _ _ _
  case extract x i =>
    show Ok (evExtract x i tb call tm)
    unfold evExtract
    repeat' (first | with_reducible exact Ok.fail | with_reducible exact ok_orFail _ | split)
  case call c => exact ok_evCall hc tm c
  all_goals exact Ok.fail
omit hc in
theorem evOper_eq (ops : List Oper) (o : Oper) (tm : Fr) : evOper tb call ops o tm = (match wants ops tm o with
    | none => fail
    | some true => bind (evOp o.op tb call tm) fun v => E.pur (putT tm o.dst v)
    | some false => E.pur (putT tm o.dst (.tup []))) := by
  funext σ k
  show (Option.rec none (fun b => Bool.rec (setT tm o.dst (.tup []) fun tm => k tm σ) (E.evOp o.op tb call tm σ fun v σ' => setT tm o.dst v fun tm => k tm σ') b) (wants ops tm o) : Ans) = _
  cases wants ops tm o with
  | none => rfl
  | some b =>
    cases b with
    | false => show setT tm o.dst (.tup []) (fun tm => k tm σ) = _; rw [setT_eq]; rfl
    | true =>
      show E.evOp o.op tb call tm σ _ = E.evOp o.op tb call tm σ _
      congr 1
      funext v σ'
      rw [setT_eq]; rfl
theorem ok_evOper (ops : List Oper) (o : Oper) (tm : Fr) : Ok (evOper tb call ops o tm) := by
  rw [evOper_eq]
  split
  · exact Ok.fail
  · exact (ok_evOp hc _ _).bind fun _ => Ok.pur _
  · exact Ok.pur _
theorem ok_evOps (ops : List Oper) : ∀ (r : List Oper) (tm : Fr), Ok (evOps tb call ops r tm)
  | [], tm => Ok.pur tm
  | o :: r, tm => (ok_evOper hc ops o tm).bind fun tm' => ok_evOps ops r tm'
omit hc in
theorem addFoot_eq {β : Type _} (i c c' : Nat) (R W : List Nat) (fs : List Foot) (k : List Foot → β) : ∃ fs', (∀ k : List Foot → β, addFoot i c c' R W fs k = k fs') ∧ (fs' = .mk i c c' R W :: fs ∨ (fs' = fs ∧ c = c' ∧ R = [])) := by
  unfold addFoot
  cases h : Nat.beq c c' with
  | false => exact ⟨_, fun k => rfl, .inl rfl⟩
  | true =>
    cases R with
    | nil => exact ⟨_, fun k => rfl, .inr ⟨rfl, Nat.eq_of_beq_eq_true h, rfl⟩⟩
    | cons a r => exact ⟨_, fun k => rfl, .inl rfl⟩
theorem ok_drawOps (ops : List Oper) : ∀ (r : List Oper) (ps : List Nat) (i : Nat) (fs : List Foot) (tm : Fr), Ok (drawOps tb call ops r ps i fs tm)
  | [], ps, i, fs, tm => Ok.pur tm
  | o :: r, [], i, fs, tm => Ok.fail
  | o :: r, p :: ps, i, fs, tm => by
    have h1 : Ok (probe (evOper tb call ops o tm)) := (ok_evOper hc ops o tm).probe
    refine Ok.bind h1 (f := fun d => Did.rec (fun tm' c c' R' W' => (Bool.rec fail (addFoot i c c' R' W' fs fun fs' => drawOps tb call ops r ps (Nat.succ i) fs' tm') (apart p R' W' fs) : M Fr)) d) fun d => ?_
    obtain ⟨tm', c, c', R, W⟩ := d
    show Ok (Bool.rec fail (addFoot i c c' R W fs fun fs' => drawOps tb call ops r ps (Nat.succ i) fs' tm') (apart p R W fs) : M Fr)
    refine Ok.bool Ok.fail ?_
    obtain ⟨fs', h, -⟩ := addFoot_eq i c c' R W fs fun fs' => drawOps tb call ops r ps (Nat.succ i) fs' tm'
    rw [h]
    exact ok_drawOps ops r ps _ _ _
omit hc in
theorem ok_next (o : Out) (f : Tm → M Out) (hf : ∀ tm, Ok (f tm)) : Ok (next o f) := by
  obtain ⟨e, tm⟩ := o
  cases e
  · exact hf tm
  · exact Ok.pur _
  · exact Ok.pur _
omit hc in
theorem ok_unblock (id : Nat) (o : Out) : Ok (unblock id o) := by
  obtain ⟨e, tm⟩ := o
  cases e
  · exact Ok.pur _
  · exact Ok.cond (Ok.pur _) (Ok.pur _)
  · exact Ok.pur _
omit hc in
theorem ok_iter (body : Tm → M Out) (hb : ∀ tm, Ok (body tm)) : ∀ (k : Nat) (tm : Tm), Ok (iter body k tm)
  | 0, tm => Ok.fail
  | k + 1, tm => (hb tm).bind fun o => ok_next o _ fun tm => ok_iter body hb k tm
omit hc in
theorem evRegion_eq (V : Nat) (ops : List Oper) (draw : Bool) (tm : Tm) : evRegion tb call V ops draw tm = bind (if draw = true then (if still ops = true then drawOps tb call ops ops (pres ops []) 0 [] (.mk .nil tm) else fail) else evOps tb call ops ops (.mk .nil tm)) fun fr => E.pur ⟨.normal, match fr with | .mk l m => saveT V l m⟩ := by
  funext σ k
  have hk : (fun (tm' : Fr) (σ : Sto) => (Fr.rec (fun l m => l.save V m fun m' => k ⟨.normal, m'⟩ σ) tm' : Ans)) = fun fr σ => k ⟨.normal, match fr with | .mk l m => saveT V l m⟩ σ := by
    funext fr σ
    obtain ⟨l, m⟩ := fr
    exact save_eq V l m _
  unfold evRegion
  rw [hk]
  cases draw with
  | false => rfl
  | true =>
    rw [if_pos rfl]
    cases still ops with
    | false => rfl
    | true => rfl
theorem ok_evRegion (V : Nat) (ops : List Oper) (draw : Bool) (tm : Tm) : Ok (evRegion tb call V ops draw tm) := by
  rw [evRegion_eq]
  refine Ok.bind ?_ fun _ => Ok.pur _
  split
  · split
    · exact ok_drawOps hc _ _ _ _ _ _
    · exact Ok.fail
  · exact ok_evOps hc _ _ _
omit hc in
theorem ok_evCond (tm : Tm) (x : Operand) (a b : M Out) (ha : Ok a) (hb : Ok b) : Ok (evCond tm x a b) := by
  unfold E.evCond
  split
  · exact Ok.bool hb ha
  · exact Ok.fail
theorem ok_evCode (fuel V : Nat) (x : Code) : ∀ tm, Ok (evCode tb call fuel V x tm) := by
  induction x with
  | skip => intro tm; exact Ok.pur _
  | region id ops draw => intro tm; exact ok_evRegion hc _ _ _ _
  | seq a b ha hb => intro tm; exact (ha tm).bind fun o => ok_next o _ hb
  | cond c a b ha hb => intro tm; exact ok_evCond _ _ _ _ (ha tm) (hb tm)
  | block id b hb => intro tm; exact (hb tm).bind fun o => ok_unblock _ _
  | loop b hb => intro tm; exact ok_iter _ hb _ _
  | exit id => intro tm; exact Ok.pur _
  | ret => intro tm; exact Ok.pur _
  | label l => intro tm; exact Ok.pur _
  | _ => intro tm; exact Ok.fail
omit hc in
theorem ok_resultOf (tm : Tm) (r : ResultVar) : Ok (resultOf tb tm r) := by
  cases r with
  | tmp t => show Ok (seqD (tm.get t) E.pur); rw [seqD_eq]; exact Ok.pur _
  | cell a t => show Ok (seqD (tm.get a) (opLoad tb t)); rw [seqD_eq]; exact ok_opLoad _ _ _
omit hc in
theorem ok_resultsOf (tm : Tm) : ∀ l : List ResultVar, Ok (resultsOf tb tm l)
  | [] => Ok.pur _
  | r :: rs => (ok_resultOf tm r).bind fun v => (ok_resultsOf tm rs).bind fun vs => Ok.pur _
omit hc in
theorem ok_results (fn : Func) (o : Out) : Ok (results tb fn o) := by
  unfold E.results
  simp only [seqD_eq]
  split
  · exact Ok.fail
  · exact (ok_resultsOf _ _).bind fun _ => Ok.pur _
end
theorem lay_eq {β : Type} (args : List DV) : ∀ (i : Nat) (t : Tm) (k : Tm → β), ∃ t', Tm.lay args i t k = k t' := by
  induction args with
  | nil => intro i t k; exact ⟨t, rfl⟩
  | cons a r ih =>
    intro i t k
    show ∃ t', t.set a i (fun t' => seqN (Nat.succ i) fun i' => Tm.lay r i' t' k) = k t'
    rw [Tm.set_eq, seqN_eq]
    exact ih _ _ _
theorem ok_enter {tb : Tab} {call : Nat → List DV → M DV} (hc : ∀ f args, Ok (call f args)) (fuel : Nat) (args : List DV) (V : Nat) (fn : Func) : Ok (enter tb call fuel args V fn) := by
  unfold E.enter
  split
  · exact Ok.fail
  · refine Ok.cond ?_ Ok.fail
    rename_i b _
    obtain ⟨t', h⟩ := lay_eq args 0 (Tm.blank 10) fun tm => bind (E.evCode tb call fuel V b tm) (E.results tb fn)
    rw [h]
    exact (ok_evCode hc _ _ _ _).bind fun o => ok_results _ _
theorem ok_evFn {tb : Tab} (hp : ∀ f g, look tb.prim f = some g → ∀ args, Ok (g args)) (fuel : Nat) : ∀ (n f : Nat) (args : List DV), Ok (evFn tb fuel n f args)
  | 0, f, args => Ok.fail
  | n + 1, f, args => by
    show Ok (Option.rec (Option.rec E.fail (fun p => Prod.rec (fun V fn => E.enter tb (E.evFn tb fuel n) fuel args V fn) p) (look tb.fn f)) (fun g => g args) (look tb.prim f) : M DV)
    cases h : look tb.prim f with
    | some g => exact hp f g h args
    | none =>
      show Ok (Option.rec E.fail (fun p => Prod.rec (fun V fn => E.enter tb (E.evFn tb fuel n) fuel args V fn) p) (look tb.fn f) : M DV)
      cases look tb.fn f with
      | none => exact Ok.fail
      | some p => exact ok_enter (ok_evFn hp fuel n) _ _ _ _
end Go.E
end
section
namespace Go.E
open Go Go.RowKit
structure Blk where
  b : Nat
  sh : Nat
  cap : Nat
  ext : Nat
abbrev Gh := Nat → Nat → Option Blk
def Gh.le (G G' : Gh) : Prop := ∀ n e B, G n e = some B → G' n e = some B
theorem Gh.le.refl (G : Gh) : G.le G := fun _ _ _ h => h
theorem Gh.le.trans {G G' G'' : Gh} (h : G.le G') (h' : G'.le G'') : G.le G'' := fun n e B hb => h' n e B (h n e B hb)
mutual
/-- The value that data stand for. -/
def Rep (G : Gh) : DV → Value → Prop
  | .lit v, w => w = v
  | .int k n, w => w = .int k n
  | .bool b, w => w = .bool b
  | .str l, w => ∃ s : ByteArray, w = .string s ∧ s.data.toList.map UInt8.toNat = l
  | .ptr n e o k, w => ∃ B, G n e = some B ∧ w = .pointer (some ⟨B.b, o - B.sh, none⟩) ∧ B.sh ≤ o ∧ o + k ≤ B.ext
  | .sl n e i sz len lim, w => ∃ B a c, G n e = some B ∧ w = .slice (some a) len c ∧ 1 ≤ sz ∧ len ≤ c ∧ B.sh ≤ i * sz ∧ (i + len) * sz ≤ B.ext ∧
      (c = 0 ∨ a = ⟨B.b, i * sz - B.sh, none⟩) ∧ i * sz - B.sh + c * sz ≤ B.cap ∧ (lim = none → i * sz - B.sh + c * sz = B.cap) ∧ (∀ x, lim = some x → c = x)
  | .map n, w => ∃ B, G n 0 = some B ∧ w = .map (some B.b)
  | .fn f fs cs, w => ∃ us vs, w = .func (.func f) (List.toArray us) (List.toArray vs) ∧ Reps G fs us ∧ Reps G cs vs
  | .agg cs, w => ∃ vs, w = .agg (List.toArray vs) ∧ Reps G cs vs
  | .tup cs, w => ∃ vs, w = .tuple (List.toArray vs) ∧ Reps G cs vs
  | .row _ _ _ _, _ => False
  | .ents _ _ _ _, _ => False
  | .iter _ _ _ _ _, _ => False
  | .none, _ => True
def Reps (G : Gh) : List DV → List Value → Prop
  | [], vs => vs = []
  | d :: ds, vs => ∃ v r, vs = v :: r ∧ Rep G d v ∧ Reps G ds r
end
mutual
theorem Rep.mono {G G' : Gh} (h : G.le G') : ∀ {d : DV} {v : Value}, Rep G d v → Rep G' d v
  | .lit _, _, hr => by simpa only [Rep] using hr
  | .int _ _, _, hr => by simpa only [Rep] using hr
  | .bool _, _, hr => by simpa only [Rep] using hr
  | .str _, _, hr => by simpa only [Rep] using hr
  | .ptr _ _ _ _, _, hr => by
    rw [Rep] at hr ⊢
    obtain ⟨B, h1, h2⟩ := hr
    exact ⟨B, h _ _ _ h1, h2⟩
  | .sl _ _ _ _ _ _, _, hr => by
    rw [Rep] at hr ⊢
    obtain ⟨B, a, c, h1, h2⟩ := hr
    exact ⟨B, a, c, h _ _ _ h1, h2⟩
  | .map _, _, hr => by
    rw [Rep] at hr ⊢
    obtain ⟨B, h1, h2⟩ := hr
    exact ⟨B, h _ _ _ h1, h2⟩
  | .fn _ _ _, _, hr => by
    rw [Rep] at hr ⊢
    obtain ⟨us, vs, h1, h2, h3⟩ := hr
    exact ⟨us, vs, h1, Reps.mono h h2, Reps.mono h h3⟩
  | .agg _, _, hr => by
    rw [Rep] at hr ⊢
    obtain ⟨vs, h1, h2⟩ := hr
    exact ⟨vs, h1, Reps.mono h h2⟩
  | .tup _, _, hr => by
    rw [Rep] at hr ⊢
    obtain ⟨vs, h1, h2⟩ := hr
    exact ⟨vs, h1, Reps.mono h h2⟩
  | .row _ _ _ _, _, hr => by simp only [Rep] at hr
  | .ents _ _ _ _, _, hr => by simp only [Rep] at hr
  | .iter _ _ _ _ _, _, hr => by simp only [Rep] at hr
  | .none, _, hr => by rw [Rep]; trivial
theorem Reps.mono {G G' : Gh} (h : G.le G') : ∀ {l : List DV} {vs : List Value}, Reps G l vs → Reps G' l vs
  | [], _, hr => by simpa only [Reps] using hr
  | _ :: _, _, hr => by
    rw [Reps] at hr ⊢
    obtain ⟨v, r, h1, h2, h3⟩ := hr
    exact ⟨v, r, h1, Rep.mono h h2, Reps.mono h h3⟩
end
theorem Reps.nil {G : Gh} : Reps G [] [] := by rw [Reps]
theorem Reps.cons {G : Gh} {d : DV} {v : Value} {l : List DV} {vs : List Value} (h : Rep G d v) (h' : Reps G l vs) : Reps G (d :: l) (v :: vs) := by
  rw [Reps]; exact ⟨v, vs, rfl, h, h'⟩
theorem Reps.nil_iff {G : Gh} {vs : List Value} : Reps G [] vs ↔ vs = [] := by rw [Reps]
theorem Reps.cons_iff {G : Gh} {d : DV} {l : List DV} {vs : List Value} : Reps G (d :: l) vs ↔ ∃ v r, vs = v :: r ∧ Rep G d v ∧ Reps G l r := by rw [Reps]
theorem Reps.length {G : Gh} : ∀ {l : List DV} {vs : List Value}, Reps G l vs → vs.length = l.length
  | [], _, h => by rw [Reps.nil_iff] at h; rw [h]; rfl
  | _ :: l, _, h => by
    obtain ⟨v, r, rfl, h1, h2⟩ := Reps.cons_iff.1 h
    simp [Reps.length h2]
theorem Reps.get {G : Gh} : ∀ {l : List DV} {vs : List Value}, Reps G l vs → ∀ {j : Nat} {d : DV}, l[j]? = some d → ∃ v, vs[j]? = some v ∧ Rep G d v
  | [], _, h, j, d, hd => by simp at hd
  | a :: l, _, h, j, d, hd => by
    obtain ⟨v, r, rfl, h1, h2⟩ := Reps.cons_iff.1 h
    cases j with
    | zero =>
      simp only [List.getElem?_cons_zero, Option.some.injEq] at hd
      subst hd
      exact ⟨v, rfl, h1⟩
    | succ j =>
      rw [List.getElem?_cons_succ] at hd
      obtain ⟨v', h3, h4⟩ := Reps.get h2 hd
      exact ⟨v', by rw [List.getElem?_cons_succ]; exact h3, h4⟩
theorem Reps.of_get {G : Gh} : ∀ {l : List DV} {vs : List Value}, vs.length = l.length → (∀ (j : Nat) d v, l[j]? = some d → vs[j]? = some v → Rep G d v) → Reps G l vs
  | [], vs, h, _ => by rw [Reps.nil_iff]; exact List.eq_nil_of_length_eq_zero h
  | a :: l, [], h, _ => by simp at h
  | a :: l, v :: vs, h, hg => Reps.cons (hg 0 a v rfl rfl) (Reps.of_get (by simpa using h) fun j d v' h1 h2 => hg (j + 1) d v' (by simpa using h1) (by simpa using h2))
theorem Reps.append {G : Gh} : ∀ {l l' : List DV} {vs vs' : List Value}, Reps G l vs → Reps G l' vs' → Reps G (l ++ l') (vs ++ vs')
  | [], _, _, _, h, h' => by rw [Reps.nil_iff] at h; subst h; exact h'
  | _ :: _, _, _, _, h, h' => by
    obtain ⟨v, r, rfl, h1, h2⟩ := Reps.cons_iff.1 h
    exact Reps.cons h1 (Reps.append h2 h')
theorem Reps.take {G : Gh} : ∀ {l : List DV} {vs : List Value} (n : Nat), Reps G l vs → Reps G (l.take n) (vs.take n)
  | [], _, n, h => by rw [Reps.nil_iff] at h; subst h; simp [Reps.nil]
  | _ :: _, _, 0, h => Reps.nil
  | _ :: _, _, n + 1, h => by
    obtain ⟨v, r, rfl, h1, h2⟩ := Reps.cons_iff.1 h
    exact Reps.cons h1 (Reps.take n h2)
theorem Reps.drop {G : Gh} : ∀ {l : List DV} {vs : List Value} (n : Nat), Reps G l vs → Reps G (l.drop n) (vs.drop n)
  | [], _, n, h => by rw [Reps.nil_iff] at h; subst h; simp [Reps.nil]
  | _ :: _, _, 0, h => h
  | _ :: _, _, n + 1, h => by
    obtain ⟨v, r, rfl, h1, h2⟩ := Reps.cons_iff.1 h
    exact Reps.drop n h2
theorem Rep.one {G : Gh} {d : DV} {v : Value} (h : Rep G d v) (h1 : one d = true) : v.oneCell' = true := by
  cases d <;> simp only [Rep] at h <;> first | (cases h1; done) | (subst h; exact h1) | (obtain ⟨s, rfl, -⟩ := h; rfl) | (obtain ⟨B, -, rfl, -⟩ := h; rfl) | (obtain ⟨B, a, c, -, rfl, -⟩ := h; rfl) | (obtain ⟨B, -, rfl⟩ := h; rfl) | (obtain ⟨us, vs, rfl, -⟩ := h; rfl) | exact h.elim | (cases h1)
def RowOk (G : Gh) (w : World) (n e m fz : Nat) (cs : List DV) : Prop :=
  m ≤ e ∧ fz ≤ cs.length ∧ ∀ e', m ≤ e' → e' ≤ e → ∃ B, G n e' = some B ∧ B.sh ≤ B.ext ∧ B.ext ≤ B.sh + B.cap ∧ (e' = e → B.ext = cs.length) ∧ (e' < e → B.ext ≤ fz) ∧
    (∃ arr el, w.heap[B.b]? = some (.cells arr el (0, 0)) ∧ arr.size = B.cap) ∧
    ∀ j d, cs[j]? = some d → B.sh ≤ j → j < B.ext → ∃ v, w.cell? ⟨B.b, j - B.sh, none⟩ = some v ∧ Rep G d v
def EntsOk (G : Gh) (ks vs : List DV) (bs : List Nat) (es : List MapEntry) : Prop := Reps G ks (es.map (·.key)) ∧ Reps G vs (es.map (·.val)) ∧ es.map (·.born) = bs
def ObjOk (G : Gh) (w : World) (n : Nat) : DV → Prop
  | .ents clk ks vs bs => ∃ B es, G n 0 = some B ∧ w.heap[B.b]? = some (.map es clk) ∧ EntsOk G ks vs bs es.toList ∧ ∀ b ∈ bs, b < clk
  | .iter nl m since seen last => ∃ B r, G n 0 = some B ∧ w.heap[B.b]? = some (.mapIter r since seen.toArray last) ∧ (nl = true → r = none) ∧ (nl = false → ∃ Bm, G m 0 = some Bm ∧ r = some Bm.b)
  | _ => True
theorem EntsOk.mono {G G' : Gh} {ks vs : List DV} {bs : List Nat} {es : List MapEntry} (h : EntsOk G ks vs bs es) (hG : G.le G') : EntsOk G' ks vs bs es := ⟨Reps.mono hG h.1, Reps.mono hG h.2.1, h.2.2⟩
theorem ObjOk.mono {G G' : Gh} {w w' : World} {n : Nat} {d : DV} (h : ObjOk G w n d) (hG : G.le G') (hw : ∀ B, G n 0 = some B → w'.heap[B.b]? = w.heap[B.b]?) : ObjOk G' w' n d := by
  cases d with
  | ents clk ks vs bs =>
    obtain ⟨B, es, h1, h2, h3, h4⟩ := h
    exact ⟨B, es, hG _ _ _ h1, (hw B h1).trans h2, h3.mono hG, h4⟩
  | iter nl m since seen last =>
    obtain ⟨B, r, h1, h2, h3, h4⟩ := h
    refine ⟨B, r, hG _ _ _ h1, (hw B h1).trans h2, h3, fun hn => ?_⟩
    obtain ⟨Bm, h5, h6⟩ := h4 hn
    exact ⟨Bm, hG _ _ _ h5, h6⟩
  | _ => trivial
def Held : DV → Nat → Prop
  | .row e _ _ _, e' => e' ≤ e
  | .ents _ _ _ _, e' => e' = 0
  | .iter _ _ _ _ _, e' => e' = 0
  | _, _ => False
structure Inv (B0 : Nat) (G : Gh) (c L : Nat) (s : Tm) (w : World) : Prop where
  full : Tm.Full depth s
  fresh : ∀ n, c ≤ n → n < L → s.get n = .none
  row : ∀ n e m fz cs, s.get n = .row e m fz cs → RowOk G w n e m fz cs
  obj : ∀ n, ObjOk G w n (s.get n)
  known : ∀ n e B, G n e = some B → B0 ≤ B.b ∧ B.b < w.heap.size ∧ Held (s.get n) e
  apart : ∀ n e B n' e' B', G n e = some B → G n' e' = some B' → B.b = B'.b → n = n' ∧ B.sh = B'.sh ∧ B.cap = B'.cap
end Go.E
end
section
namespace Go.E
open Go Go.RowKit
theorem setCell_block (w : World) (a : Addr) (v : Value) (b : Nat) {arr : Array Value} {el : TypeId} (h : w.heap[b]? = some (.cells arr el (0, 0))) : ∃ arr', (w.setCell a v).heap[b]? = some (.cells arr' el (0, 0)) ∧ arr'.size = arr.size := by
  simp only [World.setCell, Array.getElem?_modify]
  by_cases hb : a.block = b
  · rw [if_pos hb, h]
    refine ⟨_, rfl, ?_⟩
    split <;> simp
  · rw [if_neg hb, h]; exact ⟨arr, rfl, rfl⟩
theorem setCells_block (b' b : Nat) {el : TypeId} : ∀ (vs : List Value) (o : Nat) (w : World) {arr : Array Value}, w.heap[b]? = some (.cells arr el (0, 0)) → ∃ arr', (w.setCells b' o vs).heap[b]? = some (.cells arr' el (0, 0)) ∧ arr'.size = arr.size
  | [], o, w, arr, h => ⟨arr, h, rfl⟩
  | v :: r, o, w, arr, h => by
    obtain ⟨a1, h1, e1⟩ := setCell_block w ⟨b', o, none⟩ v b h
    obtain ⟨a2, h2, e2⟩ := setCells_block b' b r (o + 1) (w.setCell ⟨b', o, none⟩ v) h1
    exact ⟨a2, h2, e2.trans e1⟩
theorem setCells_below {B b : Nat} {a : World} (hb : B ≤ b) : ∀ (vs : List Value) (o : Nat) (w : World), Below B a w → Below B a (w.setCells b o vs)
  | [], o, w, h => h
  | v :: r, o, w, h => setCells_below hb r (o + 1) _ (h.setCell hb v)
theorem setCells_size (b : Nat) : ∀ (vs : List Value) (o : Nat) (w : World), (w.setCells b o vs).heap.size = w.heap.size
  | [], o, w => rfl
  | v :: r, o, w => by rw [World.setCells, setCells_size b r]; simp [World.setCell]
variable {B0 : Nat} {G : Gh} {c L : Nat} {s : Tm} {w : World}
theorem Inv.load (I : Inv B0 G c L s w) {n e m fz : Nat} {cs : List DV} (hs : s.get n = .row e m fz cs) {e' : Nat} (hm : m ≤ e') (he : e' ≤ e) {B : Blk} (hB : G n e' = some B) {o k : Nat} (ho : B.sh ≤ o) (hk : o + k ≤ B.ext) :
    ∃ vs, Reps G ((cs.drop o).take k) vs ∧ vs.length = k ∧ w.rangeAt B.b (o - B.sh) vs := by
  obtain ⟨-, -, hr⟩ := I.row n e m fz cs hs
  obtain ⟨B', hB', h1, h2, h3, h4, -, h5⟩ := hr e' hm he
  rw [hB] at hB'
  cases hB'
  have hlen : B.ext ≤ cs.length := by
    obtain ⟨-, hf, -⟩ := I.row n e m fz cs hs
    rcases Nat.lt_or_ge e' e with h | h
    · exact Nat.le_trans (h4 h) hf
    · exact Nat.le_of_eq (h3 (by omega))
  have hc : ∀ j, j < k → ∃ v d, cs[o + j]? = some d ∧ w.cell? ⟨B.b, o - B.sh + j, none⟩ = some v ∧ Rep G d v := fun j hj => by
    have hlt : o + j < cs.length := by omega
    obtain ⟨v, hv, hd⟩ := h5 (o + j) cs[o + j] (List.getElem?_eq_getElem hlt) (by omega) (by omega)
    exact ⟨v, cs[o + j], List.getElem?_eq_getElem hlt, by rw [show o - B.sh + j = o + j - B.sh by omega]; exact hv, hd⟩
  refine ⟨(List.range k).map fun j => (w.cell? ⟨B.b, o - B.sh + j, none⟩).getD undef, Reps.of_get ?_ fun j d v h6 h7 => ?_, by simp, fun j v h6 => ?_⟩
  · simp; omega
  · have hj : j < k := by
      have := (List.getElem?_eq_some_iff.1 h7).1
      simpa using this
    obtain ⟨v', d', h8, h9, h10⟩ := hc j hj
    rw [List.getElem?_take, if_pos hj, List.getElem?_drop] at h6
    rw [h8] at h6
    cases h6
    rw [List.getElem?_map, List.getElem?_range hj] at h7
    simp only [Option.map_some, h9, Option.getD_some, Option.some.injEq] at h7
    subst h7
    exact h10
  · have hj : j < k := by
      have := (List.getElem?_eq_some_iff.1 h6).1
      simpa using this
    obtain ⟨v', d', h8, h9, h10⟩ := hc j hj
    rw [List.getElem?_map, List.getElem?_range hj] at h6
    simp only [Option.map_some, h9, Option.getD_some, Option.some.injEq] at h6
    subst h6
    exact h9
theorem RowOk.old {G' : Gh} {w' : World} {n e m fz : Nat} {cs : List DV} (h : RowOk G w n e m fz cs) (hG : G.le G') (hw : ∀ e' B, G n e' = some B → w'.heap[B.b]? = w.heap[B.b]?) : RowOk G' w' n e m fz cs := by
  obtain ⟨h1, h2, h3⟩ := h
  refine ⟨h1, h2, fun e' hm he => ?_⟩
  obtain ⟨B, hB, a1, a2, a3, a4, ⟨arr, el, a5, a6⟩, a7⟩ := h3 e' hm he
  refine ⟨B, hG _ _ _ hB, a1, a2, a3, a4, ⟨arr, el, by rw [hw e' B hB]; exact a5, a6⟩, fun j d hd hj hj' => ?_⟩
  obtain ⟨v, hv, hr⟩ := a7 j d hd hj hj'
  exact ⟨v, by rw [World.cell?_of_block (w := w) (hw e' B hB)]; exact hv, hr.mono hG⟩
theorem Inv.drew (I : Inv B0 G c L s w) (k : Nat) : Inv B0 G c L s { w with drawn := k } := ⟨I.full, I.fresh, fun n e m fz cs h => I.row n e m fz cs h, I.obj, I.known, I.apart⟩
def Gh.put (G : Gh) (n e : Nat) (B : Blk) : Gh := fun n' e' => if n' = n ∧ e' = e then some B else G n' e'
theorem Gh.le_put {G : Gh} {n e : Nat} {B : Blk} (h : G n e = none) : G.le (G.put n e B) := fun n' e' B' hB => by
  unfold Gh.put
  split
  · rename_i hh; obtain ⟨rfl, rfl⟩ := hh; rw [h] at hB; cases hB
  · exact hB
theorem Gh.put_same (G : Gh) (n e : Nat) (B : Blk) : G.put n e B n e = some B := by unfold Gh.put; simp
theorem Gh.put_ne {G : Gh} {n e n' e' : Nat} {B : Blk} (h : ¬ (n' = n ∧ e' = e)) : G.put n e B n' e' = G n' e' := by unfold Gh.put; rw [if_neg h]
theorem Inv.allocObj (I : Inv B0 G c L s w) (hB0 : B0 ≤ w.heap.size) (hL : c < L) (hc : c + 1 < 2 ^ depth) (o : Obj) (cap ext : Nat) (d : DV) (hh : Held d 0) (hr : G.le (G.put c 0 ⟨w.heap.size, 0, cap, ext⟩) → ∀ e m fz cs, d = .row e m fz cs → RowOk (G.put c 0 ⟨w.heap.size, 0, cap, ext⟩) (w.alloc o) c e m fz cs)
    (ho : G.le (G.put c 0 ⟨w.heap.size, 0, cap, ext⟩) → ObjOk (G.put c 0 ⟨w.heap.size, 0, cap, ext⟩) (w.alloc o) c d) :
    Inv B0 (G.put c 0 ⟨w.heap.size, 0, cap, ext⟩) (c + 1) L (s.put d c) (w.alloc o) ∧ G.le (G.put c 0 ⟨w.heap.size, 0, cap, ext⟩) := by
  have hnone : ∀ e, G c e = none := fun e => by
    cases h : G c e with
    | none => rfl
    | some B =>
      obtain ⟨-, -, h'⟩ := I.known c e B h
      rw [I.fresh c (Nat.le_refl _) hL] at h'; exact h'.elim
  have hle : G.le (G.put c 0 ⟨w.heap.size, 0, cap, ext⟩) := Gh.le_put (hnone 0)
  have hlt : ∀ n e B, G n e = some B → n ≠ c := fun n e B h hh => by subst hh; rw [hnone] at h; cases h
  have hold : ∀ n e B, G n e = some B → (w.alloc o).heap[B.b]? = w.heap[B.b]? := fun n e B hB => Below.heap_alloc _ _ _ (I.known n e B hB).2.1
  refine ⟨⟨Tm.put_full _ _ _ _ I.full, fun n hn hnL => ?_, fun n e m fz cs' hn => ?_, fun n => ?_, fun n e B hB => ?_, fun n e B n' e' B' hB hB' hb => ?_⟩, hle⟩
  · rw [Tm.get_put_ite s I.full _ _ _ hc, if_neg (by omega)]; exact I.fresh n (by omega) hnL
  · rw [Tm.get_put_ite s I.full _ _ _ hc] at hn
    split at hn
    · rename_i hnc
      subst hnc
      exact hr hle e m fz cs' hn
    · exact (I.row n e m fz cs' hn).old hle fun e' B hB => hold n e' B hB
  · rw [Tm.get_put_ite s I.full _ _ _ hc]
    split
    · rename_i hnc
      subst hnc
      exact ho hle
    · exact (I.obj n).mono hle fun B hB => hold n 0 B hB
  · by_cases hh' : n = c ∧ e = 0
    · obtain ⟨rfl, rfl⟩ := hh'
      rw [Gh.put_same] at hB
      cases hB
      refine ⟨hB0, by show w.heap.size < (w.heap.push _).size; simp, ?_⟩
      rw [Tm.get_put_ite s I.full _ _ _ hc, if_pos rfl]; exact hh
    · rw [Gh.put_ne hh'] at hB
      obtain ⟨h1, h2, h3⟩ := I.known n e B hB
      refine ⟨h1, by show B.b < (w.heap.push _).size; simp; omega, ?_⟩
      rw [Tm.get_put_ite s I.full _ _ _ hc, if_neg (hlt n e B hB)]; exact h3
  · by_cases h1 : n = c ∧ e = 0
    · by_cases h2 : n' = c ∧ e' = 0
      · obtain ⟨rfl, rfl⟩ := h1
        obtain ⟨rfl, rfl⟩ := h2
        rw [hB] at hB'
        cases hB'
        exact ⟨rfl, rfl, rfl⟩
      · obtain ⟨rfl, rfl⟩ := h1
        rw [Gh.put_same] at hB
        rw [Gh.put_ne h2] at hB'
        cases hB
        have := (I.known n' e' B' hB').2.1
        simp only at hb; omega
    · by_cases h2 : n' = c ∧ e' = 0
      · obtain ⟨rfl, rfl⟩ := h2
        rw [Gh.put_same] at hB'
        rw [Gh.put_ne h1] at hB
        cases hB'
        have := (I.known n e B hB).2.1
        simp only at hb; omega
      · rw [Gh.put_ne h1] at hB
        rw [Gh.put_ne h2] at hB'
        exact I.apart n e B n' e' B' hB hB' hb
theorem Inv.alloc (I : Inv B0 G c L s w) (hB0 : B0 ≤ w.heap.size) (hL : c < L) (hc : c + 1 < 2 ^ depth) {cs : List DV} {vs more : List Value} (hr : Reps G cs vs) (el : TypeId) :
    Inv B0 (G.put c 0 ⟨w.heap.size, 0, (vs ++ more).length, cs.length⟩) (c + 1) L (s.put (.row 0 0 0 cs) c) (w.alloc (.cells (vs ++ more).toArray el)) ∧ G.le (G.put c 0 ⟨w.heap.size, 0, (vs ++ more).length, cs.length⟩) := by
  refine I.allocObj hB0 hL hc _ _ _ _ (Nat.zero_le _) (fun hle e m fz cs' hn => ?_) (fun _ => trivial)
  cases hn
  refine ⟨Nat.le_refl _, Nat.zero_le _, fun e' h1 h2 => ?_⟩
  obtain rfl : e' = 0 := by omega
  have hl := hr.length
  have hblk : (w.alloc (.cells (vs ++ more).toArray el)).heap[w.heap.size]? = some (.cells (vs ++ more).toArray el (0, 0)) := by show (w.heap.push _)[w.heap.size]? = _; simp
  refine ⟨_, Gh.put_same _ _ _ _, Nat.zero_le _, by simp; omega, fun _ => rfl, fun h => by omega, ⟨_, el, hblk, by simp⟩, fun j d hd hj hj' => ?_⟩
  obtain ⟨v, hv, hrep⟩ := hr.get hd
  refine ⟨v, ?_, hrep.mono hle⟩
  simp only [World.cell?, hblk]
  have hjl : j < vs.length := (List.getElem?_eq_some_iff.1 hv).1
  simp [List.getElem?_append_left hjl, hv]
end Go.E
end
section
namespace Go.E
open Go Go.RowKit
theorem setCells_other {b k : Nat} (hk : k ≠ b) : ∀ (vs : List Value) (o : Nat) (w : World), (w.setCells b o vs).heap[k]? = w.heap[k]?
  | [], o, w => rfl
  | v :: r, o, w => (setCells_other hk r (o + 1) _).trans (Below.heap_setCell w ⟨b, o, none⟩ v k hk)
variable {B0 : Nat} {G : Gh} {c L : Nat} {s : Tm} {w : World}
theorem cell_of_block {b o : Nat} {arr : Array Value} {el : TypeId} {fr : Nat × Nat} (h : w.heap[b]? = some (.cells arr el fr)) : w.cell? ⟨b, o, none⟩ = arr[o]? := by
  unfold World.cell?; rw [h]; rfl
theorem there_of_block {b o k : Nat} {arr : Array Value} {el : TypeId} (h : w.heap[b]? = some (.cells arr el (0, 0))) (hk : o + k ≤ arr.size) : w.there b o k := fun j hj => by
  refine ⟨?_, ?_⟩
  · rw [cell_of_block h, Array.getElem?_eq_getElem (by omega)]; rfl
  · unfold World.frozen?; rw [h]; simp
theorem Inv.cur (I : Inv B0 G c L s w) {n e m fz : Nat} {cs : List DV} (hs : s.get n = .row e m fz cs) : ∃ B, G n e = some B ∧ B.sh ≤ B.ext ∧ B.ext = cs.length ∧ B.ext ≤ B.sh + B.cap ∧ ∃ arr el, w.heap[B.b]? = some (.cells arr el (0, 0)) ∧ arr.size = B.cap := by
  obtain ⟨h1, h2, h3⟩ := I.row n e m fz cs hs
  obtain ⟨B, hB, a1, a2, a3, -, a5, -⟩ := h3 e h1 (Nat.le_refl _)
  exact ⟨B, hB, a1, a3 rfl, a2, a5⟩
theorem Inv.name_ne (I : Inv B0 G c L s w) {n e m fz : Nat} {cs : List DV} (hs : s.get n = .row e m fz cs) {n' : Nat} (hn : c ≤ n') (hL : n' < L) : n' ≠ n := by
  rintro rfl
  rw [I.fresh n' hn hL] at hs; cases hs
theorem Inv.store (I : Inv B0 G c L s w) {n e m fz : Nat} {cs : List DV} (hs : s.get n = .row e m fz cs) {B : Blk} (hB : G n e = some B) {o : Nat} {nw : List DV} {vs : List Value} (hr : Reps G nw vs)
    (ho : B.sh ≤ o) (hlen : o + nw.length ≤ cs.length) (hd : n + 1 < 2 ^ depth) :
    Inv B0 G c L (s.put (.row e (if fz ≤ o then m else e) fz (cs.take o ++ nw ++ cs.drop (o + nw.length))) n) (w.setCells B.b (o - B.sh) vs) ∧ w.there B.b (o - B.sh) vs.length := by
  obtain ⟨B', hB', b1, b2, b3, arr, el, b4, b5⟩ := I.cur hs
  rw [hB] at hB'; cases hB'
  have hvl := hr.length
  have hth : w.there B.b (o - B.sh) vs.length := there_of_block b4 (by omega)
  have hget : ∀ n', (s.put (.row e (if fz ≤ o then m else e) fz (cs.take o ++ nw ++ cs.drop (o + nw.length))) n).get n' = if n' = n then .row e (if fz ≤ o then m else e) fz (cs.take o ++ nw ++ cs.drop (o + nw.length)) else s.get n' := fun n' => Tm.get_put_ite s I.full _ _ _ hd
  have hcl : (cs.take o ++ nw ++ cs.drop (o + nw.length)).length = cs.length := by simp; omega
  have hlow : ∀ j, j < o → (cs.take o ++ nw ++ cs.drop (o + nw.length))[j]? = cs[j]? := fun j hj => by
    rw [List.append_assoc, List.getElem?_append_left (by simp; omega), List.getElem?_take, if_pos hj]
  have hhigh : ∀ j, o + nw.length ≤ j → (cs.take o ++ nw ++ cs.drop (o + nw.length))[j]? = cs[j]? := fun j hj => by
    have h1 : (cs.take o ++ nw).length = o + nw.length := by simp; omega
    rw [List.getElem?_append_right (by omega), h1, List.getElem?_drop]
    congr 1; omega
  have hmid : ∀ j, o ≤ j → j < o + nw.length → (cs.take o ++ nw ++ cs.drop (o + nw.length))[j]? = nw[j - o]? := fun j hj hj' => by
    have h1 : (cs.take o ++ nw).length = o + nw.length := by simp; omega
    have h2 : (cs.take o).length = o := by simp; omega
    rw [List.getElem?_append_left (by omega), List.getElem?_append_right (by omega), h2]
  refine ⟨⟨Tm.put_full _ _ _ _ I.full, fun n' hn hnL => ?_, fun n' e1 m1 fz1 cs1 hn => ?_, fun n' => ?_, fun n' e1 B1 hB1 => ?_, I.apart⟩, hth⟩
  · rw [hget, if_neg (I.name_ne hs hn hnL)]; exact I.fresh n' hn hnL
  · rw [hget] at hn
    split at hn
    · rename_i hnn
      subst hnn
      cases hn
      obtain ⟨r1, r2, r3⟩ := I.row n' e m fz cs hs
      have hm' : m ≤ if fz ≤ o then m else e := by split <;> omega
      refine ⟨by split <;> omega, by rw [hcl]; exact r2, fun e' hm he => ?_⟩
      obtain ⟨B', hB', a1, a2, a3, a4, ⟨arr', el', a5, a6⟩, a7⟩ := r3 e' (Nat.le_trans hm' hm) he
      obtain ⟨arr2, h1, h2⟩ := setCells_block B.b B'.b vs (o - B.sh) w a5
      refine ⟨B', hB', a1, a2, fun h => by rw [hcl]; exact a3 h, a4, ⟨arr2, el', h1, h2.trans a6⟩, fun j d hdj hj hj' => ?_⟩
      by_cases hj1 : j < o
      · rw [hlow j hj1] at hdj
        obtain ⟨v, hv, hrep⟩ := a7 j d hdj hj hj'
        refine ⟨v, ?_, hrep⟩
        rw [World.cell?_setCells_out B.b vs _ w _ (fun hb _ => ?_)]
        · exact hv
        · obtain ⟨-, hsh, -⟩ := I.apart _ _ _ _ _ _ hB' hB hb
          left; show j - B'.sh < o - B.sh; omega
      · have hee : e' = e := by
          rcases Nat.lt_or_ge e' e with h | h
          · have h4 := a4 h
            by_cases hfz : fz ≤ o
            · omega
            · rw [if_neg hfz] at hm; omega
          · omega
        subst hee
        rw [hB] at hB'; cases hB'
        by_cases hj2 : j < o + nw.length
        · rw [hmid j (by omega) hj2] at hdj
          obtain ⟨v, hv, hrep⟩ := hr.get hdj
          refine ⟨v, ?_, hrep⟩
          have := World.rangeAt_setCells_same w B.b (o - B.sh) vs hth (j - o) v hv
          rw [show o - B.sh + (j - o) = j - B.sh by omega] at this
          exact this
        · rw [hhigh j (by omega)] at hdj
          obtain ⟨v, hv, hrep⟩ := a7 j d hdj hj hj'
          refine ⟨v, ?_, hrep⟩
          rw [World.cell?_setCells_out B.b vs _ w _ (fun _ _ => by right; show o - B.sh + vs.length ≤ j - B.sh; omega)]
          exact hv
    · rename_i hnn
      refine (I.row n' e1 m1 fz1 cs1 hn).old (Gh.le.refl G) fun e' B' hB' => setCells_other (fun hb => ?_) _ _ _
      exact hnn (I.apart _ _ _ _ _ _ hB' hB hb).1
  · rw [hget]
    split
    · trivial
    · rename_i hnn
      exact (I.obj n').mono (Gh.le.refl G) fun B' hB' => setCells_other (fun hb => hnn (I.apart _ _ _ _ _ _ hB' hB hb).1) _ _ _
  · obtain ⟨h1, h2, h3⟩ := I.known n' e1 B1 hB1
    refine ⟨h1, by rw [setCells_size]; exact h2, ?_⟩
    rw [hget]
    by_cases hnn : n' = n
    · subst hnn
      rw [hs] at h3
      rw [if_pos rfl]
      exact h3
    · rw [if_neg hnn]; exact h3
theorem Inv.next_none (I : Inv B0 G c L s w) {n e m fz : Nat} {cs : List DV} (hs : s.get n = .row e m fz cs) : G n (e + 1) = none := by
  cases h : G n (e + 1) with
  | none => rfl
  | some B =>
    obtain ⟨-, -, h3⟩ := I.known n (e + 1) B h
    rw [hs] at h3
    have h3 : e + 1 ≤ e := h3
    omega
theorem Inv.growIn (I : Inv B0 G c L s w) {n e m fz : Nat} {cs : List DV} (hs : s.get n = .row e m fz cs) {B : Blk} (hB : G n e = some B) {nw : List DV} {vs : List Value} (hr : Reps G nw vs)
    (hroom : cs.length - B.sh + nw.length ≤ B.cap) (hd : n + 1 < 2 ^ depth) :
    Inv B0 (G.put n (e + 1) ⟨B.b, B.sh, B.cap, cs.length + nw.length⟩) c L (s.put (.row (e + 1) m cs.length (cs ++ nw)) n) (w.setCells B.b (cs.length - B.sh) vs) ∧
    G.le (G.put n (e + 1) ⟨B.b, B.sh, B.cap, cs.length + nw.length⟩) ∧ w.there B.b (cs.length - B.sh) vs.length := by
  obtain ⟨B', hB', b1, b2, b3, arr, el, b4, b5⟩ := I.cur hs
  rw [hB] at hB'; cases hB'
  have hvl := hr.length
  have hth : w.there B.b (cs.length - B.sh) vs.length := there_of_block b4 (by omega)
  have hle : G.le (G.put n (e + 1) ⟨B.b, B.sh, B.cap, cs.length + nw.length⟩) := Gh.le_put (I.next_none hs)
  have hget : ∀ n', (s.put (.row (e + 1) m cs.length (cs ++ nw)) n).get n' = if n' = n then .row (e + 1) m cs.length (cs ++ nw) else s.get n' := fun n' => Tm.get_put_ite s I.full _ _ _ hd
  refine ⟨⟨Tm.put_full _ _ _ _ I.full, fun n' hn hnL => ?_, fun n' e1 m1 fz1 cs1 hn => ?_, fun n' => ?_, fun n' e1 B1 hB1 => ?_, fun n1 e1 B1 n2 e2 B2 hB1 hB2 hb => ?_⟩, hle, hth⟩
  · rw [hget, if_neg (I.name_ne hs hn hnL)]; exact I.fresh n' hn hnL
  · rw [hget] at hn
    split at hn
    · rename_i hnn
      subst hnn
      cases hn
      obtain ⟨r1, r2, r3⟩ := I.row n' e m fz cs hs
      refine ⟨by omega, by simp, fun e' hm he => ?_⟩
      have hcell : ∀ B' : Blk, (B'.b = B.b → B'.sh = B.sh) → ∀ j, B'.sh ≤ j → j < cs.length → (w.setCells B.b (cs.length - B.sh) vs).cell? ⟨B'.b, j - B'.sh, none⟩ = w.cell? ⟨B'.b, j - B'.sh, none⟩ := fun B' hsh j h1 h2 => by
        rw [World.cell?_setCells_out B.b vs _ w _ (fun hb _ => ?_)]
        have := hsh hb
        left; show j - B'.sh < cs.length - B.sh; omega
      by_cases hee : e' = e + 1
      · subst hee
        obtain ⟨arr2, h1, h2⟩ := setCells_block B.b B.b vs (cs.length - B.sh) w b4
        refine ⟨_, Gh.put_same _ _ _ _, by simp only; omega, by simp only; omega, fun _ => by simp, fun h => by omega, ⟨arr2, el, h1, h2.trans b5⟩, fun j d hdj hj hj' => ?_⟩
        simp only at hj hj' ⊢
        by_cases hj1 : j < cs.length
        · rw [List.getElem?_append_left hj1] at hdj
          obtain ⟨B', hB', -, -, -, -, -, a7⟩ := r3 e r1 (Nat.le_refl _)
          rw [hB] at hB'; cases hB'
          obtain ⟨v, hv, hrep⟩ := a7 j d hdj hj (by omega)
          exact ⟨v, by rw [hcell B (fun _ => rfl) j hj hj1]; exact hv, hrep.mono hle⟩
        · rw [List.getElem?_append_right (by omega)] at hdj
          obtain ⟨v, hv, hrep⟩ := hr.get hdj
          refine ⟨v, ?_, hrep.mono hle⟩
          have := World.rangeAt_setCells_same w B.b (cs.length - B.sh) vs hth (j - cs.length) v hv
          rw [show cs.length - B.sh + (j - cs.length) = j - B.sh by omega] at this
          exact this
      · obtain ⟨B', hB', a1, a2, a3, a4, ⟨arr', el', a5, a6⟩, a7⟩ := r3 e' hm (by omega)
        obtain ⟨arr2, h1, h2⟩ := setCells_block B.b B'.b vs (cs.length - B.sh) w a5
        have hext : B'.ext ≤ cs.length := by
          rcases Nat.lt_or_ge e' e with h | h
          · exact Nat.le_trans (a4 h) r2
          · exact Nat.le_of_eq (a3 (by omega))
        refine ⟨B', hle _ _ _ hB', a1, a2, fun h => by omega, fun _ => hext, ⟨arr2, el', h1, h2.trans a6⟩, fun j d hdj hj hj' => ?_⟩
        rw [List.getElem?_append_left (by omega)] at hdj
        obtain ⟨v, hv, hrep⟩ := a7 j d hdj hj hj'
        exact ⟨v, by rw [hcell B' (fun hb => (I.apart _ _ _ _ _ _ hB' hB hb).2.1) j hj (by omega)]; exact hv, hrep.mono hle⟩
    · rename_i hnn
      refine (I.row n' e1 m1 fz1 cs1 hn).old hle fun e' B' hB' => setCells_other (fun hb => ?_) _ _ _
      exact hnn (I.apart _ _ _ _ _ _ hB' hB hb).1
  · rw [hget]
    split
    · trivial
    · rename_i hnn
      exact (I.obj n').mono hle fun B' hB' => setCells_other (fun hb => hnn (I.apart _ _ _ _ _ _ hB' hB hb).1) _ _ _
  · by_cases hh : n' = n ∧ e1 = e + 1
    · obtain ⟨rfl, rfl⟩ := hh
      rw [Gh.put_same] at hB1; cases hB1
      obtain ⟨h1, h2, -⟩ := I.known n' e B hB
      exact ⟨h1, by rw [setCells_size]; exact h2, by rw [hget, if_pos rfl]; exact Nat.le_refl _⟩
    · rw [Gh.put_ne hh] at hB1
      obtain ⟨h1, h2, h3⟩ := I.known n' e1 B1 hB1
      refine ⟨h1, by rw [setCells_size]; exact h2, ?_⟩
      rw [hget]
      by_cases hnn : n' = n
      · subst hnn
        rw [hs] at h3
        have h3 : e1 ≤ e := h3
        rw [if_pos rfl]
        show e1 ≤ e + 1
        omega
      · rw [if_neg hnn]; exact h3
  · by_cases h1 : n1 = n ∧ e1 = e + 1
    · obtain ⟨rfl, rfl⟩ := h1
      rw [Gh.put_same] at hB1; cases hB1
      by_cases h2 : n2 = n1 ∧ e2 = e + 1
      · obtain ⟨rfl, rfl⟩ := h2
        rw [Gh.put_same] at hB2; cases hB2
        exact ⟨rfl, rfl, rfl⟩
      · rw [Gh.put_ne h2] at hB2
        exact I.apart n1 e B n2 e2 B2 hB hB2 hb
    · rw [Gh.put_ne h1] at hB1
      by_cases h2 : n2 = n ∧ e2 = e + 1
      · obtain ⟨rfl, rfl⟩ := h2
        rw [Gh.put_same] at hB2; cases hB2
        exact I.apart n1 e1 B1 n2 e B hB1 hB hb
      · rw [Gh.put_ne h2] at hB2
        exact I.apart _ _ _ _ _ _ hB1 hB2 hb
theorem Inv.growNew (I : Inv B0 G c L s w) (hB0 : B0 ≤ w.heap.size) {n e m fz : Nat} {cs : List DV} (hs : s.get n = .row e m fz cs) {q : Nat} (hq : q ≤ cs.length) {nw : List DV} {olds vs more : List Value} (ho : Reps G (cs.drop q) olds) (hr : Reps G nw vs)
    (el : TypeId) (hd : n + 1 < 2 ^ depth) :
    Inv B0 (G.put n (e + 1) ⟨w.heap.size, q, (olds ++ vs ++ more).length, cs.length + nw.length⟩) c L (s.put (.row (e + 1) m cs.length (cs ++ nw)) n) (w.alloc (.cells (olds ++ vs ++ more).toArray el)) ∧
    G.le (G.put n (e + 1) ⟨w.heap.size, q, (olds ++ vs ++ more).length, cs.length + nw.length⟩) := by
  have hvl := hr.length
  have hol := ho.length
  rw [List.length_drop] at hol
  have hle : G.le (G.put n (e + 1) ⟨w.heap.size, q, (olds ++ vs ++ more).length, cs.length + nw.length⟩) := Gh.le_put (I.next_none hs)
  have hget : ∀ n', (s.put (.row (e + 1) m cs.length (cs ++ nw)) n).get n' = if n' = n then .row (e + 1) m cs.length (cs ++ nw) else s.get n' := fun n' => Tm.get_put_ite s I.full _ _ _ hd
  have hblk : (w.alloc (.cells (olds ++ vs ++ more).toArray el)).heap[w.heap.size]? = some (.cells (olds ++ vs ++ more).toArray el (0, 0)) := by show (w.heap.push _)[w.heap.size]? = _; simp
  have hold : ∀ n' e' B, G n' e' = some B → (w.alloc (.cells (olds ++ vs ++ more).toArray el)).heap[B.b]? = w.heap[B.b]? := fun n' e' B hB => Below.heap_alloc _ _ _ (I.known n' e' B hB).2.1
  refine ⟨⟨Tm.put_full _ _ _ _ I.full, fun n' hn hnL => ?_, fun n' e1 m1 fz1 cs1 hn => ?_, fun n' => ?_, fun n' e1 B1 hB1 => ?_, fun n1 e1 B1 n2 e2 B2 hB1 hB2 hb => ?_⟩, hle⟩
  · rw [hget, if_neg (I.name_ne hs hn hnL)]; exact I.fresh n' hn hnL
  · rw [hget] at hn
    split at hn
    · rename_i hnn
      subst hnn
      cases hn
      obtain ⟨r1, r2, r3⟩ := I.row n' e m fz cs hs
      refine ⟨by omega, by simp, fun e' hm he => ?_⟩
      by_cases hee : e' = e + 1
      · subst hee
        refine ⟨_, Gh.put_same _ _ _ _, by simp only; omega, by simp only [List.length_append]; omega, fun _ => by simp, fun h => by omega, ⟨_, el, hblk, by simp⟩, fun j d hdj hj hj' => ?_⟩
        simp only at hj hj' ⊢
        have hcat : Reps G (cs.drop q ++ nw) (olds ++ vs) := ho.append hr
        have hdj' : (cs.drop q ++ nw)[j - q]? = some d := by
          rw [← hdj]
          by_cases hj1 : j < cs.length
          · rw [List.getElem?_append_left (by rw [List.length_drop]; omega), List.getElem?_append_left hj1, List.getElem?_drop]
            congr 1; omega
          · rw [List.getElem?_append_right (by rw [List.length_drop]; omega), List.getElem?_append_right (by omega), List.length_drop]
            congr 1; omega
        obtain ⟨v, hv, hrep⟩ := hcat.get hdj'
        refine ⟨v, ?_, hrep.mono hle⟩
        rw [cell_of_block hblk]
        have hjl : j - q < (olds ++ vs).length := (List.getElem?_eq_some_iff.1 hv).1
        rw [List.getElem?_toArray, List.getElem?_append_left hjl]
        exact hv
      · obtain ⟨B', hB', a1, a2, a3, a4, ⟨arr', el', a5, a6⟩, a7⟩ := r3 e' hm (by omega)
        have hext : B'.ext ≤ cs.length := by
          rcases Nat.lt_or_ge e' e with h | h
          · exact Nat.le_trans (a4 h) r2
          · exact Nat.le_of_eq (a3 (by omega))
        refine ⟨B', hle _ _ _ hB', a1, a2, fun h => by omega, fun _ => hext, ⟨arr', el', by rw [hold _ _ _ hB']; exact a5, a6⟩, fun j d hdj hj hj' => ?_⟩
        rw [List.getElem?_append_left (by omega)] at hdj
        obtain ⟨v, hv, hrep⟩ := a7 j d hdj hj hj'
        exact ⟨v, by rw [World.cell?_of_block (w := w) (hold _ _ _ hB')]; exact hv, hrep.mono hle⟩
    · rename_i hnn
      exact (I.row n' e1 m1 fz1 cs1 hn).old hle fun e' B' hB' => hold _ _ _ hB'
  · rw [hget]
    split
    · trivial
    · exact (I.obj n').mono hle fun B' hB' => hold _ _ _ hB'
  · by_cases hh : n' = n ∧ e1 = e + 1
    · obtain ⟨rfl, rfl⟩ := hh
      rw [Gh.put_same] at hB1; cases hB1
      exact ⟨hB0, by show w.heap.size < (w.heap.push _).size; simp, by rw [hget, if_pos rfl]; exact Nat.le_refl _⟩
    · rw [Gh.put_ne hh] at hB1
      obtain ⟨h1, h2, h3⟩ := I.known n' e1 B1 hB1
      refine ⟨h1, by show B1.b < (w.heap.push _).size; simp; omega, ?_⟩
      rw [hget]
      by_cases hnn : n' = n
      · subst hnn
        rw [hs] at h3
        have h3 : e1 ≤ e := h3
        rw [if_pos rfl]
        show e1 ≤ e + 1
        omega
      · rw [if_neg hnn]; exact h3
  · by_cases h1 : n1 = n ∧ e1 = e + 1
    · obtain ⟨rfl, rfl⟩ := h1
      rw [Gh.put_same] at hB1; cases hB1
      by_cases h2 : n2 = n1 ∧ e2 = e + 1
      · obtain ⟨rfl, rfl⟩ := h2
        rw [Gh.put_same] at hB2; cases hB2
        exact ⟨rfl, rfl, rfl⟩
      · rw [Gh.put_ne h2] at hB2
        have := (I.known n2 e2 B2 hB2).2.1
        simp only at hb; omega
    · rw [Gh.put_ne h1] at hB1
      by_cases h2 : n2 = n ∧ e2 = e + 1
      · obtain ⟨rfl, rfl⟩ := h2
        rw [Gh.put_same] at hB2; cases hB2
        have := (I.known n1 e1 B1 hB1).2.1
        simp only at hb; omega
      · rw [Gh.put_ne h2] at hB2
        exact I.apart _ _ _ _ _ _ hB1 hB2 hb
end Go.E
end
section
namespace Go.E
open Go Go.RowKit
def Sto.c : Sto → Nat | .mk _ c _ _ _ => c
def Sto.s : Sto → Tm | .mk _ _ s _ _ => s
variable {α β : Type}
theorem fail_inv {σ σ' : Sto} {a : α} (h : Runs (fail : M α) σ a σ') : False := by cases h fun _ _ => some default
theorem pur_inv {σ σ' : Sto} {a b : α} (h : Runs (pur a) σ b σ') : b = a ∧ σ' = σ := by
  have h1 : Runs (pur a) σ a σ := fun _ => rfl
  obtain ⟨h2, h3⟩ := h1.det h
  exact ⟨h2.symm, h3.symm⟩
theorem rd_inv {n : Nat} {σ σ' : Sto} {d : DV} (h : Runs (rd n) σ d σ') : d = σ.s.get n ∧ σ'.c = σ.c ∧ σ'.s = σ.s := by
  obtain ⟨lg, c, s, R, W⟩ := σ
  cases lg
  · obtain ⟨rfl, rfl⟩ := (rd_false n c s R W).det h; exact ⟨rfl, rfl, rfl⟩
  · obtain ⟨rfl, rfl⟩ := (rd_true n c s R W).det h; exact ⟨rfl, rfl, rfl⟩
theorem wr_inv {n : Nat} {e : DV} {σ σ' : Sto} {u : Unit} (h : Runs (wr n e) σ u σ') : n + 1 < 2 ^ depth ∧ σ'.c = σ.c ∧ σ'.s = σ.s.put e n := by
  cases hb : Nat.ble n 65000 with
  | false => have := h fun _ _ => some default; rw [wr_none n e _ _ hb] at this; cases this
  | true =>
    obtain ⟨lg, c, s, R, W⟩ := σ
    cases lg
    · obtain ⟨-, rfl⟩ := (wr_false n e c s R W hb).det h; exact ⟨le_depth hb, rfl, rfl⟩
    · obtain ⟨-, rfl⟩ := (wr_true n e c s R W hb).det h; exact ⟨le_depth hb, rfl, rfl⟩
theorem new_inv {e : DV} {σ σ' : Sto} {n : Nat} (h : Runs (new e) σ n σ') : n = σ.c ∧ σ.c + 1 < 2 ^ depth ∧ σ'.c = σ.c + 1 ∧ σ'.s = σ.s.put e σ.c := by
  obtain ⟨lg, c, s, R, W⟩ := σ
  cases hb : Nat.ble c 65000 with
  | false => have := h fun _ _ => some default; rw [new_none e _ c s _ _ _ hb] at this; cases this
  | true =>
    obtain ⟨rfl, rfl⟩ := (new_mk e lg c s R W hb).det h
    exact ⟨rfl, le_depth hb, rfl, rfl⟩
theorem cond_inv {b : Bool} {m m' : M α} {σ σ' : Sto} {a : α} (h : Runs (cond b m m') σ a σ') : (b = true ∧ Runs m σ a σ') ∨ (b = false ∧ Runs m' σ a σ') := by
  cases b
  · exact .inr ⟨rfl, h⟩
  · exact .inl ⟨rfl, h⟩
theorem cond_fail_inv {b : Bool} {m : M α} {σ σ' : Sto} {a : α} (h : Runs (cond b m fail) σ a σ') : b = true ∧ Runs m σ a σ' := by
  rcases cond_inv h with h | ⟨-, h⟩
  · exact h
  · exact (fail_inv h).elim
theorem opt_inv {γ : Type} {o : Option γ} {f : γ → M α} {σ σ' : Sto} {a : α} (h : Runs (Option.rec fail f o : M α) σ a σ') : ∃ x, o = some x ∧ Runs (f x) σ a σ' := by
  cases o with
  | none => exact (fail_inv h).elim
  | some x => exact ⟨x, rfl, h⟩
theorem loadC_inv {n e o k : Nat} {σ σ' : Sto} {l : List DV} (h : Runs (loadC n e o k) σ l σ') : ∃ e' m fz cs, σ.s.get n = .row e' m fz cs ∧ m ≤ e ∧ e ≤ e' ∧ o + k ≤ cs.length ∧ l = (cs.drop o).take k ∧ σ'.c = σ.c ∧ σ'.s = σ.s := by
  unfold loadC at h
  obtain ⟨r, σ1, h1, h2⟩ := h.split (Ok.rd n)
  obtain ⟨rfl, h3, h4⟩ := rd_inv h1
  split at h2
  · rename_i e' m fz cs hr
    obtain ⟨hb, h2⟩ := cond_fail_inv h2
    rw [Bool.and_eq_true] at hb
    obtain ⟨x, hx, h2⟩ := opt_inv h2
    obtain ⟨rfl, rfl⟩ := pur_inv h2
    unfold range at hx
    cases hl : least cs (Nat.add o k) with
    | false => rw [hl] at hx; cases hx
    | true =>
      rw [hl] at hx
      simp only [cond_true, takeR_eq, dropR_eq, Option.some.injEq] at hx
      rw [least_eq, decide_eq_true_eq] at hl
      exact ⟨e', m, fz, cs, hr, Nat.le_of_ble_eq_true hb.1, Nat.le_of_ble_eq_true hb.2, hl, hx.symm, h3, h4⟩
  · exact (fail_inv h2).elim
theorem ones_all : ∀ {l : List DV}, ones l = true → ∀ d ∈ l, one d = true
  | [], _, d, hd => by cases hd
  | x :: r, h, d, hd => by
    have hx : (Bool.rec false (ones r) (one x) : Bool) = true := h
    cases h1 : one x with
    | false => rw [h1] at hx; cases hx
    | true =>
      rw [h1] at hx
      rcases List.mem_cons.1 hd with rfl | hd
      · exact h1
      · exact ones_all hx d hd
theorem storeC_inv {n e o : Nat} {nw : List DV} {σ σ' : Sto} {u : Unit} (h : Runs (storeC n e o nw) σ u σ') : ∃ m fz cs, σ.s.get n = .row e m fz cs ∧ (∀ d ∈ nw, one d = true) ∧ o + nw.length ≤ cs.length ∧ n + 1 < 2 ^ depth ∧ σ'.c = σ.c ∧
    σ'.s = σ.s.put (.row e (if fz ≤ o then m else e) fz (cs.take o ++ nw ++ cs.drop (o + nw.length))) n := by
  unfold storeC at h
  obtain ⟨r, σ1, h1, h2⟩ := h.split (Ok.rd n)
  obtain ⟨rfl, h3, h4⟩ := rd_inv h1
  split at h2
  · rename_i e' m fz cs hr
    obtain ⟨hb, h2⟩ := cond_fail_inv h2
    rw [Bool.and_eq_true] at hb
    obtain rfl := Nat.eq_of_beq_eq_true hb.1
    obtain ⟨x, hx, h2⟩ := opt_inv h2
    obtain ⟨h5, h6, h7⟩ := wr_inv h2
    unfold over at hx
    cases hl : least cs (Nat.add o (lenR nw)) with
    | false => rw [hl] at hx; cases hx
    | true =>
      rw [hl] at hx
      simp only [cond_true, takeR_eq, dropR_eq, appR_eq, Option.some.injEq, lenR_eq] at hx
      rw [least_eq, decide_eq_true_eq, lenR_eq] at hl
      refine ⟨m, fz, cs, hr, ones_all hb.2, hl, h5, h6.trans h3, ?_⟩
      rw [h7, h4, ← hx]
      congr 2
      · by_cases hf : fz ≤ o
        · rw [Nat.ble_eq_true_of_le hf, if_pos hf]; rfl
        · rw [if_neg hf]
          cases hb2 : Nat.ble fz o with
          | true => exact absurd (Nat.le_of_ble_eq_true hb2) hf
          | false => rfl
      · rw [List.append_assoc]; rfl
  · exact (fail_inv h2).elim
theorem newRow_inv {cs : List DV} {σ σ' : Sto} {n : Nat} (h : Runs (newRow cs) σ n σ') : (∀ d ∈ cs, one d = true) ∧ n = σ.c ∧ σ.c + 1 < 2 ^ depth ∧ σ'.c = σ.c + 1 ∧ σ'.s = σ.s.put (.row 0 0 0 cs) σ.c := by
  obtain ⟨hb, h2⟩ := cond_fail_inv h
  exact ⟨ones_all hb, new_inv h2⟩
end Go.E
end
section
namespace Go.E
open Go Go.RowKit
def TdOk (d : TypeDesc) : TD → Prop
  | .int k => d = .int k
  | .bool => d = .bool
  | .str => d = .string
  | .slice e => d = .slice e
  | .struct fs => ∃ fields : Array Field, d = .struct fields ∧ fields.toList.map (fun f => (f.offset, f.type)) = fs
  | .arr n e => d = .array n e
  | .map k e => d = .map k e
  | .other => True
structure TyOk (P : Program) (t : TypeId) (ti : TI) : Prop where
  desc : ∃ d, P.underlying t = some d ∧ TdOk d ti.td ∧ d.isRow = isAgg ti.td
  info : ∃ i z, P.info? t = some i ∧ i.size = ti.size ∧ i.bytes = ti.bytes ∧ i.zero = some z ∧ z.cells.toList = ti.zero
  zagg : ∀ i z, P.info? t = some i → i.zero = some z → (match z with | .agg _ => true | _ => false) = isAgg ti.td
  parts : ∀ fs, ti.td = .struct fs → ∀ p ∈ fs, ∃ i, P.info? p.2 = some i
theorem TyOk.size {P : Program} {t : TypeId} {ti : TI} (h : TyOk P t ti) : (P.info? t).map (·.size) = some ti.size := by
  obtain ⟨i, z, h1, h2, -⟩ := h.info
  rw [h1]; exact congrArg some h2
variable {P : Program} {B0 L : Nat} {G : Gh} {w : World}
theorem rep_lit (v : Value) : Rep G (lit v) v := by
  cases v <;> simp only [lit, Rep]
  rename_i s
  exact ⟨s, rfl, by unfold ofBytes; rw [mapR_eq]; rfl⟩
theorem reps_lit : ∀ l : List Value, Reps G (l.map lit) l
  | [] => Reps.nil
  | v :: r => Reps.cons (rep_lit v) (reps_lit r)
theorem whole_inv {t : TI} {cs : List DV} {σ σ' : Sto} {d : DV} (h : Runs (whole t cs) σ d σ') : σ' = σ ∧ ((isAgg t.td = true ∧ d = .agg cs) ∨ (isAgg t.td = false ∧ cs = [d])) := by
  unfold whole at h
  rcases cond_inv h with ⟨hb, h⟩ | ⟨hb, h⟩
  · obtain ⟨rfl, rfl⟩ := pur_inv h; exact ⟨rfl, .inl ⟨hb, rfl⟩⟩
  · split at h
    · rw [seqD_eq] at h
      obtain ⟨rfl, rfl⟩ := pur_inv h; exact ⟨rfl, .inr ⟨hb, rfl⟩⟩
    · exact (fail_inv h).elim
theorem whole_rep {t : TI} {cs : List DV} {d : DV} {vs : List Value} (h : (isAgg t.td = true ∧ d = .agg cs) ∨ (isAgg t.td = false ∧ cs = [d])) (hr : Reps G cs vs) :
    (isAgg t.td = true ∧ Rep G d (.agg vs.toArray)) ∨ (isAgg t.td = false ∧ ∃ v, vs = [v] ∧ Rep G d v) := by
  rcases h with ⟨h1, rfl⟩ | ⟨h1, rfl⟩
  · exact .inl ⟨h1, by rw [Rep]; exact ⟨vs, rfl, hr⟩⟩
  · obtain ⟨v, r, rfl, h2, h3⟩ := Reps.cons_iff.1 hr
    rw [Reps.nil_iff] at h3
    subst h3
    exact .inr ⟨h1, v, rfl, h2⟩
theorem op_load {tb : Tab} (hT : ∀ t ti, look tb.ty t = some ti → TyOk P t ti) {t : Nat} {da d : DV} {va : Value} {σ σ' : Sto} (h : Runs (opLoad tb t da) σ d σ') (hr : Rep G da va) (I : Inv B0 G σ.c L σ.s w) :
    ∃ v, (Instr.loadAt t va).run P w = .ok v w ∧ Rep G d v ∧ σ'.c = σ.c ∧ σ'.s = σ.s := by
  unfold opLoad at h
  split at h
  · rename_i ti n e o k hl
    obtain ⟨hk, h⟩ := cond_fail_inv h
    have hk := Nat.le_of_ble_eq_true hk
    obtain ⟨cs, σ1, h1, h2⟩ := h.split (ok_loadC _ _ _ _)
    obtain ⟨e', m, fz, row, hrow, hm, he, hlen, rfl, hc1, hs1⟩ := loadC_inv h1
    obtain ⟨rfl, hw⟩ := whole_inv h2
    rw [Rep] at hr
    obtain ⟨B, hB, rfl, ho, hext⟩ := hr
    obtain ⟨vs, hvs, hvl, hran⟩ := I.load hrow hm he hB ho (k := ti.size) (by omega)
    have ht := hT t ti hl
    obtain ⟨dd, hd1, hd2, hd3⟩ := ht.desc
    rcases whole_rep hw hvs with ⟨h3, h4⟩ | ⟨h3, v, rfl, h4⟩
    · exact ⟨_, run_loadAt_mid w B.b (o - B.sh) t vs dd hran hd1 (hd3.trans h3) (by rw [ht.size, hvl]), h4, hc1, hs1⟩
    · have hcell := hran 0 v rfl
      rw [Nat.add_zero] at hcell
      have hagg : (Go.isAgg t).run P w = .ok false w := by
        unfold Go.isAgg
        rw [Sem.run_bind, run_underlying hd1 w]
        rw [h3] at hd3
        cases dd <;> simp_all
      refine ⟨v, ?_, h4, hc1, hs1⟩
      simp only [Instr.loadAt, Instr.sureAddr, Sem.run_bind, Sem.run_pure, Result.andThen_ok, loadVar, hagg]
      simp [hcell]
  · exact (fail_inv h).elim
theorem cells_rep {d : DV} {v : Value} (h : Rep G d v) (h1 : ∀ x ∈ cells d, one x = true) : ∃ vs, v.cells.toList = vs ∧ Reps G (cells d) vs ∧ (∀ x ∈ vs, x.oneCell' = true) := by
  have hall : ∀ {l : List DV} {vs : List Value}, Reps G l vs → (∀ x ∈ l, one x = true) → ∀ x ∈ vs, x.oneCell' = true := by
    intro l
    induction l with
    | nil => intro vs h; rw [Reps.nil_iff] at h; subst h; intro _ x hx; cases hx
    | cons a r ih =>
      intro vs h
      obtain ⟨v, r', rfl, h2, h3⟩ := Reps.cons_iff.1 h
      intro h4 x hx
      rcases List.mem_cons.1 hx with rfl | hx
      · exact h2.one (h4 a (by simp))
      · exact ih h3 (fun y hy => h4 y (by simp [hy])) x hx
  by_cases ha : ∃ cs, d = .agg cs
  · obtain ⟨cs, rfl⟩ := ha
    have h' := h
    rw [Rep] at h'
    obtain ⟨vs, rfl, h3⟩ := h'
    exact ⟨vs, rfl, h3, hall h3 h1⟩
  · have hc : cells d = [d] := by cases d <;> first | rfl | exact absurd ⟨_, rfl⟩ ha
    rw [hc] at h1 ⊢
    have h2 := h.one (h1 d (by simp))
    have hv : v.cells.toList = [v] := by cases v <;> first | rfl | (simp [Value.oneCell'] at h2)
    exact ⟨[v], hv, Reps.cons h Reps.nil, by simpa using h2⟩
end Go.E
end
section
namespace Go.E
open Go Go.RowKit
variable {P : Program} {B0 L : Nat} {G : Gh} {w : World}
theorem run_newRow' (t : TypeId) (c : Array Value) (w : World) : (Go.newRow t c).run P w = .ok ⟨w.heap.size, 0, none⟩ (w.alloc (.cells c t)) := rfl
theorem run_storeVar_cells (w : World) (b o : Nat) (ty : TypeId) (v : Value) (ht : w.there b o v.cells.size) (hi : (P.info? ty).map (·.size) = some v.cells.size) (h1 : ∀ x ∈ v.cells.toList, x.oneCell' = true) :
    (storeVar ty ⟨b, o, none⟩ v).run P w = .ok () (w.setCells b o v.cells.toList) := by
  have := run_storeCells_cells (P := P) b o v.cells.toList 0 w (fun j hj => by simpa using (ht j (by simpa using hj)).1) (fun j hj => by simpa using (ht j (by simpa using hj)).2) h1
  cases hq : P.info? ty with
  | none => simp [hq] at hi
  | some i =>
    have hs : v.cells.size = i.size := by simp [hq] at hi; omega
    simp only [Nat.add_zero] at this
    simp [storeVar, sizeOf, typeInfo, hq, hs, this]
theorem op_store {tb : Tab} (hT : ∀ t ti, look tb.ty t = some ti → TyOk P t ti) {t : Nat} {da dx d : DV} {va vx : Value} {σ σ' : Sto} (h : Runs (opStore tb t da dx) σ d σ') (hr : Rep G da va) (hx : Rep G dx vx) (I : Inv B0 G σ.c L σ.s w) :
    ∃ w', (Instr.storeAt t va vx).run P w = .ok () w' ∧ d = .tup [] ∧ Inv B0 G σ'.c L σ'.s w' ∧ Below B0 w w' := by
  unfold opStore at h
  split at h
  · rename_i ti n e o k hl
    obtain ⟨hb, h⟩ := cond_fail_inv h
    rw [Bool.and_eq_true] at hb
    have hk := Nat.le_of_ble_eq_true hb.1
    have hc := Nat.eq_of_beq_eq_true hb.2
    rw [lenR_eq] at hc
    obtain ⟨u, σ1, h1, h2⟩ := h.split (ok_storeC _ _ _ _)
    obtain ⟨m, fz, row, hrow, hone, hlen, hd, hc1, hs1⟩ := storeC_inv h1
    obtain ⟨rfl, rfl⟩ := pur_inv h2
    rw [Rep] at hr
    obtain ⟨B, hB, rfl, ho, hext⟩ := hr
    obtain ⟨vs, hvc, hvs, hv1⟩ := cells_rep hx hone
    have hvl := hvs.length
    obtain ⟨hI, hth⟩ := I.store hrow hB hvs ho hlen hd
    have hsz : vx.cells.size = vs.length := by rw [← hvc]; simp
    refine ⟨w.setCells B.b (o - B.sh) vs, ?_, rfl, by rw [hc1, hs1]; exact hI, setCells_below (I.known _ _ _ hB).1 _ _ _ (.refl _ _)⟩
    have := run_storeVar_cells (P := P) w B.b (o - B.sh) t vx (by rw [hsz]; exact hth) (by rw [(hT t ti hl).size, hsz, hvl, hc]) (by rw [hvc]; exact hv1)
    rw [hvc] at this
    simp only [Instr.storeAt, Instr.sureAddr, Sem.run_bind, Sem.run_pure, Result.andThen_ok, this]
  · exact (fail_inv h).elim
theorem Inv.row0 {c L : Nat} {s : Tm} (I : Inv B0 G c L s w) (hB0 : B0 ≤ w.heap.size) (hL : c < L) (hc : c + 1 < 2 ^ depth) {cs : List DV} {vs : List Value} (hr : Reps G cs vs) (el : TypeId) :
    ∃ G', Inv B0 G' (c + 1) L (s.put (.row 0 0 0 cs) c) (w.alloc (.cells vs.toArray el)) ∧ G.le G' ∧ G' c 0 = some ⟨w.heap.size, 0, cs.length, cs.length⟩ := by
  have h := I.alloc hB0 hL hc (more := []) hr el
  rw [List.append_nil, hr.length] at h
  exact ⟨_, h.1, h.2, Gh.put_same _ _ _ _⟩
theorem op_alloc {tb : Tab} {call : Nat → List DV → M DV} {tm : Fr} (hT : ∀ t ti, look tb.ty t = some ti → TyOk P t ti) {t : Nat} {d : DV} {σ σ' : Sto} (h : Runs (evAlloc t tb call tm) σ d σ') (I : Inv B0 G σ.c L σ.s w) (hB0 : B0 ≤ w.heap.size) (hL : σ'.c ≤ L) :
    ∃ v w' G', (Instr.alloc t true (.tuple #[])).run P w = .ok v w' ∧ Rep G' d v ∧ G.le G' ∧ Inv B0 G' σ'.c L σ'.s w' ∧ Below B0 w w' := by
  unfold evAlloc at h
  split at h
  · rename_i ti hl
    obtain ⟨hb, h⟩ := cond_fail_inv h
    have hb := Nat.eq_of_beq_eq_true hb
    rw [lenR_eq] at hb
    simp only [mapR_eq, seqLD_eq] at h
    obtain ⟨n, σ1, h1, h2⟩ := h.split (ok_newRow _)
    obtain ⟨hone, rfl, hd, hc1, hs1⟩ := newRow_inv h1
    obtain ⟨rfl, rfl⟩ := pur_inv h2
    obtain ⟨i, z, hi, hsz, -, hz, hzc⟩ := (hT t ti hl).info
    obtain ⟨G', hI, hle, hG⟩ := I.row0 hB0 (by omega) hd (reps_lit (G := G) ti.zero) t
    refine ⟨.pointer (some ⟨w.heap.size, 0, none⟩), w.alloc (.cells ti.zero.toArray t), G', ?_, ?_, hle, by rw [hc1, hs1]; exact hI, (Below.refl _ _).alloc hB0 _⟩
    · have hz' : z.cells = ti.zero.toArray := by rw [← hzc]
      simp [Instr.alloc, zeroValue, typeInfo, hi, hz, newVar, run_newRow', hz']
    · rw [Rep]
      exact ⟨_, hG, rfl, Nat.le_refl _, by simp; omega⟩
  · exact (fail_inv h).elim
theorem op_box {tb : Tab} {call : Nat → List DV → M DV} {tm : Fr} {t : Nat} {x : Operand} {d : DV} {v : Value} {σ σ' : Sto} (h : Runs (evBox t x tb call tm) σ d σ') (hx : Rep G (eval tm x) v) (I : Inv B0 G σ.c L σ.s w) (hB0 : B0 ≤ w.heap.size) (hL : σ'.c ≤ L) :
    ∃ v' w' G', (Instr.box t v).run P w = .ok v' w' ∧ Rep G' d v' ∧ G.le G' ∧ Inv B0 G' σ'.c L σ'.s w' ∧ Below B0 w w' := by
  unfold evBox at h
  simp only [seqLD_eq, seqN_eq] at h
  obtain ⟨n, σ1, h1, h2⟩ := h.split (ok_newRow _)
  obtain ⟨hone, rfl, hd, hc1, hs1⟩ := newRow_inv h1
  obtain ⟨rfl, rfl⟩ := pur_inv h2
  obtain ⟨vs, hvc, hvs, hv1⟩ := cells_rep hx hone
  obtain ⟨G', hI, hle, hG⟩ := I.row0 hB0 (by omega) hd hvs t
  have hz' : v.cells = vs.toArray := by rw [← hvc]
  refine ⟨.pointer (some ⟨w.heap.size, 0, none⟩), w.alloc (.cells vs.toArray t), G', ?_, ?_, hle, by rw [hc1, hs1]; exact hI, (Below.refl _ _).alloc hB0 _⟩
  · simp [Instr.box, newVar, run_newRow', hz']
  · rw [Rep]
    exact ⟨_, hG, rfl, Nat.le_refl _, by simp [lenR_eq]⟩
end Go.E
end
section
namespace Go.E
open Go Go.RowKit
variable {P : Program} {B0 : Nat} {G : Gh} {w : World}
theorem run_sizeOf' {t : TypeId} {ti : TI} (h : TyOk P t ti) (w : World) : (sizeOf t).run P w = .ok ti.size w := by
  obtain ⟨i, z, h1, h2, -⟩ := h.info
  simp [sizeOf, typeInfo, h1, h2]
theorem struct_field {tb : Tab} (hT : ∀ t ti, look tb.ty t = some ti → TyOk P t ti) {t : Nat} {ti : TI} {fs : List (Nat × Nat)} (hl : look tb.ty t = some ti) (htd : ti.td = .struct fs) {f o ft : Nat} (hf : nth fs f = some (o, ft)) :
    ∃ fields : Array Field, ∃ fl, P.underlying t = some (.struct fields) ∧ fields[f]? = some fl ∧ fl.offset = o ∧ fl.type = ft := by
  obtain ⟨d, h1, h2, -⟩ := (hT t ti hl).desc
  rw [htd] at h2
  obtain ⟨fields, rfl, h3⟩ := h2
  rw [nth_eq, ← h3, List.getElem?_map] at hf
  cases h4 : fields.toList[f]? with
  | none => rw [h4] at hf; cases hf
  | some fl =>
    rw [h4] at hf
    simp only [Option.map_some, Option.some.injEq, Prod.mk.injEq] at hf
    exact ⟨fields, fl, h1, by rw [← Array.getElem?_toList]; exact h4, hf.1, hf.2⟩
theorem op_fieldAddr {tb : Tab} (hT : ∀ t ti, look tb.ty t = some ti → TyOk P t ti) {t f : Nat} {da d : DV} {va : Value} {σ σ' : Sto} (h : Runs (opFieldAddr tb t da f) σ d σ') (hr : Rep G da va) :
    ∃ v, (Instr.fieldAt t va f).run P w = .ok v w ∧ Rep G d v ∧ σ' = σ := by
  unfold opFieldAddr at h
  split at h
  · rename_i fs z sz by' hl
    split at h
    · exact (fail_inv h).elim
    · rename_i o n hp
      split at h
      · rename_i m e q k
        obtain ⟨hb, h⟩ := cond_fail_inv h
        rw [Bool.and_eq_true] at hb
        rw [seqN_eq] at h
        obtain ⟨rfl, rfl⟩ := pur_inv h
        have h1 := Nat.le_of_ble_eq_true hb.1
        have h2 : o + n ≤ k := Nat.le_of_ble_eq_true hb.2
        unfold fieldPlaces at hp
        split at hp
        · cases hp
        · rename_i o' ft hn
          split at hp
          · cases hp
          · rename_i ti hft
            cases hp
            obtain ⟨fields, fl, a1, a2, a3, a4⟩ := struct_field hT hl rfl hn
            rw [Rep] at hr
            obtain ⟨B, hB, rfl, ho, hext⟩ := hr
            have a5 := run_sizeOf' (hT _ _ hft) w
            rw [← a4] at a5
            refine ⟨.pointer (some ⟨B.b, q + o - B.sh, none⟩), ?_, ?_, rfl⟩
            · have hne : ¬ ti.size = 0 := by omega
              have hadd : (⟨B.b, q - B.sh, none⟩ : Addr).add o = ⟨B.b, q + o - B.sh, none⟩ := by rw [Addr.add_mid]; congr 1; omega
              simp [Instr.fieldAt, run_underlying a1 w, a2, Instr.sureAddr, fieldPlace, a5, hne, a3, hadd]
            · rw [Rep]
              exact ⟨B, hB, rfl, by show B.sh ≤ q + o; omega, by show q + o + ti.size ≤ B.ext; omega⟩
      · exact (fail_inv h).elim
  · exact (fail_inv h).elim
theorem range_inv {cs l : List DV} {o n : Nat} (h : range cs o n = some l) : o + n ≤ cs.length ∧ l = (cs.drop o).take n := by
  unfold range at h
  cases hl : least cs (Nat.add o n) with
  | false => rw [hl] at h; cases h
  | true =>
    rw [hl] at h
    simp only [cond_true, takeR_eq, dropR_eq, Option.some.injEq] at h
    rw [least_eq, decide_eq_true_eq] at hl
    exact ⟨hl, h.symm⟩
theorem op_field {tb : Tab} (hT : ∀ t ti, look tb.ty t = some ti → TyOk P t ti) {t f : Nat} {da d : DV} {va : Value} {σ σ' : Sto} (h : Runs (opField tb t da f) σ d σ') (hr : Rep G da va) :
    ∃ v, (Instr.field t va f).run P w = .ok v w ∧ Rep G d v ∧ σ' = σ := by
  unfold opField at h
  split at h
  · rename_i fs z sz by' hl
    split at h
    · exact (fail_inv h).elim
    · rename_i o ft hn
      split at h
      · rename_i ti cs hft
        obtain ⟨l, hl2, h⟩ := opt_inv h
        obtain ⟨hlen, rfl⟩ := range_inv hl2
        obtain ⟨rfl, hw⟩ := whole_inv h
        obtain ⟨fields, fl, a1, a2, a3, a4⟩ := struct_field hT hl rfl hn
        rw [Rep] at hr
        obtain ⟨vs, rfl, hvs⟩ := hr
        have a5 := run_sizeOf' (hT _ _ hft) w
        rw [← a4] at a5
        obtain ⟨dd, hd1, hd2, hd3⟩ := (hT _ _ hft).desc
        rw [← a4] at hd1
        have hvl := hvs.length
        have hagg : (Go.isAgg fl.type).run P w = .ok (isAgg ti.td) w := by
          unfold Go.isAgg
          rw [Sem.run_bind, run_underlying hd1 w, ← hd3]
          cases dd <;> rfl
        have hsub : Reps G ((cs.drop o).take ti.size) ((vs.drop o).take ti.size) := (hvs.drop o).take _
        rcases whole_rep hw hsub with ⟨h3, h4⟩ | ⟨h3, v, hv, h4⟩
        · refine ⟨_, ?_, h4, rfl⟩
          have hex : vs.toArray.extract o (o + ti.size) = ((vs.drop o).take ti.size).toArray := by
            apply Array.ext'
            simp [Array.toList_extract, List.extract_eq_take_drop]
          simp [Instr.field, run_underlying a1 w, a2, asAgg, part, hagg, h3, a5, a3, hex]
        · refine ⟨v, ?_, h4, rfl⟩
          have hv0 : vs[o]? = some v := by
            have : ((vs.drop o).take ti.size)[0]? = some v := by rw [hv]; rfl
            rw [List.getElem?_take] at this
            split at this
            · rw [List.getElem?_drop] at this; simpa using this
            · cases this
          simp [Instr.field, run_underlying a1 w, a2, asAgg, part, hagg, h3, a3, hv0]
      · exact (fail_inv h).elim
  · exact (fail_inv h).elim
end Go.E
end
section
namespace Go.E
open Go Go.RowKit
variable {P : Program} {B0 L : Nat} {G : Gh} {w : World}
theorem leZ_le {a b : Int} (h : leZ a b = true) : a ≤ b := by rw [leZ_eq, decide_eq_true_eq] at h; exact h
theorem rep_int {k : IntKind} {n : Int} {v : Value} (h : Rep G (.int k n) v) : v = .int k n := by rw [Rep] at h; exact h
theorem op_indexAddr {tb : Tab} (hT : ∀ t ti, look tb.ty t = some ti → TyOk P t ti) {t : Nat} {dx di d : DV} {vx vi : Value} {σ σ' : Sto} (h : Runs (opIndexAddr tb t dx di) σ d σ') (hx : Rep G dx vx) (hi : Rep G di vi) :
    ∃ v, (Instr.indexAt t vx vi).run P w = .ok v w ∧ Rep G d v ∧ σ' = σ := by
  unfold opIndexAddr at h
  split at h
  · rename_i el z s y k n hl
    split at h
    · rename_i te m e j sz len lim hel
      obtain ⟨hb, h⟩ := cond_fail_inv h
      rw [Bool.and_eq_true, Bool.and_eq_true] at hb
      rw [seqN_eq] at h
      obtain ⟨rfl, rfl⟩ := pur_inv h
      have h0 := leZ_le hb.1.1
      have h1 : n.toNat + 1 ≤ len := Nat.le_of_ble_eq_true hb.1.2
      have h2 := Nat.eq_of_beq_eq_true hb.2
      rw [Rep] at hx
      obtain ⟨B, a, c, hB, rfl, hsz, hlc, hsh, hext, ha, hcap, -, -⟩ := hx
      obtain rfl := ha.resolve_left (by omega)
      obtain rfl := rep_int hi
      obtain ⟨dd, hd1, hd2, -⟩ := (hT t _ hl).desc
      have hd2 : dd = .slice el := hd2
      subst hd2
      have a5 := run_sizeOf' (hT _ _ hel) w
      have hin : (0 : Int) ≤ n ∧ n < (len : Int) := ⟨h0, by omega⟩
      have hadd : (⟨B.b, j * sz - B.sh, none⟩ : Addr).add (n.toNat * te.size) = ⟨B.b, (j + n.toNat) * sz - B.sh, none⟩ := by
        rw [Addr.add_mid, h2, Nat.add_mul]; congr 1; omega
      have hmul : (j + n.toNat) * sz + sz ≤ (j + len) * sz := by
        have : (j + n.toNat + 1) * sz ≤ (j + len) * sz := Nat.mul_le_mul_right _ (by omega)
        rw [Nat.add_mul (j + n.toNat) 1 sz, Nat.one_mul] at this
        exact this
      refine ⟨.pointer (some ⟨B.b, (j + n.toNat) * sz - B.sh, none⟩), ?_, ?_, rfl⟩
      · simp [Instr.indexAt, asIntOf, run_underlying hd1 w, a5, hin, hadd]
      · rw [Rep]
        refine ⟨B, hB, rfl, ?_, ?_⟩
        · show B.sh ≤ (j + n.toNat) * sz
          rw [Nat.add_mul]; omega
        · show (j + n.toNat) * sz + sz ≤ B.ext
          omega
    · exact (fail_inv h).elim
  · rename_i len el z s y k n hl
    split at h
    · rename_i te m e q kk hel
      obtain ⟨hb, h⟩ := cond_fail_inv h
      rw [Bool.and_eq_true, Bool.and_eq_true, Bool.and_eq_true] at hb
      rw [seqN_eq] at h
      obtain ⟨rfl, rfl⟩ := pur_inv h
      have h0 := leZ_le hb.1.1.1
      have h1 : n.toNat + 1 ≤ len := Nat.le_of_ble_eq_true hb.1.1.2
      have h2 : len * te.size ≤ kk := Nat.le_of_ble_eq_true hb.2
      rw [Rep] at hx
      obtain ⟨B, hB, rfl, ho, hext⟩ := hx
      obtain rfl := rep_int hi
      obtain ⟨dd, hd1, hd2, -⟩ := (hT t _ hl).desc
      have hd2 : dd = .array len el := hd2
      subst hd2
      have a5 := run_sizeOf' (hT _ _ hel) w
      have hin : (0 : Int) ≤ n ∧ n < (len : Int) := ⟨h0, by omega⟩
      have hadd : (⟨B.b, q - B.sh, none⟩ : Addr).add (n.toNat * te.size) = ⟨B.b, q + n.toNat * te.size - B.sh, none⟩ := by
        rw [Addr.add_mid]; congr 1; omega
      have hmul : n.toNat * te.size + te.size ≤ len * te.size := by
        have : (n.toNat + 1) * te.size ≤ len * te.size := Nat.mul_le_mul_right _ h1
        rw [Nat.add_mul, Nat.one_mul] at this
        exact this
      refine ⟨.pointer (some ⟨B.b, q + n.toNat * te.size - B.sh, none⟩), ?_, ?_, rfl⟩
      · simp [Instr.indexAt, asIntOf, run_underlying hd1 w, Instr.sureAddr, a5, hin, hadd]
      · rw [Rep]
        exact ⟨B, hB, rfl, by show B.sh ≤ q + n.toNat * te.size; omega, by show q + n.toNat * te.size + te.size ≤ B.ext; omega⟩
    · exact (fail_inv h).elim
  · exact (fail_inv h).elim
theorem bytes_get {s : ByteArray} {l : List Nat} (h : s.data.toList.map UInt8.toNat = l) {i b : Nat} (hb : l[i]? = some b) : ∃ u : UInt8, s[i]? = some u ∧ u.toNat = b := by
  rw [← h, List.getElem?_map] at hb
  cases h1 : s.data.toList[i]? with
  | none => rw [h1] at hb; cases hb
  | some u =>
    rw [h1] at hb
    refine ⟨u, ?_, by simpa using hb⟩
    have h2 : i < s.data.toList.length := (List.getElem?_eq_some_iff.1 h1).1
    have h3 : i < s.size := by rw [Array.length_toList] at h2; exact h2
    rw [getElem?_pos s i h3]
    have h4 := (List.getElem?_eq_some_iff.1 h1).2
    rw [← h4]
    rfl
theorem bytes_size {s : ByteArray} {l : List Nat} (h : s.data.toList.map UInt8.toNat = l) : s.size = l.length := by
  rw [← h, List.length_map, Array.length_toList]; rfl
theorem op_index {tb : Tab} (hT : ∀ t ti, look tb.ty t = some ti → TyOk P t ti) {t : Nat} {dx di d : DV} {vx vi : Value} {σ σ' : Sto} (h : Runs (opIndex tb t dx di) σ d σ') (hx : Rep G dx vx) (hi : Rep G di vi) :
    ∃ v, (Instr.index t vx vi).run P w = .ok v w ∧ Rep G d v ∧ σ' = σ := by
  unfold opIndex at h
  split at h
  · rename_i z s y l k n hl
    obtain ⟨hb, h⟩ := cond_fail_inv h
    split at h
    · exact (fail_inv h).elim
    · rename_i b hn
      rw [seqN_eq] at h
      obtain ⟨rfl, rfl⟩ := pur_inv h
      have h0 := leZ_le hb
      rw [Rep] at hx
      obtain ⟨st, rfl, hst⟩ := hx
      obtain rfl := rep_int hi
      obtain ⟨dd, hd1, hd2, -⟩ := (hT t _ hl).desc
      have hd2 : dd = .string := hd2
      subst hd2
      rw [nth_eq] at hn
      obtain ⟨u, hu, rfl⟩ := bytes_get hst hn
      refine ⟨.int .u8 u.toNat, ?_, by rw [Rep]; rfl, rfl⟩
      simp [Instr.index, asIntOf, run_underlying hd1 w, h0, hu]
  · exact (fail_inv h).elim
theorem op_len {tb : Tab} (hT : ∀ t ti, look tb.ty t = some ti → TyOk P t ti) {t ty : Nat} {r : Array TypeId} {dx d : DV} {vx : Value} {σ σ' : Sto} (h : Runs (opLen tb t dx) σ d σ') (hx : Rep G dx vx) (hr : r[0]? = some t) (I : Inv B0 G σ.c L σ.s w) :
    ∃ v, (Builtin.len_ r ty #[vx]).run P w = .ok v w ∧ Rep G d v ∧ σ'.c = σ.c ∧ σ'.s = σ.s := by
  unfold opLen at h
  split at h
  · rename_i z s y l hl
    rw [seqN_eq] at h
    obtain ⟨rfl, rfl⟩ := pur_inv h
    rw [Rep] at hx
    obtain ⟨st, rfl, hst⟩ := hx
    refine ⟨.int .i64 (l.length : Nat), ?_, by rw [Rep, lenR_eq]; rfl, rfl, rfl⟩
    obtain ⟨dd, hd1, hd2, -⟩ := (hT t _ hl).desc
    have hd2 : dd = .string := hd2
    subst hd2
    simp [Builtin.len_, hr, goInt, run_underlying hd1 w, bytes_size hst]
  · rename_i el z s y a1 a2 a3 a4 len a5 hl
    obtain ⟨rfl, rfl⟩ := pur_inv h
    rw [Rep] at hx
    obtain ⟨B, a, c, hB, rfl, -⟩ := hx
    refine ⟨.int .i64 (len : Nat), ?_, by rw [Rep]; rfl, rfl, rfl⟩
    obtain ⟨dd, hd1, hd2, -⟩ := (hT t _ hl).desc
    have hd2 : dd = .slice el := hd2
    subst hd2
    simp [Builtin.len_, hr, goInt, run_underlying hd1 w]
  · rename_i el z s y hl
    obtain ⟨rfl, rfl⟩ := pur_inv h
    rw [Rep] at hx
    subst hx
    refine ⟨.int .i64 0, ?_, by rw [Rep]; rfl, rfl, rfl⟩
    obtain ⟨dd, hd1, hd2, -⟩ := (hT t _ hl).desc
    have hd2 : dd = .slice el := hd2
    subst hd2
    simp [Builtin.len_, hr, goInt, run_underlying hd1 w]
  · rename_i kt et z s y hl
    obtain ⟨rfl, rfl⟩ := pur_inv h
    rw [Rep] at hx
    subst hx
    refine ⟨.int .i64 0, ?_, by rw [Rep]; rfl, rfl, rfl⟩
    obtain ⟨dd, hd1, hd2, -⟩ := (hT t _ hl).desc
    have hd2 : dd = .map kt et := hd2
    subst hd2
    simp [Builtin.len_, hr, goInt, run_underlying hd1 w]
  · rename_i kt et z s y n hl
    obtain ⟨r1, σ1, h1, h2⟩ := h.split (Ok.rd n)
    obtain ⟨rfl, hc1, hs1⟩ := rd_inv h1
    split at h2
    · rename_i clk ks vs bs heq
      rw [seqN_eq] at h2
      obtain ⟨rfl, rfl⟩ := pur_inv h2
      rw [Rep] at hx
      obtain ⟨B, hB, rfl⟩ := hx
      have ho := I.obj n
      rw [heq] at ho
      obtain ⟨B', es, hB', hh, hes, -⟩ := ho
      rw [hB] at hB'; cases hB'
      refine ⟨.int .i64 (es.size : Nat), ?_, ?_, hc1, hs1⟩
      · obtain ⟨dd, hd1, hd2, -⟩ := (hT t _ hl).desc
        have hd2 : dd = .map kt et := hd2
        subst hd2
        simp [Builtin.len_, hr, goInt, run_underlying hd1 w, getObj, Sem.run, hh]
      · have := hes.1.length
        rw [Rep, lenR_eq, ← this]
        simp
    · exact (fail_inv h2).elim
  · exact (fail_inv h).elim
end Go.E
end
section
namespace Go.E
open Go Go.RowKit
variable {P : Program} {B0 : Nat} {G : Gh} {w : World}
def RepO (G : Gh) : Option DV → Option Value → Prop
  | none, v => v = none
  | some d, v => ∃ x, v = some x ∧ Rep G d x
theorem bound_some {len n dflt : Nat} {d : DV} {v : Value} (h : bound len (some d) dflt = some n) (hr : Rep G d v) : ∃ k m, v = .int k m ∧ 0 ≤ m ∧ m = (n : Int) ∧ n ≤ len := by
  cases d <;> simp only [bound] at h <;> try (cases h)
  rename_i k m
  cases hb : leZ 0 m && Nat.ble m.toNat len with
  | false => rw [hb] at h; cases h
  | true =>
    rw [hb] at h
    simp only [cond_true, Option.some.injEq] at h
    rw [Bool.and_eq_true] at hb
    have h0 := leZ_le hb.1
    have h1 := Nat.le_of_ble_eq_true hb.2
    exact ⟨k, m, rep_int hr, h0, by omega, by omega⟩
theorem run_bound {len n dflt y : Nat} {d : DV} {v : Value} (h : bound len (some d) dflt = some n) (hr : Rep G d v) (hy : len ≤ y) (code : BoundsCode) : (Instr.sliceBound v y code).run P w = .ok n w ∧ n ≤ len := by
  obtain ⟨k, m, rfl, h0, rfl, h2⟩ := bound_some h hr
  refine ⟨?_, h2⟩
  have h3 : (0 : Int) ≤ (n : Int) ∧ (n : Int) ≤ (y : Int) := ⟨h0, by omega⟩
  simp [Instr.sliceBound, asIntOf, h3]
theorem run_bounds {len cap h l : Nat} {lo hi : Option DV} {vlo vhi : Option Value} (hl : RepO G lo vlo) (hh : RepO G hi vhi) (e1 : bound len hi len = some h) (e2 : bound h lo 0 = some l) (hc : len ≤ cap) (b : Bool) :
    (Instr.sliceBounds b len cap vlo vhi none).run P w = .ok (l, h, cap) w ∧ l ≤ h ∧ h ≤ len := by
  have hhi : ∃ r, vhi = r ∧ h ≤ len ∧ ((match vhi with | some v => Instr.sliceBound v cap (if b then BoundsCode.sliceAcap else .sliceAlen) | none => pure len : Sem Nat)).run P w = .ok h w := by
    cases hi with
    | none =>
      obtain rfl : vhi = none := hh
      simp only [bound, Option.some.injEq] at e1
      subst e1
      exact ⟨none, rfl, Nat.le_refl _, rfl⟩
    | some d =>
      obtain ⟨x, rfl, hx⟩ := hh
      obtain ⟨h1, h2⟩ := run_bound (P := P) (w := w) e1 hx hc (if b then BoundsCode.sliceAcap else .sliceAlen)
      exact ⟨_, rfl, h2, h1⟩
  have hlo : l ≤ h ∧ ((match vlo with | some v => Instr.sliceBound v h BoundsCode.sliceB | none => pure 0 : Sem Nat)).run P w = .ok l w := by
    cases lo with
    | none =>
      obtain rfl : vlo = none := hl
      simp only [bound, Option.some.injEq] at e2
      subst e2
      exact ⟨Nat.zero_le _, rfl⟩
    | some d =>
      obtain ⟨x, rfl, hx⟩ := hl
      obtain ⟨h1, h2⟩ := run_bound (P := P) (w := w) e2 hx (Nat.le_refl _) BoundsCode.sliceB
      exact ⟨h2, h1⟩
  obtain ⟨r, rfl, h1, h2⟩ := hhi
  obtain ⟨h3, h4⟩ := hlo
  refine ⟨?_, h3, h1⟩
  cases vhi <;> cases vlo <;> simp_all [Instr.sliceBounds]
theorem bytes_cut {s : ByteArray} {l : List Nat} (h : s.data.toList.map UInt8.toNat = l) (a b : Nat) : (s.extract a b).data.toList.map UInt8.toNat = (l.drop a).take (b - a) := by
  rw [← h]
  rw [ByteArray.data_extract, Array.toList_extract, List.extract_eq_take_drop, List.map_take, List.map_drop]
theorem rep_part {n e i sz len c l h : Nat} {lim : Option Nat} {B : Blk} {a : Addr} (hB : G n e = some B) (hsz : 1 ≤ sz) (hlc : len ≤ c) (hsh : B.sh ≤ i * sz) (hext : (i + len) * sz ≤ B.ext)
    (ha : c = 0 ∨ a = ⟨B.b, i * sz - B.sh, none⟩) (hcap : i * sz - B.sh + c * sz ≤ B.cap) (hl : l ≤ h) (hh : h ≤ len) {m : Nat} (hm : m ≤ c) (hhm : h ≤ m) (hlim : lim = none → i * sz - B.sh + m * sz = B.cap) (hlim2 : ∀ x, lim = some x → m - l = x) :
    Rep G (.sl n e (i + l) sz (h - l) lim) (.slice (if m = l then some a else (some a).map (·.add (l * sz))) (h - l) (m - l)) := by
  rw [Rep]
  have e1 : l * sz ≤ h * sz := Nat.mul_le_mul_right _ hl
  have e2 : h * sz ≤ len * sz := Nat.mul_le_mul_right _ hh
  have e3 : len * sz ≤ c * sz := Nat.mul_le_mul_right _ hlc
  have e4 : m * sz ≤ c * sz := Nat.mul_le_mul_right _ hm
  have e5 : h * sz ≤ m * sz := Nat.mul_le_mul_right _ hhm
  rw [Nat.add_mul] at hext
  have e6 : (m - l) * sz = m * sz - l * sz := Nat.sub_mul _ _ _
  have e7 : (i + l + (h - l)) * sz = i * sz + h * sz := by rw [show i + l + (h - l) = i + h by omega, Nat.add_mul]
  by_cases hml : m = l
  · rw [if_pos hml]
    refine ⟨B, a, m - l, hB, rfl, hsz, by omega, by rw [Nat.add_mul]; omega, by rw [e7]; omega, .inl (by omega), by rw [e6, Nat.add_mul]; omega, fun hn => ?_, fun x hx => hlim2 x hx⟩
    have := hlim hn
    rw [e6, Nat.add_mul]; omega
  · rw [if_neg hml]
    have ha' := ha.resolve_left (by omega)
    subst ha'
    refine ⟨B, ⟨B.b, (i + l) * sz - B.sh, none⟩, m - l, hB, ?_, hsz, by omega, by rw [Nat.add_mul]; omega, by rw [e7]; omega, .inr rfl, by rw [e6, Nat.add_mul]; omega, fun hn => ?_, fun x hx => hlim2 x hx⟩
    · rw [Option.map_some, Addr.add_mid]
      congr 3
      rw [Nat.add_mul]; omega
    · have := hlim hn
      rw [e6, Nat.add_mul]; omega
theorem op_slice {tb : Tab} (hT : ∀ t ti, look tb.ty t = some ti → TyOk P t ti) {t : Nat} {dx d : DV} {lo hi : Option DV} {vx : Value} {vlo vhi : Option Value} {σ σ' : Sto} (h : Runs (opSlice tb t dx lo hi none) σ d σ') (hx : Rep G dx vx)
    (hl : RepO G lo vlo) (hh : RepO G hi vhi) : ∃ v, (Instr.sliceAt t vx vlo vhi none).run P w = .ok v w ∧ Rep G d v ∧ σ' = σ := by
  unfold opSlice at h
  split at h
  · rename_i z s y st hlk _
    split at h
    · exact (fail_inv h).elim
    · rename_i hn e1
      split at h
      · exact (fail_inv h).elim
      · rename_i ln e2
        rw [takeR_eq, dropR_eq] at h
        obtain ⟨rfl, rfl⟩ := pur_inv h
        rw [lenR_eq] at e1
        rw [Rep] at hx
        obtain ⟨bs, rfl, hbs⟩ := hx
        obtain ⟨dd, hd1, hd2, -⟩ := (hT t _ hlk).desc
        have hd2 : dd = .string := hd2
        subst hd2
        have hsz := bytes_size hbs
        obtain ⟨h1, h2, h3⟩ := run_bounds (P := P) (w := w) (len := st.length) (cap := st.length) hl hh e1 e2 (Nat.le_refl _) false
        refine ⟨.string (bs.extract ln hn), ?_, ?_, rfl⟩
        · rw [← hsz] at h1
          simp [Instr.sliceAt, Instr.slice, run_underlying hd1 w, h1]
        · rw [Rep]; exact ⟨_, rfl, bytes_cut hbs _ _⟩
  · rename_i el z s y n e i sz len lim hlk _
    split at h
    · rename_i hn te e1 hel
      obtain ⟨hb, h⟩ := cond_fail_inv h
      have hte := Nat.eq_of_beq_eq_true hb
      split at h
      · exact (fail_inv h).elim
      · rename_i ln e2
        rw [seqN_eq, seqN_eq] at h
        rw [Rep] at hx
        obtain ⟨B, a, c, hB, rfl, hsz, hlc, hsh, hext, ha, hcap, hlim1, hlim2⟩ := hx
        obtain ⟨dd, hd1, hd2, -⟩ := (hT t _ hlk).desc
        have hd2 : dd = .slice el := hd2
        subst hd2
        obtain ⟨h1, h2, h3⟩ := run_bounds (P := P) (w := w) hl hh e1 e2 hlc true
        have a5 := run_sizeOf' (hT _ _ hel) w
        rw [hte] at a5
        have hrun : (Instr.sliceAt t (.slice (some a) len c) vlo vhi none).run P w = .ok (.slice (if c = ln then some a else (some a).map (·.add (ln * sz))) (hn - ln) (c - ln)) w := by
          simp [Instr.sliceAt, Instr.slice, run_underlying hd1 w, h1, a5]
        cases lim with
        | none =>
          obtain ⟨rfl, rfl⟩ := pur_inv h
          exact ⟨_, hrun, rep_part hB hsz hlc hsh hext ha hcap h2 h3 (Nat.le_refl _) (by omega) (fun _ => hlim1 rfl) (fun x hx => by cases hx), rfl⟩
        | some cc =>
          have h : Runs (seqN (Nat.sub cc ln) fun c => pur (DV.sl n e (Nat.add i ln) sz (Nat.sub hn ln) (some c))) σ d σ' := h
          rw [seqN_eq] at h
          obtain ⟨rfl, rfl⟩ := pur_inv h
          obtain rfl := hlim2 cc rfl
          exact ⟨_, hrun, rep_part hB hsz hlc hsh hext ha hcap h2 h3 (Nat.le_refl _) (by omega) (fun hx => by cases hx) (fun x hx => by cases hx; rfl), rfl⟩
    · exact (fail_inv h).elim
  · rename_i heq; cases heq
  · rename_i el z s y hlk _
    split at h
    · rename_i hn ln te e1 e2 hel
      obtain ⟨rfl, rfl⟩ := pur_inv h
      rw [Rep] at hx
      subst hx
      obtain ⟨dd, hd1, hd2, -⟩ := (hT t _ hlk).desc
      have hd2 : dd = .slice el := hd2
      subst hd2
      have hn0 : hn = 0 := by
        cases hi with
        | none => simp only [bound, Option.some.injEq] at e1; exact e1.symm
        | some d =>
          obtain ⟨x, -, hx⟩ := hh
          obtain ⟨-, -, -, -, -, h4⟩ := bound_some e1 hx
          omega
      subst hn0
      obtain ⟨h1, h2, h3⟩ := run_bounds (P := P) (w := w) (cap := 0) hl hh e1 e2 (Nat.le_refl _) true
      obtain rfl : ln = 0 := by omega
      have a5 := run_sizeOf' (hT _ _ hel) w
      refine ⟨.slice none 0 0, ?_, by unfold nilS; rw [Rep], rfl⟩
      simp [Instr.sliceAt, Instr.slice, run_underlying hd1 w, h1, a5]
    · exact (fail_inv h).elim
  · rename_i heq; cases heq
  · exact (fail_inv h).elim
end Go.E
end
