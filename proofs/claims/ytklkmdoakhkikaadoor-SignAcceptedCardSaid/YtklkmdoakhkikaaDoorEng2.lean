/- The engine, part 2: the types of a program as a table, and the abstract operations, in continuation-passing style, so that they compute by weak head normal form. Definitions, and each in direct style; no conditions. -/
import Derived.Test.YtklkmdoakhkikaaDoorEng1
namespace Go.Eng
open Go
universe u

inductive TK where
  | bool | int (k : IntKind) | string | pointer (e : Nat) | slice (e : Nat) | array (n e : Nat) | map (k e : Nat) | struct (fs : List (Nat × Nat)) | func | iface | other

def tk : TypeDesc → TK
  | .bool => .bool
  | .int k => .int k
  | .string => .string
  | .pointer e => .pointer e
  | .slice e => .slice e
  | .array n e => .array n e
  | .map k e => .map k e
  | .struct fs => .struct (fs.toList.map fun f => (f.offset, f.type))
  | .func _ _ _ => .func
  | .interface _ => .iface
  | _ => .other

/-- A constant, or a zero value's cell. -/
def ofV : Value → Option DV
  | .bool b => some (.bool b)
  | .int k n => some (.int k n)
  | .string s => some (.str s.data.toList)
  | .slice none 0 0 => some .nilsl
  | .pointer none => some .nilptr
  | .nilFunc => some .nilfn
  | .map none => some .nilmap
  | .nilIface => some .nilif
  | _ => none

theorem ofV_vd {bad : Nat → Prop} {w : World} {v : Value} {x : DV} (h : ofV v = some x) : VD bad w x v := by
  unfold ofV at h
  split at h <;> first | (cases h; constructor) | cases h

def TK.agg : TK → Bool
  | .struct _ => true
  | .array _ _ => true
  | _ => false

structure TInfo where
  k : TK
  size : Nat
  bytes : Nat
  zero : List DV

def allSome : List (Option DV) → Option (List DV)
  | [] => some []
  | none :: _ => none
  | some x :: l => (allSome l).map (x :: ·)

def zeroD (z : Option Value) : List DV := (z.bind fun v => allSome (v.cells.toList.map ofV)).getD []

def tinfo (P : Program) (t : Nat) : Option TInfo :=
  match P.info? t, P.underlying t with
  | some i, some d => some ⟨tk d, i.size, i.bytes, zeroD i.zero⟩
  | _, _ => none

/-- A program, a table of its types, and what its package-level tables hold. -/
structure Env where
  P : Program
  T : List TInfo
  G : List (Nat × DV)
  Q : List Nat

/-- A struct's type whose values can be compared, and without fields that are not named. -/
def eqType (P : Program) (t : Nat) : Bool := !P.stoodInHeld t && !P.eqGuardType P.depth t && (match P.underlying t with
  | some (.struct fs) => fs.toList.all fun f => f.name != "_"
  | _ => false)

structure Env.OK (E : Env) : Prop where
  types : ∀ (t : Nat) (i : TInfo), E.T[t]? = some i → tinfo E.P t = some i
  eqs : ∀ t ∈ E.Q, eqType E.P t = true

section cps
variable {α : Sort u} {β : Type}

def setK : List β → Nat → β → (List β → α) → α
  | [], _, _, k => k []
  | _ :: l, 0, v, k => k (v :: l)
  | a :: l, i + 1, v, k => setK l i v fun l' => k (a :: l')
theorem setK_eq (l : List β) (i : Nat) (v : β) (k : List β → α) : setK l i v k = k (l.set i v) := by
  induction l generalizing i k with
  | nil => rfl
  | cons a l ih => cases i with
    | zero => rfl
    | succ i => simp only [setK, ih, List.set_cons_succ]

def getK : List β → Nat → (no : α) → (β → α) → α
  | [], _, no, _ => no
  | a :: _, 0, _, k => k a
  | _ :: l, i + 1, no, k => getK l i no k
theorem getK_some {l : List β} {i : Nat} {x : β} (h : l[i]? = some x) (no : α) (k : β → α) : getK l i no k = k x := by
  induction l generalizing i with
  | nil => simp at h
  | cons a l ih => cases i with
    | zero => simp at h; subst h; rfl
    | succ i => exact ih (by simpa using h)
theorem getK_none {l : List β} {i : Nat} (h : l[i]? = none) (no : α) (k : β → α) : getK l i no k = no := by
  induction l generalizing i with
  | nil => rfl
  | cons a l ih => cases i with
    | zero => simp at h
    | succ i => exact ih (by simpa using h)

def takeK : Nat → List β → (List β → α) → α
  | 0, _, k => k []
  | _ + 1, [], k => k []
  | n + 1, a :: l, k => takeK n l fun l' => k (a :: l')
theorem takeK_eq (n : Nat) (l : List β) (k : List β → α) : takeK n l k = k (l.take n) := by
  induction n generalizing l k with
  | zero => simp [takeK]
  | succ n ih => cases l with
    | nil => simp [takeK]
    | cons a l => simp [takeK, ih]

def dropK : Nat → List β → (List β → α) → α
  | 0, l, k => k l
  | _ + 1, [], k => k []
  | n + 1, _ :: l, k => dropK n l k
theorem dropK_eq (n : Nat) (l : List β) (k : List β → α) : dropK n l k = k (l.drop n) := by
  induction n generalizing l with
  | zero => simp [dropK]
  | succ n ih => cases l with
    | nil => simp [dropK]
    | cons a l => simp [dropK, ih]

/-- At the end, with the place. -/
def snocK : List β → β → Nat → (List β → Nat → α) → α
  | [], v, n, k => k [v] n
  | a :: l, v, n, k => snocK l v (n + 1) fun l' m => k (a :: l') m
theorem snocK_eq (l : List β) (v : β) (n : Nat) (k : List β → Nat → α) : snocK l v n k = k (l ++ [v]) (n + l.length) := by
  induction l generalizing n k with
  | nil => rfl
  | cons a l ih => simp only [snocK, ih, List.cons_append, List.length_cons, Nat.add_assoc, Nat.add_comm 1]

/-- Cells written over others. -/
def splK : List β → Nat → List β → (List β → α) → α
  | c, _, [], k => k c
  | c, off, v :: l, k => setK c off v fun c' => splK c' (off + 1) l k
def spl : List β → Nat → List β → List β
  | c, _, [] => c
  | c, off, v :: l => spl (c.set off v) (off + 1) l
theorem splK_eq (c : List β) (off : Nat) (l : List β) (k : List β → α) : splK c off l k = k (spl c off l) := by
  induction l generalizing c off with
  | nil => rfl
  | cons v l ih => simp only [splK, setK_eq, ih, spl]

def mapK {γ : Type} (f : β → γ) : List β → (List γ → α) → α
  | [], k => k []
  | a :: l, k => mapK f l fun l' => k (f a :: l')
theorem mapK_eq {γ : Type} (f : β → γ) (l : List β) (k : List γ → α) : mapK f l k = k (l.map f) := by
  induction l generalizing k with
  | nil => rfl
  | cons a l ih => simp only [mapK, ih, List.map_cons]

end cps

section ops
variable {α : Sort u}

/-- All cells pure? -/
def allDK : List AV → (no : α) → (List DV → α) → α
  | [], _, k => k []
  | .d x :: l, no, k => allDK l no fun l' => k (x :: l')
  | _ :: _, no, _ => no
theorem allDK_cases (l : List AV) (no : α) (k : List DV → α) : (∃ l', l = l'.map .d ∧ allDK l no k = k l') ∨ allDK l no k = no := by
  induction l generalizing k with
  | nil => exact .inl ⟨[], rfl, rfl⟩
  | cons a l ih =>
    cases a
    case d x =>
      rcases ih (fun l' => k (x :: l')) with ⟨l', h1, h2⟩ | h
      · exact .inl ⟨x :: l', by rw [h1]; rfl, h2⟩
      · exact .inr h
    all_goals exact .inr rfl

/-- Cells as one value. -/
def aggK (l : List AV) (k : AV → α) : α := allDK l (k (.agg l)) fun l' => k (.d (.agg l'))

def constK (v : Value) (stop : α) (k : AV → α) : α :=
  match v with
  | .bool b => k (.d (.bool b))
  | .int j n => k (.d (.int j n))
  | .string s => k (.d (.str s.data.toList))
  | .slice none 0 0 => k (.d .nilsl)
  | .pointer none => k (.d .nilptr)
  | .nilFunc => k (.d .nilfn)
  | .map none => k (.d .nilmap)
  | .nilIface => k (.d .nilif)
  | _ => stop

def globK : List (Nat × DV) → Nat → (stop : α) → (AV → α) → α
  | [], _, stop, _ => stop
  | (g, e) :: l, i, stop, k => match Nat.beq g i with
    | true => k (.eptr e 0)
    | false => globK l i stop k

def evalK (G : List (Nat × DV)) (s : List AV) (x : Operand) (stop : α) (k : AV → α) : α :=
  match x with
  | .tmp t => getK s t stop k
  | .const v => constK v stop k
  | .global g => globK G g stop k
  | .func f => k (.fn (.func f) [] [])

def evalsK (G : List (Nat × DV)) (s : List AV) : List Operand → (stop : α) → (List AV → α) → α
  | [], _, k => k []
  | x :: l, stop, k => evalK G s x stop fun v => evalsK G s l stop fun l' => k (v :: l')

def DV.scal : DV → Bool
  | .agg _ => false
  | .tup _ => false
  | .undef => false
  | _ => true
def AV.scal : AV → Bool
  | .agg _ => false
  | .tup _ => false
  | .any => false
  | .d x => x.scal
  | _ => true

/-- The cells of a value. -/
def cellsK (v : AV) (stop : α) (k : List AV → α) : α :=
  match v with
  | .agg c => k c
  | .d (.agg c) => mapK .d c k
  | v => match v.scal with
    | true => k [v]
    | false => stop

def partK (i : TInfo) (c : List AV) (off : Nat) (stop : α) (k : AV → α) : α :=
  match i.k.agg with
  | true => dropK off c fun c1 => takeK i.size c1 fun c2 => match Nat.beq c2.length i.size with
    | true => aggK c2 k
    | false => stop
  | false => getK c off stop k

def loadK (i : TInfo) (h : List Box) (a : AV) (stop : α) (k : AV → α) : α :=
  match a with
  | .ptr b off => getK h b stop fun
    | .cells c => partK i c off stop k
    | _ => stop
  | .eptr e off => match e with
    | .agg c => mapK .d c fun c' => partK i c' off stop k
    | x => partK i [.d x] off stop k
  | _ => stop

def storeK (i : TInfo) (h : List Box) (a v : AV) (stop : α) (k : List Box → α) : α :=
  match a with
  | .ptr b off => getK h b stop fun
    | .cells c => cellsK v stop fun vs => match Nat.beq vs.length i.size, Nat.ble (off + vs.length) c.length, vs.all AV.scal with
      | true, true, true => splK c off vs fun c' => setK h b (.cells c') k
      | _, _, _ => stop
    | _ => stop
  | _ => stop

def intK (op : BinOp) (j : IntKind) (a b : Int) (stop : α) (k : AV → α) : α :=
  match op with
  | .add => k (.d (.int j (j.wrap (a + b))))
  | .sub => k (.d (.int j (j.wrap (a - b))))
  | .mul => k (.d (.int j (j.wrap (a * b))))
  | .eql => k (.d (.bool (a == b)))
  | .neq => k (.d (.bool (a != b)))
  | .lss => k (.d (.bool (decide (a < b))))
  | .leq => k (.d (.bool (decide (a ≤ b))))
  | .gtr => k (.d (.bool (decide (a > b))))
  | .geq => k (.d (.bool (decide (a ≥ b))))
  | _ => stop

def strK (op : BinOp) (a b : List UInt8) (stop : α) (k : AV → α) : α :=
  match op with
  | .eql => k (.d (.bool (a == b)))
  | .neq => k (.d (.bool (!(a == b))))
  | .lss => k (.d (.bool (Op.bytesLess a b)))
  | .leq => k (.d (.bool (Op.bytesLess a b || a == b)))
  | .gtr => k (.d (.bool (!(Op.bytesLess a b || a == b))))
  | .geq => k (.d (.bool (!(Op.bytesLess a b))))
  | _ => stop

def IntKind.same : IntKind → IntKind → Bool
  | .i8, .i8 | .i16, .i16 | .i32, .i32 | .i64, .i64 | .u8, .u8 | .u16, .u16 | .u32, .u32 | .u64, .u64 => true
  | _, _ => false

def binK (i : TInfo) (op : BinOp) (x y : AV) (stop : α) (k : AV → α) : α :=
  match x, y with
  | .d (.int j a), .d (.int j' b) => match IntKind.same j j' with
    | true => intK op j a b stop k
    | false => stop
  | .d (.str a), .d (.str b) => strK op a b stop k
  | .d (.bool a), .d (.bool b) => match i.k, op with
    | .bool, .eql => k (.d (.bool (a == b)))
    | .bool, .neq => k (.d (.bool (!(a == b))))
    | _, _ => stop
  | _, _ => stop

/-- A number divided by, or shifted by, a constant. -/
def divK (op : BinOp) (j : IntKind) (a : Int) (y : Operand) (stop : α) (k : AV → α) : α :=
  match y with
  | .const (.int j' (.ofNat (m + 1))) => match op with
    | .quo => match IntKind.same j j' with
      | true => k (.d (.int j (j.wrap (a.tdiv (.ofNat (m + 1))))))
      | false => stop
    | .rem => match IntKind.same j j' with
      | true => k (.d (.int j (a.tmod (.ofNat (m + 1)))))
      | false => stop
    | _ => stop
  | _ => stop

def fieldOffK (i : TInfo) (f : Nat) (stop : α) (k : Nat → Nat → α) : α :=
  match i.k with
  | .struct fs => getK fs f stop fun p => k p.1 p.2
  | _ => stop

/-- Parts put into cells. -/
def fillK (pl : Nat → Option (Nat × Nat)) : List (Nat × AV) → List AV → (stop : α) → (List AV → α) → α
  | [], c, _, k => k c
  | (f, v) :: r, c, stop, k =>
    match pl f with
    | none => stop
    | some p => cellsK v stop fun vs => match Nat.beq vs.length p.2, Nat.ble (p.1 + vs.length) c.length with
      | true, true => splK c p.1 vs fun c' => fillK pl r c' stop k
      | _, _ => stop

/-- Where the fields lie, and how many cells they take. -/
def placesK (T : List TInfo) : List (Nat × Nat) → (stop : α) → (List (Nat × Nat) → α) → α
  | [], _, k => k []
  | (o, t) :: l, stop, k => getK T t stop fun i => placesK T l stop fun l' => k ((o, i.size) :: l')

def at? {β : Type} : List β → Nat → Option β
  | [], _ => none
  | a :: _, 0 => some a
  | _ :: l, i + 1 => at? l i

/-- The pure values among the parts, element by element. -/
def elemsK (sz : Nat) : List (Nat × AV) → List DV → (stop : α) → (List DV → α) → α
  | [], c, _, k => k c
  | (f, .d x) :: r, c, stop, k => match x with
    | .agg l => match Nat.beq l.length sz, l.all DV.scal, Nat.blt f c.length with
      | true, true, true => setK c f (.agg l) fun c' => elemsK sz r c' stop k
      | _, _, _ => stop
    | x => match Nat.beq 1 sz, x.scal, Nat.blt f c.length with
      | true, true, true => setK c f x fun c' => elemsK sz r c' stop k
      | _, _, _ => stop
  | _ :: _, _, stop, _ => stop

def repK : Nat → DV → (List DV → α) → α
  | 0, _, k => k []
  | n + 1, x, k => repK n x fun l => k (x :: l)

def partsK (G : List (Nat × DV)) (s : List AV) : List (Nat × Operand) → (stop : α) → (List (Nat × AV) → α) → α
  | [], _, k => k []
  | (i, x) :: l, stop, k => evalK G s x stop fun v => partsK G s l stop fun l' => k ((i, v) :: l')

def opK (T : List TInfo) (G : List (Nat × DV)) (o : Op) (s : List AV) (h : List Box) (stop : α) (k : AV → List Box → α) : α :=
  match o with
  | .move x => evalK G s x stop fun v => k v h
  | .assign x => evalK G s x stop fun v => k v h
  | .box _ x => evalK G s x stop fun v => cellsK v stop fun c => snocK h (.cells c) 0 fun h' n => k (.ptr n 0) h'
  | .alloc t => getK T t stop fun i => match Nat.beq i.zero.length i.size, Nat.blt 0 i.size with
    | true, true => mapK .d i.zero fun c => snocK h (.cells c) 0 fun h' n => k (.ptr n 0) h'
    | _, _ => stop
  | .load t x => getK T t stop fun i => evalK G s x stop fun a => loadK i h a stop fun v => k v h
  | .store t x y => getK T t stop fun i => evalK G s x stop fun a => evalK G s y stop fun v => storeK i h a v stop fun h' => k (.d .undef) h'
  | .fieldAddr t x f => getK T t stop fun i => fieldOffK i f stop fun o ft => getK T ft stop fun fi => match Nat.blt 0 fi.size with
    | false => stop
    | true => evalK G s x stop fun
      | .ptr b off => getK h b stop fun
        | .cells _ => k (.ptr b (off + o)) h
        | _ => stop
      | .eptr e off => k (.eptr e (off + o)) h
      | .aptr b g i off => getK h b stop fun
        | .arr g' _ _ => match Nat.beq g g' with
          | true => k (.aptr b g i (off + o)) h
          | false => stop
        | _ => stop
      | _ => stop
  | .field t x f => getK T t stop fun i => fieldOffK i f stop fun o ft => getK T ft stop fun fi => evalK G s x stop fun
    | .agg c => partK fi c o stop fun v => k v h
    | .d (.agg c) => mapK .d c fun c' => partK fi c' o stop fun v => k v h
    | _ => stop
  | .nilCheck x => evalK G s x stop fun
    | .ptr b off => getK h b stop fun
      | .cells _ => k (.ptr b off) h
      | _ => stop
    | .eptr e off => k (.eptr e off) h
    | .aptr b g i off => getK h b stop fun
      | .arr g' _ _ => match Nat.beq g g' with
        | true => k (.aptr b g i off) h
        | false => stop
      | _ => stop
    | _ => stop
  | .binOp op t x y _ => getK T t stop fun i => evalK G s x stop fun a => evalK G s y stop fun b =>
    match op with
    | .quo => match a with
      | .d (.int j n) => divK .quo j n y stop fun v => k v h
      | _ => stop
    | .rem => match a with
      | .d (.int j n) => divK .rem j n y stop fun v => k v h
      | _ => stop
    | op => binK i op a b stop fun v => k v h
  | .unOp .not _ x => evalK G s x stop fun
    | .d (.bool b) => k (.d (.bool !b)) h
    | _ => stop
  | .unOp .neg _ x => evalK G s x stop fun
    | .d (.int j n) => k (.d (.int j (j.wrap (0 - n)))) h
    | _ => stop
  | .pick c a b => evalK G s c stop fun
    | .d (.bool true) => evalK G s a stop fun v => k v h
    | .d (.bool false) => evalK G s b stop fun v => k v h
    | _ => stop
  | .extract x i => evalK G s x stop fun
    | .tup l => getK l i stop fun v => k v h
    | .d (.tup l) => getK l i stop fun v => k (.d v) h
    | _ => stop
  | .convert t0 t x => getK T t0 stop fun _ => getK T t stop fun i => evalK G s x stop fun v => match i.k, v with
    | .int j, .d (.int _ n) => k (.d (.int j (j.wrap n))) h
    | .string, .d (.str l) => k (.d (.str l)) h
    | _, _ => stop
  | .build t parts => getK T t stop fun i => partsK G s parts.toList stop fun ps => match Nat.beq i.zero.length i.size, Nat.blt 0 i.size with
    | true, true => mapK .d i.zero fun z => match i.k with
      | .struct fs => placesK T fs stop fun pl => fillK (at? pl) ps z stop fun c => aggK c fun v => k v h
      | .array _ e => getK T e stop fun ei => fillK (fun i => some (i * ei.size, ei.size)) ps z stop fun c => aggK c fun v => k v h
      | _ => stop
    | _, _ => stop
  | .buildSlice t len parts => getK T t stop fun i => match i.k with
    | .slice e => getK T e stop fun ei => match Nat.beq ei.zero.length ei.size, Nat.blt 0 ei.size, Nat.blt 0 len, Nat.ble (len * ei.size) 16777216, ei.zero.all DV.scal with
      | true, true, true, true, true => partsK G s parts.toList stop fun ps =>
        match ei.zero with
        | [z] => repK len z fun zs => elemsK ei.size ps zs stop fun l => k (.d (.sl l)) h
        | zl => repK len (.agg zl) fun zs => elemsK ei.size ps zs stop fun l => k (.d (.sl l)) h
      | _, _, _, _, _ => stop
    | _ => stop
  | .makeFunc f first captured => evalsK G s first.toList stop fun a => evalsK G s captured.toList stop fun b => k (.fn f a b) h
  | .call { callee := .builtin .len, args := args, argTypes := ts } => getK args.toList 0 stop fun x => getK ts.toList 0 stop fun t => getK T t stop fun i => evalK G s x stop fun v => match i.k, v with
    | .slice _, .d (.sl l) => k (.d (.int .i64 l.length)) h
    | .string, .d (.str l) => k (.d (.int .i64 l.length)) h
    | .slice _, .d .nilsl => k (.d (.int .i64 0)) h
    | .slice _, .own b g => getK h b stop fun
      | .arr g' _ l => match Nat.beq g g' with
        | true => k (.d (.int .i64 l.length)) h
        | false => stop
      | _ => stop
    | _, _ => stop
  | _ => stop

def putK (s : List AV) (d : Option Nat) (v : AV) (k : List AV → α) : α :=
  match d with
  | some d => setK s d v k
  | none => k s

end ops

end Go.Eng
