/- A runner of closed calls: regions, code, calls: a call that the runner carries out returns what the runner says. -/
import Derived.Test.YtkdbcaegeeeiaaaGreatRunA
import Derived.Tactics
set_option linter.unusedVariables false
set_option linter.unusedSimpArgs false
set_option linter.unusedSectionVars false
namespace Go.Proofs.YtkdbcaegeeeiaaaGreat.Run
open Go.RowKit
variable [Syms]
structure St where
 T : Tr Value
 H : AH

/-- the state of an activation: its marks too (blocks of the ranges over functions that it entered) -/
structure Sc where
 T : Tr Value
 H : AH
 ds : List Nat

/-- an operation on symbols: which one it is -/
inductive Key
 | bin (op : BinOp) (t ty : TypeId)
 | un (op : UnOp) (t : TypeId)
 | conv (s d : TypeId)
 | bi (b : Builtin) (ts : List TypeId)
 | idx (t : TypeId)
 | conc
 deriving DecidableEq

/-- what is called: a function, a round of a range over a function, an operation on symbols -/
inductive Tg
 | fn (f : FuncId)
 | yl (k : Nat)
 | op (key : Key)

def keyOp : Op → Option (Key × List Operand)
 | .binOp op t x y ty => some (.bin op t ty, [x, y])
 | .unOp op t x => some (.un op t, [x])
 | .convert s d x => some (.conv s d, [x])
 | .index t x i => some (.idx t, [x, i])
 | .call c => match c.callee with
  | .builtin b => some (.bi b c.argTypes.toList, c.args.toList)
  | _ => none
 | _ => none

/-- what the operands read as -/
def evT (G : Nat) (T : Tr Value) : Operand → Option Value
 | .tmp t => match T.get t with
  | some v => some v
  | none => some undef
 | .const v => bif plain 4 v then some v else none
 | .global g => bif Nat.blt g G then some (.pointer (some ⟨g, 0, none⟩)) else none
 | .func f => some (.func (.func f) #[] #[])

abbrev CallH := Nat → Tg → List Value → AH → Option (Value × AH)

/-- operands, symbols that are known as what they are known as -/
def evC (call : CallH) (lo : Nat) (H : AH) (ev : Operand → Option Value) (x : Operand) : Option Value :=
 match ev x with
 | some (.complex k i j) => match call lo (.op .conc) [.complex k i j] H with
  | some (v, _) => some v
  | none => some (.complex k i j)
 | r => r

def putO (T : Tr Value) (nt : Nat) (d : Option Tmp) (v : Value) : Option (Tr Value) :=
 match d with
 | none => some T
 | some d => bif Nat.blt d nt then some (T.put d v) else none

/-- an operation: its value, the memory behind it -/
def xdo (P : Program) (G : Nat) (call : CallH) (lo : Nat) (o : Oper) (s : St) : Option (Value × AH) :=
 match xop P lo (evT G s.T) o s.H with
 | some (.val v H) => some (v, H)
 | some (.enter f args) => call lo (.fn f) args s.H
 | some (.yld k args) => call lo (.yl k) args s.H
 | none =>
  match xop P lo (evC call lo s.H (evT G s.T)) o s.H with
  | some (.val v H) => some (v, H)
  | some _ => none
  | none =>
   match keyOp o.op with
   | some (key, xs) => match evs (evT G s.T) xs with
    | some args => call lo (.op key) args s.H
    | none => none
   | none => none

/-- is the operation carried out? -/
def wantO (ops : List Oper) (T : Tr Value) (o : Oper) : Option Bool :=
 match o.guard with
 | none => some true
 | some (j, b) =>
  match nth ops j with
  | some oj =>
   match oj.dst with
   | some d =>
    match T.get d with
    | some (.bool c) => some (c == b)
    | some (.tuple _) => some false
    | none => some false
    | _ => none
   | none => none
  | none => none

/-- an operation in its place: carried out, or passed over -/
def xstep (P : Program) (G : Nat) (call : CallH) (lo : Nat) (ops : List Oper) (o : Oper) (s : St) : Option (Value × AH) :=
 match wantO ops s.T o with
 | some true => xdo P G call lo o s
 | some false => some (undef, s.H)
 | none => none

def xops (P : Program) (G : Nat) (call : CallH) (lo nt : Nat) (ops : List Oper) : List Oper → St → Option St
 | [], s => some s
 | o :: r, s =>
  match xstep P G call lo ops o s with
  | some (v, H) =>
   match putO s.T nt o.dst v with
   | some T => xops P G call lo nt ops r ⟨T, H⟩
   | none => none
  | none => none

/-- the blocks from a on, n of them -/
def delta (t : Tr AB) : Nat → Nat → List (Nat × AB)
 | _, 0 => []
 | a, n + 1 =>
  match t.get a with
  | some b => (a, b) :: delta t (Nat.succ a) n
  | none => delta t (Nat.succ a) n

def addAll (t : Tr AB) : List (Nat × AB) → Tr AB
 | [] => t
 | (k, b) :: r => addAll (t.put k b) r

/-- what an operation of a region waits for, as a number's bits -/
def maskOf (m : Tr Nat) : List Edge → Nat
 | [] => 0
 | e :: r => bif Region.binds .any e then Nat.lor (Nat.lor (Nat.pow 2 e.on) ((m.get e.on).getD 0)) (maskOf m r) else maskOf m r

/-- the tmps that an operation reads -/
def readsOf (ops : List Oper) (o : Oper) : List Operand :=
 o.op.operands.toList ++ (match o.guard with
  | none => []
  | some (j, _) => match nth ops j with
   | some oj => match oj.dst with
    | some d => [.tmp d]
    | none => []
   | none => [])

def bits (m n : Nat) : Bool := Nat.beq (Nat.land m n) m

/-- each tmp that is read was written by an operation that is waited for, or is written later -/
def readsOk (w : Tr Nat) (mask i : Nat) : List Operand → Bool
 | [] => true
 | .tmp t :: r => (match w.get t with
   | some j => Nat.testBit mask j || Nat.ble i j
   | none => true) && readsOk w mask i r
 | _ :: r => readsOk w mask i r

/-- the operations that read a tmp: i too -/
def addReads (i : Nat) : List Operand → Tr Nat → Tr Nat
 | [], m => m
 | .tmp t :: r, m => addReads i r (m.put t (Nat.lor ((m.get t).getD 0) (Nat.pow 2 i)))
 | _ :: r, m => addReads i r m

def eqBL : List UInt8 → List UInt8 → Bool
 | [], [] => true
 | a :: r, b :: s => Nat.beq a.toNat b.toNat && eqBL r s
 | _, _ => false
def eqON : Option Nat → Option Nat → Bool
 | none, none => true
 | some a, some b => Nat.beq a b
 | _, _ => false
theorem eqON_spec {a b : Option Nat} (h : eqON a b = true) : a = b := by
 cases a <;> cases b <;> simp only [eqON] at h <;> first | rfl | rw [Nat.eq_of_beq_eq_true h] | cases h
def eqAddr (a b : Addr) : Bool := Nat.beq a.block b.block && Nat.beq a.off b.off && eqON a.spot b.spot
def eqInt : Int → Int → Bool
 | .ofNat a, .ofNat b => Nat.beq a b
 | .negSucc a, .negSucc b => Nat.beq a b
 | _, _ => false
def eqVal : Value → Value → Bool
 | .bool true, .bool true => true
 | .bool false, .bool false => true
 | .int k n, .int k' n' => decide (k = k') && eqInt n n'
 | .string s, .string s' => eqBL s.data.toList s'.data.toList
 | .pointer none, .pointer none => true
 | .pointer (some a), .pointer (some b) => eqAddr a b
 | .slice none l c, .slice none l' c' => Nat.beq l l' && Nat.beq c c'
 | .slice (some a) l c, .slice (some b) l' c' => eqAddr a b && Nat.beq l l' && Nat.beq c c'
 | .nilIface, .nilIface => true
 | .nilFunc, .nilFunc => true
 | .complex k a b, .complex k' a' b' => decide (k = k') && Nat.beq a a' && Nat.beq b b'
 | _, _ => false
def eqOV : Option Value → Option Value → Bool
 | none, none => true
 | some a, some b => eqVal a b
 | _, _ => false
def eqTr : Tr Value → Tr Value → Bool
 | .leaf, .leaf => true
 | .node l v r, .node l' v' r' => eqTr l l' && eqOV v v' && eqTr r r'
 | _, _ => false
def eqOAB : Option AB → Option AB → Bool
 | some (.cells c n es), some (.cells c' n' es') => eqTr c c' && Nat.beq n n' && Nat.beq es es'
 | _, _ => false
theorem eqBL_spec : ∀ {a b : List UInt8}, eqBL a b = true → a = b
 | [], [], _ => rfl
 | [], _ :: _, h => by simp [eqBL] at h
 | _ :: _, [], h => by simp [eqBL] at h
 | a :: r, b :: s, h => by
  simp only [eqBL, Bool.and_eq_true] at h
  rw [eqBL_spec h.2, UInt8.toNat.inj (Nat.eq_of_beq_eq_true h.1)]
theorem eqAddr_spec {a b : Addr} (h : eqAddr a b = true) : a = b := by
 obtain ⟨ab, ao, as⟩ := a
 obtain ⟨bb, bo, bs⟩ := b
 simp only [eqAddr, Bool.and_eq_true] at h
 obtain ⟨⟨h1, h2⟩, h3⟩ := h
 rw [Nat.eq_of_beq_eq_true h1, Nat.eq_of_beq_eq_true h2, eqON_spec h3]
theorem eqInt_spec {a b : Int} (h : eqInt a b = true) : a = b := by
 cases a <;> cases b <;> simp only [eqInt] at h <;> first | rw [Nat.eq_of_beq_eq_true h] | cases h
theorem eqVal_spec {a b : Value} (h : eqVal a b = true) : a = b := by
 unfold eqVal at h
 split at h
 ·rfl
 ·rfl
 ·simp only [Bool.and_eq_true, decide_eq_true_eq] at h
  rw [h.1, eqInt_spec h.2]
 ·rename_i s s'
  have := eqBL_spec h
  obtain ⟨⟨s⟩⟩ := s
  obtain ⟨⟨s'⟩⟩ := s'
  simp only at this
  rw [this]
 ·rfl
 ·rw [eqAddr_spec h]
 ·simp only [Bool.and_eq_true] at h
  rw [Nat.eq_of_beq_eq_true h.1, Nat.eq_of_beq_eq_true h.2]
 ·simp only [Bool.and_eq_true] at h
  rw [eqAddr_spec h.1.1, Nat.eq_of_beq_eq_true h.1.2, Nat.eq_of_beq_eq_true h.2]
 ·rfl
 ·rfl
 ·simp only [Bool.and_eq_true, decide_eq_true_eq] at h
  rw [h.1.1, Nat.eq_of_beq_eq_true h.1.2, Nat.eq_of_beq_eq_true h.2]
 ·cases h
theorem eqOV_spec {a b : Option Value} (h : eqOV a b = true) : a = b := by
 cases a <;> cases b <;> simp only [eqOV] at h <;> first | rfl | rw [eqVal_spec h] | cases h
theorem eqTr_spec : ∀ {a b : Tr Value}, eqTr a b = true → a = b
 | .leaf, .leaf, _ => rfl
 | .leaf, .node _ _ _, h => by simp [eqTr] at h
 | .node _ _ _, .leaf, h => by simp [eqTr] at h
 | .node l v r, .node l' v' r', h => by
  simp only [eqTr, Bool.and_eq_true] at h
  rw [eqTr_spec h.1.1, eqOV_spec h.1.2, eqTr_spec h.2]
theorem eqOAB_spec {a b : Option AB} (h : eqOAB a b = true) : a = b := by
 unfold eqOAB at h
 split at h
 ·simp only [Bool.and_eq_true] at h
  rw [eqTr_spec h.1.1, Nat.eq_of_beq_eq_true h.1.2, Nat.eq_of_beq_eq_true h.2]
 ·cases h

/-- what an operation wrote: one block; or the whole memory behind it -/
inductive Wr
 | blk (q : Nat)
 | mem (t : Tr AB)
/-- none of them changed the block -/
def keptW (t0 : Tr AB) (q : Nat) : List Wr → Bool
 | [] => true
 | .blk q' :: r => !(Nat.beq q' q) && keptW t0 q r
 | .mem t :: r => eqOAB (t.get q) (t0.get q) && keptW t0 q r
/-- none of the blocks is changed that are read aside by whom nobody waits for -/
def keptB (mask : Nat) (t0 t : Tr AB) : List (Nat × Nat) → Bool
 | [] => true
 | (j, q) :: r => (Nat.testBit mask j || eqOAB (t.get q) (t0.get q)) && keptB mask t0 t r
/-- the block is read aside by one who isn't waited for -/
def hasS (mask : Nat) : List (Nat × Nat) → Nat → Bool
 | [], _ => false
 | (j, a) :: r, q => (Nat.beq a q && !(Nat.testBit mask j)) || hasS mask r q

structure Dr where
 T : Tr Value
 next : Nat
 base : Tr AB                -- the memory behind the last operation that wrote
 eb : Nat                    -- the first operation behind it
 ms : Tr Nat                 -- masks
 ds : Tr (List (Nat × AB))   -- what each operation added
 rd : Tr Nat                 -- which operations read a tmp
 hv : Nat                    -- the operations that look at the memory
 wr : Nat                    -- the operations that write
 sb : List (Nat × Nat)       -- which operation reads which block aside: nobody who doesn't wait for it writes it
 wb : List Wr                -- what was written: blocks, or whole memories behind
 i : Nat                     -- which operation comes next

/-- the blocks that the operations of a mask added, from eb on, n of them -/
def gather (ds : Tr (List (Nat × AB))) (mask eb : Nat) : Nat → Tr AB → Tr AB
 | 0, t => t
 | n + 1, t => gather ds mask eb n (bif Nat.testBit mask (Nat.add eb n) then addAll t ((ds.get (Nat.add eb n)).getD []) else t)

def writersOf : List Oper → Nat → Option (Tr Nat)
 | [], _ => some .leaf
 | o :: r, i =>
  match writersOf r (Nat.succ i) with
  | some w =>
   match o.dst with
   | none => some w
   | some d => match w.get d with
    | none => some (w.put d i)
    | some _ => none
  | none => none

/-- operations that have nothing to do with memory -/
def light : Op → Bool
 | .move _ | .assign _ | .pick _ _ _ | .extract _ _ | .field _ _ _ | .binOp _ _ _ _ _ | .unOp _ _ _ | .convert _ _ _ | .index _ _ _ | .build _ _
 | .fieldAddr _ _ _ | .indexAddr _ _ _ | .makeFunc _ _ _ | .nilCheck _ => true
 | _ => false

/-- operations that may write -/
def heavy : Op → Bool
 | .store _ _ _ | .mapUpdate _ _ _ _ | .insert _ _ _ _ | .next _ _ | .call _ => true
 | _ => false

inductive Kd
 | light
 | aside (q : Nat)
 | reads
 | stores (q : Nat)
 | writes

/-- the block of an address -/
def blockOf (ev : Operand → Option Value) (x : Operand) : Option Nat :=
 match ev x with
 | some (.pointer (some a)) => some a.block
 | _ => none

/-- where a load reads aside -/
def asideOf (hint : Bool) (ev : Operand → Option Value) (op : Op) : Option Nat :=
 bif hint then
  match op with
  | .load _ x => blockOf ev x
  | _ => none
 else none

/-- where a store writes -/
def storeOf (ev : Operand → Option Value) (op : Op) : Option Nat :=
 match op with
 | .store _ x _ => blockOf ev x
 | _ => none

/-- a load aside of what is written -/
def xaside (P : Program) (G : Nat) (call : CallH) (s0 : Nat) (t0 : Tr AB) (ops : List Oper) (o : Oper) (q : Nat) (s : Dr) : Option (Kd × Value × AH) :=
 match t0.get q with
 | some b =>
  bif Nat.blt q s0 && keptW t0 q s.wb then
   match xstep P G call s.next ops o ⟨s.T, ⟨Tr.put .leaf q b, s.next⟩⟩ with
   | some (v, H) => bif Nat.beq H.next s.next then some (.aside q, v, H) else none
   | none => none
  else none
 | none => none
/-- an operation that looks at the memory, or writes -/
def xmem (P : Program) (G : Nat) (call : CallH) (lo : Nat) (t0 : Tr AB) (ops : List Oper) (o : Oper) (mask : Nat) (s : Dr) : Option (Kd × Value × AH) :=
 bif bits s.wr mask then
  match xstep P G call s.next ops o ⟨s.T, ⟨gather s.ds mask s.eb (Nat.sub s.i s.eb) s.base, s.next⟩⟩ with
  | some (v, H) => some (.reads, v, H)
  | none =>
   bif heavy o.op && bits s.hv mask then
    match xstep P G call lo ops o ⟨s.T, ⟨gather s.ds mask s.eb (Nat.sub s.i s.eb) s.base, s.next⟩⟩ with
    | some (v, H) =>
     match storeOf (evT G s.T) o.op with
     | some q => bif hasS mask s.sb q then none else some (.stores q, v, H)
     | none => bif keptB mask t0 H.t s.sb then some (.writes, v, H) else none
    | none => none
   else none
 else none

/-- an operation of a region: which kind, its value, the memory behind it -/
def xkind (P : Program) (G : Nat) (call : CallH) (lo s0 : Nat) (t0 : Tr AB) (hint : Bool) (ops : List Oper) (o : Oper) (mask : Nat) (s : Dr) : Option (Kd × Value × AH) :=
 bif light o.op then
  match xstep P G call s.next ops o ⟨s.T, ⟨.leaf, s.next⟩⟩ with
  | some (v, H) => bif Nat.beq H.next s.next then some (.light, v, H) else none
  | none => none
 else
  match asideOf (hint || !(bits s.wr mask)) (evT G s.T) o.op with
  | some q =>
   match xaside P G call s0 t0 ops o q s with
   | some r => some r
   | none => xmem P G call lo t0 ops o mask s
  | none => xmem P G call lo t0 ops o mask s

/-- a call of plain arguments, carried out in an empty memory -/
def callPlain (ev : Operand → Option Value) (op : Op) : Bool :=
 match op with
 | .call c =>
  match c.callee with
  | .builtin .len => true
  | .builtin .cap => true
  | _ => allPlain ev c.args.toList
 | _ => false
def xlight (P : Program) (G : Nat) (call : CallH) (ops : List Oper) (o : Oper) (s : Dr) : Option (Kd × Value × AH) :=
 match xstep P G call s.next ops o ⟨s.T, ⟨.leaf, s.next⟩⟩ with
 | some (v, H) => bif Nat.beq H.next s.next then some (.light, v, H) else none
 | none => none
def xkindL (P : Program) (G : Nat) (call : CallH) (lo s0 : Nat) (t0 : Tr AB) (hint : Nat → Bool) (ops : List Oper) (o : Oper) (mask : Nat) (s : Dr) : Option (Kd × Value × AH) :=
 bif callPlain (evT G s.T) o.op && (!(bits s.wr mask) || (hint (Nat.add s.i 1000000) || hint s.i)) then
  match xlight P G call ops o s with
  | some r => some r
  | none => xkind P G call lo s0 t0 (hint s.i) ops o mask s
 else xkind P G call lo s0 t0 (hint s.i) ops o mask s

def drNext (ops : List Oper) (o : Oper) (mask : Nat) (T : Tr Value) (H : AH) (s : Dr) : Kd → Dr
 | .light => ⟨T, H.next, s.base, s.eb, s.ms.put s.i mask, s.ds.put s.i [], addReads s.i (readsOf ops o) s.rd, s.hv, s.wr, s.sb, s.wb, Nat.succ s.i⟩
 | .aside q => ⟨T, H.next, s.base, s.eb, s.ms.put s.i mask, s.ds.put s.i [], addReads s.i (readsOf ops o) s.rd, s.hv, s.wr, (s.i, q) :: s.sb, s.wb, Nat.succ s.i⟩
 | .reads => ⟨T, H.next, s.base, s.eb, s.ms.put s.i mask, s.ds.put s.i (delta H.t s.next (Nat.sub H.next s.next)), addReads s.i (readsOf ops o) s.rd, Nat.lor s.hv (Nat.pow 2 s.i), s.wr, s.sb, s.wb, Nat.succ s.i⟩
 | .stores q => ⟨T, H.next, H.t, Nat.succ s.i, s.ms.put s.i mask, s.ds.put s.i [], addReads s.i (readsOf ops o) s.rd, Nat.lor s.hv (Nat.pow 2 s.i), Nat.lor s.wr (Nat.pow 2 s.i), s.sb,
   .blk q :: s.wb, Nat.succ s.i⟩
 | .writes => ⟨T, H.next, H.t, Nat.succ s.i, s.ms.put s.i mask, s.ds.put s.i [], addReads s.i (readsOf ops o) s.rd, Nat.lor s.hv (Nat.pow 2 s.i), Nat.lor s.wr (Nat.pow 2 s.i), s.sb, .mem H.t :: s.wb, Nat.succ s.i⟩

/-- nobody reads a tmp behind its writer who does not wait for it -/
def dstOk (rd : Tr Nat) (mask : Nat) : Option Tmp → Bool
 | some d => bits ((rd.get d).getD 0) mask
 | none => true

def xdrawn (P : Program) (G : Nat) (call : CallH) (lo nt s0 : Nat) (t0 : Tr AB) (hint : Nat → Bool) (ops : List Oper) (w : Tr Nat) : List Oper → Dr → Option Dr
 | [], s => some s
 | o :: r, s =>
  bif readsOk w (maskOf s.ms o.after.toList) s.i (readsOf ops o) && Nat.blt (maskOf s.ms o.after.toList) (Nat.pow 2 s.i) &&
    dstOk s.rd (maskOf s.ms o.after.toList) o.dst then
   match xkindL P G call lo s0 t0 hint ops o (maskOf s.ms o.after.toList) s with
   | some (k, v, H) =>
    bif Nat.ble s.next H.next then
     match putO s.T nt o.dst v with
     | some T => xdrawn P G call lo nt s0 t0 hint ops w r (drNext ops o (maskOf s.ms o.after.toList) T H s k)
     | none => none
    else none
   | none => none
  else none

/-- the masks of a region, from the i-th operation on: for each store, what it waits for -/
def storeMasks : List Oper → Tr Nat → Nat → List (Nat × Nat)
 | [], _, _ => []
 | o :: r, m, i =>
  match o.op with
  | .store _ _ _ => (i, maskOf m o.after.toList) :: storeMasks r (m.put i (maskOf m o.after.toList)) (Nat.succ i)
  | _ => storeMasks r (m.put i (maskOf m o.after.toList)) (Nat.succ i)

/-- is there a store that comes later and does not wait for the j-th operation? -/
def hintOf : List (Nat × Nat) → Nat → Bool
 | [], _ => false
 | (i, m) :: r, j => (Nat.blt j i && !(Nat.testBit m j)) || hintOf r j

/-- likewise: for each call -/
def callMasks : List Oper → Tr Nat → Nat → List (Nat × Nat)
 | [], _, _ => []
 | o :: r, m, i =>
  match o.op with
  | .call _ => (i, maskOf m o.after.toList) :: callMasks r (m.put i (maskOf m o.after.toList)) (Nat.succ i)
  | _ => callMasks r (m.put i (maskOf m o.after.toList)) (Nat.succ i)
def hintsOf (ops : List Oper) (j : Nat) : Bool :=
 bif Nat.blt j 1000000 then hintOf (storeMasks ops .leaf 0) j else hintOf (callMasks ops .leaf 0) (Nat.sub j 1000000)

/-- likewise, calls count as stores -/
def hintsB (ops : List Oper) (j : Nat) : Bool := hintsOf ops j || hintOf (callMasks ops .leaf 0) j
/-- a region that draws: twice tried -/
def xdraw (P : Program) (G : Nat) (call : CallH) (lo nt : Nat) (T : Tr Value) (H : AH) (ops : List Oper) (w : Tr Nat) : Option Dr :=
 match xdrawn P G call lo nt H.next H.t (hintsOf ops) ops w ops ⟨T, H.next, H.t, 0, .leaf, .leaf, .leaf, 0, 0, [], [], 0⟩ with
 | some d => some d
 | none => xdrawn P G call lo nt H.next H.t (hintsB ops) ops w ops ⟨T, H.next, H.t, 0, .leaf, .leaf, .leaf, 0, 0, [], [], 0⟩
theorem xdraw_spec {P : Program} {G : Nat} {call : CallH} {lo nt : Nat} {T : Tr Value} {H : AH} {ops : List Oper} {w : Tr Nat} {d : Dr} (h : xdraw P G call lo nt T H ops w = some d) :
  ∃ hint, xdrawn P G call lo nt H.next H.t hint ops w ops ⟨T, H.next, H.t, 0, .leaf, .leaf, .leaf, 0, 0, [], [], 0⟩ = some d := by
 unfold xdraw at h
 split at h
 ·rename_i d' hd
  obtain rfl := Option.some.inj h
  exact ⟨_, hd⟩
 ·exact ⟨_, h⟩

def ofL (l : List Value) : Tr Value := storeL .leaf 0 l

def iter (f : Sc → Option (XE × Sc)) : Nat → Sc → Option (XE × Sc)
 | 0, _ => none
 | n + 1, s =>
  match f s with
  | some (.normal, s') => iter f n s'
  | r => r

/-- the jump that a round has left, carried out behind the statement -/
def jumpOf : Option XE → Sc → XE × Sc
 | none, s => (.normal, s)
 | some .normal, s => (.normal, s)
 | some (.exit id), s => (.exit id, s)
 | some .ret, s => (.ret, s)

/-- the block of the deferred calls of the rounds around, or a new one -/
def blockD (rd : Option Nat) (H : AH) : Option (Nat × List Nat × AH) :=
 match rd with
 | none => some (H.next, [H.next], H.push .dfr)
 | some k => match H.t.get k with
  | some (.loop _ _ _ _ _ _ _ d) => some (d, [], H)
  | _ => none

def xcode (P : Program) (G : Nat) (call : CallH) (F lo nt : Nat) (rd : Option Nat) : Code → Sc → Option (XE × Sc)
 | .skip, s => some (.normal, s)
 | .label _, s => some (.normal, s)
 | .region _ ops draw, s =>
  bif draw then
   match writersOf ops.toList 0 with
   | some w =>
    match xdraw P G call lo nt s.T s.H ops.toList w with
    | some d => some (.normal, ⟨d.T, ⟨gather d.ds (Nat.sub (Nat.pow 2 d.i) 1) d.eb (Nat.sub d.i d.eb) d.base, d.next⟩, s.ds⟩)
    | none => none
   | none => none
  else
   match xops P G call lo nt ops.toList ops.toList ⟨s.T, s.H⟩ with
   | some s' => some (.normal, ⟨s'.T, s'.H, s.ds⟩)
   | none => none
 | .seq a b, s =>
  match xcode P G call F lo nt rd a s with
  | some (.normal, s') => xcode P G call F lo nt rd b s'
  | r => r
 | .cond c a b, s =>
  match evT G s.T c with
  | some (.bool true) => xcode P G call F lo nt rd a s
  | some (.bool false) => xcode P G call F lo nt rd b s
  | _ => none
 | .block id c, s =>
  match xcode P G call F lo nt rd c s with
  | some (.exit i, s') => bif Nat.beq i id then some (.normal, s') else some (.exit i, s')
  | r => r
 | .loop c, s => iter (xcode P G call F lo nt rd c) F s
 | .exit id, s => some (.exit id, s)
 | .ret, s => some (.ret, s)
 | .rangeFunc g ps asg body, s =>
  match evT G s.T g with
  | some (.func (.func f) a b) =>
   match blockD rd s.H with
   | some (d, m, H1) =>
    match call lo (.fn f) (a.toList ++ [.func (.yield H1.next) #[] #[]] ++ b.toList) (H1.push (.loop .ready none s.T nt ps.toList asg body d)) with
    | some (_, H2) =>
     match H2.t.get H1.next with
     | some (.loop .busy _ _ _ _ _ _ _) => none
     | some (.loop _ pend T nt' ps' asg' body' d') =>
      bif Nat.ble lo H1.next && hasBody P f then some (jumpOf pend ⟨s.T, ⟨H2.t.put H1.next (.loop .exhausted pend T nt' ps' asg' body' d'), H2.next⟩, m ++ s.ds⟩) else none
     | _ => none
    | none => none
   | none => none
  | _ => none
 | _, _ => none

def putAll (nt : Nat) : List Nat → List Value → Tr Value → Option (Tr Value)
 | [], [], T => some T
 | p :: ps, v :: vs, T => bif Nat.blt p nt then putAll nt ps vs (T.put p v) else none
 | _, _, _ => none

/-- how a round is left: the record, what yield hands back -/
def roundEnd (e : XE) : LoopState × Option XE × Bool :=
 match e with
 | .normal => (.ready, none, true)
 | e => (.done, some e, false)

/-- a round of a range over a function -/
def xround (P : Program) (G : Nat) (call : CallH) (F lo k : Nat) (args : List Value) (H : AH) : Option (Value × AH) :=
 match H.t.get k with
 | some (.loop _ _ T nt ps asg body _) =>
  match putAll nt ps args T with
  | some T1 =>
   match xcode P G call F lo nt (some k) asg ⟨T1, H, []⟩ with
   | some (.normal, s1) =>
    match s1.H.t.get k with
    | some (.loop .ready pend2 T2 nt2 ps2 asg2 body2 d2) =>
     bif Nat.ble lo k then
      match xcode P G call F lo nt (some k) body ⟨s1.T, ⟨s1.H.t.put k (.loop .busy pend2 T2 nt2 ps2 asg2 body2 d2), s1.H.next⟩, s1.ds⟩ with
      | some (e, s3) =>
       match s3.H.t.get k with
       | some (.loop _ _ T4 nt4 ps4 asg4 body4 d4) =>
        some (.bool (roundEnd e).2.2, ⟨s3.H.t.put k (.loop (roundEnd e).1 (roundEnd e).2.1 T4 nt4 ps4 asg4 body4 d4), s3.H.next⟩)
       | _ => none
      | none => none
     else none
    | _ => none
   | _ => none
  | none => none
 | _ => none

/-- the marks of an activation, taken at its end -/
def takeMarks (lo : Nat) : List Nat → AH → Option AH
 | [], H => some H
 | k :: ks, H => match H.t.get k with
  | some .dfr => bif Nat.ble lo k then takeMarks lo ks ⟨H.t.put k .gone, H.next⟩ else none
  | _ => none

/-- the results -/
def xresults (P : Program) (T : Tr Value) (H : AH) : List ResultVar → Option (List Value)
 | [] => some []
 | .tmp t :: r => match xresults P T H r with
  | some l => some (((T.get t).getD undef) :: l)
  | none => none
 | .cell a t :: r => match xload P t ((T.get a).getD undef) H with
  | some v => match xresults P T H r with
   | some l => some (v :: l)
   | none => none
  | none => none

def tupleOf : List Value → Value
 | [v] => v
 | l => .tuple ⟨l⟩

/-- what is known of calls: a function, its arguments, its result; of operations on symbols -/
structure Oracle where
 fn : FuncId → List Value → Option Value
 op : Key → List Value → Option Value
 mem : Nat → FuncId → List Value → AH → Option (Value × AH) := fun _ _ _ _ => none

def xcall (P : Program) (G F : Nat) (orc : Oracle) : Nat → CallH
 | 0, _, _, _, _ => none
 | n + 1, lo, .fn f, args, H =>
  match orc.mem lo f args H with
  | some r => some r
  | none =>
  match orc.fn f args with
  | some v => bif sp 4 v && args.all (sp 4) then some (v, H) else none
  | none =>
   match P.funcs[f]? with
   | some fn =>
    match fn.body with
    | some c =>
     match xcode P G (xcall P G F orc n) F lo (Nat.add (len args) (Nat.sub fn.ntmps (len args))) none c ⟨ofL args, H, []⟩ with
     | some (.exit _, _) => none
     | some (_, s) =>
      match takeMarks lo s.ds s.H with
      | some H2 =>
       match xresults P s.T H2 fn.results.toList with
       | some l => some (tupleOf l, H2)
       | none => none
      | none => none
     | none => none
    | none => none
   | none => none
 | n + 1, lo, .yl k, args, H => xround P G (xcall P G F orc n) F lo k args H
 | _ + 1, _, .op key, args, H =>
  match orc.op key args with
  | some v => bif sp 4 v && args.all (sp 4) then some (v, H) else none
  | none => none
section
variable {P : Program} {ρ : Env} {H : AH} {lo n1 : Nat} {w : World}

theorem evs_congr {ev ev' : Operand → Option Value} : ∀ {l : List Operand}, (∀ x ∈ l, ev x = ev' x) → evs ev l = evs ev' l
 | [], _ => rfl
 | x :: r, h => by rw [evs, evs, h x (by simp), evs_congr fun y hy => h y (by simp [hy])]
theorem evL_congr {ev ev' : Operand → Option Value} : ∀ {l : List (Nat × Operand)}, (∀ x ∈ l.map (·.2), ev x = ev' x) → evL ev l = evL ev' l
 | [], _ => rfl
 | (i, x) :: r, h => by rw [evL, evL, h x (by simp), evL_congr fun y hy => h y (by simp only [List.map_cons, List.mem_cons]; exact .inr hy)]
theorem evO_congr {ev ev' : Operand → Option Value} {x : Option Operand} (h : ∀ y ∈ x.toList, ev y = ev' y) : evO ev x = evO ev' x := by
 cases x with
 | none => rfl
 | some x => rw [evO, evO, h x (by simp)]
theorem allPlain_congr {ev ev' : Operand → Option Value} : ∀ {l : List Operand}, (∀ x ∈ l, ev x = ev' x) → allPlain ev l = allPlain ev' l
 | [], _ => rfl
 | x :: r, h => by rw [allPlain, allPlain, h x (by simp), allPlain_congr fun y hy => h y (by simp [hy])]
theorem ev0_congr {ev ev' : Operand → Option Value} {x : Operand} (h : ev x = ev' x) : ev0 ev x = ev0 ev' x := by rw [ev0, ev0, h]

theorem xopS_congr {ev ev' : Operand → Option Value} {o : Oper} (h : ∀ x ∈ o.op.operands.toList, ev x = ev' x) : xopS P lo ev o H = xopS P lo ev' o H := by
 unfold xopS
 cases ho : o.op <;> simp only [ho, Op.operands] at h <;> try rfl
 case move x => simp only [h x (by simp)]
 case assign x => simp only [h x (by simp)]
 case pick c a b => simp only [h c (by simp), h a (by simp), h b (by simp)]
 case extract x i => simp only [h x (by simp)]
 case box t x => simp only [h x (by simp)]
 case build t ps => simp only; rw [evL_congr fun x hx => h x (by simpa using hx)]
 case buildSlice t n ps => simp only; rw [evL_congr fun x hx => h x (by simpa using hx)]
 case load t x => simp only [h x (by simp)]
 case store t x y => simp only [h x (by simp), h y (by simp)]
 case nilCheck x => simp only [h x (by simp)]
 case binOp op t x y u =>
  simp only [h x (by simp), h y (by simp)]
  rw [show execOp (ev0 ev) o = execOp (ev0 ev') o by simp only [execOp, ho, ev0_congr (h x (by simp)), ev0_congr (h y (by simp))]]
 case unOp op t x =>
  simp only
  rw [allPlain_congr (ev' := ev') (fun y hy => h y (by simpa [ho, Op.operands] using hy)), show execOp (ev0 ev) o = execOp (ev0 ev') o by simp only [execOp, ho, ev0_congr (h x (by simp))]]
 case convert s d x =>
  simp only [h x (by simp)]
  rw [allPlain_congr (ev' := ev') (fun y hy => h y (by simpa [ho, Op.operands] using hy)), show execOp (ev0 ev) o = execOp (ev0 ev') o by simp only [execOp, ho, ev0_congr (h x (by simp))]]
 case makeFunc fn a b =>
  simp only
  rw [evs_congr (l := a.toList) fun x hx => h x (by simp; exact .inl (by simpa using hx)), evs_congr (l := b.toList) fun x hx => h x (by simp; exact .inr (by simpa using hx))]
 case makeSlice t a b => simp only [h a (by simp), h b (by simp)]
 case slice t x l hh m =>
  simp only [h x (by simp), evO_congr (x := l) fun y hy => h y (by simp at hy ⊢; simp [hy]), evO_congr (x := hh) fun y hy => h y (by simp at hy ⊢; simp [hy]), evO_congr (x := m) fun y hy => h y (by simp at hy ⊢; simp [hy])]
 case fieldAddr t x f => simp only [h x (by simp)]
 case field t x f => simp only [h x (by simp)]
 case indexAddr t x i => simp only [h x (by simp), h i (by simp)]
 case index t x i =>
  simp only [h x (by simp), h i (by simp)]
  rw [allPlain_congr (ev' := ev') (fun y hy => h y (by simpa [ho, Op.operands] using hy)), show execOp (ev0 ev) o = execOp (ev0 ev') o by simp only [execOp, ho, ev0_congr (h x (by simp)), ev0_congr (h i (by simp))]]
 case lookup t x k ok => simp only [h x (by simp), h k (by simp)]
 case mapUpdate t m k v => simp only [h m (by simp), h k (by simp), h v (by simp)]
 case insert t m k v => simp only [h m (by simp), h k (by simp), h v (by simp)]
 case range t x => simp only [h x (by simp)]
 case next it b => simp only [h it (by simp)]
 case call c =>
  have ha : ∀ x ∈ c.args.toList, ev x = ev' x := fun x hx => h x (by simp only [Call.operands, Array.toList_append, List.mem_append]; exact .inr hx)
  have e1 := evs_congr ha
  have e2 := allPlain_congr ha
  have e3 : (c.args.map (ev0 ev)) = c.args.map (ev0 ev') := by
   rw [toArr, toArr]
   congr 1
   exact List.map_congr_left fun x hx => ev0_congr (ha x hx)
  cases hc : c.callee <;> simp only [hc] <;> try rfl
  case value f =>
   have e4 : execOp (ev0 ev) o = execOp (ev0 ev') o := by simp only [execOp, ho, resolve, hc, e3, ev0_congr (h f (by simp [Call.operands, hc]))]
   have e5 : allPlain ev o.op.operands.toList = allPlain ev' o.op.operands.toList := allPlain_congr (ev' := ev') (fun y hy => h y (by simpa [ho, Op.operands] using hy))
   rw [h f (by simp [Call.operands, hc]), e1, e4]
   simp only [ho] at e5
   simp only [ho, e5]
  case builtin b =>
   have e4 : execOp (ev0 ev) o = execOp (ev0 ev') o := by simp only [execOp, ho, resolve, hc, e3]
   cases b <;> simp only [e1, e2, e4]

def GOK (G : Nat) (ρ : Env) : Prop := ∀ g, g < G → ∃ L, ρ g = some L ∧ L.blk = g ∧ L.off = 0
theorem GOK.mono {G : Nat} {ρ' : Env} (h : GOK G ρ) (s : Sub ρ ρ') : GOK G ρ' := fun g hg => let ⟨L, a, b⟩ := h g hg; ⟨L, s _ _ a, b⟩

structure TR (Ds : List Deferred) (ρ : Env) (nt : Nat) (T : Tr Value) (a : Act) : Prop where
 size : a.tmps.size = nt
 defers : a.defers = Ds
 tmp : ∀ t : Nat, VR ρ ((T.get t).getD undef) (a.tmps.getD t undef)

theorem TR.mono {Ds : List Deferred} {ρ' : Env} {nt : Nat} {T : Tr Value} {a : Act} (h : TR Ds ρ nt T a) (s : Sub ρ ρ') : TR Ds ρ' nt T a := ⟨h.size, h.defers, fun t => (h.tmp t).mono s⟩

theorem ev_tmp {G : Nat} {T : Tr Value} {a : Act} {x : Operand} {v : Value} (hG : GOK G ρ) (ht : ∀ t, x = .tmp t → VR ρ ((T.get t).getD undef) (a.tmps.getD t undef)) (h : evT G T x = some v) : VR ρ v (a.eval x) := by
 cases x with
 | tmp t =>
  have := ht t rfl
  simp only [evT] at h
  cases hg : T.get t with
  | none => rw [hg] at h this; obtain rfl := Option.some.inj h; exact this
  | some u => rw [hg] at h this; obtain rfl := Option.some.inj h; exact this
 | const c =>
  simp only [evT] at h
  cases hp : plain 4 c <;> rw [hp] at h <;> simp only [cond_true, cond_false] at h
  ·cases h
  ·obtain rfl := Option.some.inj h; exact VR.plain_refl ρ hp
 | global g =>
  simp only [evT] at h
  cases hp : Nat.blt g G <;> rw [hp] at h <;> simp only [cond_true, cond_false] at h
  ·cases h
  ·obtain rfl := Option.some.inj h
   obtain ⟨L, h1, h2, h3⟩ := hG g (blt_of hp)
   have := VR.ptr (ρ := ρ) (o := 0) h1
   rw [h2, h3] at this
   exact this
 | func f =>
  simp only [evT] at h
  obtain rfl := Option.some.inj h
  exact VR.plain_refl (n := 2) ρ rfl

theorem TR.put {Ds : List Deferred} {nt : Nat} {T T' : Tr Value} {a : Act} {d : Option Tmp} {v v' : Value} (h : TR Ds ρ nt T a) (hv : VR ρ v v') (hp : putO T nt d v = some T') : TR Ds ρ nt T' (a.put d v') := by
 cases d with
 | none => simp only [putO, Option.some.injEq] at hp; subst hp; exact h
 | some d =>
  simp only [putO] at hp
  cases hb : Nat.blt d nt <;> rw [hb] at hp <;> simp only [cond_true, cond_false] at hp
  ·cases hp
  obtain rfl := Option.some.inj hp
  have hd := blt_of hb
  refine ⟨by simp [Act.put, h.size], h.defers, fun t => ?_⟩
  rw [Tr.get_put]
  by_cases e : t = d
  ·subst e
   rw [if_pos rfl]
   have : t < a.tmps.size := by rw [h.size]; exact hd
   simp only [Act.put, Option.getD_some]
   rw [getD_lt (by simpa using this)]
   simpa using hv
  ·rw [if_neg e]
   have h1 := h.tmp t
   simp only [Act.put]
   by_cases h2 : t < a.tmps.size
   ·rw [getD_lt h2] at h1
    rw [getD_lt (by simpa using h2), Array.getElem_setIfInBounds_ne h2 (Ne.symm e)]
    exact h1
   ·simpa [Array.getD, h2] using h1

/-- what an operation on symbols yields, wherever it stands -/
def KeySem (P : Program) (key : Key) (args : List Value) (v : Value) : Prop :=
 match key with
 | .conc => args = [v]
 | key => ∀ (o : Oper) (e : Operand → Value) (xs : List Operand), keyOp o.op = some (key, xs) → xs.map e = args → ∀ w : World, (execOp e o).run P w = .ok (.value v) w

def FW (r : Option Nat) : Fence := { Fence.wide with round := r }
theorem callsIn_FW {r : Option Nat} {n : Nat} {P : Program} {f : FuncId} {args : Array Value} {w : World} {R : Ending → World → Prop} : CallsIn (FW r) n P f args w R ↔ Calls P f args w R :=
 callsIn_wide (n := n)
theorem roundIn_FW {r r' : Option Nat} {n : Nat} {P : Program} {l : Nat} {f : FuncId} {tmps : Array Value} {asg body : Code} {w : World} {R : Ending → World → Prop} (h : RoundIn (FW r) n P l f tmps asg body w R) : RoundIn (FW r') n P l f tmps asg body w R := h

/-- a contract of the calls that the runner makes -/
def CallOK (P : Program) (G : Nat) (call : CallH) : Prop :=
 ∀ lo f args H v H', call lo f args H = some (v, H') → ∀ ρ n1 w args', GOK G ρ → Inv ρ H lo n1 w → LR ρ args args' →
  match f with
  | .fn f => Calls P f args'.toArray w fun e w' => ∃ v' ρ', e = .returned v' ∧ VR ρ' v v' ∧ Step ρ H lo n1 w ρ' H' w'
  | .yl k => ∃ L : Loc, ρ k = some L ∧ L.off = 0 ∧ ∃ f tmps asg body, (Instr.yield L.blk args'.toArray).run P w = .ok (.round L.blk f tmps asg body) w ∧
    RoundIn (FW none) 0 P L.blk f tmps asg body w fun e w' => ∃ v' ρ', e = .returned v' ∧ VR ρ' v v' ∧ Step ρ H lo n1 w ρ' H' w'
  | .op key => H' = H ∧ ∃ v', VR ρ v v' ∧ KeySem P key args' v'

theorem wp_of_value {r : Option Nat} {o : Oper} {a : Act} {w : World} {K : Act → World → Prop} {Q : Exit → Act → World → Prop} {v : Value} {w' : World} (hnd : ∀ c, o.op ≠ .defer c) (h : (execOp a.eval o).run P w = .ok (.value v) w' ∨ ((execOp a.eval o).run P w = .ok .skip w' ∧ v = undef))
  (hK : K (a.put o.dst v) w') : o.wpIn (FW r) 0 P a w K Q := by
 refine ⟨fun _ _ => trivial, ?_⟩
 rw [Oper.semAt_eq _ _ _ hnd]
 rcases h with h | ⟨h, rfl⟩ <;> rw [h] <;> exact hK

theorem not_defer {ev : Operand → Option Value} {o : Oper} {r : Act1} (h : xopS P lo ev o H = some r) : ∀ c, o.op ≠ .defer c := fun c hc => by
 unfold xopS at h
 rw [hc] at h
 cases h
theorem keyOp_not_defer {o : Oper} {key : Key} {xs : List Operand} (h : keyOp o.op = some (key, xs)) : ∀ c, o.op ≠ .defer c := fun c hc => by
 rw [hc] at h
 cases h
theorem keyOp_not_conc {op : Op} {xs : List Operand} (h : keyOp op = some (.conc, xs)) : False := by
 unfold keyOp at h
 split at h <;> try (simp at h; done)
 split at h <;> simp at h
theorem keyOp_sub {op : Op} {key : Key} {xs : List Operand} (h : keyOp op = some (key, xs)) : ∀ x ∈ xs, x ∈ op.operands.toList := by
 unfold keyOp at h
 split at h
 ·simp only [Option.some.injEq, Prod.mk.injEq] at h; obtain ⟨_, rfl⟩ := h; intro x hx; simpa [Op.operands] using hx
 ·simp only [Option.some.injEq, Prod.mk.injEq] at h; obtain ⟨_, rfl⟩ := h; intro x hx; simpa [Op.operands] using hx
 ·simp only [Option.some.injEq, Prod.mk.injEq] at h; obtain ⟨_, rfl⟩ := h; intro x hx; simpa [Op.operands] using hx
 ·simp only [Option.some.injEq, Prod.mk.injEq] at h; obtain ⟨_, rfl⟩ := h; intro x hx; simpa [Op.operands] using hx
 ·split at h
  ·rename_i c b hc
   simp only [Option.some.injEq, Prod.mk.injEq] at h
   obtain ⟨_, rfl⟩ := h
   intro x hx
   simp only [Op.operands, Call.operands, Array.toList_append, List.mem_append]
   exact .inr hx
  ·cases h
 ·cases h

open Classical in
theorem xdo_wp {r : Option Nat} {G : Nat} {call : CallH} {T : Tr Value} {a : Act} {o : Oper} {v : Value} {H' : AH} {K : Act → World → Prop} {Q : Exit → Act → World → Prop} (hnn : NoNum P) (hC : CallOK P G call) (hG : GOK G ρ)
  (hr : ∀ x ∈ o.op.operands.toList, ∀ u, evT G T x = some u → VR ρ u (a.eval x)) (hI : Inv ρ H lo n1 w) (hx : xdo P G call lo o ⟨T, H⟩ = some (v, H'))
  (hK : ∀ v' w' ρ', VR ρ' v v' → Step ρ H lo n1 w ρ' H' w' → K (a.put o.dst v') w') : o.wpIn (FW r) 0 P a w K Q := by
 unfold xdo at hx
 simp only at hx
 have hev : EV ρ (fun x => if x ∈ o.op.operands.toList then evT G T x else none) a.eval := fun x u hu => by
  simp only at hu
  split at hu
  ·exact hr x ‹_› u hu
  ·cases hu
 have hevC : EV ρ (fun x => if x ∈ o.op.operands.toList then evC call lo H (evT G T) x else none) a.eval := fun x u hu => by
  simp only at hu
  split at hu
  ·rename_i hxo
   unfold evC at hu
   split at hu
   ·rename_i k i j hk
    have h0 := hr x hxo _ hk
    split at hu
    ·rename_i v2 H2 hc
     obtain rfl := Option.some.inj hu
     obtain ⟨_, v', h1, h2⟩ := hC _ _ _ _ _ _ hc ρ n1 w [a.eval x] hG hI (.cons h0 (.nil _))
     simp only [KeySem, List.cons.injEq, and_true] at h2
     rw [h2]
     exact h1
    ·obtain rfl := Option.some.inj hu
     exact h0
   ·exact hr x hxo u hu
  ·cases hu
 rw [xop_eq, xopS_congr (ev' := fun x => if x ∈ o.op.operands.toList then evT G T x else none) (fun x hx => by simp only [if_pos hx])] at hx
 split at hx <;> try cases hx
 ·rename_i H1 h1
  obtain ⟨v', w', ρ', h2, h3, h4⟩ := xopS_does hnn hev hI h1
  exact wp_of_value (not_defer h1) h2 (hK v' w' ρ' h3 h4)
 ·rename_i f args h1
  obtain ⟨hb, args', h2, h3⟩ := xopS_does hnn hev hI h1
  refine ⟨fun _ _ => trivial, ?_⟩
  rw [Oper.semAt_eq _ _ _ (not_defer h1), h2, Oper.uponIn_enter]
  refine ⟨fun h => (by cases h), callsIn_FW.2 ?_⟩
  refine (hC lo (.fn f) args H v H' hx ρ n1 w args' hG hI h3).mono fun e w' ⟨v', ρ', he, h4, h5⟩ => ?_
  subst he
  exact hK v' w' ρ' h4 h5
 ·rename_i k args h1
  obtain ⟨L, args', h2, h3, h4, h5⟩ := xopS_does hnn hev hI h1
  obtain ⟨L2, g1, g2, f, tmps, asg, body, g3, g4⟩ := hC lo (.yl k) args H v H' hx ρ n1 w args' hG hI h5
  rw [h2] at g1
  obtain rfl := Option.some.inj g1
  refine ⟨fun _ _ => trivial, ?_⟩
  rw [Oper.semAt_eq _ _ _ (not_defer h1), h4, g3, Oper.uponIn_round]
  refine ⟨fun h => (by cases h), roundIn_FW (RoundIn.mono g4 fun e w' ⟨v', ρ', he, h6, h7⟩ => ?_)⟩
  subst he
  exact hK v' w' ρ' h6 h7
 ·rw [xop_eq, xopS_congr (ev' := fun x => if x ∈ o.op.operands.toList then evC call lo H (evT G T) x else none) (fun x hx => by simp only [if_pos hx])] at hx
  split at hx <;> try cases hx
  ·rename_i H1 h1
   obtain ⟨v', w', ρ', h2, h3, h4⟩ := xopS_does hnn hevC hI h1
   exact wp_of_value (not_defer h1) h2 (hK v' w' ρ' h3 h4)
  ·split at hx <;> try cases hx
   rename_i key xs hk
   split at hx <;> try cases hx
   rename_i args ha
   have ha' : evs (fun x => if x ∈ o.op.operands.toList then evT G T x else none) xs = some args := by
    rw [← ha]
    exact evs_congr fun x hx => by simp only [if_pos (keyOp_sub hk x hx)]
   obtain ⟨rfl, v', h1, h2⟩ := hC lo (.op key) args H v H' hx ρ n1 w _ hG hI (evs_rel hev ha')
   have h3 : (execOp a.eval o).run P w = .ok (.value v') w := by
    cases key <;> try exact h2 o a.eval xs hk rfl w
    exact (keyOp_not_conc hk).elim
   exact wp_of_value (keyOp_not_defer hk) (.inl h3) (hK v' w ρ h1 (Step.refl hI))

theorem yielded_eq {opsA : Array Oper} {ops : List Oper} {tmps : Array Value} (ho : opsA.toList = ops) (j : Nat) : yielded opsA tmps j = match (ops[j]?.bind (·.dst)).bind (tmps[·]?) with | some (.bool b) => some b | _ => none := by
 subst ho
 unfold yielded
 rw [Array.getElem?_toList]
 rfl

theorem want_rel {opsA : Array Oper} {ops : List Oper} {T : Tr Value} {a : Act} {o : Oper} {b : Bool} (ho : opsA.toList = ops)
  (hr : ∀ t, Operand.tmp t ∈ readsOf ops o → VR ρ ((T.get t).getD undef) (a.tmps.getD t undef)) (hx : wantO ops T o = some b) : Region.wanted o (yielded opsA a.tmps) = b := by
 unfold wantO at hx
 unfold Region.wanted
 cases hg : o.guard with
 | none => rw [hg] at hx; simp at hx; simp [hx]
 | some jb =>
  obtain ⟨j, c⟩ := jb
  rw [hg] at hx
  simp only at hx ⊢
  rw [yielded_eq ho]
  rw [nth_eq] at hx
  cases hj : ops[j]? with
  | none => rw [hj] at hx; cases hx
  | some oj =>
   rw [hj] at hx
   simp only at hx
   cases hd : oj.dst with
   | none => rw [hd] at hx; cases hx
   | some d =>
    rw [hd] at hx
    simp only at hx
    simp only [Option.bind_some, hd]
    have hm : Operand.tmp d ∈ readsOf ops o := by
     unfold readsOf
     rw [hg]
     simp only [nth_eq, hj, hd]
     simp
    have hv := hr d hm
    have key : ∀ u : Value, a.tmps.getD d undef = u → (∀ q, u ≠ .bool q) → (match a.tmps[d]? with | some (.bool b) => some b | _ => none : Option Bool) = none := fun u hu hne => by
     cases ht : a.tmps[d]? with
     | none => rfl
     | some y =>
      have : a.tmps.getD d undef = y := by simp [Array.getD_eq_getD_getElem?, ht]
      rw [this] at hu
      subst hu
      cases y <;> first | rfl | exact absurd rfl (hne _)
    cases hT : T.get d with
    | none =>
     rw [hT] at hx hv
     simp only [Option.some.injEq] at hx
     subst hx
     have h1 : a.tmps.getD d undef = undef := VR.atom_eq hv rfl
     rw [key _ h1 (fun q => by simp [undef])]
     rfl
    | some u =>
     rw [hT] at hx hv
     split at hx <;> try cases hx
     ·rename_i q hq
      obtain rfl := Option.some.inj hq
      have h1 : a.tmps.getD d undef = .bool q := VR.atom_eq hv rfl
      have h2 : a.tmps[d]? = some (.bool q) := by
       cases ht : a.tmps[d]? with
       | none => rw [Array.getD_eq_getD_getElem?, ht] at h1; simp [undef] at h1
       | some y => rw [Array.getD_eq_getD_getElem?, ht] at h1; simp at h1; rw [h1]
      rw [h2]
      cases q <;> cases c <;> rfl
     ·rename_i vs hq
      obtain rfl := Option.some.inj hq
      obtain ⟨l', h1, _⟩ := VR.tuple_inv hv
      rw [key _ h1 (fun q => by simp)]
      rfl
     ·rename_i hq
      cases hq

theorem xstep_wp {r : Option Nat} {G : Nat} {call : CallH} {opsA : Array Oper} {ops : List Oper} {T : Tr Value} {a : Act} {o : Oper} {v : Value} {H' : AH} {K : Act → World → Prop} {Q : Exit → Act → World → Prop} (hnn : NoNum P) (hC : CallOK P G call) (hG : GOK G ρ)
  (ho : opsA.toList = ops) (hr : ∀ t, Operand.tmp t ∈ readsOf ops o → VR ρ ((T.get t).getD undef) (a.tmps.getD t undef)) (hI : Inv ρ H lo n1 w) (hx : xstep P G call lo ops o ⟨T, H⟩ = some (v, H'))
  (hK : ∀ v' w' ρ', VR ρ' v v' → Step ρ H lo n1 w ρ' H' w' → K (a.put o.dst v') w') :
  if Region.wanted o (yielded opsA a.tmps) = true then o.wpIn (FW r) 0 P a w K Q else (∀ f, o.about P w a.eval = some f → (FW r).fn f) ∧ K (a.put o.dst undef) w := by
 unfold xstep at hx
 split at hx <;> try cases hx
 ·rename_i hw
  rw [want_rel ho hr hw]
  simp only [if_true]
  exact xdo_wp hnn hC hG (fun x hxo u hu => ev_tmp hG (fun t ht => hr t (by subst ht; unfold readsOf; exact List.mem_append_left _ hxo)) hu) hI hx hK
 ·rename_i hw
  rw [want_rel ho hr hw]
  simp only [Bool.false_eq_true, if_false]
  exact ⟨fun _ _ => trivial, hK undef w ρ (VR.und ρ) (Step.refl hI)⟩

theorem xops_wp {Ds : List Deferred} {r : Option Nat} {G : Nat} {call : CallH} {nt : Nat} {opsA : Array Oper} {ops : List Oper} {Q : Exit → Act → World → Prop} (hnn : NoNum P) (hC : CallOK P G call) (ho : opsA.toList = ops) :
  ∀ (rest : List Oper) (k : Nat) (s s' : St) (ρ : Env) (w : World) (a : Act), (∀ j, rest[j]? = ops[k + j]?) → GOK G ρ → Inv ρ s.H lo n1 w → TR Ds ρ nt s.T a → xops P G call lo nt ops rest s = some s' →
   (∀ a' w' ρ', TR Ds ρ' nt s'.T a' → Step ρ s.H lo n1 w ρ' s'.H w' → Q .normal a' w') → wpOpsIn (FW r) 0 P opsA Q (List.range' k rest.length) a w
 | [], k, s, s', ρ, w, a, _, hG, hI, hT, hx, hQ => by
  simp only [xops, Option.some.injEq] at hx
  subst hx
  exact hQ a w ρ hT (Step.refl hI)
 | o :: rest, k, s, s', ρ, w, a, hk, hG, hI, hT, hx, hQ => by
  have h0 : opsA[k]? = some o := by
   have := hk 0
   simp only [List.getElem?_cons_zero, Nat.add_zero] at this
   rw [← Array.getElem?_toList, ho, ← this]
  simp only [List.length_cons, List.range'_succ, wpOpsIn, h0]
  rw [xops] at hx
  split at hx <;> try cases hx
  rename_i v H h1
  split at hx <;> try cases hx
  rename_i T h2
  exact xstep_wp (T := s.T) (H := s.H) hnn hC hG ho (fun t _ => hT.tmp t) hI h1 fun v' w' ρ' hv hs =>
   xops_wp hnn hC ho rest (k + 1) ⟨T, H⟩ s' ρ' w' _ (fun j => by have := hk (j + 1); simpa [Nat.add_assoc, Nat.add_comm 1 j] using this) (hG.mono (hs.sub hI)) hs.inv
    (TR.put (hT.mono (hs.sub hI)) hv h2) hx fun a' w'' ρ'' hT' hs' => hQ a' w'' ρ'' hT' (hs.trans hs')
end
def restr (ρ : Env) (s : Nat) : Env := fun k => if k < s then ρ k else none
theorem restr_some {ρ : Env} {s k : Nat} {L : Loc} (h : restr ρ s k = some L) : k < s ∧ ρ k = some L := by
 unfold restr at h
 split at h
 ·exact ⟨‹_›, h⟩
 ·cases h
theorem restr_mk {ρ : Env} {s k : Nat} {L : Loc} (hk : k < s) (h : ρ k = some L) : restr ρ s k = some L := by unfold restr; rw [if_pos hk]; exact h
theorem restr_sub (ρ : Env) (s : Nat) : Sub (restr ρ s) ρ := fun k L h => (restr_some h).2
theorem restr_mono {ρ ρ' : Env} {s s' : Nat} (hs : s ≤ s') (h : ∀ k L, k < s → ρ k = some L → ρ' k = some L) : Sub (restr ρ s) (restr ρ' s') := fun k L hk => by
 obtain ⟨h1, h2⟩ := restr_some hk
 exact restr_mk (Nat.lt_of_lt_of_le h1 hs) (h k L h1 h2)
theorem restr_le {ρ : Env} {s s' : Nat} (hs : s ≤ s') : Sub (restr ρ s) (restr ρ s') := restr_mono hs fun _ _ _ h => h

theorem VR.restr {ρ ρ0 : Env} {s : Nat} {v v' : Value} (h : VR ρ v v') : ∀ {v0 : Value}, VR (restr ρ0 s) v v0 → VR (Run.restr ρ s) v v' := by
 induction h with
 | atom v h => intro v0 _; exact .atom v h
 | sym => intro v0 _; exact .sym
 | ptr h =>
  intro v0 h0
  cases h0 with
  | atom _ h => simp [Run.atom] at h
  | ptr h1 => exact .ptr (restr_mk (restr_some h1).1 h)
 | slice h a b c =>
  intro v0 h0
  cases h0 with
  | atom _ h => simp [Run.atom] at h
  | slice h1 _ _ _ => exact .slice (restr_mk (restr_some h1).1 h) a b c
 | map h o =>
  intro v0 h0
  cases h0 with
  | atom _ h => simp [Run.atom] at h
  | map h1 _ => exact .map (restr_mk (restr_some h1).1 h) o
 | yield h o =>
  intro v0 h0
  cases h0 with
  | atom _ h => simp [Run.atom] at h
  | yield h1 _ => exact .yield (restr_mk (restr_some h1).1 h) o
 | func a b c d ic id =>
  intro v0 h0
  cases h0 with
  | atom _ h => simp [Run.atom] at h
  | func a1 b1 c1 d1 => exact .func a b (fun i => ic i (c1 i)) (fun i => id i (d1 i))
 | iface r ih =>
  intro v0 h0
  cases h0 with
  | atom _ h => simp [Run.atom] at h
  | iface r1 => exact .iface (ih r1)
 | agg a b ib =>
  intro v0 h0
  cases h0 with
  | atom _ h => simp [Run.atom] at h
  | agg a1 b1 => exact .agg a (fun i => ib i (b1 i))
 | tuple a b ib =>
  rename_i x x'
  intro v0 h0
  cases h0 with
  | atom _ h =>
   obtain ⟨l⟩ := x
   cases l with
   | nil =>
    obtain ⟨l'⟩ := x'
    cases l' with
    | nil => exact .atom _ rfl
    | cons => simp at a
   | cons => simp [Run.atom] at h
  | tuple a1 b1 => exact .tuple a (fun i => ib i (b1 i))

theorem MR.restr {ρ ρ0 : Env} {s : Nat} : ∀ {es : List (Value × Value × Nat)} {ES ES0 : List MapEntry}, MR ρ es ES → MR (Run.restr ρ0 s) es ES0 → MR (Run.restr ρ s) es ES
 | [], [], [], _, _ => trivial
 | (_, _, _) :: _, _ :: _, _ :: _, h, h0 => ⟨h.1, h.2.1, h.2.2.1.restr h0.2.2.1, h.2.2.2.1, MR.restr h.2.2.2.2 h0.2.2.2.2⟩
 | [], _ :: _, _, h, _ => h.elim
 | [], _, _ :: _, _, h => h.elim
 | _ :: _, [], _, h, _ => by simp [MR] at h
 | _ :: _, _, [], _, h => by simp [MR] at h

theorem BR.restr {ρ ρ0 : Env} {s : Nat} {L L0 : Loc} {b : AB} {o o0 : Option Obj} (h : BR ρ L b o) (h0 : BR (Run.restr ρ0 s) L0 b o0) : BR (Run.restr ρ s) L b o := by
 cases b with
 | cells c n es =>
  cases o with
  | none => exact h.elim
  | some o =>
   cases o <;> try exact h.elim
   cases o0 with
   | none => exact h0.elim
   | some o0 =>
    cases o0 <;> try exact h0.elim
    exact ⟨h.1, h.2.1, h.2.2.1, h.2.2.2.1, h.2.2.2.2.1, fun i hi => (h.2.2.2.2.2 i hi).restr (h0.2.2.2.2.2 i hi)⟩
 | amap es clock =>
  cases o with
  | none => exact h.elim
  | some o =>
   cases o <;> try exact h.elim
   cases o0 with
   | none => exact h0.elim
   | some o0 =>
    cases o0 <;> try exact h0.elim
    exact ⟨h.1, h.2.1, h.2.2.restr h0.2.2⟩
 | siter t pos =>
  cases o with
  | none => exact h.elim
  | some o =>
   cases o <;> try exact h.elim
   exact h
 | loop st pend T nt ps asg body d =>
  cases o with
  | none => exact h.elim
  | some o =>
   cases o <;> try exact h.elim
   cases o0 with
   | none => exact h0.elim
   | some o0 =>
    cases o0 <;> try exact h0.elim
    obtain ⟨h1, h2, h3, h4, h5, h6, h7, h8, M, h9, h10⟩ := h
    obtain ⟨_, _, _, _, _, _, _, g8, M0, g9, _⟩ := h0
    exact ⟨h1, h2, h3, h4, h5, h6, h7, fun t => (h8 t).restr (g8 t), M, restr_mk (restr_some g9).1 h9, h10⟩
 | dfr =>
  cases o with
  | none => exact h.elim
  | some o =>
   cases o <;> try exact h.elim
   rename_i x
   cases x with
   | none => exact h.elim
   | some l => cases l with
    | nil => exact h
    | cons => exact h.elim
 | gone =>
  cases o with
  | none => exact h.elim
  | some o => trivial
 | fixed =>
  cases o with
  | none => exact h.elim
  | some o => exact h

theorem addAll_get : ∀ (l : List (Nat × AB)) (t : Tr AB) (q : Nat) (c : AB), (addAll t l).get q = some c → t.get q = some c ∨ (q, c) ∈ l
 | [], t, q, c, h => .inl h
 | (k, b) :: r, t, q, c, h => by
  rcases addAll_get r _ q c h with h | h
  ·rw [Tr.get_put] at h
   by_cases e : q = k
   ·subst e
    rw [if_pos rfl] at h
    obtain rfl := Option.some.inj h
    exact .inr (by simp)
   ·rw [if_neg e] at h; exact .inl h
  ·exact .inr (by simp [h])
theorem addAll_none : ∀ (l : List (Nat × AB)) (t : Tr AB) (q : Nat), (∀ c, (q, c) ∉ l) → (addAll t l).get q = t.get q
 | [], t, q, _ => rfl
 | (k, b) :: r, t, q, h => by
  rw [addAll, addAll_none r _ q (fun c hc => h c (by simp [hc])), Tr.get_put, if_neg (fun e => h b (by simp [e]))]

theorem delta_mem : ∀ (n a : Nat) (t : Tr AB) (q : Nat) (c : AB), (q, c) ∈ delta t a n → a ≤ q ∧ q < a + n ∧ t.get q = some c
 | 0, a, t, q, c, h => by simp [delta] at h
 | n + 1, a, t, q, c, h => by
  rw [delta] at h
  cases hg : t.get a with
  | none =>
   rw [hg] at h
   obtain ⟨h1, h2, h3⟩ := delta_mem n (a + 1) t q c h
   exact ⟨by omega, by omega, h3⟩
  | some b =>
   rw [hg] at h
   simp only [List.mem_cons, Prod.mk.injEq] at h
   rcases h with ⟨rfl, rfl⟩ | h
   ·exact ⟨Nat.le_refl _, by omega, hg⟩
   ·obtain ⟨h1, h2, h3⟩ := delta_mem n (a + 1) t q c h
    exact ⟨by omega, by omega, h3⟩

theorem gather_get (ds : Tr (List (Nat × AB))) (mask eb : Nat) : ∀ (n : Nat) (t : Tr AB) (q : Nat) (c : AB), (gather ds mask eb n t).get q = some c →
  t.get q = some c ∨ ∃ j, eb ≤ j ∧ j < eb + n ∧ Nat.testBit mask j = true ∧ (q, c) ∈ (ds.get j).getD []
 | 0, t, q, c, h => .inl h
 | n + 1, t, q, c, h => by
  have e : Nat.add eb n = eb + n := rfl
  rcases gather_get ds mask eb n _ q c h with h | ⟨j, h1, h2, h3, h4⟩
  ·rw [e] at h
   cases hb : Nat.testBit mask (eb + n) <;> rw [hb] at h <;> simp only [cond_true, cond_false] at h
   ·exact .inl h
   ·rcases addAll_get _ _ _ _ h with h | h
    ·exact .inl h
    ·exact .inr ⟨eb + n, by omega, by omega, hb, h⟩
  ·exact .inr ⟨j, h1, by omega, h3, h4⟩
theorem gather_none (ds : Tr (List (Nat × AB))) (mask eb : Nat) (q : Nat) (hq : ∀ j c, (q, c) ∉ (ds.get j).getD []) : ∀ (n : Nat) (t : Tr AB), (gather ds mask eb n t).get q = t.get q
 | 0, t => rfl
 | n + 1, t => by
  have e : Nat.add eb n = eb + n := rfl
  rw [gather, gather_none ds mask eb q hq n, e]
  cases hb : Nat.testBit mask (eb + n)
  ·rfl
  ·exact addAll_none _ _ _ (hq _)

theorem bits_spec {m n j : Nat} (h : bits m n = true) (hj : Nat.testBit m j = true) : Nat.testBit n j = true := by
 have h1 : m &&& n = m := beq_of h
 rw [← h1, Nat.testBit_and] at hj
 simp at hj
 exact hj.2

theorem maskOf_spec {m : Tr Nat} : ∀ {l : List Edge} {j : Nat}, Nat.testBit (maskOf m l) j = true → ∃ e ∈ l, Region.binds .any e = true ∧ (j = e.on ∨ Nat.testBit ((m.get e.on).getD 0) j = true)
 | [], j, h => by simp [maskOf] at h
 | e :: r, j, h => by
  rw [maskOf] at h
  cases hb : Region.binds .any e <;> rw [hb] at h <;> simp only [cond_true, cond_false] at h
  ·obtain ⟨e', h1, h2⟩ := maskOf_spec h
   exact ⟨e', by simp [h1], h2⟩
  ·have h : Nat.testBit ((2 ^ e.on ||| (m.get e.on).getD 0) ||| maskOf m r) j = true := h
   rw [Nat.testBit_or, Nat.testBit_or, Nat.testBit_two_pow] at h
   simp only [Bool.or_eq_true, decide_eq_true_eq] at h
   rcases h with (h | h) | h
   ·exact ⟨e, by simp, hb, .inl h.symm⟩
   ·exact ⟨e, by simp, hb, .inr h⟩
   ·obtain ⟨e', h1, h2⟩ := maskOf_spec h
    exact ⟨e', by simp [h1], h2⟩
theorem maskOf_has {m : Tr Nat} : ∀ {l : List Edge} {e : Edge}, e ∈ l → Region.binds .any e = true → Nat.testBit (maskOf m l) e.on = true
 | [], e, h, _ => by cases h
 | e' :: r, e, h, hb => by
  rw [maskOf]
  cases h with
  | head =>
   rw [hb]
   show Nat.testBit ((2 ^ e'.on ||| (m.get e'.on).getD 0) ||| maskOf m r) e'.on = true
   rw [Nat.testBit_or, Nat.testBit_or, Nat.testBit_two_pow]
   simp
  | tail _ h =>
   have ih := maskOf_has (m := m) h hb
   cases hb' : Region.binds .any e'
   ·exact ih
   ·show Nat.testBit ((2 ^ e'.on ||| (m.get e'.on).getD 0) ||| maskOf m r) e.on = true
    rw [Nat.testBit_or, ih]; simp

theorem testBit_lt {m i j : Nat} (h : m < 2 ^ i) (hj : Nat.testBit m j = true) : j < i := by
 rcases Nat.lt_or_ge j i with h' | h'
 ·exact h'
 ·rw [Nat.testBit_lt_two_pow (Nat.lt_of_lt_of_le h (Nat.pow_le_pow_right (by omega) h'))] at hj
  cases hj

theorem readsOk_spec {w : Tr Nat} {mask i : Nat} : ∀ {l : List Operand}, readsOk w mask i l = true → ∀ t j, Operand.tmp t ∈ l → w.get t = some j → Nat.testBit mask j = true ∨ i ≤ j
 | [], _, _, _, h, _ => by cases h
 | x :: r, h, t, j, hm, hw => by
  cases x with
  | tmp u =>
   simp only [readsOk, Bool.and_eq_true] at h
   cases hm with
   | head =>
    rw [hw] at h
    simp only [Bool.or_eq_true] at h
    exact h.1.imp id ble_of
   | tail _ hm => exact readsOk_spec h.2 t j hm hw
  | const c =>
   simp only [readsOk] at h
   cases hm with
   | tail _ hm => exact readsOk_spec h t j hm hw
  | global g =>
   simp only [readsOk] at h
   cases hm with
   | tail _ hm => exact readsOk_spec h t j hm hw
  | func f =>
   simp only [readsOk] at h
   cases hm with
   | tail _ hm => exact readsOk_spec h t j hm hw

theorem addReads_old {i : Nat} : ∀ {l : List Operand} {m : Tr Nat} {t j : Nat}, Nat.testBit ((m.get t).getD 0) j = true → Nat.testBit (((addReads i l m).get t).getD 0) j = true
 | [], m, t, j, h => h
 | x :: r, m, t, j, h => by
  cases x with
  | tmp u =>
   refine addReads_old (l := r) ?_
   rw [Tr.get_put]
   by_cases e : t = u
   ·subst e
    rw [if_pos rfl]
    show Nat.testBit ((m.get t).getD 0 ||| 2 ^ i) j = true
    rw [Nat.testBit_or, h]; rfl
   ·rw [if_neg e]; exact h
  | const c => exact addReads_old (l := r) h
  | global g => exact addReads_old (l := r) h
  | func f => exact addReads_old (l := r) h
theorem addReads_new {i : Nat} : ∀ {l : List Operand} {m : Tr Nat} {t : Nat}, Operand.tmp t ∈ l → Nat.testBit (((addReads i l m).get t).getD 0) i = true
 | [], _, _, h => by cases h
 | x :: r, m, t, h => by
  cases x with
  | tmp u =>
   cases h with
   | head =>
    refine addReads_old (l := r) ?_
    rw [Tr.get_put, if_pos rfl]
    show Nat.testBit ((m.get t).getD 0 ||| 2 ^ i) i = true
    rw [Nat.testBit_or, Nat.testBit_two_pow]; simp
   | tail _ h => exact addReads_new (l := r) h
  | const c => cases h with | tail _ h => exact addReads_new (l := r) h
  | global g => cases h with | tail _ h => exact addReads_new (l := r) h
  | func f => cases h with | tail _ h => exact addReads_new (l := r) h

theorem writersOf_spec : ∀ {l : List Oper} {i : Nat} {w : Tr Nat}, writersOf l i = some w → ∀ d j, w.get d = some j ↔ ∃ o, i ≤ j ∧ l[j - i]? = some o ∧ o.dst = some d
 | [], i, w, h, d, j => by
  simp only [writersOf, Option.some.injEq] at h
  subst h
  rw [Tr.get_leaf]
  constructor
  ·intro h; cases h
  ·rintro ⟨o, _, h, _⟩; simp at h
 | o :: r, i, w, h, d, j => by
  rw [writersOf] at h
  cases hr : writersOf r (Nat.succ i) with
  | none => rw [hr] at h; cases h
  | some w' =>
   rw [hr] at h
   have ih := writersOf_spec hr
   have shift : ∀ j, i + 1 ≤ j → (o :: r)[j - i]? = r[j - (i + 1)]? := fun j hj => by rw [show j - i = (j - (i + 1)) + 1 by omega]; simp
   cases hd : o.dst with
   | none =>
    rw [hd] at h
    obtain rfl := Option.some.inj h
    rw [ih d j]
    constructor
    ·rintro ⟨o', h1, h2, h3⟩
     exact ⟨o', by omega, by rw [shift j h1]; exact h2, h3⟩
    ·rintro ⟨o', h1, h2, h3⟩
     by_cases e : j = i
     ·subst e
      simp at h2
      subst h2
      rw [hd] at h3; cases h3
     ·exact ⟨o', by omega, by rw [← shift j (by omega)]; exact h2, h3⟩
   | some d' =>
    rw [hd] at h
    simp only at h
    cases hg : w'.get d' with
    | some _ => rw [hg] at h; cases h
    | none =>
     rw [hg] at h
     obtain rfl := Option.some.inj h
     rw [Tr.get_put]
     by_cases e : d = d'
     ·subst e
      rw [if_pos rfl]
      constructor
      ·intro h
       obtain rfl := Option.some.inj h
       exact ⟨o, Nat.le_refl _, by simp, hd⟩
      ·rintro ⟨o', h1, h2, h3⟩
       by_cases e : j = i
       ·rw [e]
       ·have : w'.get d = some j := (ih d j).2 ⟨o', by omega, by rw [← shift j (by omega)]; exact h2, h3⟩
        rw [hg] at this; cases this
     ·rw [if_neg e, ih d j]
      constructor
      ·rintro ⟨o', h1, h2, h3⟩
       exact ⟨o', by omega, by rw [shift j h1]; exact h2, h3⟩
      ·rintro ⟨o', h1, h2, h3⟩
       by_cases e' : j = i
       ·subst e'
        simp at h2
        subst h2
        rw [hd] at h3
        exact absurd (Option.some.inj h3).symm e
       ·exact ⟨o', by omega, by rw [← shift j (by omega)]; exact h2, h3⟩
def kn : Kd → Nat
 | .light | .aside _ => 0
 | .reads => 1
 | .stores _ | .writes => 2

section
variable {P : Program} {G : Nat} {call : CallH} {lo nt s0 : Nat} {t0 : Tr AB} {hint : Nat → Bool} {ops : List Oper} {w : Tr Nat}

def KSpec (P : Program) (G : Nat) (call : CallH) (lo s0 : Nat) (t0 : Tr AB) (ops : List Oper) (o : Oper) (mask : Nat) (s : Dr) (r : Value × AH) : Kd → Prop
  | .light => xstep P G call s.next ops o ⟨s.T, ⟨.leaf, s.next⟩⟩ = some r ∧ r.2.next = s.next
  | .aside q => ∃ b, t0.get q = some b ∧ q < s0 ∧ keptW t0 q s.wb = true ∧ xstep P G call s.next ops o ⟨s.T, ⟨Tr.put .leaf q b, s.next⟩⟩ = some r ∧ r.2.next = s.next
  | .reads => bits s.wr mask = true ∧ xstep P G call s.next ops o ⟨s.T, ⟨gather s.ds mask s.eb (Nat.sub s.i s.eb) s.base, s.next⟩⟩ = some r
  | .stores q => bits s.wr mask = true ∧ bits s.hv mask = true ∧ xstep P G call lo ops o ⟨s.T, ⟨gather s.ds mask s.eb (Nat.sub s.i s.eb) s.base, s.next⟩⟩ = some r ∧ storeOf (evT G s.T) o.op = some q ∧ hasS mask s.sb q = false
  | .writes => bits s.wr mask = true ∧ bits s.hv mask = true ∧ xstep P G call lo ops o ⟨s.T, ⟨gather s.ds mask s.eb (Nat.sub s.i s.eb) s.base, s.next⟩⟩ = some r ∧ keptB mask t0 r.2.t s.sb = true

theorem xaside_spec {o : Oper} {mask q : Nat} {s : Dr} {k : Kd} {v : Value} {H : AH} (hx : xaside P G call s0 t0 ops o q s = some (k, v, H)) : KSpec P G call lo s0 t0 ops o mask s (v, H) k := by
 unfold xaside at hx
 split at hx <;> try cases hx
 rename_i b hb
 cases hc : (Nat.blt q s0 && keptW t0 q s.wb) <;> rw [hc] at hx <;> simp only [cond_true, cond_false] at hx
 ·cases hx
 simp only [Bool.and_eq_true] at hc
 split at hx <;> try cases hx
 rename_i v' H' hr
 cases hn : Nat.beq H'.next s.next <;> rw [hn] at hx <;> simp only [cond_true, cond_false] at hx
 ·cases hx
 simp only [Option.some.injEq, Prod.mk.injEq] at hx
 obtain ⟨rfl, rfl, rfl⟩ := hx
 exact ⟨b, hb, blt_of hc.1, hc.2, hr, beq_of hn⟩
theorem xmem_spec {o : Oper} {mask : Nat} {s : Dr} {k : Kd} {v : Value} {H : AH} (hx : xmem P G call lo t0 ops o mask s = some (k, v, H)) : KSpec P G call lo s0 t0 ops o mask s (v, H) k := by
 unfold xmem at hx
 cases hw : bits s.wr mask <;> rw [hw] at hx <;> simp only [cond_true, cond_false] at hx
 ·cases hx
 split at hx
 ·rename_i v' H' hr
  simp only [Option.some.injEq, Prod.mk.injEq] at hx
  obtain ⟨rfl, rfl, rfl⟩ := hx
  exact ⟨hw, hr⟩
 ·cases hc : (heavy o.op && bits s.hv mask) <;> rw [hc] at hx <;> simp only [cond_true, cond_false] at hx
  ·cases hx
  simp only [Bool.and_eq_true] at hc
  split at hx <;> try cases hx
  rename_i v' H' hr
  split at hx
  ·rename_i q hq
   cases hs : hasS mask s.sb q <;> rw [hs] at hx <;> simp only [cond_true, cond_false] at hx
   ·simp only [Option.some.injEq, Prod.mk.injEq] at hx
    obtain ⟨rfl, rfl, rfl⟩ := hx
    exact ⟨hw, hc.2, hr, hq, hs⟩
   ·cases hx
  ·cases hs : keptB mask t0 H'.t s.sb <;> rw [hs] at hx <;> simp only [cond_true, cond_false] at hx
   ·cases hx
   ·simp only [Option.some.injEq, Prod.mk.injEq] at hx
    obtain ⟨rfl, rfl, rfl⟩ := hx
    exact ⟨hw, hc.2, hr, hs⟩
theorem xkind_spec {h : Bool} {o : Oper} {mask : Nat} {s : Dr} {k : Kd} {v : Value} {H : AH} (hx : xkind P G call lo s0 t0 h ops o mask s = some (k, v, H)) : KSpec P G call lo s0 t0 ops o mask s (v, H) k := by
 unfold xkind at hx
 cases hl : light o.op <;> rw [hl] at hx <;> simp only [cond_true, cond_false] at hx
 ·split at hx
  ·split at hx
   ·rename_i r hr
    obtain rfl := Option.some.inj hx
    exact xaside_spec hr
   ·exact xmem_spec hx
  ·exact xmem_spec hx
 ·split at hx <;> try cases hx
  rename_i v' H' hr
  cases hn : Nat.beq H'.next s.next <;> rw [hn] at hx <;> simp only [cond_true, cond_false] at hx
  ·cases hx
  simp only [Option.some.injEq, Prod.mk.injEq] at hx
  obtain ⟨rfl, rfl, rfl⟩ := hx
  exact ⟨hr, beq_of hn⟩

theorem xkindL_spec {o : Oper} {mask : Nat} {s : Dr} {k : Kd} {v : Value} {H : AH} (hx : xkindL P G call lo s0 t0 hint ops o mask s = some (k, v, H)) : KSpec P G call lo s0 t0 ops o mask s (v, H) k := by
 unfold xkindL at hx
 cases hc : (callPlain (evT G s.T) o.op && (!(bits s.wr mask) || (hint (Nat.add s.i 1000000) || hint s.i))) <;> rw [hc] at hx <;> simp only [cond_true, cond_false] at hx
 ·exact xkind_spec hx
 ·split at hx
  ·rename_i r hr
   obtain rfl := Option.some.inj hx
   unfold xlight at hr
   split at hr <;> try cases hr
   rename_i v' H' hr'
   cases hn : Nat.beq H'.next s.next <;> rw [hn] at hr <;> simp only [cond_true, cond_false] at hr
   ·cases hr
   simp only [Option.some.injEq, Prod.mk.injEq] at hr
   obtain ⟨rfl, rfl, rfl⟩ := hr
   exact ⟨hr', beq_of hn⟩
  ·exact xkind_spec hx

theorem store_op {ev : Operand → Option Value} {o : Oper} {H : AH} {r : Act1} {t : TypeId} {x y : Operand} {a : Addr} (ho : o.op = .store t x y) (ha : ev x = some (.pointer (some a))) (hx : xopS P lo ev o H = some r) :
  ∃ H', r = .val undef H' ∧ ∀ q', q' ≠ a.block → H'.t.get q' = H.t.get q' := by
 unfold xopS at hx
 rw [ho] at hx
 simp only [ha] at hx
 split at hx <;> try cases hx
 rename_i v2 u h5 hu
 obtain rfl := Option.some.inj h5
 cases hst : xstore P lo t (.pointer (some a)) u H with
 | none => rw [hst] at hx; cases hx
 | some H2 =>
  rw [hst] at hx
  simp only [Option.map_some, Option.some.injEq] at hx
  refine ⟨H2, hx.symm, fun q' hq => ?_⟩
  unfold xstore at hst
  split at hst <;> try cases hst
  rename_i k o' hk
  cases hk
  split at hst <;> try cases hst
  split at hst <;> try cases hst
  rename_i c n es hg _ m hm
  cases hb : (Nat.beq (len (cellsOfV u)) m && Nat.ble (Nat.add o' m) n && Nat.ble lo k && (cellsOfV u).all one) <;> rw [hb] at hst <;> simp only [cond_true, cond_false] at hst
  ·cases hst
  obtain rfl := Option.some.inj hst
  show (H.t.put k _).get q' = _
  rw [Tr.get_put, if_neg hq]

theorem store_keeps {o : Oper} {T : Tr Value} {H H' : AH} {v : Value} {q : Nat} (hs : storeOf (evT G T) o.op = some q) (hx : xstep P G call lo ops o ⟨T, H⟩ = some (v, H')) : ∀ q', q' ≠ q → H'.t.get q' = H.t.get q' := by
 intro q' hq
 unfold xstep at hx
 split at hx <;> try cases hx
 ·unfold xdo at hx
  simp only at hx
  unfold storeOf at hs
  split at hs <;> try cases hs
  rename_i t x y ho
  unfold blockOf at hs
  split at hs <;> try cases hs
  rename_i a ha
  split at hx <;> try cases hx
  ·rename_i H1 h1
   rw [xop_eq] at h1
   obtain ⟨H2, h2, h3⟩ := store_op ho ha h1
   cases h2
   exact h3 q' hq
  ·rename_i f args h1
   rw [xop_eq] at h1
   obtain ⟨H2, h2, h3⟩ := store_op ho ha h1
   cases h2
  ·rename_i f args h1
   rw [xop_eq] at h1
   obtain ⟨H2, h2, h3⟩ := store_op ho ha h1
   cases h2
  ·split at hx <;> try cases hx
   ·rename_i H1 h1
    rw [xop_eq] at h1
    obtain ⟨H2, h2, h3⟩ := store_op ho (show evC call lo H (evT G T) x = some (.pointer (some a)) by simp only [evC, ha]) h1
    cases h2
    exact h3 q' hq
   ·rw [ho] at hx
    simp [keyOp] at hx
 ·rfl

structure Plan (P : Program) (G : Nat) (call : CallH) (lo nt s0 : Nat) (t0 : Tr AB) (hint : Nat → Bool) (ops : List Oper) (w : Tr Nat) (n : Nat) (O : Nat → Oper) (D : Nat → Dr) (R : Nat → Kd × Value × AH) : Prop where
 chk1 : ∀ i, i < n → readsOk w (maskOf (D i).ms (O i).after.toList) (D i).i (readsOf ops (O i)) = true
 chk2 : ∀ i, i < n → maskOf (D i).ms (O i).after.toList < 2 ^ (D i).i
 chk3 : ∀ i, i < n → ∀ d, (O i).dst = some d → bits (((D i).rd.get d).getD 0) (maskOf (D i).ms (O i).after.toList) = true
 kind : ∀ i, i < n → xkindL P G call lo s0 t0 hint ops (O i) (maskOf (D i).ms (O i).after.toList) (D i) = some (R i)
 le : ∀ i, i < n → (D i).next ≤ (R i).2.2.next
 nxt : ∀ i, i < n → ∃ T, putO (D i).T nt (O i).dst (R i).2.1 = some T ∧ D (i + 1) = drNext ops (O i) (maskOf (D i).ms (O i).after.toList) T (R i).2.2 (D i) (R i).1

theorem plan_of : ∀ (rest : List Oper) (s d : Dr), xdrawn P G call lo nt s0 t0 hint ops w rest s = some d →
  ∃ O D R, (∀ i, i < rest.length → rest[i]? = some (O i)) ∧ D 0 = s ∧ D rest.length = d ∧ Plan P G call lo nt s0 t0 hint ops w rest.length O D R
 | [], s, d, h => by
  simp only [xdrawn, Option.some.injEq] at h
  subst h
  exact ⟨fun _ => default, fun _ => s, fun _ => (.light, undef, ⟨.leaf, 0⟩), fun i hi => by simp at hi, rfl, rfl, ⟨fun i hi => by simp at hi, fun i hi => by simp at hi, fun i hi => by simp at hi, fun i hi => by simp at hi, fun i hi => by simp at hi, fun i hi => by simp at hi⟩⟩
 | o :: r, s, d, h => by
  rw [xdrawn] at h
  cases hc : (readsOk w (maskOf s.ms o.after.toList) s.i (readsOf ops o) && Nat.blt (maskOf s.ms o.after.toList) (Nat.pow 2 s.i) &&
    dstOk s.rd (maskOf s.ms o.after.toList) o.dst) with
  | false =>
   simp only [hc, cond_false] at h
   cases h
  | true =>
   simp only [hc, cond_true] at h
   simp only [Bool.and_eq_true] at hc
   cases hk : xkindL P G call lo s0 t0 hint ops o (maskOf s.ms o.after.toList) s with
   | none => simp only [hk] at h; cases h
   | some r0 =>
    obtain ⟨k, v, H⟩ := r0
    simp only [hk] at h
    cases hle : Nat.ble s.next H.next with
    | false => simp only [hle, cond_false] at h; cases h
    | true =>
     simp only [hle, cond_true] at h
     cases hp : putO s.T nt o.dst v with
     | none => simp only [hp] at h; cases h
     | some T =>
      simp only [hp] at h
      obtain ⟨O, D, R, h1, h2, h3, h4⟩ := plan_of r _ d h
      refine ⟨fun i => Nat.casesOn i o O, fun i => Nat.casesOn i s D, fun i => Nat.casesOn i (k, v, H) R, fun i hi => ?_, rfl, h3, ⟨fun i hi => ?_, fun i hi => ?_, fun i hi => ?_, fun i hi => ?_, fun i hi => ?_, fun i hi => ?_⟩⟩
      ·cases i with
       | zero => rfl
       | succ i => simpa using h1 i (by simpa using hi)
      ·cases i with
       | zero => exact hc.1.1
       | succ i => exact h4.chk1 i (by simpa using hi)
      ·cases i with
       | zero => exact blt_of hc.1.2
       | succ i => exact h4.chk2 i (by simpa using hi)
      ·cases i with
       | zero =>
        intro dd hd
        have h5 := hc.2
        have hd' : o.dst = some dd := hd
        rw [hd'] at h5
        exact h5
       | succ i => exact h4.chk3 i (by simpa using hi)
      ·cases i with
       | zero => exact hk
       | succ i => exact h4.kind i (by simpa using hi)
      ·cases i with
       | zero => exact ble_of hle
       | succ i => exact h4.le i (by simpa using hi)
      ·cases i with
       | zero => exact ⟨T, hp, h2⟩
       | succ i => exact h4.nxt i (by simpa using hi)

theorem drNext_i {o : Oper} {m : Nat} {T : Tr Value} {H : AH} {s : Dr} {k : Kd} : (drNext ops o m T H s k).i = s.i + 1 := by cases k <;> rfl
theorem drNext_next {o : Oper} {m : Nat} {T : Tr Value} {H : AH} {s : Dr} {k : Kd} : (drNext ops o m T H s k).next = H.next := by cases k <;> rfl
theorem drNext_ms {o : Oper} {m : Nat} {T : Tr Value} {H : AH} {s : Dr} {k : Kd} : (drNext ops o m T H s k).ms = s.ms.put s.i m := by cases k <;> rfl
theorem drNext_rd {o : Oper} {m : Nat} {T : Tr Value} {H : AH} {s : Dr} {k : Kd} : (drNext ops o m T H s k).rd = addReads s.i (readsOf ops o) s.rd := by cases k <;> rfl
theorem drNext_T {o : Oper} {m : Nat} {T : Tr Value} {H : AH} {s : Dr} {k : Kd} : (drNext ops o m T H s k).T = T := by cases k <;> rfl
end

section
variable {P : Program} {G : Nat} {call : CallH} {lo nt s0 : Nat} {t0 : Tr AB} {hint : Nat → Bool} {ops : List Oper} {w : Tr Nat} {n : Nat} {O : Nat → Oper} {D : Nat → Dr} {R : Nat → Kd × Value × AH} {T0 : Tr Value}

/-- what operation i waits for -/
def Mk (O : Nat → Oper) (D : Nat → Dr) (i : Nat) : Nat := maskOf (D i).ms (O i).after.toList
/-- the memory behind the operations before e, e - 1 having written -/
def baseOf (t0 : Tr AB) (R : Nat → Kd × Value × AH) (e : Nat) : Tr AB := if e = 0 then t0 else (R (e - 1)).2.2.t

variable (pl : Plan P G call lo nt s0 t0 hint ops w n O D R) (hD0 : D 0 = ⟨T0, s0, t0, 0, .leaf, .leaf, .leaf, 0, 0, [], [], 0⟩) (hO : ∀ i, i < n → ops[i]? = some (O i)) (hn : ops.length = n) (hw : writersOf ops 0 = some w)
include pl hD0

theorem Plan.i : ∀ i, i ≤ n → (D i).i = i
 | 0, _ => by rw [hD0]
 | i + 1, h => by
  obtain ⟨T, _, h2⟩ := pl.nxt i (by omega)
  rw [h2, drNext_i, Plan.i i (by omega)]
theorem Plan.next (i : Nat) (h : i < n) : (D (i + 1)).next = (R i).2.2.next := by
 obtain ⟨T, _, h2⟩ := pl.nxt i h
 rw [h2, drNext_next]
theorem Plan.mono : ∀ j i, i ≤ j → j ≤ n → (D i).next ≤ (D j).next
 | 0, i, h, _ => by rw [show i = 0 by omega]; exact Nat.le_refl _
 | j + 1, i, h, hj => by
  by_cases e : i = j + 1
  ·rw [e]; exact Nat.le_refl _
  ·have := Plan.mono j i (by omega) (by omega)
   have h2 := pl.le j (by omega)
   rw [pl.next hD0 j (by omega)]
   omega
theorem Plan.ms : ∀ i, i ≤ n → ∀ j, (D i).ms.get j = if j < i then some (Mk O D j) else none
 | 0, _, j => by rw [hD0]; simp [Tr.get_leaf]
 | i + 1, h, j => by
  obtain ⟨T, _, h2⟩ := pl.nxt i (by omega)
  rw [h2, drNext_ms, pl.i hD0 i (by omega), Tr.get_put, Plan.ms i (by omega) j]
  by_cases e : j = i
  ·subst e; rw [if_pos rfl, if_pos (by omega)]; rfl
  ·rw [if_neg e]
   congr 1
   apply propext; omega
theorem Plan.mlt (i : Nat) (h : i < n) : Mk O D i < 2 ^ i := by
 have := pl.chk2 i h
 rw [pl.i hD0 i (by omega)] at this
 exact this
/-- each operation that is waited for is bound, or is waited for by one that is -/
theorem Plan.edge (i : Nat) (h : i < n) {j : Nat} (hj : Nat.testBit (Mk O D i) j = true) : ∃ e ∈ (O i).after.toList, Region.binds .any e = true ∧ (j = e.on ∨ (e.on < i ∧ Nat.testBit (Mk O D e.on) j = true)) := by
 obtain ⟨e, h1, h2, h3⟩ := maskOf_spec hj
 refine ⟨e, h1, h2, h3.imp id fun h4 => ?_⟩
 rw [pl.ms hD0 i (by omega)] at h4
 by_cases e : e.on < i
 ·rw [if_pos e] at h4; exact ⟨e, h4⟩
 ·rw [if_neg e] at h4; simp at h4
theorem Plan.rd : ∀ i, i ≤ n → ∀ j, j < i → ∀ t, Operand.tmp t ∈ readsOf ops (O j) → Nat.testBit (((D i).rd.get t).getD 0) j = true
 | 0, _, j, hj, _, _ => by omega
 | i + 1, h, j, hj, t, ht => by
  obtain ⟨T, _, h2⟩ := pl.nxt i (by omega)
  rw [h2, drNext_rd, pl.i hD0 i (by omega)]
  by_cases e : j = i
  ·subst e; exact addReads_new ht
  ·exact addReads_old (Plan.rd i (by omega) j (by omega) t ht)
theorem Plan.ds : ∀ i, i ≤ n → ∀ j q c, (q, c) ∈ ((D i).ds.get j).getD [] → j < i ∧ kn (R j).1 = 1 ∧ (D j).next ≤ q ∧ q < (D (j + 1)).next ∧ (R j).2.2.t.get q = some c
 | 0, _, j, q, c, h => by rw [hD0] at h; simp [Tr.get_leaf] at h
 | i + 1, hi, j, q, c, h => by
  obtain ⟨T, _, h2⟩ := pl.nxt i (by omega)
  have hnx := pl.next hD0 i (by omega)
  have hle := pl.le i (by omega)
  have hii := pl.i hD0 i (by omega)
  have ih := Plan.ds i (by omega) j q c
  rw [h2] at h
  generalize hk : (R i).1 = k at h h2
  by_cases e : j = i
  ·subst e
   cases k <;> simp only [drNext, hii, Tr.get_put, if_true, Option.getD_some] at h <;> try (simp at h; done)
   obtain ⟨h3, h4, h5⟩ := delta_mem _ _ _ _ _ h
   refine ⟨by omega, by rw [hk]; rfl, h3, ?_, h5⟩
   have : (D j).next + ((R j).2.2.next - (D j).next) = (R j).2.2.next := by omega
   have h6 : q < (D j).next + ((R j).2.2.next - (D j).next) := h4
   omega
  ·have : (drNext ops (O i) (maskOf (D i).ms (O i).after.toList) T (R i).2.2 (D i) k).ds.get j = (D i).ds.get j := by
    cases k <;> simp only [drNext, hii, Tr.get_put, if_neg e]
   rw [this] at h
   obtain ⟨h3, h4⟩ := ih h
   exact ⟨by omega, h4⟩
theorem Plan.hv : ∀ i, i ≤ n → ∀ j, j < i → (1 ≤ kn (R j).1 → Nat.testBit (D i).hv j = true) ∧ (kn (R j).1 = 2 → Nat.testBit (D i).wr j = true)
 | 0, _, j, hj => by omega
 | i + 1, hi, j, hj => by
  obtain ⟨T, _, h2⟩ := pl.nxt i (by omega)
  have hii := pl.i hD0 i (by omega)
  have lor : ∀ a b : Nat, Nat.lor a b = a ||| b := fun _ _ => rfl
  have pow : ∀ a b : Nat, Nat.pow a b = a ^ b := fun _ _ => rfl
  rw [h2]
  generalize hk : (R i).1 = k at h2
  by_cases e : j = i
  ·subst e
   rw [hk]
   cases k <;> simp [drNext, kn, hii, lor, pow, Nat.testBit_or, Nat.testBit_two_pow]
  ·obtain ⟨a1, a2⟩ := Plan.hv i (by omega) j (by omega)
   constructor
   ·intro h3
    have := a1 h3
    cases k <;> simp [drNext, lor, pow, Nat.testBit_or, this]
   ·intro h3
    have := a2 h3
    cases k <;> simp [drNext, lor, pow, Nat.testBit_or, this]
theorem Plan.base : ∀ i, i ≤ n → (D i).eb ≤ i ∧ (D i).base = baseOf t0 R (D i).eb ∧ ((D i).eb = 0 ∨ kn (R ((D i).eb - 1)).1 = 2) ∧ ∀ j, (D i).eb ≤ j → j < i → kn (R j).1 ≠ 2
 | 0, _ => by rw [hD0]; exact ⟨Nat.le_refl _, rfl, .inl rfl, fun j _ h => by omega⟩
 | i + 1, hi => by
  obtain ⟨T, _, h2⟩ := pl.nxt i (by omega)
  have hii := pl.i hD0 i (by omega)
  obtain ⟨a1, a2, a3, a4⟩ := Plan.base i (by omega)
  rw [h2]
  have old : ∀ k, (R i).1 = k → kn k ≠ 2 → ∀ j, (D i).eb ≤ j → j < i + 1 → kn (R j).1 ≠ 2 := fun k hk hne j h1 h3 => by
   by_cases e : j = i
   ·subst e; rw [hk]; exact hne
   ·exact a4 j h1 (by omega)
  have new : kn (R i).1 = 2 → (D i).i + 1 ≤ i + 1 ∧ (R i).2.2.t = baseOf t0 R ((D i).i + 1) ∧ ((D i).i + 1 = 0 ∨ kn (R ((D i).i + 1 - 1)).1 = 2) ∧ ∀ j, (D i).i + 1 ≤ j → j < i + 1 → kn (R j).1 ≠ 2 := fun hk => by
   rw [hii]
   exact ⟨Nat.le_refl _, by simp [baseOf], .inr (by simpa using hk), fun j h1 h3 => by omega⟩
  cases hk : (R i).1
  ·exact ⟨by simp [drNext]; omega, a2, a3, old _ hk (by simp [kn])⟩
  ·exact ⟨by simp [drNext]; omega, a2, a3, old _ hk (by simp [kn])⟩
  ·exact ⟨by simp [drNext]; omega, a2, a3, old _ hk (by simp [kn])⟩
  ·exact new (by rw [hk]; rfl)
  ·exact new (by rw [hk]; rfl)
theorem Plan.sb : ∀ i, i ≤ n → ∀ j, j < i → (∀ q, (R j).1 = .aside q → (j, q) ∈ (D i).sb) ∧ (∀ q, (R j).1 = .stores q → Wr.blk q ∈ (D i).wb) ∧ ((R j).1 = .writes → Wr.mem (R j).2.2.t ∈ (D i).wb)
 | 0, _, j, hj => by omega
 | i + 1, hi, j, hj => by
  obtain ⟨T, _, h2⟩ := pl.nxt i (by omega)
  have hii := pl.i hD0 i (by omega)
  rw [h2]
  by_cases e : j = i
  ·subst e
   refine ⟨fun q hq => ?_, fun q hq => ?_, fun hq => ?_⟩
   ·rw [hq]; simp only [drNext, hii]; exact List.mem_cons_self
   ·rw [hq]; simp only [drNext]; exact List.mem_cons_self
   ·rw [hq]; simp only [drNext]; exact List.mem_cons_self
  ·obtain ⟨a1, a2, a3⟩ := Plan.sb i (by omega) j (by omega)
   refine ⟨fun q hq => ?_, fun q hq => ?_, fun hq => ?_⟩
   ·have := a1 q hq
    cases hR : (R i).1 <;> simp only [drNext] <;> first | exact this | exact List.mem_cons_of_mem _ this
   ·have := a2 q hq
    cases hR : (R i).1 <;> simp only [drNext] <;> first | exact this | exact List.mem_cons_of_mem _ this
   ·have := a3 hq
    cases hR : (R i).1 <;> simp only [drNext] <;> first | exact this | exact List.mem_cons_of_mem _ this
include hO hn hw
theorem Plan.wr (i : Nat) (h : i < n) (d : Nat) : (O i).dst = some d ↔ w.get d = some i := by
 rw [writersOf_spec hw d i]
 constructor
 ·intro h1; exact ⟨O i, Nat.zero_le _, by simpa using hO i h, h1⟩
 ·rintro ⟨o, _, h2, h3⟩
  rw [Nat.sub_zero, hO i h] at h2
  obtain rfl := Option.some.inj h2
  exact h3
theorem Plan.wlt {d j : Nat} (h : w.get d = some j) : j < n := by
 obtain ⟨o, _, h2, _⟩ := (writersOf_spec hw d j).1 h
 rw [← hn]
 rcases Nat.lt_or_ge j ops.length with h' | h'
 ·exact h'
 ·rw [Nat.sub_zero, List.getElem?_eq_none h'] at h2; cases h2
theorem Plan.dlt (i : Nat) (h : i < n) {d : Nat} (hd : (O i).dst = some d) : d < nt := by
 obtain ⟨T, h1, _⟩ := pl.nxt i h
 rw [hd] at h1
 simp only [putO] at h1
 cases hb : Nat.blt d nt <;> rw [hb] at h1 <;> simp only [cond_true, cond_false] at h1
 ·cases h1
 ·exact blt_of hb
theorem Plan.T : ∀ i, i ≤ n → ∀ t, (D i).T.get t = match w.get t with
  | none => T0.get t
  | some j => if j < i then some (R j).2.1 else T0.get t
 | 0, _, t => by rw [hD0]; cases w.get t <;> rfl
 | i + 1, hi, t => by
  obtain ⟨T, h1, h2⟩ := pl.nxt i (by omega)
  have ih := Plan.T i (by omega) t
  rw [h2, drNext_T]
  cases hd : (O i).dst with
  | none =>
   rw [hd] at h1
   simp only [putO, Option.some.injEq] at h1
   subst h1
   rw [ih]
   cases hwt : w.get t with
   | none => rfl
   | some j =>
    simp only
    have : j ≠ i := fun e => by
     subst e
     have := (pl.wr hD0 hO hn hw j (by omega) t).2 hwt
     rw [hd] at this; cases this
    congr 1
    apply propext; omega
  | some d =>
   have hwd := (pl.wr hD0 hO hn hw i (by omega) d).1 hd
   rw [hd] at h1
   simp only [putO] at h1
   cases hb : Nat.blt d nt <;> rw [hb] at h1 <;> simp only [cond_true, cond_false] at h1
   ·cases h1
   obtain rfl := Option.some.inj h1
   rw [Tr.get_put]
   by_cases e : t = d
   ·subst e
    rw [if_pos rfl, hwd]
    simp only
    rw [if_pos (by omega)]
   ·rw [if_neg e, ih]
    cases hwt : w.get t with
    | none => rfl
    | some j =>
     simp only
     have : j ≠ i := fun e' => by
      subst e'
      have := (pl.wr hD0 hO hn hw j (by omega) t).2 hwt
      rw [hd] at this
      exact e (Option.some.inj this).symm
     congr 1
     apply propext; omega
end
section
variable {P : Program} {G : Nat} {call : CallH} {lo nt s0 : Nat} {t0 : Tr AB} {hint : Nat → Bool} {ops : List Oper} {w : Tr Nat} {n : Nat} {O : Nat → Oper} {D : Nat → Dr} {R : Nat → Kd × Value × AH} {T0 : Tr Value}
variable (pl : Plan P G call lo nt s0 t0 hint ops w n O D R) (hD0 : D 0 = ⟨T0, s0, t0, 0, .leaf, .leaf, .leaf, 0, 0, [], [], 0⟩) (hO : ∀ i, i < n → ops[i]? = some (O i)) (hn : ops.length = n) (hw : writersOf ops 0 = some w)
include pl hD0

/-- where a block comes from that operation i finds -/
def Src (t0 : Tr AB) (O : Nat → Oper) (D : Nat → Dr) (R : Nat → Kd × Value × AH) (i q : Nat) (c : AB) : Prop :=
 (baseOf t0 R (D i).eb).get q = some c ∨ ∃ j, (D i).eb ≤ j ∧ j < i ∧ Nat.testBit (Mk O D i) j = true ∧ kn (R j).1 = 1 ∧ (D j).next ≤ q ∧ q < (D (j + 1)).next ∧ (R j).2.2.t.get q = some c

theorem Plan.src (i : Nat) (h : i < n) {q : Nat} {c : AB} (hg : (gather (D i).ds (Mk O D i) (D i).eb (Nat.sub (D i).i (D i).eb) (D i).base).get q = some c) : Src t0 O D R i q c := by
 obtain ⟨a1, a2, _, _⟩ := pl.base hD0 i (by omega)
 rcases gather_get _ _ _ _ _ _ _ hg with h1 | ⟨j, h1, h2, h3, h4⟩
 ·rw [a2] at h1; exact .inl h1
 ·have h5 : j < (D i).eb + ((D i).i - (D i).eb) := h2
  rw [pl.i hD0 i (by omega)] at h5
  obtain ⟨_, b1, b2, b3, b4⟩ := pl.ds hD0 i (by omega) j q c h4
  exact .inr ⟨j, h1, by omega, h3, b1, b2, b3, b4⟩

/-- what is known of operation i -/
theorem Plan.run (i : Nat) (h : i < n) : ∃ (hin : Tr AB) (lo' : Nat), xstep P G call lo' ops (O i) ⟨(D i).T, ⟨hin, (D i).next⟩⟩ = some (R i).2 ∧
  ((kn (R i).1 = 0 ∧ lo' = (D i).next ∧ (D (i + 1)).next = (D i).next ∧ ∀ q c, hin.get q = some c → (R i).1 = .aside q ∧ t0.get q = some c ∧ q < s0) ∨
   (kn (R i).1 = 1 ∧ lo' = (D i).next ∧ (∀ q c, hin.get q = some c → Src t0 O D R i q c) ∧ ∀ j, j < i → kn (R j).1 = 2 → Nat.testBit (Mk O D i) j = true) ∨
   (kn (R i).1 = 2 ∧ lo' = lo ∧ (∀ q c, hin.get q = some c → Src t0 O D R i q c) ∧ (∀ j, j < i → 1 ≤ kn (R j).1 → Nat.testBit (Mk O D i) j = true))) := by
 have hk := xkindL_spec (k := (R i).1) (v := (R i).2.1) (H := (R i).2.2) (pl.kind i h)
 have hnx := pl.next hD0 i h
 cases hR : (R i).1 with
 | light =>
  rw [hR] at hk
  obtain ⟨h1, h2⟩ := hk
  exact ⟨_, _, h1, .inl ⟨rfl, rfl, by rw [hnx, h2], fun q c hq => by rw [Tr.get_leaf] at hq; cases hq⟩⟩
 | aside q0 =>
  rw [hR] at hk
  obtain ⟨b, h1, h3, h4, h5, h6⟩ := hk
  refine ⟨_, _, h5, .inl ⟨rfl, rfl, by rw [hnx, h6], fun q c hq => ?_⟩⟩
  rw [Tr.get_put] at hq
  by_cases e : q = q0
  ·subst e
   rw [if_pos rfl] at hq
   obtain rfl := Option.some.inj hq
   exact ⟨rfl, h1, h3⟩
  ·rw [if_neg e, Tr.get_leaf] at hq; cases hq
 | reads =>
  rw [hR] at hk
  obtain ⟨h1, h2⟩ := hk
  exact ⟨_, _, h2, .inr (.inl ⟨rfl, rfl, fun q c hq => pl.src hD0 i h hq, fun j hj h3 => bits_spec h1 ((pl.hv hD0 i (by omega) j hj).2 h3)⟩)⟩
 | stores q0 =>
  rw [hR] at hk
  obtain ⟨h1, h2, h3, _⟩ := hk
  exact ⟨_, _, h3, .inr (.inr ⟨rfl, rfl, fun q c hq => pl.src hD0 i h hq, fun j hj h4 => bits_spec h2 ((pl.hv hD0 i (by omega) j hj).1 h4)⟩)⟩
 | writes =>
  rw [hR] at hk
  obtain ⟨h1, h2, h3, _⟩ := hk
  exact ⟨_, _, h3, .inr (.inr ⟨rfl, rfl, fun q c hq => pl.src hD0 i h hq, fun j hj h4 => bits_spec h2 ((pl.hv hD0 i (by omega) j hj).1 h4)⟩)⟩

omit pl hD0 in
theorem keptW_blk {q : Nat} : ∀ {l : List Wr}, keptW t0 q l = true → Wr.blk q ∈ l → False
 | .blk q' :: r, h, hm => by
  simp only [keptW, Bool.and_eq_true, Bool.not_eq_true'] at h
  rcases List.mem_cons.1 hm with e | hm
  ·cases e
   have := h.1
   rw [show Nat.beq q q = true from Nat.beq_refl q] at this
   cases this
  ·exact keptW_blk h.2 hm
 | .mem t :: r, h, hm => by
  simp only [keptW, Bool.and_eq_true] at h
  rcases List.mem_cons.1 hm with e | hm
  ·cases e
  ·exact keptW_blk h.2 hm
omit pl hD0 in
theorem keptW_mem {q : Nat} {t : Tr AB} : ∀ {l : List Wr}, keptW t0 q l = true → Wr.mem t ∈ l → t.get q = t0.get q
 | .blk q' :: r, h, hm => by
  simp only [keptW, Bool.and_eq_true] at h
  rcases List.mem_cons.1 hm with e | hm
  ·cases e
  ·exact keptW_mem h.2 hm
 | .mem t' :: r, h, hm => by
  simp only [keptW, Bool.and_eq_true] at h
  rcases List.mem_cons.1 hm with e | hm
  ·cases e; exact eqOAB_spec h.1
  ·exact keptW_mem h.2 hm
omit pl hD0 in
theorem keptB_mem {mask j q : Nat} {t : Tr AB} (hj : Nat.testBit mask j = false) : ∀ {l : List (Nat × Nat)}, keptB mask t0 t l = true → (j, q) ∈ l → t.get q = t0.get q
 | (j', q') :: r, h, hm => by
  simp only [keptB, Bool.and_eq_true] at h
  rcases List.mem_cons.1 hm with e | hm
  ·cases e
   have := h.1
   rw [hj, Bool.false_or] at this
   exact eqOAB_spec this
  ·exact keptB_mem hj h.2 hm
omit pl hD0 in
theorem hasS_mem {mask j q : Nat} (hj : Nat.testBit mask j = false) : ∀ {l : List (Nat × Nat)}, (j, q) ∈ l → hasS mask l q = true
 | (j', q') :: r, hm => by
  rcases List.mem_cons.1 hm with e | hm
  ·cases e
   simp only [hasS, hj, show Nat.beq q q = true from Nat.beq_refl q]; rfl
  ·simp only [hasS, hasS_mem hj hm, Bool.or_true]

/-- a block that is read aside is as it was behind every operation that writes, of those that don't wait for it -/
theorem Plan.asideT {j : Nat} (hj : j < n) {q : Nat} (ha : (R j).1 = .aside q) (e : Nat) (he : e ≤ n) (hnw : ∀ i, i < e → kn (R i).1 = 2 → Nat.testBit (Mk O D i) j = false) :
  ∀ (m i : Nat), i < m → i < e → kn (R i).1 = 2 → (R i).2.2.t.get q = t0.get q
 | 0, i, h, _, _ => by omega
 | m + 1, i, h, hie, hk2 => by
  have hkj := xkindL_spec (k := (R j).1) (v := (R j).2.1) (H := (R j).2.2) (pl.kind j hj)
  rw [ha] at hkj
  obtain ⟨b, b1, b3, b4, _, _⟩ := hkj
  have hk := xkindL_spec (k := (R i).1) (v := (R i).2.1) (H := (R i).2.2) (pl.kind i (by omega))
  have hne : j ≠ i := fun e => by subst e; rw [ha] at hk2; simp [kn] at hk2
  obtain ⟨a1, hbase, a3, _⟩ := pl.base hD0 i (by omega)
  have hb0 : (baseOf t0 R (D i).eb).get q = t0.get q := by
   by_cases e0 : (D i).eb = 0
   ·rw [e0]; rfl
   ·rw [baseOf, if_neg e0]
    exact Plan.asideT hj ha e he hnw m ((D i).eb - 1) (by omega) (by omega) (a3.resolve_left e0)
  have hs0 : ∀ j' c, (q, c) ∉ ((D i).ds.get j').getD [] := fun j' c hm => by
   obtain ⟨h1, h2, h3, _⟩ := pl.ds hD0 i (by omega) j' q c hm
   have := pl.mono hD0 j' 0 (by omega) (by omega)
   rw [hD0] at this
   simp only at this
   omega
  have hsame : (gather (D i).ds (maskOf (D i).ms (O i).after.toList) (D i).eb (Nat.sub (D i).i (D i).eb) (D i).base).get q = (baseOf t0 R (D i).eb).get q := by
   rw [gather_none _ _ _ _ hs0, hbase]
  have hnot : Nat.testBit (maskOf (D i).ms (O i).after.toList) j = false := hnw i hie hk2
  cases hR : (R i).1 with
  | light => rw [hR] at hk2; simp [kn] at hk2
  | aside _ => rw [hR] at hk2; simp [kn] at hk2
  | reads => rw [hR] at hk2; simp [kn] at hk2
  | stores q' =>
   rw [hR] at hk
   obtain ⟨_, _, h3, h4, h5⟩ := hk
   have hqq : q ≠ q' := fun e' => by
    subst e'
    rcases Nat.lt_or_ge j i with hlt | hge
    ·have := hasS_mem hnot ((pl.sb hD0 i (by omega) j hlt).1 q ha)
     rw [this] at h5; cases h5
    ·exact keptW_blk b4 ((pl.sb hD0 j (by omega) i (by omega)).2.1 q hR)
   rw [store_keeps h4 h3 q hqq, hsame, hb0]
  | writes =>
   rw [hR] at hk
   obtain ⟨_, _, h3, h4⟩ := hk
   rcases Nat.lt_or_ge j i with hlt | hge
   ·exact keptB_mem hnot h4 ((pl.sb hD0 i (by omega) j hlt).1 q ha)
   ·exact keptW_mem b4 ((pl.sb hD0 j (by omega) i (by omega)).2.2 hR)

theorem Plan.asideBase {j : Nat} (hj : j < n) {q : Nat} (ha : (R j).1 = .aside q) (e : Nat) (he : e ≤ n) (hv : e = 0 ∨ kn (R (e - 1)).1 = 2)
  (hnw : ∀ i, i < e → kn (R i).1 = 2 → Nat.testBit (Mk O D i) j = false) : (baseOf t0 R e).get q = t0.get q := by
 by_cases e0 : e = 0
 ·rw [e0]; rfl
 ·rw [baseOf, if_neg e0]
  exact pl.asideT hD0 hj ha e he hnw e (e - 1) (by omega) (by omega) (hv.resolve_left e0)

/-- a block that is there, the operations of L being done -/
def HD (t0 : Tr AB) (D : Nat → Dr) (R : Nat → Kd × Value × AH) (n : Nat) (L : Nat → Prop) (b q : Nat) (c : AB) : Prop :=
 (baseOf t0 R b).get q = some c ∨ ∃ j, b ≤ j ∧ j < n ∧ L j ∧ kn (R j).1 = 1 ∧ (D j).next ≤ q ∧ q < (D (j + 1)).next ∧ (R j).2.2.t.get q = some c

/-- the state behind the operations of L: b is behind the last that wrote -/
structure RI (Ds : List Deferred) (lo nt n1 s0 : Nat) (t0 : Tr AB) (w : Tr Nat) (n : Nat) (O : Nat → Oper) (D : Nat → Dr) (R : Nat → Kd × Value × AH) (T0 : Tr Value) (ρ0 : Env) (w0 : World) (L : Nat → Prop) (b : Nat) (a : Act) (wd : World) (ρ : Env) : Prop where
 defers : a.defers = Ds
 size : a.tmps.size = nt
 tmpA : ∀ t : Nat, (∀ j, w.get t = some j → ¬ L j) → VR (restr ρ s0) ((T0.get t).getD undef) (a.tmps.getD t undef)
 tmpB : ∀ t j : Nat, w.get t = some j → L j → VR (restr ρ (D (j + 1)).next) (R j).2.1 (a.tmps.getD t undef)
 base : ∀ q c, (baseOf t0 R b).get q = some c → ∃ X, restr ρ (D b).next q = some X ∧ X.blk < wd.heap.size ∧ BR (restr ρ (D b).next) X c wd.heap[X.blk]?
 adds : ∀ j, b ≤ j → j < n → L j → kn (R j).1 = 1 → ∀ q c, (D j).next ≤ q → q < (D (j + 1)).next → (R j).2.2.t.get q = some c →
  ∃ X, ρ q = some X ∧ X.blk < wd.heap.size ∧ BR (restr ρ (D (j + 1)).next) X c wd.heap[X.blk]?
 sep : ∀ q c q' c' X X', HD t0 D R n L b q c →
  HD t0 D R n L b q' c' → ρ q = some X → ρ q' = some X' → X.blk = X'.blk → q = q'
 fresh : ∀ j, j < n → ¬ L j → ∀ k, (D j).next ≤ k → k < (D (j + 1)).next → ρ k = none
 top : ∀ k, (D n).next ≤ k → ρ k = none
 low : ∀ k X, lo ≤ k → ρ k = some X → n1 ≤ X.blk
 below : Below n1 w0 wd
 ext : ∀ k, k < s0 → ρ k = ρ0 k
 bnd : b ≤ n ∧ (b = 0 ∨ (kn (R (b - 1)).1 = 2 ∧ L (b - 1))) ∧ ∀ j, j < n → L j → kn (R j).1 = 2 → j < b
 closed : ∀ i j, i < n → L i → Nat.testBit (Mk O D i) j = true → L j
 frame : ∀ x, x < w0.heap.size → (∀ k c X, t0.get k = some c → ρ0 k = some X → X.blk ≠ x) → wd.heap[x]? = w0.heap[x]?
 live : ∀ q c X, HD t0 D R n L b q c → ρ q = some X →
  w0.heap.size ≤ X.blk ∨ ∃ k0 c0 X0, t0.get k0 = some c0 ∧ ρ0 k0 = some X0 ∧ X0.blk = X.blk

end
section
variable {P : Program} {G : Nat} {call : CallH} {lo nt n1 s0 : Nat} {t0 : Tr AB} {hint : Nat → Bool} {ops : List Oper} {w : Tr Nat} {n : Nat} {O : Nat → Oper} {D : Nat → Dr} {R : Nat → Kd × Value × AH} {T0 : Tr Value}
variable {Ds : List Deferred} {r : Option Nat} {ρ0 : Env} {w0 : World} {L : Nat → Prop} {b : Nat} {a : Act} {wd : World} {ρ : Env}

theorem RI.step (pl : Plan P G call lo nt s0 t0 hint ops w n O D R) (hD0 : D 0 = ⟨T0, s0, t0, 0, .leaf, .leaf, .leaf, 0, 0, [], [], 0⟩) (hO : ∀ i, i < n → ops[i]? = some (O i)) (hn : ops.length = n) (hw : writersOf ops 0 = some w)
  (hnn : NoNum P) (hC : CallOK P G call) (hG : GOK G ρ0) (hI0 : Inv ρ0 ⟨t0, s0⟩ lo n1 w0) {opsA : Array Oper} (ho : opsA.toList = ops) {K : Act → World → Prop} {Q : Exit → Act → World → Prop}
  (h : RI Ds lo nt n1 s0 t0 w n O D R T0 ρ0 w0 L b a wd ρ) {i : Nat} (hi : i < n) (hL : ¬ L i) (hready : ∀ e ∈ (O i).after.toList, Region.binds .any e = true → L e.on)
  (hK : ∀ L' b' a' w' ρ', (∀ j, L' j ↔ (L j ∨ j = i)) → RI Ds lo nt n1 s0 t0 w n O D R T0 ρ0 w0 L' b' a' w' ρ' → K a' w') :
  if Region.wanted (O i) (yielded opsA a.tmps) = true then (O i).wpIn (FW r) 0 P a wd K Q else (∀ f, (O i).about P wd a.eval = some f → (FW r).fn f) ∧ K (a.put (O i).dst undef) wd := by
 have hmask : ∀ j, Nat.testBit (Mk O D i) j = true → L j := fun j hj => by
  obtain ⟨e, h1, h2, h3⟩ := pl.edge hD0 i hi hj
  rcases h3 with rfl | ⟨h3, h4⟩
  ·exact hready e h1 h2
  ·exact h.closed e.on j (by omega) (hready e h1 h2) h4
 obtain ⟨b1, b2, b3⟩ := h.bnd
 have hs0 : (D 0).next = s0 := by rw [hD0]
 have mono : ∀ j k, j ≤ k → k ≤ n → (D j).next ≤ (D k).next := fun j k h1 h2 => pl.mono hD0 k j h1 h2
 have hs0i : s0 ≤ (D i).next := by rw [← hs0]; exact mono 0 i (by omega) (by omega)
 have hii : (D i).next ≤ (D (i + 1)).next := mono i (i + 1) (by omega) (by omega)
 have hnx := pl.next hD0 i hi
 obtain ⟨hin, lo', hrun, hkind⟩ := pl.run hD0 i hi
 -- the writes done are those that come before i
 have heb : 1 ≤ kn (R i).1 → (D i).eb = b := fun hk1 => by
  obtain ⟨c1, c2, c3, c4⟩ := pl.base hD0 i (by omega)
  have hcls : ∀ j, j < i → kn (R j).1 = 2 → Nat.testBit (Mk O D i) j = true := by
   rcases hkind with ⟨h1, _⟩ | ⟨h1, _, _, h2⟩ | ⟨h1, _, _, h2⟩
   ·omega
   ·exact h2
   ·exact fun j hj hk => h2 j hj (by omega)
  have l1 : (D i).eb ≤ b := by
   rcases c3 with c3 | c3
   ·omega
   ·by_cases e : (D i).eb = 0
    ·omega
    ·have := b3 ((D i).eb - 1) (by omega) (hmask _ (hcls _ (by omega) c3)) c3
     omega
  rcases b2 with b2 | ⟨b2, b2'⟩
  ·omega
  ·by_cases e : b = 0
   ·omega
   ·rcases Nat.lt_or_ge (b - 1) i with hlt | hge
    ·rcases Nat.lt_or_ge (D i).eb b with h1 | h1
     ·exact absurd b2 (c4 (b - 1) (by omega) hlt)
     ·omega
    ·have hne : b - 1 ≠ i := fun e' => hL (e' ▸ b2')
     -- a write behind i waits for i
     obtain ⟨_, _, _, hk'⟩ := pl.run hD0 (b - 1) (by omega)
     rcases hk' with ⟨h1, _⟩ | ⟨h1, _⟩ | ⟨_, _, _, h2⟩
     ·omega
     ·omega
     ·exact absurd (h.closed (b - 1) i (by omega) b2' (h2 i (by omega) hk1)) hL
 have hHD : ∀ q c, hin.get q = some c → HD t0 D R n L b q c ∧ ∃ X, ρ q = some X ∧ X.blk < wd.heap.size ∧ q < (D i).next ∧ BR (restr ρ (D i).next) X c wd.heap[X.blk]? := fun q c hq => by
  have hsrc : 1 ≤ kn (R i).1 → Src t0 O D R i q c → HD t0 D R n L b q c ∧ ∃ X, ρ q = some X ∧ X.blk < wd.heap.size ∧ q < (D i).next ∧ BR (restr ρ (D i).next) X c wd.heap[X.blk]? := fun hk hs => by
   have he := heb hk
   have hbi : b ≤ i := by rw [← he]; exact (pl.base hD0 i (by omega)).1
   rcases hs with hs | ⟨j, h1, h2, h3, h4, h5, h6, h7⟩
   ·rw [he] at hs
    obtain ⟨X, x1, x2, x3⟩ := h.base q c hs
    have := mono b i hbi (by omega)
    exact ⟨.inl hs, X, (restr_some x1).2, x2, Nat.lt_of_lt_of_le (restr_some x1).1 this, x3.mono (restr_le this)⟩
   ·rw [he] at h1
    have := mono (j + 1) i (by omega) (by omega)
    obtain ⟨X, x1, x2, x3⟩ := h.adds j h1 (by omega) (hmask j h3) h4 q c h5 h6 h7
    exact ⟨.inr ⟨j, h1, by omega, hmask j h3, h4, h5, h6, h7⟩, X, x1, x2, by omega, x3.mono (restr_le this)⟩
  rcases hkind with ⟨h1, _, _, h2⟩ | ⟨h1, _, h2, _⟩ | ⟨h1, _, h2, _⟩
  ·obtain ⟨a1, a2, a3⟩ := h2 q c hq
   have hb : (baseOf t0 R b).get q = some c := by
    rw [pl.asideBase hD0 hi a1 b b1 (b2.imp id (·.1)) (fun i' h1 h2 => ?_)]
    ·exact a2
    ·have hLi' : L i' := by
      rcases b2 with e0 | ⟨b2k, b2L⟩
      ·omega
      ·by_cases e' : i' = b - 1
       ·rw [e']; exact b2L
       ·obtain ⟨_, _, _, hk'⟩ := pl.run hD0 (b - 1) (by omega)
        rcases hk' with ⟨h3, _⟩ | ⟨h3, _⟩ | ⟨_, _, _, h3⟩
        ·omega
        ·omega
        ·exact h.closed (b - 1) i' (by omega) b2L (h3 i' (by omega) (by omega))
     cases hT : Nat.testBit (Mk O D i') i with
     | false => rfl
     | true => exact absurd (h.closed i' i (by omega) hLi' hT) hL
   obtain ⟨X, x1, x2, x3⟩ := h.base q c hb
   obtain ⟨X0, y1, y2, y3⟩ := hI0.blk q c a2
   have hsub : Sub ρ0 (restr ρ0 s0) := fun k Z hk => restr_mk (hI0.dom k Z hk) hk
   exact ⟨.inl hb, X, (restr_some x1).2, x2, by omega, ((x3.mono (restr_sub _ _)).restr (y3.mono hsub)).mono (restr_le hs0i)⟩
  ·exact hsrc (by omega) (h2 q c hq)
  ·exact hsrc (by omega) (h2 q c hq)
 have hsz : n1 ≤ wd.heap.size := Nat.le_trans hI0.size h.below.size
 -- the operation, in a memory that holds what it may look at
 have hlo' : (kn (R i).1 ≠ 2 ∧ lo' = (D i).next) ∨ (kn (R i).1 = 2 ∧ lo' = lo) := by
  rcases hkind with ⟨h1, h2, _⟩ | ⟨h1, h2, _⟩ | ⟨h1, h2, _⟩
  ·exact .inl ⟨by omega, h2⟩
  ·exact .inl ⟨by omega, h2⟩
  ·exact .inr ⟨h1, h2⟩
 have hlo0 : lo ≤ s0 := hI0.lo
 have main : ∀ ni : Nat, ((kn (R i).1 ≠ 2 ∧ ni = wd.heap.size) ∨ (kn (R i).1 = 2 ∧ ni = n1)) →
   if Region.wanted (O i) (yielded opsA a.tmps) = true then (O i).wpIn (FW r) 0 P a wd K Q else (∀ f, (O i).about P wd a.eval = some f → (FW r).fn f) ∧ K (a.put (O i).dst undef) wd := fun ni hni => by
  have hni1 : n1 ≤ ni := by rcases hni with ⟨_, h1⟩ | ⟨_, h1⟩ <;> omega
  have hInv : Inv (restr ρ (D i).next) ⟨hin, (D i).next⟩ lo' ni wd := by
   refine ⟨fun k X hk => (restr_some hk).1, fun q c hq => ?_, fun q q' c c' X X' hq hq' hX hX' he => ?_, fun k X hk hX => ?_, ?_, ?_⟩
   ·obtain ⟨_, X, x1, x2, x3, x4⟩ := hHD q c hq
    exact ⟨X, restr_mk x3 x1, x2, x4⟩
   ·exact h.sep q c q' c' X X' (hHD q c hq).1 (hHD q' c' hq').1 (restr_some hX).2 (restr_some hX').2 he
   ·obtain ⟨y1, y2⟩ := restr_some hX
    rcases hlo' with ⟨z1, z2⟩ | ⟨z1, z2⟩
    ·have : k < (D i).next := y1
     omega
    ·rcases hni with ⟨u1, u2⟩ | ⟨u1, u2⟩
     ·exact absurd z1 u1
     ·rw [u2]; exact h.low k X (by omega) y2
   ·show lo' ≤ (D i).next
    rcases hlo' with ⟨z1, z2⟩ | ⟨z1, z2⟩ <;> omega
   ·rcases hni with ⟨_, h1⟩ | ⟨_, h1⟩ <;> omega
  have hGi : GOK G (restr ρ (D i).next) := fun g hg => by
   obtain ⟨X, x1, x2, x3⟩ := hG g hg
   have := hI0.dom g X x1
   have hlt : g < s0 := this
   exact ⟨X, restr_mk (by omega) (by rw [h.ext g hlt]; exact x1), x2, x3⟩
  have hreads : ∀ t, Operand.tmp t ∈ readsOf ops (O i) → VR (restr ρ (D i).next) (((D i).T.get t).getD undef) (a.tmps.getD t undef) := fun t ht => by
   have hT := pl.T hD0 hO hn hw i (by omega) t
   rw [hT]
   cases hwt : w.get t with
   | none => exact (h.tmpA t (fun j hj => by rw [hwt] at hj; cases hj)).mono (restr_le hs0i)
   | some j =>
    simp only
    have hjn := pl.wlt hD0 hO hn hw hwt
    by_cases hji : j < i
    ·rw [if_pos hji]
     have hr := readsOk_spec (pl.chk1 i hi) t j ht hwt
     rw [pl.i hD0 i (by omega)] at hr
     have hLj : L j := hmask j (hr.resolve_right (by omega))
     exact (h.tmpB t j hwt hLj).mono (restr_le (mono (j + 1) i (by omega) (by omega)))
    ·rw [if_neg hji]
     refine (h.tmpA t (fun j' hj' => ?_)).mono (restr_le hs0i)
     rw [hwt] at hj'
     obtain rfl := Option.some.inj hj'
     intro hLj
     by_cases e : j = i
     ·exact hL (e ▸ hLj)
     ·have hd := (pl.wr hD0 hO hn hw j hjn t).2 hwt
      have hbit := bits_spec (pl.chk3 j hjn t hd) (pl.rd hD0 j (by omega) i (by omega) t ht)
      exact hL (h.closed j i hjn hLj hbit)
  refine xstep_wp (v := (R i).2.1) (H' := (R i).2.2) hnn hC hGi ho hreads hInv hrun fun v' w' ρ1 hv hs => ?_
  have hrd : ∀ k X, ρ1 k = some X → k < (D (i + 1)).next := fun k X hk => by rw [hnx]; exact hs.inv.dom k X hk
  have hfr := h.fresh i hi hL
  -- the places of all blocks
  let ρ' : Env := fun k => if (D i).next ≤ k ∧ k < (D (i + 1)).next then ρ1 k else ρ k
  have e1 : ∀ k, ¬ ((D i).next ≤ k ∧ k < (D (i + 1)).next) → ρ' k = ρ k := fun k hk => if_neg hk
  have e2 : ∀ k, (D i).next ≤ k → k < (D (i + 1)).next → ρ' k = ρ1 k := fun k h1 h2 => if_pos ⟨h1, h2⟩
  have sub : Sub ρ ρ' := fun k X hk => by
   rw [e1 k (fun hc => by rw [hfr k hc.1 hc.2] at hk; cases hk)]; exact hk
  have rsub : ∀ s, Sub (restr ρ s) (restr ρ' s) := fun s => restr_mono (Nat.le_refl _) fun k X _ hk => sub k X hk
  have sub1 : Sub ρ1 (restr ρ' (D (i + 1)).next) := fun k X hk => by
   refine restr_mk (hrd k X hk) ?_
   by_cases hc : (D i).next ≤ k
   ·rw [e2 k hc (hrd k X hk)]; exact hk
   ·have := hs.ext k (show k < (D i).next by omega)
    rw [this] at hk
    rw [e1 k (fun hx => hc hx.1)]
    exact (restr_some hk).2
  have sub1' : Sub ρ1 ρ' := sub1.trans (restr_sub _ _)
  -- what lies in the blocks that were there
  have old : kn (R i).1 ≠ 2 → ∀ x, x < wd.heap.size → w'.heap[x]? = wd.heap[x]? := fun hk x hx => by
   rcases hni with ⟨_, h1⟩ | ⟨h1, _⟩
   ·exact hs.below.block x (by omega)
   ·exact absurd h1 hk
  have hwsz := hs.below.size
  have nowr : ∀ j, i + 1 ≤ j → j < n → L j → kn (R j).1 = 1 → kn (R i).1 = 2 → False := fun j h1 h2 h3 h4 h5 => by
   obtain ⟨_, _, _, hk'⟩ := pl.run hD0 j h2
   rcases hk' with ⟨z1, _⟩ | ⟨_, _, _, z2⟩ | ⟨z1, _⟩
   ·omega
   ·exact hL (h.closed j i h2 h3 (z2 i (by omega) h5))
   ·omega
  have hb' : kn (R i).1 = 2 → (baseOf t0 R (i + 1)) = (R i).2.2.t := fun _ => by simp [baseOf]
  have hL' : ∀ j, (fun j => L j ∨ j = i) j ↔ (L j ∨ j = i) := fun j => Iff.rfl
  -- a block of the new state: an old one, or one of this operation
  have hHD' : kn (R i).1 ≠ 2 → ∀ q c, HD t0 D R n (fun j => L j ∨ j = i) b q c → HD t0 D R n L b q c ∨ (kn (R i).1 = 1 ∧ (D i).next ≤ q ∧ q < (D (i + 1)).next ∧ (R i).2.2.t.get q = some c) := fun hk q c hq => by
   rcases hq with hq | ⟨j, h1, h2, h3 | h3, h4, h5, h6, h7⟩
   ·exact .inl (.inl hq)
   ·exact .inl (.inr ⟨j, h1, h2, h3, h4, h5, h6, h7⟩)
   ·subst h3; exact .inr ⟨h4, h5, h6, h7⟩
  have oldX : ∀ q c, HD t0 D R n L b q c → ∃ X, ρ q = some X ∧ X.blk < wd.heap.size := fun q c hq => by
   rcases hq with hq | ⟨j, h1, h2, h3, h4, h5, h6, h7⟩
   ·obtain ⟨X, x1, x2, _⟩ := h.base q c hq; exact ⟨X, (restr_some x1).2, x2⟩
   ·obtain ⟨X, x1, x2, _⟩ := h.adds j h1 h2 h3 h4 q c h5 h6 h7; exact ⟨X, x1, x2⟩
  have hHD2 : kn (R i).1 = 2 → ∀ q c, HD t0 D R n (fun j => L j ∨ j = i) (i + 1) q c → (R i).2.2.t.get q = some c := fun hk q c hq => by
   rcases hq with hq | ⟨j, h1, h2, h3 | h3, h4, h5, h6, h7⟩
   ·rw [hb' hk] at hq; exact hq
   ·exact (nowr j h1 h2 h3 h4 hk).elim
   ·omega
  have hlive : ∀ q c X, (R i).2.2.t.get q = some c → ρ1 q = some X → w0.heap.size ≤ X.blk ∨ ∃ k0 c0 X0, t0.get k0 = some c0 ∧ ρ0 k0 = some X0 ∧ X0.blk = X.blk := fun q c X hq hX => by
   rcases hs.live q c X hq hX with h1 | ⟨k0, c0, X0, y1, y2, y3⟩
   ·exact .inl (Nat.le_trans h.below.size h1)
   ·rw [← y3]
    exact h.live k0 c0 X0 (hHD k0 c0 y1).1 (restr_some y2).2
  have hframe : ∀ x, x < w0.heap.size → (∀ k c X, t0.get k = some c → ρ0 k = some X → X.blk ≠ x) → w'.heap[x]? = w0.heap[x]? := fun x hx hl => by
   rw [← h.frame x hx hl]
   refine hs.frame x (Nat.lt_of_lt_of_le hx h.below.size) fun k c X hk hX => ?_
   rcases h.live k c X (hHD k c hk).1 (restr_some hX).2 with h1 | ⟨k0, c0, X0, y1, y2, y3⟩
   ·omega
   ·rw [← y3]; exact hl k0 c0 X0 y1 y2
  have hput : ∀ t, (∀ d, (O i).dst = some d → t ≠ d) → (a.put (O i).dst v').tmps.getD t undef = a.tmps.getD t undef := fun t ht => by
   cases hd : (O i).dst with
   | none => rfl
   | some d =>
    have := ht d hd
    simp only [Act.put]
    simp only [Array.getD_eq_getD_getElem?, Array.getElem?_setIfInBounds_ne (Ne.symm this)]
  have hval : ∀ d, (O i).dst = some d → (a.put (O i).dst v').tmps.getD d undef = v' := fun d hd => by
   have h1 : d < a.tmps.size := by rw [h.size]; exact pl.dlt hD0 hO hn hw i hi hd
   rw [hd]
   simp only [Act.put, Array.getD_eq_getD_getElem?]
   simp [h1]
  have hdef : (a.put (O i).dst v').defers = Ds := by cases (O i).dst <;> exact h.defers
  have hsize : (a.put (O i).dst v').tmps.size = nt := by
   cases (O i).dst with
   | none => exact h.size
   | some d => simp [Act.put, h.size]
  have htmpA : ∀ t : Nat, (∀ j, w.get t = some j → ¬ (L j ∨ j = i)) → VR (restr ρ' s0) ((T0.get t).getD undef) ((a.put (O i).dst v').tmps.getD t undef) := fun t ht => by
   rw [hput t (fun d hd e => by subst e; exact ht i ((pl.wr hD0 hO hn hw i hi t).1 hd) (.inr rfl))]
   exact (h.tmpA t (fun j hj hl => ht j hj (.inl hl))).mono (rsub _)
  have htmpB : ∀ t j : Nat, w.get t = some j → (L j ∨ j = i) → VR (restr ρ' (D (j + 1)).next) (R j).2.1 ((a.put (O i).dst v').tmps.getD t undef) := fun t j hj hl => by
   by_cases e : j = i
   ·subst e
    rw [hval t ((pl.wr hD0 hO hn hw j hi t).2 hj)]
    exact hv.mono sub1
   ·rw [hput t (fun d hd e' => by
     subst e'
     have := (pl.wr hD0 hO hn hw i hi t).1 hd
     rw [hj] at this
     exact e (Option.some.inj this))]
    exact (h.tmpB t j hj (hl.resolve_right e)).mono (rsub _)
  have hfresh : ∀ j, j < n → ¬ (L j ∨ j = i) → ∀ k, (D j).next ≤ k → k < (D (j + 1)).next → ρ' k = none := fun j hj hl k h1 h2 => by
   have hji : j ≠ i := fun e => hl (.inr e)
   rw [e1 k (fun hc => by
    rcases Nat.lt_or_ge j i with hlt | hge
    ·have := mono (j + 1) i (by omega) (by omega); omega
    ·have := mono (i + 1) j (by omega) (by omega); omega)]
   exact h.fresh j hj (fun hx => hl (.inl hx)) k h1 h2
  have htop : ∀ k, (D n).next ≤ k → ρ' k = none := fun k hk => by
   have := mono (i + 1) n (by omega) (Nat.le_refl _)
   rw [e1 k (fun hc => by omega)]
   exact h.top k hk
  have hlow : ∀ k X, lo ≤ k → ρ' k = some X → n1 ≤ X.blk := fun k X hk hX => by
   by_cases hc : (D i).next ≤ k ∧ k < (D (i + 1)).next
   ·rw [e2 k hc.1 hc.2] at hX
    exact Nat.le_trans hni1 (hs.inv.low k X (by rcases hlo' with ⟨_, z⟩ | ⟨_, z⟩ <;> omega) hX)
   ·rw [e1 k hc] at hX; exact h.low k X hk hX
  have hext : ∀ k, k < s0 → ρ' k = ρ0 k := fun k hk => by
   rw [e1 k (fun hc => by omega)]; exact h.ext k hk
  have hclosed : ∀ i' j, i' < n → (L i' ∨ i' = i) → Nat.testBit (Mk O D i') j = true → (L j ∨ j = i) := fun i' j h1 h2 h3 => by
   rcases h2 with h2 | rfl
   ·exact .inl (h.closed i' j h1 h2 h3)
   ·exact .inl (hmask j h3)
  have hbelow : Below n1 w0 w' := h.below.trans (hs.below.mono hni1)
  by_cases hk2 : kn (R i).1 = 2
  ·have hbi : b ≤ i := by rw [← heb (by omega)]; exact (pl.base hD0 i (by omega)).1
   refine hK (fun j => L j ∨ j = i) (i + 1) _ w' ρ' hL' ⟨hdef, hsize, htmpA, htmpB, fun q c hq => ?_, fun j h1 h2 h3 h4 => ?_, fun q c q' c' X X' hq hq' hX hX' he => ?_, hfresh, htop, hlow, hbelow, hext,
    ⟨by omega, .inr ⟨by simpa using hk2, .inr (by omega)⟩, fun j h1 h2 h3 => ?_⟩, hclosed, hframe, fun q c X hq hX => ?_⟩
   ·rw [hb' hk2] at hq
    obtain ⟨X, x1, x2, x3⟩ := hs.inv.blk q c hq
    exact ⟨X, sub1 q X x1, x2, x3.mono sub1⟩
   ·rcases h3 with h3 | h3
    ·exact (nowr j h1 h2 h3 h4 hk2).elim
    ·omega
   ·have g1 := hHD2 hk2 q c hq
    have g2 := hHD2 hk2 q' c' hq'
    obtain ⟨Y, y1, _⟩ := hs.inv.blk q c g1
    obtain ⟨Y', y1', _⟩ := hs.inv.blk q' c' g2
    have r1 := sub1' q Y y1
    have r2 := sub1' q' Y' y1'
    rw [hX] at r1
    rw [hX'] at r2
    obtain rfl := Option.some.inj r1
    obtain rfl := Option.some.inj r2
    exact hs.inv.sep q q' c c' _ _ g1 g2 y1 y1' he
   ·rcases h2 with h2 | h2
    ·have := b3 j h1 h2 h3; omega
    ·omega
   ·have g1 := hHD2 hk2 q c hq
    obtain ⟨Y, y1, _⟩ := hs.inv.blk q c g1
    have r1 := sub1' q Y y1
    rw [hX] at r1
    obtain rfl := Option.some.inj r1
    exact hlive q c _ g1 y1
  ·have oldk := old hk2
   have newblk : ∀ q X, (D i).next ≤ q → ρ1 q = some X → wd.heap.size ≤ X.blk := fun q X hq hX => by
    rcases hlo' with ⟨_, z⟩ | ⟨z, _⟩
    ·rcases hni with ⟨_, z2⟩ | ⟨z2, _⟩
     ·rw [← z2]; exact hs.inv.low q X (by omega) hX
     ·exact absurd z2 hk2
    ·exact absurd z hk2
   refine hK (fun j => L j ∨ j = i) b _ w' ρ' hL' ⟨hdef, hsize, htmpA, htmpB, fun q c hq => ?_, fun j h1 h2 h3 h4 q c h5 h6 h7 => ?_, fun q c q' c' X X' hq hq' hX hX' he => ?_, hfresh, htop, hlow, hbelow, hext,
    ⟨b1, b2.imp id (fun z => ⟨z.1, .inl z.2⟩), fun j h1 h2 h3 => ?_⟩, hclosed, hframe, fun q c X hq hX => ?_⟩
   ·obtain ⟨X, x1, x2, x3⟩ := h.base q c hq
    exact ⟨X, rsub _ q X x1, by omega, by rw [oldk _ x2]; exact x3.mono (rsub _)⟩
   ·by_cases e : j = i
    ·subst e
     obtain ⟨X, x1, x2, x3⟩ := hs.inv.blk q c h7
     exact ⟨X, sub1' q X x1, x2, x3.mono sub1⟩
    ·obtain ⟨X, x1, x2, x3⟩ := h.adds j h1 h2 (h3.resolve_right e) h4 q c h5 h6 h7
     exact ⟨X, sub q X x1, by omega, by rw [oldk _ x2]; exact x3.mono (rsub _)⟩
   ·have inv : ∀ q c X, HD t0 D R n (fun j => L j ∨ j = i) b q c → ρ' q = some X → (HD t0 D R n L b q c ∧ ρ q = some X ∧ X.blk < wd.heap.size) ∨ ((R i).2.2.t.get q = some c ∧ ρ1 q = some X ∧ wd.heap.size ≤ X.blk) := fun q c X hq hX => by
     rcases hHD' hk2 q c hq with hq | ⟨_, g1, g2, g3⟩
     ·obtain ⟨Y, y1, y2⟩ := oldX q c hq
      have := sub q Y y1
      rw [hX] at this
      obtain rfl := Option.some.inj this
      exact .inl ⟨hq, y1, y2⟩
     ·rw [e2 q g1 g2] at hX
      exact .inr ⟨g3, hX, newblk q X g1 hX⟩
    rcases inv q c X hq hX with ⟨u1, u2, u3⟩ | ⟨u1, u2, u3⟩ <;> rcases inv q' c' X' hq' hX' with ⟨v1, v2, v3⟩ | ⟨v1, v2, v3⟩
    ·exact h.sep q c q' c' X X' u1 v1 u2 v2 he
    ·omega
    ·omega
    ·exact hs.inv.sep q q' c c' X X' u1 v1 u2 v2 he
   ·rcases h2 with h2 | h2
    ·exact b3 j h1 h2 h3
    ·subst h2; exact absurd h3 hk2
   ·rcases hHD' hk2 q c hq with hq | ⟨_, g1, g2, g3⟩
    ·obtain ⟨Y, y1, y2⟩ := oldX q c hq
     have := sub q Y y1
     rw [hX] at this
     obtain rfl := Option.some.inj this
     exact h.live q c _ hq y1
    ·rw [e2 q g1 g2] at hX
     exact hlive q c X g3 hX
 by_cases hk2 : kn (R i).1 = 2
 ·exact main n1 (.inr ⟨hk2, rfl⟩)
 ·exact main wd.heap.size (.inl ⟨hk2, rfl⟩)
end
section
variable {P : Program} {G : Nat} {call : CallH} {lo nt n1 s0 : Nat} {t0 : Tr AB} {hint : Nat → Bool} {ops : List Oper} {w : Tr Nat} {n : Nat} {O : Nat → Oper} {D : Nat → Dr} {R : Nat → Kd × Value × AH} {T0 : Tr Value}
variable {Ds : List Deferred} {r : Option Nat} {ρ0 : Env} {w0 : World} {L : Nat → Prop} {b : Nat} {a : Act} {wd : World} {ρ : Env}

/-- all operations done -/
theorem RI.done (pl : Plan P G call lo nt s0 t0 hint ops w n O D R) (hD0 : D 0 = ⟨T0, s0, t0, 0, .leaf, .leaf, .leaf, 0, 0, [], [], 0⟩) (hO : ∀ i, i < n → ops[i]? = some (O i)) (hn : ops.length = n) (hw : writersOf ops 0 = some w)
  (hI0 : Inv ρ0 ⟨t0, s0⟩ lo n1 w0) (h : RI Ds lo nt n1 s0 t0 w n O D R T0 ρ0 w0 L b a wd ρ) (hall : ∀ i, i < n → L i) (m : Nat) :
  TR Ds ρ nt (D n).T a ∧ Step ρ0 ⟨t0, s0⟩ lo n1 w0 ρ ⟨gather (D n).ds m (D n).eb (Nat.sub (D n).i (D n).eb) (D n).base, (D n).next⟩ wd := by
 have hs0 : (D 0).next = s0 := by rw [hD0]
 have h0n : s0 ≤ (D n).next := by rw [← hs0]; exact pl.mono hD0 n 0 (by omega) (Nat.le_refl _)
 obtain ⟨c1, c2, c3, c4⟩ := pl.base hD0 n (Nat.le_refl _)
 obtain ⟨b1, b2, b3⟩ := h.bnd
 have heb : (D n).eb = b := by
  have l1 : (D n).eb ≤ b := by
   rcases c3 with c3 | c3
   ·omega
   ·by_cases e : (D n).eb = 0
    ·omega
    ·have := b3 ((D n).eb - 1) (by omega) (hall _ (by omega)) c3; omega
  rcases b2 with b2 | ⟨b2, _⟩
  ·omega
  ·by_cases e : b = 0
   ·omega
   ·rcases Nat.lt_or_ge (D n).eb b with h1 | h1
    ·exact absurd b2 (c4 (b - 1) (by omega) (by omega))
    ·omega
 have hH : ∀ q c, (gather (D n).ds m (D n).eb (Nat.sub (D n).i (D n).eb) (D n).base).get q = some c → HD t0 D R n L b q c := fun q c hq => by
  rcases gather_get _ _ _ _ _ _ _ hq with h1 | ⟨j, h1, h2, h3, h4⟩
  ·rw [c2, heb] at h1; exact .inl h1
  ·obtain ⟨d1, d2, d3, d4, d5⟩ := pl.ds hD0 n (Nat.le_refl _) j q c h4
   exact .inr ⟨j, by omega, d1, hall j d1, d2, d3, d4, d5⟩
 refine ⟨⟨h.size, h.defers, fun t => ?_⟩, ⟨h.ext, h0n, ⟨fun k X hk => ?_, fun q c hq => ?_, fun q q' c c' X X' hq hq' hX hX' he => h.sep q c q' c' X X' (hH q c hq) (hH q' c' hq') hX hX' he, h.low, Nat.le_trans hI0.lo h0n, Nat.le_trans hI0.size h.below.size⟩,
  h.below, h.frame, fun q c X hq hX => h.live q c X (hH q c hq) hX⟩⟩
 ·rw [pl.T hD0 hO hn hw n (Nat.le_refl _) t]
  cases hwt : w.get t with
  | none => exact (h.tmpA t (fun j hj => by rw [hwt] at hj; cases hj)).mono (restr_sub _ _)
  | some j =>
   have hjn := pl.wlt hD0 hO hn hw hwt
   simp only
   rw [if_pos hjn]
   exact (h.tmpB t j hwt (hall j hjn)).mono (restr_sub _ _)
 ·show k < (D n).next
  rcases Nat.lt_or_ge k (D n).next with h1 | h1
  ·exact h1
  ·rw [h.top k h1] at hk; cases hk
 ·rcases hH q c hq with h1 | ⟨j, h1, h2, h3, h4, h5, h6, h7⟩
  ·obtain ⟨X, x1, x2, x3⟩ := h.base q c h1
   exact ⟨X, (restr_some x1).2, x2, x3.mono (restr_sub _ _)⟩
  ·obtain ⟨X, x1, x2, x3⟩ := h.adds j h1 h2 h3 h4 q c h5 h6 h7
   exact ⟨X, x1, x2, x3.mono (restr_sub _ _)⟩

theorem getD_flip {l : Array Bool} {i : Nat} (h : i < l.size) : l.getD i true = l.getD i false := by simp [Array.getD, h]

theorem any_wp (pl : Plan P G call lo nt s0 t0 hint ops w n O D R) (hD0 : D 0 = ⟨T0, s0, t0, 0, .leaf, .leaf, .leaf, 0, 0, [], [], 0⟩) (hO : ∀ i, i < n → ops[i]? = some (O i)) (hn : ops.length = n) (hw : writersOf ops 0 = some w)
  (hnn : NoNum P) (hC : CallOK P G call) (hG : GOK G ρ0) (hI0 : Inv ρ0 ⟨t0, s0⟩ lo n1 w0) {opsA : Array Oper} (ho : opsA.toList = ops) {Q : Exit → Act → World → Prop}
  (hQ : ∀ a' w' ρ' L b, RI Ds lo nt n1 s0 t0 w n O D R T0 ρ0 w0 L b a' w' ρ' → (∀ i, i < n → L i) → Q .normal a' w') :
  ∀ (fuel : Nat) (listed : Array Bool) (a : Act) (wd : World) (ρ : Env) (b : Nat), listed.size = n → listed.toList.count false ≤ fuel →
   RI Ds lo nt n1 s0 t0 w n O D R T0 ρ0 w0 (fun i => listed.getD i false = true) b a wd ρ → wpAnyIn (FW r) 0 P .any opsA Q fuel listed a wd := by
 have hopsA : ∀ i, i < n → opsA[i]? = some (O i) := fun i hi => by rw [← Array.getElem?_toList, ho]; exact hO i hi
 have hready : ∀ listed : Array Bool, listed.size = n → Region.ready .any opsA listed = [] → ∀ m i, i < m → i < n → listed.getD i false = true := fun listed hsz hr m => by
  induction m with
  | zero => intro i h; omega
  | succ m ih =>
   intro i him hi
   by_cases hl : listed.getD i false = true
   ·exact hl
   ·exfalso
    have : i ∈ Region.ready .any opsA listed := by
     rw [mem_ready]
     refine ⟨by rw [getD_flip (by omega)]; simpa using hl, O i, hopsA i hi, fun e he hb => ?_⟩
     have hbit := maskOf_has (m := (D i).ms) (l := (O i).after.toList) (by simpa using he) hb
     have := testBit_lt (pl.mlt hD0 i hi) hbit
     exact ih e.on (by omega) (by omega)
    rw [hr] at this
    cases this
 intro fuel
 induction fuel with
 | zero =>
  intro listed a wd ρ b hsz hc h
  have hall : ∀ i, i < n → listed.getD i false = true := fun i hi => by
   have h0 : listed.toList.count false = 0 := by omega
   rw [List.count_eq_zero] at h0
   have hlt : i < listed.size := by omega
   rw [show listed.getD i false = listed[i] by simp [Array.getD, hlt]]
   cases hb : listed[i] with
   | true => rfl
   | false => exact absurd (hb ▸ Array.getElem_mem_toList hlt) h0
  refine ⟨?_, hQ a wd ρ _ b h hall⟩
  rw [List.eq_nil_iff_forall_not_mem]
  intro i hi
  obtain ⟨h1, o, h2, _⟩ := mem_ready.1 hi
  have hlt : i < n := by
   rw [← hn, ← ho]
   have := (Array.getElem?_eq_some_iff.1 h2).1
   simpa using this
  rw [getD_flip (by omega), hall i hlt] at h1
  cases h1
 | succ fuel ih =>
  intro listed a wd ρ b hsz hc h
  refine ⟨fun hr => hQ a wd ρ _ b h fun i hi => hready listed hsz hr (i + 1) i (by omega) hi, fun i hi => ?_⟩
  obtain ⟨h1, o, h2, h3⟩ := mem_ready.1 hi
  have hlt : i < n := by
   rw [← hn, ← ho]
   have := (Array.getElem?_eq_some_iff.1 h2).1
   simpa using this
  have heq := hopsA i hlt
  rw [h2] at heq
  obtain rfl := Option.some.inj heq
  unfold wpOpIn
  rw [h2]
  rw [getD_flip (by omega)] at h1
  refine h.step pl hD0 hO hn hw hnn hC hG hI0 ho hlt (by rw [h1]; simp) (fun e he hb => h3 e (by simpa using he) hb) fun L' b' a' w' ρ' hL' hri => ?_
  have hset : L' = fun j => (listed.setIfInBounds i true).getD j false = true := by
   funext j
   apply propext
   rw [hL' j]
   by_cases e : j = i
   ·subst e
    have : (listed.setIfInBounds j true).getD j false = true := by
     have : j < listed.size := by omega
     simp [Array.getD, this]
    simp [this]
   ·rw [getD_set_ne false (Ne.symm e)]
    simp [e]
  rw [hset] at hri
  refine ih _ a' w' ρ' b' (by simpa using hsz) ?_ hri
  have hli : i < listed.toList.length := by simp; omega
  have hfi : listed.toList[i] = false := by
   have : listed.getD i false = listed[i] := by simp [Array.getD, show i < listed.size by omega]
   rw [this] at h1
   simpa using h1
  rw [Array.toList_setIfInBounds, List.count_set hli, hfi]
  show listed.toList.count false - 1 + 0 ≤ fuel
  omega

theorem drawn_wp (hm : P.follows .mixedOrders = true) (hnn : NoNum P) (hC : CallOK P G call) {H : AH} {T : Tr Value} {id : Nat} {opsA : Array Oper} {d : Dr} {Q : Exit → Act → World → Prop} (hw : writersOf opsA.toList 0 = some w)
  (hx : xdrawn P G call lo nt H.next H.t hint opsA.toList w opsA.toList ⟨T, H.next, H.t, 0, .leaf, .leaf, .leaf, 0, 0, [], [], 0⟩ = some d)
  (hG : GOK G ρ) (hI : Inv ρ H lo n1 wd) (hT : TR Ds ρ nt T a)
  (hQ : ∀ a' w' ρ', TR Ds ρ' nt d.T a' → Step ρ H lo n1 wd ρ' ⟨gather d.ds (Nat.sub (Nat.pow 2 d.i) 1) d.eb (Nat.sub d.i d.eb) d.base, d.next⟩ w' → Q .normal a' w') :
  (Code.region id opsA true).wpIn (FW r) 0 P Q a wd := by
 obtain ⟨O, D, R, h1, h2, h3, h4⟩ := plan_of _ _ _ hx
 have hd := draw_step hI (wd.drawn + 1)
 have hI' : Inv ρ ⟨H.t, H.next⟩ lo n1 { wd with drawn := wd.drawn + 1 } := hd.inv
 refine wpIn_region_any hm ?_
 have hsz : opsA.toList.length = opsA.size := by simp
 have nolist : ∀ i : Nat, ¬ ((Array.replicate opsA.size false).getD i false = true) := fun i => by
  by_cases hi : i < opsA.size <;> simp [Array.getD, hi]
 have hfr : ∀ k, H.next ≤ k → ρ k = none := fun k hk => by
  cases hr : ρ k with
  | none => rfl
  | some X => have := hI.dom k X hr; omega
 have hs0 : (D 0).next = H.next := by rw [h2]
 refine any_wp (Ds := Ds) h4 h2 h1 rfl hw hnn hC hG hI' rfl ?_ opsA.size (Array.replicate opsA.size false) a _ ρ 0 (by simp) (by simp) ?_
 ·intro a' w' ρ' L b hri hall
  obtain ⟨r1, r2⟩ := RI.done h4 h2 h1 rfl hw hI' hri hall (Nat.sub (Nat.pow 2 d.i) 1)
  rw [h3] at r1 r2
  exact hQ a' w' ρ' r1 (hd.trans r2)
 ·have hsub : Sub ρ (restr ρ H.next) := fun k X hk => restr_mk (hI.dom k X hk) hk
  refine ⟨hT.defers, hT.size, fun t _ => (hT.tmp t).mono hsub, fun t j _ hl => (nolist j hl).elim, fun q c hq => ?_, fun j _ _ hl => (nolist j hl).elim, fun q c q' c' X X' hq hq' hX hX' he => ?_, fun j hj _ k hk _ => ?_, fun k hk => ?_, hI'.low, Below.refl _ _, fun _ _ => rfl,
   ⟨Nat.zero_le _, .inl rfl, fun j _ hl => (nolist j hl).elim⟩, fun i j _ hl => (nolist i hl).elim, fun _ _ _ => rfl, fun q c X hq hX => ?_⟩
  ·obtain ⟨X, x1, x2, x3⟩ := hI'.blk q c hq
   rw [hs0]
   exact ⟨X, hsub q X x1, x2, x3.mono hsub⟩
  ·rcases hq with hq | ⟨j, _, _, hl, _⟩
   ·rcases hq' with hq' | ⟨j, _, _, hl, _⟩
    ·exact hI'.sep q q' c c' X X' hq hq' hX hX' he
    ·exact (nolist j hl).elim
   ·exact (nolist j hl).elim
  ·have := h4.mono h2 j 0 (by omega) (by omega)
   exact hfr k (by omega)
  ·have := h4.mono h2 opsA.toList.length 0 (by omega) (by omega)
   exact hfr k (by omega)
  ·rcases hq with hq | ⟨j, _, _, hl, _⟩
   ·exact .inr ⟨q, c, X, hq, hX, rfl⟩
   ·exact (nolist j hl).elim
end
section
variable {P : Program} {G : Nat} {call : CallH} {F lo nt n1 : Nat} {ρ : Env} {H : AH} {w : World}

theorem exists_least {p : Nat → Prop} (h : ∃ m, p m) : ∃ m, p m ∧ ∀ k, p k → m ≤ k := by
 obtain ⟨m, hm⟩ := h
 induction m using Nat.strongRecOn with
 | _ m ih =>
  by_cases hl : ∃ k, k < m ∧ p k
  ·obtain ⟨k, hk, hp⟩ := hl; exact ih k hk hp
  ·refine ⟨m, hm, fun k hk => ?_⟩
   rcases Nat.lt_or_ge k m with h | h
   ·exact absurd ⟨k, h, hk⟩ hl
   ·exact h

open Classical in
theorem wp_loop_ix {r : Option Nat} {c : Code} {Q : Exit → Act → World → Prop} {a : Act} (I : Nat → Act → World → Prop) (h0 : ∃ m, I m a w)
  (round : ∀ m a w, I m a w → c.wpIn (FW r) 0 P (Exit.then (fun a' w' => ∃ m', m' < m ∧ I m' a' w') Q) a w) : (Code.loop c).wpIn (FW r) 0 P Q a w := by
 let μ : Act → World → Nat := fun a w => if h : ∃ m, I m a w then (exists_least h).choose else 0
 have spec : ∀ a w, (h : ∃ m, I m a w) → I (μ a w) a w ∧ ∀ k, I k a w → μ a w ≤ k := fun a w h => by
  have : μ a w = (exists_least h).choose := dif_pos h
  rw [this]
  exact (exists_least h).choose_spec
 refine wpIn_loop (fun a w => ∃ m, I m a w) μ h0 fun a w h => ?_
 refine wpIn_mono (round (μ a w) a w (spec a w h).1) (fun e a' w' q => ?_)
 cases e <;> try exact q
 obtain ⟨m', h1, h2⟩ := q
 exact ⟨⟨m', h2⟩, Nat.lt_of_le_of_lt ((spec a' w' ⟨m', h2⟩).2 m' h2) h1⟩

def exOf : XE → Exit
 | .normal => .normal
 | .exit id => .exit id
 | .ret => .ret

/-- the marks among an activation's deferred calls -/
def DS (ρ : Env) : List Nat → List Deferred → Prop
 | [], [] => True
 | k :: ks, d :: ds => (∃ L : Loc, ρ k = some L ∧ L.off = 0 ∧ d = { target := .collected L.blk, args := #[] }) ∧ DS ρ ks ds
 | _, _ => False
theorem DS.mono {ρ ρ' : Env} (s : Sub ρ ρ') : ∀ {ks : List Nat} {ds : List Deferred}, DS ρ ks ds → DS ρ' ks ds
 | [], [], _ => trivial
 | _ :: _, _ :: _, ⟨⟨L, h1, h2, h3⟩, h4⟩ => ⟨⟨L, s _ _ h1, h2, h3⟩, DS.mono s h4⟩
 | [], _ :: _, h => h.elim
 | _ :: _, [], h => h.elim
/-- the loop whose round this is -/
def RD (ρ : Env) : Option Nat → Option Nat → Prop
 | none, none => True
 | some k, some l => ∃ L : Loc, ρ k = some L ∧ L.off = 0 ∧ L.blk = l
 | _, _ => False
theorem RD.mono {ρ ρ' : Env} (s : Sub ρ ρ') : ∀ {a b : Option Nat}, RD ρ a b → RD ρ' a b
 | none, none, _ => trivial
 | some _, some _, ⟨L, h1, h2, h3⟩ => ⟨L, s _ _ h1, h2, h3⟩
 | none, some _, h => h.elim
 | some _, none, h => h.elim

/-- what a piece of code does -/
def CodeOK (P : Program) (G lo nt : Nat) (rd : Option Nat) (f : Sc → Option (XE × Sc)) (c : Code) : Prop :=
 ∀ s e s', f s = some (e, s') → ∀ r n1 ρ w a (Q : Exit → Act → World → Prop), GOK G ρ → Inv ρ s.H lo n1 w → TR a.defers ρ nt s.T a → RD ρ rd r → DS ρ s.ds a.defers →
  (∀ a' w' ρ', TR a'.defers ρ' nt s'.T a' → DS ρ' s'.ds a'.defers → Step ρ s.H lo n1 w ρ' s'.H w' → Q (exOf e) a' w') → c.wpIn (FW r) 0 P Q a w

theorem iter_ok {rd : Option Nat} {f : Sc → Option (XE × Sc)} {c : Code} (hc : CodeOK P G lo nt rd f c) (m : Nat) : CodeOK P G lo nt rd (fun s => iter f m s) (.loop c) := by
 intro s e s' hx r n1 ρ w a Q hG hI hT hR hD hQ
 refine wp_loop_ix (fun k a1 w1 => ∃ s1 ρ1, iter f k s1 = some (e, s') ∧ TR a1.defers ρ1 nt s1.T a1 ∧ DS ρ1 s1.ds a1.defers ∧ Step ρ s.H lo n1 w ρ1 s1.H w1) ⟨m, s, ρ, hx, hT, hD, Step.refl hI⟩ ?_
 rintro k a1 w1 ⟨s1, ρ1, h1, h2, hd, h3⟩
 cases k with
 | zero => cases h1
 | succ k =>
  rw [iter] at h1
  have hG1 := hG.mono (h3.sub hI)
  cases hf : f s1 with
  | none => rw [hf] at h1; cases h1
  | some r =>
   obtain ⟨e1, s2⟩ := r
   refine hc s1 e1 s2 hf _ n1 ρ1 w1 a1 _ hG1 h3.inv h2 (hR.mono (h3.sub hI)) hd fun a' w' ρ' t1 td t2 => ?_
   rw [hf] at h1
   cases e1 with
   | normal => exact ⟨k, Nat.lt_succ_self _, s2, ρ', h1, t1, td, h3.trans t2⟩
   | exit id =>
    simp only [Option.some.injEq, Prod.mk.injEq] at h1
    obtain ⟨rfl, rfl⟩ := h1
    exact hQ a' w' ρ' t1 td (h3.trans t2)
   | ret =>
    simp only [Option.some.injEq, Prod.mk.injEq] at h1
    obtain ⟨rfl, rfl⟩ := h1
    exact hQ a' w' ρ' t1 td (h3.trans t2)

theorem run_getObj {r : Nat} {o : Obj} (h : w.heap[r]? = some o) (hc : ∀ c e f, o ≠ .cells c e f) : (getObj r).run P w = .ok o w := by
 cases o <;> first | exact absurd rfl (hc _ _ _) | (simp only [getObj, Sem.run, h]; done) | (simp [getObj, Sem.run, h])
theorem run_setObj {r : Nat} {o o' : Obj} (h : w.heap[r]? = some o) (hc : ∀ c e f, o ≠ .cells c e f) : (setObj r o').run P w = .ok () { w with heap := w.heap.setIfInBounds r o' } := run_setMap h hc

/-- a block's object, turned in place -/
theorem setObj_step (h : Inv ρ H lo n1 w) {k : Nat} {b b' : AB} {L : Loc} {o o' : Obj} (hk : H.t.get k = some b) (hL : ρ k = some L) (hlo : lo ≤ k) (ho : w.heap[L.blk]? = some o) (hb : BR ρ L b' (some o')) :
  Step ρ H lo n1 w ρ ⟨H.t.put k b', H.next⟩ { w with heap := w.heap.setIfInBounds L.blk o' } := by
 have hlt : L.blk < w.heap.size := heap_lt ho
 refine set_step h hk hL hlo (by simp) (fun j hj => ?_) rfl rfl rfl ?_
 ·simp [Array.getElem?_setIfInBounds_ne (Ne.symm hj)]
 ·have : (w.heap.setIfInBounds L.blk o')[L.blk]? = some o' := by simp [hlt]
  show BR ρ L b' (w.heap.setIfInBounds L.blk o')[L.blk]?
  rw [this]
  exact hb

theorem loop_inv (h : Inv ρ H lo n1 w) {k nt d : Nat} {st : LoopState} {pend : Option XE} {T : Tr Value} {ps : List Nat} {asg body : Code} {L : Loc} (hk : H.t.get k = some (.loop st pend T nt ps asg body d)) (hL : ρ k = some L) :
  ∃ r : Loop, w.heap[L.blk]? = some (.loop r) ∧ BR ρ L (.loop st pend T nt ps asg body d) (some (.loop r)) := by
 obtain ⟨L2, hL2, hlt, hbr⟩ := h.blk _ _ hk
 rw [hL] at hL2
 obtain rfl := Option.some.inj hL2
 cases ho : w.heap[L.blk]? with
 | none => rw [ho] at hbr; exact hbr.elim
 | some o =>
  rw [ho] at hbr
  cases o <;> try exact hbr.elim
  rename_i r
  exact ⟨r, rfl, hbr⟩

theorem run_getLoop {l : Nat} {r : Loop} (h : w.heap[l]? = some (.loop r)) : (Instr.getLoop l).run P w = .ok r w := by
 unfold Instr.getLoop
 rw [Sem.run_bind, run_getObj h (fun _ _ _ => by simp)]
 rfl

theorem new_step (h : Inv ρ H lo n1 w) {b : AB} {o : Obj} (hb : BR (upd ρ H.next ⟨w.heap.size, 0, 0, 0⟩) ⟨w.heap.size, 0, 0, 0⟩ b (some o)) :
  Step ρ H lo n1 w (upd ρ H.next ⟨w.heap.size, 0, 0, 0⟩) (H.push b) (w.alloc o) := alloc_step h hb
theorem run_newObj (o : Obj) : (newObj o).run P w = .ok w.heap.size (w.alloc o) := rfl

theorem put_rel {nt : Nat} : ∀ {ps : List Nat} {vs vs' : List Value} {T T' : Tr Value} {tmps : Array Value}, putAll nt ps vs T = some T' → LR ρ vs vs' → tmps.size = nt →
  (∀ t : Nat, VR ρ ((T.get t).getD undef) (tmps.getD t undef)) →
  ps.length = vs'.length ∧ ((ps.zip vs').foldl (fun tmps (x : Nat × Value) => tmps.setIfInBounds x.1 x.2) tmps).size = nt ∧
  ∀ t : Nat, VR ρ ((T'.get t).getD undef) (((ps.zip vs').foldl (fun tmps (x : Nat × Value) => tmps.setIfInBounds x.1 x.2) tmps).getD t undef)
 | [], [], vs', T, T', tmps, h, hv, hs, ht => by
  simp only [putAll, Option.some.injEq] at h
  subst h
  rw [hv.cases_nil]
  exact ⟨rfl, hs, ht⟩
 | p :: ps, v :: vs, vs', T, T', tmps, h, hv, hs, ht => by
  rw [putAll] at h
  cases hb : Nat.blt p nt <;> rw [hb] at h <;> simp only [cond_true, cond_false] at h
  ·cases h
  have hp := blt_of hb
  obtain ⟨v', m, rfl, h1, h2⟩ := hv.cases_cons
  obtain ⟨g1, g2, g3⟩ := put_rel (tmps := tmps.setIfInBounds p v') h h2 (by simpa using hs) (fun t => by
   rw [Tr.get_put]
   by_cases e : t = p
   ·subst e
    rw [if_pos rfl, getD_lt (by simp; omega)]
    simpa using h1
   ·rw [if_neg e]
    have h3 := ht t
    by_cases h4 : t < tmps.size
    ·rw [getD_lt h4] at h3
     rw [getD_lt (by simpa using h4), Array.getElem_setIfInBounds_ne h4 (Ne.symm e)]
     exact h3
    ·simpa [Array.getD, h4] using h3)
  exact ⟨by simp [g1], g2, g3⟩
 | [], _ :: _, _, _, _, _, h, _, _, _ => by simp [putAll] at h
 | _ :: _, [], _, _, _, _, h, _, _, _ => by simp [putAll] at h

theorem jumpOf_state : ∀ (p : Option XE) (s : Sc), (jumpOf p s).2 = s
 | none, _ => rfl
 | some .normal, _ => rfl
 | some (.exit _), _ => rfl
 | some .ret, _ => rfl
/-- the pending jump, carried out -/
theorem jump_wp {r : Option Nat} {p : Option XE} {s : Sc} {Q : Exit → Act → World → Prop} {a : Act} (h : Q (exOf (jumpOf p s).1) a w) :
  match p.map codeOf with
  | none => Q .normal a w
  | some c => c.wpIn (FW r) 0 P Q a w := by
 cases p with
 | none => exact h
 | some e =>
  cases e with
  | normal => exact wpIn_skip h
  | exit id => exact wpIn_exit h
  | ret => exact wpIn_ret h

theorem blockD_ok {rd r : Option Nat} {d : Nat} {m : List Nat} {H1 : AH} {fn : FuncId} {tmps : Array Value} {ps : Array Tmp} {asg body : Code} {T : Tr Value} (hx : blockD rd H = some (d, m, H1)) (hI : Inv ρ H lo n1 w) (hR : RD ρ rd r)
  (hs : tmps.size = nt) (ht : ∀ t : Nat, VR ρ ((T.get t).getD undef) (tmps.getD t undef)) :
  ∃ mark w2 ρ2 l, (Instr.enterLoop fn tmps ps asg body r).run P w = .ok (l, mark) w2 ∧ Step ρ H lo n1 w ρ2 (H1.push (.loop .ready none T nt ps.toList asg body d)) w2 ∧ ρ2 H1.next = some ⟨l, 0, 0, 0⟩ ∧ DS ρ2 m mark := by
 cases rd with
 | none =>
  cases r with
  | some _ => exact hR.elim
  | none =>
   simp only [blockD, Option.some.injEq, Prod.mk.injEq] at hx
   obtain ⟨rfl, rfl, rfl⟩ := hx
   have s1 := new_step (o := .deferred (some [])) hI (b := .dfr) rfl
   have s2 := new_step (o := .loop { state := .ready, pending := none, fn := fn, tmps := tmps, params := ps, assign := asg, body := body, defers := w.heap.size }) s1.inv (b := .loop .ready none T nt ps.toList asg body H.next)
    ⟨rfl, rfl, rfl, rfl, rfl, rfl, hs, fun t => (ht t).mono ((s1.sub hI).trans (s1.inv.sub_upd _)), ⟨w.heap.size, 0, 0, 0⟩, by rw [upd_ne (by simp [AH.push])]; exact upd_self _ _ _, rfl, rfl⟩
   refine ⟨[{ target := .collected w.heap.size, args := #[] }], _, _, _, ?_, s1.trans s2, upd_self _ _ _, ⟨⟨⟨w.heap.size, 0, 0, 0⟩, by rw [upd_ne (by simp [AH.push])]; exact upd_self _ _ _, rfl, rfl⟩, trivial⟩⟩
   rfl
 | some k =>
  cases r with
  | none => exact hR.elim
  | some l0 =>
   obtain ⟨L, h1, h2, rfl⟩ := hR
   simp only [blockD] at hx
   split at hx <;> try cases hx
   rename_i st pend T0 nt0 ps0 asg0 body0 d0 hk
   obtain ⟨r0, g1, g2⟩ := loop_inv hI hk h1
   obtain ⟨_, _, _, _, _, _, _, _, M, g3, g4, g5⟩ := g2
   have s2 := new_step (o := .loop { state := .ready, pending := none, fn := fn, tmps := tmps, params := ps, assign := asg, body := body, defers := r0.defers }) hI (b := .loop .ready none T nt ps.toList asg body d)
    ⟨rfl, rfl, rfl, rfl, rfl, rfl, hs, fun t => (ht t).mono (hI.sub_upd _), M, hI.sub_upd _ _ _ g3, g4, g5⟩
   refine ⟨[], _, _, _, ?_, s2, upd_self _ _ _, trivial⟩
   simp only [Instr.enterLoop, Sem.run_bind, run_getLoop g1, Result.andThen_ok, Sem.run_pure, run_newObj]

theorem DS.append {m k : List Nat} {mark ds : List Deferred} (h1 : DS ρ m mark) (h2 : DS ρ k ds) : DS ρ (m ++ k) (mark ++ ds) := by
 induction m generalizing mark with
 | nil => cases mark with
  | nil => exact h2
  | cons => exact h1.elim
 | cons x m ih => cases mark with
  | nil => exact h1.elim
  | cons y mark => exact ⟨h1.1, ih h1.2⟩

theorem xcode_ok (hm : P.follows .mixedOrders = true) (hnn : NoNum P) (hC : CallOK P G call) : ∀ (rd : Option Nat) (c : Code), CodeOK P G lo nt rd (xcode P G call F lo nt rd c) c := by
 intro rd c
 induction c with
 | skip =>
  intro s e s' hx r n1 ρ w a Q hG hI hT hR hD hQ
  simp only [xcode, Option.some.injEq, Prod.mk.injEq] at hx
  obtain ⟨rfl, rfl⟩ := hx
  exact wpIn_skip (hQ a w ρ hT hD (Step.refl hI))
 | label l =>
  intro s e s' hx r n1 ρ w a Q hG hI hT hR hD hQ
  simp only [xcode, Option.some.injEq, Prod.mk.injEq] at hx
  obtain ⟨rfl, rfl⟩ := hx
  exact wpIn_label (hQ a w ρ hT hD (Step.refl hI))
 | exit id =>
  intro s e s' hx r n1 ρ w a Q hG hI hT hR hD hQ
  simp only [xcode, Option.some.injEq, Prod.mk.injEq] at hx
  obtain ⟨rfl, rfl⟩ := hx
  exact wpIn_exit (hQ a w ρ hT hD (Step.refl hI))
 | ret =>
  intro s e s' hx r n1 ρ w a Q hG hI hT hR hD hQ
  simp only [xcode, Option.some.injEq, Prod.mk.injEq] at hx
  obtain ⟨rfl, rfl⟩ := hx
  exact wpIn_ret (hQ a w ρ hT hD (Step.refl hI))
 | goto l => intro s e s' hx; simp [xcode] at hx
 | scope c _ => intro s e s' hx; simp [xcode] at hx
 | refuse y => intro s e s' hx; simp [xcode] at hx
 | rangeFunc g ps asg body _ _ =>
  intro s e s' hx r n1 ρ w a Q hG hI hT hR hD hQ
  rw [xcode] at hx
  split at hx <;> try cases hx
  rename_i f ca cb hg
  split at hx <;> try cases hx
  rename_i d m H1 hd
  split at hx <;> try cases hx
  rename_i v H2 hcall
  split at hx
  ·cases hx
  rotate_left
  ·cases hx
  rename_i st pend T2 nt2 ps2 asg2 body2 d2 hnb hk
  cases hb : (Nat.ble lo H1.next && hasBody P f) <;> rw [hb] at hx <;> simp only [cond_true, cond_false] at hx
  ·cases hx
  simp only [Bool.and_eq_true] at hb
  have hlo := ble_of hb.1
  have hgv := ev_tmp (a := a) hG (fun t _ => hT.tmp t) hg
  generalize hge : a.eval g = gv at hgv
  cases hgv with
  | atom _ hat => simp [atom] at hat
  | func q1 q2 q3 q4 =>
   rename_i ca' cb'
   refine wpIn_rangeFunc fun fn _ => ?_
   obtain ⟨mark, w2, ρ2, l, h1, h2, h3, h4⟩ := blockD_ok (P := P) (fn := fn) (ps := ps) (asg := asg) (body := body) hd hI hR hT.size hT.tmp
   have hG2 := hG.mono (h2.sub hI)
   have hargs : LR ρ2 (ca.toList ++ [.func (.yield H1.next) #[] #[]] ++ cb.toList) (ca'.toList ++ [Value.func (.yield l) #[] #[]] ++ cb'.toList) :=
    LR.append (LR.append ⟨q1, fun i => (q3 i).mono (h2.sub hI)⟩ (.cons (.yield (L := ⟨l, 0, 0, 0⟩) h3 rfl) (.nil _))) ⟨q2, fun i => (q4 i).mono (h2.sub hI)⟩
   have hc : Calls P f (ca'.toList ++ [Value.func (.yield l) #[] #[]] ++ cb'.toList).toArray w2 fun e w' => ∃ v' ρ', e = .returned v' ∧ VR ρ' v v' ∧ Step ρ2 (H1.push (.loop .ready none s.T nt ps.toList asg body d)) lo n1 w2 ρ' H2 w' :=
    hC lo (.fn f) _ _ v H2 hcall ρ2 n1 w2 _ hG2 h2.inv hargs
   have hres : (resolve a.eval (rangeCall g l) 0).run P w2 = .ok (Deferred.mk (.fn (.func f) cb') (ca' ++ #[.func (.yield l) #[] #[]])) w2 := by
    have e1 : (rangeCall g l).callee = .value g := rfl
    have e2 : (rangeCall g l).args.map a.eval = #[.func (.yield l) #[] #[]] := by simp [rangeCall, Act.eval]
    simp only [resolve, e1, e2, hge, Deferred.ofValue, Sem.run_pure]
   have hinv : (invoke (Target.fn (.func f) cb') (ca' ++ #[.func (.yield l) #[] #[]])).run P w2 = .ok (.enter f (ca'.toList ++ [Value.func (.yield l) #[] #[]] ++ cb'.toList).toArray) w2 := by
    simp only [invoke]
    rw [run_callFunc hnn hb.2]
    congr 2
    apply Array.ext'
    simp
   have key : Calls P f (ca'.toList ++ [Value.func (.yield l) #[] #[]] ++ cb'.toList).toArray w2 (rangePost (FW r) 0 P l Q { a with defers := mark ++ a.defers }) := by
    refine hc.mono fun e' w' hh => ?_
    obtain ⟨v', ρ', he, hv, hs⟩ := hh
    subst he
    have hL : ρ' H1.next = some ⟨l, 0, 0, 0⟩ := hs.sub h2.inv _ _ h3
    obtain ⟨r1, g1, g2⟩ := loop_inv hs.inv hk hL
    obtain ⟨b1, b2, b3, b4, b5, b6, b7, b8, M, b9, b10⟩ := g2
    have hst : (r1.state == LoopState.busy) = false := by
     rw [b2]
     cases st <;> first | rfl | exact (hnb rfl).elim
    have s3 := setObj_step (b' := .loop .exhausted pend T2 nt2 ps2 asg2 body2 d2) hs.inv hk hL hlo g1 (o' := .loop { r1 with state := .exhausted }) ⟨b1, rfl, b3, b4, b5, b6, b7, b8, M, b9, b10⟩
    refine ⟨r1.pending, { w' with heap := w'.heap.setIfInBounds l (.loop { r1 with state := .exhausted }) }, ?_, ?_⟩
    ·simp only [Instr.endLoop, Sem.run_bind, run_getLoop g1, Result.andThen_ok, hst, Bool.false_eq_true, if_false, Sem.run_pure]
     rw [run_setObj g1 (fun _ _ _ => by simp)]
     rfl
    ·simp only [Option.some.injEq] at hx
     have e1 : e = (jumpOf pend ⟨s.T, ⟨H2.t.put H1.next (.loop .exhausted pend T2 nt2 ps2 asg2 body2 d2), H2.next⟩, m ++ s.ds⟩).1 := by rw [hx]
     have e2 : s' = ⟨s.T, ⟨H2.t.put H1.next (.loop .exhausted pend T2 nt2 ps2 asg2 body2 d2), H2.next⟩, m ++ s.ds⟩ := by rw [← jumpOf_state pend ⟨s.T, ⟨H2.t.put H1.next (.loop .exhausted pend T2 nt2 ps2 asg2 body2 d2), H2.next⟩, m ++ s.ds⟩, hx]
     subst e2
     have st3 := (h2.trans hs).trans s3
     have sb := st3.sub hI
     have hq : Q (exOf (jumpOf pend ⟨s.T, ⟨H2.t.put H1.next (.loop .exhausted pend T2 nt2 ps2 asg2 body2 d2), H2.next⟩, m ++ s.ds⟩).1) { a with defers := mark ++ a.defers } { w' with heap := w'.heap.setIfInBounds l (.loop { r1 with state := .exhausted }) } := by
      rw [← e1]
      exact hQ _ _ ρ' ⟨hT.size, rfl, fun t => (hT.tmp t).mono sb⟩ (DS.append (h4.mono ((hs.trans s3).sub h2.inv)) (hD.mono sb)) st3
     have hj := jump_wp (P := P) (r := r) (p := pend) hq
     rw [← b3] at hj
     exact hj
   exact ⟨l, mark, w2, _, w2, f, _, w2, h1, hres, fun _ _ => trivial, hinv, fun h => (by cases h), callsIn_FW.2 key⟩
 | region id ops draw =>
  intro s e s' hx r n1 ρ w a Q hG hI hT hR hD hQ
  cases draw with
  | false =>
   simp only [xcode, cond_false] at hx
   split at hx <;> try cases hx
   rename_i s1 h1
   refine wpIn_region ?_
   rw [List.range_eq_range', show ops.size = ops.toList.length by simp]
   refine xops_wp hnn hC rfl ops.toList 0 ⟨s.T, s.H⟩ s1 ρ w a (fun j => by simp) hG hI hT h1 fun a' w' ρ' t1 t2 => ?_
   have hda : a'.defers = a.defers := t1.defers
   exact hQ a' w' ρ' (hda ▸ t1) (by rw [hda]; exact hD.mono (t2.sub hI)) t2
  | true =>
   simp only [xcode, cond_true] at hx
   split at hx <;> try cases hx
   rename_i wm h1
   split at hx <;> try cases hx
   rename_i d h2
   obtain ⟨hint, h2⟩ := xdraw_spec h2
   refine drawn_wp hm hnn hC h1 h2 hG hI hT fun a' w' ρ' t1 t2 => ?_
   have hda : a'.defers = a.defers := t1.defers
   exact hQ a' w' ρ' (hda ▸ t1) (by rw [hda]; exact hD.mono (t2.sub hI)) t2
 | seq x y ix iy =>
  intro s e s' hx r n1 ρ w a Q hG hI hT hR hD hQ
  rw [xcode] at hx
  refine wpIn_seq ?_
  cases hf : xcode P G call F lo nt rd x s with
  | none => rw [hf] at hx; cases hx
  | some q =>
   obtain ⟨e1, s1⟩ := q
   refine ix s e1 s1 hf _ n1 ρ w a _ hG hI hT hR hD fun a' w' ρ' t1 td t2 => ?_
   rw [hf] at hx
   cases e1 with
   | normal => exact iy s1 e s' hx _ n1 ρ' w' a' Q (hG.mono (t2.sub hI)) t2.inv t1 (hR.mono (t2.sub hI)) td fun a'' w'' ρ'' t3 tdd t4 => hQ a'' w'' ρ'' t3 tdd (t2.trans t4)
   | exit id =>
    simp only [Option.some.injEq, Prod.mk.injEq] at hx
    obtain ⟨rfl, rfl⟩ := hx
    exact hQ a' w' ρ' t1 td t2
   | ret =>
    simp only [Option.some.injEq, Prod.mk.injEq] at hx
    obtain ⟨rfl, rfl⟩ := hx
    exact hQ a' w' ρ' t1 td t2
 | cond c x y ix iy =>
  intro s e s' hx r n1 ρ w a Q hG hI hT hR hD hQ
  rw [xcode] at hx
  split at hx <;> try cases hx
  ·rename_i hc
   have := (ev_tmp hG (fun t _ => hT.tmp t) hc).atom_eq rfl
   exact wpIn_cond_true this (ix s e s' hx _ n1 ρ w a Q hG hI hT hR hD hQ)
  ·rename_i hc
   have := (ev_tmp hG (fun t _ => hT.tmp t) hc).atom_eq rfl
   exact wpIn_cond_false this (iy s e s' hx _ n1 ρ w a Q hG hI hT hR hD hQ)
 | block id x ix =>
  intro s e s' hx r n1 ρ w a Q hG hI hT hR hD hQ
  rw [xcode] at hx
  refine wpIn_block ?_
  cases hf : xcode P G call F lo nt rd x s with
  | none => rw [hf] at hx; cases hx
  | some q =>
   obtain ⟨e1, s1⟩ := q
   refine ix s e1 s1 hf _ n1 ρ w a _ hG hI hT hR hD fun a' w' ρ' t1 td t2 => ?_
   rw [hf] at hx
   cases e1 with
   | normal =>
    simp only [Option.some.injEq, Prod.mk.injEq] at hx
    obtain ⟨rfl, rfl⟩ := hx
    exact hQ a' w' ρ' t1 td t2
   | exit i =>
    simp only at hx
    cases hb : Nat.beq i id <;> rw [hb] at hx <;> simp only [cond_true, cond_false, Option.some.injEq, Prod.mk.injEq] at hx
    ·obtain ⟨rfl, rfl⟩ := hx
     have : i ≠ id := fun e => by rw [e] at hb; simp at hb
     show (if i = id then Q .normal a' w' else Q (.exit i) a' w')
     rw [if_neg this]
     exact hQ a' w' ρ' t1 td t2
    ·obtain ⟨rfl, rfl⟩ := hx
     show (if i = id then Q .normal a' w' else Q (.exit i) a' w')
     rw [if_pos (beq_of hb)]
     exact hQ a' w' ρ' t1 td t2
   | ret =>
    simp only [Option.some.injEq, Prod.mk.injEq] at hx
    obtain ⟨rfl, rfl⟩ := hx
    exact hQ a' w' ρ' t1 td t2
 | loop x ix =>
  intro s e s' hx r n1 ρ w a Q hG hI hT hR hD hQ
  rw [xcode] at hx
  exact iter_ok ix F s e s' hx _ n1 ρ w a Q hG hI hT hR hD hQ

/- a round -/
set_option maxHeartbeats 1000000 in
theorem xround_ok (hm : P.follows .mixedOrders = true) (hnn : NoNum P) (hC : CallOK P G call) {k : Nat} {args : List Value} {v : Value} {H' : AH} (hx : xround P G call F lo k args H = some (v, H')) {args' : List Value} (hG : GOK G ρ) (hI : Inv ρ H lo n1 w) (hA : LR ρ args args') :
  ∃ L : Loc, ρ k = some L ∧ L.off = 0 ∧ ∃ f tmps asg body, (Instr.yield L.blk args'.toArray).run P w = .ok (.round L.blk f tmps asg body) w ∧
    RoundIn (FW none) 0 P L.blk f tmps asg body w fun e w' => ∃ v' ρ', e = .returned v' ∧ VR ρ' v v' ∧ Step ρ H lo n1 w ρ' H' w' := by
 unfold xround at hx
 split at hx <;> try cases hx
 rename_i st pend T nt ps asg body d hk
 split at hx <;> try cases hx
 rename_i T1 hT1
 split at hx <;> try cases hx
 rename_i s1 h1
 split at hx <;> try cases hx
 rename_i pend2 T2 nt2 ps2 asg2 body2 d2 hk2
 cases hb : Nat.ble lo k <;> rw [hb] at hx <;> simp only [cond_true, cond_false] at hx
 ·cases hx
 have hlo := ble_of hb
 split at hx <;> try cases hx
 rename_i e s3 h3
 split at hx <;> try cases hx
 rename_i st4 pend4 T4 nt4 ps4 asg4 body4 d4 hk4
 obtain ⟨L, hL, _⟩ := hI.blk k _ hk
 obtain ⟨r, g1, g2⟩ := loop_inv hI hk hL
 obtain ⟨b1, b2, b3, b4, b5, b6, b7, b8, M, b9, b10⟩ := g2
 obtain ⟨p1, p2, p3⟩ := put_rel hT1 hA b7 b8
 refine ⟨L, hL, b1, r.fn, (ps.zip args').foldl (fun tmps (x : Nat × Value) => tmps.setIfInBounds x.1 x.2) r.tmps, r.assign, r.body, ?_, ?_⟩
 ·have hsz : ¬ (args'.toArray.size ≠ r.params.size) := by
   have : r.params.toList.length = args'.length := by rw [b4]; exact p1
   simp at this ⊢
   omega
  have hf : (r.params.zip args'.toArray).foldl (fun tmps x => match x with | (t, a) => tmps.setIfInBounds t a) r.tmps = (ps.zip args').foldl (fun tmps (x : Nat × Value) => tmps.setIfInBounds x.1 x.2) r.tmps := by
   rw [← Array.foldl_toList, Array.toList_zip, b4]
  simp only [Instr.yield, Sem.run_bind, run_getLoop g1, Result.andThen_ok, if_neg hsz, Sem.run_pure]
  rw [← hf]
 ·rw [b5, b6]
  refine roundIn_of_wpIn (F := FW none) trivial ?_
  show asg.wpIn (FW (some L.blk)) 0 P _ _ w
  refine xcode_ok hm hnn hC (some k) asg _ _ _ h1 (some L.blk) n1 ρ w _ _ hG hI ⟨p2, rfl, p3⟩ ⟨L, hL, b1, rfl⟩ trivial fun a1 w1 ρ1 t1 td t2 => ?_
  have hL1 := t2.sub hI _ _ hL
  obtain ⟨r1, g3, g4⟩ := loop_inv t2.inv hk2 hL1
  obtain ⟨c1, c2, c3, c4, c5, c6, c7, c8, M1, c9, c10⟩ := g4
  have s2 := setObj_step (b' := .loop .busy pend2 T2 nt2 ps2 asg2 body2 d2) t2.inv hk2 hL1 hlo g3 (o' := .loop { r1 with state := .busy }) ⟨c1, rfl, c3, c4, c5, c6, c7, c8, M1, c9, c10⟩
  refine ⟨{ w1 with heap := w1.heap.setIfInBounds L.blk (.loop { r1 with state := .busy }) }, ?_, ?_⟩
  ·simp only [Instr.beginRound, Sem.run_bind, run_getLoop g3, Result.andThen_ok]
   rw [run_setObj g3 (fun _ _ _ => by simp)]
   simp only [Result.andThen_ok, c2, Sem.run_pure]
  ·show body.wpIn (FW (some L.blk)) 0 P _ _ _
   refine xcode_ok hm hnn hC (some k) body _ _ _ h3 (some L.blk) n1 ρ1 _ a1 _ (hG.mono (t2.sub hI)) s2.inv t1 ⟨L, hL1, b1, rfl⟩ td fun a3 w3 ρ3 t3 td3 t4 => ?_
   have hL3 := t4.sub s2.inv _ _ hL1
   obtain ⟨r3, g5, g6⟩ := loop_inv t4.inv hk4 hL3
   obtain ⟨y1, y2, y3, y4, y5, y6, y7, y8, M3, y9, y10⟩ := g6
   have st3 := (t2.trans s2).trans t4
   have fin : ∀ (j : Option Code), j = (roundEnd e).2.1.map codeOf → j.isNone = (roundEnd e).2.2 → (if j.isNone then LoopState.ready else LoopState.done) = (roundEnd e).1 →
     ∃ v' w', (Instr.endRound L.blk j).run P w3 = .ok v' w' ∧ ∃ v'' ρ', Ending.returned v' = .returned v'' ∧ VR ρ' (.bool (roundEnd e).2.2) v'' ∧ Step ρ H lo n1 w ρ' ⟨s3.H.t.put k (.loop (roundEnd e).1 (roundEnd e).2.1 T4 nt4 ps4 asg4 body4 d4), s3.H.next⟩ w' := fun j hj1 hj2 hj3 => by
    have s5 := setObj_step (b' := .loop (roundEnd e).1 (roundEnd e).2.1 T4 nt4 ps4 asg4 body4 d4) t4.inv hk4 hL3 hlo g5 (o' := .loop { r3 with state := if j.isNone then .ready else .done, pending := j }) ⟨y1, hj3, hj1, y4, y5, y6, y7, y8, M3, y9, y10⟩
    refine ⟨.bool j.isNone, _, ?_, _, ρ3, rfl, ?_, st3.trans s5⟩
    ·simp only [Instr.endRound, Sem.run_bind, run_getLoop g5, Result.andThen_ok]
     rw [run_setObj g5 (fun _ _ _ => by simp)]
     rfl
    ·rw [hj2]; exact .atom _ rfl
   cases e with
   | normal => exact fin none rfl rfl rfl
   | exit id => exact fin (some (.exit id)) rfl rfl rfl
   | ret => exact fin (some .ret) rfl rfl rfl

/-- the marks, taken -/
theorem marks_ok {fn : Func} {tmps : Array Value} {R : Ending → World → Prop} : ∀ {ks : List Nat} {ds : List Deferred} {H2 : AH} {H : AH} {w : World}, takeMarks lo ks H = some H2 → DS ρ ks ds → Inv ρ H lo n1 w →
  (∀ w2, Step ρ H lo n1 w ρ H2 w2 → ∃ v, (results fn tmps).run P w2 = .ok v w2 ∧ R (.returned v) w2) → LeavesInM (FW none) 0 P fn tmps R ds .returning w
 | [], [], H2, H, w, hx, _, hI, hR => by
  simp only [takeMarks, Option.some.injEq] at hx
  subst hx
  exact hR w (Step.refl hI)
 | k :: ks, d :: ds, H2, H, w, hx, hD, hI, hR => by
  rw [takeMarks] at hx
  split at hx <;> try cases hx
  rename_i hk
  cases hb : Nat.ble lo k <;> rw [hb] at hx <;> simp only [cond_true, cond_false] at hx
  ·cases hx
  obtain ⟨⟨L, h1, h2, rfl⟩, h3⟩ := hD
  obtain ⟨L2, hL2, hlt, hbr⟩ := hI.blk _ _ hk
  rw [h1] at hL2
  obtain rfl := Option.some.inj hL2
  have ho : w.heap[L.blk]? = some (.deferred (some [])) := by
   cases ho : w.heap[L.blk]? with
   | none => rw [ho] at hbr; exact hbr.elim
   | some o =>
    rw [ho] at hbr
    cases o <;> try exact hbr.elim
    rename_i x
    cases x with
    | none => exact hbr.elim
    | some l => cases l with
     | nil => rfl
     | cons => exact hbr.elim
  have s1 := setObj_step (b' := .gone) hI hk h1 (ble_of hb) ho (o' := .deferred none) trivial
  refine ⟨by simp, .inl ⟨L.blk, _, rfl, ?_, marks_ok hx h3 s1.inv fun w2 hs => hR w2 (s1.trans hs)⟩⟩
  simp only [Instr.takeDeferred, Sem.run_bind, run_getObj ho (fun _ _ _ => by simp), Result.andThen_ok]
  rw [run_setObj ho (fun _ _ _ => by simp)]
  rfl
 | [], _ :: _, _, _, _, _, h, _, _ => h.elim
 | _ :: _, [], _, _, _, _, h, _, _ => h.elim

def resVal (tmps : Array Value) : ResultVar → Sem Value
 | .tmp t => pure (tmps.getD t undef)
 | .cell x t => do loadVar t (← asAddr (tmps.getD x undef))
theorem results_eq (fn : Func) (tmps : Array Value) : results fn tmps = (do
 let vs ← fn.results.mapM (resVal tmps)
 pure (if h : vs.size = 1 then vs[0] else .tuple vs)) := rfl

theorem results_ok {Ds : List Deferred} (hI : Inv ρ H lo n1 w) {T : Tr Value} {a : Act} (hT : TR Ds ρ nt T a) : ∀ {l : List ResultVar} {vs : List Value}, xresults P T H l = some vs →
  ∃ vs', (l.mapM (resVal a.tmps) : Sem (List Value)).run P w = .ok vs' w ∧ LR ρ vs vs'
 | [], vs, h => by simp only [xresults, Option.some.injEq] at h; subst h; exact ⟨[], by simp, .nil _⟩
 | .tmp t :: r, vs, h => by
  rw [xresults] at h
  split at h <;> try cases h
  rename_i l hl
  obtain ⟨vs', h1, h2⟩ := results_ok hI hT hl
  refine ⟨a.tmps.getD t undef :: vs', ?_, .cons (hT.tmp t) h2⟩
  rw [List.mapM_cons]
  simp only [resVal, Sem.run_bind, Sem.run_pure, Result.andThen_ok]
  rw [h1]
  rfl
 | .cell x t :: r, vs, h => by
  rw [xresults] at h
  split at h <;> try cases h
  rename_i v hv
  split at h <;> try cases h
  rename_i l hl
  obtain ⟨vs', h1, h2⟩ := results_ok hI hT hl
  obtain ⟨v', h3, h4⟩ := xload_run (P := P) hI (hT.tmp x) hv
  refine ⟨v' :: vs', ?_, .cons h4 h2⟩
  have hp : ∃ p, a.tmps.getD x undef = .pointer (some p) := by
   unfold xload at hv
   split at hv <;> try cases hv
   rename_i k o he
   have := hT.tmp x
   rw [he] at this
   obtain ⟨L, _, h5⟩ := ptr_inv this
   exact ⟨_, h5⟩
  obtain ⟨p, hp⟩ := hp
  rw [hp] at h3
  have h5 : (loadVar t p).run P w = .ok v' w := by
   simpa [Instr.loadAt, Instr.sureAddr] using h3
  have h6 : asAddr (a.tmps.getD x undef) = pure p := by rw [hp]; rfl
  rw [List.mapM_cons]
  simp only [Sem.run_bind]
  rw [show (resVal a.tmps (.cell x t)).run P w = .ok v' w by simp only [resVal, h6, Sem.run_bind, Sem.run_pure, Result.andThen_ok, h5]]
  simp only [Result.andThen_ok]
  rw [h1]
  rfl

theorem tuple_rel {vs vs' : List Value} (h : LR ρ vs vs') : VR ρ (tupleOf vs) (if h : vs'.toArray.size = 1 then vs'.toArray[0] else .tuple vs'.toArray) := by
 match vs, h with
 | [], h => rw [h.cases_nil]; exact .atom _ rfl
 | [v], h =>
  obtain ⟨v', m, rfl, hv, hm⟩ := h.cases_cons
  rw [hm.cases_nil]
  simpa [tupleOf] using hv
 | v :: u :: r, h =>
  obtain ⟨v', m, rfl, hv, hm⟩ := h.cases_cons
  obtain ⟨u', m', rfl, hu, hm'⟩ := hm.cases_cons
  have : ¬ (v' :: u' :: m').toArray.size = 1 := by simp
  rw [dif_neg this]
  exact LR.tuple h

/-- what is known of calls, and of operations on symbols, holds -/
structure OrcOK (P : Program) (orc : Oracle) : Prop where
 fn : ∀ f args v, orc.fn f args = some v → args.all (sp 4) = true → sp 4 v = true → ∀ w, Calls P f (args.map (sub 4)).toArray w fun e w' => e = .returned (sub 4 v) ∧ Below w.heap.size w w'
 op : ∀ key args v, orc.op key args = some v → args.all (sp 4) = true → sp 4 v = true → KeySem P key (args.map (sub 4)) (sub 4 v)
 mem : ∀ lo f args H v H', orc.mem lo f args H = some (v, H') → ∀ ρ n1 w args', Inv ρ H lo n1 w → LR ρ args args' →
  Calls P f args'.toArray w fun e w' => ∃ v' ρ', e = .returned v' ∧ VR ρ' v v' ∧ Step ρ H lo n1 w ρ' H' w'

theorem below_step {w' : World} (h : Inv ρ H lo n1 w) (hb : Below w.heap.size w w') : Step ρ H lo n1 w ρ H w' := by
 refine ⟨fun _ _ => rfl, Nat.le_refl _, ⟨h.dom, fun k b hk => ?_, h.sep, h.low, h.lo, Nat.le_trans h.size hb.size⟩, hb.mono h.size, fun x hx _ => hb.block x hx, fun k c L h1 h2 => .inr ⟨k, c, L, h1, h2, rfl⟩⟩
 obtain ⟨L, h1, h2, h3⟩ := h.blk k b hk
 exact ⟨L, h1, Nat.lt_of_lt_of_le h2 hb.size, by rw [hb.block _ h2]; exact h3⟩

theorem all_sub_eq {l l' : List Value} (h : LR ρ l l') (hp : l.all (sp 4) = true) : l' = l.map (sub 4) := LR.sub_of (fun a b => VR.sub_eq a b) h hp

theorem xcall_ok (hm : P.follows .mixedOrders = true) (hnn : NoNum P) {orc : Oracle} (ho : OrcOK P orc) : ∀ n : Nat, CallOK P G (xcall P G F orc n)
 | 0 => fun lo f args H v H' h => by cases h
 | n + 1 => fun lo f args H v H' h ρ n1 w args' hG hI hA => by
  cases f with
  | yl k => exact xround_ok hm hnn (xcall_ok hm hnn ho n) (by rw [xcall] at h; exact h) hG hI hA
  | op key =>
   rw [xcall] at h
   split at h <;> try cases h
   rename_i u hu
   cases hb : (sp 4 u && args.all (sp 4)) <;> rw [hb] at h <;> simp only [cond_true, cond_false] at h
   ·cases h
   simp only [Bool.and_eq_true] at hb
   simp only [Option.some.injEq, Prod.mk.injEq] at h
   obtain ⟨rfl, rfl⟩ := h
   refine ⟨rfl, sub 4 u, VR.sub_refl ρ hb.1, ?_⟩
   rw [all_sub_eq hA hb.2]
   exact ho.op key args u hu hb.2 hb.1
  | fn f =>
  rw [xcall] at h
  split at h
  ·rename_i r hr
   obtain rfl := Option.some.inj h
   exact ho.mem lo f args H v H' hr ρ n1 w args' hI hA
  split at h
  ·rename_i u hu
   cases hb : (sp 4 u && args.all (sp 4)) <;> rw [hb] at h <;> simp only [cond_true, cond_false] at h
   ·cases h
   simp only [Bool.and_eq_true] at hb
   simp only [Option.some.injEq, Prod.mk.injEq] at h
   obtain ⟨rfl, rfl⟩ := h
   rw [all_sub_eq hA hb.2]
   exact (ho.fn f args u hu hb.2 hb.1 w).mono fun e w' ⟨h1, h2⟩ => ⟨sub 4 u, ρ, h1, VR.sub_refl ρ hb.1, below_step hI h2⟩
  ·split at h <;> try cases h
   rename_i fn hf
   split at h <;> try cases h
   rename_i c hc
   have hlen : args'.length = args.length := hA.1.symm
   have hT0 : TR [] ρ (Nat.add (len args) (Nat.sub fn.ntmps (len args))) (ofL args) { tmps := args'.toArray ++ Array.replicate (fn.ntmps - args'.toArray.size) undef, defers := [] } := by
    refine ⟨?_, rfl, fun t => ?_⟩
    ·rw [len_eq]
     simp [hlen]
    ·have h1 := hA.2 t
     rw [ofL, storeL_getD, Tr.get_leaf]
     have h2 : (if 0 ≤ t ∧ t < 0 + args.length then args.getD (t - 0) undef else (none : Option Value).getD undef) = args.getD t undef := by
      by_cases ht : t < args.length
      ·rw [if_pos ⟨by omega, by omega⟩]; simp
      ·rw [if_neg (by omega)]; simp [List.getD_eq_getElem?_getD, List.getElem?_eq_none (by omega : args.length ≤ t)]
     rw [h2]
     have h3 : (args'.toArray ++ Array.replicate (fn.ntmps - args'.toArray.size) undef).getD t undef = args'.getD t undef := by
      rw [Array.getD_eq_getD_getElem?, List.getD_eq_getElem?_getD]
      by_cases ht : t < args'.length
      ·rw [Array.getElem?_append_left (by simpa using ht)]; simp
      ·rw [Array.getElem?_append_right (by simpa using ht), List.getElem?_eq_none (by omega)]
       cases hr : (Array.replicate (fn.ntmps - args'.toArray.size) undef)[t - args'.toArray.size]? with
       | none => rfl
       | some y =>
        have := Array.mem_of_getElem? hr
        rw [Array.mem_replicate] at this
        rw [this.2]; rfl
     show VR ρ (args.getD t undef) ((args'.toArray ++ Array.replicate (fn.ntmps - args'.toArray.size) undef).getD t undef)
     rw [h3]
     exact h1
   cases hx : xcode P G (xcall P G F orc n) F lo (Nat.add (len args) (Nat.sub fn.ntmps (len args))) none c ⟨ofL args, H, []⟩ with
   | none => rw [hx] at h; cases h
   | some r =>
    obtain ⟨e, s⟩ := r
    refine callsIn_FW.1 (callsIn_of_wp_marks (F := FW none) (n := 0) hf hc trivial ?_ rfl)
    refine xcode_ok hm hnn (xcall_ok hm hnn ho n) none c ⟨ofL args, H, []⟩ e s hx none n1 ρ w _ _ hG hI hT0 trivial trivial fun a' w' ρ' t1 td t2 => ?_
    rw [hx] at h
    have fin : (match takeMarks lo s.ds s.H with
      | some H2 => match xresults P s.T H2 fn.results.toList with
       | some l => some (tupleOf l, H2)
       | none => none
      | none => none) = some (v, H') → LeavesInM (FW none) 0 P fn a'.tmps (fun e w' => ∃ v' ρ', e = .returned v' ∧ VR ρ' v v' ∧ Step ρ H lo n1 w ρ' H' w') a'.defers .returning w' := fun h => by
     split at h <;> try cases h
     rename_i H2 hm2
     split at h <;> try cases h
     rename_i l hl
     refine marks_ok hm2 td t2.inv fun w2 hs => ?_
     obtain ⟨vs', h1, h2⟩ := results_ok hs.inv t1 hl
     refine ⟨_, ?_, _, ρ', rfl, tuple_rel h2, t2.trans hs⟩
     rw [results_eq, Sem.run_bind, Array.mapM_eq_mapM_toList, Sem.run_map]
     rw [h1]
     rfl
    cases e with
    | exit id => cases h
    | normal => exact fin h
    | ret => exact fin h

/-- a call without arguments that the runner carries out in an empty memory -/
theorem run_closed (hm : P.follows .mixedOrders = true) (hnn : NoNum P) {orc : Oracle} (ho : OrcOK P orc) {n f : Nat} {v : Value} {H' : AH} (hx : xcall P 0 F orc n 0 (.fn f) [] ⟨.leaf, 0⟩ = some (v, H')) (hp : plain 4 v = true) (w : World) :
  Calls P f #[] w fun e w' => e = .returned v ∧ Below w.heap.size w w' := by
 have hI : Inv (fun _ => none) ⟨.leaf, 0⟩ 0 w.heap.size w :=
  ⟨fun k L h => (by cases h), fun k b h => (by rw [Tr.get_leaf] at h; cases h), fun k k' b b' L L' h => (by rw [Tr.get_leaf] at h; cases h), fun k L _ h => (by cases h), Nat.le_refl _, Nat.le_refl _⟩
 refine (xcall_ok hm hnn ho n 0 (.fn f) [] ⟨.leaf, 0⟩ v H' hx (fun _ => none) w.heap.size w [] (fun g hg => by omega) hI (.nil _)).mono fun e w' ⟨v', ρ', h1, h2, h3⟩ => ?_
 rw [h2.plain_eq hp] at h1
 exact ⟨h1, h3.below⟩
end
section
variable {P : Program} {F : Nat}

end
/-- symbols that are written out -/
@[reducible] def symsOf (l : List Value) (h : l.all Value.oneCell' = true) : Syms where
 σ i := l.getD i (.bool false)
 one i := by
  rw [List.getD_eq_getElem?_getD]
  cases hi : l[i]? with
  | none => rfl
  | some v => exact List.all_eq_true.1 h v (List.mem_of_getElem? hi)

/-- the same, beside a block that stays as it was -/
@[reducible] def symsOfF (l : List Value) (h : l.all Value.oneCell' = true) (b : Nat) (o : Obj) : Syms := { symsOf l h with fb := b, fo := o }

def vEq : Nat → Value → Value → Bool
 | 0, _, _ => false
 | n + 1, a, b =>
  match a, b with
  | .complex .f64 i 0, .complex .f64 j 0 => Nat.beq i j
  | .int k a, .int l b => decide (k = l) && intEq a b
  | .bool a, .bool b => a == b
  | .string a, .string b => a.data.toList == b.data.toList
  | .agg ⟨a⟩, .agg ⟨b⟩ => all (vEq n) a b
  | .tuple ⟨a⟩, .tuple ⟨b⟩ => all (vEq n) a b
  | .func (.func f) ⟨a⟩ ⟨c⟩, .func (.func g) ⟨b⟩ ⟨d⟩ => Nat.beq f g && all (vEq n) a b && all (vEq n) c d
  | .nilFunc, .nilFunc => true
  | .slice none a b, .slice none c d => Nat.beq a c && Nat.beq b d
  | _, _ => false
where
 all (eq : Value → Value → Bool) : List Value → List Value → Bool
  | [], [] => true
  | x :: a, y :: b => eq x y && all eq a b
  | _, _ => false
def vsEq (a b : List Value) : Bool := vEq.all (vEq 4) a b

abbrev Tab (α : Type) := List (α × List Value × Value)
def look {α : Type} (eq : α → α → Bool) (key : α) (args : List Value) : Tab α → Option Value
 | [] => none
 | (k, as, v) :: r => bif eq key k && vsEq args as then some v else look eq key args r
def keyEqB (a b : Key) : Bool := decide (a = b)
theorem LR.loadL {ρ : Env} {c : Tr Value} {C : Array Value} {O n : Nat} (h : ∀ i, i < n → VR ρ ((c.get i).getD undef) (C.getD (O + i) undef)) : LR ρ (loadL c 0 n) ((List.range n).map fun i => C.getD (O + i) undef) := by
 refine ⟨by simp [loadL_length], fun i => ?_⟩
 by_cases hi : i < n
 ·rw [loadL_getD _ _ _ _ hi]
  have := h i hi
  simpa [hi] using this
 ·rw [List.getD_eq_getElem?_getD, List.getD_eq_getElem?_getD, List.getElem?_eq_none (by simp [loadL_length]; omega), List.getElem?_eq_none (by simp; omega)]
  exact VR.und ρ
/-- functions whose answers are known where a block is what it was -/
def fixedOf (fs : Tab Nat) (lo f : Nat) (args : List Value) (H : AH) : Option (Value × AH) :=
 match H.t.get 0 with
 | some .fixed => match look Nat.beq f args fs with
  | some v => bif args.all (sp 4) && sp 4 v then some (v, H) else none
  | none => none
 | _ => none
def orcF (fs : Tab Nat) (ks : Tab Key) : Oracle := ⟨fun _ _ => none, fun k args => look keyEqB k args ks, fixedOf fs⟩
end Go.Proofs.YtkdbcaegeeeiaaaGreat.Run
