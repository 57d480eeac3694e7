/- The count of draws never falls. No program is named here. -/
import Derived.Calls
import GoSem.Step
section
namespace Eng
open Go
theorem ask_drawn {α : Type} : ∀ (a : Ask α) (w : World), w.drawn ≤ (w.ask a).2.drawn := by
 intro a
 induction a with
 | done a => intro w; simp [World.ask]
 | ask what range k ih =>
  intro w
  unfold World.ask
  simp only
  split
  ·exact ih _ w
  ·exact Nat.le_trans (Nat.le_succ w.drawn) (ih _ { w with drawn := w.drawn + 1 })
theorem sys_drawn (w : World) (c : Sys) : w.drawn ≤ (w.sys c).2.drawn := by
 have h := ask_drawn (Kernel.perform c w.os) w
 unfold World.sys
 split
 ·exact Nat.le_refl _
 ·rename_i r os w' _ he
  rw [he] at h
  exact h
theorem view_drawn {p : Program} {w w' : World} {at_ : Addr} {u : TypeId} {k : Addr} {v : Value} {b : Bool} {l : List Addr} (h : w.viewStore p at_ u k v b = .ok (w', l)) : w'.drawn = w.drawn := by
 unfold World.viewStore at h
 simp only [bind, Except.bind, pure, Except.pure, MonadExcept.throw, MonadExceptOf.throw, throwThe] at h
 repeat' (first | (simp only [reduceCtorEq] at h; done) | split at h)
 all_goals (try (simp at h; done))
 all_goals (simp only [Except.ok.injEq, Prod.mk.injEq] at h; obtain ⟨rfl, _⟩ := h; rfl)
theorem far_drawn {p : Program} {w w' : World} {a : Addr} {v : Value} {b : Bool} {l : List Addr} (h : w.farStore p a v b = .ok (w', l)) : w'.drawn = w.drawn := by
 unfold World.farStore at h
 split at h
 ·split at h
  ·rename_i hr
   simp only [Except.ok.injEq] at h
   subst h
   exact view_drawn hr
  ·simp at h
 ·simp at h
def rw' {α : Type} : Result α → World
 | .ok _ w => w
 | .halt _ w => w
theorem run_drawn {α : Type} {p : Program} : ∀ (s : Sem α) (w : World), w.drawn ≤ (rw' (s.run p w)).drawn := by
 intro s
 induction s with
 | pure a => intro w; simp [Sem.run, rw']
 | load m a k ih =>
  intro w; unfold Sem.run; split
  ·exact ih _ _
  ·split
   ·exact ih _ _
   ·simp [rw']
 | store m a v k ih =>
  intro w
  have key : ∀ v : Value, w.drawn ≤ (rw' (match w.cell? a with
   | some _ => if w.frozen? a then .halt (.unsupported (.unsafePointer "a write to bytes that a string shares")) w else k.run p (w.setCell a v)
   | none => match w.farStore p a v (m == .atomic) with
    | .ok (w, _) => k.run p w
    | .error h => .halt h w)).drawn := fun v => by
   split
   ·split
    ·exact Nat.le_refl _
    ·exact ih (w.setCell a v)
   ·split
    ·rename_i w2 l he
     rw [← far_drawn he]; exact ih w2
    ·exact Nat.le_refl _
  cases v <;> first | exact key _ | exact Nat.le_refl _
 | new o k ih => intro w; unfold Sem.run; exact ih _ { w with heap := w.heap.push o }
 | shape r k ih => intro w; unfold Sem.run; exact ih _ _
 | freeze a n k ih =>
  intro w; unfold Sem.run
  have h : (w.freeze a n).drawn = w.drawn := by unfold World.freeze; first | rfl | (split <;> rfl)
  rw [← h]; exact ih _
 | frozen a k ih => intro w; unfold Sem.run; exact ih _ _
 | getObj r k ih =>
  intro w; unfold Sem.run; split
  ·simp [rw']
  ·exact ih _ _
  ·simp [rw']
 | setObj r o k ih =>
  intro w; unfold Sem.run; split
  ·simp [rw']
  ·exact ih { w with heap := w.heap.setIfInBounds r o }
  ·simp [rw']
 | choose q k ih =>
  intro w; unfold Sem.run; split
  ·exact ih _ _
  ·exact Nat.le_trans (Nat.le_succ w.drawn) (ih _ { w with drawn := w.drawn + 1 })
 | sys c k ih => intro w; unfold Sem.run; exact Nat.le_trans (sys_drawn w c) (ih _ _)
 | program k ih => intro w; unfold Sem.run; exact ih _ _
 | mark m k ih => intro w; unfold Sem.run; exact ih _
 | halt h => intro w; simp [Sem.run, rw']
theorem ok_drawn {α : Type} {p : Program} {s : Sem α} {w w' : World} {v : α} (h : s.run p w = .ok v w') : w.drawn ≤ w'.drawn := by
 have := run_drawn (p := p) s w
 rw [h] at this; exact this
theorem halt_drawn {α : Type} {p : Program} {s : Sem α} {w w' : World} {v : Halt} (h : s.run p w = .halt v w') : w.drawn ≤ w'.drawn := by
 have := run_drawn (p := p) s w
 rw [h] at this; exact this
theorem runT_fst {α : Type} {p : Program} : ∀ (s : Sem α) (w : World) (es : Array Event), (s.runT p w es).1 = s.run p w := by
 intro s
 induction s with
 | pure a => intro w es; rfl
 | load m a k ih =>
  intro w es; unfold Sem.runT Sem.run; split
  ·exact ih _ _ _
  ·split
   ·exact ih _ _ _
   ·rfl
 | store m a v k ih =>
  intro w es
  cases v <;> first
   | rfl
   | (simp only [Sem.runT, Sem.run]
      split
      ·split
       ·rfl
       ·exact ih _ _
      ·split
       ·exact ih _ _
       ·rfl)
 | new o k ih => intro w es; exact ih _ _ _
 | shape r k ih => intro w es; exact ih _ _ _
 | freeze a n k ih => intro w es; exact ih _ _
 | frozen a k ih => intro w es; exact ih _ _ _
 | getObj r k ih =>
  intro w es; unfold Sem.runT Sem.run; split
  ·rfl
  ·exact ih _ _ _
  ·rfl
 | setObj r o k ih =>
  intro w es; unfold Sem.runT Sem.run; split
  ·rfl
  ·exact ih _ _
  ·rfl
 | choose q k ih =>
  intro w es; unfold Sem.runT Sem.run; split
  ·exact ih _ _ _
  ·exact ih _ _ _
 | sys c k ih => intro w es; exact ih _ _ _
 | program k ih => intro w es; exact ih _ _ _
 | mark m k ih => intro w es; exact ih _ _
 | halt h => intro w es; rfl
theorem runT_drawn {α : Type} {p : Program} {s : Sem α} {w : World} {es es' : Array Event} {r : Result α} (h : s.runT p w es = (r, es')) : w.drawn ≤ (rw' r).drawn := by
 have h1 := runT_fst (p := p) s w es
 rw [h] at h1
 have h1 : r = s.run p w := h1
 rw [h1]; exact run_drawn s w
def gw : GStep → World
 | .go _ w _ => w
 | .comm _ _ _ _ w _ => w
 | .spawn _ _ w _ => w
 | .count _ w _ => w
 | .timer _ _ w _ => w
 | .alone _ _ w _ => w
 | .newcoro _ _ _ w _ => w
 | .coroswitch _ _ _ w _ => w
 | .collect _ w _ => w
 | .watch _ w _ => w
 | .ended _ w _ => w
@[simp] theorem gw_after (es : Array Event) (s : GStep) : gw (s.after es) = gw s := by cases s <;> rfl
theorem doReturn_w (p : Program) (main : Bool) (fr : Frame) (cs : List Frame) (d : Option Dying) (v : Value) (w : World) : gw (doReturn p main fr cs d v w) = w := by
 unfold doReturn
 repeat' split
 all_goals rfl
theorem dieOf_w (fr : Frame) (a : List ByteArray) (m : String) (b : Bool) (w : World) : gw (dieOf fr a m b w) = w := rfl
theorem endThrow_w (fr : Frame) (m : String) (w : World) : gw (endThrow fr m w) = w := rfl
theorem endPrinting_w (p : Program) (fr : Frame) (v : Value) (w : World) : gw (endPrinting p fr v w) = w := by
 unfold endPrinting
 simp only
 split <;> rfl
theorem endWith_w (w : World) (fd : Nat) (t : ByteArray) (o : Outcome) : w.drawn ≤ (gw (endWith w fd t o)).drawn := by
 unfold endWith
 have h := sys_drawn w (.write fd t)
 simp only
 split <;> rename_i he <;> rw [he] at h
 ·split <;> exact h
 ·exact h
 ·exact h
theorem endFatal_w (p : Program) (fr : Frame) (cs : List Frame) (d : Option Dying) (m : String) (w : World) : w.drawn ≤ (gw (endFatal p fr cs d m w)).drawn := by
 unfold endFatal
 simp only
 split
 ·rename_i h; rw [dieOf_w]; exact ok_drawn h
 ·rename_i h; exact halt_drawn h
 ·rename_i h; exact halt_drawn h
theorem writeOn_w (p : Program) (fr : Frame) (d : Dying) (f : Fatal) (w : World) : w.drawn ≤ (gw (writeOn p fr d f w)).drawn := by
 unfold writeOn
 simp only
 split
 ·exact Nat.le_refl _
 ·split <;> rename_i he <;> exact runT_drawn he
theorem die_w (p : Program) (fr : Frame) (d : Dying) (w : World) : w.drawn ≤ (gw (die p fr d w)).drawn := by
 unfold die
 split
 ·exact writeOn_w _ _ _ _ _
 ·split
  ·split
   ·exact Nat.le_refl _
   ·exact endWith_w _ _ _ _
  ·simp only
   split
   ·exact Nat.le_refl _
   ·split
    ·rename_i h; exact ok_drawn h
    ·rename_i h; exact halt_drawn h
   ·rw [gw_after]
    generalize hr : (Sem.runT p _ w #[]) = x
    obtain ⟨r, es⟩ := x
    have h := runT_drawn hr
    split <;> first | (rw [endPrinting_w]; simp_all [rw']; done) | (simp_all [gw, rw']; done)
   ·exact Nat.le_refl _
theorem callDeferred_w (p : Program) (fr : Frame) (cs : List Frame) (dy : Option Dying) (d : Deferred) (w : World) : w.drawn ≤ (gw (callDeferred p fr cs dy d w)).drawn := by
 unfold callDeferred
 refine iteInduction (motive := fun s => w.drawn ≤ (gw s).drawn) (fun _ => Nat.le_refl _) (fun _ => ?_)
 ·simp only
  generalize hr : (Sem.runT p _ w #[]) = x
  obtain ⟨r, es⟩ := x
  have h := runT_drawn hr
  rw [gw_after]
  simp only
  split <;> (try subst_vars) <;> first
   | exact h
   | (split <;> exact h)
   | exact Nat.le_trans h (endFatal_w _ _ _ _ _ _)
theorem unwind_w (p : Program) (m : Bool) (fr : Frame) (cs : List Frame) (dy : Option Dying) (w : World) : w.drawn ≤ (gw (unwind p m fr cs dy w)).drawn := by
 unfold unwind
 split
 ·simp only
  generalize hr : (Sem.runT p _ w #[]) = x
  obtain ⟨r, es⟩ := x
  have h := runT_drawn hr
  rw [gw_after]
  simp only
  split <;> exact h
 ·exact callDeferred_w _ _ _ _ _ _
 ·split
  ·exact Nat.le_refl _
  ·split
   ·exact Nat.le_refl _
   ·split
    ·exact Nat.le_refl _
    ·split
     ·split
      ·exact Nat.le_refl _
      ·split <;> rename_i he
       ·exact ok_drawn he
       ·exact halt_drawn he
       ·exact halt_drawn he
     ·split
      ·rw [endPrinting_w]; exact Nat.le_refl _
      ·exact Nat.le_refl _
  ·split
   ·rw [doReturn_w]; exact Nat.le_refl _
   ·simp only
    generalize hr : (Sem.runT p _ w #[]) = x
    obtain ⟨r, es⟩ := x
    have h := runT_drawn hr
    rw [gw_after]
    simp only
    split
    ·rw [doReturn_w]; exact h
    ·exact h
    ·exact h
theorem early_w (p : Program) (fr : Frame) (cs : List Frame) (dy : Option Dying) (g : Nat) (w : World) : w.drawn ≤ (gw (early p fr cs dy g w)).drawn := by
 have hn : ∀ w' : World, w.drawn ≤ w'.drawn → w.drawn ≤ (gw (match w'.heap[g]? with
  | some (.pending c elem) =>
   .go { frame := fr, callers := cs, status := .running, dying := dy } { w' with heap := w'.heap.setIfInBounds g (.cells c elem) }
  | _ => .ended (.stuck "early: the variable does not wait" (fr.pos p)) w')).drawn := fun w' h => by split <;> exact h
 unfold early
 simp only
 split
 ·exact hn w (Nat.le_refl _)
 split
 ·exact Nat.le_refl _
 split
 ·exact hn w (Nat.le_refl _)
 split
 ·exact hn w (Nat.le_refl _)
 split
 ·exact Nat.le_refl _
 ·exact Nat.le_refl _
 ·exact Nat.le_refl _
 ·exact hn w (Nat.le_refl _)
 ·split
  ·exact Nat.le_refl _
  split
  ·exact hn w (Nat.le_refl _)
  split <;> rename_i he
  ·exact hn _ (ok_drawn he)
  ·exact ok_drawn he
  ·exact halt_drawn he
theorem apply_w (p : Program) (ln : Bool) (fr : Frame) (cs : List Frame) (dy : Option Dying) (s : Sem Next) (w : World) : w.drawn ≤ (gw (stepG.apply p ln fr cs dy s w)).drawn := by
 unfold stepG.apply
 simp only
 have h : w.drawn ≤ (rw' (if ln = true then s.runT p w #[] else (s.run p w, #[])).1).drawn := by
  split
  ·rw [runT_fst]; exact run_drawn s w
  ·exact run_drawn s w
 generalize (if ln = true then s.runT p w #[] else (s.run p w, #[])) = x at *
 obtain ⟨r, es⟩ := x
 rw [gw_after]
 simp only at h ⊢
 split <;> first
  | exact h
  | exact Nat.le_trans h (endFatal_w _ _ _ _ _ _)
  | exact Nat.le_trans h (early_w _ _ _ _ _ _)
  | (split <;> first | exact h | (split <;> exact h))
theorem oper_w (p : Program) (ln : Bool) (fr : Frame) (cs : List Frame) (dy : Option Dying) (w : World) : w.drawn ≤ (gw (stepG.oper p ln fr cs dy w)).drawn := by
 unfold stepG.oper
 split
 ·exact Nat.le_refl _
 ·split <;> exact apply_w _ _ _ _ _ _ _
theorem exec_w (p : Program) (m ln : Bool) (fr : Frame) (cs : List Frame) (dy : Option Dying) (w : World) : w.drawn ≤ (gw (stepG.exec p m ln fr cs dy w)).drawn := by
 have hl : ∀ jump : Option Code, w.drawn ≤ (gw (match fr.roundOf with
  | none => if jump matches none | some .ret then (.go { frame := { fr with mode := .returning }, callers := cs, status := .running, dying := dy } w) else .ended (.stuck "exit, goto: no such block or label" (fr.pos p)) w
  | some l =>
   let (r, es) := (Instr.endRound l jump).runT p w #[]
   GStep.after (seen p fr.fn es) <| match r with
   | .ok v w => doReturn p m fr cs dy v w
   | .halt _ w => .ended (.stuck "range over a function: no such loop" (fr.pos p)) w)).drawn := fun jump => by
  split
  ·split <;> exact Nat.le_refl _
  ·simp only
   generalize hr : (Sem.runT p _ w #[]) = x
   obtain ⟨r, es⟩ := x
   have h := runT_drawn hr
   rw [gw_after]
   simp only
   split
   ·rw [doReturn_w]; exact h
   ·exact h
 unfold stepG.exec
 dsimp only
 split
 ·exact hl none
 ·exact hl (some .ret)
 ·exact Nat.le_refl _
 ·exact Nat.le_refl _
 ·exact Nat.le_refl _
 ·exact Nat.le_refl _
 ·exact Nat.le_refl _
 ·split <;> exact Nat.le_refl _
 ·exact Nat.le_refl _
 ·exact Nat.le_refl _
 ·exact Nat.le_refl _
 ·exact Nat.le_refl _
 ·cases exitTo _ _ with
  | none => exact hl (some (.exit _))
  | some k => exact Nat.le_refl _
 ·cases gotoIn _ _ with
  | none => exact hl (some (.goto _))
  | some k => exact Nat.le_refl _
 ·generalize hr : (Sem.runT p _ w #[]) = x
  obtain ⟨r, es⟩ := x
  have h := runT_drawn hr
  rw [gw_after]
  simp only
  split
  ·exact Nat.le_trans h (apply_w _ _ _ _ _ _ _)
  ·exact h
 ·exact Nat.le_refl _
 ·exact apply_w _ _ _ _ _ _ _
 ·generalize hr : (Sem.runT p _ w #[]) = x
  obtain ⟨r, es⟩ := x
  have h := runT_drawn hr
  rw [gw_after]
  simp only
  split <;> exact h
 ·exact Nat.le_refl _
 ·exact apply_w _ _ _ _ _ _ _
 ·cases Extern.next _ with
  | none => exact Nat.le_refl _
  | some e => exact apply_w _ _ _ _ _ _ _
 ·refine iteInduction (motive := fun s => w.drawn ≤ (gw s).drawn) (fun _ => Nat.le_refl _) (fun _ => ?_)
  split <;> rename_i he
  ·exact ok_drawn he
  ·exact halt_drawn he
 ·exact Nat.le_refl _
 ·exact iteInduction (motive := fun s => w.drawn ≤ (gw s).drawn) (fun _ => oper_w _ _ _ _ _ _) (fun _ => Nat.le_refl _)
theorem stepG_w (p : Program) (m : Bool) (g : Goroutine) (w : World) (ln : Bool) : w.drawn ≤ (gw (stepG p m g w ln)).drawn := by
 unfold stepG
 simp only
 split
 ·exact die_w _ _ _ _
 ·exact exec_w _ _ _ _ _ _ _
 ·exact unwind_w _ _ _ _ _ _
def NextLe (n : Nat) : Stepped → Prop
 | .next m => n ≤ m.world.drawn
 | _ => True
theorem comm_n (p : Program) (rest : Rest) (gs : Array Goroutine) (i : Nat) (g : Goroutine) (cases' : Array CommCase) (b : Bool) (sh : CommShape) (w : World) : NextLe w.drawn (communicate p rest gs i g cases' b sh w).1 := by
 unfold communicate
 simp only
 refine iteInduction (motive := fun s : Stepped × Array MemOp => NextLe w.drawn s.1) (fun _ => trivial) (fun _ => ?_)
 refine iteInduction (motive := fun s : Stepped × Array MemOp => NextLe w.drawn s.1) (fun _ => ?_) (fun _ => ?_)
 ·refine iteInduction (motive := fun s : Stepped × Array MemOp => NextLe w.drawn s.1) (fun _ => ?_) (fun _ => ?_)
  ·split
   ·rename_i w' he
    have : w'.drawn = w.drawn := by
     unfold waitingAt at he
     split at he
     ·split at he
      ·simp only [Option.some.injEq] at he; subst he; rfl
      ·simp at he
     ·simp only [Option.some.injEq] at he; subst he; rfl
    show w.drawn ≤ w'.drawn
    omega
   ·trivial
  ·exact Nat.le_refl _
 ·split
  ·trivial
  ·rename_i k c way w' he
   have h := ok_drawn he
   split
   ·split
    ·rename_i v w2 he2
     exact Nat.le_trans h (halt_drawn he2)
    ·trivial
   ·exact h
   ·exact h
   ·split
    ·exact h
    ·split
     ·rename_i b2 w2 he2
      have h2 := ok_drawn he2
      exact Nat.le_trans h h2
     ·trivial
   ·exact h
   ·exact h
   ·trivial
theorem look_n (p : Program) (gs : Array Goroutine) (rest : Rest) (w : World) : NextLe w.drawn (look p gs rest w) := by
 unfold look
 split
 ·simp only
  refine iteInduction (motive := fun s : Stepped => NextLe w.drawn s) (fun _ => trivial) (fun _ => ?_)
  split
  ·trivial
  ·split
   ·rename_i w' he
    have h := ok_drawn he
    exact h
   ·trivial
   ·trivial
 ·trivial
theorem serve_n (p : Program) (m : Machine) (k : Nat) : NextLe m.world.drawn (serve p m k) := by
 unfold serve
 split
 ·trivial
 ·exact Nat.le_refl _
 ·simp only
  split
  ·trivial
  ·exact Nat.le_refl _
theorem timerOp_n {m m' : Machine} {op : TimerOp} {v : Value} (h : timerOp m op = .ok (v, m')) : m'.world.drawn = m.world.drawn := by
 have hre : ∀ (m : Machine) (k : Nat) (t : Timer) (a b : Nat), (retime m k t a b).2.world.drawn = m.world.drawn := fun m k t a b => by
  unfold retime
  simp only
  split
  ·unfold drain; split <;> rfl
  ·rfl
 have hw : ∀ (m : Machine) (ts : Array Timer), (m.withTimers ts).world = m.world := fun _ _ => rfl
 have hnm : ∀ {var : Addr} {f : Nat → Timer → Value × Machine}, (∀ k t, (f k t).2.world.drawn = m.world.drawn) → timerOp.named m var f = .ok (v, m') → m'.world.drawn = m.world.drawn := fun hf h => by
  unfold timerOp.named at h
  split at h
  ·simp only [Except.ok.injEq] at h
   have := hf (by assumption) (m.rest.timers.getD (by assumption) default)
   rw [h] at this; exact this
  ·simp at h
 unfold timerOp at h
 split at h
 ·split at h
  ·simp only [Except.ok.injEq, Prod.mk.injEq] at h
   obtain ⟨_, rfl⟩ := h
   rfl
  ·split at h
   ·split at h
    ·simp at h
    ·simp only [Except.ok.injEq, Prod.mk.injEq] at h
     obtain ⟨_, rfl⟩ := h
     rfl
   ·simp at h
 ·exact hnm (fun k t => hre _ _ _ _ _) h
 ·split at h
  ·rename_i m2 ho
   have h2 : m2.world.drawn = m.world.drawn := by
    unfold timerOp.opened at ho
    split at ho
    ·split at ho
     ·simp only [Option.some.injEq] at ho; subst ho; rfl
     ·simp at ho
    ·simp only [Option.some.injEq] at ho; subst ho; rfl
   exact hnm (fun k t => by rw [hre, h2]) h
  ·simp at h
 ·simp only [Except.ok.injEq, Prod.mk.injEq] at h
  obtain ⟨_, rfl⟩ := h
  rfl
theorem runT_n (p : Program) (m : Machine) (i : Nat) (ln : Bool) : NextLe m.world.drawn (Go.runT p m i ln).1 := by
 unfold Go.runT
 dsimp only
 have h := stepG_w p (i == 0) (m.gs.swapAt! i { (default : Goroutine) with status := .finished }).1 m.world ln
 generalize stepG p (i == 0) (m.gs.swapAt! i { (default : Goroutine) with status := .finished }).1 m.world ln = s at *
 have tr : ∀ {n k : Nat} {x : Stepped}, n ≤ k → NextLe k x → NextLe n x := fun {n k x} h1 h2 => by
  cases x with
  | next m => exact Nat.le_trans h1 h2
  | _ => trivial
 cases s with
 | go g w es => exact h
 | comm g c b sh w es => exact tr h (comm_n _ _ _ _ _ _ _ _ _)
 | spawn g c w es => exact h
 | count g w es =>
  exact iteInduction (motive := fun s : Stepped => NextLe m.world.drawn s) (fun _ => trivial) (fun _ => h)
 | timer g op w es =>
  dsimp only
  split
  ·rename_i v m2 he
   show m.world.drawn ≤ m2.world.drawn
   rw [timerOp_n he]; exact h
  ·split
   ·rename_i w2 es2 he
    have : gw (endThrow g.frame _ w) = w2 := congrArg gw he
    rw [endThrow_w] at this
    show m.world.drawn ≤ w2.drawn
    rw [← this]; exact h
   ·trivial
  ·trivial
  ·trivial
 | alone g o w es => exact h
 | newcoro g c d w es => exact h
 | coroswitch g c e w es =>
  dsimp only
  split
  ·exact h
  ·split
   ·rename_i w2 es2 he
    have : gw (endThrow g.frame _ w) = w2 := congrArg gw he
    rw [endThrow_w] at this
    show m.world.drawn ≤ w2.drawn
    rw [← this]; exact h
   ·trivial
  ·trivial
 | collect g w es => exact tr h (look_n _ _ _ _)
 | watch g w es => exact h
 | ended o w es => trivial
def MoveLe (n : Nat) : Move → Prop
 | .goroutine m _ => n ≤ m.world.drawn
 | .machine s _ => NextLe n s
theorem askOn_n (p : Program) (m : Machine) : MoveLe m.world.drawn (askOn p m) := by
 have hp : ∀ (m0 m : Machine) (rs : List Nat), m0.world.drawn ≤ m.world.drawn → MoveLe m0.world.drawn (match (choose (.sched rs.length) : Sem Nat).run p m.world with
  | .halt _ w => .machine (.ended (.stuck "sched" "") w)
  | .ok k world =>
   if rs.length ≤ 1 then .goroutine { m with world } (rs.getD k 0) else
   match (choose (.extern "sched.slice" 65536) : Sem Nat).run p world with
   | .halt _ w => .machine (.ended (.stuck "sched.slice" "") w)
   | .ok n world => .goroutine { m with world, rest := { m.rest with slice := if n = 0 then none else some (rs.getD k 0, n) } } (rs.getD k 0)) := fun m0 m rs h0 => by
  split
  ·trivial
  ·rename_i k w he
   have h1 := ok_drawn he
   refine iteInduction (motive := fun s : Move => MoveLe m0.world.drawn s) (fun _ => Nat.le_trans h0 h1) (fun _ => ?_)
   split
   ·trivial
   ·rename_i n w2 he2
    have h2 := ok_drawn he2
    exact Nat.le_trans h0 (Nat.le_trans h1 h2)
 unfold askOn
 dsimp only
 split
 ·trivial
 ·rename_i k w he
  have h1 := ok_drawn he
  have tr : ∀ {n k : Nat} {x : Stepped}, n ≤ k → NextLe k x → NextLe n x := fun {n k x} h1 h2 => by
   cases x with
   | next m => exact Nat.le_trans h1 h2
   | _ => trivial
  refine iteInduction (motive := fun s : Move => MoveLe m.world.drawn s) (fun _ => ?_) (fun _ => ?_)
  ·have := serve_n p { m with world := w } ((due m.rest.timers m.world.os.mono).getD k 0)
   exact tr h1 this
  ·split
   ·split
    ·exact h1
    ·refine iteInduction (motive := fun s : Move => MoveLe m.world.drawn s) (fun _ => h1) (fun _ => ?_)
     split <;> trivial
   ·split
    ·exact hp m { m with world := w } _ h1
    ·split
     ·trivial
     ·rename_i w2 he2
      have h2 := ok_drawn he2
      exact hp m { m with world := w2 } _ (Nat.le_trans h1 h2)
     ·rename_i w2 he2
      have h2 := ok_drawn he2
      exact Nat.le_trans h1 h2
     ·rename_i w2 he2
      have h2 := ok_drawn he2
      exact hp m _ _ (Nat.le_trans h1 h2)
theorem ask_n (p : Program) (m : Machine) : MoveLe m.world.drawn (ask p m) := by
 have tr : ∀ {n k : Nat} {x : Move}, n ≤ k → MoveLe k x → MoveLe n x := fun {n k x} h1 h2 => by
  cases x with
  | goroutine m i => exact Nat.le_trans h1 h2
  | machine s ops => cases s with
   | next m => exact Nat.le_trans h1 h2
   | _ => trivial
 unfold ask
 refine iteInduction (motive := fun s : Move => MoveLe m.world.drawn s) (fun _ => ?_) (fun _ => askOn_n p m)
 split
 ·trivial
 ·rename_i w he
  have h := ok_drawn he
  have hk := look_n p m.gs m.rest w
  split
  ·rename_i m2 hm
   rw [hm] at hk
   exact tr (Nat.le_trans h hk) (askOn_n p m2)
  ·generalize look p m.gs m.rest w = e at *
   cases e with
   | next m2 => exact Nat.le_trans h hk
   | _ => trivial
 ·rename_i w _ he
  have h := ok_drawn he
  exact tr h (askOn_n p { m with world := w })
theorem move_n (p : Program) (m : Machine) : MoveLe m.world.drawn (move p m) := by
 unfold move
 split
 ·exact iteInduction (motive := fun s : Move => MoveLe m.world.drawn s) (fun _ => Nat.le_refl _) (fun _ => trivial)
 ·split
  ·exact iteInduction (motive := fun s : Move => MoveLe m.world.drawn s) (fun _ => Nat.le_refl _) (fun _ => ask_n p { m with rest := { m.rest with slice := none } })
  ·exact ask_n p m
theorem step_drawn {p : Program} {m m' : Machine} (h : step p m = .next m') : m.world.drawn ≤ m'.world.drawn := by
 have hm := move_n p m
 unfold step stepT at h
 generalize move p m = x at *
 cases x with
 | goroutine m1 i =>
  have h1 := runT_n p m1 i true
  dsimp only at h
  rw [h] at h1
  exact Nat.le_trans hm h1
 | machine s ops =>
  dsimp only at h
  rw [h] at hm
  exact hm
theorem steps_drawn {p : Program} {m m' : Machine} (h : Steps p m m') : m.world.drawn ≤ m'.world.drawn := by
 obtain ⟨n, hn⟩ := h
 induction n generalizing m with
 | zero =>
  simp only [runN, Stepped.next.injEq] at hn
  rw [hn]; exact Nat.le_refl _
 | succ n ih =>
  simp only [runN] at hn
  split at hn
  ·rename_i m1 h1
   exact Nat.le_trans (step_drawn h1) (ih hn)
  ·rename_i hne
   exact absurd hn (hne _)
theorem calls_drawn {P : Program} {f : FuncId} {args : Array Value} {w : World} {R : Ending → World → Prop} (h : Calls P f args w R) :
 Calls P f args w fun e w' => R e w' ∧ (e = .outgrown ∨ w.drawn ≤ w'.drawn) := fun cs => by
 obtain ⟨e, w', fr, hR, hc, h1, h2⟩ := h cs
 refine ⟨e, w', fr, ⟨hR, ?_⟩, hc, h1, h2⟩
 cases e with
 | returned v => exact .inr (steps_drawn (p := P) hc)
 | panicked c => exact .inr (steps_drawn (p := P) hc)
 | outgrown => exact .inl rfl
end Eng
end
