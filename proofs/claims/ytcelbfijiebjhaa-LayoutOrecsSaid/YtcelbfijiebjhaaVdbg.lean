/- For exploring alone: prints goals in short. Never in a claim. -/
import Derived.Test.YtcelbfijiebjhaaVe
open Lean Elab Tactic Meta
/-- Prints each goal in short: hypotheses, the mark, its arguments without continuations. -/
elab "vshow" : tactic => do
  let mut i : Nat := 0
  for g in ← getGoals do
    i := i + 1
    if i > 12 then break
    g.withContext do
      let mut ms : Array MessageData := #[]
      for d in ← getLCtx do
        if d.isImplementationDetail then continue
        let ty ← instantiateMVars d.type
        if ← isProp ty then
          let f ← ppExpr ty
          let s := toString f
          ms := ms.push m!"{d.userName} : {if s.length > 300 then (s.take 300).toString ++ ".." else s}"
      let t ← instantiateMVars (← g.getType)
      let t' ← whnf t
      let h := t'.getAppFn
      let mut as : Array MessageData := #[]
      for a in t'.getAppArgs do
        let ty ← inferType a
        let tw ← whnf ty
        if tw.isForall then as := as.push m!"<fun>"
        else
          let f ← ppExpr a
          let s := toString f
          as := as.push m!"{if s.length > 700 then (s.take 700).toString ++ ".." else s}"
      logInfo m!"GOAL {i}/{(← getGoals).length}\n{MessageData.joinSep ms.toList "\n"}\n⊢ {h} {MessageData.joinSep as.toList " | "}"
