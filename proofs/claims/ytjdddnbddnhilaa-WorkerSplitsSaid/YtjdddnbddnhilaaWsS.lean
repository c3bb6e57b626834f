/- Printed by wip/tools/genall.py: specs. -/
import Derived.Test.YtjdddnbddnhilaaE3
set_option linter.unusedVariables false
set_option linter.unusedSimpArgs false
namespace Go.Proofs
open Go Eng
set_option linter.unusedVariables false
noncomputable section

structure G_api_Task where
  From : Int
  To : Int
  deriving DecidableEq, Inhabited

/-! ### tablefinder/tablefinderkit.Mod -/

def s_tablefinderkit_Mod (n : Int) (m : Int) : Option Int :=
  bif (decide (m < 1)) then (
    some 0
  ) else (
    chk (decide (m ≠ 0)) <|
    chk (inK .i64 ((Int.tmod n m) + m)) <|
    chk (decide (m ≠ 0)) <|
    some (Int.tmod ((Int.tmod n m) + m) m)
  )

/-! ### tablefinder/worker.Split -/

def s_worker_Split_l1_b (rec_ : Int → (List G_api_Task) → Option (List G_api_Task)) (n : Int) (workers : Int) (i : Int) (out : (List G_api_Task)) : Option (List G_api_Task) :=
  bif (decide (i < workers)) then (
    chk (inK .i64 (i * n)) <|
    chk (decide (workers ≠ 0)) <|
    chk (inK .i64 (Int.tdiv (i * n) workers)) <|
    chk (inK .i64 (i + 1)) <|
    chk (inK .i64 ((i + 1) * n)) <|
    chk (decide (workers ≠ 0)) <|
    chk (inK .i64 (Int.tdiv ((i + 1) * n) workers)) <|
    chk (decide ((out ++ [(G_api_Task.mk (Int.tdiv (i * n) workers) (Int.tdiv ((i + 1) * n) workers))]).length * max 16 1 ≤ roomB)) <|
    chk (inK .i64 (i + 1)) <|
    rec_ (i + 1) (out ++ [(G_api_Task.mk (Int.tdiv (i * n) workers) (Int.tdiv ((i + 1) * n) workers))])
  ) else (
    some out
  )

def s_worker_Split_l1 (n : Int) (workers : Int) : Nat → Int → (List G_api_Task) → Option (List G_api_Task)
  | 0, _, _ => none
  | n_ + 1, i, out => s_worker_Split_l1_b (s_worker_Split_l1 n workers n_) n workers i out

def s_worker_Split_j1  : Option ((List G_api_Task) × Int) :=
  some (([] : (List G_api_Task)), 2)

def s_worker_Split (n : Int) (workers : Int) : Option ((List G_api_Task) × Int) :=
  bif (decide (workers < 1)) then (
    s_worker_Split_j1 
  ) else (
    bif (decide (workers > 8)) then (
      s_worker_Split_j1 
    ) else (
      bif (decide (n < 0)) then (
        s_worker_Split_j1 
      ) else (
        bif (decide (n > 1024)) then (
          s_worker_Split_j1 
        ) else (
          (s_worker_Split_l1 n workers big (0 : Int) []).bind fun out_1 =>
          some (out_1, 0)
        )
      )
    )
  )

/-! ### tablefinder/tablefinderlaw44.awake -/

def s_tablefinderlaw44_awake  : Option Bool :=
  (s_worker_Split 10 3).bind fun (l, e) =>
  bif (e == 0) then (
    bif ((l.length : Int) == 3) then (
      (idx l 0).bind fun l_e =>
      bif ((l_e.From == 0) && ((l_e.To == 3) && true)) then (
        (idx l 1).bind fun l_e_1 =>
        bif ((l_e_1.From == 3) && ((l_e_1.To == 6) && true)) then (
          (idx l 2).bind fun l_e_2 =>
          some ((l_e_2.From == 6) && ((l_e_2.To == 10) && true))
        ) else (
          some false
        )
      ) else (
        some false
      )
    ) else (
      some false
    )
  ) else (
    some false
  )

/-! ### tablefinder/tablefinderlaw44.WorkerSplits -/

def s_tablefinderlaw44_WorkerSplits_j3 (rec_ : Int → Option (Out Unit Bool)) (k : Int) (q : Int) (l : (List G_api_Task)) (i : Int) : Option (Out Unit Bool) :=
  chk (inK .i64 (i + 1)) <|
  rec_ (i + 1)

def s_tablefinderlaw44_WorkerSplits_j2 (rec_ : Int → Option (Out Unit Bool)) (k : Int) (q : Int) (l : (List G_api_Task)) : Option (Out Unit Bool) :=
  some (.ret false)

def s_tablefinderlaw44_WorkerSplits_l1_b (rec_ : Int → Option (Out Unit Bool)) (k : Int) (q : Int) (l : (List G_api_Task)) (i : Int) : Option (Out Unit Bool) :=
  bif (decide (i < (l.length : Int))) then (
    (idx l i).bind fun t =>
    bif (decide (t.To < t.From)) then (
      s_tablefinderlaw44_WorkerSplits_j2 rec_ k q l
    ) else (
      bif (decide (i > 0)) then (
        chk (inK .i64 (i - 1)) <|
        (idx l (i - 1)).bind fun l_e_2 =>
        bif (l_e_2.To != t.From) then (
          s_tablefinderlaw44_WorkerSplits_j2 rec_ k q l
        ) else (
          chk (inK .i64 (t.To - t.From)) <|
          chk (decide ((1 + q) ≠ 0)) <|
          chk (inK .i64 (Int.tdiv k (1 + q))) <|
          chk (inK .i64 ((Int.tdiv k (1 + q)) + 1)) <|
          bif (decide ((t.To - t.From) > ((Int.tdiv k (1 + q)) + 1))) then (
            s_tablefinderlaw44_WorkerSplits_j2 rec_ k q l
          ) else (
            chk (inK .i64 (t.To - t.From)) <|
            chk (decide ((1 + q) ≠ 0)) <|
            chk (inK .i64 (Int.tdiv k (1 + q))) <|
            bif (decide ((t.To - t.From) < (Int.tdiv k (1 + q)))) then (
              s_tablefinderlaw44_WorkerSplits_j2 rec_ k q l
            ) else (
              s_tablefinderlaw44_WorkerSplits_j3 rec_ k q l i
            )
          )
        )
      ) else (
        chk (inK .i64 (t.To - t.From)) <|
        chk (decide ((1 + q) ≠ 0)) <|
        chk (inK .i64 (Int.tdiv k (1 + q))) <|
        chk (inK .i64 ((Int.tdiv k (1 + q)) + 1)) <|
        bif (decide ((t.To - t.From) > ((Int.tdiv k (1 + q)) + 1))) then (
          s_tablefinderlaw44_WorkerSplits_j2 rec_ k q l
        ) else (
          chk (inK .i64 (t.To - t.From)) <|
          chk (decide ((1 + q) ≠ 0)) <|
          chk (inK .i64 (Int.tdiv k (1 + q))) <|
          bif (decide ((t.To - t.From) < (Int.tdiv k (1 + q)))) then (
            s_tablefinderlaw44_WorkerSplits_j2 rec_ k q l
          ) else (
            s_tablefinderlaw44_WorkerSplits_j3 rec_ k q l i
          )
        )
      )
    )
  ) else (
    some (.brk ())
  )

def s_tablefinderlaw44_WorkerSplits_l1 (k : Int) (q : Int) (l : (List G_api_Task)) : Nat → Int → Option (Out Unit Bool)
  | 0, _ => none
  | n_ + 1, i => s_tablefinderlaw44_WorkerSplits_l1_b (s_tablefinderlaw44_WorkerSplits_l1 k q l n_) k q l i

def s_tablefinderlaw44_WorkerSplits_j1  : Option Bool :=
  some false

def s_tablefinderlaw44_WorkerSplits (n : Int) (workers : Int) : Option Bool :=
  (s_tablefinderkit_Mod n 1025).bind fun k =>
  (s_tablefinderkit_Mod workers 8).bind fun q =>
  chk (inK .i64 (1 + q)) <|
  (s_worker_Split k (1 + q)).bind fun (l, e) =>
  bif (e != 0) then (
    s_tablefinderlaw44_WorkerSplits_j1 
  ) else (
    bif ((l.length : Int) != (1 + q)) then (
      s_tablefinderlaw44_WorkerSplits_j1 
    ) else (
      (idx l 0).bind fun l_e =>
      bif (l_e.From != 0) then (
        s_tablefinderlaw44_WorkerSplits_j1 
      ) else (
        chk (inK .i64 ((1 + q) - 1)) <|
        (idx l ((1 + q) - 1)).bind fun l_e_1 =>
        bif (l_e_1.To != k) then (
          s_tablefinderlaw44_WorkerSplits_j1 
        ) else (
          (s_tablefinderlaw44_WorkerSplits_l1 k q l big (0 : Int)).bind fun
            | .ret q_ => some q_
            | .brk () => (
              (s_tablefinderlaw44_awake).bind fun q_1 =>
              some q_1
            )
        )
      )
    )
  )

end
end Go.Proofs
