/- The engine, text 4: an abstract evaluator of Go code over pure data, proved sound. -/
import Derived.Test.YtahbkngofdpehaaGreatDoorE3
import Derived.Below
import Derived.Laws.OwnMore
import Derived.OpenShut
import Derived.SizedLaws
import Derived.WideKeyArgs
import Derived.Carry
set_option linter.unusedVariables false
set_option linter.unusedSimpArgs false
set_option linter.unusedSectionVars false
namespace Eng
open Go
section
variable {U : Univ}
def resT (X : TEnv U) (T : TS U) : ResultVar → Option (TV U)
  | .tmp t => some (T.slots t)
  | .cell ad t => match X.get t with
    | some e => match T.slots ad with
      | .pp cs => loadT e (cs.map lv)
      | .ptr id 0 j => match T.objs id with
        | some (.box cs) => loadT e (cs.drop j)
        | _ => none
      | _ => none
    | none => none
structure RET (U : Univ) where
  rv : TRV U
  fs : List Id := []
  id : Option Id := none
def resRT (T : TS U) (m : RM) (h : Option Nat) (d : TV U) : Option (RET U) :=
  match m, d with
  | .p, d => match T.lf h d with
    | some l => some { rv := .p l, fs := d.enc.ids T.enc.objs depth }
    | none => none
  | .own, .full id _ => match T.objs id with
    | some (.arr t xs false) => some { rv := .own t xs, id := some id }
    | _ => none
  | .box, .ptr id 0 0 => match T.objs id with
    | some (.box ds) => match allM T.lf1 ds with
      | some ls => some { rv := .box ls, fs := (TV.encs ds).flatMap fun d => d.ids T.enc.objs depth, id := some id }
      | none => none
    | _ => none
  | .map, .map id => match T.objs id with
    | some (.map k v kv) => some { rv := .map k v kv, id := some id }
    | _ => none
  | .view, .sl (0, k, 0) off len => some { rv := .view k off len }
  | .view, .full (0, k, 0) n => some { rv := .view k 0 n }
  | _, _ => none
def RET.re (x : RET U) (cs : List Bool) : RE := { rv := x.rv.enc, fs := x.fs, id := x.id, cond := cs }
theorem resT_d (hU : UOk U) {X : TEnv U} (hX : TOk X) {T : TS U} (hT : T.Inv) {rv : ResultVar} {d : TV U} (h : resT X T rv = some d) : resD X.E T.enc rv = some d.enc ∧ d.inv T.objs := by
  unfold resT at h
  split at h
  · simp only [Option.some.injEq] at h; subst h; exact ⟨rfl, hT.slots _⟩
  · rename_i ad t
    split at h
    · rename_i e he
      split at h
      · rename_i cs hs
        obtain ⟨p, h1, h2⟩ := load_leaves hU hX he h
        refine ⟨?_, loadT_inv (fun c hc => ?_) h⟩
        · simp only [resD, get_ty he, show T.enc.slots ad = (T.slots ad).enc from rfl, hs, TV.enc, h1, h2]
        · obtain ⟨l, _, rfl⟩ := List.mem_map.1 hc; exact inv_v _ _
      · rename_i id j hs
        split at h
        · rename_i cs ho
          have := loadT_enc hU hX he h
          rw [encs_drop] at this
          exact ⟨by simp only [resD, get_ty he, show T.enc.slots ad = (T.slots ad).enc from rfl, hs, TV.enc, enc_obj ho, encBox, this], loadT_inv (fun c hc => hT.objs id _ ho c (List.mem_of_mem_drop hc)) h⟩
        · simp at h
      · simp at h
    · simp at h
theorem resRT_re (hU : UOk U) {T : TS U} (hT : T.Inv) {m : RM} {h : Option Nat} {d : TV U} {x : RET U} (hi : d.inv T.objs) (hr : resRT T m h d = some x) : ∃ cs, resE T.enc m d.enc = some (x.re cs) ∧ ∀ q ∈ cs, q = true := by
  unfold resRT at hr
  split at hr
  · split at hr
    · rename_i l hl
      simp only [Option.some.injEq] at hr; subst hr
      exact ⟨[], by simp only [resE, depth, lf_enc hU hi hl 7, RET.re, TRV.enc], by simp⟩
    · simp at hr
  · rename_i id n
    split at hr
    · rename_i t xs ho
      simp only [Option.some.injEq] at hr; subst hr
      obtain ⟨o, h1, h2⟩ := hi (id, n) (by simp [TV.fulls])
      dsimp only at h1
      have hl := h2 t xs false (by rw [ho, Option.some.injEq] at h1; exact h1.symm)
      refine ⟨[decide (n = (xs.map (U.encE t)).length)], ?_, by simp [hl]⟩
      simp only [resE, TV.enc, enc_obj ho, encArr, RET.re, TRV.enc]
    · simp at hr
  · rename_i id
    split at hr
    · rename_i ds ho
      split at hr
      · rename_i ls hls
        simp only [Option.some.injEq] at hr; subst hr
        refine ⟨[], ?_, by simp⟩
        simp only [resE, TV.enc, enc_obj ho, encBox, lf1s_depth (hT.objs id _ ho) hls, RET.re, TRV.enc]
      · simp at hr
    · simp at hr
  · rename_i id
    split at hr
    · rename_i k v kv ho
      simp only [Option.some.injEq] at hr; subst hr
      exact ⟨[], by simp only [resE, TV.enc, enc_obj ho, encMapO, RET.re, TRV.enc], by simp⟩
    · simp at hr
  · simp only [Option.some.injEq] at hr; subst hr; exact ⟨[], rfl, by simp⟩
  · simp only [Option.some.injEq] at hr; subst hr; exact ⟨[], rfl, by simp⟩
  · simp at hr
def resAll (T : TS U) : List RM → List (Option Nat) → List (TV U) → Option (List (RET U))
  | [], _, [] => some []
  | m :: ms, h :: hs, d :: ds => match resRT T m h d, resAll T ms hs ds with
    | some a, some r => some (a :: r)
    | _, _ => none
  | _, _, _ => none
theorem resAll_re (hU : UOk U) {T : TS U} (hT : T.Inv) : ∀ {ms : List RM} {hs : List (Option Nat)} {ds : List (TV U)} {as : List (RET U)}, (∀ d ∈ ds, d.inv T.objs) → resAll T ms hs ds = some as →
    ∃ res : List RE, allM (fun x : RM × D => resE T.enc x.1 x.2) (ms.zip (TV.encs ds)) = some res ∧ ds.length = ms.length ∧ res.map (·.rv) = as.map (fun a => a.rv.enc) ∧ res.flatMap (·.fs) = as.flatMap (·.fs) ∧ (∀ q ∈ res.flatMap (·.cond), q = true) ∧ res.map (·.id) = as.map (·.id)
  | [], hs, [], as, _, h => by simp only [resAll, Option.some.injEq] at h; subst h; exact ⟨[], rfl, rfl, rfl, rfl, by simp, rfl⟩
  | [], hs, d :: ds, as, _, h => by simp [resAll] at h
  | m :: ms, [], ds, as, _, h => by simp [resAll] at h
  | m :: ms, hh :: hs, [], as, _, h => by simp [resAll] at h
  | m :: ms, hh :: hs, d :: ds, as, hi, h => by
    simp only [resAll] at h
    split at h
    · rename_i a r h1 h2
      simp only [Option.some.injEq] at h; subst h
      obtain ⟨cs, q1, q2⟩ := resRT_re hU hT (hi d (by simp)) h1
      obtain ⟨aes, p1, p2, p3, p4, p5, p6⟩ := resAll_re hU hT (fun a ha => hi a (by simp [ha])) h2
      refine ⟨a.re cs :: aes, by simp only [TV.encs, List.zip_cons_cons, allM, q1, p1], by simp [p2], by simp [RET.re, p3], by simp [RET.re, p4], ?_, by simp [RET.re, p6]⟩
      intro q hq
      simp only [List.flatMap_cons, List.mem_append] at hq
      exact hq.elim (fun h => q2 q h) (fun h => p5 q h)
    · simp at h
def outRT (T : TS U) (k : Nat) : Option ((Nat × TArg U) × List Id) :=
  match T.objs (0, k, 0) with
  | some (.box ds) => match allM T.lf1 ds with
    | some ls => some ((k, .box ls), (TV.encs ds).flatMap fun d => d.ids T.enc.objs depth)
    | none => none
  | some (.arr t xs false) => some ((k, .arr t xs), [])
  | some (.map a b kv) => some ((k, .map a b kv), [])
  | _ => none
theorem outRT_e {T : TS U} (hT : T.Inv) {k : Nat} {x : (Nat × TArg U) × List Id} (h : outRT T k = some x) : outE T.enc k = some ((x.1.1, x.1.2.enc), x.2) := by
  unfold outRT at h
  unfold outE
  split at h
  · rename_i ds ho
    split at h
    · rename_i ls hls
      simp only [Option.some.injEq] at h; subst h
      simp only [enc_obj ho, encBox, objArg, lf1s_depth (hT.objs _ _ ho) hls, TArg.enc]
    · simp at h
  · rename_i t xs ho
    simp only [Option.some.injEq] at h; subst h
    simp only [enc_obj ho, encArr, objArg, TArg.enc]
  · rename_i a b kv ho
    simp only [Option.some.injEq] at h; subst h
    simp only [enc_obj ho, encMapO, objArg, TArg.enc]
  · simp at h
theorem outsRT_e {T : TS U} (hT : T.Inv) : ∀ {ks : List Nat} {os : List ((Nat × TArg U) × List Id)}, allM (outRT T) ks = some os → allM (outE T.enc) ks = some (os.map fun x => ((x.1.1, x.1.2.enc), x.2))
  | [], os, h => by simp [allM] at h; subst h; rfl
  | k :: ks, os, h => by
    simp only [allM] at h
    split at h
    · rename_i y ys h1 h2
      simp only [Option.some.injEq] at h; subst h
      simp only [allM, outRT_e hT h1, outsRT_e hT h2, List.map_cons]
    · simp at h
def rvPiT : Nat → List (RET U) → List (Id × Id)
  | _, [] => []
  | j, x :: r => match x.id with
    | some id => ((1, j, 0), id) :: rvPiT (j + 1) r
    | none => rvPiT (j + 1) r
theorem rvPiT_eq : ∀ (j : Nat) (l : List (RET U)) (l' : List RE), l'.map (·.id) = l.map (·.id) → rvPi j l' = rvPiT j l
  | j, [], [], _ => rfl
  | j, [], _ :: _, h => by simp at h
  | j, _ :: _, [], h => by simp at h
  | j, x :: l, y :: l', h => by
    simp only [List.map_cons, List.cons.injEq] at h
    simp only [rvPi, rvPiT, h.1]
    cases x.id with
    | none => exact rvPiT_eq (j + 1) l l' h.2
    | some id => simp only [rvPiT_eq (j + 1) l l' h.2]
def retT (X : TEnv U) (T : TS U) (rs : List ResultVar) (ms : List RM) (hs : List (Option Nat)) (outs : List Nat) : Option (TRet U) :=
  match allM (resT X T) rs with
  | some ds => match resAll T ms hs ds, allM (outRT T) outs with
    | some res, some os =>
      if piOk (T.freezeL (res.flatMap (·.fs) ++ os.flatMap (·.2))).enc (rvPiT 0 res ++ outs.map fun k => ((0, k, 0), (0, k, 0))) 2 && (res.map fun x => x.rv.enc).all (viewOk outs) then
        some ⟨res.map (·.rv), os.map (·.1)⟩ else none
    | _, _ => none
  | none => none
theorem resTs_d (hU : UOk U) {X : TEnv U} (hX : TOk X) {T : TS U} (hT : T.Inv) : ∀ {rs : List ResultVar} {ds : List (TV U)}, allM (resT X T) rs = some ds → allM (resD X.E T.enc) rs = some (TV.encs ds) ∧ ∀ d ∈ ds, d.inv T.objs
  | [], ds, h => by simp [allM] at h; subst h; exact ⟨rfl, by simp⟩
  | k :: ks, ds, h => by
    simp only [allM] at h
    split at h
    · rename_i y ys h1 h2
      simp only [Option.some.injEq] at h; subst h
      obtain ⟨q1, q2⟩ := resT_d hU hX hT h1
      obtain ⟨q3, q4⟩ := resTs_d hU hX hT h2
      refine ⟨by simp only [allM, q1, q3, TV.encs], fun d hd => ?_⟩
      rcases List.mem_cons.1 hd with rfl | hd
      · exact q2
      · exact q4 d hd
    · simp at h
theorem retT_e (hU : UOk U) {X : TEnv U} (hX : TOk X) {T : TS U} (hT : T.Inv) {rs : List ResultVar} {ms : List RM} {hs : List (Option Nat)} {outs : List Nat} {t : TRet U} (h : retT X T rs ms hs outs = some t) :
    ∃ ps, retE X.E T.enc rs ms outs = some (t.enc, ps) ∧ ∀ q ∈ ps, q = true := by
  unfold retT at h
  split at h
  · rename_i ds hds
    obtain ⟨q1, q2⟩ := resTs_d hU hX hT hds
    split at h
    · rename_i res os hres hos
      obtain ⟨aes, p1, p2, p3, p4, p5, p6⟩ := resAll_re hU hT q2 hres
      have o1 := outsRT_e hT hos
      split at h
      · rename_i hok
        simp only [Option.some.injEq] at h; subst h
        refine ⟨_, ?_, p5⟩
        unfold retE
        rw [q1]
        simp only [encs_length, p2, if_true, p1, o1]
        have e1 : rvPi 0 aes = rvPiT 0 res := rvPiT_eq 0 res aes p6
        have e2 : (os.map fun x => ((x.1.1, x.1.2.enc), x.2)).flatMap (·.2) = os.flatMap (·.2) := by
          rw [List.flatMap_map]
        have e3 : aes.all (fun x => viewOk outs x.rv) = (res.map fun x => x.rv.enc).all (viewOk outs) := by
          rw [← p3, List.all_map]; rfl
        rw [p4, e1, e2, e3, ← Eng.freezeL_enc, if_pos hok]
        simp only [Option.some.injEq, Prod.mk.injEq, and_true, TRet.enc, Ret.mk.injEq, p3, List.map_map]
        exact ⟨rfl, rfl⟩
      · simp at h
    · simp at h
  · simp at h
theorem andL_of : ∀ {l : List Bool}, (∀ q ∈ l, q = true) → andL l
  | [], _ => trivial
  | [a], h => h a (by simp)
  | a :: b :: r, h => ⟨h a (by simp), andL_of fun q hq => h q (by simp [hq])⟩
structure Cut (U : Univ) (R : Type) where
  live : List Nat
  frz : List Nat
  κ : List (TV U) → List (TO U) → Option R
structure Par (U : Univ) (R : Type) where
  X : TEnv U
  sigs : List (Nat × TSig U)
  cuts : List (List Nat × Cut U R)
  back : Option (Cut U R)
  exits : List (Nat × Cut U R)
  lent : List Nat
  rs : List ResultVar
  rms : List RM
  rhs : List (Option Nat)
  ret : TRet U → Option R
  keep : List Nat := []
  alt : List (Nat × Nat) := []
inductive TI' where
  | c (p : List Nat) (c : Code)
  | ops (a : Array Oper) (i : Nat)
  | blk (id : Nat)
def TI'.conc : TI' → Item
  | .c _ x => .c x
  | .ops a i => .ops a i
  | .blk id => .blk id
def exitT (id : Nat) : List TI' → Option (List TI')
  | .blk j :: k => if j = id then some k else exitT id k
  | _ :: k => exitT id k
  | [] => none
noncomputable def agree {α : Type} (a b : Option α) : Option α := @ite _ (a = b) (Classical.propDecidable _) a none
variable {R : Type}
def argPiT : Nat → List (AET U) → List (Id × Id)
  | _, [] => []
  | k, x :: r => match x.id with
    | some id => ((0, k, 0), id) :: argPiT (k + 1) r
    | none => argPiT (k + 1) r
def altOf (d : Nat) : List (Nat × Nat) → Option Nat
  | [] => none
  | x :: l => if x.1 = d then some x.2 else altOf d l
def sigOf (P : Par U R) (dst : Option Nat) (g : Nat) : Option (Nat × TSig U) :=
  match (match dst with | some d => altOf d P.alt | none => none) with
  | some k => match P.sigs[k]? with
    | some x => if x.1 == g then some x else none
    | none => none
  | none => P.sigs.find? fun x => x.1 == g
theorem sigOf_mem {P : Par U R} {dst : Option Nat} {g : Nat} {sg : Nat × TSig U} (h : sigOf P dst g = some sg) : sg ∈ P.sigs ∧ sg.1 = g := by
  unfold sigOf at h
  split at h
  · split at h
    · rename_i x hx
      split at h
      · rename_i he
        simp only [Option.some.injEq] at h; subst h
        exact ⟨List.mem_of_getElem? hx, by simpa using he⟩
      · simp at h
    · simp at h
  · exact ⟨List.mem_of_find?_eq_some h, by have := List.find?_some h; simpa using this⟩
def callT (P : Par U R) (T : TS U) (i : Nat) (dst : Option Nat) (c : Call) (κ : TEff U → Option R) : Option R :=
  match c.callee with
  | .value f => match evT P.X T.slots 0 f with
    | some (.fn g first caps) => match sigOf P dst g with
      | some sg => match argsT P.X T.slots c.args.toList sg.2.pts with
        | some ds => match argsAll T sg.2.ms sg.2.hs (first ++ ds ++ caps) with
          | some as => if piOk (T.freezeL (as.flatMap (·.fs))).enc (argPiT 0 as) 1 && c.args.toList.all litOk && litOk f then match sg.2.sig (as.map (·.arg)) with
            | some s => s.o.bind fun a => match callTE T i as (s.give a) with
              | some e => κ e
              | none => none
            | none => none
            else none
          | none => none
        | none => none
      | none => none
    | _ => none
  | _ => none
def isCallB (o : Oper) : Bool := match o.op with
  | .call c => match c.callee with
    | .value _ => true
    | _ => false
  | _ => false
def stepT (P : Par U R) (T : TS U) (i : Nat) (o : Oper) (κ : TEff U → Option R) : Option R :=
  if isCallB o then match o.op with
    | .call c => callT P T i o.dst c κ
    | _ => none
  else coreT P.X T i o.op o.type κ
def okE (P : Par U R) (T : TS U) (i : Nat) (o : Oper) (e : TEff U) : Bool :=
  fresh T i e && (if isCallB o then dstOk P.X.E o else wrOk T.enc (e.enc []) && opOk P.X.E o)
def fpT (P : Par U R) (T : TS U) (o : Oper) (e : TEff U) : Fp :=
  ⟨if isCallB o then callIds P.X.E T.enc.slots T.enc.objs o.op.operands.toList else foot P.X.E o.op T.enc.slots T.enc.objs, e.wr.map (·.1), e.frz⟩
def guardT (ops : Array Oper) (T : TS U) (o : Oper) (κ : Bool → TS U → Option R) : Option R :=
  match o.guard with
  | none => κ true T
  | some (g, w) => match (ops[g]?).bind (·.dst) with
    | some t => match T.slots t with
      | .v .bool b => bif b then κ w (T.setO (some t) (.v .bool true)) else κ (!w) (T.setO (some t) (.v .bool false))
      | .undef => κ false T
      | _ => none
    | none => κ false T
def nilSl (X : TEnv U) (T : TS U) (o : Oper) : Option (Bool × Bool) :=
  match o.op with
  | .binOp b t x (.const (.slice none 0 0)) _ => match X.get t, evT X T.slots 0 x with
    | some e, some d => match e.ti.d with
      | .sl _ => match (match b with | .eql => some true | .neq => some false | _ => none) with
        | some q => match d with
          | .v (.sl _) xs => some (List.isEmpty xs, q)
          | .full id _ => match T.objs id with
            | some (.arr _ xs _) => some (List.isEmpty xs, q)
            | _ => none
          | _ => none
        | none => none
      | _ => none
    | _, _ => none
  | _ => none
noncomputable def pickAll {α β : Type} (xs : List α) (f : α → List α → Option β) : Option β :=
  @dite _ (∃ r, ∀ (j : Nat) q, xs[j]? = some q → f q (xs.eraseIdx j) = some r) (Classical.propDecidable _) (fun h => some h.choose) fun _ => none
theorem pickAll_some {α β : Type} {xs : List α} {f : α → List α → Option β} {r : β} (h : pickAll xs f = some r) {j : Nat} {q : α} (hq : xs[j]? = some q) : f q (xs.eraseIdx j) = some r := by
  unfold pickAll at h
  split at h
  · rename_i hx
    simp only [Option.some.injEq] at h
    rw [← h]; exact hx.choose_spec j q hq
  · simp at h
theorem pickAll_eq {α β : Type} {xs : List α} {f : α → List α → Option β} {r : β} (hne : xs ≠ []) (h : ∀ (j : Nat) q, xs[j]? = some q → f q (xs.eraseIdx j) = some r) : pickAll xs f = some r := by
  unfold pickAll
  have hx : ∃ r, ∀ (j : Nat) q, xs[j]? = some q → f q (xs.eraseIdx j) = some r := ⟨r, h⟩
  rw [dif_pos hx]
  match xs, hne with
  | x :: l, _ =>
    have h1 := hx.choose_spec 0 x rfl
    have h2 := h 0 x rfl
    rw [h1] at h2
    exact h2
structure MitI (U : Univ) where
  id : Id
  a : Ty
  b : Ty
  rest : List (El U.car a × El U.car b)
def nextM (X : TEnv U) (T : TS U) (o : Oper) : Option (MitI U) :=
  match o.op with
  | .next it false => match evT X T.slots 0 it with
    | some (.it id) => match T.objs id with
      | some (.mit a b rest _) => if T.fz id = false then some ⟨id, a, b, rest⟩ else none
      | _ => none
    | _ => none
  | _ => none
def goCut (P : Par U R) (c : Cut U R) (T : TS U) : Option R :=
  match canonT T P.lent c.live c.frz with
  | some q => c.κ q.1 q.2
  | none => none
def goRet (P : Par U R) (T : TS U) : Option R :=
  match retT P.X T P.rs P.rms P.rhs P.lent with
  | some t => P.ret t
  | none => none
noncomputable def evl (P : Par U R) : Nat → Option (Array Oper × List Fp) → List TI' → TS U → Option R
  | 0, _, _, _ => none
  | n + 1, some (ops, hist), pre, T => match ops[hist.length]? with
    | none => if drawOk ops T.ep hist && decide (hist.length = ops.size) then evl P n none pre T.next else none
    | some o => guardT ops T o fun g T => match g with
      | true => stepT P T hist.length o fun e => if okE P T hist.length o e && live ops o T.enc (fpT P T o e) then evl P n (some (ops, hist ++ [fpT P T o e])) pre (T.app hist.length o.dst e) else none
      | false => if dstOk P.X.E o && live ops o T.enc {} then evl P n (some (ops, hist ++ [{}])) pre (T.app hist.length o.dst { val := .undef }) else none
  | n + 1, none, [], T => match P.back with
    | some c => goCut P c T
    | none => goRet P T
  | n + 1, none, .blk _ :: pre, T => evl P n none pre T
  | n + 1, none, .ops ops i :: pre, T => match ops[i]? with
    | none => evl P n none pre T.next
    | some o => guardT ops T o fun g T => match g with
      | true => match nilSl P.X T o with
        | some (em, q) => if dstOk P.X.E o && opOk P.X.E o then bif em then agree (evl P n none (.ops ops (i + 1) :: pre) (T.app i o.dst { val := .v .bool true })) (evl P n none (.ops ops (i + 1) :: pre) (T.app i o.dst { val := .v .bool false }))
            else evl P n none (.ops ops (i + 1) :: pre) (T.app i o.dst { val := .v .bool (!q) })
          else none
        | none => match nextM P.X T o with
          | some m => if opOk P.X.E o then bif List.isEmpty m.rest then evl P n none (.ops ops (i + 1) :: pre) (T.app i o.dst { val := .tup [.v .bool false] })
              else pickAll m.rest fun q rest => evl P n none (.ops ops (i + 1) :: pre) (T.app i o.dst { val := .tup [.v .bool true, .v m.a q.1, .v m.b q.2], wr := [(m.id, .mit m.a m.b rest (some q))] })
            else none
          | none => match capSl P.X T o with
            | some m => if opOk P.X.E o then anyN m fun c => evl P n none (.ops ops (i + 1) :: pre) (T.app i o.dst { val := .v (.int .i64) (c : Int) }) else none
            | none => match keepA P.keep P.X T o with
              | some q => if opOk P.X.E o then chk (room (List.length q.xs + List.length q.ys) q.by_) (evl P n none (.ops ops (i + 1) :: pre) (T.app i o.dst { val := .v (.sl q.t) (List.append q.xs q.ys), wr := [(q.id, .arr q.t q.xs true)], frz := [q.id] })) else none
              | none => stepT P T i o fun e => if okE P T i o e then evl P n none (.ops ops (i + 1) :: pre) (T.app i o.dst e) else none
      | false => if dstOk P.X.E o then evl P n none (.ops ops (i + 1) :: pre) (T.app i o.dst { val := .undef }) else none
  | n + 1, none, .c p c :: pre, T => match P.cuts.find? fun x => x.1 == p with
    | some x => goCut P x.2 T
    | none => match c with
      | .skip => evl P n none pre T
      | .seq a b => evl P n none (.c (0 :: p) a :: .c (1 :: p) b :: pre) T
      | .block id b => evl P n none (.c (4 :: p) b :: .blk id :: pre) T
      | .region _ ops false => evl P n none (.ops ops 0 :: pre) T
      | .region _ ops true => evl P n (some (ops, [])) pre T
      | .cond c a b => if litOk c then match evT P.X T.slots 0 c with
        | some (.v .bool x) => bif x then evl P n none (.c (2 :: p) a :: pre) T else evl P n none (.c (3 :: p) b :: pre) T
        | _ => none
        else none
      | .exit id => match exitT id pre with
        | some pre' => evl P n none pre' T
        | none => match P.exits.find? fun x => x.1 == id with
          | some x => goCut P x.2 T
          | none => none
      | .ret => goRet P T
      | _ => none
end
end Eng
namespace Eng
open Go
section
variable {U : Univ} {R : Type}
def atP (root : Code × List Item) : List Nat → Option (Code × List Item)
  | [] => some root
  | d :: p => match atP root p with
    | some (c, k) => match d, c with
      | 0, .seq a b => some (a, .c b :: k)
      | 1, .seq _ b => some (b, k)
      | 2, .cond _ a _ => some (a, k)
      | 3, .cond _ _ b => some (b, k)
      | 4, .block id b => some (b, .blk id :: k)
      | 5, .loop b => some (b, .lp b :: k)
      | _, _ => none
    | none => none
def Wf (root : Code × List Item) (base : List Item) : List TI' → Prop
  | [] => True
  | .c p c :: k => atP root p = some (c, k.map TI'.conc ++ base) ∧ Wf root base k
  | .blk _ :: k => Wf root base k
  | .ops _ _ :: k => Wf root base k
def SigOk (E : Env) (g : Nat) (sg : TSig U) : Prop :=
  ∀ args s, sg.sig args = some s → ∀ a, s.o = some a → Fun E g (args.map TArg.enc) (s.give a).enc ∧ OutsLen args (s.give a)
def Hcut (P : Par U R) (C : Ctx) (fm : Fm) (fn : Func) (RT : Ret) (r : R) (cut : Cut U R) (k : List Item) : Prop :=
  ∀ ds os, (mkC P.lent cut.live ds os).Inv → cut.κ ds os = some r → AWP C fm (retG C fn RT) k (mkC P.lent cut.live ds os).enc
structure Hyp (P : Par U R) (C : Ctx) (fm : Fm) (fn : Func) (RT : Ret) (r : R) (root : Code × List Item) (base : List Item) : Prop where
  hU : UOk U
  hX : TOk P.X
  hE : EnvOk C.E
  hCE : C.E = P.X.E
  mixed : C.E.prog.follows .mixedOrders = true
  rs : fn.results.toList = P.rs
  ds : fm.ds = []
  sigs : ∀ x ∈ P.sigs, SigOk P.X.E x.1 x.2
  cuts : ∀ x ∈ P.cuts, ∀ c k, atP root x.1 = some (c, k) → Hcut P C fm fn RT r x.2 (.c c :: k)
  back : ∀ c, P.back = some c → Hcut P C fm fn RT r c base
  noback : P.back = none → base = []
  exits : ∀ x ∈ P.exits, ∃ k, exitK x.1 base = some k ∧ Hcut P C fm fn RT r x.2 k
  ret : ∀ t, P.ret t = some r → t.enc = RT
section
variable {P : Par U R} {C : Ctx} {fm : Fm} {fn : Func} {RT : Ret} {r : R} {root : Code × List Item} {base : List Item} {G : Goal}
theorem awp_exec {ops : Array Oper} {i : Nat} {k : List Item} {st st' : St} (hi : i < ops.size) (h : Exec C fm ops i st st') (h1 : AWP C fm G (.ops ops (i + 1) :: k) st') : AWP C fm G (.ops ops i :: k) st := by
  intro ρ S a w hrep hd b k0 cs hb
  have hrep : Rep C (fun j => j < i) ρ S st a.tmps w := hrep
  obtain ⟨ρ', S', a', w', hr', hd', hs⟩ := h (fun j => j < i) (by simp) ρ S a w hrep hd b (List.range' (i + 1) (ops.size - (i + 1))) (k.map conc ++ k0) cs hb
  obtain ⟨e2, a2', w2, hg2, harr⟩ := h1 ρ' S' a' w' (hr'.weakX (fun j hj => by simp only [Xof]; omega)) hd' b k0 cs hb
  refine ⟨e2, a2', w2, hg2, .of_steps ?_ harr⟩
  simp only [List.map_cons, List.cons_append, conc, range'_cons hi]
  exact hs
theorem awp_anyb {k : List Item} {st : St} {t : Nat} (h : ∀ b, AWP C fm G k (st.set t (.p (.bool b)))) : AWP C fm G k (st.set t .anyb) := by
  intro ρ S a w hr hd
  have hs := hr.slots t
  have e1 : (st.set t .anyb).slots t = .anyb := by simp [St.set, upd]
  rw [e1] at hs
  generalize hv : a.tmps.getD t undef = v at hs
  cases hs with
  | anyb b =>
    refine h b ρ S a w ?_ hd
    have hsl : ∀ k', RelD w S ρ (a.tmps.getD k' undef) ((st.set t (.p (.bool b))).slots k') := fun k' => by
      have := hr.slots k'
      simp only [St.set, upd] at this ⊢
      split
      · rename_i he; subst he; rw [hv]; exact .p _ _ (.bool b)
      · rename_i he; rw [if_neg he] at this; exact this
    exact ⟨hr.nt, hr.grow, hr.frame, hr.s0, hr.sIn, hsl, hr.objs, hr.own, hr.inj, hr.known, hr.young, hr.fzk, hr.glob, hr.sOut, hr.ep1, hr.quiet, hr.lay⟩
theorem calleeD_fnD (g : Nat) (a b : List D) : calleeD (fnD g a b) = some (g, a, b) := by
  unfold fnD
  cases ha : allM D.pure? a with
  | none => rfl
  | some x =>
    cases hb : allM D.pure? b with
    | none => rfl
    | some y => simp only [calleeD, ← allM_pure ha, ← allM_pure hb]
theorem argPiT_eq : ∀ (j : Nat) (l : List (AET U)) (l' : List AE), l'.map (·.id) = l.map (·.id) → argPi j l' = argPiT j l
  | j, [], [], _ => rfl
  | j, [], _ :: _, h => by simp at h
  | j, _ :: _, [], h => by simp at h
  | j, x :: l, y :: l', h => by
    simp only [List.map_cons, List.cons.injEq] at h
    simp only [argPi, argPiT, h.1]
    cases x.id with
    | none => exact argPiT_eq (j + 1) l l' h.2
    | some id => simp only [argPiT_eq (j + 1) l l' h.2]
theorem encs_append (a b : List (TV U)) : TV.encs (a ++ b) = TV.encs a ++ TV.encs b := by simp only [encs_map, List.map_append]
theorem stepT_oe (H : Hyp P C fm fn RT r root base) {T : TS U} (hT : T.Inv) {ops : Array Oper} {i : Nat} {o : Oper} {κ : TEff U → Option R} (hg : guardOf ops T.enc o.guard = some true) (h : stepT P T i o κ = some r) :
    ∃ e, EInv T i e ∧ κ e = some r ∧ (okE P T i o e = true → ∃ cs, OE C ops i o T.enc (e.enc cs) (fpT P T o e).R) := by
  unfold stepT at h
  split at h
  · rename_i hc
    unfold isCallB at hc
    split at hc
    · rename_i c hop
      split at hc
      · rename_i f hcal
        rw [hop] at h
        simp only [callT, hcal] at h
        split at h
        · rename_i g first caps hf
          split at h
          · rename_i sg hsg
            obtain ⟨hmem, hid⟩ := sigOf_mem hsg
            split at h
            · rename_i ds hds
              split at h
              · rename_i as has
                split at h
                · rename_i hok
                  simp only [Bool.and_eq_true] at hok
                  split at h
                  · rename_i s hs
                    obtain ⟨a, ha, h⟩ := bind_some h
                    split at h
                    · rename_i e he
                      obtain ⟨hfun, hol⟩ := H.sigs sg hmem _ s hs a ha
                      have hfi := evT_inv hT hf
                      have hin : ∀ d ∈ first ++ ds ++ caps, d.inv T.objs := by
                        intro d hd
                        simp only [List.mem_append] at hd
                        rcases hd with (hd | hd) | hd
                        · exact fun q hq => hfi q (by simp only [TV.fulls, List.mem_append]; exact .inl (fullsL_mem.2 ⟨d, hd, hq⟩))
                        · exact argsT_inv hT hds d hd
                        · exact fun q hq => hfi q (by simp only [TV.fulls, List.mem_append]; exact .inr (fullsL_mem.2 ⟨d, hd, hq⟩))
                      obtain ⟨aes, p1, p2, p3, p4, p5, p6⟩ := argsAll_ae H.hU hT hin has
                      refine ⟨e, callTE_inv has hol he, h, fun hk => ⟨[], ?_⟩⟩
                      have hcall : isCallB o = true := by unfold isCallB; rw [hop]; simp only [hcal]
                      simp only [okE, hcall, if_true, Bool.and_eq_true] at hk
                      have hpre : preE C.E T.enc c sg.2.pts sg.2.ms = some (g, aes) := by
                        unfold preE
                        rw [H.hCE]
                        simp only [hcal, evT_ev H.hX hf, TV.enc, calleeD_fnD, argsT_args H.hX hds, ← encs_append, encs_length, p2, if_true, p1, p4, ← Eng.freezeL_enc, argPiT_eq 0 as aes p6, hok.1.1, hok.1.2, hok.2, Bool.and_self]
                      have hR : (fpT P T o e).R = callIds C.E T.enc.slots T.enc.objs c.operands.toList := by
                        simp only [fpT, hcall, if_true, H.hCE, hop, Op.operands]
                      rw [hR]
                      refine .call (pts := sg.2.pts) (ms := sg.2.ms) hg hop (by rw [H.hCE]; exact hk.2) hpre (andL_of p5) ?_ (callTE_enc p6 p4 he)
                      rw [p3, H.hCE, ← hid]
                      rw [List.map_map] at hfun
                      exact hfun
                    · simp at h
                  · simp at h
                · simp at h
              · simp at h
            · simp at h
          · simp at h
        · simp at h
      · simp at hc
    · simp at hc
  · rename_i hc
    obtain ⟨e, cs, h1, h2, h3, h4⟩ := snd H.hU H.hX hT h
    refine ⟨e, h3, h4, fun hk => ⟨cs, ?_⟩⟩
    have hcall : isCallB o = false := by simpa using hc
    simp only [okE, hcall, Bool.false_eq_true, if_false, Bool.and_eq_true] at hk
    have hR : (fpT P T o e).R = foot C.E o.op T.enc.slots T.enc.objs := by
      simp only [fpT, hcall, Bool.false_eq_true, if_false, H.hCE]
    rw [hR]
    exact .op hg (by rw [H.hCE]; exact h1) (by rw [H.hCE]; exact hk.2.2) hk.2.1 h2
theorem set_same {T : TS U} {t : Nat} {d : TV U} (h : T.slots t = d) : T.setO (some t) d = T := by
  have : upd T.slots t d = T.slots := by
    funext x
    simp only [upd]
    split
    · rename_i he; rw [he, h]
    · rfl
  cases T
  simp only [TS.setO] at this ⊢
  rw [this]
theorem guardT_of {ops : Array Oper} {T : TS U} {o : Oper} {κ : Bool → TS U → Option R} (h : guardT ops T o κ = some r) : ∃ g, guardOf ops T.enc o.guard = some g ∧ κ g T = some r := by
  unfold guardT at h
  unfold guardOf
  split at h
  · rename_i hg; rw [hg]; exact ⟨true, rfl, h⟩
  · rename_i g w hg
    rw [hg]
    simp only
    split at h
    · rename_i t ht
      rw [ht]
      simp only
      rw [show T.enc.slots t = (T.slots t).enc from rfl]
      split at h
      · rename_i b hb
        rw [hb]
        cases b
        · refine ⟨!w, ?_, by rw [cond_false, set_same hb] at h; exact h⟩
          simp only [TV.enc, Univ.encE]
          cases w <;> rfl
        · refine ⟨w, ?_, by rw [cond_true, set_same hb] at h; exact h⟩
          simp only [TV.enc, Univ.encE]
          cases w <;> rfl
      · rename_i hb; rw [hb]; exact ⟨false, rfl, h⟩
      · simp at h
    · rename_i ht; rw [ht]; exact ⟨false, rfl, h⟩
theorem exitT_some {id : Nat} : ∀ {pre pre' : List TI'}, exitT id pre = some pre' → (∀ base, exitK id (pre.map TI'.conc ++ base) = some (pre'.map TI'.conc ++ base)) ∧ (Wf root base pre → Wf root base pre')
  | [], _, h => by simp [exitT] at h
  | x :: k, pre', h => by
    cases x with
    | blk j =>
      simp only [exitT] at h
      split at h
      · rename_i hj
        simp only [Option.some.injEq] at h; subst h
        exact ⟨fun base => by simp [TI'.conc, exitK, hj], fun hw => hw⟩
      · rename_i hj
        obtain ⟨q1, q2⟩ := exitT_some h
        exact ⟨fun base => by simp only [List.map_cons, List.cons_append, TI'.conc, exitK, hj, if_false]; exact q1 base, fun hw => q2 hw⟩
    | c p c =>
      simp only [exitT] at h
      obtain ⟨q1, q2⟩ := exitT_some h
      exact ⟨fun base => by simp only [List.map_cons, List.cons_append, TI'.conc, exitK]; exact q1 base, fun hw => q2 hw.2⟩
    | ops a i =>
      simp only [exitT] at h
      obtain ⟨q1, q2⟩ := exitT_some h
      exact ⟨fun base => by simp only [List.map_cons, List.cons_append, TI'.conc, exitK]; exact q1 base, fun hw => q2 hw⟩
theorem exitT_none {id : Nat} : ∀ {pre : List TI'}, exitT id pre = none → ∀ base, exitK id (pre.map TI'.conc ++ base) = exitK id base
  | [], _, base => rfl
  | x :: k, h, base => by
    cases x with
    | blk j =>
      simp only [exitT] at h
      split at h
      · simp at h
      · rename_i hj
        simp only [List.map_cons, List.cons_append, TI'.conc, exitK, hj, if_false]; exact exitT_none h base
    | c p c => simp only [exitT] at h; simp only [List.map_cons, List.cons_append, TI'.conc, exitK]; exact exitT_none h base
    | ops a i => simp only [exitT] at h; simp only [List.map_cons, List.cons_append, TI'.conc, exitK]; exact exitT_none h base
theorem goCut_awp (H : Hyp P C fm fn RT r root base) {T : TS U} (hT : T.Inv) {cut : Cut U R} {k : List Item} (hc : Hcut P C fm fn RT r cut k) (h : goCut P cut T = some r) : AWP C fm (retG C fn RT) k T.enc := by
  unfold goCut at h
  split at h
  · rename_i q hq
    obtain ⟨h1, h2⟩ := canonT_awp (C := C) (r := fm) (G := retG C fn RT) (k := k) H.hU hT hq
    exact h2 (hc q.1 q.2 h1 h)
  · simp at h
theorem nilSl_core (hX : TOk P.X) {T : TS U} (hT : T.Inv) {o : Oper} {i em q} (h : nilSl P.X T o = some (em, q)) :
    (em = false → core P.X.E T.ep i o.op o.type T.enc.slots T.enc.objs = some { val := .p (.bool !q) }) ∧ (em = true → core P.X.E T.ep i o.op o.type T.enc.slots T.enc.objs = some { val := .anyb }) := by
  unfold nilSl at h
  split at h
  · rename_i b t x u hop
    rw [hop]
    split at h
    · rename_i e d he hd
      split at h
      · rename_i u' hu
        split at h
        · rename_i q' hq'
          have fin : ∀ v : D, (nilCmp e.ti.d (.const (.slice none 0 0)) (T.enc |> fun _ => d.enc) = some v) → ∀ em', (v = if em' then .anyb else .p (.bool false)) → some (em', q') = some (em, q) →
              (em = false → core P.X.E T.ep i (.binOp b t x (.const (.slice none 0 0)) u) o.type T.enc.slots T.enc.objs = some { val := .p (.bool !q) }) ∧ (em = true → core P.X.E T.ep i (.binOp b t x (.const (.slice none 0 0)) u) o.type T.enc.slots T.enc.objs = some { val := .anyb }) := by
            intro v hv em' hem hh
            simp only [Option.some.injEq, Prod.mk.injEq] at hh
            obtain ⟨rfl, rfl⟩ := hh
            have hn : Operand.isNil (.const (.slice none 0 0)) = true := rfl
            constructor
            · intro h0
              subst h0
              simp only [Bool.false_eq_true, if_false] at hem
              subst hem
              simp only [core, hn, if_true, get_td he, evT_ev hX hd, hv]
              split at hq' <;> simp only [Option.some.injEq, reduceCtorEq] at hq' <;> subst hq' <;> simp [D.notb]
            · intro h0
              subst h0
              simp only [if_true] at hem
              subst hem
              simp only [core, hn, if_true, get_td he, evT_ev hX hd, hv]
              split at hq' <;> simp only [Option.some.injEq, reduceCtorEq] at hq' <;> subst hq' <;> simp [D.notb]
          split at h
          · rename_i t' xs
            refine fin _ ?_ _ rfl h
            simp only [hu, TV.enc, Univ.encE, nilCmp, List.isEmpty_map]
          · rename_i id n
            split at h
            · rename_i t' xs fix ho
              have hl := full_len hT hd ho
              refine fin _ ?_ _ rfl h
              simp only [hu, TV.enc, nilCmp]
              rw [hl]
              cases xs <;> simp
            · simp at h
          · simp at h
        · simp at h
      · simp at h
    · simp at h
  · simp at h
theorem awp_opN {ops : Array Oper} {i : Nat} {o : Oper} {k : List Item} {st : St} (ho : ops[i]? = some o) (hg : guardOf ops st o.guard = some true) (hnc : ∀ c, o.op ≠ .defer c)
    (h : ∀ (ρ : Id → Option Lay) (S : Nat → Prop) (a : Act) (w : World), Rep C (fun j => j < i) ρ S st a.tmps w → a.defers = fm.ds → ∃ st1 v w', (execOp a.eval o).run C.E.prog w = .ok (.value v) w' ∧ (∃ ρ' S', Rep C (fun j => j < i ∨ j = i) ρ' S' st1 (a.put o.dst v).tmps w') ∧ AWP C fm G (.ops ops (i + 1) :: k) st1) :
    AWP C fm G (.ops ops i :: k) st := by
  have hi : i < ops.size := (Array.getElem?_eq_some_iff.1 ho).1
  intro ρ S a w hrep hd b k0 cs hb
  have hrep : Rep C (fun j => j < i) ρ S st a.tmps w := hrep
  have hwant := guard_rel hrep hg
  obtain ⟨st1, v, w', hrun, ⟨ρ', S', hr'⟩, h1⟩ := h ρ S a w hrep hd
  obtain ⟨e2, a2', w2, hg2, harr⟩ := h1 ρ' S' (a.put o.dst v) w' (hr'.weakX (fun j hj => by simp only [Xof]; omega)) (by simp [hd]) b k0 cs hb
  refine ⟨e2, a2', w2, hg2, .of_steps ?_ harr⟩
  have hsem : o.semAt b.roundOf a.eval = execOp a.eval o := Oper.semAt_eq _ _ _ hnc
  have hst := stepGR_op (P := C.E.prog) (b := b) (a := a) (k := k.map conc ++ k0) (cs := cs) (w := w) (i := i) (rest := List.range' (i + 1) (ops.size - (i + 1))) ho hwant
  have hfin := Frame.finish_atR b a ops i (List.range' (i + 1) (ops.size - (i + 1))) (k.map conc ++ k0) v
  simp only [ho, Option.bind_some] at hfin
  refine .one (fenced_all _ _ _) ?_
  simp only [List.map_cons, List.cons_append, conc, range'_cons hi]
  refine step_lone_go ?_
  rw [hst, hsem, ← hfin]
  simp [stepG.apply, hrun]
theorem mit_erase {α β γ δ : Type} (f : α → γ) (g : β → δ) (l : List (α × β)) (j : Nat) : (l.map fun e => (f e.1, g e.2)).eraseIdx j = (l.eraseIdx j).map fun e => (f e.1, g e.2) := by
  induction l generalizing j with
  | nil => simp
  | cons x l ih => cases j with
    | zero => simp
    | succ j => simp [ih]
theorem evl_awp (H : Hyp P C fm fn RT r root base) : ∀ (n : Nat),
    (∀ pre T, Wf root base pre → T.Inv → evl P n none pre T = some r → AWP C fm (retG C fn RT) (pre.map TI'.conc ++ base) T.enc) ∧
    (∀ pre T ops hist, Wf root base pre → T.Inv → evl P n (some (ops, hist)) pre T = some r → DW C fm (retG C fn RT) (pre.map TI'.conc ++ base) ops hist T.enc) := by
  intro n
  induction n with
  | zero => exact ⟨fun pre T _ _ h => by simp [evl] at h, fun pre T ops hist _ _ h => by simp [evl] at h⟩
  | succ n ih =>
    obtain ⟨ih1, ih2⟩ := ih
    refine ⟨fun pre T hw hT h => ?_, fun pre T ops hist hw hT h => ?_⟩
    · match pre with
      | [] =>
        simp only [evl] at h
        split at h
        · rename_i c hc
          exact goCut_awp H hT (H.back c hc) h
        · rename_i hb
          rw [H.noback hb]
          unfold goRet at h
          split at h
          · rename_i t ht
            obtain ⟨ps, q1, q2⟩ := retT_e H.hU H.hX hT ht
            exact awp_end _ ps P.rms P.lent H.hE (by rw [H.hCE, H.rs]; exact q1) (H.ret t h) (andL_of q2) H.ds
          · simp at h
      | .blk id :: pre =>
        simp only [evl] at h
        exact awp_run (ps' := []) H.hE 1 _ _ [] rfl (by simp) (ih1 pre T hw hT h)
      | .ops ops i :: pre =>
        simp only [evl] at h
        split at h
        · rename_i hn
          exact awp_run (ps' := []) H.hE 1 (.ops ops i :: _) _ [] (by simp only [run, hn]; rfl) (by simp) (ih1 pre T.next hw hT.next h)
        · rename_i o ho
          have hi : i < ops.size := (Array.getElem?_eq_some_iff.1 ho).1
          obtain ⟨g, hg, h⟩ := guardT_of h
          cases g with
          | true =>
            simp only at h
            split at h
            · rename_i em q hnil
              split at h
              · rename_i hok
                simp only [Bool.and_eq_true] at hok
                obtain ⟨c1, c2⟩ := nilSl_core (i := i) H.hX hT hnil
                have einv : ∀ b, EInv T i { val := (.v .bool b : TV U) } := fun b => EInv.pure (inv_v _ _)
                have fr : ∀ b, fresh T i { val := (.v .bool b : TV U) } = true := fun b => rfl
                have step : ∀ (v : D), core P.X.E T.ep i o.op o.type T.enc.slots T.enc.objs = some { val := v } → AWP C fm (retG C fn RT) (.ops ops (i + 1) :: (pre.map TI'.conc ++ base)) (T.enc.app i o.dst { val := v }) → AWP C fm (retG C fn RT) (.ops ops i :: (pre.map TI'.conc ++ base)) T.enc := fun v hcv h1 =>
                  awp_op (e := { val := v }) H.hE ho hg (by rw [H.hCE]; exact hcv) (by rw [H.hCE]; exact hok.2) rfl (by simp) h1
                have nxt : ∀ b, evl P n none (.ops ops (i + 1) :: pre) (T.app i o.dst { val := .v .bool b }) = some r → AWP C fm (retG C fn RT) (.ops ops (i + 1) :: (pre.map TI'.conc ++ base)) (T.enc.app i o.dst { val := .p (.bool b) }) := fun b hb => by
                  have := ih1 (.ops ops (i + 1) :: pre) _ hw (hT.app (fr b) (einv b)) hb
                  rw [app_enc T i o.dst _ []] at this
                  exact this
                cases em with
                | false => exact step _ (c1 rfl) (nxt _ h)
                | true =>
                  simp only [cond_true, agree] at h
                  split at h
                  · rename_i hag
                    have ht := nxt true h
                    have hf := nxt false (by rw [← hag]; exact h)
                    refine step _ (c2 rfl) ?_
                    cases hd : o.dst with
                    | none => rw [hd] at ht; exact ht
                    | some t =>
                      rw [hd] at ht hf
                      exact awp_anyb fun b => by cases b; (· exact hf); exact ht
                  · simp at h
              · simp at h
            · split at h
              · rename_i m hm
                split at h
                · rename_i hok
                  unfold nextM at hm
                  split at hm
                  · rename_i it hop
                    split at hm
                    · rename_i id hid
                      split at hm
                      · rename_i ka kb rest cur hobj
                        split at hm
                        · rename_i hfz
                          simp only [Option.some.injEq] at hm
                          subst hm
                          have hlit : litOk it = true := by
                            simp only [opOk, Bool.and_eq_true] at hok
                            have := hok.2
                            rw [hop] at this
                            simp [Op.operands] at this
                            exact this
                          have hdst : ∀ d, o.dst = some d → d < C.E.nt := by rw [H.hCE]; simp only [opOk, Bool.and_eq_true] at hok; exact dstOk_lt hok.1
                          have hevi : ev C.E T.enc.slots 0 it = .it id := by rw [H.hCE, evT_ev H.hX hid]; rfl
                          have hobj' : T.enc.objs id = some (.mit (rest.map fun e => (U.encE ka e.1, U.encE kb e.2)) (cur.map fun e => (U.encE ka e.1, U.encE kb e.2))) := enc_obj hobj
                          refine awp_opN ho hg (fun c hc => by rw [hop] at hc; cases hc) fun ρ S a w hrep hd => ?_
                          rcases next_map hrep (Nat.lt_irrefl i) hdst hlit hop hevi hobj' hfz with ⟨hnil, v, w', hrun, hrep'⟩ | ⟨j, q, hq, v, w', hrun, hrep'⟩
                          · have : rest = [] := by simpa using hnil
                            subst this
                            refine ⟨_, v, w', hrun, hrep', ?_⟩
                            have := ih1 (.ops ops (i + 1) :: pre) _ hw (hT.app (dst := o.dst) rfl (EInv.pure (inv_nil (by simp [TV.fulls, TV.fullsL])))) h
                            rw [app_enc T i o.dst _ []] at this
                            exact this
                          · have hne : List.isEmpty rest = false := by
                              cases rest with
                              | nil => simp at hq
                              | cons x l => rfl
                            rw [List.getElem?_map] at hq
                            cases hr : rest[j]? with
                            | none => rw [hr] at hq; simp at hq
                            | some q0 =>
                              rw [hr] at hq
                              simp only [Option.map_some, Option.some.injEq] at hq
                              subst hq
                              simp only [hne, cond_false] at h
                              have hb := pickAll_some h hr
                              refine ⟨_, v, w', hrun, hrep', ?_⟩
                              have := ih1 (.ops ops (i + 1) :: pre) _ hw (hT.app (dst := o.dst) rfl (einv_wr (by simp [TV.fulls, TV.fullsL]) (fun t xs fix he => by cases he) (fun _ => by trivial))) hb
                              rw [app_enc T i o.dst _ []] at this
                              simp only [TEff.enc, TV.enc, TV.encs, Univ.encE, List.map_cons, List.map_nil, encMit, Option.map_some, ← mit_erase] at this
                              exact this
                        · simp at hm
                      · simp at hm
                    · simp at hm
                  · simp at hm
                · simp at h
              split at h
              · rename_i m hm
                split at h
                · rename_i hok
                  refine awp_opN ho hg (fun c hc => ?_) fun ρ S a w hrep hd => ?_
                  · unfold capSl at hm; rw [hc] at hm; simp at hm
                  obtain ⟨_, c, hc1, hc2, v, hrun, hrep'⟩ := capSl_step H.hX hT H.hCE hrep (Nat.lt_irrefl i) H.hE hok hm
                  refine ⟨_, v, w, hrun, hrep', ?_⟩
                  have := ih1 (.ops ops (i + 1) :: pre) _ hw (hT.app (dst := o.dst) rfl (EInv.pure (inv_v _ _))) (anyN_some h hc1 hc2)
                  rw [app_enc T i o.dst _ []] at this
                  exact this
                · simp at h
              split at h
              · rename_i q hq
                split at h
                · rename_i hok
                  obtain ⟨hroom, h⟩ := chk_some h
                  refine awp_opN ho hg (fun c hc => ?_) fun ρ S a w hrep hd => ?_
                  · unfold keepA at hq; rw [hc] at hq; split at hq <;> simp at hq
                  obtain ⟨_, heinv, v, w', hrun, hrep'⟩ := keepA_step H.hX hT H.hCE hrep (Nat.lt_irrefl i) H.hE hok hq hroom
                  refine ⟨_, v, w', hrun, hrep', ?_⟩
                  have := ih1 (.ops ops (i + 1) :: pre) _ hw (hT.app (dst := o.dst) rfl heinv) h
                  rw [app_enc T i o.dst _ []] at this
                  exact this
                · simp at h
              obtain ⟨e, he1, he2, he3⟩ := stepT_oe H hT hg h
              split at he2
              · rename_i hok
                obtain ⟨cs, hoe⟩ := he3 hok
                have hfr : fresh T i e = true := by simp only [okE, Bool.and_eq_true] at hok; exact hok.1
                refine awp_exec hi (hoe.exec H.hE ho) ?_
                have := ih1 (.ops ops (i + 1) :: pre) _ hw (hT.app hfr he1) he2
                rw [app_enc T i o.dst e cs] at this
                exact this
              · simp at he2
          | false =>
            simp only at h
            split at h
            · rename_i hd
              have e0 : EInv T i { val := (.undef : TV U) } := EInv.pure (inv_nil rfl)
              have := ih1 (.ops ops (i + 1) :: pre) _ hw (hT.app rfl e0) h
              rw [app_enc T i o.dst _ []] at this
              exact awp_exec hi (exec_skip ho hg (by rw [H.hCE]; exact hd)) this
            · simp at h
      | .c p c :: pre =>
        obtain ⟨hat, hw'⟩ := hw
        simp only [evl] at h
        split at h
        · rename_i x hx
          have hm := List.mem_of_find?_eq_some hx
          have hp : x.1 = p := by have := List.find?_some hx; simpa using this
          exact goCut_awp H hT (H.cuts x hm c _ (by rw [hp]; exact hat)) h
        · cases c with
          | skip => simp only at h; exact awp_run (ps' := []) H.hE 1 _ _ [] rfl (by simp) (ih1 pre T hw' hT h)
          | seq a b =>
            simp only at h
            refine awp_run (ps' := []) H.hE 1 (.c (.seq a b) :: _) _ [] rfl (by simp) (ih1 (.c (0 :: p) a :: .c (1 :: p) b :: pre) T ⟨?_, ?_, hw'⟩ hT h)
            · simp only [atP, hat]; rfl
            · simp only [atP, hat]
          | block id b =>
            simp only at h
            refine awp_run (ps' := []) H.hE 1 (.c (.block id b) :: _) _ [] rfl (by simp) (ih1 (.c (4 :: p) b :: .blk id :: pre) T ⟨?_, hw'⟩ hT h)
            simp only [atP, hat]; rfl
          | region id ops dr =>
            cases dr with
            | false => simp only at h; exact awp_run (ps' := []) H.hE 1 (.c (.region id ops false) :: _) _ [] rfl (by simp) (ih1 (.ops ops 0 :: pre) T hw' hT h)
            | true => simp only at h; exact awp_draw H.hE H.mixed (ih2 pre T ops [] hw' hT h)
          | cond x a b =>
            simp only at h
            split at h
            · rename_i hl
              split at h
              · rename_i v hv
                have hev : ev C.E T.enc.slots 0 x = .p (.bool v) := by rw [H.hCE, evT_ev H.hX hv]; rfl
                cases v with
                | true =>
                  refine awp_run (ps' := []) H.hE 1 (.c (.cond x a b) :: _) _ [] (by simp only [run, hl, if_true, hev]; rfl) (by simp) (ih1 (.c (2 :: p) a :: pre) T ⟨?_, hw'⟩ hT h)
                  simp only [atP, hat]
                | false =>
                  refine awp_run (ps' := []) H.hE 1 (.c (.cond x a b) :: _) _ [] (by simp only [run, hl, if_true, hev]; rfl) (by simp) (ih1 (.c (3 :: p) b :: pre) T ⟨?_, hw'⟩ hT h)
                  simp only [atP, hat]
              · simp at h
            · simp at h
          | exit id =>
            simp only at h
            split at h
            · rename_i pre' hp
              obtain ⟨q1, q2⟩ := exitT_some (root := root) (base := base) hp
              refine awp_run (ps' := []) H.hE 1 (.c (.exit id) :: _) _ [] (by have hx : exitK id ((List.map TI'.conc pre).append base) = some (pre'.map TI'.conc ++ base) := q1 base; simp only [run, hx]) (by simp) (ih1 pre' T (q2 hw') hT h)
            · rename_i hp
              split at h
              · rename_i x hx
                have hm := List.mem_of_find?_eq_some hx
                have hpid : x.1 = id := by have := List.find?_some hx; simpa using this
                obtain ⟨k, hk, hc⟩ := H.exits x hm
                have := goCut_awp H hT hc h
                have hx : exitK id ((List.map TI'.conc pre).append base) = some k := by rw [← hk, hpid]; exact exitT_none hp base
                exact awp_run (ps' := []) H.hE 1 (.c (.exit id) :: _) _ [] (by simp only [run, hx]) (by simp) this
              · simp at h
          | ret =>
            simp only [goRet] at h
            split at h
            · rename_i t ht
              obtain ⟨ps, q1, q2⟩ := retT_e H.hU H.hX hT ht
              exact awp_ret _ ps P.rms P.lent H.hE (by rw [H.hCE, H.rs]; exact q1) (H.ret t h) (andL_of q2) H.ds
            · simp at h
          | _ => simp at h
    · simp only [evl] at h
      split at h
      · rename_i hn
        split at h
        · rename_i hok
          simp only [Bool.and_eq_true, decide_eq_true_eq] at hok
          exact dw_end hok.2 hok.1 (ih1 pre T.next hw hT.next h)
        · simp at h
      · rename_i o ho
        obtain ⟨g, hg, h⟩ := guardT_of h
        cases g with
        | true =>
          simp only at h
          obtain ⟨e, he1, he2, he3⟩ := stepT_oe H hT hg h
          split at he2
          · rename_i hok
            simp only [Bool.and_eq_true] at hok
            obtain ⟨cs, hoe⟩ := he3 hok.1
            have hfr : fresh T hist.length e = true := by have := hok.1; simp only [okE, Bool.and_eq_true] at this; exact this.1
            have := ih2 pre _ ops _ hw (hT.app hfr he1) he2
            rw [app_enc T hist.length o.dst e cs] at this
            refine dw_op ho ⟨hoe, ?_, rfl, hok.2⟩ this
            simp [fpT, TEff.enc, List.map_map, Function.comp_def]
          · simp at he2
        | false =>
          simp only at h
          split at h
          · rename_i hd
            simp only [Bool.and_eq_true] at hd
            have e0 : EInv T hist.length { val := (.undef : TV U) } := EInv.pure (inv_nil rfl)
            have := ih2 pre _ ops _ hw (hT.app rfl e0) h
            rw [app_enc T hist.length o.dst _ []] at this
            exact dw_op ho ⟨.skip hg (by rw [H.hCE]; exact hd.1), rfl, rfl, hd.2⟩ this
          · simp at h
end
end
end Eng
namespace Eng
open Go
inductive Sh1 where
  | v (t : Ty) | pp (t : Ty) | full (id : Id) | sl (id : Id) | ptr (id : Id) (i j : Nat) | ptrI (id : Id) (j : Nat)
  | map (id : Id) | it (id : Id) | nilp | nilfn | undef | nils (t : Ty) | clip (t : Ty)
inductive Sh where
  | o (s : Sh1) | agg (l : List Sh1) | fn (f : Nat) (a b : List Sh1)
inductive ShO where
  | box (l : List Sh) | boxS (t : Ty) | arr (t : Ty) (fix : Bool) | map (k v : Ty) | sit | mit (k v : Ty)
abbrev Val1 (U : Univ) : Sh1 → Type
  | .v t => El U.car t
  | .pp t => El U.car t
  | .full _ => Nat
  | .sl _ => Nat × Nat
  | .ptrI _ _ => Nat
  | .clip t => List (El U.car t)
  | _ => Unit
abbrev Vals1 (U : Univ) : List Sh1 → Type
  | [] => Unit
  | s :: r => Val1 U s × Vals1 U r
abbrev Val (U : Univ) : Sh → Type
  | .o s => Val1 U s
  | .agg l => Vals1 U l
  | .fn _ a b => Vals1 U a × Vals1 U b
abbrev Vals (U : Univ) : List Sh → Type
  | [] => Unit
  | s :: r => Val U s × Vals U r
abbrev ValO (U : Univ) : ShO → Type
  | .box l => Vals U l
  | .boxS t => El U.car t
  | .arr t _ => List (El U.car t)
  | .map k v => List (El U.car k × El U.car v)
  | .sit => List UInt8 × Nat
  | .mit k v => List (El U.car k × El U.car v) × Option (El U.car k × El U.car v)
abbrev ValsO (U : Univ) : List ShO → Type
  | [] => Unit
  | s :: r => ValO U s × ValsO U r
section
variable {U : Univ}
def bld1 : (s : Sh1) → Val1 U s → TV U
  | .v t, x => .v t x
  | .pp t, x => .pp (U.cellsE t x)
  | .full id, n => .full id n
  | .sl id, p => .sl id p.1 p.2
  | .ptr id i j, _ => .ptr id i j
  | .ptrI id j, i => .ptr id i j
  | .map id, _ => .map id
  | .it id, _ => .it id
  | .nilp, _ => .nilp
  | .nilfn, _ => .nilfn
  | .undef, _ => .undef
  | .nils t, _ => .nils t
  | .clip t, xs => .clip t xs
def blds1 : (l : List Sh1) → Vals1 U l → List (TV U)
  | [], _ => []
  | s :: r, v => bld1 s v.1 :: blds1 r v.2
def bld : (s : Sh) → Val U s → TV U
  | .o s, x => bld1 s x
  | .agg l, x => .agg (blds1 l x)
  | .fn f a b, x => .fn f (blds1 a x.1) (blds1 b x.2)
def blds : (l : List Sh) → Vals U l → List (TV U)
  | [], _ => []
  | s :: r, v => bld s v.1 :: blds r v.2
def bldO : (s : ShO) → ValO U s → TO U
  | .box l, x => .box (blds l x)
  | .boxS t, x => .box ((U.cellsE t x).map lv)
  | .arr t fix, xs => .arr t xs fix
  | .map k v, kv => .map k v kv
  | .sit, p => .sit p.1 p.2
  | .mit k v, p => .mit k v p.1 p.2
def bldsO : (l : List ShO) → ValsO U l → List (TO U)
  | [], _ => []
  | s :: r, v => bldO s v.1 :: bldsO r v.2
def mat1 : (s : Sh1) → TV U → Option (Val1 U s)
  | .v t, .v t' x => if h : t' = t then some (h ▸ x) else none
  | .pp t, .pp cs => U.ofE t cs
  | .full id, .full id' n => if id' = id then some n else none
  | .sl id, .sl id' o l => if id' = id then some (o, l) else none
  | .ptr id i j, .ptr id' i' j' => if id' = id ∧ i' = i ∧ j' = j then some () else none
  | .ptrI id j, .ptr id' i j' => if id' = id ∧ j' = j then some i else none
  | .map id, .map id' => if id' = id then some () else none
  | .it id, .it id' => if id' = id then some () else none
  | .nilp, .nilp => some ()
  | .nilfn, .nilfn => some ()
  | .undef, .undef => some ()
  | .nils t, .nils t' => if t' = t then some () else none
  | .clip t, .clip t' xs => if h : t' = t then some (h ▸ xs) else none
  | _, _ => none
def mats1 : (l : List Sh1) → List (TV U) → Option (Vals1 U l)
  | [], [] => some ()
  | s :: r, d :: ds => match mat1 s d, mats1 r ds with
    | some x, some y => some (x, y)
    | _, _ => none
  | _, _ => none
def mat : (s : Sh) → TV U → Option (Val U s)
  | .o s, d => mat1 s d
  | .agg l, .agg cs => mats1 l cs
  | .fn f a b, .fn f' x y => if f' = f then match mats1 a x, mats1 b y with
    | some p, some q => some (p, q)
    | _, _ => none
    else none
  | _, _ => none
def mats : (l : List Sh) → List (TV U) → Option (Vals U l)
  | [], [] => some ()
  | s :: r, d :: ds => match mat s d, mats r ds with
    | some x, some y => some (x, y)
    | _, _ => none
  | _, _ => none
def matO : (s : ShO) → TO U → Option (ValO U s)
  | .box l, .box cs => mats l cs
  | .boxS t, .box cs => match allM TV.leaf? cs with
    | some ls => U.ofE t ls
    | none => none
  | .arr t fix, .arr t' xs fix' => if h : t' = t then if fix' = fix then some (h ▸ xs) else none else none
  | .map k v, .map k' v' kv => if h : k' = k then if h' : v' = v then some (h ▸ h' ▸ kv) else none else none
  | .sit, .sit s p => some (s, p)
  | .mit k v, .mit k' v' r c => if h : k' = k then if h' : v' = v then some (h ▸ h' ▸ (r, c)) else none else none
  | _, _ => none
def matsO : (l : List ShO) → List (TO U) → Option (ValsO U l)
  | [], [] => some ()
  | s :: r, d :: ds => match matO s d, matsO r ds with
    | some x, some y => some (x, y)
    | _, _ => none
  | _, _ => none
theorem mat1_bld (hU : UOk U) {s : Sh1} {d : TV U} {x : Val1 U s} (h : mat1 s d = some x) : d = bld1 s x := by
  unfold mat1 at h
  split at h
  · split at h
    · rename_i he; subst he; simp only [Option.some.injEq] at h; subst h; rfl
    · simp at h
  · have := ofE_cells hU h; rw [bld1, this]
  · split at h
    · rename_i he; subst he; simp only [Option.some.injEq] at h; subst h; rfl
    · simp at h
  · split at h
    · rename_i he; subst he; simp only [Option.some.injEq] at h; subst h; rfl
    · simp at h
  · split at h
    · rename_i he; obtain ⟨rfl, rfl, rfl⟩ := he; rfl
    · simp at h
  · split at h
    · rename_i he; obtain ⟨rfl, rfl⟩ := he; simp only [Option.some.injEq] at h; subst h; rfl
    · simp at h
  · split at h
    · rename_i he; subst he; rfl
    · simp at h
  · split at h
    · rename_i he; subst he; rfl
    · simp at h
  · rfl
  · rfl
  · rfl
  · split at h
    · rename_i he; subst he; rfl
    · simp at h
  · split at h
    · rename_i he; subst he; simp only [Option.some.injEq] at h; subst h; rfl
    · simp at h
  · simp at h
theorem mats1_blds (hU : UOk U) : ∀ {l : List Sh1} {ds : List (TV U)} {x : Vals1 U l}, mats1 l ds = some x → ds = blds1 l x
  | [], [], x, h => rfl
  | [], _ :: _, x, h => by simp [mats1] at h
  | _ :: _, [], x, h => by simp [mats1] at h
  | s :: r, d :: ds, x, h => by
    simp only [mats1] at h
    split at h
    · rename_i a b h1 h2
      simp only [Option.some.injEq] at h; subst h
      rw [blds1, ← mat1_bld hU h1, ← mats1_blds hU h2]
    · simp at h
theorem mat_bld (hU : UOk U) {s : Sh} {d : TV U} {x : Val U s} (h : mat s d = some x) : d = bld s x := by
  unfold mat at h
  split at h
  · exact mat1_bld hU h
  · rw [bld, mats1_blds hU h]
  · split at h
    · rename_i he; subst he
      split at h
      · rename_i p q h1 h2
        simp only [Option.some.injEq] at h; subst h
        rw [bld, mats1_blds hU h1, mats1_blds hU h2]
      · simp at h
    · simp at h
  · simp at h
theorem mats_blds (hU : UOk U) : ∀ {l : List Sh} {ds : List (TV U)} {x : Vals U l}, mats l ds = some x → ds = blds l x
  | [], [], x, h => rfl
  | [], _ :: _, x, h => by simp [mats] at h
  | _ :: _, [], x, h => by simp [mats] at h
  | s :: r, d :: ds, x, h => by
    simp only [mats] at h
    split at h
    · rename_i a b h1 h2
      simp only [Option.some.injEq] at h; subst h
      rw [blds, ← mat_bld hU h1, ← mats_blds hU h2]
    · simp at h
theorem matO_bld (hU : UOk U) {s : ShO} {d : TO U} {x : ValO U s} (h : matO s d = some x) : d = bldO s x := by
  unfold matO at h
  split at h
  · rw [bldO, mats_blds hU h]
  · split at h
    · rename_i ls hls
      rw [bldO, ofE_cells hU h, allM_leaf hls]
    · simp at h
  · split at h
    · rename_i he; subst he
      split at h
      · rename_i hf; subst hf; simp only [Option.some.injEq] at h; subst h; rfl
      · simp at h
    · simp at h
  · split at h
    · rename_i he; subst he
      split at h
      · rename_i hf; subst hf; simp only [Option.some.injEq] at h; subst h; rfl
      · simp at h
    · simp at h
  · simp only [Option.some.injEq] at h; subst h; rfl
  · split at h
    · rename_i he; subst he
      split at h
      · rename_i hf; subst hf; simp only [Option.some.injEq] at h; subst h; rfl
      · simp at h
    · simp at h
  · simp at h
theorem matsO_blds (hU : UOk U) : ∀ {l : List ShO} {ds : List (TO U)} {x : ValsO U l}, matsO l ds = some x → ds = bldsO l x
  | [], [], x, h => rfl
  | [], _ :: _, x, h => by simp [matsO] at h
  | _ :: _, [], x, h => by simp [matsO] at h
  | s :: r, d :: ds, x, h => by
    simp only [matsO] at h
    split at h
    · rename_i a b h1 h2
      simp only [Option.some.injEq] at h; subst h
      rw [bldsO, ← matO_bld hU h1, ← matsO_blds hU h2]
    · simp at h
structure FC (U : Univ) where
  X : TEnv U
  fn : Func
  c : Code
  sigs : List (Nat × TSig U)
  lent : List Nat
  rms : List RM
  rhs : List (Option Nat)
  keep : List Nat := []
  alt : List (Nat × Nat) := []
structure FOk (F : FC U) : Prop where
  hU : UOk U
  hX : TOk F.X
  hE : EnvOk F.X.E
  mixed : F.X.prog.follows .mixedOrders = true
  sigs : ∀ x ∈ F.sigs, SigOk F.X.E x.1 x.2
structure Lp (U : Univ) (R : Type) where
  live : List Nat
  frz : List Nat
  shs : List Sh
  sho : List ShO
  f : Vals U shs → ValsO U sho → Option R
variable {R : Type}
def Lp.cut (L : Lp U R) : Cut U R := ⟨L.live, L.frz, fun ds os => match mats L.shs ds, matsO L.sho os with
  | some v, some w => L.f v w
  | _, _ => none⟩
def Lp.st (F : FC U) (L : Lp U R) (v : Vals U L.shs) (w : ValsO U L.sho) : TS U := mkC F.lent L.live (blds L.shs v) (bldsO L.sho w)
def Pt (F : FC U) (RT : Ret) (k : List Item) (T : TS U) : Prop :=
  ∀ W Lt S0 lays, AWP ⟨F.X.E, W, Lt, S0, lays⟩ ⟨none, []⟩ (retG ⟨F.X.E, W, Lt, S0, lays⟩ F.fn RT) k T.enc
def LpOk (F : FC U) (RT : Ret) (r : R) (L : Lp U R) (k : List Item) : Prop := ∀ v w, (L.st F v w).Inv → L.f v w = some r → Pt F RT k (L.st F v w)
def cutsOf (l : List (List Nat × Lp U R)) : List (List Nat × Cut U R) := l.map fun x => (x.1, x.2.cut)
def exitsOf (l : List (Nat × Lp U R)) : List (Nat × Cut U R) := l.map fun x => (x.1, x.2.cut)
def backOf : Option (Lp U R) → Option (Cut U R)
  | some L => some L.cut
  | none => none
def FC.par (F : FC U) (cuts : List (List Nat × Lp U R)) (back : Option (Lp U R)) (exits : List (Nat × Lp U R)) (ret : TRet U → Option R) : Par U R :=
  { X := F.X, sigs := F.sigs, cuts := cutsOf cuts, back := backOf back, exits := exitsOf exits, lent := F.lent, rs := F.fn.results.toList, rms := F.rms, rhs := F.rhs, ret := ret, keep := F.keep, alt := F.alt }
def stAt (F : FC U) (p : List Nat) : List Item := match atP (F.c, []) p with
  | some x => .c x.1 :: x.2
  | none => []
def AllCuts (F : FC U) (RT : Ret) (r : R) : List (List Nat × Lp U R) → Prop
  | [] => True
  | x :: l => LpOk F RT r x.2 (stAt F x.1) ∧ AllCuts F RT r l
def AllExits (F : FC U) (RT : Ret) (r : R) (base : List Item) : List (Nat × Lp U R) → Prop
  | [] => True
  | x :: l => (∃ k, exitK x.1 base = some k ∧ LpOk F RT r x.2 k) ∧ AllExits F RT r base l
theorem LpOk.hcut {F : FC U} (hU : UOk U) {RT : Ret} {r : R} {L : Lp U R} {k : List Item} (h : LpOk F RT r L k) {P : Par U R} (hl : P.lent = F.lent) {W : World} {Lt S0 : Nat → Prop} {lays : Nat → Option Lay} :
    Hcut P ⟨F.X.E, W, Lt, S0, lays⟩ ⟨none, []⟩ F.fn RT r L.cut k := by
  intro ds os hi hk
  simp only [Lp.cut] at hk
  split at hk
  · rename_i v w hv hw
    have e1 := mats_blds hU hv
    have e2 := matsO_blds hU hw
    have : mkC P.lent L.cut.live ds os = L.st F v w := by rw [e1, e2, hl]; rfl
    rw [this] at hi ⊢
    exact h v w hi hk W Lt S0 lays
  · simp at hk
theorem Pt.evl {F : FC U} (hF : FOk F) {RT : Ret} {r : R} (n : Nat) {cuts : List (List Nat × Lp U R)} {back : Option (Lp U R)} {exits : List (Nat × Lp U R)} {ret : TRet U → Option R} {base : List Item} {pre : List TI'} {T : TS U}
    (hT : T.Inv) (h : Eng.evl (F.par cuts back exits ret) n none pre T = some r) (hw : Wf (F.c, []) base pre) (hc : AllCuts F RT r cuts) (hb : ∀ L, back = some L → LpOk F RT r L base) (hnb : back = none → base = [])
    (he : AllExits F RT r base exits) (hret : ∀ t, ret t = some r → t.enc = RT) : Pt F RT (pre.map TI'.conc ++ base) T := by
  intro W Lt S0 lays
  refine (evl_awp (fm := ⟨none, []⟩) (fn := F.fn) (RT := RT) (r := r) (root := (F.c, [])) (base := base) (C := ⟨F.X.E, W, Lt, S0, lays⟩) ?_ n).1 pre T hw hT h
  refine ⟨hF.hU, hF.hX, hF.hE, rfl, hF.mixed, rfl, rfl, hF.sigs, fun x hx c k hat => ?_, fun c hc' => ?_, fun hn => ?_, fun x hx => ?_, hret⟩
  · obtain ⟨y, hy, rfl⟩ := List.mem_map.1 hx
    have : LpOk F RT r y.2 (stAt F y.1) := by
      clear h hx hat
      induction cuts with
      | nil => simp at hy
      | cons z l ih =>
        rcases List.mem_cons.1 hy with rfl | hy
        · exact hc.1
        · exact ih hc.2 hy
    rw [show stAt F y.1 = .c c :: k by unfold stAt; rw [show atP (F.c, []) y.1 = some (c, k) from hat]] at this
    exact this.hcut hF.hU rfl
  · cases back with
    | none => simp [FC.par, backOf] at hc'
    | some L =>
      simp only [FC.par, backOf, Option.some.injEq] at hc'
      subst hc'
      exact (hb L rfl).hcut hF.hU rfl
  · cases back with
    | none => exact hnb rfl
    | some L => simp [FC.par, backOf] at hn
  · obtain ⟨y, hy, rfl⟩ := List.mem_map.1 hx
    have : ∃ k, exitK y.1 base = some k ∧ LpOk F RT r y.2 k := by
      clear h hx
      induction exits with
      | nil => simp at hy
      | cons z l ih =>
        rcases List.mem_cons.1 hy with rfl | hy
        · exact he.1
        · exact ih he.2 hy
    obtain ⟨k, hk, hl⟩ := this
    exact ⟨k, hk, hl.hcut hF.hU rfl⟩
theorem Pt.evlAt {F : FC U} (hF : FOk F) {RT : Ret} {r : R} (n : Nat) {cuts : List (List Nat × Lp U R)} {back : Option (Lp U R)} {exits : List (Nat × Lp U R)} {ret : TRet U → Option R} {base : List Item} {pre : List TI'} {T : TS U} {k : List Item}
    (hk : k = pre.map TI'.conc ++ base) (hT : T.Inv) (h : Eng.evl (F.par cuts back exits ret) n none pre T = some r) (hw : Wf (F.c, []) base pre) (hc : AllCuts F RT r cuts) (hb : ∀ L, back = some L → LpOk F RT r L base) (hnb : back = none → base = [])
    (he : AllExits F RT r base exits) (hret : ∀ t, ret t = some r → t.enc = RT) : Pt F RT k T := hk ▸ Pt.evl hF n hT h hw hc hb hnb he hret
theorem Pt.lp {F : FC U} (hF : FOk F) {RT : Ret} {body : Code} {k : List Item} {T : TS U} (h : Pt F RT (.c body :: .lp body :: k) T) : Pt F RT (.lp body :: k) T := fun W Lt S0 lays =>
  awp_run (ps' := []) hF.hE 1 (.lp body :: k) _ [] rfl (by simp) (h W Lt S0 lays)
theorem Pt.loop {F : FC U} (hF : FOk F) {RT : Ret} {body : Code} {k : List Item} {T : TS U} (h : Pt F RT (.c body :: .lp body :: k) T) : Pt F RT (.c (.loop body) :: k) T := fun W Lt S0 lays =>
  awp_run (ps' := []) hF.hE 1 (.c (.loop body) :: k) _ [] rfl (by simp) (h W Lt S0 lays)
theorem loop_ok {F : FC U} (hF : FOk F) {RT : Ret} {r : R} (N : Nat) {q : List Nat} {body : Code} {k : List Item} {live frz : List Nat} {shs : List Sh} {sho : List ShO} (f : Nat → Vals U shs → ValsO U sho → Option R)
    {cuts : Nat → List (List Nat × Lp U R)} {exits : List (Nat × Lp U R)} {ret : TRet U → Option R} (hq : atP (F.c, []) q = some (.loop body, k)) (h0 : ∀ v w, f 0 v w = none)
    (hs : ∀ n v w, f (n + 1) v w = evl (F.par (cuts n) (some ⟨live, frz, shs, sho, f n⟩) exits ret) N none [.c (5 :: q) body] (Lp.st F ⟨live, frz, shs, sho, f (n + 1)⟩ v w))
    (hc : ∀ n, LpOk F RT r ⟨live, frz, shs, sho, f n⟩ (.lp body :: k) → AllCuts F RT r (cuts n)) (he : AllExits F RT r (.lp body :: k) exits) (hret : ∀ t, ret t = some r → t.enc = RT) :
    ∀ n, LpOk F RT r ⟨live, frz, shs, sho, f n⟩ (stAt F q) := by
  have hst : stAt F q = .c (.loop body) :: k := by unfold stAt; rw [hq]
  rw [hst]
  have key : ∀ n, LpOk F RT r ⟨live, frz, shs, sho, f n⟩ (.c body :: .lp body :: k) := by
    intro n
    induction n with
    | zero => intro v w _ h; rw [show (Lp.mk live frz shs sho (f 0)).f v w = f 0 v w from rfl, h0] at h; simp at h
    | succ n ih =>
      intro v w hi h
      have h' : f (n + 1) v w = some r := h
      rw [hs n v w] at h'
      have hback : LpOk F RT r ⟨live, frz, shs, sho, f n⟩ (.lp body :: k) := fun v w hi h => (ih v w hi h).lp hF
      refine Pt.evl hF N (base := .lp body :: k) hi h' ⟨?_, trivial⟩ (hc n hback) (fun L hL => ?_) (fun hn => by simp at hn) he hret
      · simp only [atP, hq, List.map_nil, List.nil_append]
      · simp only [Option.some.injEq] at hL; subst hL; exact hback
  exact fun n v w hi h => (key n v w hi h).loop hF
inductive ShA where
  | p (t : Ty) | box (t : Ty) | arr (t : Ty) | map (k v : Ty) | ptr (t : Ty) | fn (f : Nat) (a b : List Sh1) | nilp | nilfn | part (t : Ty)
inductive ShR where
  | p (t : Ty) | own (t : Ty) | box (t : Ty) | map (k v : Ty) | view (k : Nat)
abbrev ValQ1 (U : Univ) : Sh1 → Type
  | .v t => El U.car t
  | .pp t => El U.car t
  | _ => Unit
abbrev ValsQ1 (U : Univ) : List Sh1 → Type
  | [] => Unit
  | s :: r => ValQ1 U s × ValsQ1 U r
abbrev ValA (U : Univ) : ShA → Type
  | .p t => El U.car t
  | .box t => El U.car t
  | .arr t => List (El U.car t)
  | .map k v => List (El U.car k × El U.car v)
  | .ptr t => El U.car t
  | .fn _ a b => ValsQ1 U a × ValsQ1 U b
  | .part t => List (El U.car t) × Nat × Nat
  | .nilp => Unit
  | .nilfn => Unit
abbrev ValsA (U : Univ) : List ShA → Type
  | [] => Unit
  | s :: r => ValA U s × ValsA U r
abbrev ValR (U : Univ) : ShR → Type
  | .p t => El U.car t
  | .own t => List (El U.car t)
  | .box t => El U.car t
  | .map k v => List (El U.car k × El U.car v)
  | .view _ => Nat × Nat
abbrev ValsR (U : Univ) : List ShR → Type
  | [] => Unit
  | s :: r => ValR U s × ValsR U r
abbrev ValsU (U : Univ) : List (Nat × ShA) → Type
  | [] => Unit
  | s :: r => ValA U s.2 × ValsU U r
def bldQ1 : (s : Sh1) → ValQ1 U s → TQ U
  | .v t, x => .l ⟨t, x⟩
  | .pp t, x => .ptr (U.cellsE t x)
  | .nilp, _ => .nilp
  | _, _ => .nilfn
def bldsQ1 : (l : List Sh1) → ValsQ1 U l → List (TQ U)
  | [], _ => []
  | s :: r, v => bldQ1 s v.1 :: bldsQ1 r v.2
def bldA : (s : ShA) → ValA U s → TArg U
  | .p t, x => .p (.l ⟨t, x⟩)
  | .box t, x => .box (U.cellsE t x)
  | .arr t, xs => .arr t xs
  | .map k v, kv => .map k v kv
  | .ptr t, x => .p (.ptr (U.cellsE t x))
  | .fn f a b, x => .p (.fn f (bldsQ1 a x.1) (bldsQ1 b x.2))
  | .nilp, _ => .p .nilp
  | .nilfn, _ => .p .nilfn
  | .part t, x => .part t x.1 x.2.1 x.2.2
def bldsA : (l : List ShA) → ValsA U l → List (TArg U)
  | [], _ => []
  | s :: r, v => bldA s v.1 :: bldsA r v.2
def bldR : (s : ShR) → ValR U s → TRV U
  | .p t, x => .p ⟨t, x⟩
  | .own t, xs => .own t xs
  | .box t, x => .box (U.cellsE t x)
  | .map k v, kv => .map k v kv
  | .view k, p => .view k p.1 p.2
def bldsR : (l : List ShR) → ValsR U l → List (TRV U)
  | [], _ => []
  | s :: r, v => bldR s v.1 :: bldsR r v.2
def bldsU : (l : List (Nat × ShA)) → ValsU U l → List (Nat × TArg U)
  | [], _ => []
  | s :: r, v => (s.1, bldA s.2 v.1) :: bldsU r v.2
def matQ1 : (s : Sh1) → TQ U → Option (ValQ1 U s)
  | .v t, .l x => x.as t
  | .pp t, .ptr cs => U.ofE t cs
  | .nilp, .nilp => some ()
  | .nilfn, .nilfn => some ()
  | _, _ => none
def matsQ1 : (l : List Sh1) → List (TQ U) → Option (ValsQ1 U l)
  | [], [] => some ()
  | s :: r, d :: ds => match matQ1 s d, matsQ1 r ds with
    | some x, some y => some (x, y)
    | _, _ => none
  | _, _ => none
def matA : (s : ShA) → TArg U → Option (ValA U s)
  | .p t, .p (.l x) => x.as t
  | .box t, .box cs => U.ofE t cs
  | .arr t, .arr t' xs => if h : t' = t then some (h ▸ xs) else none
  | .map k v, .map k' v' kv => if h : k' = k then if h' : v' = v then some (h ▸ h' ▸ kv) else none else none
  | .ptr t, .p (.ptr cs) => U.ofE t cs
  | .fn f a b, .p (.fn f' x y) => if f' = f then match matsQ1 a x, matsQ1 b y with
    | some p, some q => some (p, q)
    | _, _ => none
    else none
  | .nilp, .p .nilp => some ()
  | .nilfn, .p .nilfn => some ()
  | .part t, .part t' xs off len => if h : t' = t then some (h ▸ xs, off, len) else none
  | _, _ => none
def matsA : (l : List ShA) → List (TArg U) → Option (ValsA U l)
  | [], [] => some ()
  | s :: r, d :: ds => match matA s d, matsA r ds with
    | some x, some y => some (x, y)
    | _, _ => none
  | _, _ => none
def matR : (s : ShR) → TRV U → Option (ValR U s)
  | .p t, .p x => x.as t
  | .own t, .own t' xs => if h : t' = t then some (h ▸ xs) else none
  | .box t, .box cs => U.ofE t cs
  | .map k v, .map k' v' kv => if h : k' = k then if h' : v' = v then some (h ▸ h' ▸ kv) else none else none
  | .view k, .view k' o l => if k' = k then some (o, l) else none
  | _, _ => none
def matsR : (l : List ShR) → List (TRV U) → Option (ValsR U l)
  | [], [] => some ()
  | s :: r, d :: ds => match matR s d, matsR r ds with
    | some x, some y => some (x, y)
    | _, _ => none
  | _, _ => none
def matsU : (l : List (Nat × ShA)) → List (Nat × TArg U) → Option (ValsU U l)
  | [], [] => some ()
  | s :: r, d :: ds => if d.1 = s.1 then match matA s.2 d.2, matsU r ds with
    | some x, some y => some (x, y)
    | _, _ => none
    else none
  | _, _ => none
theorem matQ1_bld (hU : UOk U) {s : Sh1} {d : TQ U} {x : ValQ1 U s} (h : matQ1 s d = some x) : d = bldQ1 s x := by
  unfold matQ1 at h
  split at h
  · rw [as_some h]; rfl
  · rw [bldQ1, ofE_cells hU h]
  · rfl
  · rfl
  · simp at h
theorem matsQ1_blds (hU : UOk U) : ∀ {l : List Sh1} {ds : List (TQ U)} {x : ValsQ1 U l}, matsQ1 l ds = some x → ds = bldsQ1 l x
  | [], [], x, h => rfl
  | [], _ :: _, x, h => by simp [matsQ1] at h
  | _ :: _, [], x, h => by simp [matsQ1] at h
  | s :: r, d :: ds, x, h => by
    simp only [matsQ1] at h
    split at h
    · rename_i a b h1 h2
      simp only [Option.some.injEq] at h; subst h
      rw [bldsQ1, ← matQ1_bld hU h1, ← matsQ1_blds hU h2]
    · simp at h
theorem matA_bld (hU : UOk U) {s : ShA} {d : TArg U} {x : ValA U s} (h : matA s d = some x) : d = bldA s x := by
  unfold matA at h
  split at h
  · rw [as_some h]; rfl
  · rw [bldA, ofE_cells hU h]
  · split at h
    · rename_i he; subst he; simp only [Option.some.injEq] at h; subst h; rfl
    · simp at h
  · split at h
    · rename_i he; subst he
      split at h
      · rename_i hf; subst hf; simp only [Option.some.injEq] at h; subst h; rfl
      · simp at h
    · simp at h
  · rw [bldA, ofE_cells hU h]
  · split at h
    · rename_i he; subst he
      split at h
      · rename_i p q h1 h2
        simp only [Option.some.injEq] at h; subst h
        rw [bldA, matsQ1_blds hU h1, matsQ1_blds hU h2]
      · simp at h
    · simp at h
  · rfl
  · rfl
  · split at h
    · rename_i he; subst he; simp only [Option.some.injEq] at h; subst h; rfl
    · simp at h
  · simp at h
theorem matsA_blds (hU : UOk U) : ∀ {l : List ShA} {ds : List (TArg U)} {x : ValsA U l}, matsA l ds = some x → ds = bldsA l x
  | [], [], x, h => rfl
  | [], _ :: _, x, h => by simp [matsA] at h
  | _ :: _, [], x, h => by simp [matsA] at h
  | s :: r, d :: ds, x, h => by
    simp only [matsA] at h
    split at h
    · rename_i a b h1 h2
      simp only [Option.some.injEq] at h; subst h
      rw [bldsA, ← matA_bld hU h1, ← matsA_blds hU h2]
    · simp at h
theorem matR_bld (hU : UOk U) {s : ShR} {d : TRV U} {x : ValR U s} (h : matR s d = some x) : d = bldR s x := by
  unfold matR at h
  split at h
  · rw [as_some h]; rfl
  · split at h
    · rename_i he; subst he; simp only [Option.some.injEq] at h; subst h; rfl
    · simp at h
  · rw [bldR, ofE_cells hU h]
  · split at h
    · rename_i he; subst he
      split at h
      · rename_i hf; subst hf; simp only [Option.some.injEq] at h; subst h; rfl
      · simp at h
    · simp at h
  · split at h
    · rename_i he; subst he; simp only [Option.some.injEq] at h; subst h; rfl
    · simp at h
  · simp at h
theorem matsR_blds (hU : UOk U) : ∀ {l : List ShR} {ds : List (TRV U)} {x : ValsR U l}, matsR l ds = some x → ds = bldsR l x
  | [], [], x, h => rfl
  | [], _ :: _, x, h => by simp [matsR] at h
  | _ :: _, [], x, h => by simp [matsR] at h
  | s :: r, d :: ds, x, h => by
    simp only [matsR] at h
    split at h
    · rename_i a b h1 h2
      simp only [Option.some.injEq] at h; subst h
      rw [bldsR, ← matR_bld hU h1, ← matsR_blds hU h2]
    · simp at h
theorem matsU_blds (hU : UOk U) : ∀ {l : List (Nat × ShA)} {ds : List (Nat × TArg U)} {x : ValsU U l}, matsU l ds = some x → ds = bldsU l x
  | [], [], x, h => rfl
  | [], _ :: _, x, h => by simp [matsU] at h
  | _ :: _, [], x, h => by simp [matsU] at h
  | s :: r, d :: ds, x, h => by
    simp only [matsU] at h
    split at h
    · rename_i he
      split at h
      · rename_i a b h1 h2
        simp only [Option.some.injEq] at h; subst h
        rw [bldsU, ← matA_bld hU h1, ← matsU_blds hU h2, ← he]
      · simp at h
    · simp at h
structure RSh where
  rs : List ShR
  os : List (Nat × ShA)
abbrev RVal (U : Univ) (S : RSh) : Type := ValsR U S.rs × ValsU U S.os
def RSh.bld (S : RSh) (v : RVal U S) : TRet U := ⟨bldsR S.rs v.1, bldsU S.os v.2⟩
def RSh.mat (S : RSh) (t : TRet U) : Option (RVal U S) := match matsR S.rs t.res, matsU S.os t.outs with
  | some x, some y => some (x, y)
  | _, _ => none
def retOf {ρ : Type} (S : RSh) (g : RVal U S → ρ) (t : TRet U) : Option ρ := match S.mat t with
  | some v => some (g v)
  | none => none
theorem retOf_enc (hU : UOk U) {ρ : Type} {S : RSh} {g : RVal U S → ρ} {give : ρ → TRet U} (hg : ∀ v, give (g v) = S.bld v) {t : TRet U} {r : ρ} (h : retOf S g t = some r) : t.enc = (give r).enc := by
  unfold retOf at h
  split at h
  · rename_i v hv
    simp only [Option.some.injEq] at h; subst h
    unfold RSh.mat at hv
    split at hv
    · rename_i x y hx hy
      simp only [Option.some.injEq] at hv; subst hv
      rw [hg]
      obtain ⟨a, b⟩ := t
      simp only at hx hy
      rw [matsR_blds hU hx, matsU_blds hU hy]
      rfl
    · simp at hv
  · simp at h
def TArg.d (k : Nat) : TArg U → TV U
  | .p q => q.tv
  | .box _ => .ptr (0, k, 0) 0 0
  | .arr _ xs => .full (0, k, 0) xs.length
  | .map _ _ _ => .map (0, k, 0)
  | .part _ _ off len => .sl (0, k, 0) off len
def argDsT : Nat → List (TArg U) → List (Nat × TV U)
  | _, [] => []
  | k, a :: r => (k, a.d k) :: argDsT (k + 1) r
def argOsT : Nat → List (TArg U) → List (Id × TO U)
  | _, [] => []
  | k, a :: r => match a.o with
    | some o => ((0, k, 0), o) :: argOsT (k + 1) r
    | none => argOsT (k + 1) r
def argTS (args : List (TArg U)) : TS U := mkT 1 (argDsT 0 args) (argOsT 0 args)
theorem argDsT_enc : ∀ (k : Nat) (as : List (TArg U)) (x : Nat), (assoc TV.dead (argDsT k as) x).enc = assoc D.dead (argDs k (as.map TArg.enc)) x
  | k, [], x => rfl
  | k, a :: r, x => by
    simp only [argDsT, List.map_cons, argDs, assoc]
    split
    · cases a with
      | p q => exact (tv_enc q).1
      | box cs => rfl
      | arr t xs => simp only [TArg.d, TV.enc, TArg.enc, Arg.d, List.length_map]
      | map a b kv => rfl
      | part t xs off len => rfl
    · exact argDsT_enc (k + 1) r x
theorem argOsT_enc : ∀ (k : Nat) (as : List (TArg U)) (x : Id), oenc (assocO (argOsT k as) x) = assocO (argOs k (as.map TArg.enc)) x
  | k, [], x => rfl
  | k, a :: r, x => by
    simp only [argOsT, List.map_cons, argOs]
    have := argO_enc a
    cases ha : a.o with
    | none => rw [ha] at this; rw [← this]; exact argOsT_enc (k + 1) r x
    | some o =>
      rw [ha] at this; rw [← this]
      simp only [assocO, show oenc (some o) = some o.enc from rfl]
      by_cases hx : x = (0, k, 0)
      · rw [if_pos hx, if_pos hx]; rfl
      · rw [if_neg hx, if_neg hx]; exact argOsT_enc (k + 1) r x
theorem argTS_enc (as : List (TArg U)) : (argTS as).enc = argSt (as.map TArg.enc) := by
  refine st_ext ?_ ?_ rfl rfl
  · funext x; exact argDsT_enc 0 as x
  · funext x; exact argOsT_enc 0 as x
theorem argDsT_mem : ∀ (n : Nat) (l : List (TArg U)) (k : Nat) (d : TV U), (k, d) ∈ argDsT n l → ∃ j x, l[j]? = some x ∧ k = n + j ∧ d = x.d (n + j)
  | n, [], k, d, h => by simp [argDsT] at h
  | n, x :: r, k, d, h => by
    simp only [argDsT, List.mem_cons, Prod.mk.injEq] at h
    rcases h with ⟨rfl, rfl⟩ | h
    · exact ⟨0, x, rfl, by simp, by simp⟩
    · obtain ⟨j, y, h1, h2, h3⟩ := argDsT_mem (n + 1) r k d h
      exact ⟨j + 1, y, by simpa using h1, by omega, by rw [h3]; congr 1; omega⟩
theorem argOsT_get : ∀ (n : Nat) (l : List (TArg U)) (j : Nat) (x : TArg U) (o : TO U), l[j]? = some x → x.o = some o → assocO (argOsT n l) (0, n + j, 0) = some o
  | n, [], j, x, o, h, _ => by simp at h
  | n, y :: r, j, x, o, h, ho => by
    cases j with
    | zero =>
      simp only [List.getElem?_cons_zero, Option.some.injEq] at h; subst h
      simp only [argOsT, ho, assocO, Nat.add_zero, if_true]
    | succ j =>
      have := argOsT_get (n + 1) r j x o (by simpa using h) ho
      rw [show n + 1 + j = n + (j + 1) by omega] at this
      simp only [argOsT]
      split
      · simp only [assocO]
        rw [if_neg (by simp only [Prod.mk.injEq, true_and, and_true]; omega)]
        exact this
      · exact this
theorem argOsT_mem : ∀ (n : Nat) (l : List (TArg U)) (id : Id) (o : TO U), (id, o) ∈ argOsT n l → ∃ x ∈ l, x.o = some o
  | n, [], id, o, h => by simp [argOsT] at h
  | n, x :: r, id, o, h => by
    simp only [argOsT] at h
    split at h
    · rename_i o' ho
      rcases List.mem_cons.1 h with h | h
      · simp only [Prod.mk.injEq] at h; exact ⟨x, by simp, by rw [ho, h.2]⟩
      · obtain ⟨y, h1, h2⟩ := argOsT_mem (n + 1) r id o h; exact ⟨y, by simp [h1], h2⟩
    · obtain ⟨y, h1, h2⟩ := argOsT_mem (n + 1) r id o h; exact ⟨y, by simp [h1], h2⟩
theorem argTS_inv (as : List (TArg U)) : (argTS as).Inv := by
  constructor
  · intro k
    show TV.inv _ (assoc TV.dead (argDsT 0 as) k)
    rcases assoc_mem TV.dead (argDsT 0 as) k with hq | hq
    · rw [hq]; exact inv_nil rfl
    · obtain ⟨j, x, h1, h2, h3⟩ := argDsT_mem 0 as k _ hq
      rw [h3]
      cases x with
      | p q => exact inv_nil (tv_enc q).2
      | box cs => exact inv_nil rfl
      | map a b kv => exact inv_nil rfl
      | part t xs off len => exact inv_nil rfl
      | arr t xs =>
        intro q hq
        simp only [TArg.d, TV.fulls, List.mem_singleton] at hq; subst hq
        exact ⟨.arr t xs false, argOsT_get 0 as j _ _ h1 rfl, fun t' xs' fix' he => by cases he; rfl⟩
  · intro id o ho
    obtain ⟨x, _, hx⟩ := argOsT_mem 0 as id o (assocO_mem ho)
    cases x <;> simp only [TArg.o, Option.some.injEq, reduceCtorEq] at hx <;> subst hx
    · intro d hd; obtain ⟨l, _, rfl⟩ := List.mem_map.1 hd; exact inv_v _ _
    · trivial
    · trivial
    · trivial
theorem fun_of_pt {X0 : TEnv U} {F : FC U} {f : Nat} {args : List (TArg U)} {RT : Ret} (hX : F.X = X0.at F.fn.ntmps) (hf : X0.prog.funcs[f]? = some F.fn) (hn : (F.fn.name == "runtime.NumGoroutine") = false) (hb : F.fn.body = some F.c) (hl : args.length ≤ F.fn.ntmps)
    (h : Pt F RT [.c F.c] (argTS args)) : Fun X0.E f (args.map TArg.enc) RT := by
  refine fun_of_awp (E := X0.E) hf hn hb (by rw [List.length_map]; exact hl) fun W Lt S0 lays => ?_
  have := h W Lt S0 lays
  rw [argTS_enc, hX] at this
  exact this
structure FSig (U : Univ) where
  ρ : Type
  pts : List Nat
  ms : List AM
  hs : List (Option Nat)
  as : List ShA
  s : ValsA U as → Option ρ
  give : ρ → TRet U
def FSig.sig (S : FSig U) : TSig U := ⟨S.pts, S.ms, S.hs, fun args => match matsA S.as args with
  | some v => some ⟨S.ρ, S.s v, S.give⟩
  | none => none⟩
theorem FSig.ok {S : FSig U} (hU : UOk U) {E : Env} {f : Nat} (h : ∀ v r, S.s v = some r → Fun E f ((bldsA S.as v).map TArg.enc) (S.give r).enc ∧ OutsLen (bldsA S.as v) (S.give r)) : SigOk E f S.sig := by
  intro args s hs a ha
  simp only [FSig.sig] at hs
  split at hs
  · rename_i v hv
    simp only [Option.some.injEq] at hs; subst hs
    rw [matsA_blds hU hv]
    exact h v a ha
  · simp at hs
theorem outsLen_nil {args : List (TArg U)} {ret : TRet U} (h : ret.outs.all (fun x => x.2.len?.isNone) = true) : OutsLen args ret := by
  intro k a n hm ha
  have := List.all_eq_true.1 h _ hm
  dsimp only at this
  rw [ha] at this
  simp at this
end
end Eng
namespace Eng
open Go
section
variable {U : Univ}
def ttZ (o : Option (TT U)) : Option (List D × List D × Option P × Option P) := match o with
  | some e => some (TV.encs e.zero, e.ti.zero.map Z.toD, (match e.zl with | some l => some (U.encL l) | none => none), (match e.zl with | some _ => some e.ti.zeroP | none => none))
  | none => none
def ttZ' (o : Option (TT U)) : Option (List D × List D × Option P × Option P) := match o with
  | some e => some (e.ti.zero.map Z.toD, e.ti.zero.map Z.toD, (match e.zl with | some _ => some e.ti.zeroP | none => none), (match e.zl with | some _ => some e.ti.zeroP | none => none))
  | none => none
def TV.plain : TV U → Bool
  | .v _ _ | .nilp | .nilfn | .nils _ => true
  | _ => false
def ttB (U : Univ) (o : Option (TT U)) : Bool := match o with
  | some e => (e.ti.isAgg == e.n.isSome) && (match e.n with | some n => decide (e.ti.size = U.size n) | none => true) && e.zero.all TV.plain
  | none => true
def ttK (X : TEnv U) : Nat → List (Option (TT U)) → List (TD × TD)
  | _, [] => []
  | t, some e :: r => (match e.ty with | .map k _ => (X.E.keyTD t, k.td) | _ => (.other, .other)) :: ttK X (t + 1) r
  | t, none :: r => (.other, .other) :: ttK X (t + 1) r
def ttK' : List (Option (TT U)) → List (TD × TD)
  | [] => []
  | some e :: r => (match e.ty with | .map k _ => (k.td, k.td) | _ => (.other, .other)) :: ttK' r
  | none :: r => (.other, .other) :: ttK' r
theorem ttK_get (X : TEnv U) : ∀ (l : List (Option (TT U))) (t0 : Nat), ttK X t0 l = ttK' l → ∀ t e k v, l[t]? = some (some e) → e.ty = .map k v → X.E.keyTD (t0 + t) = k.td
  | [], t0, _, t, e, k, v, h, _ => by simp at h
  | o :: r, t0, h, t, e, k, v, ht, hty => by
    cases t with
    | zero =>
      simp only [List.getElem?_cons_zero, Option.some.injEq] at ht
      subst ht
      simp only [ttK, ttK', hty, List.cons.injEq, Prod.mk.injEq] at h
      exact h.1.1
    | succ t =>
      have h' : ttK X (t0 + 1) r = ttK' r := by
        cases o <;> simp only [ttK, ttK', List.cons.injEq] at h <;> exact h.2
      have := ttK_get X r (t0 + 1) h' t e k v (by simpa using ht) hty
      rw [show t0 + (t + 1) = t0 + 1 + t by omega]; exact this
theorem tok_of {X : TEnv U} (hz : X.tt.map ttZ = X.tt.map ttZ') (hb : X.tt.all (ttB U) = true) (hk : ttK X 0 X.tt = ttK' X.tt) : TOk X := by
  have get : ∀ {t e}, X.get t = some e → X.tt[t]? = some (some e) := fun {t e} h => by
    unfold TEnv.get at h
    split at h
    · rename_i e' he; simp only [Option.some.injEq] at h; subst h; exact he
    · simp at h
  have zz : ∀ {t e}, X.get t = some e → ttZ (some e) = ttZ' (some e) := fun {t e} h => by
    have h1 := congrArg (·[t]?) hz
    simpa [List.getElem?_map, get h] using h1
  have bb : ∀ {t e}, X.get t = some e → ttB U (some e) = true := fun {t e} h => List.all_eq_true.1 hb _ (List.mem_of_getElem? (get h))
  refine ⟨fun t e h => ?_, fun t e l h hl => ?_, fun t e h => ?_, fun t e n h hn => ?_, fun t e k v h hty => ?_, fun t e h d hd => ?_⟩
  · have := zz h
    simp only [ttZ, ttZ', Option.some.injEq, Prod.mk.injEq] at this
    exact this.1
  · have := zz h
    simp only [ttZ, ttZ', Option.some.injEq, Prod.mk.injEq, hl] at this
    exact this.2.2.1
  · have := bb h
    simp only [ttB, Bool.and_eq_true, beq_iff_eq] at this
    exact this.1.1
  · have := bb h
    simp only [ttB, Bool.and_eq_true, hn, decide_eq_true_eq] at this
    exact this.1.2
  · have := ttK_get X X.tt 0 hk t e k v (get h) hty
    rw [Nat.zero_add] at this
    exact this
  · have := bb h
    simp only [ttB, Bool.and_eq_true, List.all_eq_true] at this
    have := this.2 d hd
    unfold TV.plain at this
    split at this <;> first | rfl | simp at this
theorem TOk.at {X : TEnv U} (h : TOk X) (n : Nat) : TOk (X.at n) := ⟨h.zero, h.zl, h.agg, h.size, h.key, h.inv⟩
theorem EnvOk.at {X : TEnv U} (h : EnvOk X.E) (n : Nat) : EnvOk (X.at n).E := ⟨h.tys⟩
theorem SigOk.at {X : TEnv U} {g : Nat} {sg : TSig U} (h : SigOk X.E g sg) (n : Nat) : SigOk (X.at n).E g sg := h
def AllSigs (X : TEnv U) : List (Nat × TSig U) → Prop
  | [] => True
  | x :: r => SigOk X.E x.1 x.2 ∧ AllSigs X r
theorem allSigs_mem {X : TEnv U} : ∀ {l : List (Nat × TSig U)}, AllSigs X l → ∀ x ∈ l, SigOk X.E x.1 x.2
  | [], _, x, h => by simp at h
  | y :: r, ha, x, h => by
    rcases List.mem_cons.1 h with rfl | h
    · exact ha.1
    · exact allSigs_mem ha.2 x h
theorem fok {X0 : TEnv U} {F : FC U} (hU : UOk U) (hX : TOk X0) (hE : EnvOk X0.E) (hm : X0.prog.follows .mixedOrders = true) (hF : F.X = X0.at F.fn.ntmps) (hs : AllSigs X0 F.sigs) : FOk F := by
  refine ⟨hU, ?_, ?_, ?_, ?_⟩
  · rw [hF]; exact hX.at _
  · rw [hF]; exact hE.at _
  · rw [hF]; exact hm
  · intro x hx; rw [hF]; exact (allSigs_mem hs x hx).at _
def codeAt (F : FC U) (p : List Nat) : Code := match atP (F.c, []) p with | some x => x.1 | none => .skip
def tc (F : FC U) (p : List Nat) : TI' := .c p (codeAt F p)
def tc0 (F : FC U) : TI' := .c [] F.c
theorem retOut {ρ β : Type} {S : RSh} {g : RVal U S → ρ} {t : TRet U} {x : Out β ρ} (h : retOf S (fun v => Out.ret (β := β) (g v)) t = some x) : ∃ q, x = .ret q ∧ retOf S g t = some q := by
  unfold retOf at h ⊢
  split at h
  · rename_i v hv
    simp only [Option.some.injEq] at h
    exact ⟨g v, h.symm, rfl⟩
  · simp at h
end
theorem as_car {car : Nat → Type} {l : Lf car} {t : Ty} {x : El car t} (h : l.as t = some x) : l = ⟨t, x⟩ := by
  unfold Lf.as at h
  split at h
  · rename_i he
    obtain ⟨t', y⟩ := l
    dsimp only at he
    subst he
    simp only [Option.some.injEq] at h
    subst h; rfl
  · simp at h
theorem allM_as {car : Nat → Type} {t : Ty} : ∀ {cs : List (Lf car)} {l : List (El car t)}, allM (fun c => c.as t) cs = some l → cs = l.map fun y => ⟨t, y⟩
  | [], l, h => by simp only [allM, Option.some.injEq] at h; subst h; rfl
  | c :: cs, l, h => by
    simp only [allM] at h
    split at h
    · rename_i y ys h1 h2
      simp only [Option.some.injEq] at h; subst h
      rw [List.map_cons, ← allM_as h2, as_car h1]
    · simp at h
def andK (k : IntKind) (x y : Int) : Int := k.wrap (BitVec.ofInt k.bits x &&& BitVec.ofInt k.bits y).toNat
def orK (k : IntKind) (x y : Int) : Int := k.wrap (BitVec.ofInt k.bits x ||| BitVec.ofInt k.bits y).toNat
def xorK (k : IntKind) (x y : Int) : Int := k.wrap (BitVec.ofInt k.bits x ^^^ BitVec.ofInt k.bits y).toNat
def andNotK (k : IntKind) (x y : Int) : Int := k.wrap (BitVec.ofInt k.bits x &&& ~~~BitVec.ofInt k.bits y).toNat
def shlK (k : IntKind) (x y : Int) : Int := k.wrap (x * 2 ^ (min y.toNat k.bits))
def shrK (k : IntKind) (x y : Int) : Int := x.fdiv (2 ^ (min y.toNat k.bits))
def mkOk (a b : Int) (n : Nat) : Bool := decide (0 ≤ a ∧ a ≤ b ∧ b * n ≤ roomB ∧ b ≤ roomB)
def inR (n m : Int) : Bool := decide (0 ≤ n ∧ n < m)
end Eng
namespace Eng
open Go Go.RowKit
theorem Kept.of_below {w w' : World} (h : Below w.heap.size w w') : Kept w w' := ⟨⟨h.os, h.output⟩, h.size, fun b hb => h.block b hb⟩
theorem Kept.rfl' (w : World) : Kept w w := ⟨.refl _, Nat.le_refl _, fun _ _ => rfl⟩
theorem argDs_slot : ∀ (n : Nat) (xs : List P) (k : Nat) (x : P), xs[k]? = some x → assoc D.dead (argDs n (xs.map Arg.p)) (n + k) = .p x
  | n, [], k, x, h => by simp at h
  | n, y :: r, 0, x, h => by
    simp only [List.getElem?_cons_zero, Option.some.injEq] at h
    subst h
    simp [argDs, assoc, Arg.d]
  | n, y :: r, k + 1, x, h => by
    simp only [List.getElem?_cons_succ] at h
    have := argDs_slot (n + 1) r k x h
    rw [Nat.add_right_comm, Nat.add_assoc] at this
    simp only [List.map_cons, argDs, assoc]
    rw [if_neg (by omega)]
    exact this
theorem argSlots {xs : List P} {k : Nat} {x : P} (h : xs[k]? = some x) : (argSt (xs.map Arg.p)).slots k = .p x := by
  have := argDs_slot 0 xs k x h
  rwa [Nat.zero_add] at this
theorem fun_of_calls {E : Env} {f : Nat} {xs : List P} {y : P} (hf : ∃ fn, E.prog.funcs[f]? = some fn ∧ (fn.name == "runtime.NumGoroutine") = false ∧ fn.body.isNone = false)
    (h : ∀ (w : World) (S : Nat → Prop) (vals : Array Value), vals.size = xs.length → (∀ (k : Nat) v x, vals[k]? = some v → xs[k]? = some x → RelP w S v x) →
      (∀ g cs, (g, cs) ∈ E.globs → GlobOk w S g cs) →
      CallsIn (fence none) 0 E.prog f vals w fun e w' => ∃ v, e = .returned v ∧ Kept w w' ∧ RelP w' S v y) : Fun E f (xs.map .p) ⟨[.p y], []⟩ := by
  refine ⟨hf, fun w Lt S lays ρ vals hv hrep => ?_⟩
  rw [List.length_map] at hv
  refine CallsIn.mono (h w S vals hv ?_ hrep.glob) ?_
  · intro k v x hk hx
    have h1 := hrep.slots k
    have e1 : (argSt (xs.map Arg.p)).slots k = .p x := argSlots hx
    rw [e1] at h1
    have hlt := (Array.getElem?_eq_some_iff.1 hk).1
    rw [show vals.getD k undef = v by simp [hk]] at h1
    exact h1.of_p
  · rintro e w' ⟨v, rfl, hk, hr⟩
    have hK : Keep S w w' := fun b _ hb => hk.2.2 b hb
    refine ⟨#[v], fun _ => none, S, rfl, rfl, ?_⟩
    have ho : ∀ id, (retSt ⟨[.p y], []⟩).objs id = none := fun id => rfl
    exact {
      nt := rfl
      grow := hk.2.1
      frame := fun b hb _ => hk.2.2 b hb
      s0 := fun _ h => h
      sIn := fun b hb => Nat.lt_of_lt_of_le (hrep.sIn b hb) hk.2.1
      slots := fun k => by
        cases k with
        | zero => exact .p _ _ hr
        | succ k => exact .dead _
      objs := fun id o h => by rw [ho id] at h; cases h
      own := fun id o L b h => by rw [ho id] at h; cases h
      inj := fun id o L id' o' L' b h => by rw [ho id] at h; cases h
      known := fun id h => absurd (ho id) h
      young := fun id h => absurd rfl h
      fzk := fun id h => by cases h
      glob := fun g cs hg => (hrep.glob g cs hg).mono hK fun _ h => h
      sOut := fun b h => .inl h
      ep1 := by show 1 ≤ 2; omega
      quiet := hk.1
      lay := fun k L h1 h2 => absurd rfl h2 }
def outsLenB {U : Univ} (args : List (TArg U)) (ret : TRet U) : Bool := ret.outs.all fun x => match x.2.len? with
  | some n => (match args[x.1]? with
    | some a => (match a.len? with
      | some m => decide (n = m)
      | none => false)
    | none => false)
  | none => true
theorem outsLen_of {U : Univ} {args : List (TArg U)} {ret : TRet U} (h : outsLenB args ret = true) : OutsLen args ret := by
  intro k a n hm ha
  have := List.all_eq_true.1 h _ hm
  dsimp only at this
  rw [ha] at this
  dsimp only at this
  split at this
  · rename_i a' he
    split at this
    · rename_i m hm'
      exact ⟨a', he, by rw [hm', of_decide_eq_true this]⟩
    · simp at this
  · simp at this
theorem chkLen {α : Type} {o : Option α} {p : α → Bool} {r : α} (h : (o.bind fun r => chk (p r) (some r)) = some r) : o = some r ∧ p r = true := by
  cases o with
  | none => simp at h
  | some x =>
    simp only [Option.bind_some] at h
    unfold chk at h
    cases hp : p x with
    | false => rw [hp] at h; simp at h
    | true => rw [hp] at h; simp only [cond_true, Option.some.injEq] at h; subst h; exact ⟨rfl, hp⟩
section
variable {U : Univ}
theorem Pt.ev0 {F : FC U} (hF : FOk F) {ρ : Type} {r : ρ} {S : RSh} {g : RVal U S → ρ} {b : ρ → TRet U} {cuts : List (List Nat × Lp U ρ)} {pre : List TI'} {T : TS U} {k : List Item}
    (hk : k = pre.map TI'.conc ++ []) (hT : T.Inv) (h : Eng.evl (F.par cuts none [] (retOf S g)) 4000 none pre T = some r) (hw : Wf (F.c, []) [] pre) (hc : AllCuts F (b r).enc r cuts) (hg : ∀ v, b (g v) = S.bld v) : Pt F (b r).enc k T :=
  Pt.evlAt hF 4000 hk hT h hw hc (fun _ hL => nomatch hL) (fun _ => rfl) trivial (fun _ ht => retOf_enc hF.hU hg ht)
theorem FSig.ok0 {X0 : TEnv U} {F : FC U} (hF : FOk F) {S : FSig U} {f : Nat} {R : RSh} {g : RVal U R → S.ρ} {cuts : List (List Nat × Lp U S.ρ)} {pre : List TI'} (hX : F.X = X0.at F.fn.ntmps) (hf : X0.prog.funcs[f]? = some F.fn) (hn : (F.fn.name == "runtime.NumGoroutine") = false) (hb : F.fn.body = some F.c)
    (hl : ∀ v : ValsA U S.as, (bldsA S.as v).length ≤ F.fn.ntmps) (hg : ∀ v, S.give (g v) = R.bld v) (hk : [.c F.c] = pre.map TI'.conc ++ []) (h : ∀ v r, S.s v = some r → Eng.evl (F.par cuts none [] (retOf R g)) 4000 none pre (argTS (bldsA S.as v)) = some r)
    (hw : Wf (F.c, []) [] pre) (hc : ∀ r, AllCuts F (S.give r).enc r cuts) (ho : ∀ r, (S.give r).outs.all (fun x => x.2.len?.isNone) = true) : SigOk X0.E f S.sig :=
  FSig.ok hF.hU fun v r hr => ⟨fun_of_pt hX hf hn hb (hl v) (Pt.ev0 hF (b := S.give) hk (argTS_inv _) (h v r hr) hw (hc r) hg), outsLen_nil (ho r)⟩
end
end Eng
namespace Eng
open Go
abbrev HL : List Type → Type
  | [] => Unit
  | a :: r => a × HL r
abbrev HT : List Type → Type
  | [] => Unit
  | [a] => a
  | a :: b :: r => a × HT (b :: r)
abbrev CurL : List Type → Type → Type
  | [], X => X
  | a :: r, X => a → CurL r X
abbrev app {X : Type} : (ts : List Type) → CurL ts X → HL ts → X
  | [], f, _ => f
  | _ :: r, f, v => app r (f v.1) v.2
abbrev toHT : (ts : List Type) → HL ts → HT ts
  | [], _ => ()
  | [_], v => v.1
  | _ :: b :: r, v => (v.1, toHT (b :: r) v.2)
abbrev ofHT : (ts : List Type) → HT ts → HL ts
  | [], _ => ()
  | [_], x => (x, ())
  | _ :: b :: r, x => (x.1, ofHT (b :: r) x.2)
theorem ofHT_toHT : ∀ (ts : List Type) (v : HL ts), ofHT ts (toHT ts v) = v
  | [], _ => rfl
  | [_], _ => rfl
  | _ :: b :: r, v => by
    show (v.1, ofHT (b :: r) (toHT (b :: r) v.2)) = v
    rw [ofHT_toHT (b :: r) v.2]
abbrev unT {X : Type} (ts : List Type) (f : CurL ts X) (x : HT ts) : X := app ts f (ofHT ts x)
section
variable (U : Univ)
abbrev lv1 : Sh1 → List Type → List Type
  | .v t, r => El U.car t :: r
  | .pp t, r => El U.car t :: r
  | .full _, r => r
  | .sl _, r => Nat :: Nat :: r
  | .ptr _ _ _, r => r
  | .ptrI _ _, r => Nat :: r
  | .map _, r => r
  | .it _, r => r
  | .nilp, r => r
  | .nilfn, r => r
  | .undef, r => r
  | .nils _, r => r
  | .clip t, r => List (El U.car t) :: r
abbrev lvs1 : List Sh1 → List Type → List Type
  | [], r => r
  | s :: l, r => lv1 U s (lvs1 l r)
abbrev lvS : Sh → List Type → List Type
  | .o s, r => lv1 U s r
  | .agg l, r => lvs1 U l r
  | .fn _ a b, r => lvs1 U a (lvs1 U b r)
abbrev lvs : List Sh → List Type → List Type
  | [], r => r
  | s :: l, r => lvS U s (lvs l r)
abbrev lvO : ShO → List Type → List Type
  | .box l, r => lvs U l r
  | .boxS t, r => El U.car t :: r
  | .arr t _, r => List (El U.car t) :: r
  | .map k v, r => List (El U.car k × El U.car v) :: r
  | .sit, r => List UInt8 :: Nat :: r
  | .mit k v, r => List (El U.car k × El U.car v) :: Option (El U.car k × El U.car v) :: r
abbrev lvsO : List ShO → List Type → List Type
  | [], r => r
  | s :: l, r => lvO U s (lvsO l r)
abbrev lvQ : List Sh → List ShO → List Type := fun shs sho => lvs U shs (lvsO U sho [])
abbrev lq1 : Sh1 → List Type → List Type
  | .v t, r => El U.car t :: r
  | .pp t, r => El U.car t :: r
  | .full _, r => r
  | .sl _, r => r
  | .ptr _ _ _, r => r
  | .ptrI _ _, r => r
  | .map _, r => r
  | .it _, r => r
  | .nilp, r => r
  | .nilfn, r => r
  | .undef, r => r
  | .nils _, r => r
  | .clip _, r => r
abbrev lqs1 : List Sh1 → List Type → List Type
  | [], r => r
  | s :: l, r => lq1 U s (lqs1 l r)
abbrev lvA : ShA → List Type → List Type
  | .p t, r => El U.car t :: r
  | .box t, r => El U.car t :: r
  | .arr t, r => List (El U.car t) :: r
  | .map k v, r => List (El U.car k × El U.car v) :: r
  | .ptr t, r => El U.car t :: r
  | .fn _ a b, r => lqs1 U a (lqs1 U b r)
  | .nilp, r => r
  | .nilfn, r => r
  | .part t, r => List (El U.car t) :: Nat :: Nat :: r
abbrev lvsA : List ShA → List Type → List Type
  | [], r => r
  | s :: l, r => lvA U s (lvsA l r)
abbrev lvR : ShR → List Type → List Type
  | .p t, r => El U.car t :: r
  | .own t, r => List (El U.car t) :: r
  | .box t, r => El U.car t :: r
  | .map k v, r => List (El U.car k × El U.car v) :: r
  | .view _, r => Nat :: Nat :: r
abbrev lvsR : List ShR → List Type → List Type
  | [], r => r
  | s :: l, r => lvR U s (lvsR l r)
abbrev lvsU : List (Nat × ShA) → List Type → List Type
  | [], r => r
  | s :: l, r => lvA U s.2 (lvsU l r)
end
section
variable {U : Univ} {r : List Type}
abbrev fl1 : (s : Sh1) → Val1 U s → HL r → HL (lv1 U s r)
  | .v _, x, y => (x, y)
  | .pp _, x, y => (x, y)
  | .full _, _, y => y
  | .sl _, x, y => (x.1, x.2, y)
  | .ptr _ _ _, _, y => y
  | .ptrI _ _, x, y => (x, y)
  | .map _, _, y => y
  | .it _, _, y => y
  | .nilp, _, y => y
  | .nilfn, _, y => y
  | .undef, _, y => y
  | .nils _, _, y => y
  | .clip _, x, y => (x, y)
abbrev fls1 : (l : List Sh1) → Vals1 U l → HL r → HL (lvs1 U l r)
  | [], _, y => y
  | s :: l, x, y => fl1 s x.1 (fls1 l x.2 y)
abbrev flS : (s : Sh) → Val U s → HL r → HL (lvS U s r)
  | .o s, x, y => fl1 s x y
  | .agg l, x, y => fls1 l x y
  | .fn _ a b, x, y => fls1 a x.1 (fls1 b x.2 y)
abbrev fls : (l : List Sh) → Vals U l → HL r → HL (lvs U l r)
  | [], _, y => y
  | s :: l, x, y => flS s x.1 (fls l x.2 y)
abbrev flO : (s : ShO) → ValO U s → HL r → HL (lvO U s r)
  | .box l, x, y => fls l x y
  | .boxS _, x, y => (x, y)
  | .arr _ _, x, y => (x, y)
  | .map _ _, x, y => (x, y)
  | .sit, x, y => (x.1, x.2, y)
  | .mit _ _, x, y => (x.1, x.2, y)
abbrev flsO : (l : List ShO) → ValsO U l → HL r → HL (lvsO U l r)
  | [], _, y => y
  | s :: l, x, y => flO s x.1 (flsO l x.2 y)
abbrev flQ (shs : List Sh) (sho : List ShO) (v : Vals U shs) (w : ValsO U sho) : HL (lvQ U shs sho) := fls shs v (flsO (r := []) sho w ())
abbrev unc {X : Type} (shs : List Sh) (sho : List ShO) (f : CurL (lvQ U shs sho) X) (v : Vals U shs) (w : ValsO U sho) : X := app (lvQ U shs sho) f (flQ shs sho v w)
def fq1 : (s : Sh1) → ValQ1 U s → HL r → HL (lq1 U s r)
  | .v _, x, y => (x, y)
  | .pp _, x, y => (x, y)
  | .full _, _, y => y
  | .sl _, _, y => y
  | .ptr _ _ _, _, y => y
  | .ptrI _ _, _, y => y
  | .map _, _, y => y
  | .it _, _, y => y
  | .nilp, _, y => y
  | .nilfn, _, y => y
  | .undef, _, y => y
  | .nils _, _, y => y
  | .clip _, _, y => y
def fqs1 : (l : List Sh1) → ValsQ1 U l → HL r → HL (lqs1 U l r)
  | [], _, y => y
  | s :: l, x, y => fq1 s x.1 (fqs1 l x.2 y)
abbrev flA : (s : ShA) → ValA U s → HL r → HL (lvA U s r)
  | .p _, x, y => (x, y)
  | .box _, x, y => (x, y)
  | .arr _, x, y => (x, y)
  | .map _ _, x, y => (x, y)
  | .ptr _, x, y => (x, y)
  | .fn _ a b, x, y => fqs1 a x.1 (fqs1 b x.2 y)
  | .nilp, _, y => y
  | .nilfn, _, y => y
  | .part _, x, y => (x.1, x.2.1, x.2.2, y)
abbrev flsA : (l : List ShA) → ValsA U l → HL r → HL (lvsA U l r)
  | [], _, y => y
  | s :: l, x, y => flA s x.1 (flsA l x.2 y)
abbrev flR : (s : ShR) → ValR U s → HL r → HL (lvR U s r)
  | .p _, x, y => (x, y)
  | .own _, x, y => (x, y)
  | .box _, x, y => (x, y)
  | .map _ _, x, y => (x, y)
  | .view _, x, y => (x.1, x.2, y)
abbrev flsR : (l : List ShR) → ValsR U l → HL r → HL (lvsR U l r)
  | [], _, y => y
  | s :: l, x, y => flR s x.1 (flsR l x.2 y)
abbrev flsU : (l : List (Nat × ShA)) → ValsU U l → HL r → HL (lvsU U l r)
  | [], _, y => y
  | s :: l, x, y => flA s.2 x.1 (flsU l x.2 y)
def uq1 : (s : Sh1) → HL (lq1 U s r) → ValQ1 U s × HL r
  | .v _, y => y
  | .pp _, y => y
  | .full _, y => ((), y)
  | .sl _, y => ((), y)
  | .ptr _ _ _, y => ((), y)
  | .ptrI _ _, y => ((), y)
  | .map _, y => ((), y)
  | .it _, y => ((), y)
  | .nilp, y => ((), y)
  | .nilfn, y => ((), y)
  | .undef, y => ((), y)
  | .nils _, y => ((), y)
  | .clip _, y => ((), y)
def uqs1 : (l : List Sh1) → HL (lqs1 U l r) → ValsQ1 U l × HL r
  | [], y => ((), y)
  | s :: l, y => (((uq1 (r := lqs1 U l r) s y).1, (uqs1 l (uq1 (r := lqs1 U l r) s y).2).1), (uqs1 l (uq1 (r := lqs1 U l r) s y).2).2)
def uA : (s : ShA) → HL (lvA U s r) → ValA U s × HL r
  | .p _, y => y
  | .box _, y => y
  | .arr _, y => y
  | .map _ _, y => y
  | .ptr _, y => y
  | .fn _ a b, y => (((uqs1 (r := lqs1 U b r) a y).1, (uqs1 b (uqs1 (r := lqs1 U b r) a y).2).1), (uqs1 b (uqs1 (r := lqs1 U b r) a y).2).2)
  | .nilp, y => ((), y)
  | .nilfn, y => ((), y)
  | .part _, y => ((y.1, y.2.1, y.2.2.1), y.2.2.2)
def uR : (s : ShR) → HL (lvR U s r) → ValR U s × HL r
  | .p _, y => y
  | .own _, y => y
  | .box _, y => y
  | .map _ _, y => y
  | .view _, y => ((y.1, y.2.1), y.2.2)
def usR : (l : List ShR) → HL (lvsR U l r) → ValsR U l × HL r
  | [], y => ((), y)
  | s :: l, y => (((uR (r := lvsR U l r) s y).1, (usR l (uR (r := lvsR U l r) s y).2).1), (usR l (uR (r := lvsR U l r) s y).2).2)
def usU : (l : List (Nat × ShA)) → HL (lvsU U l r) → ValsU U l × HL r
  | [], y => ((), y)
  | s :: l, y => (((uA (r := lvsU U l r) s.2 y).1, (usU l (uA (r := lvsU U l r) s.2 y).2).1), (usU l (uA (r := lvsU U l r) s.2 y).2).2)
theorem uq1_fq1 (s : Sh1) (x : ValQ1 U s) (y : HL r) : uq1 s (fq1 s x y) = (x, y) := by cases s <;> rfl
theorem uqs1_fqs1 : ∀ (l : List Sh1) (x : ValsQ1 U l) (y : HL r), uqs1 l (fqs1 l x y) = (x, y)
  | [], _, _ => rfl
  | s :: l, x, y => by simp only [fqs1, uqs1, uq1_fq1, uqs1_fqs1 l]
theorem uA_flA (s : ShA) (x : ValA U s) (y : HL r) : uA s (flA s x y) = (x, y) := by
  cases s with
  | fn f a b => simp only [flA, uA, uqs1_fqs1]
  | _ => rfl
theorem uR_flR (s : ShR) (x : ValR U s) (y : HL r) : uR s (flR s x y) = (x, y) := by cases s <;> rfl
theorem usR_flsR : ∀ (l : List ShR) (x : ValsR U l) (y : HL r), usR l (flsR l x y) = (x, y)
  | [], _, _ => rfl
  | s :: l, x, y => by simp only [flsR, usR, uR_flR, usR_flsR l]
theorem usU_flsU : ∀ (l : List (Nat × ShA)) (x : ValsU U l) (y : HL r), usU l (flsU l x y) = (x, y)
  | [], _, _ => rfl
  | s :: l, x, y => by simp only [flsU, usU, uA_flA, usU_flsU l]
end
def pthF : Nat → Nat → List Nat → List Nat
  | 0, _, acc => acc
  | k + 1, n, acc => bif Nat.beq n 9 then acc else pthF k (n / 10) (n % 10 :: acc)
def pth (n : Nat) : List Nat := pthF 1000 n []
section
variable {U : Univ}
def blkId : Code → Nat
  | .block id _ => id
  | _ => 0
def isLoop : Code → Bool
  | .loop _ => true
  | _ => false
abbrev kOf (F : FC U) (pb : List Nat) : List Nat → List TI'
  | [] => []
  | d :: q => bif (d :: q) == pb then [] else match d with
    | 0 => tc F (1 :: q) :: kOf F pb q
    | 4 => .blk (blkId (codeAt F q)) :: kOf F pb q
    | _ => kOf F pb q
def inP (pb : List Nat) : List Nat → Bool
  | [] => pb.isEmpty
  | d :: q => bif (d :: q) == pb then true else (d != 5) && inP pb q
def chkP (F : FC U) (pb p : List Nat) : Bool := (atP (F.c, []) p).isSome && inP pb p
def chkLp (F : FC U) (pb q : List Nat) : Bool := isLoop (codeAt F q) && inP pb q
abbrev xpre (F : FC U) (pb q : List Nat) (xid : Nat) : List TI' := (exitT xid (kOf F pb q)).getD []
def chkX (F : FC U) (pb q : List Nat) (xid : Nat) : Bool := (exitT xid (kOf F pb q)).isSome
theorem codeAt_eq {F : FC U} {p : List Nat} {c : Code} {k : List Item} (h : atP (F.c, []) p = some (c, k)) : codeAt F p = c := by unfold codeAt; rw [h]
theorem kOf_ok (F : FC U) {pb : List Nat} {cb : Code} {base : List Item} (hb : atP (F.c, []) pb = some (cb, base)) : ∀ (p : List Nat), inP pb p = true → ∀ c k, atP (F.c, []) p = some (c, k) →
    k = (kOf F pb p).map TI'.conc ++ base ∧ Wf (F.c, []) base (kOf F pb p)
  | [], h, c, k, hp => by
    simp only [inP, List.isEmpty_iff] at h; subst h
    rw [hb] at hp; cases hp; exact ⟨rfl, trivial⟩
  | d :: q, h, c, k, hp => by
    unfold inP at h
    unfold kOf
    cases he : ((d :: q) == pb) with
    | true =>
      have := eq_of_beq he; subst this
      rw [hb] at hp; cases hp
      exact ⟨rfl, trivial⟩
    | false =>
      rw [he] at h
      simp only [cond_false, Bool.and_eq_true, bne_iff_ne, ne_eq] at h ⊢
      obtain ⟨hd, hq⟩ := h
      have hp0 := hp
      unfold atP at hp
      split at hp
      · rename_i c' k' hq'
        obtain ⟨i1, i2⟩ := kOf_ok F hb q hq c' k' hq'
        split at hp
        · simp only [Option.some.injEq, Prod.mk.injEq] at hp
          obtain ⟨rfl, rfl⟩ := hp
          rename_i a b
          have h1 : atP (F.c, []) (1 :: q) = some (b, k') := by simp only [atP, hq']
          simp only [List.map_cons, List.cons_append, tc, TI'.conc, codeAt_eq h1]
          refine ⟨by rw [← i1], ?_, i2⟩
          rw [h1, i1]
        · simp only [Option.some.injEq, Prod.mk.injEq] at hp
          obtain ⟨rfl, rfl⟩ := hp
          exact ⟨i1, i2⟩
        · simp only [Option.some.injEq, Prod.mk.injEq] at hp
          obtain ⟨rfl, rfl⟩ := hp
          exact ⟨i1, i2⟩
        · simp only [Option.some.injEq, Prod.mk.injEq] at hp
          obtain ⟨rfl, rfl⟩ := hp
          exact ⟨i1, i2⟩
        · simp only [Option.some.injEq, Prod.mk.injEq] at hp
          obtain ⟨rfl, rfl⟩ := hp
          simp only [List.map_cons, List.cons_append, TI'.conc, codeAt_eq hq', blkId]
          exact ⟨by rw [← i1], i2⟩
        · exact absurd rfl hd
        · simp at hp
      · simp at hp
inductive CT (U : Univ) (ρ : Type) : Type → Type 1
  | nil {R : Type} : CT U ρ R
  | j {R : Type} (p : Nat) (live frz : List Nat) (shs : List Sh) (sho : List ShO) (f : CurL (lvQ U shs sho) (Option R)) (k : CT U ρ R) : CT U ρ R
  | lo {R : Type} (q : Nat) (live frz : List Nat) (shs : List Sh) (sho : List ShO) (xid : Nat) (xlive xfrz : List Nat) (xshs : List Sh) (xsho : List ShO)
      (hd : Nat → CurL (lvQ U shs sho) (Option (HT (lvQ U xshs xsho)))) (af : CurL (lvQ U xshs xsho) (Option R)) (body : Nat → CT U ρ (HT (lvQ U xshs xsho))) (k : CT U ρ R) : CT U ρ R
  | lr {R : Type} (q : Nat) (live frz : List Nat) (shs : List Sh) (sho : List ShO) (xid : Nat) (xlive xfrz : List Nat) (xshs : List Sh) (xsho : List ShO)
      (hd : Nat → CurL (lvQ U shs sho) (Option (Out (HT (lvQ U xshs xsho)) ρ))) (af : CurL (lvQ U xshs xsho) (Option R)) (body : Nat → CT U ρ (Out (HT (lvQ U xshs xsho)) ρ)) (k : CT U ρ R) : CT U ρ R
  | lz {R : Type} (q : Nat) (live frz : List Nat) (shs : List Sh) (sho : List ShO)
      (hd : Nat → CurL (lvQ U shs sho) (Option (Out Unit ρ))) (body : Nat → CT U ρ (Out Unit ρ)) (k : CT U ρ R) : CT U ρ R
structure CC (U : Univ) (R : Type) where
  pb : List Nat
  back : Option (Lp U R)
  exits : List (Nat × Lp U R)
  ret : TRet U → Option R
variable {ρ : Type}
abbrev outB {β R : Type} (em : ρ → Option R) (af : β → Option R) : Out β ρ → Option R
  | .ret q => em q
  | .brk b => af b
abbrev CT.cuts : {R : Type} → CT U ρ R → (ρ → Option R) → List (List Nat × Lp U R)
  | _, .nil, _ => []
  | _, .j p live frz shs sho f k, em => (pth p, ⟨live, frz, shs, sho, unc shs sho f⟩) :: k.cuts em
  | _, .lo q live frz shs sho _ _ _ xshs xsho hd af _ k, em => (pth q, ⟨live, frz, shs, sho, fun v w => (unc shs sho (hd big) v w).bind (unT (lvQ U xshs xsho) af)⟩) :: k.cuts em
  | _, .lr q live frz shs sho _ _ _ xshs xsho hd af _ k, em => (pth q, ⟨live, frz, shs, sho, fun v w => (unc shs sho (hd big) v w).bind (outB em (unT (lvQ U xshs xsho) af))⟩) :: k.cuts em
  | _, .lz q live frz shs sho hd _ k, em => (pth q, ⟨live, frz, shs, sho, fun v w => (unc shs sho (hd big) v w).bind (outB em fun _ => none)⟩) :: k.cuts em
abbrev CT.Ty : {R : Type} → CT U ρ R → Type
  | _, .nil => Unit
  | R, .j _ _ _ shs sho _ k => Bool × (Vals U shs → ValsO U sho → Option R) × k.Ty
  | R, .lo _ _ _ shs sho _ _ _ xshs xsho _ _ body k => Bool × (Vals U shs → ValsO U sho → Option (HT (lvQ U xshs xsho))) × (Nat → Vals U shs → ValsO U sho → Option (HT (lvQ U xshs xsho))) × ((n : Nat) → (body n).Ty) × (Vals U xshs → ValsO U xsho → Option R) × k.Ty
  | R, .lr _ _ _ shs sho _ _ _ xshs xsho _ _ body k => Bool × (Vals U shs → ValsO U sho → Option (Out (HT (lvQ U xshs xsho)) ρ)) × (Nat → Vals U shs → ValsO U sho → Option (Out (HT (lvQ U xshs xsho)) ρ)) × ((n : Nat) → (body n).Ty) × (Vals U xshs → ValsO U xsho → Option R) × k.Ty
  | _, .lz _ _ _ shs sho _ body k => Bool × (Vals U shs → ValsO U sho → Option (Out Unit ρ)) × (Nat → Vals U shs → ValsO U sho → Option (Out Unit ρ)) × ((n : Nat) → (body n).Ty) × k.Ty
abbrev stC (F : FC U) (live : List Nat) (shs : List Sh) (sho : List ShO) (v : Vals U shs) (w : ValsO U sho) : TS U := mkC F.lent live (blds shs v) (bldsO sho w)
abbrev inner (ret0 : TRet U → Option ρ) {X : Type} (em : ρ → Option X) (q : List Nat) (L : Lp U X) (ex : List (Nat × Lp U X)) : CC U X := ⟨5 :: q, some L, ex, fun t => (ret0 t).bind em⟩
abbrev lx (xlive xfrz : List Nat) (xshs : List Sh) (xsho : List ShO) {X : Type} (m : HT (lvQ U xshs xsho) → X) : Lp U X := ⟨xlive, xfrz, xshs, xsho, fun v w => some (m (toHT (lvQ U xshs xsho) (flQ xshs xsho v w)))⟩
noncomputable abbrev evp (F : FC U) {R : Type} (C : CC U R) (cuts : List (List Nat × Lp U R)) (pre : List TI') (T : TS U) : Option R := evl (F.par cuts C.back C.exits C.ret) 4000 none pre T
noncomputable abbrev CT.lhs (F : FC U) (ret0 : TRet U → Option ρ) : {R : Type} → (t : CT U ρ R) → CC U R → (ρ → Option R) → t.Ty
  | _, .nil, _, _ => ()
  | _, .j p live _ shs sho _ k, C, em => (chkP F C.pb (pth p), fun v w => evp F C (k.cuts em) (tc F (pth p) :: kOf F C.pb (pth p)) (stC F live shs sho v w), k.lhs F ret0 C em)
  | _, .lo q live frz shs sho xid xlive xfrz xshs xsho hd _ body k, C, em => (chkLp F C.pb (pth q) && chkX F C.pb (pth q) xid, fun v w => unc shs sho (hd 0) v w,
      fun n v w => evp F (inner ret0 (fun _ => none) (pth q) ⟨live, frz, shs, sho, unc shs sho (hd n)⟩ [(xid, lx xlive xfrz xshs xsho id)]) ((body n).cuts fun _ => none) [tc F (5 :: pth q)] (stC F live shs sho v w),
      fun n => (body n).lhs F ret0 (inner ret0 (fun _ => none) (pth q) ⟨live, frz, shs, sho, unc shs sho (hd n)⟩ [(xid, lx xlive xfrz xshs xsho id)]) fun _ => none,
      fun v w => evp F C (k.cuts em) (xpre F C.pb (pth q) xid) (stC F xlive xshs xsho v w), k.lhs F ret0 C em)
  | _, .lr q live frz shs sho xid xlive xfrz xshs xsho hd _ body k, C, em => (chkLp F C.pb (pth q) && chkX F C.pb (pth q) xid, fun v w => unc shs sho (hd 0) v w,
      fun n v w => evp F (inner ret0 (fun q => some (.ret q)) (pth q) ⟨live, frz, shs, sho, unc shs sho (hd n)⟩ [(xid, lx xlive xfrz xshs xsho .brk)]) ((body n).cuts fun q => some (.ret q)) [tc F (5 :: pth q)] (stC F live shs sho v w),
      fun n => (body n).lhs F ret0 (inner ret0 (fun q => some (.ret q)) (pth q) ⟨live, frz, shs, sho, unc shs sho (hd n)⟩ [(xid, lx xlive xfrz xshs xsho .brk)]) fun q => some (.ret q),
      fun v w => evp F C (k.cuts em) (xpre F C.pb (pth q) xid) (stC F xlive xshs xsho v w), k.lhs F ret0 C em)
  | _, .lz q live frz shs sho hd body k, C, em => (chkLp F C.pb (pth q), fun v w => unc shs sho (hd 0) v w,
      fun n v w => evp F (inner ret0 (fun q => some (.ret q)) (pth q) ⟨live, frz, shs, sho, unc shs sho (hd n)⟩ []) ((body n).cuts fun q => some (.ret q)) [tc F (5 :: pth q)] (stC F live shs sho v w),
      fun n => (body n).lhs F ret0 (inner ret0 (fun q => some (.ret q)) (pth q) ⟨live, frz, shs, sho, unc shs sho (hd n)⟩ []) fun q => some (.ret q),
      k.lhs F ret0 C em)
abbrev CT.rhs : {R : Type} → (t : CT U ρ R) → t.Ty
  | _, .nil => ()
  | _, .j _ _ _ shs sho f k => (true, fun v w => unc shs sho f v w, k.rhs)
  | _, .lo _ _ _ shs sho _ _ _ xshs xsho hd af body k => (true, fun _ _ => none, fun n v w => unc shs sho (hd (n + 1)) v w, fun n => (body n).rhs, fun v w => unc xshs xsho af v w, k.rhs)
  | _, .lr _ _ _ shs sho _ _ _ xshs xsho hd af body k => (true, fun _ _ => none, fun n v w => unc shs sho (hd (n + 1)) v w, fun n => (body n).rhs, fun v w => unc xshs xsho af v w, k.rhs)
  | _, .lz _ _ _ shs sho hd body k => (true, fun _ _ => none, fun n v w => unc shs sho (hd (n + 1)) v w, fun n => (body n).rhs, k.rhs)
variable {F : FC U}
theorem loop_cut (hF : FOk F) {X : Type} {RT : Ret} {x : X} {q : List Nat} {live frz : List Nat} {shs : List Sh} {sho : List ShO} {hd : Nat → CurL (lvQ U shs sho) (Option X)} {cuts : Nat → List (List Nat × Lp U X)}
    {ex : List (Nat × Lp U X)} {ret : TRet U → Option X} {b : Code} {k : List Item} (hq : atP (F.c, []) q = some (.loop b, k)) (h0 : (fun v w => unc shs sho (hd 0) v w) = fun _ _ => none)
    (hs : (fun n v w => evp F (⟨5 :: q, some ⟨live, frz, shs, sho, unc shs sho (hd n)⟩, ex, ret⟩ : CC U X) (cuts n) [tc F (5 :: q)] (stC F live shs sho v w)) = fun n v w => unc shs sho (hd (n + 1)) v w)
    (hc : ∀ n, LpOk F RT x ⟨live, frz, shs, sho, unc shs sho (hd n)⟩ (.lp b :: k) → AllCuts F RT x (cuts n)) (he : AllExits F RT x (.lp b :: k) ex) (hret : ∀ t, ret t = some x → t.enc = RT) (n : Nat) :
    LpOk F RT x ⟨live, frz, shs, sho, unc shs sho (hd n)⟩ (stAt F q) :=
  loop_ok hF 4000 (cuts := cuts) (exits := ex) (ret := ret) (fun n => unc shs sho (hd n)) hq (fun v w => congrFun (congrFun h0 v) w) (fun n v w => by
    rw [← congrFun (congrFun (congrFun hs n) v) w]
    have h5 : atP (F.c, []) (5 :: q) = some (b, .lp b :: k) := by simp only [atP, hq]
    unfold evp tc
    rw [codeAt_eq h5]
    rfl) hc he hret n
theorem CT.ok (hF : FOk F) {ret0 : TRet U → Option ρ} : ∀ {R : Type} (t : CT U ρ R) (C : CC U R) (em : ρ → Option R), (C.ret = fun t => (ret0 t).bind em) → t.lhs F ret0 C em = t.rhs → ∀ {RT : Ret} {r : R} {cb : Code} {base : List Item},
    atP (F.c, []) C.pb = some (cb, base) → (∀ L, C.back = some L → LpOk F RT r L base) → (C.back = none → base = []) → AllExits F RT r base C.exits → (∀ t, C.ret t = some r → t.enc = RT) → AllCuts F RT r (t.cuts em)
  | _, .nil, _, _, _, _, _, _, _, _, _, _, _, _, _ => trivial
  | R, .j p live frz shs sho f k, C, em, hr, h, RT, r, cb, base, hb, hk, hn, hx, ht => by
    have h : @Eq (Bool × (Vals U shs → ValsO U sho → Option R) × k.Ty) (_, _, _) (_, _, _) := h
    have h1 : chkP F C.pb (pth p) = true := congrArg (fun x => x.1) h
    have h2 := congrArg (fun x => x.2.1) h
    have h3 : k.lhs F ret0 C em = k.rhs := congrArg (fun x => x.2.2) h
    have ih := CT.ok hF k C em hr h3 hb hk hn hx ht
    refine ⟨fun v w hi hv => ?_, ih⟩
    simp only [chkP, Bool.and_eq_true, Option.isSome_iff_exists] at h1
    obtain ⟨⟨⟨c, kk⟩, hp⟩, hin⟩ := h1
    obtain ⟨e1, e2⟩ := kOf_ok F hb _ hin _ _ hp
    have e3 : stAt F (pth p) = (tc F (pth p) :: kOf F C.pb (pth p)).map TI'.conc ++ base := by
      simp only [stAt, hp, tc, List.map_cons, TI'.conc, codeAt_eq hp, List.cons_append, e1]
    refine Pt.evlAt hF 4000 (cuts := k.cuts em) (back := C.back) (exits := C.exits) (ret := C.ret) (base := base) (pre := tc F (pth p) :: kOf F C.pb (pth p)) e3 hi ?_ ?_ ih hk hn hx ht
    · exact (congrFun (congrFun h2 v) w).trans hv
    · exact ⟨by rw [codeAt_eq hp, hp, e1], e2⟩
  | R, .lo q live frz shs sho xid xlive xfrz xshs xsho hd af body k, C, em, hr, h, RT, r, cb, base, hb, hk, hn, hx, ht => by
    have h : @Eq (Bool × (Vals U shs → ValsO U sho → Option (HT (lvQ U xshs xsho))) × (Nat → Vals U shs → ValsO U sho → Option (HT (lvQ U xshs xsho))) × ((n : Nat) → (body n).Ty) × (Vals U xshs → ValsO U xsho → Option R) × k.Ty) (_, _, _, _, _, _) (_, _, _, _, _, _) := h
    have h1 : (chkLp F C.pb (pth q) && chkX F C.pb (pth q) xid) = true := congrArg (fun x => x.1) h
    have h2 := congrArg (fun x => x.2.1) h
    have h3 := congrArg (fun x => x.2.2.1) h
    have h4 := congrArg (fun x => x.2.2.2.1) h
    have h5 := congrArg (fun x => x.2.2.2.2.1) h
    have h6 : k.lhs F ret0 C em = k.rhs := congrArg (fun x => x.2.2.2.2.2) h
    have ih := CT.ok hF k C em hr h6 hb hk hn hx ht
    refine ⟨fun v w hi hv => ?_, ih⟩
    obtain ⟨x, hx0, hxa⟩ := bind_some hv
    simp only [chkLp, chkX, Bool.and_eq_true, Option.isSome_iff_exists] at h1
    obtain ⟨⟨hl, hin⟩, pre', hpre⟩ := h1
    have hq : ∃ b kq, atP (F.c, []) (pth q) = some (.loop b, kq) := by
      unfold codeAt at hl
      split at hl
      · rename_i y hy
        obtain ⟨c, kq⟩ := y
        cases c <;> simp only [isLoop, Bool.false_eq_true] at hl
        exact ⟨_, _, hy⟩
      · simp [isLoop] at hl
    obtain ⟨b, kq, hq⟩ := hq
    obtain ⟨e1, e2⟩ := kOf_ok F hb _ hin _ _ hq
    have h5q : atP (F.c, []) (5 :: pth q) = some (b, .lp b :: kq) := by simp only [atP, hq]
    have hex : AllExits F RT x (.lp b :: kq) [(xid, lx xlive xfrz xshs xsho id)] := by
      refine ⟨⟨pre'.map TI'.conc ++ base, ?_, fun v' w' hi' h' => ?_⟩, trivial⟩
      · show exitK xid kq = _
        rw [e1]; exact (exitT_some (root := (F.c, [])) (base := base) hpre).1 base
      · obtain rfl : toHT _ (flQ xshs xsho v' w') = x := Option.some.inj h'
        refine Pt.evlAt hF 4000 (cuts := k.cuts em) (back := C.back) (exits := C.exits) (ret := C.ret) (base := base) (pre := pre') rfl hi' ?_ ((exitT_some hpre).2 e2) ih hk hn hx ht
        have e5 := congrFun (congrFun h5 v') w'
        simp only [xpre, hpre, Option.getD_some] at e5
        refine Eq.trans e5 ?_
        simp only [unT, ofHT_toHT] at hxa
        exact hxa
    exact loop_cut hF hq h2 h3 (fun n hL => CT.ok hF (body n) _ _ rfl (congrFun h4 n) h5q (fun L hLe => by simp only [inner, Option.some.injEq] at hLe; subst hLe; exact hL) (fun hne => by simp [inner] at hne) hex (fun t htt => by simp [inner] at htt)) hex
      (fun t htt => by simp at htt) big v w hi hx0
  | R, .lr q live frz shs sho xid xlive xfrz xshs xsho hd af body k, C, em, hr, h, RT, r, cb, base, hb, hk, hn, hx, ht => by
    have h : @Eq (Bool × (Vals U shs → ValsO U sho → Option (Out (HT (lvQ U xshs xsho)) ρ)) × (Nat → Vals U shs → ValsO U sho → Option (Out (HT (lvQ U xshs xsho)) ρ)) × ((n : Nat) → (body n).Ty) × (Vals U xshs → ValsO U xsho → Option R) × k.Ty) (_, _, _, _, _, _) (_, _, _, _, _, _) := h
    have h1 : (chkLp F C.pb (pth q) && chkX F C.pb (pth q) xid) = true := congrArg (fun x => x.1) h
    have h2 := congrArg (fun x => x.2.1) h
    have h3 := congrArg (fun x => x.2.2.1) h
    have h4 := congrArg (fun x => x.2.2.2.1) h
    have h5 := congrArg (fun x => x.2.2.2.2.1) h
    have h6 : k.lhs F ret0 C em = k.rhs := congrArg (fun x => x.2.2.2.2.2) h
    have ih := CT.ok hF k C em hr h6 hb hk hn hx ht
    refine ⟨fun v w hi hv => ?_, ih⟩
    obtain ⟨x, hx0, hxa⟩ := bind_some hv
    simp only [chkLp, chkX, Bool.and_eq_true, Option.isSome_iff_exists] at h1
    obtain ⟨⟨hl, hin⟩, pre', hpre⟩ := h1
    have hq : ∃ b kq, atP (F.c, []) (pth q) = some (.loop b, kq) := by
      unfold codeAt at hl
      split at hl
      · rename_i y hy
        obtain ⟨c, kq⟩ := y
        cases c <;> simp only [isLoop, Bool.false_eq_true] at hl
        exact ⟨_, _, hy⟩
      · simp [isLoop] at hl
    obtain ⟨b, kq, hq⟩ := hq
    obtain ⟨e1, e2⟩ := kOf_ok F hb _ hin _ _ hq
    have h5q : atP (F.c, []) (5 :: pth q) = some (b, .lp b :: kq) := by simp only [atP, hq]
    have hex : AllExits F RT x (.lp b :: kq) [(xid, lx xlive xfrz xshs xsho .brk)] := by
      refine ⟨⟨pre'.map TI'.conc ++ base, ?_, fun v' w' hi' h' => ?_⟩, trivial⟩
      · show exitK xid kq = _
        rw [e1]; exact (exitT_some (root := (F.c, [])) (base := base) hpre).1 base
      · obtain rfl : Out.brk (toHT _ (flQ xshs xsho v' w')) = x := Option.some.inj h'
        refine Pt.evlAt hF 4000 (cuts := k.cuts em) (back := C.back) (exits := C.exits) (ret := C.ret) (base := base) (pre := pre') rfl hi' ?_ ((exitT_some hpre).2 e2) ih hk hn hx ht
        have e5 := congrFun (congrFun h5 v') w'
        simp only [xpre, hpre, Option.getD_some] at e5
        refine Eq.trans e5 ?_
        simp only [outB, unT, ofHT_toHT] at hxa
        exact hxa
    have hrr : ∀ t : TRet U, ((ret0 t).bind fun q => some (Out.ret q)) = some x → t.enc = RT := fun t htt => by
      obtain ⟨y, hy, hyx⟩ := bind_some htt
      obtain rfl := Option.some.inj hyx
      refine ht t ?_
      rw [hr]
      show (ret0 t).bind em = some r
      rw [hy]; exact hxa
    exact loop_cut hF hq h2 h3 (fun n hL => CT.ok hF (body n) _ _ rfl (congrFun h4 n) h5q (fun L hLe => by simp only [inner, Option.some.injEq] at hLe; subst hLe; exact hL) (fun hne => by simp [inner] at hne) hex hrr) hex hrr big v w hi hx0
  | _, .lz q live frz shs sho hd body k, C, em, hr, h, RT, r, cb, base, hb, hk, hn, hx, ht => by
    have h : @Eq (Bool × (Vals U shs → ValsO U sho → Option (Out Unit ρ)) × (Nat → Vals U shs → ValsO U sho → Option (Out Unit ρ)) × ((n : Nat) → (body n).Ty) × k.Ty) (_, _, _, _, _) (_, _, _, _, _) := h
    have h1 : chkLp F C.pb (pth q) = true := congrArg (fun x => x.1) h
    have h2 := congrArg (fun x => x.2.1) h
    have h3 := congrArg (fun x => x.2.2.1) h
    have h4 := congrArg (fun x => x.2.2.2.1) h
    have h6 : k.lhs F ret0 C em = k.rhs := congrArg (fun x => x.2.2.2.2) h
    have ih := CT.ok hF k C em hr h6 hb hk hn hx ht
    refine ⟨fun v w hi hv => ?_, ih⟩
    obtain ⟨x, hx0, hxa⟩ := bind_some hv
    simp only [chkLp, Bool.and_eq_true] at h1
    obtain ⟨hl, hin⟩ := h1
    have hq : ∃ b kq, atP (F.c, []) (pth q) = some (.loop b, kq) := by
      unfold codeAt at hl
      split at hl
      · rename_i y hy
        obtain ⟨c, kq⟩ := y
        cases c <;> simp only [isLoop, Bool.false_eq_true] at hl
        exact ⟨_, _, hy⟩
      · simp [isLoop] at hl
    obtain ⟨b, kq, hq⟩ := hq
    have h5q : atP (F.c, []) (5 :: pth q) = some (b, .lp b :: kq) := by simp only [atP, hq]
    have hrr : ∀ t : TRet U, ((ret0 t).bind fun q => some (Out.ret q)) = some x → t.enc = RT := fun t htt => by
      obtain ⟨y, hy, hyx⟩ := bind_some htt
      obtain rfl := Option.some.inj hyx
      refine ht t ?_
      rw [hr]
      show (ret0 t).bind em = some r
      rw [hy]; exact hxa
    exact loop_cut hF hq h2 h3 (fun n hL => CT.ok hF (body n) _ _ rfl (congrFun h4 n) h5q (fun L hLe => by simp only [inner, Option.some.injEq] at hLe; subst hLe; exact hL) (fun hne => by simp [inner] at hne) trivial hrr) trivial hrr big v w hi hx0
end
abbrev oTy (U : Univ) (os : List (Nat × ShA)) (rs : List ShR) : List Type := lvsR U rs (lvsU U os [])
def amOf : ShA → AM
  | .box _ | .arr _ => .lend
  | .part _ => .part
  | _ => .p
def ahOf : ShA → Option Nat
  | .p (.st n) => some n
  | _ => none
def rmOf : ShR → RM
  | .p _ => .p
  | .own _ => .own
  | .box _ => .box
  | .map _ _ => .map
  | .view _ => .view
def rhOf : ShR → Option Nat
  | .p (.st n) => some n
  | _ => none
def isAr : ShA → Bool
  | .arr _ | .part _ => true
  | _ => false
section
variable {U : Univ}
structure FD (U : Univ) where
  f : Nat
  fn : Func
  sigs : List (Nat × TSig U)
  as : List ShA
  os : List (Nat × ShA)
  rs : List ShR
  keep : List Nat
  alt : List (Nat × Nat)
  s : CurL (lvsA U as []) (Option (HT (oTy U os rs)))
  w : CurL (lvsA U as []) (Option (HT (oTy U os rs)))
  t : CT U (HT (oTy U os rs)) (HT (oTy U os rs))
namespace FD
variable (D : FD U)
abbrev rho : Type := HT (oTy U D.os D.rs)
abbrev R : RSh := ⟨D.rs, D.os⟩
abbrev g (v : RVal U D.R) : D.rho := toHT (oTy U D.os D.rs) (flsR D.rs v.1 (flsU (r := []) (D.os) v.2 ()))
abbrev b (x : D.rho) : TRet U := D.R.bld ((usR D.rs (ofHT (oTy U D.os D.rs) x)).1, (usU (r := []) (D.os) (usR D.rs (ofHT (oTy U D.os D.rs) x)).2).1)
theorem b_g (v : RVal U D.R) : D.b (D.g v) = D.R.bld v := by
  obtain ⟨v1, v2⟩ := v
  have e : ofHT (oTy U D.os D.rs) (D.g (v1, v2)) = flsR D.rs v1 (flsU (r := []) (D.os) v2 ()) := ofHT_toHT _ _
  have e2 : usR D.rs (flsR D.rs v1 (flsU (r := []) (D.os) v2 ())) = (v1, flsU (r := []) (D.os) v2 ()) := usR_flsR _ _ _
  have e3 : (usU (r := []) (D.os) (flsU (r := []) (D.os) v2 ())).1 = v2 := congrArg Prod.fst (usU_flsU _ _ _)
  unfold b
  rw [e, e2]
  exact congrArg (fun x => D.R.bld (v1, x)) e3
abbrev FS : FSig U := ⟨D.rho, D.fn.params.toList, D.as.map amOf, D.as.map ahOf, D.as, fun v => app (lvsA U D.as []) D.w (flsA (r := []) D.as v ()), D.b⟩
abbrev sig : TSig U := D.FS.sig
abbrev sg : Nat × TSig U := (D.f, D.sig)
abbrev F (X0 : TEnv U) : FC U := ⟨X0.at D.fn.ntmps, D.fn, bodyOf D.fn, D.sigs, D.os.map (·.1), D.rs.map rmOf, D.rs.map rhOf, D.keep, D.alt⟩
abbrev C : CC U D.rho := ⟨[], none, [], retOf D.R D.g⟩
def chk0 : Bool := !(D.fn.name == "runtime.NumGoroutine") && D.fn.body.isSome && Nat.ble D.as.length D.fn.ntmps
abbrev Ty : Type := Bool × (D.rho → Bool) × (ValsA U D.as → Option D.rho) × D.t.Ty
noncomputable abbrev lhs (X0 : TEnv U) : D.Ty := (D.chk0, fun r => D.os.any (fun x => isAr x.2) || (D.b r).outs.all (fun x => x.2.len?.isNone),
  fun v => evp (D.F X0) D.C (D.t.cuts some) [tc0 (D.F X0)] (argTS (bldsA D.as v)), D.t.lhs (D.F X0) (retOf D.R D.g) D.C some)
abbrev rhs : D.Ty := (true, fun _ => true, fun v => app (lvsA U D.as []) D.s (flsA (r := []) D.as v ()), D.t.rhs)
end FD
structure Gnd (X0 : TEnv U) : Prop where
  hU : UOk U
  hX : TOk X0
  hE : EnvOk X0.E
  hm : X0.prog.follows .mixedOrders = true
theorem bldsA_length : ∀ (as : List ShA) (v : ValsA U as), (bldsA as v).length = as.length
  | [], _ => rfl
  | s :: r, v => by rw [bldsA, List.length_cons, List.length_cons, bldsA_length r]
theorem FD.fun {X0 : TEnv U} (G : Gnd X0) (D : FD U) (hf : X0.prog.funcs[D.f]? = some D.fn) (hs : AllSigs X0 D.sigs) (h : D.lhs X0 = D.rhs) :
    (∀ v r, app (lvsA U D.as []) D.s (flsA (r := []) D.as v ()) = some r → Fun X0.E D.f ((bldsA D.as v).map TArg.enc) (D.b r).enc) ∧ ∀ r, (D.os.any (fun x => isAr x.2) || (D.b r).outs.all (fun x => x.2.len?.isNone)) = true := by
  simp only [FD.lhs, FD.rhs, Prod.mk.injEq] at h
  obtain ⟨h1, h3, h4, h5⟩ := h
  simp only [FD.chk0, Bool.and_eq_true, Bool.not_eq_true', Option.isSome_iff_exists] at h1
  obtain ⟨⟨hn, c, hc⟩, hl⟩ := h1
  have hF : FOk (D.F X0) := fok G.hU G.hX G.hE G.hm rfl hs
  have hcuts : ∀ r, AllCuts (D.F X0) (D.b r).enc r (D.t.cuts some) := fun r => by
    have hret : ∀ t, D.C.ret t = some r → t.enc = (D.b r).enc := fun t ht => retOf_enc G.hU D.b_g ht
    refine CT.ok hF (ret0 := retOf D.R D.g) D.t D.C some (by funext t; simp [FD.C]) h5 (cb := (D.F X0).c) (base := []) rfl (fun L hL => by simp [FD.C] at hL) (fun _ => rfl) trivial hret
  have hb : D.fn.body = some (D.F X0).c := by rw [hc]; simp only [FD.F, bodyOf, hc]
  exact ⟨fun v r hv => fun_of_pt (F := D.F X0) rfl hf hn hb (by rw [bldsA_length]; exact Nat.le_of_ble_eq_true hl)
      (Pt.ev0 hF (b := D.b) (S := D.R) (g := D.g) (pre := [tc0 (D.F X0)]) rfl (argTS_inv _) ((congrFun h4 v).trans hv) ⟨rfl, trivial⟩ (hcuts r) D.b_g), fun r => congrFun h3 r⟩
theorem FD.ok {X0 : TEnv U} (G : Gnd X0) (D : FD U) (hf : X0.prog.funcs[D.f]? = some D.fn) (hs : AllSigs X0 D.sigs) (ha : D.os.any (fun x => isAr x.2) = false) (hw : D.w = D.s) (h : D.lhs X0 = D.rhs) : SigOk X0.E D.f D.sig := by
  obtain ⟨h1, h2⟩ := D.fun G hf hs h
  refine FSig.ok (S := D.FS) G.hU fun v r hr => ?_
  have hr : app (lvsA U D.as []) D.w (flsA (r := []) D.as v ()) = some r := hr
  rw [hw] at hr
  have h3 := h2 r
  rw [ha, Bool.false_or] at h3
  exact ⟨h1 v r hr, outsLen_nil h3⟩
theorem FD.okA {X0 : TEnv U} (G : Gnd X0) (D : FD U) (hf : X0.prog.funcs[D.f]? = some D.fn) (hs : AllSigs X0 D.sigs)
    (hw : (fun v => app (lvsA U D.as []) D.w (flsA (r := []) D.as v ())) = fun v => (app (lvsA U D.as []) D.s (flsA (r := []) D.as v ())).bind fun r => chk (outsLenB (bldsA D.as v) (D.b r)) (some r)) (h : D.lhs X0 = D.rhs) : SigOk X0.E D.f D.sig := by
  obtain ⟨h1, h2⟩ := D.fun G hf hs h
  refine FSig.ok (S := D.FS) G.hU fun v r hr => ?_
  have hr : app (lvsA U D.as []) D.w (flsA (r := []) D.as v ()) = some r := hr
  have e2 := congrFun hw v
  rw [hr] at e2
  obtain ⟨q1, q2⟩ := chkLen e2.symm
  exact ⟨h1 v r q1, outsLen_of q2⟩
end
end Eng
namespace Eng
open Go
section
variable {U : Univ}
def Ty.isSt : Ty → Bool
  | .st _ => true
  | _ => false
def UFlat (U : Univ) : Prop := ∀ n x, (U.cells n x).all (fun l => !l.t.isSt) = true
def CRel (w : World) (cs : List Value) (ls : List (Lf U.car)) : Prop :=
  cs.length = ls.length ∧ ∀ (j : Nat) v l, cs[j]? = some v → ls[j]? = some l → RelP w (fun b => b < w.heap.size) v (U.encL l)
theorem CRel.one {w : World} {v : Value} {l : Lf U.car} (h : RelP w (fun b => b < w.heap.size) v (U.encL l)) : CRel (U := U) w [v] [l] := by
  refine ⟨rfl, fun j v' l' h1 h2 => ?_⟩
  cases j with
  | zero => simp at h1 h2; subst h1; subst h2; exact h
  | succ j => simp at h1
theorem CRel.append {w : World} {cs cs' : List Value} {ls ls' : List (Lf U.car)} (h : CRel w cs ls) (h' : CRel w cs' ls') : CRel w (cs ++ cs') (ls ++ ls') := by
  refine ⟨by simp [h.1, h'.1], fun j v l h1 h2 => ?_⟩
  rw [List.getElem?_append] at h1 h2
  by_cases hj : j < cs.length
  · rw [if_pos hj] at h1
    rw [if_pos (by rw [← h.1]; exact hj)] at h2
    exact h.2 j v l h1 h2
  · rw [if_neg hj] at h1
    rw [if_neg (by rw [← h.1]; exact hj), ← h.1] at h2
    exact h'.2 _ v l h1 h2
def valT (T : Ty) (cs : List Value) : Value := if T.isSt then .agg cs.toArray else cs.headD Go.undef
theorem leaf_one {w : World} {S : Nat → Prop} {v : Value} {l : Lf U.car} (hl : l.t.isSt = false) (h : RelP w S v (U.encL l)) : oneC v ∧ v.cells = #[v] := by
  obtain ⟨t, x⟩ := l
  generalize hz : U.encL ⟨t, x⟩ = z at h
  cases h with
  | agg vs cs hl' h1 h =>
    exfalso
    cases t <;> first | (simp [Ty.isSt] at hl; done) | (simp [Univ.encL, Univ.encE] at hz; done)
  | _ => exact ⟨rfl, rfl⟩
theorem valT_rel (hU : UOk U) (hF : UFlat U) {w : World} {T : Ty} {y : El U.car T} {cs : List Value} (h : CRel w cs (U.cellsE T y)) :
    RelP w (fun b => b < w.heap.size) (valT T cs) (U.encE T y) ∧ (valT T cs).cells = cs.toArray := by
  cases T with
  | st n =>
    refine ⟨?_, rfl⟩
    simp only [Univ.encE, hU.enc_cells n y]
    show RelP w _ (.agg cs.toArray) _
    have hall := hF n y
    rw [List.all_eq_true] at hall
    refine .agg _ _ (by have h1 : cs.length = (U.cells n y).length := h.1; simpa using h1) (fun i v hv => ?_) (fun i v c hv hc => ?_)
    · have hv' : cs[i]? = some v := by simpa using hv
      have hi : i < (U.cells n y).length := by
        have := (List.getElem?_eq_some_iff.1 hv').1
        have h1 : cs.length = (U.cells n y).length := h.1
        omega
      have hl : (U.cells n y)[i]? = some (U.cells n y)[i] := List.getElem?_eq_getElem hi
      exact (leaf_one (by simpa using hall _ (List.getElem_mem hi)) (h.2 i v _ hv' hl)).1
    · have hv' : cs[i]? = some v := by simpa using hv
      rw [List.getElem?_map] at hc
      cases hl : (U.cells n y)[i]? with
      | none => rw [hl] at hc; simp at hc
      | some l =>
        rw [hl] at hc
        simp only [Option.map_some, Option.some.injEq] at hc
        subst hc
        exact h.2 i v l hv' hl
  | bool | int k | str | sl t | map k v =>
    obtain ⟨h1, h2⟩ := h
    match cs, h1 with
    | [c], _ =>
      have := h2 0 c _ rfl rfl
      exact ⟨this, (leaf_one rfl this).2⟩
def Opens (P : Program) (U : Univ) (t : TypeId) (T : Ty) : Prop :=
  ∀ {H : Type} (enc : TypeId × Value → H) (w : World) (fuel : Nat) (cs : List Value) (x : DataW H × List MemPlace), DataW.trod enc P w 0 (fun _ => true) true fuel t cs = some x →
    (∀ n ∈ x.1.weights P t, n ≤ reachBytes) → ∃ y : El U.car T, CRel w cs (U.cellsE T y)
variable {P : Program}
theorem opens_bool {t : TypeId} (ht : P.underlying t = some .bool) : Opens P U t .bool := fun enc w fuel cs x h _ => by
  obtain ⟨b, rfl, _⟩ := DataW.trod_bool ht h
  exact ⟨b, .one (.bool b)⟩
theorem opens_int {t : TypeId} {k : IntKind} (ht : P.underlying t = some (.int k)) : Opens P U t (.int k) := fun enc w fuel cs x h _ => by
  obtain ⟨n, rfl, _, hw⟩ := DataW.trod_int ht h
  simp only [Lit.wf, Bool.and_eq_true, decide_eq_true_eq] at hw
  exact ⟨n, .one (.int k n hw.1 hw.2)⟩
theorem opens_str {t : TypeId} (ht : P.underlying t = some .string) : Opens P U t .str := fun enc w fuel cs x h _ => by
  obtain ⟨⟨⟨l⟩⟩, rfl, _, hs⟩ := DataW.trod_string ht h
  exact ⟨l, .one (.str l hs)⟩
theorem exists_list {α : Type} {R : Nat → α → Prop} : ∀ n, (∀ i, i < n → ∃ y, R i y) → ∃ l : List α, l.length = n ∧ ∀ i y, l[i]? = some y → R i y
  | 0, _ => ⟨[], rfl, fun i y h => by simp at h⟩
  | n + 1, h => by
    obtain ⟨l, h1, h2⟩ := exists_list n fun i hi => h i (by omega)
    obtain ⟨y, hy⟩ := h n (by omega)
    refine ⟨l ++ [y], by simp [h1], fun i z hz => ?_⟩
    rw [List.getElem?_append] at hz
    split at hz
    · exact h2 i z hz
    · rename_i hi
      have : i = n := by
        have := (List.getElem?_eq_some_iff.1 hz).1
        simp at this; omega
      subst this
      simp [h1] at hz
      subst hz; exact hy
theorem mem_weightsAll {H : Type} {P : Program} {e : TypeId} : ∀ {l : List (DataW H)} {d : DataW H}, d ∈ l → ∀ n ∈ d.weights P e, n ∈ DataW.weightsAll P e l
  | x :: r, d, hd, n, hn => by
    simp only [DataW.weightsAll, List.mem_append]
    rcases List.mem_cons.1 hd with rfl | hd
    · exact .inl hn
    · exact .inr (mem_weightsAll hd n hn)
theorem opens_slice (hU : UOk U) (hF : UFlat U) {t e : TypeId} {T : Ty} (ht : P.underlying t = some (.slice e)) (hsz : P.cellsOf e = U.tsize T) (hpos : 0 < U.tsize T) (hb : 1 ≤ P.bytesOf e) (he : Opens P U e T) : Opens P U t (.sl T) := fun enc w fuel cs x h hw => by
  rcases DataW.trod_slice ht h with ⟨rfl, _⟩ | ⟨a, len, cap, elems, rest, n, _, rfl, rfl, _, hl, _, hlen, hel, _, _⟩
  · refine ⟨[], .one ?_⟩
    exact .sl none 0 0 _ _ (fun _ => Go.undef) rfl (by simp) (Nat.le_refl _) (fun i hi => by omega) (fun i hi => by omega) (fun i e h => by simp at h)
  · have hw0 : len ≤ reachBytes := by
      have := hw ((elems.length + rest.length) * P.bytesOf e) (by simp [DataW.weights, ht])
      have h1 : elems.length * 1 ≤ (elems.length + rest.length) * P.bytesOf e := Nat.mul_le_mul (by omega) hb
      omega
    have each : ∀ i, i < len → ∃ y : El U.car T, ∃ ci, w.cells? 0 (a.add (i * P.cellsOf e)) (P.cellsOf e) = some ci ∧ CRel w ci (U.cellsE T y) := fun i hi => by
      obtain ⟨xi, hxi⟩ : ∃ xi, elems[i]? = some xi := ⟨_, List.getElem?_eq_getElem (by omega)⟩
      have h1 := hel i hi
      rw [hxi] at h1
      obtain ⟨ci, hci, htr⟩ := Option.bind_eq_some_iff.1 h1
      obtain ⟨y, hy⟩ := he enc w n ci xi htr fun m hm => hw m (by
        simp only [DataW.weights, ht, List.mem_cons, List.mem_append]
        exact .inr (.inl (mem_weightsAll (List.mem_map.2 ⟨xi, List.mem_of_getElem? hxi, rfl⟩) m hm)))
      exact ⟨y, ci, hci, hy⟩
    obtain ⟨ys, hys, hy⟩ := exists_list len each
    have hcl : ∀ i, i < len → ∃ y ci, ys[i]? = some y ∧ w.cells? 0 (a.add (i * P.cellsOf e)) (P.cellsOf e) = some ci ∧ CRel w ci (U.cellsE T y) := fun i hi => by
      obtain ⟨y, hyi⟩ : ∃ y, ys[i]? = some y := ⟨_, List.getElem?_eq_getElem (by omega)⟩
      obtain ⟨ci, h1, h2⟩ := hy i y hyi
      exact ⟨y, ci, hyi, h1, h2⟩
    refine ⟨ys, .one ?_⟩
    show RelP w _ (.slice (some a) len cap) (.sl (U.tsize T) (ys.map (U.encE T)))
    refine .sl (some a) len cap _ _ (fun i => valT T ((w.cells? 0 (a.add (i * P.cellsOf e)) (P.cellsOf e)).getD [])) (by simp [hys]) (Nat.le_trans hw0 (by decide)) hl (fun i hi => ?_) (fun i hi => ?_) (fun i z hz => ?_)
    · obtain ⟨y, ci, h1, h2, h3⟩ := hcl i hi
      simp only [h2, Option.getD_some, (valT_rel hU hF h3).2]
      have := h3.1
      rw [cellsE_len hU] at this
      simpa using this
    · obtain ⟨y, ci, h1, h2, h3⟩ := hcl i hi
      have hlc : ci.length = U.tsize T := by rw [h3.1, cellsE_len hU]
      obtain ⟨_, hc1, hc2⟩ := World.cells?_some h2
      have hspot : a.spot = none := by
        obtain ⟨y0, c0, _, h20, h30⟩ := hcl 0 (by omega)
        have hl0 : c0.length = U.tsize T := by rw [h30.1, cellsE_len hU]
        have h0 := (World.cells?_some h20).2.2 0 (by omega)
        rw [Nat.zero_mul, show (a.add 0).add 0 = a from rfl, List.getElem?_eq_getElem (by omega)] at h0
        unfold World.cell? at h0
        cases hs : a.spot with
        | none => rfl
        | some s => rw [hs] at h0; split at h0 <;> simp at h0
      have ha : a = ⟨a.block, a.off, none⟩ := by cases a; simp at hspot; subst hspot; rfl
      have hlt : a.block < w.heap.size := by
        have := World.cells?_block h2 (by omega)
        unfold Addr.add at this
        split at this <;> exact this
      have hadd : ∀ n, a.add n = ⟨a.block, a.off + n, none⟩ := fun n => by
        unfold Addr.add
        split
        · rename_i h0; subst h0; exact ha
        · rfl
      refine ⟨a.block, a.off, by rw [← ha], hlt, fun j v hv => ?_⟩
      simp only [h2, Option.getD_some, (valT_rel hU hF h3).2] at hv
      have hv' : ci[j]? = some v := by simpa using hv
      have hj := (List.getElem?_eq_some_iff.1 hv').1
      have := hc2 j (by omega)
      rw [hv', hadd, hsz] at this
      rw [← this]
      congr 1
      unfold Addr.add
      split
      · rename_i h0; subst h0; rfl
      · rfl
    · rw [List.getElem?_map] at hz
      cases hyi : ys[i]? with
      | none => rw [hyi] at hz; simp at hz
      | some y =>
        rw [hyi] at hz
        simp only [Option.map_some, Option.some.injEq] at hz
        subst hz
        obtain ⟨ci, h2, h3⟩ := hy i y hyi
        simp only [h2, Option.getD_some]
        exact (valT_rel hU hF h3).1
abbrev Ys (U : Univ) : List Ty → Type
  | [] => Unit
  | T :: r => El U.car T × Ys U r
def Ys.cells : (Ts : List Ty) → Ys U Ts → List (Lf U.car)
  | [], _ => []
  | T :: r, y => U.cellsE T y.1 ++ Ys.cells r y.2
def FieldsOpen (P : Program) (U : Univ) : Nat → List Field → List Ty → Prop
  | _, [], [] => True
  | off, f :: fs, T :: Ts => f.offset = off ∧ P.cellsOf f.type = U.tsize T ∧ Opens P U f.type T ∧ FieldsOpen P U (off + U.tsize T) fs Ts
  | _, _, _ => False
def sizeTs (U : Univ) : List Ty → Nat
  | [] => 0
  | T :: r => U.tsize T + sizeTs U r
theorem fields_open (hU : UOk U) {H : Type} (enc : TypeId × Value → H) (w : World) (n : Nat) (cs : List Value) : ∀ (off : Nat) (fs : List Field) (Ts : List Ty) (xs : List (DataW H × List MemPlace)), FieldsOpen P U off fs Ts → xs.length = fs.length →
    (∀ (i : Nat) (f : Field), fs[i]? = some f → DataW.trod enc P w 0 (fun _ => true) true n f.type ((cs.drop f.offset).take (P.cellsOf f.type)) = xs[i]?) →
    (∀ m ∈ DataW.weightsEach P (fs.map (·.type)) (xs.map (·.1)), m ≤ reachBytes) → cs.length = off + sizeTs U Ts → ∃ ys : Ys U Ts, CRel w (cs.drop off) (ys.cells Ts)
  | off, [], [], xs, _, _, _, _, hl => ⟨(), by simp [Ys.cells, CRel, hl, sizeTs]⟩
  | off, f :: fs, T :: Ts, [], _, hx, _, _, _ => by simp at hx
  | off, f :: fs, T :: Ts, x :: xs, ⟨h1, h2, h3, h4⟩, hx, hf, hw, hl => by
    have hf0 := hf 0 f rfl
    rw [List.getElem?_cons_zero, h1, h2] at hf0
    simp only [List.map_cons, DataW.weightsEach, List.mem_append] at hw
    obtain ⟨y, hy⟩ := h3 enc w n _ x hf0 fun m hm => hw m (.inl hm)
    obtain ⟨ys, hys⟩ := fields_open hU enc w n cs (off + U.tsize T) fs Ts xs h4 (by simpa using hx) (fun i g hg => hf (i + 1) g (by simpa using hg)) (fun m hm => hw m (.inr hm)) (by simp only [sizeTs] at hl; omega)
    refine ⟨(y, ys), ?_⟩
    have : cs.drop off = (cs.drop off).take (U.tsize T) ++ cs.drop (off + U.tsize T) := by rw [← List.drop_drop, List.take_append_drop]
    rw [this]
    exact hy.append hys
  | _, [], _ :: _, _, h, _, _, _, _ => h.elim
  | _, _ :: _, [], _, h, _, _, _, _ => h.elim
theorem opens_struct (hU : UOk U) {t : TypeId} {fs : Array Field} {k : Nat} {Ts : List Ty} (ht : P.underlying t = some (.struct fs)) (hs : P.cellsOf t = sizeTs U Ts) (hf : FieldsOpen P U 0 fs.toList Ts)
    (mk : ∀ ys : Ys U Ts, ∃ x : U.car k, U.cells k x = ys.cells Ts) : Opens P U t (.st k) := fun enc w fuel cs x h hw => by
  obtain ⟨xs, n, _, rfl, hl, hx, hfs⟩ := DataW.trod_struct ht h
  obtain ⟨ys, hys⟩ := fields_open hU enc w n cs 0 fs.toList Ts xs hf (by simpa using hx) (fun i f hi => hfs i f (by simpa using hi)) (fun m hm => hw m (by simpa [DataW.weights, ht] using hm)) (by rw [hl, hs]; omega)
  obtain ⟨y, hy⟩ := mk ys
  refine ⟨y, ?_⟩
  show CRel w cs (U.cells k y)
  rw [hy]
  simpa using hys
def arrTs (T : Ty) : Nat → List Ty
  | 0 => []
  | n + 1 => T :: arrTs T n
theorem arr_open (hU : UOk U) {H : Type} (enc : TypeId × Value → H) (w : World) (n : Nat) (cs : List Value) {e : TypeId} {T : Ty} (hsz : P.cellsOf e = U.tsize T) (he : Opens P U e T) : ∀ (m : Nat) (i0 : Nat) (xs : List (DataW H × List MemPlace)), xs.length = m →
    (∀ (i : Nat), i < m → DataW.trod enc P w 0 (fun _ => true) true n e ((cs.drop ((i0 + i) * P.cellsOf e)).take (P.cellsOf e)) = xs[i]?) →
    (∀ q ∈ DataW.weightsAll P e (xs.map (·.1)), q ≤ reachBytes) → cs.length = (i0 + m) * U.tsize T → ∃ ys : Ys U (arrTs T m), CRel w (cs.drop (i0 * U.tsize T)) (ys.cells (arrTs T m))
  | 0, i0, xs, _, _, _, hl => ⟨(), by simp [arrTs, Ys.cells, CRel, hl]⟩
  | m + 1, i0, [], hx, _, _, _ => by simp at hx
  | m + 1, i0, x :: xs, hx, hf, hw, hl => by
    have hf0 := hf 0 (by omega)
    rw [List.getElem?_cons_zero, hsz, Nat.add_zero] at hf0
    simp only [List.map_cons, DataW.weightsAll, List.mem_append] at hw
    obtain ⟨y, hy⟩ := he enc w n _ x hf0 fun m hm => hw m (.inl hm)
    obtain ⟨ys, hys⟩ := arr_open hU enc w n cs hsz he m (i0 + 1) xs (by simpa using hx) (fun i hi => by
      have := hf (i + 1) (by omega)
      rw [List.getElem?_cons_succ] at this
      rw [Nat.add_right_comm, Nat.add_assoc]
      exact this) (fun q hq => hw q (.inr hq)) (by rw [hl]; congr 1; omega)
    refine ⟨(y, ys), ?_⟩
    have : cs.drop (i0 * U.tsize T) = (cs.drop (i0 * U.tsize T)).take (U.tsize T) ++ cs.drop ((i0 + 1) * U.tsize T) := by rw [Nat.succ_mul, ← List.drop_drop, List.take_append_drop]
    rw [this]
    exact hy.append hys
theorem opens_array (hU : UOk U) {t e : TypeId} {m k : Nat} {T : Ty} (ht : P.underlying t = some (.array m e)) (hs : P.cellsOf t = m * U.tsize T) (hsz : P.cellsOf e = U.tsize T) (he : Opens P U e T)
    (mk : ∀ ys : Ys U (arrTs T m), ∃ x : U.car k, U.cells k x = ys.cells (arrTs T m)) : Opens P U t (.st k) := fun enc w fuel cs x h hw => by
  obtain ⟨xs, n, _, rfl, hl, hx, hfs⟩ := DataW.trod_array ht h
  obtain ⟨ys, hys⟩ := arr_open hU enc w n cs hsz he m 0 xs hx (fun i hi => by rw [Nat.zero_add]; exact hfs i hi) (fun q hq => hw q (by simpa [DataW.weights, ht] using hq)) (by rw [hl, hs, Nat.zero_add])
  obtain ⟨y, hy⟩ := mk ys
  refine ⟨y, ?_⟩
  show CRel w cs (U.cells k y)
  rw [hy]
  simpa using hys
theorem open_arg (hU : UOk U) (hF : UFlat U) {H : Type} {enc : TypeId × Value → H} {t : TypeId} {T : Ty} (ho : Opens P U t T) {w : World} {v : Value} {d : DataW H} {ps : List MemPlace} (h : DataW.Trod enc P w 0 (fun _ => true) true t v d ps)
    (hw : ∀ n ∈ d.weights P t, n ≤ reachBytes) (hv : valT T v.cells.toList = v) : ∃ y : El U.car T, RelP w (fun b => b < w.heap.size) v (U.encE T y) := by
  obtain ⟨fuel, hf⟩ := h
  obtain ⟨y, hy⟩ := ho enc w fuel _ _ hf hw
  refine ⟨y, ?_⟩
  have := (valT_rel hU hF hy).1
  rwa [hv] at this
theorem okv_plain {w : World} {r : Reach} {base : Nat} {t : TypeId} {v : Value} {T : Ty} (hT : T.isSt = false) (ht : ∃ d, P.underlying t = some d ∧ (match d with | .bool | .string | .int _ | .slice _ => True | _ => False)) (h : Value.okWide P w r base t v) : valT T v.cells.toList = v := by
  obtain ⟨d, hu, hd⟩ := ht
  have key : v.cells = #[v] → valT T v.cells.toList = v := fun he => by
    unfold valT; rw [hT, he]; rfl
  cases d <;> simp only at hd
  all_goals (simp only [Value.okWide, hu, Cell.okWide] at h; cases v <;> first | exact key rfl | (simp [Cell.ok, hu] at h; done))
theorem okv_st {w : World} {r : Reach} {base : Nat} {t : TypeId} {v : Value} {n : Nat} (ht : ∃ d, P.underlying t = some d ∧ (match d with | .struct _ | .array _ _ => True | _ => False)) (h : Value.okWide P w r base t v) : valT (.st n) v.cells.toList = v := by
  obtain ⟨d, hu, hd⟩ := ht
  cases d <;> simp only at hd
  all_goals (simp only [Value.okWide, hu] at h; obtain ⟨cs, rfl, _⟩ := h; simp [valT, Ty.isSt, Value.cells])
theorem Kept.trod {H : Type} {enc : TypeId × Value → H} {t : TypeId} (hl : laidOutB P = true) (hr : P.readableRec t = true) (hrow : t < P.types.size) {W W' : World} {v : Value} {d : DataW H} {ps : List MemPlace}
    (h : DataW.Trod enc P W 0 (fun _ => true) true t v d ps) (hk : Kept W W') (hlt : ∀ x ∈ ps, x.block < W.heap.size) {sp : Nat → Bool} (hsp : ∀ x ∈ ps, sp x.block = true) : DataW.Trod enc P W' 0 sp true t v d ps :=
  WideElems.Trod_stays hl hr hrow h (fun x hx => by
    have := hk.2.2 _ (hlt x hx)
    cases x with
    | cell b o => exact World.cell?_of_block (w := W) this
    | map b => exact this) hsp
end
end Eng

