/- The walker, part 10: composite literals of structs, calls of function values, results that are variables, shifts. Nothing of the program. -/
import Derived.Test.YtcfnmklbkhibgaaLI
import Derived.Laws.CopyRow
namespace Go.Proofs.Ytcfnmklbkhibgaa
open Go.RowKit

/- COMPOSITE LITERALS OF STRUCTS -/
def cellsL : Value → List Value
  | .agg a => a.toList
  | v => [v]
theorem cellsL_eq (v : Value) : v.cells.toList = cellsL v := by cases v <;> rfl
def fillL (pl : List (Nat × Nat)) : List Value → List (Nat × Value) → Option (List Value)
  | cs, [] => some cs
  | cs, (i, v) :: rest =>
    match pl[i]? with
    | none => none
    | some (off, size) =>
      if Nat.beq (cellsL v).length size && Nat.ble (off + size) cs.length then fillL pl (cs.take off ++ cellsL v ++ cs.drop (off + size)) rest else none
theorem fill_list (pl : List (Nat × Nat)) : ∀ (vs : List (Nat × Value)) (zs cs : List Value), fillL pl zs vs = some cs → Instr.fill (pl.toArray[·]?) zs.toArray vs = some cs.toArray
  | [], zs, cs, h => by simp only [fillL, Option.some.injEq] at h; simp [Instr.fill, h]
  | (i, v) :: rest, zs, cs, h => by
    unfold fillL at h
    unfold Instr.fill
    rw [List.getElem?_toArray]
    cases hp : pl[i]? with
    | none => rw [hp] at h; cases h
    | some os =>
      obtain ⟨off, size⟩ := os
      rw [hp] at h
      simp only at h ⊢
      split at h
      · rename_i hc
        simp only [Bool.and_eq_true, Nat.beq_eq, Nat.ble_eq] at hc
        have hsz : v.cells.size = size := by rw [← Array.length_toList, cellsL_eq]; exact hc.1
        rw [if_neg (by simp [hsz]; omega)]
        have hf := fold_seg off v.cells.toList 0 zs.toArray (by simp only [Array.length_toList, hsz, List.size_toArray]; omega)
        have e : (v.cells.zipIdx.foldl (fun cs x => cs.setIfInBounds (off + x.2) x.1) zs.toArray) = (zs.take off ++ cellsL v ++ zs.drop (off + size)).toArray := by
          apply Array.ext'
          rw [List.toList_toArray]
          simp only [Nat.add_zero, Array.length_toList, hsz] at hf
          rw [← cellsL_eq, ← hf, ← Array.foldl_toList, Array.toList_zipIdx]
        rw [e]
        exact fill_list pl rest _ _ h
      · cases h
/-- A struct's fields: where they lie and how large they are. -/
def Places (P : Program) (fs : List Field) (pl : List (Nat × Nat)) : Prop := (fs.map fun f => (f.offset, (P.info? f.type).map (·.size))) = pl.map fun x => (x.1, some x.2)
theorem run_places {P : Program} (w : World) : ∀ (fs : List Field) (pl : List (Nat × Nat)), Places P fs pl → (fs.mapM (fun f : Field => (do pure (f.offset, ← sizeOf f.type) : Sem (Nat × Nat)))).run P w = .ok pl w
  | [], pl, h => by
    cases pl with
    | nil => simp
    | cons x l => simp [Places] at h
  | f :: fs, pl, h => by
    cases pl with
    | nil => simp [Places] at h
    | cons x l =>
      simp only [Places, List.map_cons, List.cons.injEq, Prod.mk.injEq] at h
      obtain ⟨⟨h1, h2⟩, h3⟩ := h
      cases hi : P.info? f.type with
      | none => rw [hi] at h2; cases h2
      | some i =>
        rw [hi] at h2
        have h2 : i.size = x.2 := by simpa using h2
        have ih := run_places w fs l h3
        rw [List.mapM_cons]
        have hs : (sizeOf f.type).run P w = .ok x.2 w := by simp [sizeOf, typeInfo, hi, h2]
        simp only [Sem.run_bind, hs, ih, Result.andThen_ok, Sem.run_pure, h1]
section
variable {P : Program} {n : Nat} {o : Oper} {E : Env} {H : Heap} {v : Value} {x y : Operand} {T : TypeId}
theorem yBuild {fs : List Field} {pl : List (Nat × Nat)} {ps : List (Nat × Operand)} {vs : List (Nat × Value)} {z : Value} {zs cs : List Value} (ho : o.op = .build T ps.toArray) (hT : P.underlying T = some (.struct fs.toArray)) (hz : ∀ w, (zeroValue T).run P w = .ok z w) (hzs : z.cells = zs.toArray) (hpl : Places P fs pl)
    (hp : pv n E ps = vs) (hf : fillL pl zs vs = some cs) : Yld P n o E H (.agg cs.toArray) := fun w _ => by
  have h1 : (fs.toArray.mapM (fun f : Field => (do pure (f.offset, ← sizeOf f.type) : Sem (Nat × Nat)))).run P w = .ok pl.toArray w := by
    rw [List.mapM_toArray, map_eq_pure_bind]
    have := run_places w fs pl hpl
    simp only [Sem.run_bind, this, Result.andThen_ok, Sem.run_pure]
  have h2 : (ps.toArray.map fun p => (p.1, ev n E p.2)).toList = vs := by rw [← hp, pv_map]; simp
  have h3 := fill_list pl vs zs cs hf
  have hrun : (Instr.build T (ps.toArray.map fun x => (x.1, ev n E x.2))).run P w = .ok (.agg cs.toArray) w := by
    unfold Instr.build
    simp only [Sem.run_bind, hz, Result.andThen_ok, run_underlying hT, h1, hzs]
    rw [h2, h3]
    simp
  unfold execOp
  simp only [ho]
  simp only [Sem.run_bind, hrun, Result.andThen_ok, Sem.run_pure]
/-- A shift to the left. -/
theorem yShl {yT : TypeId} {k : Int} {b : Int} {a : Int} (ho : o.op = .binOp .shl T x y yT) (hx : ev n E x = .int .i64 a) (hy : ev n E y = .int .i64 b) (h0 : 0 ≤ b ∧ b ≤ 64) (hk : IntKind.i64.wrap (a * 2 ^ b.toNat) = k) : Yld P n o E H (.int .i64 k) := yBin ho hx hy fun w => by
  have hb : ¬ b < 0 := by omega
  have hm : min b.toNat 64 = b.toNat := by omega
  have hr : (Op.shift .shl .i64 a .i64 b).run P w = .ok (.int .i64 k) w := by
    unfold Op.shift
    rw [if_neg hb]
    show Sem.run P (pure (Value.int .i64 (IntKind.i64.wrap (a * 2 ^ (min b.toNat 64))))) w = _
    rw [hm, hk]
    rfl
  simpa [binOp] using hr
end

/- CALLS OF FUNCTION VALUES -/
section
variable {P : Program} {n : Nat} {o : Oper} {E : Env} {H : Heap} {K : Value → Heap → Prop} {x : Operand}
theorem stepCallV {f : FuncId} {as : List Operand} {ts : Array TypeId} {args first cap : List Value} (ho : o.op = .call { callee := .value x, args := as.toArray, argTypes := ts })
    (hf : ∀ (args : Array Value) (w : World), (callFunc f args).run P w = .ok (.enter f args) w) (hx : ev n E x = .func (.func f) first.toArray cap.toArray) (ha : first ++ evs n E as ++ cap = args) (h : CallsH P f args H K) : Step P n o E H K := by
  intro w0 w hs hw
  have hr : (execOp (ev n E) o).run P w = .ok (.enter f args.toArray) w := by
    subst ha
    unfold execOp
    simp only [ho, resolve, Deferred.ofValue, invoke, evs_map]
    simp [hx, hf]
  rw [hr]
  exact (h w hw).mono fun e w' ⟨v, he, hs', hk⟩ => ⟨v, he, hs.trans hs', hk⟩
end

/- RESULTS THAT ARE VARIABLES -/
section
variable {P : Program} {n : Nat} {E : Env} {H : Heap} {fn : Func} {R : Value → Heap → Prop}
def resOf (tmps : Array Value) : ResultVar → Sem Value
  | .tmp t => pure (tmps.getD t undef)
  | .cell a t => do loadVar t (← asAddr (tmps.getD a undef))
def ResV (P : Program) (n : Nat) (E : Env) (H : Heap) (r : ResultVar) (v : Value) : Prop := ∀ w : World, w.heap = H → (resOf (act n E).tmps r).run P w = .ok v w
variable {a b c : ResultVar} {t g : Nat} {v v' v'' : Value} {T T' : TypeId} {d : TypeDesc} {cs : List Value}
theorem resT (h : ev n E (.tmp t) = v) : ResV P n E H (.tmp t) v := fun w _ => by
  have := getD_act n E t
  simp only [resOf, this, h]
  simp
theorem resC (hT : P.underlying T = some d) (hd : aggD d = true) (hs : (P.info? T).map (·.size) = some cs.length) (h : ev n E (.tmp t) = .pointer (some ⟨g, 0, none⟩)) (hB : Blk H g cs T') : ResV P n E H (.cell t T) (.agg cs.toArray) := fun w hw => by
  have hl : (loadCells ⟨g, 0, none⟩ cs.length).run P w = .ok cs.toArray w :=
    run_loadCells_list (P := P) w ⟨g, 0, none⟩ cs fun j v hv => (cell_wd hw _).trans (hB.cell hv)
  obtain ⟨i, hi, hi2⟩ : ∃ i, P.info? T = some i ∧ i.size = cs.length := by
    cases hi : P.info? T with
    | none => rw [hi] at hs; cases hs
    | some i => rw [hi] at hs; exact ⟨i, rfl, by simpa using hs⟩
  have hv : (loadVar T ⟨g, 0, none⟩).run P w = .ok (.agg cs.toArray) w := by
    simp [loadVar, run_isAgg w hT, hd, sizeOf, typeInfo, hi, hi2, hl]
  have := getD_act n E t
  simp only [resOf, this, h]
  simp [asAddr, hv]
/-- A cell of one word. -/
theorem resC1 (hT : P.underlying T = some d) (hd : aggD d = false) (h : ev n E (.tmp t) = .pointer (some ⟨g, 0, none⟩)) (hB : Blk H g [v] T') : ResV P n E H (.cell t T) v := fun w hw => by
  have hc : w.cell? ⟨g, 0, none⟩ = some v := (cell_wd hw _).trans (hB.at0 0)
  have hv : (loadVar T ⟨g, 0, none⟩).run P w = .ok v w := by
    simp [loadVar, run_isAgg w hT, hd, load, Sem.run, hc]
  have := getD_act n E t
  simp only [resOf, this, h]
  simp [asAddr, hv]
theorem results_eq (fn : Func) (tmps : Array Value) : results fn tmps = (do let vs ← fn.results.mapM (resOf tmps); pure (if h : vs.size = 1 then vs[0] else .tuple vs)) := by
  unfold results
  congr 2
theorem finR1 (hr : fn.results = #[a]) (h1 : ResV P n E H a v) (h : R v H) : Fin P n fn R E H := ⟨v, fun w hw => by rw [results_eq, hr]; simp [h1 w hw], h⟩
theorem finR2 (hr : fn.results = #[a, b]) (h1 : ResV P n E H a v) (h2 : ResV P n E H b v') (h : R (.tuple #[v, v']) H) : Fin P n fn R E H := ⟨.tuple #[v, v'], fun w hw => by rw [results_eq, hr]; simp [h1 w hw, h2 w hw], h⟩
theorem finR3 (hr : fn.results = #[a, b, c]) (h1 : ResV P n E H a v) (h2 : ResV P n E H b v') (h3 : ResV P n E H c v'') (h : R (.tuple #[v, v', v'']) H) : Fin P n fn R E H := ⟨.tuple #[v, v', v''], fun w hw => by rw [results_eq, hr]; simp [h1 w hw, h2 w hw, h3 w hw], h⟩
end
/- WAYS THAT MEET INSIDE A REGION -/
section
variable {P : Program} {n : Nat} {ops : List Oper} {K : Env → Heap → Prop} {l : List Oper} {E : Env} {H : Heap}
theorem over_upd {W : List Nat} {E E' : Env} {d : Nat} {v : Value} (ha : Agree W E E') (he : E' d = v) : E' = upd (over W E' E) d v := by
  have h1 := ha.eta
  rw [← h1]
  exact upd_eta he
theorem seqMeet (k : Nat) (W : List Nat) (d : Nat) (r : Bool) (h : (∀ E', Agree W E E' → E' d = .bool r → Seq P n ops K (ops.drop k) E' H) → Seq P n ops K l E H) (hk : ∀ J, Seq P n ops K (ops.drop k) (upd (over W J E) d (.bool r)) H) : Seq P n ops K l E H :=
  h fun E' ha he => by
    have := hk E'
    rwa [← over_upd ha he] at this
variable {kd : List Kd} {Ms : List Nat} {H0 : Heap} {M0 : List Nat} {L : List Nat} {Hc : Heap} {M : List Nat} {N : List NF}
theorem lexMeet (L' : List Nat) (W : List Nat) (d : Nat) (r : Bool) (h : (∀ E', Agree W E E' → E' d = .bool r → Lex P n ops kd Ms H0 M0 K L' E' Hc M N) → Lex P n ops kd Ms H0 M0 K L E Hc M N) (hk : ∀ J, Lex P n ops kd Ms H0 M0 K L' (upd (over W J E) d (.bool r)) Hc M N) : Lex P n ops kd Ms H0 M0 K L E Hc M N :=
  h fun E' ha he => by
    have := hk E'
    rwa [← over_upd ha he] at this
end
/- STORES OF STRUCTS INTO A PART OF A BLOCK; COMPOSITE LITERALS WITH GAPS -/
section
variable {P : Program} {n : Nat} {o : Oper} {E : Env} {H : Heap} {K : Value → Heap → Prop} {x y : Operand}
theorem stepStoreSeg {T T' : TypeId} {cs vs : List Value} {g off : Nat} (ho : o.op = .store T x y) (hs : (P.info? T).map (·.size) = some vs.length) (hx : ev n E x = .pointer (some ((⟨g, 0, none⟩ : Addr).add off))) (hy : ev n E y = .agg vs.toArray) (h1 : vs.all (·.oneCell') = true)
    (hB : Blk H g cs T') (hl : off + vs.length ≤ cs.length) (hk : ∀ H', Blk H' g (cs.take off ++ vs ++ cs.drop (off + vs.length)) T' → Keep [g] H H' → K undef H') : Step P n o E H K := by
  intro w0 w hw0 hw
  subst hw
  rw [add_head] at hx
  obtain ⟨i, hi, hi2⟩ : ∃ i, P.info? T = some i ∧ i.size = vs.length := by
    cases hi : P.info? T with
    | none => rw [hi] at hs; cases hs
    | some i => rw [hi] at hs; exact ⟨i, rfl, by simpa using hs⟩
  have hst := run_storeCells_at (P := P) g off T' vs 0 cs.toArray w hB (by simpa using hl) (fun v hv => (List.all_eq_true.1 h1) v hv)
  simp only [Nat.add_zero] at hst
  have hr : (Instr.storeAt T (.pointer (some ⟨g, off, none⟩)) (.agg vs.toArray)).run P w = .ok () (w.setRow g (cs.take off ++ vs ++ cs.drop (off + vs.length)).toArray) := by
    simp [Instr.storeAt, Instr.sureAddr, storeVar, sizeOf, typeInfo, hi, hi2, Value.cells, hst]
  have hex : (execOp (ev n E) o).run P w = .ok .skip (w.setRow g (cs.take off ++ vs ++ cs.drop (off + vs.length)).toArray) := by
    unfold execOp
    simp only [ho, hx, hy]
    simp [hr]
  rw [hex]
  refine ⟨⟨hw0.os, hw0.tape, hw0.output⟩, hk _ ?_ ⟨by simp, fun b _ hm => ?_⟩⟩
  · exact setRow_heap w g cs.toArray _ T' _ hB
  · exact setRow_other w g b _ (by simpa using hm)
def fillS (m sz : Nat) : List Value → List (Nat × Value) → Option (List Value)
  | cs, [] => some cs
  | cs, (i, v) :: rest => if Nat.beq (cellsL v).length sz && Nat.ble (i * sz + sz) cs.length then fillS m sz (cs.take (i * sz) ++ cellsL v ++ cs.drop (i * sz + sz)) rest else none
theorem fill_gaps (m sz : Nat) : ∀ (vs : List (Nat × Value)) (zs cs : List Value), fillS m sz zs vs = some cs → Instr.fill (fun i => some (i * sz, sz)) zs.toArray vs = some cs.toArray
  | [], zs, cs, h => by simp only [fillS, Option.some.injEq] at h; simp [Instr.fill, h]
  | (i, v) :: rest, zs, cs, h => by
    unfold fillS at h
    unfold Instr.fill
    simp only
    split at h
    · rename_i hc
      simp only [Bool.and_eq_true, Nat.beq_eq, Nat.ble_eq] at hc
      have hsz : v.cells.size = sz := by rw [← Array.length_toList, cellsL_eq]; exact hc.1
      rw [if_neg (by simp [hsz]; omega)]
      have hf := fold_seg (i * sz) v.cells.toList 0 zs.toArray (by simp only [Array.length_toList, hsz, List.size_toArray]; omega)
      have e : (v.cells.zipIdx.foldl (fun cs x => cs.setIfInBounds (i * sz + x.2) x.1) zs.toArray) = (zs.take (i * sz) ++ cellsL v ++ zs.drop (i * sz + sz)).toArray := by
        apply Array.ext'
        rw [List.toList_toArray]
        simp only [Nat.add_zero, Array.length_toList, hsz] at hf
        rw [← cellsL_eq, ← hf, ← Array.foldl_toList, Array.toList_zipIdx]
      rw [e]
      exact fill_gaps m sz rest _ _ h
    · cases h
variable {T : TypeId}
theorem nBuildSliceG {e sz : Nat} {z : Value} {ps : List (Nat × Operand)} {m : Nat} {vs : List (Nat × Value)} {zs cs : List Value} (ho : o.op = .buildSlice T m ps.toArray) (hT : P.underlying T = some (.slice e)) (hs : ∀ w, (sizeOf e).run P w = .ok sz w) (hz : ∀ w, (zeroValue e).run P w = .ok z w)
    (hp : pv n E ps = vs) (hm : m * sz ≠ 0) (hb : Nat.ble (m * sz) 16777216 = true) (hzs : ((Array.range (m * sz)).map (z.cells[· % z.cells.size]!)) = zs.toArray) (hcs : fillS m sz zs vs = some cs) : NBlk P n o E (fun p => .slice (some p) m m) cs e := fun w => by
  have hb' : ¬ (m * sz > 2 ^ 24) := by have := Nat.le_of_ble_eq_true hb; omega
  have hfill := fill_gaps m sz vs zs cs hcs
  have hmap : (ps.toArray.map fun p => (p.1, ev n E p.2)).toList = vs := by rw [← hp, pv_map]; simp
  unfold execOp
  simp only [ho]
  have hrun : (Instr.buildSlice T m (ps.toArray.map fun x => (x.1, ev n E x.2))).run P w = .ok (.slice (some ⟨w.heap.size, 0, none⟩) m m) (w.alloc (.cells cs.toArray e)) := by
    unfold Instr.buildSlice
    simp only [Sem.run_bind, run_underlying hT, Result.andThen_ok, hs, if_neg hb', hmap, hm, if_false, hz, Sem.run_pure, hzs]
    rw [hfill]
    simp [newRow, newObj, Sem.run]
  simp only [Sem.run_bind, hrun, Result.andThen_ok, Sem.run_pure]
end
/- STORES INSIDE DRAWN REGIONS -/
section
variable {P : Program} {n : Nat} {ops : List Oper} {kd : List Kd} {Ms : List Nat} {H0 : Heap} {M0 : List Nat} {K : Env → Heap → Prop} {i : Nat} {l : List Nat} {o : Oper} {E : Env} {Hc : Heap} {M : List Nat} {N : List NF}
theorem lexE00 (hn : noN kd = true) (ho : ops[i]? = some o) (hk : nthK kd i = .e) (hd : o.dst = none) (hg : wantE ops n E o = true)
    (h : Keep M0 H0 Hc → Step P n o E Hc fun _ H1 => Keep M Hc H1 ∧ ∃ M', (∀ b ∈ M', (b ∈ M ∨ Hc.size ≤ b) ∧ b < H1.size) ∧ Lex P n ops kd Ms H0 M0 K l E H1 M' N) :
    Lex P n ops kd Ms H0 M0 K (i :: l) E Hc M N := by
  intro o' ho'
  obtain rfl : o = o' := Option.some.inj (ho.symm.trans ho')
  refine ⟨fun h' => (by rw [hg] at h'; cases h'), fun _ => ?_⟩
  simp only [hk, hd]
  intro H hx hM _
  obtain rfl := hx.2 hn
  exact (h hM).mono fun _ _ h => postOf h
theorem lexE1 (ho : ops[i]? = some o) (hk : nthK kd i = .e) (hd : o.dst = none) (hg : wantE ops n E o = true)
    (h : ∀ H, Ext Hc H → Keep M0 H0 H → Made Ms i N H → Step P n o E H fun _ H1 => Keep M H H1 ∧ ∃ M', (∀ b ∈ M', (b ∈ M ∨ H.size ≤ b) ∧ b < H1.size) ∧ Lex P n ops kd Ms H0 M0 K l E H1 M' N) :
    Lex P n ops kd Ms H0 M0 K (i :: l) E Hc M N := by
  intro o' ho'
  obtain rfl : o = o' := Option.some.inj (ho.symm.trans ho')
  refine ⟨fun h' => (by rw [hg] at h'; cases h'), fun _ => ?_⟩
  simp only [hk, hd]
  exact fun H hx hM hN => (h H hx.1 hM fun x hx hb => (hN x hx hb).1).mono fun _ _ h => postOf h
/-- A store into a block that the region has made: from here on the block is like any other that may turn. -/
theorem lexES {g : Nat} (N' : List NF) (ho : ops[i]? = some o) (hk : nthK kd i = .e) (hd : o.dst = none) (hg : wantE ops n E o = true) (hg0 : H0.size ≤ g) (hgN : ∃ x ∈ N, x.g = g) (hb : ∀ x ∈ N, x.g = g → (nthN Ms i).testBit x.i = true) (hN' : ∀ x ∈ N', x ∈ N ∧ x.g ≠ g)
    (h : ∀ H, Ext Hc H → Keep M0 H0 H → (∀ x ∈ N, (nthN Ms i).testBit x.i = true → H[x.g]? = some x.o ∧ x.g ∉ M) → Step P n o E H fun _ H1 => Keep [g] H H1 ∧ (∀ b ∈ M, b < H.size) ∧ Lex P n ops kd Ms H0 M0 K l E H1 (g :: M) N') :
    Lex P n ops kd Ms H0 M0 K (i :: l) E Hc M N := by
  intro o' ho'
  obtain rfl : o = o' := Option.some.inj (ho.symm.trans ho')
  refine ⟨fun h' => (by rw [hg] at h'; cases h'), fun _ => ?_⟩
  simp only [hk, hd]
  intro H hx hM hN
  refine (h H hx.1 hM hN).mono ?_
  rintro v H1 ⟨hkeep, hlt, hl⟩
  obtain ⟨x, hxN, e⟩ := hgN
  have hgl : g < H.size := by
    subst e
    exact (Array.getElem?_eq_some_iff.1 (hN x hxN (hb x hxN rfl)).1).1
  refine ⟨[g], g :: M, N', fun b hb => ?_, hkeep.mono (by simp), fun b hb => ?_, fun x hx => ⟨(hN' x hx).1, by simpa using (hN' x hx).2⟩, hl⟩
  · simp at hb
    subst hb
    exact ⟨hg0, x, hxN, e⟩
  · rcases List.mem_cons.1 hb with rfl | hb
    · exact ⟨.inr (.inl (by simp)), Nat.lt_of_lt_of_le hgl hkeep.size⟩
    · exact ⟨.inl hb, Nat.lt_of_lt_of_le (hlt b hb) hkeep.size⟩
theorem lexES0 {x : NF} {N2 : List NF} (ho : ops[i]? = some o) (hk : nthK kd i = .e) (hd : o.dst = none) (hg : wantE ops n E o = true) (hg0 : H0.size ≤ x.g) (hb : (nthN Ms i).testBit x.i = true) (h2 : ∀ z ∈ N2, z.g ≠ x.g)
    (h : ∀ H, Ext Hc H → Keep M0 H0 H → H[x.g]? = some x.o → x.g ∉ M → Step P n o E H fun _ H1 => Keep [x.g] H H1 ∧ (∀ b ∈ M, b < H.size) ∧ Lex P n ops kd Ms H0 M0 K l E H1 (x.g :: M) N2) :
    Lex P n ops kd Ms H0 M0 K (i :: l) E Hc M (x :: N2) :=
  lexES N2 ho hk hd hg hg0 ⟨x, by simp, rfl⟩ (fun z hz e => by
    rcases List.mem_cons.1 hz with rfl | hz
    · exact hb
    · exact absurd e (h2 z hz)) (fun z hz => ⟨by simp [hz], h2 z hz⟩) fun H hx hM hN => h H hx hM (hN x (by simp) hb).1 (hN x (by simp) hb).2
theorem lexES1 {x y : NF} {N2 : List NF} (ho : ops[i]? = some o) (hk : nthK kd i = .e) (hd : o.dst = none) (hg : wantE ops n E o = true) (hg0 : H0.size ≤ x.g) (hb : (nthN Ms i).testBit x.i = true) (h1 : x.g ≠ y.g) (h2 : ∀ z ∈ N2, z.g ≠ x.g)
    (h : ∀ H, Ext Hc H → Keep M0 H0 H → H[x.g]? = some x.o → x.g ∉ M → Step P n o E H fun _ H1 => Keep [x.g] H H1 ∧ (∀ b ∈ M, b < H.size) ∧ Lex P n ops kd Ms H0 M0 K l E H1 (x.g :: M) (y :: N2)) :
    Lex P n ops kd Ms H0 M0 K (i :: l) E Hc M (y :: x :: N2) :=
  lexES (y :: N2) ho hk hd hg hg0 ⟨x, by simp, rfl⟩ (fun z hz e => by
    rcases List.mem_cons.1 hz with rfl | hz
    · exact absurd e.symm h1
    · rcases List.mem_cons.1 hz with rfl | hz
      · exact hb
      · exact absurd e (h2 z hz)) (fun z hz => by
    rcases List.mem_cons.1 hz with rfl | hz
    · exact ⟨by simp, fun e => h1 e.symm⟩
    · exact ⟨by simp [hz], h2 z hz⟩) fun H hx hM hN => h H hx hM (hN x (by simp) hb).1 (hN x (by simp) hb).2
theorem lexSt {g : Nat} {H H' : Heap} (hK : Keep [g] H H') (hg : g ∈ M) (hM : ∀ b ∈ M, b < H.size) (h : Lex P n ops kd Ms H0 M0 K l E H' M N) : Keep M H H' ∧ ∃ M', (∀ b ∈ M', (b ∈ M ∨ H.size ≤ b) ∧ b < H'.size) ∧ Lex P n ops kd Ms H0 M0 K l E H' M' N :=
  ⟨hK.mono (by simpa using hg), M, fun b hb => ⟨.inl hb, Nat.lt_of_lt_of_le (hM b hb) hK.size⟩, h⟩
end
end Go.Proofs.Ytcfnmklbkhibgaa
