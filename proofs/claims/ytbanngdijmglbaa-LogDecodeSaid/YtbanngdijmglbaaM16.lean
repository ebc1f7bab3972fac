/- Package log: the document's example. -/
import Derived.Test.YtbanngdijmglbaaM15
import Derived.Test.YtbanngdijmglbaaLJ
namespace Go.Proofs.Ytbanngdijmglbaa
open Go.RowKit

set_option maxRecDepth 100000 in
theorem eq_pl (a b : Nat × Nat) (w : World) : (Op.equalIn 10000 64 (.agg (ePl.F a).toArray) (.agg (ePl.F b).toArray)).run Try.prog w = .ok (decide (a = b)) w := by
  have hS : Try.prog.underlying 64 = some (.struct (Try.prog.fieldsOf 64)) := by kernel_rfl
  rw [show (10000 : Nat) = 9999 + 1 from rfl, run_equalIn_struct w 9999 64 _ _ hS (by kernel_rfl)]
  simp only [Program.fieldsOf, Try.underlying64]
  have e : decide (a = b) = (((a.1 : Int) == (b.1 : Int)) && (((a.2 : Int) == (b.2 : Int)) && true)) := by
    obtain ⟨a1, a2⟩ := a
    obtain ⟨b1, b2⟩ := b
    simp only [Bool.and_true]
    rw [Bool.eq_iff_iff]
    simp
    omega
  rw [e]
  exact eqFields_cons (by decide) (part_one _ Try.underlying3 rfl rfl) (part_one _ Try.underlying3 rfl rfl) (fun w => run_equalIn_int w 9998 _ _ _ _ _ Try.underlying3)
    (eqFields_cons (by decide) (part_one _ Try.underlying3 rfl rfl) (part_one _ Try.underlying3 rfl rfl) (fun w => run_equalIn_int w 9998 _ _ _ _ _ Try.underlying3) (fun w => by simp [Op.eqFields])) w
set_option maxRecDepth 100000 in
theorem yNeq_pl {n : Nat} {o : Oper} {E : Env} {H : Heap} {x y : Operand} {yT : TypeId} {a b : Nat × Nat} (ho : o.op = .binOp .neq 64 x y yT) (hx : ev n E x = .agg (ePl.F a).toArray) (hy : ev n E y = .agg (ePl.F b).toArray) : Yld Try.prog n o E H (.bool (!decide (a = b))) := fun w _ => by
  have hg : (eqGuard .neq 64 x y (.agg (ePl.F a).toArray) (.agg (ePl.F b).toArray)).run Try.prog w = .ok () w := by simp [eqGuard]
  have hb := run_neq_struct (P := Try.prog) w 64 (ePl.F a).toArray (ePl.F b).toArray
  rw [eq_pl] at hb
  simp only [Result.andThen_ok] at hb
  unfold execOp
  simp only [ho, hx, hy]
  simp only [Sem.run_bind, hg, hb, Result.andThen_ok, Sem.run_pure]
set_option maxRecDepth 100000 in
theorem yEq_pl {n : Nat} {o : Oper} {E : Env} {H : Heap} {x y : Operand} {yT : TypeId} {a b : Nat × Nat} (ho : o.op = .binOp .eql 64 x y yT) (hx : ev n E x = .agg (ePl.F a).toArray) (hy : ev n E y = .agg (ePl.F b).toArray) : Yld Try.prog n o E H (.bool (decide (a = b))) := fun w _ => by
  have hg : (eqGuard .eql 64 x y (.agg (ePl.F a).toArray) (.agg (ePl.F b).toArray)).run Try.prog w = .ok () w := by simp [eqGuard]
  have hb := run_eql_struct (P := Try.prog) w 64 (ePl.F a).toArray (ePl.F b).toArray
  rw [eq_pl] at hb
  simp only [Result.andThen_ok] at hb
  unfold execOp
  simp only [ho, hx, hy]
  simp only [Sem.run_bind, hg, hb, Result.andThen_ok, Sem.run_pure]
set_option maxRecDepth 100000 in
theorem eq_plR (a b : Nat × Nat) (w : World) : (Op.equalIn 10000 63 (.agg (ePl.F a).toArray) (.agg (ePl.F b).toArray)).run Try.prog w = .ok (decide (a = b)) w := by
  have hS : Try.prog.underlying 63 = some (.struct (Try.prog.fieldsOf 63)) := by kernel_rfl
  rw [show (10000 : Nat) = 9999 + 1 from rfl, run_equalIn_struct w 9999 63 _ _ hS (by kernel_rfl)]
  simp only [Program.fieldsOf, Try.underlying63]
  have e : decide (a = b) = (((a.1 : Int) == (b.1 : Int)) && (((a.2 : Int) == (b.2 : Int)) && true)) := by
    obtain ⟨a1, a2⟩ := a
    obtain ⟨b1, b2⟩ := b
    simp only [Bool.and_true]
    rw [Bool.eq_iff_iff]
    simp
    omega
  rw [e]
  exact eqFields_cons (by decide) (part_one _ Try.underlying3 rfl rfl) (part_one _ Try.underlying3 rfl rfl) (fun w => run_equalIn_int w 9998 _ _ _ _ _ Try.underlying3)
    (eqFields_cons (by decide) (part_one _ Try.underlying3 rfl rfl) (part_one _ Try.underlying3 rfl rfl) (fun w => run_equalIn_int w 9998 _ _ _ _ _ Try.underlying3) (fun w => by simp [Op.eqFields])) w
set_option maxRecDepth 100000 in
theorem yNeq_plR {n : Nat} {o : Oper} {E : Env} {H : Heap} {x y : Operand} {yT : TypeId} {a b : Nat × Nat} (ho : o.op = .binOp .neq 63 x y yT) (hx : ev n E x = .agg (ePl.F a).toArray) (hy : ev n E y = .agg (ePl.F b).toArray) : Yld Try.prog n o E H (.bool (!decide (a = b))) := fun w _ => by
  have hg : (eqGuard .neq 63 x y (.agg (ePl.F a).toArray) (.agg (ePl.F b).toArray)).run Try.prog w = .ok () w := by simp [eqGuard]
  have hb := run_neq_struct (P := Try.prog) w 63 (ePl.F a).toArray (ePl.F b).toArray
  rw [eq_plR] at hb
  simp only [Result.andThen_ok] at hb
  unfold execOp
  simp only [ho, hx, hy]
  simp only [Sem.run_bind, hg, hb, Result.andThen_ok, Sem.run_pure]
set_option maxRecDepth 100000 in
theorem yEq_plR {n : Nat} {o : Oper} {E : Env} {H : Heap} {x y : Operand} {yT : TypeId} {a b : Nat × Nat} (ho : o.op = .binOp .eql 63 x y yT) (hx : ev n E x = .agg (ePl.F a).toArray) (hy : ev n E y = .agg (ePl.F b).toArray) : Yld Try.prog n o E H (.bool (decide (a = b))) := fun w _ => by
  have hg : (eqGuard .eql 63 x y (.agg (ePl.F a).toArray) (.agg (ePl.F b).toArray)).run Try.prog w = .ok () w := by simp [eqGuard]
  have hb := run_eql_struct (P := Try.prog) w 63 (ePl.F a).toArray (ePl.F b).toArray
  rw [eq_plR] at hb
  simp only [Result.andThen_ok] at hb
  unfold execOp
  simp only [ho, hx, hy]
  simp only [Sem.run_bind, hg, hb, Result.andThen_ok, Sem.run_pure]
def exS : Evt := ⟨0, true, 1, 0, []⟩
def exR : Evt := ⟨1, false, 0, 0, []⟩
set_option maxRecDepth 100000 in
theorem ex_send : sendL [] 0 2 exS = (0, [⟨exS, [1, 0]⟩]) := by decide
set_option maxRecDepth 100000 in
theorem ex_recv : recvL [] 1 2 exR [1, 0] = (0, [⟨exR, [1, 1]⟩]) := by decide
set_option maxRecDepth 100000 in
theorem ex_merge : mergeL [[⟨exS, [1, 0]⟩], [⟨exR, [1, 1]⟩]] = (0, [(0, 0), (1, 0)]) := by decide
set_option maxRecDepth 100000 in
theorem ex_right : rightL [[⟨exS, [1, 0]⟩], [⟨exR, [1, 1]⟩]] := by decide
set_option maxRecDepth 100000 in
theorem one_log {l : List EH} {e : Ent} (h : l.map EH.ent = [e]) : ∃ x : EH, l = [x] ∧ x.ev = e.ev ∧ x.clk = e.clk := by
  match l, h with
  | [x], h =>
    have := List.head_eq_of_cons_eq h
    exact ⟨x, rfl, by rw [← this]; rfl, by rw [← this]; rfl⟩
set_option maxRecDepth 100000 in
theorem logAwake_c (H : Heap) : CallsH Try.prog 10 [] H fun v H' => v = .bool true ∧ Ext H H' := by
  refine callsH_of Try.func10 rfl Try.ntmps10 (Nat.le_of_ble_eq_true rfl) ?_
  refine wpSeq fun F1 hF1 => ?_
  refine wpRegion ?_
  refine seqQ rfl rfl (yAssign (v := .bool _) rfl rfl) ?_
  refine seqNil ?_
  refine hF1 _ _ ?_; clear hF1
  refine wpSeq fun F2 hF2 => ?_
  refine wpRegion ?_
  refine seqQ rfl rfl (yBuild (pl := [(0, 1), (1, 1), (2, 1), (3, 1), (4, 1)]) (vs := [(1, .bool _), (2, .int _ _)]) rfl Try.underlying26 Try.zeroValue26 rfl (by unfold Places; kernel_rfl) rfl rfl) ?_
  -- e slot 9: call F13<farandole/log.Send> [nilslice:0:0] [i:i64:0] [i:i64:2] t8
  refine seqE rfl rfl (stepCall rfl Try.call13 rfl ?_)
  refine (send_c [] none 0 0 2 exS none 0 H (LogRd.nil _ _) ⟨Nat.zero_le _, fun x h => by cases h⟩ (Rd.nil _ _) (Nat.zero_le _)).mono ?_
  rintro v H1 ⟨B1, c1, l1, rfl, lo1, hm1, x1⟩
  rw [List.map_nil, ex_send] at hm1 ⊢
  obtain ⟨xa, rfl, xe, xc⟩ := one_log hm1
  have hE := x1
  refine seqQ rfl rfl (yMove (v := .tuple _) rfl rfl) ?_
  refine seqQ rfl rfl (yExtract (v := .slice _ _ _) rfl rfl rfl) ?_
  refine seqQ rfl rfl (yExtract (v := .int _ _) rfl rfl rfl) ?_
  refine seqQ rfl rfl (yAssign (v := .slice _ _ _) rfl rfl) ?_
  refine seqQ rfl rfl (yAssign (v := .int _ _) rfl rfl) ?_
  refine seqNil ?_
  refine hF2 _ _ ?_; clear hF2
  refine wpSeq fun F3 hF3 => ?_
  refine wpSeq fun F4 hF4 => ?_
  refine wpRegion ?_
  refine seqQ rfl rfl (yMove (v := .int _ _) rfl rfl) ?_
  refine seqQ rfl rfl (yNeq rfl rfl rfl) ?_
  refine seqQ rfl rfl (yMove (v := .bool false) rfl rfl) ?_
  refine seqQ rfl rfl (yMove (v := .slice _ _ _) rfl rfl) ?_
  refine seqQ rfl rfl (yLen rfl Try.underlying35 rfl) ?_
  refine seqQ rfl rfl (yNeq rfl rfl rfl) ?_
  refine seqQ rfl rfl (yPickF (v := .bool _) rfl rfl rfl) ?_
  refine seqNil ?_
  refine hF4 _ _ ?_; clear hF4
  -- if t18
  refine wpF rfl ?_
  have r1 := lo1.rd
  obtain ⟨q1, eq1, hq1⟩ := r1.1.at (k := 0) (by simp)
  replace hq1 : ∀ j u, (ehF xa)[j]? = some u → cellH H1 ((q1.add 0).add j) = some u := fun j u hu => by have := hq1 j u hu; simpa using this
  refine wpSkip ?_
  refine hF3 _ _ ?_; clear hF3
  refine wpSeq fun F5 hF5 => ?_
  refine wpRegion ?_
  refine seqQ rfl rfl (yBuild (pl := [(0, 1), (1, 1), (2, 1), (3, 1), (4, 1)]) (vs := [(0, .int _ _)]) rfl Try.underlying26 Try.zeroValue26 rfl (by unfold Places; kernel_rfl) rfl rfl) ?_
  refine seqQ rfl rfl (yMove (v := .slice _ _ _) rfl rfl) ?_
  refine seqQ rfl rfl (yIdxP rfl Try.underlying35 Try.sizeOf72 rfl rfl eq1 rfl (show 0 < 1 by decide)) ?_
  refine seqQ rfl rfl (yFieldAddr rfl Try.underlying72 rfl Try.sizeOf44 rfl rfl) ?_
  refine seqQ rfl rfl (yLoad rfl Try.underlying44 rfl rfl (show cellH H1 _ = some (.slice xa.CA xa.clk.length xa.cc) from hq1 5 _ rfl)) ?_
  -- e slot 25: call F15<farandole/log.Receive> [nilslice:0:0] [i:i64:1] [i:i64:2] t20 t24
  refine seqE rfl rfl (stepCall rfl Try.call15 rfl ?_)
  refine (receiveL_c [] none 0 1 2 exR none 0 xa.clk xa.CA xa.cc H1 (LogRd.nil _ _) ⟨Nat.zero_le _, fun x h => by cases h⟩ (Rd.nil _ _) (Nat.zero_le _) (r1.2 xa (List.mem_singleton_self _)).2 (by rw [xc]; decide)).mono ?_
  rintro v H2 ⟨B2, c2, l2, rfl, lo2, hm2, x2⟩
  rw [List.map_nil, xc, ex_recv] at hm2 ⊢
  obtain ⟨xb, rfl, ye, yc⟩ := one_log hm2
  replace hE := hE.trans x2
  have r12 := r1.ext x2
  have r2 := lo2.rd
  have sm : LogsSm [⟨B1, c1, [xa]⟩, ⟨B2, c2, [xb]⟩] := ⟨by simp, by
    have za : LogSm [xa] := ⟨by simp, fun x hx => by rw [List.mem_singleton.1 hx, xe, xc]; exact ⟨by decide, by decide⟩⟩
    have zb : LogSm [xb] := ⟨by simp, fun x hx => by rw [List.mem_singleton.1 hx, ye, yc]; exact ⟨by decide, by decide⟩⟩
    intro L hL
    rcases List.mem_cons.1 hL with rfl | hL
    · exact za
    · rw [List.mem_singleton.1 hL]; exact zb⟩
  have eL : entsL [⟨B1, c1, [xa]⟩, ⟨B2, c2, [xb]⟩] = [[⟨exS, [1, 0]⟩], [⟨exR, [1, 1]⟩]] := by
    unfold entsL LH.ents
    simp only [List.map_cons, List.map_nil] at hm1 hm2 ⊢
    rw [hm1, hm2]
  have rls : ∀ {H' : Heap} {g : Nat}, Ext H2 H' → Blk H' g [.slice B1 1 c1, .slice B2 1 c2] 35 → LogsRd H' (some ⟨g, 0, none⟩) [⟨B1, c1, [xa]⟩, ⟨B2, c2, [xb]⟩] := fun hx hB => ⟨Blk.rd (c := eLH) (l := [⟨B1, c1, [xa]⟩, ⟨B2, c2, [xb]⟩]) hB, by
    intro L hL
    rcases List.mem_cons.1 hL with rfl | hL
    · exact r12.ext hx
    · rw [List.mem_singleton.1 hL]; exact r2.ext hx⟩
  obtain ⟨q2, eq2, hq2⟩ := r2.1.at (k := 0) (by simp)
  replace hq2 : ∀ j u, (ehF xb)[j]? = some u → cellH H2 ((q2.add 0).add j) = some u := fun j u hu => by have := hq2 j u hu; simpa using this
  refine seqQ rfl rfl (yMove (v := .tuple _) rfl rfl) ?_
  refine seqQ rfl rfl (yExtract (v := .slice _ _ _) rfl rfl rfl) ?_
  refine seqQ rfl rfl (yExtract (v := .int _ _) rfl rfl rfl) ?_
  refine seqQ rfl rfl (yAssign (v := .slice _ _ _) rfl rfl) ?_
  refine seqQ rfl rfl (yAssign (v := .int _ _) rfl rfl) ?_
  refine seqNil ?_
  refine hF5 _ _ ?_; clear hF5
  refine wpSeq fun F6 hF6 => ?_
  refine wpRegion ?_
  refine seqQ rfl rfl (yMove (v := .slice _ _ _) rfl rfl) ?_
  refine seqQ rfl rfl (yMove (v := .slice _ _ _) rfl rfl) ?_
  refine seqN rfl rfl (nBuildSlice (vs := [.slice _ _ _, .slice _ _ _]) rfl Try.underlying36 Try.sizeOf35 Try.zeroValue35 rfl rfl rfl rfl) (fun g31 H31 hx31 hB31 hg31 hl31 => ?_)
  -- e slot 32: call F24<farandole/log.Merge> t31
  refine seqE rfl rfl (stepCall rfl Try.call24 rfl ?_)
  have hmc := merge_c [⟨B1, c1, [xa]⟩, ⟨B2, c2, [xb]⟩] (some ⟨g31, 0, none⟩) 2 H31 (rls hx31 hB31) sm
  rw [eL, ex_merge] at hmc
  refine hmc.mono ?_
  rintro v H3 ⟨O, oc, rfl, oo, x3⟩
  have x13 := hx31.trans x3
  obtain ⟨q3, eq3, hq3⟩ := (Own.rd oo).2.at (k := 0) (by simp)
  replace hq3 : ∀ j u, (ePl.F (0, 0))[j]? = some u → cellH H3 ((q3.add 0).add j) = some u := fun j u hu => by have := hq3 j u hu; simpa using this
  refine seqQ rfl rfl (yMove (v := .tuple _) rfl rfl) ?_
  refine seqQ rfl rfl (yExtract (v := .slice _ _ _) rfl rfl rfl) ?_
  refine seqQ rfl rfl (yExtract (v := .int _ _) rfl rfl rfl) ?_
  refine seqQ rfl rfl (yAssign (v := .slice _ _ _) rfl rfl) ?_
  refine seqQ rfl rfl (yAssign (v := .int _ _) rfl rfl) ?_
  refine seqNil ?_
  refine hF6 _ _ ?_; clear hF6
  refine wpSeq fun F7 hF7 => ?_
  refine wpRegion ?_
  refine seqQ rfl rfl (yMove (v := .int _ _) rfl rfl) ?_
  refine seqQ rfl rfl (yEql rfl rfl rfl) ?_
  refine seqQ rfl rfl (yMove (v := .bool true) rfl rfl) ?_
  refine seqQ rfl rfl (yMove (v := .slice _ _ _) rfl rfl) ?_
  refine seqQ rfl rfl (yLen rfl Try.underlying35 rfl) ?_
  refine seqQ rfl rfl (yEql rfl rfl rfl) ?_
  refine seqQ rfl rfl (yPickT (v := .bool _) rfl rfl rfl) ?_
  refine seqQ rfl rfl (yMove (v := .bool true) rfl rfl) ?_
  refine seqQ rfl rfl (yMove (v := .slice _ _ _) rfl rfl) ?_
  refine seqQ rfl rfl (yIdxP rfl Try.underlying35 Try.sizeOf72 rfl rfl eq2 rfl (show 0 < 1 by decide)) ?_
  refine seqQ rfl rfl (yFieldAddr rfl Try.underlying72 rfl Try.sizeOf44 rfl rfl) ?_
  refine seqQ rfl rfl (yLoad rfl Try.underlying44 rfl rfl (show cellH H3 _ = some (.slice xb.CA xb.clk.length xb.cc) from x13.cell (hq2 5 _ rfl))) ?_
  refine seqN rfl rfl (nBuildSlice (vs := [.int _ _, .int _ _]) rfl Try.underlying44 Try.sizeOf3 Try.zeroValue3 rfl rfl rfl rfl) (fun g47 H47 hx47 hB47 hg47 hl47 => ?_)
  -- e slot 48: call F34<farandole/vclock.Equal> t46 t47
  refine seqE rfl rfl (stepCall rfl Try.call34 rfl ?_)
  have hcl : xb.clk = [1, 1] := yc
  refine (equal_c xb.CA (some ⟨g47, 0, none⟩) xb.cc 2 xb.clk [1, 1] H47 ((r2.2 xb (List.mem_singleton_self _)).2.ext (x13.trans hx47)) (Blk.rd (c := eInt) (l := [1, 1]) hB47) (by rw [hcl]; decide) (by decide)).mono ?_
  rintro v Hz ⟨hv, e⟩
  obtain rfl : v = .bool true := hv.trans (by rw [decide_eq_true hcl])
  obtain rfl := e.symm
  clear e
  refine seqQ rfl rfl (yPickT (v := .bool _) rfl rfl rfl) ?_
  refine seqQ rfl rfl (yMove (v := .bool true) rfl rfl) ?_
  refine seqQ rfl rfl (yMove (v := .int _ _) rfl rfl) ?_
  refine seqQ rfl rfl (yEql rfl rfl rfl) ?_
  refine seqQ rfl rfl (yPickT (v := .bool _) rfl rfl rfl) ?_
  refine seqQ rfl rfl (yMove (v := .bool true) rfl rfl) ?_
  refine seqQ rfl rfl (yMove (v := .slice _ _ _) rfl rfl) ?_
  refine seqQ rfl rfl (yLen rfl Try.underlying55 rfl) ?_
  refine seqQ rfl rfl (yEql rfl rfl rfl) ?_
  refine seqQ rfl rfl (yPickT (v := .bool _) rfl rfl rfl) ?_
  refine seqQ rfl rfl (yMove (v := .bool true) rfl rfl) ?_
  refine seqQ rfl rfl (yMove (v := .slice _ _ _) rfl rfl) ?_
  refine seqQ rfl rfl (yIdxP rfl Try.underlying55 Try.sizeOf64 rfl rfl eq3 rfl (show 0 < 2 by decide)) ?_
  refine seqQ rfl rfl (yLoadC (cs := ePl.F (0, 0)) rfl Try.underlying64 rfl Try.sizeOf64 rfl (fun j u hu => hx47.cell (hq3 j u hu))) ?_
  refine seqQ rfl rfl (yBuild (pl := [(0, 1), (1, 1)]) (vs := []) rfl Try.underlying64 Try.zeroValue64 rfl (by unfold Places; kernel_rfl) rfl rfl) ?_
  refine seqQ rfl rfl (yEq_pl (a := (0, 0)) (b := (0, 0)) rfl rfl rfl) ?_
  refine seqQ rfl rfl (yPickT (v := .bool _) rfl rfl rfl) ?_
  -- guard t66
  rw [decide_eq_true (rfl : ((0 : Nat), (0 : Nat)) = (0, 0))]
  refine seqQ rfl rfl (yMove (v := .bool true) rfl rfl) ?_
  refine seqQ rfl rfl (yMove (v := .slice _ _ _) rfl rfl) ?_
  refine seqQ rfl rfl (yMove (v := .slice _ _ _) rfl rfl) ?_
  refine seqN rfl rfl (nBuildSlice (vs := [.slice _ _ _, .slice _ _ _]) rfl Try.underlying36 Try.sizeOf35 Try.zeroValue35 rfl rfl rfl rfl) (fun g69 H69 hx69 hB69 hg69 hl69 => ?_)
  -- e slot 70: call F26<farandole/log.Right> t69
  refine seqE rfl rfl (stepCall rfl Try.call26 rfl ?_)
  have hmr := right_c [⟨B1, c1, [xa]⟩, ⟨B2, c2, [xb]⟩] (some ⟨g69, 0, none⟩) 2 H69 (rls ((x13.trans hx47).trans hx69) hB69) sm
  rw [eL, decide_eq_true ex_right] at hmr
  refine hmr.mono ?_
  rintro v H4 ⟨rfl, x4⟩
  refine seqQ rfl rfl (yPickT (v := .bool _) rfl rfl rfl) ?_
  refine seqQ rfl rfl (yAssign (v := .bool _) rfl rfl) ?_
  refine seqNil ?_
  refine hF7 _ _ ?_; clear hF7
  -- ret
  refine wpRet (fin1 (v := .bool _) rfl rfl ?_)
  exact ⟨rfl, (((hE.trans x13).trans hx47).trans hx69).trans x4⟩
end Go.Proofs.Ytbanngdijmglbaa
