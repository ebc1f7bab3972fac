/- LogDecode: Decode returns the specified log or error for any up to 1500 bytes; what is accepted is the encoding of the log. Conditions: none beyond the statement's. -/
import Derived.Test.YtbanngdijmglbaaN13
import Derived.Test.YtbanngdijmglbaaM17
namespace Go.Proofs.Ytbanngdijmglbaa
open Go.ChangeShapes Go.WideShapes Go.ChangeAt Go.RowKit Go.Deep

set_option maxRecDepth 100000 in
theorem OkE.evt {x : Evt} (h : OkE x) : OkEvt x := ⟨h.1, h.2.1, h.2.2.1, fun y hy => (h.2.2.2.1 y hy).1, by have := h.2.2.2.2; omega⟩
set_option maxRecDepth 100000 in
theorem encL_take (l : List Ent) (k : Nat) : (encI l.length ++ (l.take k).flatMap encEn).length ≤ (encL l).length := by
  unfold encL
  rw [List.length_append, List.length_append]
  have h1 : l.flatMap encEn = (l.take k).flatMap encEn ++ (l.drop k).flatMap encEn := by rw [← List.flatMap_append, List.take_append_drop]
  rw [h1, List.length_append]
  omega
set_option maxRecDepth 100000 in
theorem logEncode_c (l : List EH) (A : Option Addr) (ca : Nat) (H : Heap) (h : LogRd H A l) (hl : l.length ≤ 1000) (hok : ∀ x ∈ l, OkEn x.ent) (hlen : (encL (l.map EH.ent)).length ≤ 1000000) :
    CallsH Try.prog 33 [.slice A l.length ca] H fun v H' => ∃ O oc, v = .slice O (encL (l.map EH.ent)).length oc ∧ Rd eByte H' O (encL (l.map EH.ent)) ∧ Ext H H' := by
  have hml : (l.map EH.ent).length = l.length := List.length_map _
  refine callsH_of Try.func33 rfl Try.ntmps33 (Nat.le_of_ble_eq_true rfl) ?_
  refine wpSeq fun F1 hF1 => ?_
  refine wpRegion ?_
  refine seqQ rfl rfl (yAssign (v := .slice _ _ _) rfl rfl) ?_
  refine seqNil ?_
  refine hF1 _ _ ?_; clear hF1
  refine wpSeq fun F2 hF2 => ?_
  refine wpRegion ?_
  refine seqQ rfl rfl (yMove (v := .slice _ _ _) rfl rfl) ?_
  refine seqQ rfl rfl (yLen rfl Try.underlying35 rfl) ?_
  -- e slot 8: call F69<farandole/wire.Int> [nilslice:0:0] t7
  refine seqE rfl rfl (stepCall rfl Try.call69 rfl ?_)
  refine (int_c (.slice none 0 0) l.length H.size [] H (P64_len (by omega)) (Nat.le_refl _) (Own.nil _ _) (by simp)).mono ?_
  rintro v1 H1 ⟨o1, g1⟩
  rw [List.nil_append] at o1
  have x1 : Ext H H1 := g1.ext (Ext.refl _) (fun g e => by cases e)
  obtain ⟨O1, c1, rfl, -⟩ := o1.form
  refine seqQ rfl rfl (yAssign (v := .slice _ _ _) rfl rfl) ?_
  refine seqNil ?_
  refine hF2 _ _ ?_; clear hF2
  refine wpSeq fun F3 hF3 => ?_
  refine wpSeq fun F4 hF4 => ?_
  refine wpRegion ?_
  refine seqQ rfl rfl (yMove (v := .slice _ _ _) rfl rfl) ?_
  refine seqQ rfl rfl (yLen rfl Try.underlying35 rfl) ?_
  refine seqQ rfl rfl (yMove (v := .int _ _) rfl rfl) ?_
  refine seqNil ?_
  refine hF4 _ _ ?_; clear hF4
  -- loop
  refine wpBlock ?_
  refine wpLoopS [3, 5, 11, 12, 13, 14, 15, 16, 17, 18, 19, 20, 21, 22] (fun x : Nat × Value => [(11, .int .i64 x.1), (3, x.2)]) (fun x H' => x.1 ≤ l.length ∧ Ext H H' ∧ Own eByte 5 H' H.size x.2 (encI l.length ++ ((l.map EH.ent).take x.1).flatMap encEn)) (fun x => l.length - x.1) (0, _) ⟨rfl, rfl, trivial⟩ ⟨Nat.zero_le _, x1, by simpa using o1⟩ ?_
  rintro ⟨i, v0⟩ J Hi ⟨hi, hE, ov⟩
  dsimp only at hi ov
  have hpre := encL_take (l.map EH.ent) i
  rw [hml] at hpre
  obtain ⟨OA, oc, rfl, -⟩ := ov.form
  refine wpSeq fun F5 hF5 => ?_
  refine wpRegion ?_
  refine seqQ rfl rfl (yLss rfl rfl rfl) ?_
  refine seqNil ?_
  refine hF5 _ _ ?_; clear hF5
  refine wpSeq fun F6 hF6 => ?_
  -- if t12
  refine wpIf rfl (fun hlt => ?_) (fun hlt => ?_)
  · skip
    have hil : i < l.length := by dsimp only at hlt; omega
    obtain ⟨p, ep, hp⟩ := (h.1.ext hE).at hil
    have hxr := h.2 _ (List.getElem_mem hil)
    have hxo := hok _ (List.getElem_mem hil)
    have ht : ((l.map EH.ent).take (i + 1)).flatMap encEn = ((l.map EH.ent).take i).flatMap encEn ++ encEn l[i].ent := by rw [flat_take encEn (by omega)]; simp
    have hpre2 := encL_take (l.map EH.ent) (i + 1)
    rw [hml, ht] at hpre2
    generalize l[i] = x at *
    refine wpSkip ?_
    refine hF6 _ _ ?_; clear hF6
    refine wpSeq fun F7 hF7 => ?_
    refine wpBlock ?_
    refine wpSeq fun F8 hF8 => ?_
    refine wpRegion ?_
    refine seqQ rfl rfl (yIdxP rfl Try.underlying35 Try.sizeOf72 rfl rfl ep rfl hil) ?_
    refine seqQ rfl rfl (yLoadC (cs := eEH.F x) rfl Try.underlying72 rfl Try.sizeOf72 rfl hp) ?_
    refine seqN rfl rfl (nAlloc rfl Try.zeroValue72 rfl) (fun g5 H5 hx5 hB5 hg5 hl5 => ?_)
    -- e slot None: store T72 t5 t14
    refine seqE0 rfl rfl (stepStoreB rfl (by kernel_rfl) rfl rfl rfl hB5 rfl ?_)
    intro H2 h5 hK5
    have x2 : Ext Hi H2 := hx5.mine hK5 (by simp; omega)
    have ov2 := ov.ext x2
    have lv := ov.lt
    have l5 := hg5
    clear hB5 hK5
    have s2 := (hE.trans x2).size
    have hMv : ∀ b ∈ (Value.slice OA (encI l.length ++ ((l.map EH.ent).take i).flatMap encEn).length oc).ownBlock.toList, H.size ≤ b ∧ b < Hi.size := fun b hb => by rw [Option.mem_toList] at hb; exact lv b hb
    have g5M : g5 ∉ (Value.slice OA (encI l.length ++ ((l.map EH.ent).take i).flatMap encEn).length oc).ownBlock.toList := fun hb => by have := (hMv _ hb).2; omega
    refine seqNil ?_
    refine hF8 _ _ ?_; clear hF8
    refine wpRegionD Try_mixed [.q, .q, .q, .e, .q, .q, .e, .q] 6 [0, 0, 2, 7, 0, 16, 63, 127] (Value.slice OA (encI l.length ++ ((l.map EH.ent).take i).flatMap encEn).length oc).ownBlock.toList (by kernel_rfl) _ rfl [0, 1, 2, 3, 4, 5] rfl (fun b hb => by have := (hMv b hb).2; have := x2.size; omega) ?_
    refine lexQ rfl rfl rfl rfl (fun H hM => (yMove (v := .slice _ _ _) rfl rfl)) ?_
    refine lexQ rfl rfl rfl rfl (fun H hM => (yFieldAddr rfl Try.underlying72 rfl Try.sizeOf26 rfl rfl)) ?_
    refine lexQ rfl rfl rfl rfl (fun H hM => (yLoadC (cs := evC x.ev x.VA x.vc) rfl Try.underlying26 rfl Try.sizeOf26 rfl (fun j u hu => hM.cell (h5.cell (ev_sub hu)) (by simp only [block_of_add]; exact g5M)))) ?_
    -- e slot 18: call F71<farandole/wire.Event> t15 t17
    refine lexE0 rfl rfl rfl rfl rfl (fun hM18 => stepCall rfl Try.call71 rfl ?_)
    refine (event_c _ x.VA x.vc x.ev H.size _ H2 s2 ov2 (RdM.old hxr.1 (hE.trans x2) (fun b hb => by rw [List.append_nil] at hb; exact (hMv b hb).1)) (OkE.evt hxo.1) (by omega)).mono ?_
    rintro v3 H3 ⟨o3, g3⟩
    refine lexGrew g3 (fun g e => by rw [Option.mem_toList]; exact e) (fun b hb => by have := (hMv b hb).2; have := x2.size; omega) (fun g e => (o3.lt g e).2) ?_
    have hE3 : Ext H H3 := g3.ext (hE.trans x2) (fun g e => (lv g e).1)
    obtain ⟨O3, c3, rfl, -⟩ := o3.form
    refine lexQ rfl rfl rfl rfl (fun H hM => (yFieldAddr rfl Try.underlying72 rfl Try.sizeOf44 rfl rfl)) ?_
    refine lexQ rfl rfl rfl rfl (fun H hM => (yLoad rfl Try.underlying44 rfl rfl (hM.cell (show cellH H2 ((⟨g5, 0, none⟩ : Addr).add 5) = some (.slice x.CA x.clk.length x.cc) from h5.cell (j := 5) rfl) (by simp only [block_of_add]; exact g5M)))) ?_
    -- tail
    refine lexNil0 rfl (fun hM => ?_)
    -- e slot 21: call F70<farandole/wire.Ints> t18 t20
    refine seqE rfl rfl (stepCall rfl Try.call70 rfl ?_)
    refine (ints_c _ x.CA x.cc x.clk H.size _ H3 hE3.size o3 (hxr.2.ext hE3) (fun p e hne => ?_) hxo.2.1 ?_ (by have := hxo.2.2; have e : x.ent.clk = x.clk := rfl; rw [e] at this; omega)).mono ?_
    · obtain ⟨q, e', hq⟩ := hxr.2.lt (List.length_pos_iff.2 hne)
      rw [e] at e'
      obtain rfl := Option.some.inj e'
      exact hq
    · have hen : (encEn x.ent).length = (encE x.ev).length + (encInts x.clk).length := by unfold encEn; rw [List.length_append]; rfl
      simp only [List.length_append] at hpre2 ⊢
      omega
    rintro v4 H4 ⟨o4, g4⟩
    have hE4 : Ext H H4 := g4.ext hE3 (fun g e => (o3.lt g e).1)
    obtain ⟨O4, c4, rfl, -⟩ := o4.form
    refine seqQ rfl rfl (yAssign (v := .slice _ _ _) rfl rfl) ?_
    refine seqNil ?_
    refine hF7 _ _ ?_; clear hF7
    refine wpRegion ?_
    refine seqQ rfl rfl (yAdd rfl rfl rfl (by unfold In64; omega)) ?_
    refine seqQ rfl rfl (yMove (v := .int _ _) rfl rfl) ?_
    refine seqNil ?_
    -- end loop
    exact loopEnd (i + 1, _) (by repeat (first | (with_reducible exact Agree.refl _ _) | refine Agree.upd ?_ rfl | refine Agree.over ?_ rfl)) (by dsimp only; omega) ⟨rfl, rfl, trivial⟩ ⟨hil, hE4, by dsimp only; rw [ht]; unfold encEn; rw [← List.append_assoc, ← List.append_assoc]; exact o4⟩
  · skip
    obtain rfl : i = l.length := by dsimp only at hlt; omega
    rw [← hml, List.take_length] at ov ⊢
    refine wpExit ?_
    refine hF3 _ _ ?_; clear hF3
    refine wpSeq fun F9 hF9 => ?_
    refine wpRegion ?_
    refine seqQ rfl rfl (yMove (v := .slice _ _ _) rfl rfl) ?_
    refine seqQ rfl rfl (yAssign (v := .slice _ _ _) rfl rfl) ?_
    refine seqNil ?_
    refine hF9 _ _ ?_; clear hF9
    -- ret
    refine wpRet (fin1 (v := .slice _ _ _) rfl rfl ?_)
    exact ⟨OA, oc, rfl, (Own.rd ov).2, hE⟩
set_option maxRecDepth 100000 in
theorem decode_walk (b : List UInt8) (A : Option Addr) (ca : Nat) (H : Heap) (hA : Rd eByte H A b) (hca : b.length ≤ ca) :
    CallsH Try.prog 9 [.slice A b.length ca] H fun v H' => v = .bool true ∧ Ext H H' := by
  refine callsH_of Try.func9 rfl Try.ntmps9 (Nat.le_of_ble_eq_true rfl) ?_
  refine wpSeq fun F1 hF1 => ?_
  refine wpRegion ?_
  refine seqQ rfl rfl (yAssign (v := .bool _) rfl rfl) ?_
  refine seqNil ?_
  refine hF1 _ _ ?_; clear hF1
  refine wpSeq fun F2 hF2 => ?_
  refine wpSeq fun F3 hF3 => ?_
  refine wpRegion ?_
  -- e slot 7: call F10<farandole/farandolelaw57.awake> 
  refine seqE rfl rfl (stepCall rfl Try.call10 rfl ?_)
  refine (logAwake_c _).mono ?_
  rintro v Ha ⟨rfl, xa⟩
  refine seqQ rfl rfl (yNot rfl rfl) ?_
  refine seqQ rfl rfl (yMove (v := .bool false) rfl rfl) ?_
  refine seqQ rfl rfl (yMove (v := .slice _ _ _) rfl rfl) ?_
  refine seqQ rfl rfl (yLen rfl Try.underlying79 rfl) ?_
  refine seqQ rfl rfl (yGtr rfl rfl rfl) ?_
  refine seqQ rfl rfl (yPickF (v := .bool _) rfl rfl rfl) ?_
  refine seqNil ?_
  refine hF3 _ _ ?_; clear hF3
  -- if t13
  refine wpIf rfl (fun hgt => ?_) (fun hgt => ?_)
  · skip
    refine wpSeq fun F4 hF4 => ?_
    refine wpRegion ?_
    -- e slot 14: call F10<farandole/farandolelaw57.awake> 
    refine seqE rfl rfl (stepCall rfl Try.call10 rfl ?_)
    refine (logAwake_c _).mono ?_
    rintro v Hz ⟨rfl, xz⟩
    refine seqQ rfl rfl (yAssign (v := .bool _) rfl rfl) ?_
    refine seqNil ?_
    refine hF4 _ _ ?_; clear hF4
    -- ret
    refine wpRet (fin1 (v := .bool _) rfl rfl ?_)
    exact ⟨rfl, xa.trans xz⟩
  · skip
    have hlb : b.length ≤ 1500 := by omega
    refine wpSkip ?_
    refine hF2 _ _ ?_; clear hF2
    refine wpSeq fun F5 hF5 => ?_
    refine wpRegion ?_
    refine seqQ rfl rfl (yMove (v := .slice _ _ _) rfl rfl) ?_
    -- e slot 17: call F30<farandole/log.Decode> t16
    refine seqE rfl rfl (stepCall rfl Try.call30 rfl ?_)
    refine (logDecode_c A ca b Ha (hA.ext xa) (by omega)).mono ?_
    rintro v Hb ⟨O1, c1, l1, rfl, r1, m1, ok1, n1, xb⟩
    have hE := xa.trans xb
    refine seqQ rfl rfl (yMove (v := .tuple _) rfl rfl) ?_
    refine seqQ rfl rfl (yExtract (v := .slice _ _ _) rfl rfl rfl) ?_
    refine seqQ rfl rfl (yExtract (v := .int _ _) rfl rfl rfl) ?_
    refine seqQ rfl rfl (yAssign (v := .slice _ _ _) rfl rfl) ?_
    refine seqQ rfl rfl (yAssign (v := .int _ _) rfl rfl) ?_
    refine seqNil ?_
    refine hF5 _ _ ?_; clear hF5
    refine wpSeq fun F6 hF6 => ?_
    refine wpRegion ?_
    refine seqQ rfl rfl (yMove (v := .slice _ _ _) rfl rfl) ?_
    -- e slot 22: call F31<farandole/farandoleref57.Decode> t21
    refine seqE rfl rfl (stepCall rfl Try.call31 rfl ?_)
    refine (rlogDecode_c A ca b Hb (hA.ext hE) hca (by omega)).mono ?_
    rintro v Hc ⟨O2, c2, l2, rfl, r2, m2, xc⟩
    replace hE := hE.trans xc
    replace r1 := r1.ext xc
    have hl1 : l1.length ≤ 1000 := by rw [← m1, List.length_map] at n1; exact n1
    have okl : ∀ x ∈ l1, OkEn x.ent := fun x hx => ok1 _ (by rw [← m1]; exact List.mem_map_of_mem hx)
    have ok2 : ∀ x ∈ l2, OkEn x.ent := fun x hx => ok1 _ (by rw [← m2]; exact List.mem_map_of_mem hx)
    have sm1 : LogSm l1 := ⟨by omega, fun x hx => by
      obtain ⟨h1, h2, h3⟩ := okl x hx
      have h4 := h1.2.2.2.2
      have e : x.ent.ev = x.ev := rfl
      have e2 : x.ent.clk = x.clk := rfl
      rw [e] at h4
      rw [e2] at h3
      omega⟩
    refine seqQ rfl rfl (yMove (v := .tuple _) rfl rfl) ?_
    refine seqQ rfl rfl (yExtract (v := .slice _ _ _) rfl rfl rfl) ?_
    refine seqQ rfl rfl (yExtract (v := .int _ _) rfl rfl rfl) ?_
    refine seqQ rfl rfl (yAssign (v := .slice _ _ _) rfl rfl) ?_
    refine seqQ rfl rfl (yAssign (v := .int _ _) rfl rfl) ?_
    refine seqNil ?_
    refine hF6 _ _ ?_; clear hF6
    refine wpSeq fun F7 hF7 => ?_
    refine wpRegion ?_
    refine seqQ rfl rfl (yMove (v := .int _ _) rfl rfl) ?_
    refine seqQ rfl rfl (yMove (v := .int _ _) rfl rfl) ?_
    refine seqQ rfl rfl (yEql rfl rfl rfl) ?_
    -- guard t28
    rw [decide_eq_true (rfl : (decL b).1 = (decL b).1)]
    refine seqQ rfl rfl (yMove (v := .bool true) rfl rfl) ?_
    refine seqQ rfl rfl (yMove (v := .slice _ _ _) rfl rfl) ?_
    -- e slot 30: call F20<farandole/farandolelaw57.Theirs> t29
    refine seqE rfl rfl (stepCall rfl Try.call20 rfl ?_)
    refine (theirs_c l1 O1 c1 Hc r1.1 (by omega)).mono ?_
    rintro v Hd ⟨ot, xd⟩
    obtain ⟨O3, c3, rfl, -⟩ := ot.form
    replace hE := hE.trans xd
    replace r1 := r1.ext xd
    refine seqQ rfl rfl (yMove (v := .slice _ _ _) rfl rfl) ?_
    -- e slot 32: call F19<farandole/farandoleref57.Same> t30 t31
    refine seqE rfl rfl (stepCall rfl Try.call19 rfl ?_)
    refine (sameLog_c l1 l2 O3 O2 c3 c2 Hd ⟨(Own.rd ot).2, r1.2⟩ (r2.ext xd) sm1 (fun y hy => by have := (ok2 y hy).2.2; have e2 : y.ent.clk = y.clk := rfl; rw [e2] at this; omega)).mono ?_
    rintro v He ⟨hv, xe⟩
    obtain rfl : v = .bool true := hv.trans (by rw [decide_eq_true (m1.trans m2.symm)])
    replace hE := hE.trans xe
    replace r1 := r1.ext xe
    refine seqQ rfl rfl (yPickT (v := .bool _) rfl rfl rfl) ?_
    refine seqQ rfl rfl (yMove (v := .bool true) rfl rfl) ?_
    refine seqQ rfl rfl (yMove (v := .int _ _) rfl rfl) ?_
    refine seqQ rfl rfl (yNeq rfl rfl rfl) ?_
    -- guard t37
    by_cases h0 : (decL b).1 = 0
    · skip
      rw [show (!decide ((decL b).1 = 0)) = false by simp [h0]]
      have hcan := decL_canon h0
      rw [← m1] at hcan
      refine seqQ rfl rfl (yMove (v := .bool false) rfl rfl) ?_
      refine seqQ rfl rfl (yMove (v := .slice _ _ _) rfl rfl) ?_
      -- e slot 39: call F33<farandole/log.Encode> t38
      refine seqE rfl rfl (stepCall rfl Try.call33 rfl ?_)
      refine (logEncode_c l1 O1 c1 He r1 hl1 okl (by rw [hcan]; omega)).mono ?_
      rintro v Hf ⟨O4, c4, rfl, r4, xf⟩
      replace hE := hE.trans xf
      rw [hcan] at r4 ⊢
      refine seqQ rfl rfl (yMove (v := .slice _ _ _) rfl rfl) ?_
      -- e slot 41: call F32<farandole/farandoleref01.Same> t39 t40
      refine seqE rfl rfl (stepCall rfl Try.call32 rfl ?_)
      refine (Same_c O4 A b b c4 ca Hf r4 (hA.ext hE)).mono ?_
      rintro v Hz ⟨hv, e⟩
      obtain rfl : v = .bool true := hv.trans (by rw [decide_eq_true rfl])
      obtain rfl := e.symm
      clear e
      refine seqQ rfl rfl (yPickF (v := .bool _) rfl rfl rfl) ?_
      refine seqQ rfl rfl (yPickT (v := .bool _) rfl rfl rfl) ?_
      refine seqQ rfl rfl (yAssign (v := .bool _) rfl rfl) ?_
      refine seqNil ?_
      refine hF7 _ _ ?_; clear hF7
      -- ret
      refine wpRet (fin1 (v := .bool _) rfl rfl ?_)
      exact ⟨rfl, hE⟩
    · skip
      rw [show (!decide ((decL b).1 = 0)) = true by simp [h0]]
      refine seqQ rfl rfl (yMove (v := .bool true) rfl rfl) ?_
      refine seqU rfl rfl ?_
      refine seqU rfl rfl ?_
      refine seqU rfl rfl ?_
      refine seqU rfl rfl ?_
      refine seqQ rfl rfl (yPickT (v := .bool _) rfl rfl rfl) ?_
      refine seqQ rfl rfl (yPickT (v := .bool _) rfl rfl rfl) ?_
      refine seqQ rfl rfl (yAssign (v := .bool _) rfl rfl) ?_
      refine seqNil ?_
      refine hF7 _ _ ?_; clear hF7
      -- ret
      refine wpRet (fin1 (v := .bool _) rfl rfl ?_)
      exact ⟨rfl, hE⟩
set_option maxRecDepth 100000 in
theorem opn_bytes14 (W : World) : Opn Try.prog W 79 1 (fun a : Option Addr × Nat × List UInt8 => [.slice a.1 a.2.2.length a.2.1]) (fun a => Rd eByte W.heap a.1 a.2.2 ∧ (∀ x ∈ a.2.2, True) ∧ a.2.2.length ≤ a.2.1 ∧ a.2.1 ≤ maxLen) :=
  opn_slice (c := eByte) Try.underlying79 (by kernel_rfl) (opn_byte Try.underlying5 (by kernel_rfl))
set_option maxRecDepth 100000 in
set_option maxRecDepth 100000 in
theorem logDecode_lifted (os : Os) (started : os.Started) (H : Type) (enc : TypeId × Value → H) :
    ReturnsInHanded {} Try.checked os 9 .any (Rows.logDecodeSpec.pre6 enc Try.prog Try.f9 Rows.logDecodeRow.domain false) (Rows.logDecodeSpec.post enc Try.prog Try.f9 false true false false) := by
  refine law_lifted started Rows.logDecodeSpec rfl (by kernel_rfl) Try.func9 rfl
    (fun ds h => by match ds, h with | [_], _ => rfl) (of_decide_eq_true (by kernel_rfl))
    (ChangeSpec.witness6 (enc := enc) (C := Try.checked) false ⟨#[], #[.slice none 0 0], []⟩ 8 (by kernel_rfl) (by kernel_rfl) (by kernel_rfl) (by kernel_rfl)) ?_
  intro W base args ds p hval hA
  rw [Try.params9] at hA hval
  obtain ⟨v0, d0, rfl, rfl, h0⟩ := trodAll_one hA
  have g0 := hval 0 _ v0 rfl rfl
  obtain ⟨⟨A, ca, b⟩, rfl, kA, -, kc, -⟩ := (opn_bytes14 W).one (one_slice Try.underlying79 g0) h0
  exact decode_walk b A ca W.heap kA kc
set_option maxRecDepth 100000 in
theorem logDecode_holds : Rows.LogDecodeSaid :=
  OpenClaim.holds_of_wide 9 Try.f9 rfl rfl rfl rfl rfl rfl rfl ⟨rfl, rfl, rfl, rfl, rfl⟩ rfl rfl rfl rfl rfl (by kernel_rfl) Try.func9 (by kernel_rfl)
    (of_decide_eq_true (by kernel_rfl)) (by unfold Func.isWrapper; first | (rw [if_pos (by decide +kernel)]; kernel_rfl) | (rw [if_neg (by decide +kernel)]; exact ⟨rfl, rfl⟩))
    (fun os started H enc _ => logDecode_lifted os started H enc)
end Go.Proofs.Ytbanngdijmglbaa
