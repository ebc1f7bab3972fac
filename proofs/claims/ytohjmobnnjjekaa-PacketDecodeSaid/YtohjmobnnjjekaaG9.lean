/- PacketDecode: Decode returns the specified packet or error for any bytes; a packet that is decoded has these bytes as its encoding. Conditions: none beyond the statement's. -/
import Derived.Test.YtohjmobnnjjekaaG8
import Derived.Test.YtohjmobnnjjekaaS7
import Derived.Test.YtohjmobnnjjekaaW11
namespace Go.Proofs.Ytohjmobnnjjekaa
open Go.ChangeShapes Go.WideShapes Go.ChangeAt Go.RowKit Go.Deep

set_option maxRecDepth 100000 in
theorem list7 {l : List Int} (h : l.length = 7) : [l.getD 0 0, l.getD 1 0, l.getD 2 0, l.getD 3 0, l.getD 4 0, l.getD 5 0, l.getD 6 0] = l := by
  match l, h with
  | [a0, a1, a2, a3, a4, a5, a6], _ => rfl
set_option maxRecDepth 100000 in
theorem parse_canon {D : List UInt8} {p : Pk} (h : parse D = some p) : encPk p = D := by
  unfold parse at h
  cases h1 : pN rdI 7 D with
  | none => rw [h1] at h; cases h
  | some x =>
    rw [h1, Option.bind_some] at h
    cases h2 : pList pVal 4 x.2 with
    | none => rw [h2] at h; cases h
    | some y =>
      rw [h2, Option.bind_some] at h
      cases h3 : pList rdI 6 y.2 with
      | none => rw [h3] at h; cases h
      | some z =>
        rw [h3, Option.bind_some] at h
        by_cases he : z.2 = []
        · rw [if_pos he] at h
          have e := (Option.some.inj h).symm
          obtain ⟨x1, x2⟩ := x
          obtain ⟨y1, y2⟩ := y
          obtain ⟨z1, z2⟩ := z
          dsimp only at *
          obtain ⟨c1, c2⟩ := pN_canon (fun _ _ _ h => (rdI_canon h).1) _ _ _ _ h1
          obtain ⟨c3, -⟩ := pList_canon (fun _ _ _ h => pVal_canon h) h2
          obtain ⟨c4, -⟩ := pList_canon (fun _ _ _ h => (rdI_canon h).1) h3
          have hh : hdrs p = x1 := by rw [e]; exact list7 c2
          have hv : p.vals.map toV = y1 := by rw [e]; exact to_from _
          have hc : p.clk = z1 := by rw [e]; rfl
          unfold encPk
          rw [hh, hv, hc, c1, c3, c4, he]
          unfold encVals encInts
          simp
        · rw [if_neg he] at h
          cases h
set_option maxRecDepth 100000 in
theorem open_seal {b D : List UInt8} (h : opened b = (0, D)) : sealed D = b := by
  unfold opened at h
  split at h
  · cases h
  · split at h
    · rename_i h8 he
      injection h with _ h
      subst h
      unfold sealed
      rw [he, List.take_append_drop]
    · cases h
set_option maxRecDepth 100000 in
theorem dec_canon {b : List UInt8} {p : Pk} (h : decP b = (0, p)) : encP p = (0, b) := by
  unfold decP at h
  split at h
  · rename_i h0
    exact absurd (congrArg Prod.fst h) h0
  · rename_i h0
    have ho : opened b = (0, (opened b).2) := by
      have : (opened b).1 = 0 := by simpa using h0
      rw [← this]
    cases hp : parse (opened b).2 with
    | none => rw [hp] at h; cases h
    | some q =>
      rw [hp] at h
      dsimp only at h
      split at h
      · rename_i hv
        injection h with _ h
        subst h
        rw [encP_valid hv, parse_canon hp, open_seal ho]
      · cases h
set_option maxRecDepth 100000 in
theorem pVal_okW {b r : List UInt8} {v : Val} (h : pVal b = some (v, r)) : OkW v := by
  unfold pVal at h
  cases h1 : pBnd 1 2 b with
  | none => rw [h1] at h; cases h
  | some x =>
    obtain ⟨n, r1⟩ := x
    rw [h1, Option.bind_some] at h
    obtain ⟨-, hlo, hhi⟩ := pBnd_canon h1
    dsimp only at h
    by_cases hn : n = 1
    · rw [if_pos hn] at h
      obtain ⟨y, hy, h⟩ := Option.map_eq_some_iff.1 h
      injection h with h h'
      subst h
      have hc := (rdI_canon (n := y.1) (r := y.2) hy).2
      exact ⟨⟨by show P64 1; unfold P64; omega, hc, by show (0 : Nat) ≤ _; omega⟩, by show (0 : Nat) ≤ _; omega, .inl ⟨rfl, rfl⟩⟩
    · rw [if_neg hn] at h
      obtain ⟨y, hy, h⟩ := Option.map_eq_some_iff.1 h
      injection h with h h'
      subst h
      have hc := (pBytes_canon (x := y.1) (r := y.2) hy).2
      have hsz : (⟨y.1.toArray⟩ : ByteArray).size = y.1.length := by show y.1.toArray.size = _; simp
      exact ⟨⟨by show P64 n; unfold P64; omega, by show P64 0; unfold P64; omega, by show (⟨y.1.toArray⟩ : ByteArray).size ≤ _; omega⟩, by show (⟨y.1.toArray⟩ : ByteArray).size ≤ _; omega, .inr ⟨by show n = 2; omega, rfl⟩⟩
set_option maxRecDepth 100000 in
theorem pN_every {α : Type} {p : List UInt8 → Option (α × List UInt8)} {Q : α → Prop} (hp : ∀ b x r, p b = some (x, r) → Q x) : ∀ (n : Nat) (b : List UInt8) (l : List α) (r : List UInt8), pN p n b = some (l, r) → ∀ x ∈ l, Q x
  | 0, b, l, r, h => by
    simp only [pN] at h
    injection h with h
    injection h with h _
    subst h
    simp
  | n + 1, b, l, r, h => by
    rw [pN] at h
    cases h1 : p b with
    | none => rw [h1] at h; cases h
    | some x =>
      rw [h1, Option.bind_some] at h
      obtain ⟨y, hy, h⟩ := Option.map_eq_some_iff.1 h
      injection h with h h'
      subst h
      intro z hz
      rcases List.mem_cons.1 hz with rfl | hz
      · exact hp b _ x.2 h1
      · exact pN_every hp n x.2 y.1 y.2 hy z hz
set_option maxRecDepth 100000 in
theorem pList_every {α : Type} {p : List UInt8 → Option (α × List UInt8)} {Q : α → Prop} (hp : ∀ b x r, p b = some (x, r) → Q x) {m : Int} {b r : List UInt8} {l : List α} (h : pList p m b = some (l, r)) : ∀ x ∈ l, Q x := by
  unfold pList at h
  cases h1 : pBnd 0 m b with
  | none => rw [h1] at h; cases h
  | some x =>
    rw [h1, Option.bind_some] at h
    exact pN_every hp _ _ _ _ h
set_option maxRecDepth 100000 in
theorem parse_few {D : List UInt8} {p : Pk} (h : parse D = some p) : p.vals.length ≤ 4 ∧ p.clk.length ≤ 6 ∧ N64 p ∧ ∀ v ∈ p.vals, v.2.2.size ≤ 40 := by
  unfold parse at h
  cases h1 : pN rdI 7 D with
  | none => rw [h1] at h; cases h
  | some x =>
    rw [h1, Option.bind_some] at h
    cases h2 : pList pVal 4 x.2 with
    | none => rw [h2] at h; cases h
    | some y =>
      rw [h2, Option.bind_some] at h
      cases h3 : pList rdI 6 y.2 with
      | none => rw [h3] at h; cases h
      | some z =>
        rw [h3, Option.bind_some] at h
        by_cases he : z.2 = []
        · rw [if_pos he] at h
          have e := (Option.some.inj h).symm
          have m1 := pList_le (l := y.1) (r := y.2) h2
          have m2 := pList_le (l := z.1) (r := z.2) h3
          have w := pList_every (l := y.1) (r := y.2) (fun _ _ _ h => pVal_okW h) h2
          have hv : p.vals = y.1.map fromV := by rw [e]; rfl
          have hc : p.clk = z.1 := by rw [e]; rfl
          refine ⟨by rw [hv, List.length_map]; omega, by rw [hc]; omega, fun v hm => ?_, fun v hm => ?_⟩
          · rw [hv] at hm
            obtain ⟨u, hu, rfl⟩ := List.mem_map.1 hm
            exact ⟨(w u hu).1.1, (w u hu).1.2.1⟩
          · rw [hv] at hm
            obtain ⟨u, hu, rfl⟩ := List.mem_map.1 hm
            exact (w u hu).2.1
        · rw [if_neg he] at h
          cases h
set_option maxRecDepth 100000 in
theorem dec_len (b : List UInt8) : (decP b).2.vals.length ≤ 4 ∧ (decP b).2.clk.length ≤ 6 ∧ N64 (decP b).2 ∧ ∀ v ∈ (decP b).2.vals, v.2.2.size ≤ 40 := by
  have h0 : pk0.vals.length ≤ 4 ∧ pk0.clk.length ≤ 6 ∧ N64 pk0 ∧ ∀ v ∈ pk0.vals, v.2.2.size ≤ 40 := by refine ⟨by decide, by decide, ?_, ?_⟩ <;> (intro v hv; cases hv)
  unfold decP
  split
  · exact h0
  · split
    · rename_i p hp
      split
      · exact parse_few hp
      · exact h0
    · exact h0
set_option maxRecDepth 100000 in
theorem opn_bytes (W : World) : Opn Try.prog W 28 1 (fun a : Option Addr × Nat × List UInt8 => [.slice a.1 a.2.2.length a.2.1]) (fun a => Rd eByte W.heap a.1 a.2.2 ∧ (∀ x ∈ a.2.2, True) ∧ a.2.2.length ≤ a.2.1 ∧ a.2.1 ≤ maxLen) :=
  opn_slice (c := eByte) Try.underlying28 (by kernel_rfl) (opn_byte Try.underlying5 (by kernel_rfl))
set_option maxRecDepth 100000 in
theorem decode_walk (A : Option Addr) (ca : Nat) (b : List UInt8) (H : Heap) (hA : Rd eByte H A b) (hca : b.length ≤ ca) :
    CallsH Try.prog 4 [.slice A b.length ca] H fun v H' => v = .bool true ∧ Ext H H' := by
  refine callsH_of Try.func4 rfl Try.ntmps4 (Nat.le_of_ble_eq_true rfl) ?_
  refine wpSeq fun F1 hF1 => ?_
  refine wpRegion ?_
  refine seqQ rfl rfl (yAssign (v := .bool _) rfl rfl) ?_
  refine seqNil ?_
  refine hF1 _ _ ?_; clear hF1
  refine wpSeq fun F2 hF2 => ?_
  refine wpSeq fun F3 hF3 => ?_
  refine wpRegion ?_
  -- e slot 9: call F9<farandole/farandolelaw46.awake> 
  refine seqE rfl rfl (stepCall rfl Try.call9 rfl ?_)
  refine (pkAwake_c _).mono ?_
  rintro v Ha ⟨rfl, xa⟩
  have hE := xa
  refine seqQ rfl rfl (yNot rfl rfl) ?_
  refine seqNil ?_
  refine hF3 _ _ ?_; clear hF3
  -- if t10
  refine wpF rfl ?_
  refine wpSkip ?_
  refine hF2 _ _ ?_; clear hF2
  refine wpSeq fun F4 hF4 => ?_
  refine wpSeq fun F5 hF5 => ?_
  refine wpRegion ?_
  refine seqQ rfl rfl (yMove (v := .slice _ _ _) rfl rfl) ?_
  refine seqQ rfl rfl (yLen rfl Try.underlying28 rfl) ?_
  refine seqQ rfl rfl (yGtr rfl rfl rfl) ?_
  refine seqNil ?_
  refine hF5 _ _ ?_; clear hF5
  -- if t13
  refine wpIf rfl (fun hlong => ?_) (fun hlong => ?_)
  · skip
    refine wpSeq fun F6 hF6 => ?_
    refine wpRegion ?_
    refine seqQ rfl rfl (yAssign (v := .bool _) rfl rfl) ?_
    refine seqNil ?_
    refine hF6 _ _ ?_; clear hF6
    -- ret
    refine wpRet (fin1 (v := .bool _) rfl rfl ?_)
    exact ⟨rfl, hE⟩
  · skip
    have hb : b.length ≤ 700 := by omega
    obtain ⟨hlv, hlc, h64, hsz⟩ := dec_len b
    refine wpSkip ?_
    refine hF4 _ _ ?_; clear hF4
    refine wpSeq fun F7 hF7 => ?_
    refine wpRegion ?_
    refine seqQ rfl rfl (yMove (v := .slice _ _ _) rfl rfl) ?_
    -- e slot 16: call F19<farandole/packet.Decode> t15
    refine seqE rfl rfl (stepCall rfl Try.call19 rfl ?_)
    refine (Decode_c A ca b Ha (hA.ext hE) hca (by omega)).mono ?_
    rintro v Hb ⟨B1, c1, C1, d1, rfl, ov1, oc1, xb⟩
    refine seqQ rfl rfl (yMove (v := .tuple _) rfl rfl) ?_
    refine seqQ rfl rfl (yExtract (v := .agg _) rfl rfl rfl) ?_
    refine seqQ rfl rfl (yExtract (v := .int _ _) rfl rfl rfl) ?_
    refine seqN rfl rfl (nAlloc rfl Try.zeroValue32 rfl) (fun g3 H3 hx3 hB3 hg3 hl3 => ?_)
    -- e slot None: store T32 t3 t17
    refine seqE0 rfl rfl (stepStoreB rfl (by kernel_rfl) rfl rfl rfl hB3 rfl ?_)
    intro Hc h3 hKc
    have xc : Ext Ha Hc := (xb.trans hx3).mine hKc (by have := xb.size; simp; omega)
    have rv1 : Rd eVal Hc B1 (decP b).2.vals := (Own.rd ((ov1.ext hx3).keep hKc (fun g e => by have := (ov1.lt g e).2; simp; omega))).2
    have rc1 : Rd eInt Hc C1 (decP b).2.clk := (Own.rd ((oc1.ext hx3).keep hKc (fun g e => by have := (oc1.lt g e).2; simp; omega))).2
    replace hE := hE.trans xc
    clear xc hKc hB3 hx3 ov1 oc1 xb xa
    refine seqQ rfl rfl (yAssign (v := .int _ _) rfl rfl) ?_
    refine seqNil ?_
    refine hF7 _ _ ?_; clear hF7
    refine wpSeq fun F8 hF8 => ?_
    refine wpRegion ?_
    refine seqQ rfl rfl (yMove (v := .slice _ _ _) rfl rfl) ?_
    -- e slot 21: call F20<farandole/farandoleref46.Decode> t20
    refine seqE rfl rfl (stepCall rfl Try.call20 rfl ?_)
    refine (rDecode_c A ca b Hc (hA.ext hE) hca (by omega)).mono ?_
    rintro v Hd ⟨B2, c2, C2, d2, rfl, ov2, oc2, xd⟩
    refine seqQ rfl rfl (yMove (v := .tuple _) rfl rfl) ?_
    refine seqQ rfl rfl (yExtract (v := .agg _) rfl rfl rfl) ?_
    refine seqQ rfl rfl (yExtract (v := .int _ _) rfl rfl rfl) ?_
    refine seqN rfl rfl (nAlloc rfl Try.zeroValue25 rfl) (fun g5 H5 hx5 hB5 hg5 hl5 => ?_)
    -- e slot None: store T25 t5 t22
    refine seqE0 rfl rfl (stepStoreB rfl (by kernel_rfl) rfl rfl rfl hB5 rfl ?_)
    intro He h5 hKe
    have xe : Ext Hc He := (xd.trans hx5).mine hKe (by have := xd.size; simp; omega)
    have rv2 : Rd eVal He B2 (decP b).2.vals := (Own.rd ((ov2.ext hx5).keep hKe (fun g e => by have := (ov2.lt g e).2; simp; omega))).2
    have rc2 : Rd eInt He C2 (decP b).2.clk := (Own.rd ((oc2.ext hx5).keep hKe (fun g e => by have := (oc2.lt g e).2; simp; omega))).2
    replace hE := hE.trans xe
    replace rv1 := rv1.ext xe
    replace rc1 := rc1.ext xe
    replace h3 := h3.ext xe
    clear xe hKe hB5 hx5 ov2 oc2 xd
    refine seqQ rfl rfl (yAssign (v := .int _ _) rfl rfl) ?_
    refine seqNil ?_
    refine hF8 _ _ ?_; clear hF8
    refine wpSeq fun F9 hF9 => ?_
    refine wpSeq fun F10 hF10 => ?_
    refine wpRegion ?_
    refine seqQ rfl rfl (yMove (v := .int _ _) rfl rfl) ?_
    refine seqQ rfl rfl (yMove (v := .int _ _) rfl rfl) ?_
    refine seqQ rfl rfl (yNeq rfl rfl rfl) ?_
    -- guard t27
    rw [decide_eq_true (rfl : (decP b).1 = (decP b).1)]
    refine seqQ rfl rfl (yMove (v := .bool false) rfl rfl) ?_
    refine seqQ rfl rfl (yLoadB h3 rfl Try.underlying32 rfl Try.sizeOf32 rfl) ?_
    refine seqQ rfl rfl (yLoadB h5 rfl Try.underlying25 rfl Try.sizeOf25 rfl) ?_
    -- e slot 30: call F15<farandole/farandoleref46.Equal> t28 t29
    refine seqE rfl rfl (stepCall rfl Try.call15 rfl ?_)
    refine (rEqual_c (decP b).2 (decP b).2 B1 C1 B2 C2 c1 d1 c2 d2 He rv1 rc1 rv2 rc2 (by omega) (by omega)).mono ?_
    rintro v Hf ⟨hv, xf⟩
    obtain rfl : v = .bool true := hv.trans (by simp)
    replace hE := hE.trans xf
    replace rv1 := rv1.ext xf
    replace rc1 := rc1.ext xf
    replace h3 := h3.ext xf
    clear xf rv2 rc2 h5
    refine seqQ rfl rfl (yNot rfl rfl) ?_
    refine seqQ rfl rfl (yPickF (v := .bool _) rfl rfl rfl) ?_
    refine seqNil ?_
    refine hF10 _ _ ?_; clear hF10
    -- if t32
    refine wpF rfl ?_
    refine wpSkip ?_
    refine hF9 _ _ ?_; clear hF9
    refine wpSeq fun F11 hF11 => ?_
    refine wpRegion ?_
    refine seqQ rfl rfl (yLoadB h3 rfl Try.underlying32 rfl Try.sizeOf32 rfl) ?_
    -- e slot 35: call F11<farandole/packet.Encode> t34
    refine seqE rfl rfl (stepCall rfl Try.call11 rfl ?_)
    refine (Encode_c (decP b).2 B1 C1 c1 d1 Hf rv1 rc1 h64 (fun v hv => by have := hsz v hv; omega)).mono ?_
    rintro v Hg ⟨E1, ce, rfl, oe, xg⟩
    have re := (Own.rd oe).2
    replace hE := hE.trans xg
    clear xg oe
    refine seqQ rfl rfl (yMove (v := .tuple _) rfl rfl) ?_
    refine seqQ rfl rfl (yExtract (v := .slice _ _ _) rfl rfl rfl) ?_
    refine seqQ rfl rfl (yExtract (v := .int _ _) rfl rfl rfl) ?_
    refine seqQ rfl rfl (yAssign (v := .slice _ _ _) rfl rfl) ?_
    refine seqQ rfl rfl (yAssign (v := .int _ _) rfl rfl) ?_
    refine seqNil ?_
    refine hF11 _ _ ?_; clear hF11
    refine wpSeq fun F12 hF12 => ?_
    refine wpRegion ?_
    refine seqQ rfl rfl (yMove (v := .int _ _) rfl rfl) ?_
    refine seqQ rfl rfl (yNeq rfl rfl rfl) ?_
    -- guard t40
    by_cases h0 : (decP b).1 = 0
    · have hc := dec_canon (b := b) (p := (decP b).2) (by rw [← h0])
      have hc2 : (encP (decP b).2).2 = b := by rw [hc]
      have hc1 : (encP (decP b).2).1 = 0 := by rw [hc]
      rw [hc2] at re
      rw [hc2]
      rw [h0]
      refine seqQ rfl rfl (yMove (v := .bool false) rfl rfl) ?_
      refine seqQ rfl rfl (yMove (v := .int _ _) rfl rfl) ?_
      refine seqQ rfl rfl (yEql rfl rfl rfl) ?_
      -- guard t43
      rw [hc1]
      refine seqQ rfl rfl (yMove (v := .bool true) rfl rfl) ?_
      refine seqQ rfl rfl (yMove (v := .slice _ _ _) rfl rfl) ?_
      refine seqQ rfl rfl (yBytesStr rfl Try.underlying28 Try.underlying9 Try.underlying5 rfl rfl re) ?_
      refine seqQ rfl rfl (yMove (v := .slice _ _ _) rfl rfl) ?_
      refine seqQ rfl rfl (yBytesStr rfl Try.underlying28 Try.underlying9 Try.underlying5 rfl rfl (hA.ext hE)) ?_
      refine seqQ rfl rfl (yEqlS rfl rfl rfl) ?_
      refine seqQ rfl rfl (yPickT (v := .bool _) rfl rfl rfl) ?_
      refine seqQ rfl rfl (yPickF (v := .bool _) rfl rfl rfl) ?_
      refine seqQ rfl rfl (yAssign (v := .bool _) rfl rfl) ?_
      refine seqNil ?_
      refine hF12 _ _ ?_; clear hF12
      -- ret
      refine wpRet (fin1 (v := .bool _) rfl rfl ?_)
      exact ⟨by rw [decide_eq_true rfl], hE⟩
    · skip
      rw [show (decide ((decP b).1 = 0)) = false from decide_eq_false h0]
      refine seqQ rfl rfl (yMove (v := .bool true) rfl rfl) ?_
      refine seqU rfl rfl ?_
      refine seqU rfl rfl ?_
      refine seqU rfl rfl ?_
      refine seqU rfl rfl ?_
      refine seqU rfl rfl ?_
      refine seqU rfl rfl ?_
      refine seqU rfl rfl ?_
      refine seqU rfl rfl ?_
      refine seqU rfl rfl ?_
      refine seqQ rfl rfl (yPickT (v := .bool _) rfl rfl rfl) ?_
      refine seqQ rfl rfl (yAssign (v := .bool _) rfl rfl) ?_
      refine seqNil ?_
      refine hF12 _ _ ?_; clear hF12
      -- ret
      refine wpRet (fin1 (v := .bool _) rfl rfl ?_)
      exact ⟨rfl, hE⟩
set_option maxRecDepth 100000 in
set_option maxRecDepth 100000 in
theorem packetDecode_lifted (os : Os) (started : os.Started) (H : Type) (enc : TypeId × Value → H) :
    ReturnsInHanded {} Try.checked os 4 .any (Rows.packetDecodeSpec.pre6 enc Try.prog Try.f4 Rows.packetDecodeRow.domain false) (Rows.packetDecodeSpec.post enc Try.prog Try.f4 false true false false) := by
  refine law_lifted started Rows.packetDecodeSpec rfl (by kernel_rfl) Try.func4 rfl
    (fun ds h => by match ds, h with | [_], _ => rfl) (of_decide_eq_true (by kernel_rfl))
    (ChangeSpec.witness6 (enc := enc) (C := Try.checked) false ⟨#[], #[.slice none 0 0], []⟩ 8 (by kernel_rfl) (by kernel_rfl) (by kernel_rfl) (by kernel_rfl)) ?_
  intro W base args ds p hval hA
  rw [Try.params4] at hA hval
  obtain ⟨v0, d0, rfl, rfl, h0⟩ := trodAll_one hA
  have g0 := hval 0 _ v0 rfl rfl
  obtain ⟨⟨A, ca, D⟩, rfl, kA, -, hl, -⟩ := (opn_bytes W).one (one_slice Try.underlying28 g0) h0
  exact decode_walk A ca D W.heap kA hl
set_option maxRecDepth 100000 in
theorem packetDecode_holds : Rows.PacketDecodeSaid :=
  OpenClaim.holds_of_wide 4 Try.f4 rfl rfl rfl rfl rfl rfl rfl ⟨rfl, rfl, rfl, rfl, rfl⟩ rfl rfl rfl rfl rfl (by kernel_rfl) Try.func4 (by kernel_rfl)
    (of_decide_eq_true (by kernel_rfl)) (by unfold Func.isWrapper; first | (rw [if_pos (by decide +kernel)]; kernel_rfl) | (rw [if_neg (by decide +kernel)]; exact ⟨rfl, rfl⟩))
    (fun os started H enc _ => packetDecode_lifted os started H enc)
end Go.Proofs.Ytohjmobnnjjekaa
