/- PacketDamage: an encoding in which exactly one byte is changed is refused with ErrSum. Conditions: none beyond the statement's. -/
import Derived.Test.YtohjmobnnjjekaaS8
namespace Go.Proofs.Ytohjmobnnjjekaa
open Go.ChangeShapes Go.WideShapes Go.ChangeAt Go.RowKit Go.Deep

set_option maxRecDepth 100000 in
theorem mulP_inj {x y : Nat} (hx : x < 18446744073709551616) (hy : y < 18446744073709551616) (h : x * 1099511628211 % 18446744073709551616 = y * 1099511628211 % 18446744073709551616) : x = y := by
  have inv : ∀ z : Nat, z < 18446744073709551616 → z * 1099511628211 % 18446744073709551616 * 14886173955864302971 % 18446744073709551616 = z := fun z hz => by
    rw [Nat.mod_mul_mod, Nat.mul_assoc, show 1099511628211 * 14886173955864302971 = 1 + 18446744073709551616 * 887285111055 from by decide, Nat.mul_add, Nat.mul_one, Nat.mul_left_comm, Nat.add_mul_mod_self_left, Nat.mod_eq_of_lt hz]
  have h1 := inv x hx
  rw [h, inv y hy] at h1
  exact h1.symm
set_option maxRecDepth 100000 in
theorem xor_lt64 {x : Nat} (hx : x < 18446744073709551616) (c : UInt8) : x ^^^ c.toNat < 18446744073709551616 := by
  have hc := c.toNat_lt
  exact Nat.xor_lt_two_pow (n := 64) hx (by omega)
set_option maxRecDepth 100000 in
theorem xor_cancel_r {x y c : Nat} (h : x ^^^ c = y ^^^ c) : x = y := by
  have := congrArg (· ^^^ c) h
  simpa [Nat.xor_assoc] using this
set_option maxRecDepth 100000 in
theorem fnv_inj : ∀ (b : List UInt8) {x y : Nat}, x < 18446744073709551616 → y < 18446744073709551616 → fnv x b = fnv y b → x = y
  | [], _, _, _, _, h => h
  | c :: b, x, y, hx, hy, h => xor_cancel_r (mulP_inj (xor_lt64 hx c) (xor_lt64 hy c) (fnv_inj b (Nat.mod_lt _ (by decide)) (Nat.mod_lt _ (by decide)) h))
set_option maxRecDepth 100000 in
theorem fnv_byte {s : Nat} (hs : s < 18446744073709551616) {c d : UInt8} (b : List UInt8) (h : fnv s (c :: b) = fnv s (d :: b)) : c = d := by
  have h1 := mulP_inj (xor_lt64 hs c) (xor_lt64 hs d) (fnv_inj b (Nat.mod_lt _ (by decide)) (Nat.mod_lt _ (by decide)) h)
  rw [Nat.xor_comm s c.toNat, Nat.xor_comm s d.toNat] at h1
  exact UInt8.toNat.inj (xor_cancel_r h1)
set_option maxRecDepth 100000 in
theorem by8_inj {x y : Nat} (hx : x < 18446744073709551616) (hy : y < 18446744073709551616) (h : by8 x = by8 y) : x = y := by
  have t : ∀ (a b : Nat), UInt8.ofNat a = UInt8.ofNat b → a % 256 = b % 256 := fun a b h => by
    have := congrArg UInt8.toNat h
    simpa using this
  unfold by8 at h
  simp only [List.cons.injEq, and_true] at h
  obtain ⟨h7, h6, h5, h4, h3, h2, h1, h0⟩ := h
  have h7 := t _ _ h7
  have h6 := t _ _ h6
  have h5 := t _ _ h5
  have h4 := t _ _ h4
  have h3 := t _ _ h3
  have h2 := t _ _ h2
  have h1 := t _ _ h1
  have h0 := t _ _ h0
  simp only [Nat.reducePow] at h0 h1 h2 h3 h4 h5 h6 h7
  omega
set_option maxRecDepth 100000 in
theorem hash_set {b : List UInt8} {k : Nat} {x : UInt8} (hk : k < b.length) (h : hash (b.set k x) = hash b) : b[k] = x := by
  have e : b = b.take k ++ b[k] :: b.drop (k + 1) := by rw [List.getElem_cons_drop, List.take_append_drop]
  have e2 : b.set k x = b.take k ++ x :: b.drop (k + 1) := by rw [List.set_eq_take_append_cons_drop, if_pos hk]
  unfold hash at h
  rw [e2, fnv_append] at h
  have h2 : fnv 14695981039346656037 b = fnv (fnv 14695981039346656037 (b.take k)) (b[k] :: b.drop (k + 1)) := by
    rw [← fnv_append, ← e]
  rw [h2] at h
  exact (fnv_byte (fnv_lt (by decide) _) _ h).symm
set_option maxRecDepth 100000 in
theorem damaged {b : List UInt8} {k : Nat} {x : UInt8} (hk : k < (sealed b).length) (hx : (sealed b)[k] ≠ x) : opened ((sealed b).set k x) = (5, []) := by
  have h8 : (by8 (hash b)).length = 8 := rfl
  have hl : (sealed b).length = b.length + 8 := by unfold sealed; rw [List.length_append, h8]
  have hls : ((sealed b).set k x).length = b.length + 8 := by rw [List.length_set, hl]
  have en : ((sealed b).set k x).length - 8 = b.length := by omega
  refine opened_bad (by omega) ?_
  rw [en]
  rcases Nat.lt_or_ge k b.length with h | h
  · have e1 : (sealed b).set k x = b.set k x ++ by8 (hash b) := by unfold sealed; rw [List.set_append_left _ _ h]
    have hg : (sealed b)[k] = b[k] := by unfold sealed; exact List.getElem_append_left h
    rw [e1, List.take_left' (List.length_set), List.drop_left' (List.length_set)]
    intro hh
    have := hash_set h (by8_inj (hash_lt _) (hash_lt _) hh)
    exact hx (hg.trans this)
  · have e1 : (sealed b).set k x = b ++ (by8 (hash b)).set (k - b.length) x := by unfold sealed; rw [List.set_append_right _ _ h]
    have hk2 : k - b.length < (by8 (hash b)).length := by omega
    have hg : (sealed b)[k] = (by8 (hash b))[k - b.length] := by unfold sealed; exact List.getElem_append_right h
    rw [e1, List.take_left, List.drop_left]
    intro hh
    have h2 := congrArg (fun l => l[k - b.length]?) hh
    simp only [List.getElem?_set_self hk2, List.getElem?_eq_getElem hk2, Option.some.injEq] at h2
    exact hx (hg.trans h2)
set_option maxRecDepth 100000 in
theorem dec_bad {b : List UInt8} (h : opened b = (5, [])) : decP b = (5, pk0) := by
  unfold decP
  rw [h]
  rfl
section
variable {P : Program} {n : Nat} {o : Oper} {E : Env} {H : Heap} {x y : Operand} {T yT : TypeId} {a b c : Int} {k : IntKind}
set_option maxRecDepth 100000 in
theorem yRemE (ho : o.op = .binOp .rem T x y yT) (hx : ev n E x = .int k a) (hy : ev n E y = .int k b) (h : 0 ≤ a ∧ 0 < b) (e : a % b = c) : Yld P n o E H (.int k c) := e ▸ yRem ho hx hy h
end
set_option maxRecDepth 100000 in
theorem damage_walk (p : Pk) (at_ : Int) (to : UInt8) (hat : 0 ≤ at_ ∧ at_ ≤ 65535) (A B : Option Addr) (ca cb : Nat) (H : Heap) (hA : Rd eVal H A p.vals) (hB : Rd eInt H B p.clk) (hl : p.vals.length ≤ 9223372036854775807) (hp : N64 p) :
    CallsH Try.prog 6 [.agg (pkC p A ca B cb).toArray, .agg #[.int .u16 at_, .int .u8 (to.toNat : Int)]] H fun v H' => v = .bool true ∧ Ext H H' := by
  refine callsH_of Try.func6 rfl Try.ntmps6 (Nat.le_of_ble_eq_true rfl) ?_
  refine wpSeq fun F1 hF1 => ?_
  refine wpRegion ?_
  refine seqN rfl rfl (nBoxA rfl rfl) (fun g2 H2 hx2 hB2 hg2 hl2 => ?_)
  refine seqN rfl rfl (nBoxA rfl rfl) (fun g3 H3 hx3 hB3 hg3 hl3 => ?_)
  refine seqQ rfl rfl (yAssign (v := .bool _) rfl rfl) ?_
  refine seqNil ?_
  refine hF1 _ _ ?_; clear hF1
  refine wpSeq fun F2 hF2 => ?_
  refine wpSeq fun F3 hF3 => ?_
  refine wpRegion ?_
  -- e slot 10: call F9<farandole/farandolelaw46.awake> 
  refine seqE rfl rfl (stepCall rfl Try.call9 rfl ?_)
  refine (pkAwake_c _).mono ?_
  rintro v Ha ⟨rfl, xa⟩
  have h2 := (hB2.ext hx3).ext xa
  have h3 := hB3.ext xa
  have hE := (hx2.trans hx3).trans xa
  clear hB2 hB3 hx2 hx3 xa
  refine seqQ rfl rfl (yNot rfl rfl) ?_
  refine seqNil ?_
  refine hF3 _ _ ?_; clear hF3
  -- if t11
  refine wpF rfl ?_
  refine wpSkip ?_
  refine hF2 _ _ ?_; clear hF2
  refine wpSeq fun F4 hF4 => ?_
  refine wpSeq fun F5 hF5 => ?_
  refine wpRegion ?_
  refine seqQ rfl rfl (yLoadB h2 rfl Try.underlying25 rfl Try.sizeOf25 rfl) ?_
  -- e slot 13: call F10<farandole/farandoleref46.Few> t12
  refine seqE rfl rfl (stepCall rfl Try.call10 rfl ?_)
  refine (few_c p A B ca cb Ha (hA.ext hE) hl).mono ?_
  rintro v Hb ⟨rfl, xb⟩
  replace h2 := h2.ext xb
  replace h3 := h3.ext xb
  replace hE := hE.trans xb
  clear xb
  refine seqQ rfl rfl (yNot rfl rfl) ?_
  refine seqNil ?_
  refine hF5 _ _ ?_; clear hF5
  -- if t14
  refine wpCond rfl (fun hf => ?_) (fun hf => ?_)
  · skip
    refine wpSeq fun F6 hF6 => ?_
    refine wpRegion ?_
    refine seqQ rfl rfl (yAssign (v := .bool _) rfl rfl) ?_
    refine seqNil ?_
    refine hF6 _ _ ?_; clear hF6
    -- ret
    refine wpRet (fin1 (v := .bool _) rfl rfl ?_)
    exact ⟨rfl, hE⟩
  · skip
    have hf : FewP p := by simpa using hf
    refine wpSkip ?_
    refine hF4 _ _ ?_; clear hF4
    refine wpSeq fun F7 hF7 => ?_
    refine wpRegion ?_
    refine seqQ rfl rfl (yLoadB h2 rfl Try.underlying25 rfl Try.sizeOf25 rfl) ?_
    -- e slot 17: call F11<farandole/packet.Encode> t16
    refine seqE rfl rfl (stepCall rfl Try.call11 rfl ?_)
    refine (Encode_c p A B ca cb Hb (hA.ext hE) (hB.ext hE) hp (few_sz hf)).mono ?_
    rintro v Hd ⟨E1, ce, rfl, oe, xd⟩
    replace h2 := h2.ext xd
    replace h3 := h3.ext xd
    have sd := xd.size
    have sE := hE.size
    replace hE := hE.trans xd
    clear xd
    refine seqQ rfl rfl (yMove (v := .tuple _) rfl rfl) ?_
    refine seqQ rfl rfl (yExtract (v := .slice _ _ _) rfl rfl rfl) ?_
    refine seqQ rfl rfl (yExtract (v := .int _ _) rfl rfl rfl) ?_
    refine seqQ rfl rfl (yAssign (v := .slice _ _ _) rfl rfl) ?_
    refine seqQ rfl rfl (yAssign (v := .int _ _) rfl rfl) ?_
    refine seqNil ?_
    refine hF7 _ _ ?_; clear hF7
    refine wpSeq fun F8 hF8 => ?_
    refine wpSeq fun F9 hF9 => ?_
    refine wpRegion ?_
    refine seqQ rfl rfl (yMove (v := .int _ _) rfl rfl) ?_
    refine seqQ rfl rfl (yNeq rfl rfl rfl) ?_
    -- guard t22
    by_cases e1 : ValidP p
    · skip
      have u1 : (encP p).1 = 0 := by rw [encP_valid e1]
      have u2 := encP_len e1
      have u3 := encPk_len e1 (few_enc hf hp)
      rw [u1]
      refine seqQ rfl rfl (yMove (v := .bool false) rfl rfl) ?_
      refine seqQ rfl rfl (yMove (v := .slice _ _ _) rfl rfl) ?_
      refine seqQ rfl rfl (yLen rfl Try.underlying28 rfl) ?_
      refine seqQ rfl rfl (yEql rfl rfl rfl) ?_
      refine seqQ rfl rfl (yPickF (v := .bool _) rfl rfl rfl) ?_
      refine seqNil ?_
      refine hF9 _ _ ?_; clear hF9
      -- if t26
      refine wpIf rfl (fun h0 => ?_) (fun h0 => ?_)
      · skip
        omega
      · skip
        obtain ⟨n, hn⟩ : ∃ n, n = (encP p).2.length := ⟨_, rfl⟩
        have hn0 : 0 < n := by omega
        obtain ⟨k, hkd⟩ : ∃ k, k = at_.toNat % n := ⟨_, rfl⟩
        have hkn : k < n := by rw [hkd]; exact Nat.mod_lt _ hn0
        have hke : at_ % ((encP p).2.length : Int) = (k : Int) := by
          rw [← hn, hkd, Int.natCast_emod]
          congr 1
          omega
        have hk : k < (encP p).2.length := by omega
        obtain ⟨q, rfl, hq⟩ := (Own.rd oe).2.at1 hk
        have hce : (encP p).2.length ≤ ce := by
          obtain ⟨_, _, e, h, -⟩ := oe.form
          cases e
          exact h
        have hqb := oe.lt q.block rfl
        have ht := to.toNat_lt
        refine wpSkip ?_
        refine hF8 _ _ ?_; clear hF8
        refine wpSeq fun F10 hF10 => ?_
        refine wpRegion ?_
        refine seqQ rfl rfl (yFieldAddr rfl Try.underlying46 rfl Try.sizeOf44 rfl rfl) ?_
        refine seqQ rfl rfl (yLoad rfl Try.underlying44 rfl rfl (h3.cell rfl)) ?_
        refine seqQ rfl rfl (yConv rfl Try.underlying44 Try.underlying3 rfl (IntWalk.i64_in _ (by omega))) ?_
        refine seqQ rfl rfl (yMove (v := .slice _ _ _) rfl rfl) ?_
        refine seqQ rfl rfl (yLen rfl Try.underlying28 rfl) ?_
        refine seqQ rfl rfl (yRemE rfl rfl rfl ⟨by omega, by omega⟩ hke) ?_
        refine seqQ rfl rfl (yAssign (v := .int _ _) rfl rfl) ?_
        refine seqNil ?_
        refine hF10 _ _ ?_; clear hF10
        refine wpSeq fun F11 hF11 => ?_
        refine wpSeq fun F12 hF12 => ?_
        refine wpRegionD Try_mixed [.q, .q, .q, .q, .q, .q, .q] 6 [0, 0, 3, 7, 0, 16, 63] [] (by kernel_rfl) _ rfl [0, 1, 2, 3, 4, 5] rfl (by simp) ?_
        refine lexQ rfl rfl rfl rfl (fun H hM => (yMove (v := .slice _ _ _) rfl rfl)) ?_
        refine lexQ rfl rfl rfl rfl (fun H hM => (yMove (v := .int _ _) rfl rfl)) ?_
        refine lexQ rfl rfl rfl rfl (fun H hM => (yIdx1 rfl Try.underlying28 Try.sizeOf5 rfl rfl rfl hk)) ?_
        refine lexQ rfl rfl rfl rfl (fun H hM => (yLoad rfl Try.underlying5 rfl rfl (hM.ext.cell hq))) ?_
        refine lexQ rfl rfl rfl rfl (fun H hM => (yFieldAddr rfl Try.underlying46 rfl Try.sizeOf5 rfl rfl)) ?_
        refine lexQ rfl rfl rfl rfl (fun H hM => (yLoad rfl Try.underlying5 rfl rfl (hM.ext.cell (h3.cell rfl)))) ?_
        -- tail
        refine lexNil0 rfl (fun hM => ?_)
        refine seqQ rfl rfl (yEql rfl rfl rfl) ?_
        refine seqNil ?_
        refine hF12 _ _ ?_; clear hF12
        -- if t41
        refine wpIf rfl (fun hx => ?_) (fun hx => ?_)
        · skip
          refine wpSeq fun F13 hF13 => ?_
          refine wpRegion ?_
          refine seqQ rfl rfl (yAssign (v := .bool _) rfl rfl) ?_
          refine seqNil ?_
          refine hF13 _ _ ?_; clear hF13
          -- ret
          refine wpRet (fin1 (v := .bool _) rfl rfl ?_)
          exact ⟨rfl, hE⟩
        · skip
          refine wpSkip ?_
          refine hF11 _ _ ?_; clear hF11
          refine wpSeq fun F14 hF14 => ?_
          refine wpRegion ?_
          refine seqQ rfl rfl (yMove (v := .slice _ _ _) rfl rfl) ?_
          refine seqQ rfl rfl (yMove (v := .int _ _) rfl rfl) ?_
          refine seqQ rfl rfl (yFieldAddr rfl Try.underlying46 rfl Try.sizeOf5 rfl rfl) ?_
          refine seqQ rfl rfl (yLoad rfl Try.underlying5 rfl rfl (h3.cell rfl)) ?_
          refine seqQ rfl rfl (yIdx1 rfl Try.underlying28 Try.sizeOf5 rfl rfl rfl hk) ?_
          -- e slot None: store T5 t46 t45
          refine seqE0 rfl rfl (stepStoreOwn (z := to) oe rfl Try.sizeOf5 rfl rfl rfl rfl hk ?_)
          intro He oe2 hKe
          replace hE := hE.mine hKe (by simp; omega)
          have hx' : (encP p).2[k] ≠ to := fun e => hx (by rw [e])
          have hdec : decP ((encP p).2.set k to) = (5, pk0) := by
            have e2 : (encP p).2 = sealed (encPk p) := by rw [encP_valid e1]
            refine dec_bad ?_
            have hk2 : k < (sealed (encPk p)).length := by rw [← e2]; exact hk
            have hx2 : (sealed (encPk p))[k] ≠ to := by
              intro e
              apply hx'
              rw [← e]
              congr 1
            rw [e2]
            exact damaged hk2 hx2
          refine seqNil ?_
          refine hF14 _ _ ?_; clear hF14
          refine wpSeq fun F15 hF15 => ?_
          refine wpRegion ?_
          refine seqQ rfl rfl (yMove (v := .slice _ _ _) rfl rfl) ?_
          -- e slot 49: call F19<farandole/packet.Decode> t48
          refine seqE rfl rfl (stepCall rfl Try.call19 rfl ?_)
          have hc := Decode_c (some q) ce ((encP p).2.set k to) He (Own.rd oe2).2 (by rw [List.length_set]; exact hce) (by rw [List.length_set]; omega)
          rw [List.length_set, hdec] at hc
          refine hc.mono ?_
          rintro v Hf ⟨F1, cg, F2, ch, rfl, ov, oc, xf⟩
          refine seqQ rfl rfl (yMove (v := .tuple _) rfl rfl) ?_
          refine seqQ rfl rfl (yExtract (v := .agg _) rfl rfl rfl) ?_
          refine seqQ rfl rfl (yExtract (v := .int _ _) rfl rfl rfl) ?_
          refine seqN rfl rfl (nAlloc rfl Try.zeroValue32 rfl) (fun g8 H8 hx8 hB8 hg8 hl8 => ?_)
          -- e slot None: store T32 t8 t50
          refine seqE0 rfl rfl (stepStoreB rfl (by kernel_rfl) rfl rfl rfl hB8 rfl ?_)
          intro Hg h9 hKg
          have xg : Ext Hf Hg := hx8.mine hKg (by simp; omega)
          have r3 := (Own.rd (ov.ext xg)).2
          have r4 := (Own.rd (oc.ext xg)).2
          replace hE := (hE.trans xf).trans xg
          refine seqQ rfl rfl (yAssign (v := .int _ _) rfl rfl) ?_
          refine seqNil ?_
          refine hF15 _ _ ?_; clear hF15
          refine wpSeq fun F16 hF16 => ?_
          refine wpRegion ?_
          refine seqQ rfl rfl (yMove (v := .int _ _) rfl rfl) ?_
          refine seqQ rfl rfl (yEql rfl rfl rfl) ?_
          refine seqQ rfl rfl (yMove (v := .bool true) rfl rfl) ?_
          refine seqQ rfl rfl (yLoadB h9 rfl Try.underlying32 rfl Try.sizeOf32 rfl) ?_
          refine seqQ rfl rfl (yBuild (pl := [(0, 1), (1, 1), (2, 1), (3, 1), (4, 1), (5, 1), (6, 1), (7, 1), (8, 1)]) (vs := []) rfl Try.underlying25 Try.zeroValue25 rfl (by unfold Places; kernel_rfl) rfl rfl) ?_
          -- e slot 57: call F15<farandole/farandoleref46.Equal> t55 t56
          refine seqE rfl rfl (stepCall rfl Try.call15 rfl ?_)
          refine (rEqual_c pk0 pk0 F1 F2 none none cg ch 0 0 Hg r3 r4 (Rd.nil _ _) (Rd.nil _ _) (by decide) (by decide)).mono ?_
          rintro v Hh ⟨hv, xh⟩
          obtain rfl : v = .bool true := hv.trans (by simp)
          refine seqQ rfl rfl (yPickT (v := .bool _) rfl rfl rfl) ?_
          refine seqQ rfl rfl (yAssign (v := .bool _) rfl rfl) ?_
          refine seqNil ?_
          refine hF16 _ _ ?_; clear hF16
          -- ret
          refine wpRet (fin1 (v := .bool _) rfl rfl ?_)
          exact ⟨rfl, hE.trans xh⟩
    · skip
      have u1 : (encP p).1 = 1 := by rw [encP_bad e1]
      rw [u1]
      refine seqQ rfl rfl (yMove (v := .bool true) rfl rfl) ?_
      refine seqU rfl rfl ?_
      refine seqU rfl rfl ?_
      refine seqU rfl rfl ?_
      refine seqQ rfl rfl (yPickT (v := .bool _) rfl rfl rfl) ?_
      refine seqNil ?_
      refine hF9 _ _ ?_; clear hF9
      -- if t26
      refine wpT rfl ?_
      refine wpSeq fun F17 hF17 => ?_
      refine wpRegion ?_
      refine seqQ rfl rfl (yMove (v := .int _ _) rfl rfl) ?_
      refine seqQ rfl rfl (yNeq rfl rfl rfl) ?_
      refine seqQ rfl rfl (yAssign (v := .bool _) rfl rfl) ?_
      refine seqNil ?_
      refine hF17 _ _ ?_; clear hF17
      -- ret
      refine wpRet (fin1 (v := .bool _) rfl rfl ?_)
      exact ⟨rfl, hE⟩
set_option maxRecDepth 100000 in
theorem opn_change (W : World) : Opn Try.prog W 46 2 (fun x : Int × Int => [.int .u16 x.1, .int .u8 x.2]) (fun x => (0 ≤ x.1 ∧ x.1 ≤ 65535) ∧ 0 ≤ x.2 ∧ x.2 ≤ 255) :=
  (opn_struct Try.underlying46 (by kernel_rfl) (opnF_cons rfl (opn_u16 Try.underlying44 (by kernel_rfl)) (opnF_cons rfl (opn_u8i Try.underlying5 (by kernel_rfl)) (opnF_nil rfl)))).map (fun a : Int × Int × Unit => (a.1, a.2.1)) (fun _ => rfl) (fun _ h => ⟨h.1, h.2.1⟩)
set_option maxRecDepth 100000 in
set_option maxRecDepth 100000 in
theorem packetDamage_lifted (os : Os) (started : os.Started) (H : Type) (enc : TypeId × Value → H) :
    ReturnsInHanded {} Try.checked os 6 .any (Rows.packetDamageSpec.pre6 enc Try.prog Try.f6 Rows.packetDamageRow.domain false) (Rows.packetDamageSpec.post enc Try.prog Try.f6 false true false false) := by
  refine law_lifted started Rows.packetDamageSpec rfl (by kernel_rfl) Try.func6 rfl
    (fun ds h => by match ds, h with | [_, _], _ => rfl) (of_decide_eq_true (by kernel_rfl))
    (ChangeSpec.witness6 (enc := enc) (C := Try.checked) false ⟨#[], #[.agg #[.int .i64 0, .int .i64 0, .int .i64 0, .int .i64 0, .int .i64 0, .int .i64 0, .int .i64 0, .slice none 0 0, .slice none 0 0], .agg #[.int .u16 0, .int .u8 0]], []⟩ 8 (by kernel_rfl) (by kernel_rfl) (by kernel_rfl) (by kernel_rfl)) ?_
  intro W base args ds p hval hA
  rw [Try.params6] at hA hval
  obtain ⟨v0, v1, d0, d1, p0, p1, rfl, rfl, rfl, h0, h1⟩ := trodAll_two hA
  have g0 := hval 0 _ v0 rfl rfl
  have g1 := hval 1 _ v1 rfl rfl
  obtain ⟨⟨p, ⟨A, ca⟩, ⟨B, cb⟩⟩, rfl, kA, kB, hl, hp⟩ := (opn_pk W).agg Try.underlying25 rfl g0 h0
  obtain ⟨⟨at_, t⟩, rfl, hat, ht1, ht2⟩ := (opn_change W).agg Try.underlying46 rfl g1 h1
  obtain ⟨to, rfl⟩ : ∃ to : UInt8, t = (to.toNat : Int) := ⟨UInt8.ofNat t.toNat, by
    dsimp only at ht1 ht2
    rw [UInt8.toNat_ofNat']
    omega⟩
  exact damage_walk p at_ to hat A B ca cb W.heap kA kB hl hp
set_option maxRecDepth 100000 in
theorem packetDamage_holds : Rows.PacketDamageSaid :=
  OpenClaim.holds_of_wide 6 Try.f6 rfl rfl rfl rfl rfl rfl rfl ⟨rfl, rfl, rfl, rfl, rfl⟩ rfl rfl rfl rfl rfl (by kernel_rfl) Try.func6 (by kernel_rfl)
    (of_decide_eq_true (by kernel_rfl)) (by unfold Func.isWrapper; first | (rw [if_pos (by decide +kernel)]; kernel_rfl) | (rw [if_neg (by decide +kernel)]; exact ⟨rfl, rfl⟩))
    (fun os started H enc _ => packetDamage_lifted os started H enc)
end Go.Proofs.Ytohjmobnnjjekaa
