/- LinkSend: New, Valid, Send, Idle and Equal return the specified results for any link, packet and pattern. Conditions: none beyond the statement's. -/
import Derived.Test.YtckbcfldjniafaaL13
namespace Go.Proofs.Ytckbcfldjniafaa
open Go.ChangeShapes Go.WideShapes Go.ChangeAt Go.RowKit Go.Deep

set_option maxRecDepth 100000 in
theorem sm_self {l L : LH} (h : LkSm l) (he : L.lk = l.lk) : LkSm L := sm_of he h.pat (by rw [fly_len]; exact h.fly) (fun x hx => by obtain ⟨y, hy, rfl⟩ := List.mem_map.1 hx; exact h.data y hy)
set_option maxRecDepth 100000 in
theorem mem_insF {f : List Fl} {x y : Fl} (h : y ∈ insF f x) : y ∈ f ∨ y = x := by
  unfold insF at h
  split at h
  · exact .inl h
  · rcases List.mem_append.1 h with h | h
    · exact .inl ((List.takeWhile_sublist _).subset h)
    · rcases List.mem_cons.1 h with h | h
      · exact .inr h
      · exact .inl ((List.dropWhile_sublist _).subset h)
set_option maxRecDepth 100000 in
theorem putAll_mem {now : Int} {d : List UInt8} : ∀ (ds : List Int) {f : List Fl} {y : Fl}, y ∈ putAll now d ds f → y ∈ f ∨ (∃ t ∈ ds, y = (now + t, d))
  | [], f, y, h => .inl h
  | t :: ds, f, y, h => by
    rcases putAll_mem ds (f := insF f (now + t, d)) h with h | ⟨s, hs, e⟩
    · rcases mem_insF h with h | h
      · exact .inl h
      · exact .inr ⟨t, by simp, h⟩
    · exact .inr ⟨s, by simp [hs], e⟩
set_option maxRecDepth 100000 in
theorem putAll_len {now : Int} {d : List UInt8} : ∀ (ds : List Int) {f : List Fl}, (putAll now d ds f).length ≤ f.length + ds.length
  | [], f => Nat.le_refl _
  | t :: ds, f => by
    have h1 := putAll_len (now := now) (d := d) ds (f := insF f (now + t, d))
    have h2 := insF_len (f := f) (x := (now + t, d))
    show (putAll now d ds (insF f (now + t, d))).length ≤ _
    simp only [List.length_cons]
    omega
set_option maxRecDepth 100000 in
theorem sendL_dec (l : Lk) (d : List UInt8) : (sendL l d = (1, lk0)) ∨ (sendL l d = (6, lk0)) ∨ (ValidL l ∧ ¬ l.sent = 1099511627776 ∧ d.length ≤ 1000 ∧ sendL l d = (0, { l with sent := l.sent + 1, fly := putAll l.now (arr (fate l) d) (delays (fate l)) l.fly })) := by
  by_cases h : ¬ ValidL l ∨ l.sent = 1099511627776
  · exact .inl (sendL_bad h)
  · by_cases h2 : 1000 < d.length
    · exact .inr (.inl (sendL_long h h2))
    · exact .inr (.inr ⟨Classical.byContradiction fun hn => h (.inl hn), fun e => h (.inr e), by omega, sendL_ok h h2⟩)
set_option maxRecDepth 100000 in
theorem sm_send {l L : LH} {d : List UInt8} (h : LkSm l) (he : L.lk = (sendL l.lk d).2) : LkSm L := by
  rcases sendL_dec l.lk d with e | e | ⟨hv, -, hd, e⟩
  · rw [e] at he
    exact sm_of he (by decide) (by decide) (by decide)
  · rw [e] at he
    exact sm_of he (by decide) (by decide) (by decide)
  · rw [e] at he
    have hf := hv.good.len
    refine sm_of he h.pat ?_ fun x hx => ?_
    · have h1 := putAll_len (now := l.lk.now) (d := arr (fate l.lk) d) (delays (fate l.lk)) (f := l.lk.fly)
      have h2 := delays_len (fate l.lk)
      dsimp only
      omega
    · rcases putAll_mem _ hx with hx | ⟨t, -, rfl⟩
      · obtain ⟨y, hy, rfl⟩ := List.mem_map.1 hx
        exact h.data y hy
      · dsimp only
        rw [arr_len]
        omega
set_option maxRecDepth 100000 in
theorem valid_send {l : Lk} {d : List UInt8} (h : (sendL l d).1 = 0) : ValidL (sendL l d).2 := by
  rcases sendL_dec l d with e | e | ⟨hv, hs, hd, e⟩
  · rw [e] at h
    cases h
  · rw [e] at h
    cases h
  · rw [e]
    obtain ⟨h1, h2, h3, -, -⟩ := id hv
    exact ValidL.of h1 h2 (by dsimp only; omega) (GoodF.putAll (by rw [arr_len]; omega) _ hv.good fun t ht => delays_rng ht)
set_option maxRecDepth 100000 in
theorem sm_new {L : LH} {p : List UInt8} (he : L.lk = (newL p).2) : LkSm L := by
  unfold newL at he
  split at he
  · exact sm_of he (by decide) (by decide) (by decide)
  · rename_i hp
    exact sm_of he (by dsimp only; omega) (by simp) (fun x hx => by cases hx)
set_option maxRecDepth 100000 in
theorem send_walk (l : LH) (A B : Option Addr) (ca cb : Nat) (d pt : List UInt8) (H : Heap) (h : LkArg H l) (hA : Rd eByte H A d) (hB : Rd eByte H B pt) (hd : d.length ≤ 9223372036854775807) (hp : pt.length ≤ 9223372036854775807) :
    CallsH Try.prog 8 [.agg (lkC l).toArray, .slice A d.length ca, .slice B pt.length cb] H fun v H' => v = .bool true ∧ Ext H H' := by
  refine callsH_of Try.func8 rfl Try.ntmps8 (Nat.le_of_ble_eq_true rfl) ?_
  refine wpSeq fun F1 hF1 => ?_
  refine wpRegion ?_
  refine seqN rfl rfl (nBoxA rfl rfl) (fun g3 H3 hx3 hB3 hg3 hl3 => ?_)
  refine seqQ rfl rfl (yAssign (v := .bool _) rfl rfl) ?_
  refine seqNil ?_
  refine hF1 _ _ ?_; clear hF1
  refine wpSeq fun F2 hF2 => ?_
  refine wpSeq fun F3 hF3 => ?_
  refine wpRegion ?_
  -- e slot 15: call F9<farandole/farandolelaw45.awake> 
  refine seqE rfl rfl (stepCall rfl Try.call9 rfl ?_)
  refine (lkAwake_c _).mono ?_
  rintro v Ha ⟨rfl, xa⟩
  have h3 := hB3.ext xa
  have hE := hx3.trans xa
  clear hB3 hx3 xa
  refine seqQ rfl rfl (yNot rfl rfl) ?_
  refine seqNil ?_
  refine hF3 _ _ ?_; clear hF3
  -- if t16
  refine wpF rfl ?_
  refine wpSkip ?_
  refine hF2 _ _ ?_; clear hF2
  refine wpSeq fun F4 hF4 => ?_
  refine wpSeq fun F5 hF5 => ?_
  refine wpRegion ?_
  refine seqQ rfl rfl (yLoadB h3 rfl Try.underlying25 rfl Try.sizeOf25 rfl) ?_
  -- e slot 18: call F10<farandole/farandoleref45.Few> t17
  refine seqE rfl rfl (stepCall rfl Try.call10 rfl ?_)
  refine (fewL_c l Ha (h.rd.ext hE) h.len).mono ?_
  rintro v Hb ⟨rfl, xb⟩
  replace h3 := h3.ext xb
  replace hE := hE.trans xb
  clear xb
  refine seqQ rfl rfl (yNot rfl rfl) ?_
  first | refine seqG rfl rfl rfl rfl (fun h20 => ?_) (fun h20 => ?_) | refine seqGB rfl rfl rfl rfl (fun h20 => ?_) (fun h20 => ?_)
  · skip
    refine seqU rfl rfl ?_
    refine seqU rfl rfl ?_
    refine seqU rfl rfl ?_
    refine seqQ rfl rfl (yPickT (v := .bool _) rfl rfl rfl) ?_
    refine seqQ rfl rfl (yMove (v := .bool true) rfl rfl) ?_
    refine seqU rfl rfl ?_
    refine seqU rfl rfl ?_
    refine seqU rfl rfl ?_
    refine seqQ rfl rfl (yPickT (v := .bool _) rfl rfl rfl) ?_
    refine seqNil ?_
    refine hF5 _ _ ?_; clear hF5
    refine wpT rfl ?_
    refine wpSeq fun F6 hF6 => ?_
    refine wpRegion ?_
    refine seqQ rfl rfl (yAssign (v := .bool _) rfl rfl) ?_
    refine seqNil ?_
    refine hF6 _ _ ?_; clear hF6
    refine wpRet (fin1 (v := .bool _) rfl rfl ?_)
    exact ⟨rfl, hE⟩
  refine seqQ rfl rfl (yMove (v := .slice _ _ _) rfl rfl) ?_
  refine seqQ rfl rfl (yLen rfl Try.underlying22 rfl) ?_
  refine seqQ rfl rfl (yGtr rfl rfl rfl) ?_
  refine seqQ rfl rfl (yPickF (v := .bool _) rfl rfl rfl) ?_
  first | refine seqG rfl rfl rfl rfl (fun h25 => ?_) (fun h25 => ?_) | refine seqGB rfl rfl rfl rfl (fun h25 => ?_) (fun h25 => ?_)
  · skip
    refine seqU rfl rfl ?_
    refine seqU rfl rfl ?_
    refine seqU rfl rfl ?_
    refine seqQ rfl rfl (yPickT (v := .bool _) rfl rfl rfl) ?_
    refine seqNil ?_
    refine hF5 _ _ ?_; clear hF5
    refine wpT rfl ?_
    refine wpSeq fun F7 hF7 => ?_
    refine wpRegion ?_
    refine seqQ rfl rfl (yAssign (v := .bool _) rfl rfl) ?_
    refine seqNil ?_
    refine hF7 _ _ ?_; clear hF7
    refine wpRet (fin1 (v := .bool _) rfl rfl ?_)
    exact ⟨rfl, hE⟩
  refine seqQ rfl rfl (yMove (v := .slice _ _ _) rfl rfl) ?_
  refine seqQ rfl rfl (yLen rfl Try.underlying22 rfl) ?_
  refine seqQ rfl rfl (yGtr rfl rfl rfl) ?_
  refine seqQ rfl rfl (yPickF (v := .bool _) rfl rfl rfl) ?_
  refine seqNil ?_
  refine hF5 _ _ ?_; clear hF5
  -- if t29
  refine wpIf rfl (fun hlp => ?_) (fun hlp => ?_)
  · skip
    refine wpSeq fun F8 hF8 => ?_
    refine wpRegion ?_
    refine seqQ rfl rfl (yAssign (v := .bool _) rfl rfl) ?_
    refine seqNil ?_
    refine hF8 _ _ ?_; clear hF8
    -- ret
    refine wpRet (fin1 (v := .bool _) rfl rfl ?_)
    exact ⟨rfl, hE⟩
  · skip
    have hf : FewL l := by simpa using h20
    have hd : d.length ≤ 1200 := by omega
    have hp : pt.length ≤ 300 := by omega
    have hs := hf.sm
    refine wpSkip ?_
    refine hF4 _ _ ?_; clear hF4
    refine wpSeq fun F9 hF9 => ?_
    refine wpRegion ?_
    refine seqQ rfl rfl (yLoadB h3 rfl Try.underlying25 rfl Try.sizeOf25 rfl) ?_
    -- e slot 32: call F12<farandole/farandolelaw45.To> t31
    refine seqE rfl rfl (stepCall rfl Try.call12 rfl ?_)
    refine (to_c l Hb (h.rd.ext hE) hs).mono ?_
    rintro v Hc ⟨l1, rfl, e1, r1, xc⟩
    refine seqQ rfl rfl (yMove (v := .slice _ _ _) rfl rfl) ?_
    -- e slot 34: call F22<farandole/link.Send> t32 t33
    refine seqE rfl rfl (stepCall rfl Try.call22 rfl ?_)
    refine (send_c l1 A ca d Hc r1 (sm_self hs e1) (hA.ext (hE.trans xc)) (by omega)).mono ?_
    rintro v Hd ⟨La, rfl, ea, ra, xd⟩
    rw [e1] at ea ⊢
    refine seqQ rfl rfl (yMove (v := .tuple _) rfl rfl) ?_
    refine seqQ rfl rfl (yExtract (v := .agg _) rfl rfl rfl) ?_
    refine seqQ rfl rfl (yExtract (v := .int _ _) rfl rfl rfl) ?_
    refine seqN rfl rfl (nAlloc rfl Try.zeroValue30 rfl) (fun g7 H7 hx7 hB7 hg7 hl7 => ?_)
    -- e slot None: store T30 t7 t35
    refine seqE0 rfl rfl (stepStoreB rfl (by kernel_rfl) rfl rfl rfl hB7 rfl ?_)
    intro He h7 hKe
    have xe : Ext Hd He := hx7.mine hKe (by simp; omega)
    replace h3 := ((h3.ext xc).ext xd).ext xe
    replace hE := ((hE.trans xc).trans xd).trans xe
    replace ra := ra.rd.ext xe
    clear hB7 hKe hx7 xc xd xe r1
    refine seqQ rfl rfl (yAssign (v := .int _ _) rfl rfl) ?_
    refine seqNil ?_
    refine hF9 _ _ ?_; clear hF9
    refine wpSeq fun F10 hF10 => ?_
    refine wpRegion ?_
    refine seqQ rfl rfl (yLoadB h3 rfl Try.underlying25 rfl Try.sizeOf25 rfl) ?_
    refine seqQ rfl rfl (yMove (v := .slice _ _ _) rfl rfl) ?_
    -- e slot 40: call F27<farandole/farandoleref45.Send> t38 t39
    refine seqE rfl rfl (stepCall rfl Try.call27 rfl ?_)
    refine (rSend_c l A ca d He (h.rd.ext hE) hs (hA.ext hE) (by omega)).mono ?_
    rintro v Hf ⟨Lb, rfl, eb, rb, xf⟩
    refine seqQ rfl rfl (yMove (v := .tuple _) rfl rfl) ?_
    refine seqQ rfl rfl (yExtract (v := .agg _) rfl rfl rfl) ?_
    refine seqQ rfl rfl (yExtract (v := .int _ _) rfl rfl rfl) ?_
    refine seqN rfl rfl (nAlloc rfl Try.zeroValue25 rfl) (fun g9 H9 hx9 hB9 hg9 hl9 => ?_)
    -- e slot None: store T25 t9 t41
    refine seqE0 rfl rfl (stepStoreB rfl (by kernel_rfl) rfl rfl rfl hB9 rfl ?_)
    intro Hg h9 hKg
    have xfg : Ext Hf Hg := hx9.mine hKg (by simp; omega)
    have xg : Ext He Hg := xf.trans xfg
    replace h3 := h3.ext xg
    replace h7 := h7.ext xg
    replace hE := hE.trans xg
    replace ra := ra.ext xg
    replace rb := rb.ext xfg
    clear hB9 hKg hx9 xf xg xfg
    refine seqQ rfl rfl (yAssign (v := .int _ _) rfl rfl) ?_
    refine seqNil ?_
    refine hF10 _ _ ?_; clear hF10
    refine wpSeq fun F11 hF11 => ?_
    refine wpRegion ?_
    refine seqQ rfl rfl (yMove (v := .slice _ _ _) rfl rfl) ?_
    -- e slot 45: call F21<farandole/link.New> t44
    refine seqE rfl rfl (stepCall rfl Try.call21 rfl ?_)
    refine (new_c B cb pt Hg (hB.ext hE) (by omega)).mono ?_
    rintro v Hh ⟨Lc, rfl, ec, rc, xh⟩
    refine seqQ rfl rfl (yMove (v := .tuple _) rfl rfl) ?_
    refine seqQ rfl rfl (yExtract (v := .agg _) rfl rfl rfl) ?_
    refine seqQ rfl rfl (yExtract (v := .int _ _) rfl rfl rfl) ?_
    refine seqN rfl rfl (nAlloc rfl Try.zeroValue30 rfl) (fun g11 H11 hx11 hB11 hg11 hl11 => ?_)
    -- e slot None: store T30 t11 t46
    refine seqE0 rfl rfl (stepStoreB rfl (by kernel_rfl) rfl rfl rfl hB11 rfl ?_)
    intro Hi h11 hKi
    have xhi : Ext Hh Hi := hx11.mine hKi (by simp; omega)
    have xi : Ext Hg Hi := xh.trans xhi
    replace h3 := h3.ext xi
    replace h7 := h7.ext xi
    replace h9 := h9.ext xi
    replace hE := hE.trans xi
    replace ra := ra.ext xi
    replace rb := rb.ext xi
    replace rc := rc.rd.ext xhi
    clear hB11 hKi hx11 xh xi xhi
    refine seqQ rfl rfl (yAssign (v := .int _ _) rfl rfl) ?_
    refine seqNil ?_
    refine hF11 _ _ ?_; clear hF11
    refine wpSeq fun F12 hF12 => ?_
    refine wpRegion ?_
    refine seqQ rfl rfl (yMove (v := .slice _ _ _) rfl rfl) ?_
    -- e slot 50: call F28<farandole/farandoleref45.New> t49
    refine seqE rfl rfl (stepCall rfl Try.call28 rfl ?_)
    refine (rNewL_c B cb pt Hi (hB.ext hE) (by omega)).mono ?_
    rintro v Hj ⟨Ld, rfl, ed, rd, xj⟩
    refine seqQ rfl rfl (yMove (v := .tuple _) rfl rfl) ?_
    refine seqQ rfl rfl (yExtract (v := .agg _) rfl rfl rfl) ?_
    refine seqQ rfl rfl (yExtract (v := .int _ _) rfl rfl rfl) ?_
    refine seqN rfl rfl (nAlloc rfl Try.zeroValue25 rfl) (fun g13 H13 hx13 hB13 hg13 hl13 => ?_)
    -- e slot None: store T25 t13 t51
    refine seqE0 rfl rfl (stepStoreB rfl (by kernel_rfl) rfl rfl rfl hB13 rfl ?_)
    intro Hk h13 hKk
    have xjk : Ext Hj Hk := hx13.mine hKk (by simp; omega)
    have xk : Ext Hi Hk := xj.trans xjk
    replace h3 := h3.ext xk
    replace h7 := h7.ext xk
    replace h9 := h9.ext xk
    replace h11 := h11.ext xk
    replace hE := hE.trans xk
    replace ra := ra.ext xk
    replace rb := rb.ext xk
    replace rc := rc.ext xk
    replace rd := rd.ext xjk
    clear hB13 hKk hx13 xj xk xjk
    have sa := sm_send hs ea
    have sc := sm_new ec
    have lr := fun (H' : Heap) (x : Ext Hk H') => (h.rd.ext hE).ext x
    have hfs := hs.fly
    have sz : ∀ {f g : LH}, f.lk = g.lk → LkSm g → f.fly.length ≤ 100000 := fun e hg => by have := (LkRd.sm_eq e).2.2.2; have := hg.fly; omega
    refine seqQ rfl rfl (yAssign (v := .int _ _) rfl rfl) ?_
    refine seqNil ?_
    refine hF12 _ _ ?_; clear hF12
    refine wpSeq fun F13 hF13 => ?_
    refine wpSeq fun F14 hF14 => ?_
    refine wpRegionD Try_mixed [.q, .q, .q, .q, .q, .q, .q, .q, .q, .q, .e, .q, .e, .q, .q, .q, .q, .e, .q, .e, .q, .q, .q, .q, .e, .e, .q, .e, .q, .q, .q, .q, .e, .e, .q, .q, .q, .q, .q, .q] 38 [0, 0, 3, 7, 15, 15, 63, 127, 255, 511, 1023, 511, 4095, 8191, 16383, 32767, 65535, 131071, 65535, 524287, 1048575, 2097151, 4194303, 8388607, 16777215, 33554431, 8388607, 134217727, 268435455, 536870911, 1073741823, 2147483647, 4294967295, 8589934591, 2147483647, 19327352831, 53687091199, 122406567935, 274877906943, 549755813887] [] (by kernel_rfl) _ rfl [0, 1, 2, 3, 4, 5, 6, 7, 8, 9, 10, 11, 12, 13, 14, 15, 16, 17, 18, 19, 20, 21, 22, 23, 24, 25, 26, 27, 28, 29, 30, 31, 32, 33, 34, 35, 36, 37] rfl (by simp) ?_
    refine lexQ rfl rfl rfl rfl (fun H hM => (yMove (v := .int _ _) rfl rfl)) ?_
    refine lexQ rfl rfl rfl rfl (fun H hM => (yMove (v := .int _ _) rfl rfl)) ?_
    refine lexQ rfl rfl rfl rfl (fun H hM => (yNeq rfl rfl rfl)) ?_
    -- guard t56
    rw [decide_eq_true (rfl : (sendL l.lk d).1 = (sendL l.lk d).1)]
    refine lexQ rfl rfl rfl rfl (fun H hM => (yMove (v := .bool false) rfl rfl)) ?_
    refine lexQ rfl rfl rfl rfl (fun H hM => (yMove (v := .int _ _) rfl rfl)) ?_
    refine lexQ rfl rfl rfl rfl (fun H hM => (yMove (v := .int _ _) rfl rfl)) ?_
    refine lexQ rfl rfl rfl rfl (fun H hM => (yNeq rfl rfl rfl)) ?_
    refine lexQ rfl rfl rfl rfl (fun H hM => (yPickF (v := .bool _) rfl rfl rfl)) ?_
    -- guard t61
    rw [decide_eq_true (rfl : (newL pt).1 = (newL pt).1)]
    refine lexQ rfl rfl rfl rfl (fun H hM => (yMove (v := .bool false) rfl rfl)) ?_
    refine lexQ rfl rfl rfl rfl (fun H hM => (yLoadB (h7.ext hM.ext) rfl Try.underlying30 rfl Try.sizeOf30 rfl)) ?_
    -- e slot 63: call F17<farandole/farandolelaw45.From> t62
    refine lexX0 rfl rfl rfl rfl rfl (by simp) (fun hM63 => stepCall rfl Try.call17 rfl ?_)
    refine (from_c La Hk ra sa).mono ?_
    rintro v Hl ⟨L1, rfl, e2, r2, xl⟩
    refine ⟨xl, fun _ => ?_⟩
    refine lexQ rfl rfl rfl rfl (fun H hM => (yLoadB (h9.ext hM.ext) rfl Try.underlying25 rfl Try.sizeOf25 rfl)) ?_
    -- e slot 65: call F16<farandole/farandoleref45.Equal> t63 t64
    refine lexX0 rfl rfl rfl rfl rfl (by simp) (fun hM65 => stepCall rfl Try.call16 rfl ?_)
    refine (rEqualL_c L1 Lb Hl r2 (rb.ext xl) (sz e2 sa)).mono ?_
    rintro v Hm ⟨hv, xm⟩
    obtain rfl : v = .bool true := hv.trans (by rw [decide_eq_true (by rw [e2, ea, eb])])
    refine ⟨xm, fun _ => ?_⟩
    replace xm := xl.trans xm
    refine lexQ rfl rfl rfl rfl (fun H hM => (yNot rfl rfl)) ?_
    refine lexQ rfl rfl rfl rfl (fun H hM => (yPickF (v := .bool _) rfl rfl rfl)) ?_
    refine lexQ rfl rfl rfl rfl (fun H hM => (yMove (v := .bool false) rfl rfl)) ?_
    refine lexQ rfl rfl rfl rfl (fun H hM => (yLoadB (h11.ext hM.ext) rfl Try.underlying30 rfl Try.sizeOf30 rfl)) ?_
    -- e slot 70: call F17<farandole/farandolelaw45.From> t69
    refine lexX0 rfl rfl rfl rfl rfl (by simp) (fun hM70 => stepCall rfl Try.call17 rfl ?_)
    refine (from_c Lc Hm (rc.ext xm) sc).mono ?_
    rintro v Hn ⟨L2, rfl, e3, r3, xn⟩
    refine ⟨xn, fun _ => ?_⟩
    replace xn := xm.trans xn
    refine lexQ rfl rfl rfl rfl (fun H hM => (yLoadB (h13.ext hM.ext) rfl Try.underlying25 rfl Try.sizeOf25 rfl)) ?_
    -- e slot 72: call F16<farandole/farandoleref45.Equal> t70 t71
    refine lexX0 rfl rfl rfl rfl rfl (by simp) (fun hM72 => stepCall rfl Try.call16 rfl ?_)
    refine (rEqualL_c L2 Ld Hn r3 (rd.ext xn) (sz e3 sc)).mono ?_
    rintro v Ho ⟨hv, xo⟩
    obtain rfl : v = .bool true := hv.trans (by rw [decide_eq_true (by rw [e3, ec, ed])])
    refine ⟨xo, fun _ => ?_⟩
    replace xo := xn.trans xo
    refine lexQ rfl rfl rfl rfl (fun H hM => (yNot rfl rfl)) ?_
    refine lexQ rfl rfl rfl rfl (fun H hM => (yPickF (v := .bool _) rfl rfl rfl)) ?_
    refine lexQ rfl rfl rfl rfl (fun H hM => (yMove (v := .bool false) rfl rfl)) ?_
    refine lexQ rfl rfl rfl rfl (fun H hM => (yLoadB (h3.ext hM.ext) rfl Try.underlying25 rfl Try.sizeOf25 rfl)) ?_
    -- e slot 77: call F12<farandole/farandolelaw45.To> t76
    refine lexX0 rfl rfl rfl rfl rfl (by simp) (fun hM77 => stepCall rfl Try.call12 rfl ?_)
    refine (to_c l Ho (lr _ xo) hs).mono ?_
    rintro v Hp ⟨L3, rfl, e4, r4, xp⟩
    refine ⟨xp, fun _ => ?_⟩
    replace xp := xo.trans xp
    -- e slot 78: call F20<farandole/link.Valid> t77
    refine lexX0 rfl rfl rfl rfl rfl (by simp) (fun hM78 => stepCall rfl Try.call20 rfl ?_)
    refine (lValid_c L3 Hp r4 (sm_self hs e4)).mono ?_
    rintro v Hq ⟨rfl, xq⟩
    rw [e4]
    refine ⟨xq, fun _ => ?_⟩
    replace xq := xp.trans xq
    refine lexQ rfl rfl rfl rfl (fun H hM => (yLoadB (h3.ext hM.ext) rfl Try.underlying25 rfl Try.sizeOf25 rfl)) ?_
    -- e slot 80: call F19<farandole/farandoleref45.Valid> t79
    refine lexX0 rfl rfl rfl rfl rfl (by simp) (fun hM80 => stepCall rfl Try.call19 rfl ?_)
    refine (rValidL_c l Hq (lr _ xq) hs).mono ?_
    rintro v Hr ⟨rfl, xr⟩
    refine ⟨xr, fun _ => ?_⟩
    replace xr := xq.trans xr
    refine lexQ rfl rfl rfl rfl (fun H hM => (yNeqB rfl Try.underlying4 rfl rfl)) ?_
    refine lexQ rfl rfl rfl rfl (fun H hM => (yPickF (v := .bool _) rfl rfl rfl)) ?_
    -- guard t83
    rw [beq_self_eq_true]
    refine lexQ rfl rfl rfl rfl (fun H hM => (yMove (v := .bool false) rfl rfl)) ?_
    refine lexQ rfl rfl rfl rfl (fun H hM => (yLoadB (h3.ext hM.ext) rfl Try.underlying25 rfl Try.sizeOf25 rfl)) ?_
    -- e slot 85: call F12<farandole/farandolelaw45.To> t84
    refine lexX0 rfl rfl rfl rfl rfl (by simp) (fun hM85 => stepCall rfl Try.call12 rfl ?_)
    refine (to_c l Hr (lr _ xr) hs).mono ?_
    rintro v Hs ⟨L4, rfl, e5, r5, xs⟩
    refine ⟨xs, fun _ => ?_⟩
    replace xs := xr.trans xs
    -- e slot 86: call F26<farandole/link.Idle> t85
    refine lexX0 rfl rfl rfl rfl rfl (by simp) (fun hM86 => stepCall rfl Try.call26 rfl ?_)
    refine (idle_c L4 Hs).mono ?_
    rintro v Ht ⟨rfl, xt⟩
    rw [(LkRd.sm_eq e5).2.2.2]
    refine ⟨xt, fun _ => ?_⟩
    replace xt := xs.trans xt
    refine lexQ rfl rfl rfl rfl (fun H hM => (yFieldAddr rfl Try.underlying25 rfl Try.sizeOf23 rfl rfl)) ?_
    refine lexQ rfl rfl rfl rfl (fun H hM => (yLoad rfl Try.underlying23 rfl rfl (hM.ext.cell (h3.cell rfl)))) ?_
    refine lexQ rfl rfl rfl rfl (fun H hM => (yLen rfl Try.underlying23 rfl)) ?_
    refine lexQ rfl rfl rfl rfl (fun H hM => (yEql rfl rfl rfl)) ?_
    -- tail
    refine lexNil0 rfl (fun hM => ?_)
    refine seqQ rfl rfl (yNeqB rfl Try.underlying4 rfl rfl) ?_
    refine seqQ rfl rfl (yPickF (v := .bool _) rfl rfl rfl) ?_
    refine seqNil ?_
    refine hF14 _ _ ?_; clear hF14
    -- if t92
    refine wpCond rfl (fun hz => ?_) (fun hz => ?_)
    · skip
      exfalso
      revert hz
      simp
    · skip
      clear xl xm xn xo xp xq xr xs r2 r3 r4 r5 e2 e3 e4 e5 hz
      replace h3 := h3.ext xt
      replace h7 := h7.ext xt
      replace h9 := h9.ext xt
      replace hE := hE.trans xt
      replace ra := ra.ext xt
      replace rb := rb.ext xt
      clear rc rd h11 h13 lr
      have lr := fun (H' : Heap) (x : Ext Ht H') => (h.rd.ext hE).ext x
      refine wpSkip ?_
      refine hF13 _ _ ?_; clear hF13
      refine wpSeq fun F15 hF15 => ?_
      refine wpRegionD Try_mixed [.q, .e, .q, .e, .q, .q, .e, .q, .q, .q, .q, .e, .q, .q, .q, .q, .q, .q, .e, .q, .q, .q] 11 [0, 1, 0, 7, 0, 0, 63, 127, 255, 511, 511, 2047, 4095, 8191, 16383, 32767, 65535, 131071, 262143, 524287, 1048575, 2097151] [] (by kernel_rfl) _ rfl [0, 1, 2, 3, 4, 5, 6, 7, 8, 9, 10] rfl (by simp) ?_
      refine lexQ rfl rfl rfl rfl (fun H hM => (yLoadB (h3.ext hM.ext) rfl Try.underlying25 rfl Try.sizeOf25 rfl)) ?_
      -- e slot 94: call F12<farandole/farandolelaw45.To> t93
      refine lexX0 rfl rfl rfl rfl rfl (by simp) (fun hM94 => stepCall rfl Try.call12 rfl ?_)
      refine (to_c l Ht (lr _ (Ext.refl _)) hs).mono ?_
      rintro v Hu ⟨L5, rfl, e6, r6, xu⟩
      refine ⟨xu, fun _ => ?_⟩
      refine lexQ rfl rfl rfl rfl (fun H hM => (yLoadB (h7.ext hM.ext) rfl Try.underlying30 rfl Try.sizeOf30 rfl)) ?_
      -- e slot 96: call F29<farandole/link.Equal> t94 t95
      refine lexX0 rfl rfl rfl rfl rfl (by simp) (fun hM96 => stepCall rfl Try.call29 rfl ?_)
      refine (lEqual_c L5 La Hu r6 (ra.ext xu) (sz e6 hs)).mono ?_
      rintro v Hv ⟨rfl, xv⟩
      refine ⟨xv, fun _ => ?_⟩
      replace xv := xu.trans xv
      refine lexQ rfl rfl rfl rfl (fun H hM => (yLoadB (h3.ext hM.ext) rfl Try.underlying25 rfl Try.sizeOf25 rfl)) ?_
      refine lexQ rfl rfl rfl rfl (fun H hM => (yLoadB (h9.ext hM.ext) rfl Try.underlying25 rfl Try.sizeOf25 rfl)) ?_
      -- e slot 99: call F16<farandole/farandoleref45.Equal> t97 t98
      refine lexX0 rfl rfl rfl rfl rfl (by simp) (fun hM99 => stepCall rfl Try.call16 rfl ?_)
      refine (rEqualL_c l Lb Hv (lr _ xv) (rb.ext xv) hfs).mono ?_
      rintro v Hw ⟨rfl, xw⟩
      refine ⟨xw, fun _ => ?_⟩
      replace xw := xv.trans xw
      rw [e6, ea, eb]
      refine lexQ rfl rfl rfl rfl (fun H hM => (yEqlB rfl Try.underlying4 rfl rfl)) ?_
      -- guard t101
      rw [beq_self_eq_true]
      refine lexQ rfl rfl rfl rfl (fun H hM => (yMove (v := .bool true) rfl rfl)) ?_
      refine lexQ rfl rfl rfl rfl (fun H hM => (yLoadB (h7.ext hM.ext) rfl Try.underlying30 rfl Try.sizeOf30 rfl)) ?_
      refine lexQ rfl rfl rfl rfl (fun H hM => (yLoadB (h7.ext hM.ext) rfl Try.underlying30 rfl Try.sizeOf30 rfl)) ?_
      -- tail
      refine lexNil0 rfl (fun hM => ?_)
      -- e slot 104: call F29<farandole/link.Equal> t102 t103
      refine seqE rfl rfl (stepCall rfl Try.call29 rfl ?_)
      refine (lEqual_c La La Hw (ra.ext xw) (ra.ext xw) sa.fly).mono ?_
      rintro v Hx ⟨hv, xx⟩
      obtain rfl : v = .bool true := hv.trans (by simp)
      replace xx := xw.trans xx
      by_cases he : (sendL l.lk d).1 = 0
      · skip
        refine seqQ rfl rfl (yPickT (v := .bool _) rfl rfl rfl) ?_
        refine seqQ rfl rfl (yMove (v := .bool true) rfl rfl) ?_
        refine seqQ rfl rfl (yMove (v := .int _ _) rfl rfl) ?_
        refine seqQ rfl rfl (yNeq rfl rfl rfl) ?_
        -- guard t109
        rw [decide_eq_true he]
        refine seqQ rfl rfl (yMove (v := .bool false) rfl rfl) ?_
        refine seqQ rfl rfl (yLoadB (h7.ext xx) rfl Try.underlying30 rfl Try.sizeOf30 rfl) ?_
        -- e slot 111: call F20<farandole/link.Valid> t110
        refine seqE rfl rfl (stepCall rfl Try.call20 rfl ?_)
        refine (lValid_c La Hx (ra.ext xx) sa).mono ?_
        rintro v Hy ⟨hv, xy⟩
        obtain rfl : v = .bool true := hv.trans (by rw [decide_eq_true (by rw [ea]; exact valid_send he)])
        replace xy := xx.trans xy
        refine seqQ rfl rfl (yPickF (v := .bool _) rfl rfl rfl) ?_
        refine seqQ rfl rfl (yPickT (v := .bool _) rfl rfl rfl) ?_
        refine seqQ rfl rfl (yAssign (v := .bool _) rfl rfl) ?_
        refine seqNil ?_
        refine hF15 _ _ ?_; clear hF15
        -- ret
        refine wpRet (fin1 (v := .bool _) rfl rfl ?_)
        exact ⟨rfl, hE.trans xy⟩
      · skip
        refine seqQ rfl rfl (yPickT (v := .bool _) rfl rfl rfl) ?_
        refine seqQ rfl rfl (yMove (v := .bool true) rfl rfl) ?_
        refine seqQ rfl rfl (yMove (v := .int _ _) rfl rfl) ?_
        refine seqQ rfl rfl (yNeq rfl rfl rfl) ?_
        -- guard t109
        rw [decide_eq_false he]
        refine seqQ rfl rfl (yMove (v := .bool true) rfl rfl) ?_
        refine seqU rfl rfl ?_
        refine seqU rfl rfl ?_
        refine seqQ rfl rfl (yPickT (v := .bool _) rfl rfl rfl) ?_
        refine seqQ rfl rfl (yPickT (v := .bool _) rfl rfl rfl) ?_
        refine seqQ rfl rfl (yAssign (v := .bool _) rfl rfl) ?_
        refine seqNil ?_
        refine hF15 _ _ ?_; clear hF15
        -- ret
        refine wpRet (fin1 (v := .bool _) rfl rfl ?_)
        exact ⟨rfl, hE.trans xx⟩
set_option maxRecDepth 100000 in
set_option maxRecDepth 100000 in
theorem linkSend_lifted (os : Os) (started : os.Started) (H : Type) (enc : TypeId × Value → H) :
    ReturnsInHanded {} Try.checked os 8 .any (Rows.linkSendSpec.pre6 enc Try.prog Try.f8 Rows.linkSendRow.domain false) (Rows.linkSendSpec.post enc Try.prog Try.f8 false true false false) := by
  refine law_lifted started Rows.linkSendSpec rfl (by kernel_rfl) Try.func8 rfl
    (fun ds h => by match ds, h with | [_, _, _], _ => rfl) (of_decide_eq_true (by kernel_rfl))
    (ChangeSpec.witness6 (enc := enc) (C := Try.checked) false ⟨#[], #[.agg #[.slice none 0 0, .int .i64 0, .int .i64 0, .slice none 0 0], .slice none 0 0, .slice none 0 0], []⟩ 8 (by kernel_rfl) (by kernel_rfl) (by kernel_rfl) (by kernel_rfl)) ?_
  intro W base args ds p hval hA
  rw [Try.params8] at hA hval
  obtain ⟨v0, v1, v2, d0, d1, d2, p0, p1, p2, rfl, rfl, rfl, h0, h1, h2⟩ := trodAll_three hA
  have g0 := hval 0 _ v0 rfl rfl
  have g1 := hval 1 _ v1 rfl rfl
  have g2 := hval 2 _ v2 rfl rfl
  obtain ⟨l, rfl, hl⟩ := (opn_link W).agg Try.underlying25 rfl g0 h0
  obtain ⟨⟨A, ca, d⟩, rfl, kA, -, k2, k3⟩ := (opn_bytes W).one (one_slice Try.underlying22 g1) h1
  obtain ⟨⟨B, cb, pt⟩, rfl, kB, -, k4, k5⟩ := (opn_bytes W).one (one_slice Try.underlying22 g2) h2
  exact send_walk l A B ca cb d pt W.heap hl kA kB (by have := Nat.le_trans k2 k3; unfold maxLen at this; exact this) (by have := Nat.le_trans k4 k5; unfold maxLen at this; exact this)
set_option maxRecDepth 100000 in
theorem linkSend_holds : Rows.LinkSendSaid :=
  OpenClaim.holds_of_wide 8 Try.f8 rfl rfl rfl rfl rfl rfl rfl ⟨rfl, rfl, rfl, rfl, rfl⟩ rfl rfl rfl rfl rfl (by kernel_rfl) Try.func8 (by kernel_rfl)
    (of_decide_eq_true (by kernel_rfl)) (by unfold Func.isWrapper; first | (rw [if_pos (by decide +kernel)]; kernel_rfl) | (rw [if_neg (by decide +kernel)]; exact ⟨rfl, rfl⟩))
    (fun os started H enc _ => linkSend_lifted os started H enc)
end Go.Proofs.Ytckbcfldjniafaa
