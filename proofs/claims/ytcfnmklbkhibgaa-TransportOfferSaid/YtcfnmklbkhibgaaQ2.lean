/- The document's packets: Valid; the document's senders. -/
import Derived.Test.YtcfnmklbkhibgaaQ1
import Derived.Test.YtcfnmklbkhibgaaR3
namespace Go.Proofs.Ytcfnmklbkhibgaa
open Go.RowKit

set_option maxRecDepth 100000 in
theorem rValid_c (p : Pk) (A B : Option Addr) (ca cb : Nat) (H : Heap) (hA : Rd eVal H A p.vals) (hB : Rd eInt H B p.clk) :
    CallsH Try.prog 36 [.agg (pkC p A ca B cb).toArray] H fun v H' => v = .bool (decide (ValidP p)) ∧ Ext H H' := by
  refine callsH_of Try.func36 rfl Try.ntmps36 (Nat.le_of_ble_eq_true rfl) ?_
  refine wpSeq fun F1 hF1 => ?_
  refine wpRegion ?_
  refine seqN rfl rfl (nBoxA rfl rfl) (fun g1 H1 hx1 hB1 hg1 hl1 => ?_)
  refine seqQ rfl rfl (yAssign (v := .bool _) rfl rfl) ?_
  refine seqNil ?_
  refine hF1 _ _ ?_; clear hF1
  refine wpSeq fun F2 hF2 => ?_
  refine wpSeq fun F3 hF3 => ?_
  refine wpRegion ?_
  refine seqQ rfl rfl (yFieldAddr rfl Try.underlying39 rfl Try.sizeOf3 rfl rfl) ?_
  refine seqQ rfl rfl (yLoad rfl Try.underlying3 rfl rfl (hB1.cell rfl)) ?_
  -- e slot 6: call F50<farandole/farandoleref46.in> t5 [i:i64:1] [i:i64:32]
  refine seqE rfl rfl (stepCall rfl Try.call50 rfl ?_)
  refine (in_c p.session 1 32 _).mono ?_
  rintro v _ ⟨rfl, e⟩; obtain rfl := e.symm; clear e
  refine seqQ rfl rfl (yNot rfl rfl) ?_
  refine seqNil ?_
  refine hF3 _ _ ?_; clear hF3
  -- if t7
  refine wpCond rfl (fun h7 => ?_) (fun h7 => ?_)
  · skip
    refine wpSeq fun F4 hF4 => ?_
    refine wpRegion ?_
    refine seqQ rfl rfl (yAssign (v := .bool _) rfl rfl) ?_
    refine seqNil ?_
    refine hF4 _ _ ?_; clear hF4
    -- ret
    refine wpRet (fin1 (v := .bool _) rfl rfl ?_)
    exact ⟨by congr 1; grind [ValidP], hx1⟩
  · skip
    have h7 : 1 ≤ p.session ∧ p.session ≤ 32 := by simpa using h7
    refine wpSkip ?_
    refine hF2 _ _ ?_; clear hF2
    refine wpSeq fun F5 hF5 => ?_
    -- region 3
    refine cutF [3, 8, 9, 10, 11, 12, 13, 14, 15, 16, 17, 18, 19, 20, 21, 22] (fun _ : Unit => [(3, .bool (decide (BareP p)))]) (fun _ H' => H' = H1) hF5 ?_ (fun hC => ?_)
    · skip
      rintro ⟨⟩ J1 H2 rfl
      refine wpSeq fun F6 hF6 => ?_
      refine wpSeq fun F7 hF7 => ?_
      refine wpRegion ?_
      refine seqQ rfl rfl (yFieldAddr rfl Try.underlying39 rfl Try.sizeOf3 rfl rfl) ?_
      refine seqQ rfl rfl (yLoad rfl Try.underlying3 rfl rfl (hB1.cell rfl)) ?_
      refine seqNil ?_
      refine hF7 _ _ ?_; clear hF7
      refine wpBlock ?_
      refine wpSeq fun F8 hF8 => ?_
      refine wpRegion ?_
      refine seqQ rfl rfl (yEql rfl rfl rfl) ?_
      refine seqQ rfl rfl (yAssign (v := .bool _) rfl rfl) ?_
      refine seqNil ?_
      refine hF8 _ _ ?_; clear hF8
      -- if t25
      refine wpIf rfl (fun k1 => ?_) (fun k1 => ?_)
      · skip
        refine wpSeq fun F9 hF9 => ?_
        refine wpRegion ?_
        refine seqQ rfl rfl (yFieldAddr rfl Try.underlying39 rfl Try.sizeOf3 rfl rfl) ?_
        refine seqQ rfl rfl (yLoad rfl Try.underlying3 rfl rfl (hB1.cell rfl)) ?_
        -- e slot 29: call F50<farandole/farandoleref46.in> t28 [i:i64:0] [i:i64:1]
        refine seqE rfl rfl (stepCall rfl Try.call50 rfl ?_)
        refine (in_c p.epoch 0 1 _).mono ?_
        rintro v _ ⟨rfl, e⟩; obtain rfl := e.symm; clear e
        first | refine seqG rfl rfl rfl rfl (fun h30 => ?_) (fun h30 => ?_) | refine seqGB rfl rfl rfl rfl (fun h30 => ?_) (fun h30 => ?_)
        rotate_left
        · skip
          refine seqU rfl rfl ?_
          refine seqU rfl rfl ?_
          refine seqQ rfl rfl (yPickF (v := .bool _) rfl rfl rfl) ?_
          refine seqQ rfl rfl (yMove (v := .bool false) rfl rfl) ?_
          refine seqU rfl rfl ?_
          refine seqU rfl rfl ?_
          refine seqU rfl rfl ?_
          refine seqQ rfl rfl (yPickF (v := .bool _) rfl rfl rfl) ?_
          refine seqQ rfl rfl (yMove (v := .bool false) rfl rfl) ?_
          refine seqU rfl rfl ?_
          refine seqU rfl rfl ?_
          refine seqU rfl rfl ?_
          refine seqQ rfl rfl (yPickF (v := .bool _) rfl rfl rfl) ?_
          refine seqQ rfl rfl (yMove (v := .bool false) rfl rfl) ?_
          refine seqU rfl rfl ?_
          refine seqU rfl rfl ?_
          refine seqQ rfl rfl (yPickF (v := .bool _) rfl rfl rfl) ?_
          refine seqQ rfl rfl (yAssign (v := .bool _) rfl rfl) ?_
          refine seqNil ?_
          refine hF9 _ _ ?_; clear hF9
          refine wpRet (fin1 (v := .bool _) rfl rfl ?_)
          exact ⟨by congr 1; grind [ValidP, DataP], hx1⟩
        refine seqQ rfl rfl (yLoadB hB1 rfl Try.underlying39 rfl Try.sizeOf39 rfl) ?_
        -- e slot 32: call F51<farandole/farandoleref46.pair> t31
        refine seqE rfl rfl (stepCall rfl Try.call51 rfl ?_)
        refine (pair_c p A B ca cb _).mono ?_
        rintro v H3 ⟨rfl, hx3⟩
        refine seqQ rfl rfl (yPickT (v := .bool _) rfl rfl rfl) ?_
        first | refine seqG rfl rfl rfl rfl (fun h34 => ?_) (fun h34 => ?_) | refine seqGB rfl rfl rfl rfl (fun h34 => ?_) (fun h34 => ?_)
        rotate_left
        · skip
          refine seqU rfl rfl ?_
          refine seqU rfl rfl ?_
          refine seqU rfl rfl ?_
          refine seqQ rfl rfl (yPickF (v := .bool _) rfl rfl rfl) ?_
          refine seqQ rfl rfl (yMove (v := .bool false) rfl rfl) ?_
          refine seqU rfl rfl ?_
          refine seqU rfl rfl ?_
          refine seqU rfl rfl ?_
          refine seqQ rfl rfl (yPickF (v := .bool _) rfl rfl rfl) ?_
          refine seqQ rfl rfl (yMove (v := .bool false) rfl rfl) ?_
          refine seqU rfl rfl ?_
          refine seqU rfl rfl ?_
          refine seqQ rfl rfl (yPickF (v := .bool _) rfl rfl rfl) ?_
          refine seqQ rfl rfl (yAssign (v := .bool _) rfl rfl) ?_
          refine seqNil ?_
          refine hF9 _ _ ?_; clear hF9
          refine wpRet (fin1 (v := .bool _) rfl rfl ?_)
          exact ⟨by congr 1; grind [ValidP, DataP, NumP], hx1.trans hx3⟩
        refine seqQ rfl rfl (yFieldAddr rfl Try.underlying39 rfl Try.sizeOf3 rfl rfl) ?_
        refine seqQ rfl rfl (yLoad rfl Try.underlying3 rfl rfl ((hB1.ext hx3).cell rfl)) ?_
        -- e slot 37: call F50<farandole/farandoleref46.in> t36 [i:i64:1] [i:i64:1099511627776]
        refine seqE rfl rfl (stepCall rfl Try.call50 rfl ?_)
        refine (in_c p.seq 1 1099511627776 _).mono ?_
        rintro v _ ⟨rfl, e⟩; obtain rfl := e.symm; clear e
        refine seqQ rfl rfl (yPickT (v := .bool _) rfl rfl rfl) ?_
        first | refine seqG rfl rfl rfl rfl (fun h39 => ?_) (fun h39 => ?_) | refine seqGB rfl rfl rfl rfl (fun h39 => ?_) (fun h39 => ?_)
        rotate_left
        · skip
          refine seqU rfl rfl ?_
          refine seqU rfl rfl ?_
          refine seqU rfl rfl ?_
          refine seqQ rfl rfl (yPickF (v := .bool _) rfl rfl rfl) ?_
          refine seqQ rfl rfl (yMove (v := .bool false) rfl rfl) ?_
          refine seqU rfl rfl ?_
          refine seqU rfl rfl ?_
          refine seqQ rfl rfl (yPickF (v := .bool _) rfl rfl rfl) ?_
          refine seqQ rfl rfl (yAssign (v := .bool _) rfl rfl) ?_
          refine seqNil ?_
          refine hF9 _ _ ?_; clear hF9
          refine wpRet (fin1 (v := .bool _) rfl rfl ?_)
          exact ⟨by congr 1; grind [ValidP, DataP, NumP], hx1.trans hx3⟩
        refine seqQ rfl rfl (yFieldAddr rfl Try.underlying39 rfl Try.sizeOf3 rfl rfl) ?_
        refine seqQ rfl rfl (yLoad rfl Try.underlying3 rfl rfl ((hB1.ext hx3).cell rfl)) ?_
        -- e slot 42: call F50<farandole/farandoleref46.in> t41 [i:i64:0] [i:i64:39]
        refine seqE rfl rfl (stepCall rfl Try.call50 rfl ?_)
        refine (in_c p.label 0 39 _).mono ?_
        rintro v _ ⟨rfl, e⟩; obtain rfl := e.symm; clear e
        refine seqQ rfl rfl (yPickT (v := .bool _) rfl rfl rfl) ?_
        first | refine seqG rfl rfl rfl rfl (fun h44 => ?_) (fun h44 => ?_) | refine seqGB rfl rfl rfl rfl (fun h44 => ?_) (fun h44 => ?_)
        rotate_left
        · skip
          refine seqU rfl rfl ?_
          refine seqU rfl rfl ?_
          refine seqQ rfl rfl (yPickF (v := .bool _) rfl rfl rfl) ?_
          refine seqQ rfl rfl (yAssign (v := .bool _) rfl rfl) ?_
          refine seqNil ?_
          refine hF9 _ _ ?_; clear hF9
          refine wpRet (fin1 (v := .bool _) rfl rfl ?_)
          exact ⟨by congr 1; grind [ValidP, DataP, NumP], hx1.trans hx3⟩
        refine seqQ rfl rfl (yLoadB (hB1.ext hx3) rfl Try.underlying39 rfl Try.sizeOf39 rfl) ?_
        -- e slot 46: call F52<farandole/farandoleref46.content> t45
        refine seqE rfl rfl (stepCall rfl Try.call52 rfl ?_)
        refine (content_c p A B ca cb _ ((hA.ext hx1).ext hx3) ((hB.ext hx1).ext hx3)).mono ?_
        rintro v H4 ⟨rfl, hx4⟩
        refine seqQ rfl rfl (yPickT (v := .bool _) rfl rfl rfl) ?_
        refine seqQ rfl rfl (yAssign (v := .bool _) rfl rfl) ?_
        refine seqNil ?_
        refine hF9 _ _ ?_; clear hF9
        -- ret
        refine wpRet (fin1 (v := .bool _) rfl rfl ?_)
        exact ⟨by congr 1; grind [ValidP, DataP, NumP], (hx1.trans hx3).trans hx4⟩
      · skip
        refine wpSeq fun F10 hF10 => ?_
        refine wpRegion ?_
        refine seqQ rfl rfl (yEql rfl rfl rfl) ?_
        refine seqQ rfl rfl (yAssign (v := .bool _) rfl rfl) ?_
        refine seqNil ?_
        refine hF10 _ _ ?_; clear hF10
        -- if t48
        refine wpIf rfl (fun k2 => ?_) (fun k2 => ?_)
        · skip
          refine wpSeq fun F11 hF11 => ?_
          refine wpRegion ?_
          refine seqQ rfl rfl (yLoadB hB1 rfl Try.underlying39 rfl Try.sizeOf39 rfl) ?_
          -- e slot 51: call F51<farandole/farandoleref46.pair> t50
          refine seqE rfl rfl (stepCall rfl Try.call51 rfl ?_)
          refine (pair_c p A B ca cb _).mono ?_
          rintro v H3 ⟨rfl, hx3⟩
          first | refine seqG rfl rfl rfl rfl (fun h52 => ?_) (fun h52 => ?_) | refine seqGB rfl rfl rfl rfl (fun h52 => ?_) (fun h52 => ?_)
          rotate_left
          · skip
            refine seqU rfl rfl ?_
            refine seqU rfl rfl ?_
            refine seqU rfl rfl ?_
            refine seqQ rfl rfl (yPickF (v := .bool _) rfl rfl rfl) ?_
            refine seqQ rfl rfl (yMove (v := .bool false) rfl rfl) ?_
            refine seqU rfl rfl ?_
            refine seqU rfl rfl ?_
            refine seqU rfl rfl ?_
            refine seqQ rfl rfl (yPickF (v := .bool _) rfl rfl rfl) ?_
            refine seqQ rfl rfl (yMove (v := .bool false) rfl rfl) ?_
            refine seqU rfl rfl ?_
            refine seqQ rfl rfl (yPickF (v := .bool _) rfl rfl rfl) ?_
            refine seqQ rfl rfl (yAssign (v := .bool _) rfl rfl) ?_
            refine seqNil ?_
            refine hF11 _ _ ?_; clear hF11
            refine wpRet (fin1 (v := .bool _) rfl rfl ?_)
            exact ⟨by congr 1; grind [ValidP, AckP, NumP], hx1.trans hx3⟩
          refine seqQ rfl rfl (yFieldAddr rfl Try.underlying39 rfl Try.sizeOf3 rfl rfl) ?_
          refine seqQ rfl rfl (yLoad rfl Try.underlying3 rfl rfl ((hB1.ext hx3).cell rfl)) ?_
          -- e slot 55: call F50<farandole/farandoleref46.in> t54 [i:i64:1] [i:i64:1099511627776]
          refine seqE rfl rfl (stepCall rfl Try.call50 rfl ?_)
          refine (in_c p.seq 1 1099511627776 _).mono ?_
          rintro v _ ⟨rfl, e⟩; obtain rfl := e.symm; clear e
          refine seqQ rfl rfl (yPickT (v := .bool _) rfl rfl rfl) ?_
          first | refine seqG rfl rfl rfl rfl (fun h57 => ?_) (fun h57 => ?_) | refine seqGB rfl rfl rfl rfl (fun h57 => ?_) (fun h57 => ?_)
          rotate_left
          · skip
            refine seqU rfl rfl ?_
            refine seqU rfl rfl ?_
            refine seqU rfl rfl ?_
            refine seqQ rfl rfl (yPickF (v := .bool _) rfl rfl rfl) ?_
            refine seqQ rfl rfl (yMove (v := .bool false) rfl rfl) ?_
            refine seqU rfl rfl ?_
            refine seqQ rfl rfl (yPickF (v := .bool _) rfl rfl rfl) ?_
            refine seqQ rfl rfl (yAssign (v := .bool _) rfl rfl) ?_
            refine seqNil ?_
            refine hF11 _ _ ?_; clear hF11
            refine wpRet (fin1 (v := .bool _) rfl rfl ?_)
            exact ⟨by congr 1; grind [ValidP, AckP, NumP], hx1.trans hx3⟩
          refine seqQ rfl rfl (yFieldAddr rfl Try.underlying39 rfl Try.sizeOf3 rfl rfl) ?_
          refine seqQ rfl rfl (yLoad rfl Try.underlying3 rfl rfl ((hB1.ext hx3).cell rfl)) ?_
          refine seqQ rfl rfl (yEql rfl rfl rfl) ?_
          refine seqQ rfl rfl (yPickT (v := .bool _) rfl rfl rfl) ?_
          first | refine seqG rfl rfl rfl rfl (fun h62 => ?_) (fun h62 => ?_) | refine seqGB rfl rfl rfl rfl (fun h62 => ?_) (fun h62 => ?_)
          rotate_left
          · skip
            refine seqU rfl rfl ?_
            refine seqQ rfl rfl (yPickF (v := .bool _) rfl rfl rfl) ?_
            refine seqQ rfl rfl (yAssign (v := .bool _) rfl rfl) ?_
            refine seqNil ?_
            refine hF11 _ _ ?_; clear hF11
            refine wpRet (fin1 (v := .bool _) rfl rfl ?_)
            exact ⟨by congr 1; grind [ValidP, AckP, NumP], hx1.trans hx3⟩
          refine seqQ rfl rfl (yMove (v := .bool _) rfl rfl) ?_
          refine seqQ rfl rfl (yPickT (v := .bool _) rfl rfl rfl) ?_
          refine seqQ rfl rfl (yAssign (v := .bool _) rfl rfl) ?_
          refine seqNil ?_
          refine hF11 _ _ ?_; clear hF11
          -- ret
          refine wpRet (fin1 (v := .bool _) rfl rfl ?_)
          exact ⟨by congr 1; grind [ValidP, AckP, NumP], hx1.trans hx3⟩
        · skip
          refine wpSeq fun F12 hF12 => ?_
          refine wpSeq fun F13 hF13 => ?_
          refine wpRegion ?_
          refine seqQ rfl rfl (yEql rfl rfl rfl) ?_
          refine seqQ rfl rfl (yAssign (v := .bool _) rfl rfl) ?_
          refine seqNil ?_
          refine hF13 _ _ ?_; clear hF13
          -- if t65
          by_cases k3 : p.kind = 3
          · skip
            rw [decide_eq_true k3]
            refine wpT rfl ?_
            refine wpSkip ?_
            refine hF12 _ _ ?_; clear hF12
            -- if t65
            refine wpT rfl ?_
            refine wpSeq fun F14 hF14 => ?_
            refine wpRegion ?_
            refine seqQ rfl rfl (yFieldAddr rfl Try.underlying39 rfl Try.sizeOf3 rfl rfl) ?_
            refine seqQ rfl rfl (yLoad rfl Try.underlying3 rfl rfl (hB1.cell rfl)) ?_
            -- e slot 70: call F50<farandole/farandoleref46.in> t69 [i:i64:0] [i:i64:5]
            refine seqE rfl rfl (stepCall rfl Try.call50 rfl ?_)
            refine (in_c p.src 0 5 _).mono ?_
            rintro v _ ⟨rfl, e⟩; obtain rfl := e.symm; clear e
            first | refine seqG rfl rfl rfl rfl (fun h71 => ?_) (fun h71 => ?_) | refine seqGB rfl rfl rfl rfl (fun h71 => ?_) (fun h71 => ?_)
            rotate_left
            · skip
              refine seqU rfl rfl ?_
              refine seqU rfl rfl ?_
              refine seqU rfl rfl ?_
              refine seqQ rfl rfl (yPickF (v := .bool _) rfl rfl rfl) ?_
              refine seqQ rfl rfl (yMove (v := .bool false) rfl rfl) ?_
              refine seqU rfl rfl ?_
              refine seqU rfl rfl ?_
              refine seqU rfl rfl ?_
              refine seqQ rfl rfl (yPickF (v := .bool _) rfl rfl rfl) ?_
              refine seqQ rfl rfl (yMove (v := .bool false) rfl rfl) ?_
              refine seqU rfl rfl ?_
              refine seqU rfl rfl ?_
              refine seqU rfl rfl ?_
              refine seqQ rfl rfl (yPickF (v := .bool _) rfl rfl rfl) ?_
              refine seqQ rfl rfl (yMove (v := .bool false) rfl rfl) ?_
              refine seqU rfl rfl ?_
              refine seqQ rfl rfl (yPickF (v := .bool _) rfl rfl rfl) ?_
              refine seqQ rfl rfl (yAssign (v := .bool _) rfl rfl) ?_
              refine seqNil ?_
              refine hF14 _ _ ?_; clear hF14
              refine wpRet (fin1 (v := .bool _) rfl rfl ?_)
              exact ⟨by congr 1; grind [ValidP, OrderP], hx1⟩
            refine seqQ rfl rfl (yFieldAddr rfl Try.underlying39 rfl Try.sizeOf3 rfl rfl) ?_
            refine seqQ rfl rfl (yLoad rfl Try.underlying3 rfl rfl (hB1.cell rfl)) ?_
            refine seqQ rfl rfl (yEql rfl rfl rfl) ?_
            refine seqQ rfl rfl (yPickT (v := .bool _) rfl rfl rfl) ?_
            first | refine seqG rfl rfl rfl rfl (fun h76 => ?_) (fun h76 => ?_) | refine seqGB rfl rfl rfl rfl (fun h76 => ?_) (fun h76 => ?_)
            rotate_left
            · skip
              refine seqU rfl rfl ?_
              refine seqU rfl rfl ?_
              refine seqU rfl rfl ?_
              refine seqQ rfl rfl (yPickF (v := .bool _) rfl rfl rfl) ?_
              refine seqQ rfl rfl (yMove (v := .bool false) rfl rfl) ?_
              refine seqU rfl rfl ?_
              refine seqU rfl rfl ?_
              refine seqU rfl rfl ?_
              refine seqQ rfl rfl (yPickF (v := .bool _) rfl rfl rfl) ?_
              refine seqQ rfl rfl (yMove (v := .bool false) rfl rfl) ?_
              refine seqU rfl rfl ?_
              refine seqQ rfl rfl (yPickF (v := .bool _) rfl rfl rfl) ?_
              refine seqQ rfl rfl (yAssign (v := .bool _) rfl rfl) ?_
              refine seqNil ?_
              refine hF14 _ _ ?_; clear hF14
              refine wpRet (fin1 (v := .bool _) rfl rfl ?_)
              exact ⟨by congr 1; grind [ValidP, OrderP], hx1⟩
            refine seqQ rfl rfl (yFieldAddr rfl Try.underlying39 rfl Try.sizeOf3 rfl rfl) ?_
            refine seqQ rfl rfl (yLoad rfl Try.underlying3 rfl rfl (hB1.cell rfl)) ?_
            refine seqQ rfl rfl (yEql rfl rfl rfl) ?_
            refine seqQ rfl rfl (yPickT (v := .bool _) rfl rfl rfl) ?_
            first | refine seqG rfl rfl rfl rfl (fun h81 => ?_) (fun h81 => ?_) | refine seqGB rfl rfl rfl rfl (fun h81 => ?_) (fun h81 => ?_)
            rotate_left
            · skip
              refine seqU rfl rfl ?_
              refine seqU rfl rfl ?_
              refine seqU rfl rfl ?_
              refine seqQ rfl rfl (yPickF (v := .bool _) rfl rfl rfl) ?_
              refine seqQ rfl rfl (yMove (v := .bool false) rfl rfl) ?_
              refine seqU rfl rfl ?_
              refine seqQ rfl rfl (yPickF (v := .bool _) rfl rfl rfl) ?_
              refine seqQ rfl rfl (yAssign (v := .bool _) rfl rfl) ?_
              refine seqNil ?_
              refine hF14 _ _ ?_; clear hF14
              refine wpRet (fin1 (v := .bool _) rfl rfl ?_)
              exact ⟨by congr 1; grind [ValidP, OrderP], hx1⟩
            refine seqQ rfl rfl (yFieldAddr rfl Try.underlying39 rfl Try.sizeOf3 rfl rfl) ?_
            refine seqQ rfl rfl (yLoad rfl Try.underlying3 rfl rfl (hB1.cell rfl)) ?_
            -- e slot 84: call F50<farandole/farandoleref46.in> t83 [i:i64:1] [i:i64:2]
            refine seqE rfl rfl (stepCall rfl Try.call50 rfl ?_)
            refine (in_c p.label 1 2 _).mono ?_
            rintro v _ ⟨rfl, e⟩; obtain rfl := e.symm; clear e
            refine seqQ rfl rfl (yPickT (v := .bool _) rfl rfl rfl) ?_
            first | refine seqG rfl rfl rfl rfl (fun h86 => ?_) (fun h86 => ?_) | refine seqGB rfl rfl rfl rfl (fun h86 => ?_) (fun h86 => ?_)
            rotate_left
            · skip
              refine seqU rfl rfl ?_
              refine seqQ rfl rfl (yPickF (v := .bool _) rfl rfl rfl) ?_
              refine seqQ rfl rfl (yAssign (v := .bool _) rfl rfl) ?_
              refine seqNil ?_
              refine hF14 _ _ ?_; clear hF14
              refine wpRet (fin1 (v := .bool _) rfl rfl ?_)
              exact ⟨by congr 1; grind [ValidP, OrderP], hx1⟩
            refine seqQ rfl rfl (yMove (v := .bool _) rfl rfl) ?_
            refine seqQ rfl rfl (yPickT (v := .bool _) rfl rfl rfl) ?_
            refine seqQ rfl rfl (yAssign (v := .bool _) rfl rfl) ?_
            refine seqNil ?_
            refine hF14 _ _ ?_; clear hF14
            -- ret
            refine wpRet (fin1 (v := .bool _) rfl rfl ?_)
            exact ⟨by congr 1; grind [ValidP, OrderP], hx1⟩
          · skip
            rw [decide_eq_false k3]
            refine wpF rfl ?_
            refine wpRegion ?_
            refine seqQ rfl rfl (yEql rfl rfl rfl) ?_
            refine seqQ rfl rfl (yAssign (v := .bool _) rfl rfl) ?_
            refine seqNil ?_
            refine hF12 _ _ ?_; clear hF12
            -- if t65
            refine wpIf rfl (fun k4 => ?_) (fun k4 => ?_)
            · skip
              refine wpSeq fun F15 hF15 => ?_
              refine wpRegion ?_
              refine seqQ rfl rfl (yFieldAddr rfl Try.underlying39 rfl Try.sizeOf3 rfl rfl) ?_
              refine seqQ rfl rfl (yLoad rfl Try.underlying3 rfl rfl (hB1.cell rfl)) ?_
              -- e slot 70: call F50<farandole/farandoleref46.in> t69 [i:i64:0] [i:i64:5]
              refine seqE rfl rfl (stepCall rfl Try.call50 rfl ?_)
              refine (in_c p.src 0 5 _).mono ?_
              rintro v _ ⟨rfl, e⟩; obtain rfl := e.symm; clear e
              first | refine seqG rfl rfl rfl rfl (fun h71 => ?_) (fun h71 => ?_) | refine seqGB rfl rfl rfl rfl (fun h71 => ?_) (fun h71 => ?_)
              rotate_left
              · skip
                refine seqU rfl rfl ?_
                refine seqU rfl rfl ?_
                refine seqU rfl rfl ?_
                refine seqQ rfl rfl (yPickF (v := .bool _) rfl rfl rfl) ?_
                refine seqQ rfl rfl (yMove (v := .bool false) rfl rfl) ?_
                refine seqU rfl rfl ?_
                refine seqU rfl rfl ?_
                refine seqU rfl rfl ?_
                refine seqQ rfl rfl (yPickF (v := .bool _) rfl rfl rfl) ?_
                refine seqQ rfl rfl (yMove (v := .bool false) rfl rfl) ?_
                refine seqU rfl rfl ?_
                refine seqU rfl rfl ?_
                refine seqU rfl rfl ?_
                refine seqQ rfl rfl (yPickF (v := .bool _) rfl rfl rfl) ?_
                refine seqQ rfl rfl (yMove (v := .bool false) rfl rfl) ?_
                refine seqU rfl rfl ?_
                refine seqQ rfl rfl (yPickF (v := .bool _) rfl rfl rfl) ?_
                refine seqQ rfl rfl (yAssign (v := .bool _) rfl rfl) ?_
                refine seqNil ?_
                refine hF15 _ _ ?_; clear hF15
                refine wpRet (fin1 (v := .bool _) rfl rfl ?_)
                exact ⟨by congr 1; grind [ValidP, OrderP], hx1⟩
              refine seqQ rfl rfl (yFieldAddr rfl Try.underlying39 rfl Try.sizeOf3 rfl rfl) ?_
              refine seqQ rfl rfl (yLoad rfl Try.underlying3 rfl rfl (hB1.cell rfl)) ?_
              refine seqQ rfl rfl (yEql rfl rfl rfl) ?_
              refine seqQ rfl rfl (yPickT (v := .bool _) rfl rfl rfl) ?_
              first | refine seqG rfl rfl rfl rfl (fun h76 => ?_) (fun h76 => ?_) | refine seqGB rfl rfl rfl rfl (fun h76 => ?_) (fun h76 => ?_)
              rotate_left
              · skip
                refine seqU rfl rfl ?_
                refine seqU rfl rfl ?_
                refine seqU rfl rfl ?_
                refine seqQ rfl rfl (yPickF (v := .bool _) rfl rfl rfl) ?_
                refine seqQ rfl rfl (yMove (v := .bool false) rfl rfl) ?_
                refine seqU rfl rfl ?_
                refine seqU rfl rfl ?_
                refine seqU rfl rfl ?_
                refine seqQ rfl rfl (yPickF (v := .bool _) rfl rfl rfl) ?_
                refine seqQ rfl rfl (yMove (v := .bool false) rfl rfl) ?_
                refine seqU rfl rfl ?_
                refine seqQ rfl rfl (yPickF (v := .bool _) rfl rfl rfl) ?_
                refine seqQ rfl rfl (yAssign (v := .bool _) rfl rfl) ?_
                refine seqNil ?_
                refine hF15 _ _ ?_; clear hF15
                refine wpRet (fin1 (v := .bool _) rfl rfl ?_)
                exact ⟨by congr 1; grind [ValidP, OrderP], hx1⟩
              refine seqQ rfl rfl (yFieldAddr rfl Try.underlying39 rfl Try.sizeOf3 rfl rfl) ?_
              refine seqQ rfl rfl (yLoad rfl Try.underlying3 rfl rfl (hB1.cell rfl)) ?_
              refine seqQ rfl rfl (yEql rfl rfl rfl) ?_
              refine seqQ rfl rfl (yPickT (v := .bool _) rfl rfl rfl) ?_
              first | refine seqG rfl rfl rfl rfl (fun h81 => ?_) (fun h81 => ?_) | refine seqGB rfl rfl rfl rfl (fun h81 => ?_) (fun h81 => ?_)
              rotate_left
              · skip
                refine seqU rfl rfl ?_
                refine seqU rfl rfl ?_
                refine seqU rfl rfl ?_
                refine seqQ rfl rfl (yPickF (v := .bool _) rfl rfl rfl) ?_
                refine seqQ rfl rfl (yMove (v := .bool false) rfl rfl) ?_
                refine seqU rfl rfl ?_
                refine seqQ rfl rfl (yPickF (v := .bool _) rfl rfl rfl) ?_
                refine seqQ rfl rfl (yAssign (v := .bool _) rfl rfl) ?_
                refine seqNil ?_
                refine hF15 _ _ ?_; clear hF15
                refine wpRet (fin1 (v := .bool _) rfl rfl ?_)
                exact ⟨by congr 1; grind [ValidP, OrderP], hx1⟩
              refine seqQ rfl rfl (yFieldAddr rfl Try.underlying39 rfl Try.sizeOf3 rfl rfl) ?_
              refine seqQ rfl rfl (yLoad rfl Try.underlying3 rfl rfl (hB1.cell rfl)) ?_
              -- e slot 84: call F50<farandole/farandoleref46.in> t83 [i:i64:1] [i:i64:2]
              refine seqE rfl rfl (stepCall rfl Try.call50 rfl ?_)
              refine (in_c p.label 1 2 _).mono ?_
              rintro v _ ⟨rfl, e⟩; obtain rfl := e.symm; clear e
              refine seqQ rfl rfl (yPickT (v := .bool _) rfl rfl rfl) ?_
              first | refine seqG rfl rfl rfl rfl (fun h86 => ?_) (fun h86 => ?_) | refine seqGB rfl rfl rfl rfl (fun h86 => ?_) (fun h86 => ?_)
              rotate_left
              · skip
                refine seqU rfl rfl ?_
                refine seqQ rfl rfl (yPickF (v := .bool _) rfl rfl rfl) ?_
                refine seqQ rfl rfl (yAssign (v := .bool _) rfl rfl) ?_
                refine seqNil ?_
                refine hF15 _ _ ?_; clear hF15
                refine wpRet (fin1 (v := .bool _) rfl rfl ?_)
                exact ⟨by congr 1; grind [ValidP, OrderP], hx1⟩
              refine seqQ rfl rfl (yMove (v := .bool _) rfl rfl) ?_
              refine seqQ rfl rfl (yPickT (v := .bool _) rfl rfl rfl) ?_
              refine seqQ rfl rfl (yAssign (v := .bool _) rfl rfl) ?_
              refine seqNil ?_
              refine hF15 _ _ ?_; clear hF15
              -- ret
              refine wpRet (fin1 (v := .bool _) rfl rfl ?_)
              exact ⟨by congr 1; grind [ValidP, OrderP], hx1⟩
            · skip
              refine wpSkip ?_
              refine hF6 _ _ ?_; clear hF6
              refine wpSeq fun F16 hF16 => ?_
              refine wpRegion ?_
              refine seqQ rfl rfl (yAssign (v := .bool _) rfl rfl) ?_
              refine seqNil ?_
              refine hF16 _ _ ?_; clear hF16
              -- ret
              refine wpRet (fin1 (v := .bool _) rfl rfl ?_)
              exact ⟨by congr 1; grind [ValidP], hx1⟩
    · skip
      refine wpRegion ?_
      refine seqQ rfl rfl (yFieldAddr rfl Try.underlying39 rfl Try.sizeOf3 rfl rfl) ?_
      refine seqQ rfl rfl (yLoad rfl Try.underlying3 rfl rfl (hB1.cell rfl)) ?_
      refine seqQ rfl rfl (yEql rfl rfl rfl) ?_
      first | refine seqG rfl rfl rfl rfl (fun h11 => ?_) (fun h11 => ?_) | refine seqGB rfl rfl rfl rfl (fun h11 => ?_) (fun h11 => ?_)
      rotate_left
      · skip
        refine seqU rfl rfl ?_
        refine seqU rfl rfl ?_
        refine seqU rfl rfl ?_
        refine seqU rfl rfl ?_
        refine seqQ rfl rfl (yPickF (v := .bool _) rfl rfl rfl) ?_
        refine seqQ rfl rfl (yMove (v := .bool false) rfl rfl) ?_
        refine seqU rfl rfl ?_
        refine seqU rfl rfl ?_
        refine seqU rfl rfl ?_
        refine seqU rfl rfl ?_
        refine seqQ rfl rfl (yPickF (v := .bool _) rfl rfl rfl) ?_
        refine seqQ rfl rfl (yAssign (v := .bool _) rfl rfl) ?_
        refine seqNil ?_
        exact hC () _ _ (by repeat (first | (with_reducible exact Agree.refl _ _) | refine Agree.upd ?_ rfl | refine Agree.over ?_ rfl)) ⟨by show Value.bool _ = Value.bool _; congr 1; grind [BareP], trivial⟩ rfl
      refine seqQ rfl rfl (yFieldAddr rfl Try.underlying39 rfl Try.sizeOf24 rfl rfl) ?_
      refine seqQ rfl rfl (yLoad rfl Try.underlying24 rfl rfl (hB1.cell rfl)) ?_
      refine seqQ rfl rfl (yLen rfl Try.underlying24 rfl) ?_
      refine seqQ rfl rfl (yEql rfl rfl rfl) ?_
      refine seqQ rfl rfl (yPickT (v := .bool _) rfl rfl rfl) ?_
      first | refine seqG rfl rfl rfl rfl (fun h17 => ?_) (fun h17 => ?_) | refine seqGB rfl rfl rfl rfl (fun h17 => ?_) (fun h17 => ?_)
      rotate_left
      · skip
        refine seqU rfl rfl ?_
        refine seqU rfl rfl ?_
        refine seqU rfl rfl ?_
        refine seqU rfl rfl ?_
        refine seqQ rfl rfl (yPickF (v := .bool _) rfl rfl rfl) ?_
        refine seqQ rfl rfl (yAssign (v := .bool _) rfl rfl) ?_
        refine seqNil ?_
        exact hC () _ _ (by repeat (first | (with_reducible exact Agree.refl _ _) | refine Agree.upd ?_ rfl | refine Agree.over ?_ rfl)) ⟨by show Value.bool _ = Value.bool _; congr 1; grind [BareP], trivial⟩ rfl
      refine seqQ rfl rfl (yFieldAddr rfl Try.underlying39 rfl Try.sizeOf25 rfl rfl) ?_
      refine seqQ rfl rfl (yLoad rfl Try.underlying25 rfl rfl (hB1.cell rfl)) ?_
      refine seqQ rfl rfl (yLen rfl Try.underlying25 rfl) ?_
      refine seqQ rfl rfl (yEql rfl rfl rfl) ?_
      refine seqQ rfl rfl (yPickT (v := .bool _) rfl rfl rfl) ?_
      refine seqQ rfl rfl (yAssign (v := .bool _) rfl rfl) ?_
      refine seqNil ?_
      -- end cut
      exact hC () _ _ (by repeat (first | (with_reducible exact Agree.refl _ _) | refine Agree.upd ?_ rfl | refine Agree.over ?_ rfl)) ⟨by show Value.bool _ = Value.bool _; congr 1; grind [BareP], trivial⟩ rfl

set_option maxRecDepth 100000 in
theorem rTime_c (n : Int) (H : Heap) : CallsH Try.prog 35 [.int .i64 n] H fun v H' => v = .bool (decide (TimeP n)) ∧ H' = H := by
  refine callsH_of Try.func35 rfl Try.ntmps35 (Nat.le_of_ble_eq_true rfl) ?_
  refine wpSeq fun F1 hF1 => ?_
  refine wpRegion ?_
  refine seqQ rfl rfl (yAssign (v := .bool _) rfl rfl) ?_
  refine seqNil ?_
  refine hF1 _ _ ?_; clear hF1
  refine wpSeq fun F2 hF2 => ?_
  refine wpRegion ?_
  refine seqQ rfl rfl (yMove (v := .int _ _) rfl rfl) ?_
  refine seqQ rfl rfl (yGeq rfl rfl rfl) ?_
  first | refine seqG rfl rfl rfl rfl (fun h5 => ?_) (fun h5 => ?_) | refine seqGB rfl rfl rfl rfl (fun h5 => ?_) (fun h5 => ?_)
  rotate_left
  · skip
    refine seqU rfl rfl ?_
    refine seqU rfl rfl ?_
    refine seqQ rfl rfl (yPickF (v := .bool _) rfl rfl rfl) ?_
    refine seqQ rfl rfl (yAssign (v := .bool _) rfl rfl) ?_
    refine seqNil ?_
    refine hF2 _ _ ?_; clear hF2
    refine wpRet (fin1 (v := .bool _) rfl rfl ?_)
    exact ⟨by congr 1; grind [TimeP], rfl⟩
  refine seqQ rfl rfl (yMove (v := .int _ _) rfl rfl) ?_
  refine seqQ rfl rfl (yLeq rfl rfl rfl) ?_
  refine seqQ rfl rfl (yPickT (v := .bool _) rfl rfl rfl) ?_
  refine seqQ rfl rfl (yAssign (v := .bool _) rfl rfl) ?_
  refine seqNil ?_
  refine hF2 _ _ ?_; clear hF2
  -- ret
  refine wpRet (fin1 (v := .bool _) rfl rfl ?_)
  exact ⟨by congr 1; grind [TimeP], rfl⟩
set_option maxRecDepth 100000 in
theorem rInterval1_c (H : Heap) : CallsH Try.prog 37 [.int .i64 1] H fun v H' => v = .int .i64 8 ∧ H' = H := by
  refine callsH_of Try.func37 rfl Try.ntmps37 (Nat.le_of_ble_eq_true rfl) ?_
  refine wpSeq fun F1 hF1 => ?_
  refine wpRegion ?_
  refine seqQ rfl rfl (yAssign (v := .int _ _) rfl rfl) ?_
  refine seqNil ?_
  refine hF1 _ _ ?_; clear hF1
  refine wpSeq fun F2 hF2 => ?_
  refine wpSeq fun F3 hF3 => ?_
  refine wpRegion ?_
  refine seqQ rfl rfl (yMove (v := .int _ _) rfl rfl) ?_
  refine seqQ rfl rfl (yLss rfl rfl rfl) ?_
  refine seqNil ?_
  refine hF3 _ _ ?_; clear hF3
  -- if t6
  refine wpF rfl ?_
  refine wpSkip ?_
  refine hF2 _ _ ?_; clear hF2
  refine wpSeq fun F4 hF4 => ?_
  refine wpRegion ?_
  refine seqQ rfl rfl (yAssign (v := .int _ _) rfl rfl) ?_
  refine seqNil ?_
  refine hF4 _ _ ?_; clear hF4
  refine wpSeq fun F5 hF5 => ?_
  refine wpSeq fun F6 hF6 => ?_
  refine wpRegion ?_
  refine seqQ rfl rfl (yAssign (v := .int _ _) rfl rfl) ?_
  refine seqNil ?_
  refine hF6 _ _ ?_; clear hF6
  -- loop
  refine wpBlock ?_
  refine wpLoopS [3, 4, 7, 8, 9, 10, 11, 12, 13, 14, 15, 16, 17] (fun _ : Unit => [(3, .int .i64 8), (4, .int .i64 1)]) (fun _ H' => H' = H) (fun _ => 0) () ⟨rfl, rfl, trivial⟩ rfl ?_
  rintro ⟨⟩ J H' rfl
  refine wpSeq fun F7 hF7 => ?_
  refine wpSeq fun F8 hF8 => ?_
  refine wpRegion ?_
  refine seqQ rfl rfl (yMove (v := .int _ _) rfl rfl) ?_
  refine seqQ rfl rfl (yMove (v := .int _ _) rfl rfl) ?_
  refine seqQ rfl rfl (yLss rfl rfl rfl) ?_
  refine seqQ rfl rfl (yMove (v := .bool false) rfl rfl) ?_
  refine seqU rfl rfl ?_
  refine seqU rfl rfl ?_
  refine seqQ rfl rfl (yPickF (v := .bool _) rfl rfl rfl) ?_
  refine seqNil ?_
  refine hF8 _ _ ?_; clear hF8
  -- if t13
  refine wpF rfl ?_
  refine wpExit ?_
  refine hF5 _ _ ?_; clear hF5
  refine wpSeq fun F9 hF9 => ?_
  refine wpRegion ?_
  refine seqQ rfl rfl (yMove (v := .int _ _) rfl rfl) ?_
  refine seqQ rfl rfl (yAssign (v := .int _ _) rfl rfl) ?_
  refine seqNil ?_
  refine hF9 _ _ ?_; clear hF9
  -- ret
  refine wpRet (fin1 (v := .int _ _) rfl rfl ?_)
  exact ⟨rfl, rfl⟩
set_option maxRecDepth 100000 in
theorem rSdValid_c (s : Sd) (A B : Option Addr) (ca cb : Nat) (H : Heap) (hA : Rd eVal H A s.pk.vals) (hB : Rd eInt H B s.pk.clk) (h1 : s.pk.vals.length ≤ 1000000000) (h2 : s.pk.clk.length ≤ 1000000000) :
    CallsH Try.prog 22 [.agg (sdC s A ca B cb).toArray] H fun v H' => v = .bool (decide (SdP s)) ∧ Ext H H' := by
  refine callsH_of Try.func22 rfl Try.ntmps22 (Nat.le_of_ble_eq_true rfl) ?_
  refine wpSeq fun F1 hF1 => ?_
  refine wpRegion ?_
  refine seqN rfl rfl (nBoxA rfl rfl) (fun g1 H1 hx1 hB1 hg1 hl1 => ?_)
  refine seqQ rfl rfl (yAssign (v := .bool _) rfl rfl) ?_
  refine seqNil ?_
  refine hF1 _ _ ?_; clear hF1
  refine wpSeq fun F2 hF2 => ?_
  refine wpSeq fun F3 hF3 => ?_
  refine wpRegion ?_
  refine seqQ rfl rfl (yFieldAddr rfl Try.underlying41 rfl Try.sizeOf3 rfl rfl) ?_
  refine seqQ rfl rfl (yLoad rfl Try.underlying3 rfl rfl (hB1.cell rfl)) ?_
  refine seqQ rfl rfl (yLss rfl rfl rfl) ?_
  -- guard t6
  refine seqMeet 8 [6, 7, 8, 9, 10] 10 (decide (s.next < 1 ∨ 1099511627777 < s.next)) (fun hm4 => ?_) (fun J4 => ?_)
  · skip
    first | refine seqG rfl rfl rfl rfl (fun h6 => ?_) (fun h6 => ?_) | refine seqGB rfl rfl rfl rfl (fun h6 => ?_) (fun h6 => ?_)
    · skip
      refine seqU rfl rfl ?_
      refine seqU rfl rfl ?_
      refine seqU rfl rfl ?_
      refine seqQ rfl rfl (yPickT (v := .bool _) rfl rfl rfl) ?_
      exact hm4 _ (by repeat (first | (with_reducible exact Agree.refl _ _) | refine Agree.upd ?_ rfl | refine Agree.over ?_ rfl)) (by show Value.bool _ = Value.bool _; congr 1; simp [*])
    · skip
      refine seqQ rfl rfl (yFieldAddr rfl Try.underlying41 rfl Try.sizeOf3 rfl rfl) ?_
      refine seqQ rfl rfl (yLoad rfl Try.underlying3 rfl rfl (hB1.cell rfl)) ?_
      refine seqQ rfl rfl (yGtr rfl rfl rfl) ?_
      refine seqQ rfl rfl (yPickF (v := .bool _) rfl rfl rfl) ?_
      exact hm4 _ (by repeat (first | (with_reducible exact Agree.refl _ _) | refine Agree.upd ?_ rfl | refine Agree.over ?_ rfl)) (by show Value.bool _ = Value.bool _; congr 1; simp [*])
  refine seqNil ?_
  refine hF3 _ _ ?_; clear hF3
  -- if t10
  refine wpIf rfl (fun hn => ?_) (fun hn => ?_)
  · skip
    refine wpSeq fun F5 hF5 => ?_
    refine wpRegion ?_
    refine seqQ rfl rfl (yAssign (v := .bool _) rfl rfl) ?_
    refine seqNil ?_
    refine hF5 _ _ ?_; clear hF5
    -- ret
    refine wpRet (fin1 (v := .bool _) rfl rfl ?_)
    exact ⟨by congr 1; grind [SdP], hx1⟩
  · skip
    refine wpSkip ?_
    refine hF2 _ _ ?_; clear hF2
    refine wpSeq fun F6 hF6 => ?_
    refine wpSeq fun F7 hF7 => ?_
    refine wpRegion ?_
    refine seqQ rfl rfl (yFieldAddr rfl Try.underlying41 rfl Try.sizeOf4 rfl rfl) ?_
    refine seqQ rfl rfl (yLoad rfl Try.underlying4 rfl rfl (hB1.cell rfl)) ?_
    refine seqQ rfl rfl (yNot rfl rfl) ?_
    refine seqNil ?_
    refine hF7 _ _ ?_; clear hF7
    -- if t13
    refine wpCond rfl (fun hb => ?_) (fun hb => ?_)
    · skip
      refine wpSeq fun F8 hF8 => ?_
      refine wpRegion ?_
      refine seqQ rfl rfl (yFieldAddr rfl Try.underlying41 rfl Try.sizeOf39 rfl rfl) ?_
      refine seqQ rfl rfl (yLoadC (cs := pkC s.pk A ca B cb) rfl Try.underlying39 rfl Try.sizeOf39 rfl (hB1.sub rfl)) ?_
      refine seqQ rfl rfl (yBuild (pl := [(0, 1), (1, 1), (2, 1), (3, 1), (4, 1), (5, 1), (6, 1), (7, 1), (8, 1)]) (vs := []) rfl Try.underlying39 Try.zeroValue39 rfl (by unfold Places; kernel_rfl) rfl rfl) ?_
      -- e slot 17: call F20<farandole/farandoleref46.Equal> t15 t16
      refine seqE rfl rfl (stepCall rfl Try.call20 rfl ?_)
      refine (rEqual_c s.pk pk0 A B none none ca cb 0 0 _ (hA.ext hx1) (hB.ext hx1) (Rd.nil _ _) (Rd.nil _ _) h1 h2).mono ?_
      rintro v H2 ⟨rfl, hx2⟩
      first | refine seqG rfl rfl rfl rfl (fun h18 => ?_) (fun h18 => ?_) | refine seqGB rfl rfl rfl rfl (fun h18 => ?_) (fun h18 => ?_)
      rotate_left
      · skip
        refine seqU rfl rfl ?_
        refine seqU rfl rfl ?_
        refine seqU rfl rfl ?_
        refine seqQ rfl rfl (yPickF (v := .bool _) rfl rfl rfl) ?_
        refine seqQ rfl rfl (yMove (v := .bool false) rfl rfl) ?_
        refine seqU rfl rfl ?_
        refine seqU rfl rfl ?_
        refine seqU rfl rfl ?_
        refine seqQ rfl rfl (yPickF (v := .bool _) rfl rfl rfl) ?_
        refine seqQ rfl rfl (yAssign (v := .bool _) rfl rfl) ?_
        refine seqNil ?_
        refine hF8 _ _ ?_; clear hF8
        refine wpRet (fin1 (v := .bool _) rfl rfl ?_)
        exact ⟨by congr 1; grind [SdP], hx1.trans hx2⟩
      refine seqQ rfl rfl (yFieldAddr rfl Try.underlying41 rfl Try.sizeOf3 rfl rfl) ?_
      refine seqQ rfl rfl (yLoad rfl Try.underlying3 rfl rfl ((hB1.ext hx2).cell rfl)) ?_
      refine seqQ rfl rfl (yEql rfl rfl rfl) ?_
      refine seqQ rfl rfl (yPickT (v := .bool _) rfl rfl rfl) ?_
      first | refine seqG rfl rfl rfl rfl (fun h23 => ?_) (fun h23 => ?_) | refine seqGB rfl rfl rfl rfl (fun h23 => ?_) (fun h23 => ?_)
      rotate_left
      · skip
        refine seqU rfl rfl ?_
        refine seqU rfl rfl ?_
        refine seqU rfl rfl ?_
        refine seqQ rfl rfl (yPickF (v := .bool _) rfl rfl rfl) ?_
        refine seqQ rfl rfl (yAssign (v := .bool _) rfl rfl) ?_
        refine seqNil ?_
        refine hF8 _ _ ?_; clear hF8
        refine wpRet (fin1 (v := .bool _) rfl rfl ?_)
        exact ⟨by congr 1; grind [SdP], hx1.trans hx2⟩
      refine seqQ rfl rfl (yFieldAddr rfl Try.underlying41 rfl Try.sizeOf3 rfl rfl) ?_
      refine seqQ rfl rfl (yLoad rfl Try.underlying3 rfl rfl ((hB1.ext hx2).cell rfl)) ?_
      refine seqQ rfl rfl (yEql rfl rfl rfl) ?_
      refine seqQ rfl rfl (yPickT (v := .bool _) rfl rfl rfl) ?_
      refine seqQ rfl rfl (yAssign (v := .bool _) rfl rfl) ?_
      refine seqNil ?_
      refine hF8 _ _ ?_; clear hF8
      -- ret
      refine wpRet (fin1 (v := .bool _) rfl rfl ?_)
      exact ⟨by congr 1; grind [SdP], hx1.trans hx2⟩
    · skip
      refine wpSkip ?_
      refine hF6 _ _ ?_; clear hF6
      refine wpSeq fun F9 hF9 => ?_
      refine wpRegion ?_
      refine seqQ rfl rfl (yFieldAddr rfl Try.underlying41 rfl Try.sizeOf39 rfl rfl) ?_
      refine seqQ rfl rfl (yLoadC (cs := pkC s.pk A ca B cb) rfl Try.underlying39 rfl Try.sizeOf39 rfl (hB1.sub rfl)) ?_
      -- e slot 30: call F36<farandole/farandoleref46.Valid> t29
      refine seqE rfl rfl (stepCall rfl Try.call36 rfl ?_)
      refine (rValid_c s.pk A B ca cb _ (hA.ext hx1) (hB.ext hx1)).mono ?_
      rintro v H2 ⟨rfl, hx2⟩
      first | refine seqG rfl rfl rfl rfl (fun h31 => ?_) (fun h31 => ?_) | refine seqGB rfl rfl rfl rfl (fun h31 => ?_) (fun h31 => ?_)
      rotate_left
      · skip
        refine seqU rfl rfl ?_
        refine seqU rfl rfl ?_
        refine seqU rfl rfl ?_
        refine seqU rfl rfl ?_
        refine seqQ rfl rfl (yPickF (v := .bool _) rfl rfl rfl) ?_
        refine seqQ rfl rfl (yMove (v := .bool false) rfl rfl) ?_
        refine seqU rfl rfl ?_
        refine seqU rfl rfl ?_
        refine seqU rfl rfl ?_
        refine seqU rfl rfl ?_
        refine seqU rfl rfl ?_
        refine seqU rfl rfl ?_
        refine seqU rfl rfl ?_
        refine seqQ rfl rfl (yPickF (v := .bool _) rfl rfl rfl) ?_
        refine seqQ rfl rfl (yMove (v := .bool false) rfl rfl) ?_
        refine seqU rfl rfl ?_
        refine seqU rfl rfl ?_
        refine seqU rfl rfl ?_
        refine seqQ rfl rfl (yPickF (v := .bool _) rfl rfl rfl) ?_
        refine seqQ rfl rfl (yMove (v := .bool false) rfl rfl) ?_
        refine seqU rfl rfl ?_
        refine seqU rfl rfl ?_
        refine seqU rfl rfl ?_
        refine seqQ rfl rfl (yPickF (v := .bool _) rfl rfl rfl) ?_
        refine seqQ rfl rfl (yMove (v := .bool false) rfl rfl) ?_
        refine seqU rfl rfl ?_
        refine seqU rfl rfl ?_
        refine seqU rfl rfl ?_
        refine seqQ rfl rfl (yPickF (v := .bool _) rfl rfl rfl) ?_
        refine seqQ rfl rfl (yMove (v := .bool false) rfl rfl) ?_
        refine seqU rfl rfl ?_
        refine seqU rfl rfl ?_
        refine seqU rfl rfl ?_
        refine seqQ rfl rfl (yPickF (v := .bool _) rfl rfl rfl) ?_
        refine seqQ rfl rfl (yAssign (v := .bool _) rfl rfl) ?_
        refine seqNil ?_
        refine hF9 _ _ ?_; clear hF9
        refine wpRet (fin1 (v := .bool _) rfl rfl ?_)
        exact ⟨by congr 1; grind [SdP], hx1.trans hx2⟩
      refine seqQ rfl rfl (yFieldAddr rfl Try.underlying41 rfl Try.sizeOf39 rfl rfl) ?_
      refine seqQ rfl rfl (yFieldAddr rfl Try.underlying39 rfl Try.sizeOf3 rfl rfl) ?_
      refine seqQ rfl rfl (yLoad rfl Try.underlying3 rfl rfl ((hB1.ext hx2).cell2 rfl)) ?_
      refine seqQ rfl rfl (yEql rfl rfl rfl) ?_
      refine seqQ rfl rfl (yPickT (v := .bool _) rfl rfl rfl) ?_
      first | refine seqG rfl rfl rfl rfl (fun h37 => ?_) (fun h37 => ?_) | refine seqGB rfl rfl rfl rfl (fun h37 => ?_) (fun h37 => ?_)
      rotate_left
      · skip
        refine seqU rfl rfl ?_
        refine seqU rfl rfl ?_
        refine seqU rfl rfl ?_
        refine seqU rfl rfl ?_
        refine seqU rfl rfl ?_
        refine seqU rfl rfl ?_
        refine seqU rfl rfl ?_
        refine seqQ rfl rfl (yPickF (v := .bool _) rfl rfl rfl) ?_
        refine seqQ rfl rfl (yMove (v := .bool false) rfl rfl) ?_
        refine seqU rfl rfl ?_
        refine seqU rfl rfl ?_
        refine seqU rfl rfl ?_
        refine seqQ rfl rfl (yPickF (v := .bool _) rfl rfl rfl) ?_
        refine seqQ rfl rfl (yMove (v := .bool false) rfl rfl) ?_
        refine seqU rfl rfl ?_
        refine seqU rfl rfl ?_
        refine seqU rfl rfl ?_
        refine seqQ rfl rfl (yPickF (v := .bool _) rfl rfl rfl) ?_
        refine seqQ rfl rfl (yMove (v := .bool false) rfl rfl) ?_
        refine seqU rfl rfl ?_
        refine seqU rfl rfl ?_
        refine seqU rfl rfl ?_
        refine seqQ rfl rfl (yPickF (v := .bool _) rfl rfl rfl) ?_
        refine seqQ rfl rfl (yMove (v := .bool false) rfl rfl) ?_
        refine seqU rfl rfl ?_
        refine seqU rfl rfl ?_
        refine seqU rfl rfl ?_
        refine seqQ rfl rfl (yPickF (v := .bool _) rfl rfl rfl) ?_
        refine seqQ rfl rfl (yAssign (v := .bool _) rfl rfl) ?_
        refine seqNil ?_
        refine hF9 _ _ ?_; clear hF9
        refine wpRet (fin1 (v := .bool _) rfl rfl ?_)
        exact ⟨by congr 1; grind [SdP], hx1.trans hx2⟩
      refine seqQ rfl rfl (yFieldAddr rfl Try.underlying41 rfl Try.sizeOf39 rfl rfl) ?_
      refine seqQ rfl rfl (yFieldAddr rfl Try.underlying39 rfl Try.sizeOf3 rfl rfl) ?_
      refine seqQ rfl rfl (yLoad rfl Try.underlying3 rfl rfl ((hB1.ext hx2).cell2 rfl)) ?_
      refine seqQ rfl rfl (yFieldAddr rfl Try.underlying41 rfl Try.sizeOf3 rfl rfl) ?_
      refine seqQ rfl rfl (yLoad rfl Try.underlying3 rfl rfl ((hB1.ext hx2).cell rfl)) ?_
      refine seqQ rfl rfl (ySub rfl rfl rfl (by unfold In64; omega)) ?_
      refine seqQ rfl rfl (yEql rfl rfl rfl) ?_
      refine seqQ rfl rfl (yPickT (v := .bool _) rfl rfl rfl) ?_
      first | refine seqG rfl rfl rfl rfl (fun h46 => ?_) (fun h46 => ?_) | refine seqGB rfl rfl rfl rfl (fun h46 => ?_) (fun h46 => ?_)
      rotate_left
      · skip
        refine seqU rfl rfl ?_
        refine seqU rfl rfl ?_
        refine seqU rfl rfl ?_
        refine seqQ rfl rfl (yPickF (v := .bool _) rfl rfl rfl) ?_
        refine seqQ rfl rfl (yMove (v := .bool false) rfl rfl) ?_
        refine seqU rfl rfl ?_
        refine seqU rfl rfl ?_
        refine seqU rfl rfl ?_
        refine seqQ rfl rfl (yPickF (v := .bool _) rfl rfl rfl) ?_
        refine seqQ rfl rfl (yMove (v := .bool false) rfl rfl) ?_
        refine seqU rfl rfl ?_
        refine seqU rfl rfl ?_
        refine seqU rfl rfl ?_
        refine seqQ rfl rfl (yPickF (v := .bool _) rfl rfl rfl) ?_
        refine seqQ rfl rfl (yMove (v := .bool false) rfl rfl) ?_
        refine seqU rfl rfl ?_
        refine seqU rfl rfl ?_
        refine seqU rfl rfl ?_
        refine seqQ rfl rfl (yPickF (v := .bool _) rfl rfl rfl) ?_
        refine seqQ rfl rfl (yAssign (v := .bool _) rfl rfl) ?_
        refine seqNil ?_
        refine hF9 _ _ ?_; clear hF9
        refine wpRet (fin1 (v := .bool _) rfl rfl ?_)
        exact ⟨by congr 1; grind [SdP], hx1.trans hx2⟩
      refine seqQ rfl rfl (yFieldAddr rfl Try.underlying41 rfl Try.sizeOf3 rfl rfl) ?_
      refine seqQ rfl rfl (yLoad rfl Try.underlying3 rfl rfl ((hB1.ext hx2).cell rfl)) ?_
      refine seqQ rfl rfl (yGeq rfl rfl rfl) ?_
      refine seqQ rfl rfl (yPickT (v := .bool _) rfl rfl rfl) ?_
      first | refine seqG rfl rfl rfl rfl (fun h51 => ?_) (fun h51 => ?_) | refine seqGB rfl rfl rfl rfl (fun h51 => ?_) (fun h51 => ?_)
      rotate_left
      · skip
        refine seqU rfl rfl ?_
        refine seqU rfl rfl ?_
        refine seqU rfl rfl ?_
        refine seqQ rfl rfl (yPickF (v := .bool _) rfl rfl rfl) ?_
        refine seqQ rfl rfl (yMove (v := .bool false) rfl rfl) ?_
        refine seqU rfl rfl ?_
        refine seqU rfl rfl ?_
        refine seqU rfl rfl ?_
        refine seqQ rfl rfl (yPickF (v := .bool _) rfl rfl rfl) ?_
        refine seqQ rfl rfl (yMove (v := .bool false) rfl rfl) ?_
        refine seqU rfl rfl ?_
        refine seqU rfl rfl ?_
        refine seqU rfl rfl ?_
        refine seqQ rfl rfl (yPickF (v := .bool _) rfl rfl rfl) ?_
        refine seqQ rfl rfl (yAssign (v := .bool _) rfl rfl) ?_
        refine seqNil ?_
        refine hF9 _ _ ?_; clear hF9
        refine wpRet (fin1 (v := .bool _) rfl rfl ?_)
        exact ⟨by congr 1; grind [SdP], hx1.trans hx2⟩
      refine seqQ rfl rfl (yFieldAddr rfl Try.underlying41 rfl Try.sizeOf3 rfl rfl) ?_
      refine seqQ rfl rfl (yLoad rfl Try.underlying3 rfl rfl ((hB1.ext hx2).cell rfl)) ?_
      refine seqQ rfl rfl (yLeq rfl rfl rfl) ?_
      refine seqQ rfl rfl (yPickT (v := .bool _) rfl rfl rfl) ?_
      first | refine seqG rfl rfl rfl rfl (fun h56 => ?_) (fun h56 => ?_) | refine seqGB rfl rfl rfl rfl (fun h56 => ?_) (fun h56 => ?_)
      rotate_left
      · skip
        refine seqU rfl rfl ?_
        refine seqU rfl rfl ?_
        refine seqU rfl rfl ?_
        refine seqQ rfl rfl (yPickF (v := .bool _) rfl rfl rfl) ?_
        refine seqQ rfl rfl (yMove (v := .bool false) rfl rfl) ?_
        refine seqU rfl rfl ?_
        refine seqU rfl rfl ?_
        refine seqU rfl rfl ?_
        refine seqQ rfl rfl (yPickF (v := .bool _) rfl rfl rfl) ?_
        refine seqQ rfl rfl (yAssign (v := .bool _) rfl rfl) ?_
        refine seqNil ?_
        refine hF9 _ _ ?_; clear hF9
        refine wpRet (fin1 (v := .bool _) rfl rfl ?_)
        exact ⟨by congr 1; grind [SdP], hx1.trans hx2⟩
      refine seqQ rfl rfl (yFieldAddr rfl Try.underlying41 rfl Try.sizeOf3 rfl rfl) ?_
      refine seqQ rfl rfl (yLoad rfl Try.underlying3 rfl rfl ((hB1.ext hx2).cell rfl)) ?_
      refine seqQ rfl rfl (yGeq rfl rfl rfl) ?_
      refine seqQ rfl rfl (yPickT (v := .bool _) rfl rfl rfl) ?_
      first | refine seqG rfl rfl rfl rfl (fun h61 => ?_) (fun h61 => ?_) | refine seqGB rfl rfl rfl rfl (fun h61 => ?_) (fun h61 => ?_)
      rotate_left
      · skip
        refine seqU rfl rfl ?_
        refine seqU rfl rfl ?_
        refine seqU rfl rfl ?_
        refine seqQ rfl rfl (yPickF (v := .bool _) rfl rfl rfl) ?_
        refine seqQ rfl rfl (yAssign (v := .bool _) rfl rfl) ?_
        refine seqNil ?_
        refine hF9 _ _ ?_; clear hF9
        refine wpRet (fin1 (v := .bool _) rfl rfl ?_)
        exact ⟨by congr 1; grind [SdP], hx1.trans hx2⟩
      refine seqQ rfl rfl (yFieldAddr rfl Try.underlying41 rfl Try.sizeOf3 rfl rfl) ?_
      refine seqQ rfl rfl (yLoad rfl Try.underlying3 rfl rfl ((hB1.ext hx2).cell rfl)) ?_
      refine seqQ rfl rfl (yLeq rfl rfl rfl) ?_
      refine seqQ rfl rfl (yPickT (v := .bool _) rfl rfl rfl) ?_
      refine seqQ rfl rfl (yAssign (v := .bool _) rfl rfl) ?_
      refine seqNil ?_
      refine hF9 _ _ ?_; clear hF9
      -- ret
      refine wpRet (fin1 (v := .bool _) rfl rfl ?_)
      exact ⟨by congr 1; grind [SdP], hx1.trans hx2⟩
def ackedF (s : Sd) (seq : Int) : Int × Sd := if ¬ SdP s then (1, sd0) else if s.busy = false ∨ s.pk.seq ≠ seq then (8, sd0) else (0, { sd0 with next := s.next })
set_option maxRecDepth 100000 in
theorem acked_c (s : Sd) (seq : Int) (A B : Option Addr) (ca cb : Nat) (H : Heap) (hA : Rd eVal H A s.pk.vals) (hB : Rd eInt H B s.pk.clk) (h1 : s.pk.vals.length ≤ 1000000000) (h2 : s.pk.clk.length ≤ 1000000000) :
    CallsH Try.prog 16 [.agg (sdC s A ca B cb).toArray, .int .i64 seq] H fun v H' => v = .tuple #[.agg (sdC (ackedF s seq).2 none 0 none 0).toArray, .int .i64 (ackedF s seq).1] ∧ Ext H H' := by
  refine callsH_of Try.func16 rfl Try.ntmps16 (Nat.le_of_ble_eq_true rfl) ?_
  refine wpSeq fun F1 hF1 => ?_
  refine wpRegion ?_
  refine seqN rfl rfl (nBoxA rfl rfl) (fun g2 H2 hx2 hB2 hg2 hl2 => ?_)
  refine seqN rfl rfl (nAlloc rfl Try.zeroValue29 rfl) (fun g4 H4 hx4 hB4 hg4 hl4 => ?_)
  refine seqQ rfl rfl (yAssign (v := .int _ _) rfl rfl) ?_
  refine seqNil ?_
  refine hF1 _ _ ?_; clear hF1
  refine wpSeq fun F2 hF2 => ?_
  refine wpBlock ?_
  refine wpSeq fun F3 hF3 => ?_
  refine wpRegion ?_
  refine seqQ rfl rfl (yLoadB (hB2.ext hx4) rfl Try.underlying29 rfl Try.sizeOf29 rfl) ?_
  -- e slot 8: call F21<farandole/transport.Valid> t7
  refine seqE rfl rfl (stepCall rfl Try.call21 rfl ?_)
  refine (sdValid_c s A B ca cb _ ((hA.ext hx2).ext hx4) ((hB.ext hx2).ext hx4) h1 h2).mono ?_
  rintro v H5 ⟨rfl, hx5⟩
  have hE := (hx2.trans hx4).trans hx5
  have s2 := hx2.size
  replace hB2 := (hB2.ext hx4).ext hx5
  replace hB4 := hB4.ext hx5
  clear hx2 hx4 hx5
  refine seqQ rfl rfl (yNot rfl rfl) ?_
  refine seqQ rfl rfl (yAssign (v := .bool _) rfl rfl) ?_
  refine seqNil ?_
  refine hF3 _ _ ?_; clear hF3
  -- if t6
  refine wpCond rfl (fun hv => ?_) (fun hv => ?_)
  · skip
    have hv : ¬ SdP s := by simpa using hv
    refine wpSeq fun F4 hF4 => ?_
    refine wpRegion ?_
    refine seqQ rfl rfl (yBuild (pl := [(0, 1), (1, 1), (2, 9), (11, 1), (12, 1)]) (vs := []) rfl Try.underlying29 Try.zeroValue29 rfl (by unfold Places; kernel_rfl) rfl rfl) ?_
    -- e slot None: store T29 t4 t10
    refine seqE0 rfl rfl (stepStoreB rfl (by kernel_rfl) rfl rfl rfl hB4 rfl ?_)
    intro H6 hB6 hK6
    refine seqQ rfl rfl (yAssign (v := .int _ _) rfl rfl) ?_
    refine seqNil ?_
    refine hF4 _ _ ?_; clear hF4
    -- ret
    refine wpRet (finR2 rfl (resC Try.underlying29 rfl (by kernel_rfl) rfl hB6) (resT (v := .int _ _) rfl) ?_)
    exact ⟨by rw [show ackedF s seq = (1, sd0) from if_pos hv]; rfl, hE.mine hK6 (by simp; omega)⟩
  · skip
    have hv : ¬ ¬ SdP s := by simpa using hv
    refine wpSeq fun F5 hF5 => ?_
    refine wpRegion ?_
    refine seqQ rfl rfl (yFieldAddr rfl Try.underlying29 rfl Try.sizeOf4 rfl rfl) ?_
    refine seqQ rfl rfl (yLoad rfl Try.underlying4 rfl rfl (hB2.cell rfl)) ?_
    refine seqQ rfl rfl (yNot rfl rfl) ?_
    -- guard t15
    refine seqMeet 10 [15, 16, 17, 18, 19, 20, 21] 21 (decide (s.busy = false ∨ s.pk.seq ≠ seq)) (fun hm6 => ?_) (fun J6 => ?_)
    · skip
      first | refine seqG rfl rfl rfl rfl (fun h15 => ?_) (fun h15 => ?_) | refine seqGB rfl rfl rfl rfl (fun h15 => ?_) (fun h15 => ?_)
      · skip
        refine seqU rfl rfl ?_
        refine seqU rfl rfl ?_
        refine seqU rfl rfl ?_
        refine seqU rfl rfl ?_
        refine seqU rfl rfl ?_
        refine seqQ rfl rfl (yPickT (v := .bool _) rfl rfl rfl) ?_
        exact hm6 _ (by repeat (first | (with_reducible exact Agree.refl _ _) | refine Agree.upd ?_ rfl | refine Agree.over ?_ rfl)) (by show Value.bool _ = Value.bool _; congr 1; grind)
      · skip
        refine seqQ rfl rfl (yFieldAddr rfl Try.underlying29 rfl Try.sizeOf27 rfl rfl) ?_
        refine seqQ rfl rfl (yFieldAddr rfl Try.underlying27 rfl Try.sizeOf3 rfl rfl) ?_
        refine seqQ rfl rfl (yLoad rfl Try.underlying3 rfl rfl (hB2.cell2 rfl)) ?_
        refine seqQ rfl rfl (yMove (v := .int _ _) rfl rfl) ?_
        refine seqQ rfl rfl (yNeq rfl rfl rfl) ?_
        refine seqQ rfl rfl (yPickF (v := .bool _) rfl rfl rfl) ?_
        exact hm6 _ (by repeat (first | (with_reducible exact Agree.refl _ _) | refine Agree.upd ?_ rfl | refine Agree.over ?_ rfl)) (by show Value.bool _ = Value.bool _; congr 1; grind)
    refine seqQ rfl rfl (yAssign (v := .bool _) rfl rfl) ?_
    refine seqNil ?_
    refine hF5 _ _ ?_; clear hF5
    -- if t11
    refine wpIf rfl (fun hb => ?_) (fun hb => ?_)
    · skip
      refine wpSeq fun F7 hF7 => ?_
      refine wpRegion ?_
      refine seqQ rfl rfl (yBuild (pl := [(0, 1), (1, 1), (2, 9), (11, 1), (12, 1)]) (vs := []) rfl Try.underlying29 Try.zeroValue29 rfl (by unfold Places; kernel_rfl) rfl rfl) ?_
      -- e slot None: store T29 t4 t22
      refine seqE0 rfl rfl (stepStoreB rfl (by kernel_rfl) rfl rfl rfl hB4 rfl ?_)
      intro H6 hB6 hK6
      refine seqQ rfl rfl (yAssign (v := .int _ _) rfl rfl) ?_
      refine seqNil ?_
      refine hF7 _ _ ?_; clear hF7
      -- ret
      refine wpRet (finR2 rfl (resC Try.underlying29 rfl (by kernel_rfl) rfl hB6) (resT (v := .int _ _) rfl) ?_)
      exact ⟨by rw [show ackedF s seq = (8, sd0) from by unfold ackedF; rw [if_neg hv, if_pos hb]]; rfl, hE.mine hK6 (by simp; omega)⟩
    · skip
      refine wpSkip ?_
      refine hF2 _ _ ?_; clear hF2
      refine wpSeq fun F8 hF8 => ?_
      refine wpRegion ?_
      refine seqQ rfl rfl (yFieldAddr rfl Try.underlying29 rfl Try.sizeOf3 rfl rfl) ?_
      refine seqQ rfl rfl (yLoad rfl Try.underlying3 rfl rfl (hB2.cell rfl)) ?_
      refine seqQ rfl rfl (yBuild (pl := [(0, 1), (1, 1), (2, 9), (11, 1), (12, 1)]) (vs := [(0, .int _ _)]) rfl Try.underlying29 Try.zeroValue29 rfl (by unfold Places; kernel_rfl) rfl rfl) ?_
      -- e slot None: store T29 t4 t25
      refine seqE0 rfl rfl (stepStoreB rfl (by kernel_rfl) rfl rfl rfl hB4 rfl ?_)
      intro H6 hB6 hK6
      refine seqQ rfl rfl (yAssign (v := .int _ _) rfl rfl) ?_
      refine seqNil ?_
      refine hF8 _ _ ?_; clear hF8
      -- ret
      refine wpRet (finR2 rfl (resC Try.underlying29 rfl (by kernel_rfl) rfl hB6) (resT (v := .int _ _) rfl) ?_)
      exact ⟨by rw [show ackedF s seq = (0, { sd0 with next := s.next }) from by unfold ackedF; rw [if_neg hv, if_neg hb]]; rfl, hE.mine hK6 (by simp; omega)⟩
end Go.Proofs.Ytcfnmklbkhibgaa
