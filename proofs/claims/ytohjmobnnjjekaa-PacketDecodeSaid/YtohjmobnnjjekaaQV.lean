/- The document's packets: Valid. -/
import Derived.Test.YtohjmobnnjjekaaQ1
namespace Go.Proofs.Ytohjmobnnjjekaa
open Go.RowKit

set_option maxRecDepth 100000 in
theorem rValid_c (p : Pk) (A B : Option Addr) (ca cb : Nat) (H : Heap) (hA : Rd eVal H A p.vals) (hB : Rd eInt H B p.clk) :
    CallsH Try.prog 17 [.agg (pkC p A ca B cb).toArray] H fun v H' => v = .bool (decide (ValidP p)) ∧ Ext H H' := by
  refine callsH_of Try.func17 rfl Try.ntmps17 (Nat.le_of_ble_eq_true rfl) ?_
  refine wpSeq fun F1 hF1 => ?_
  refine wpRegion ?_
  refine seqN rfl rfl (nBoxA rfl rfl) (fun g1 H1 hx1 hB1 hg1 hl1 => ?_)
  refine seqQ rfl rfl (yAssign (v := .bool _) rfl rfl) ?_
  refine seqNil ?_
  refine hF1 _ _ ?_; clear hF1
  refine wpSeq fun F2 hF2 => ?_
  refine wpSeq fun F3 hF3 => ?_
  refine wpRegion ?_
  refine seqQ rfl rfl (yFieldAddr rfl Try.underlying25 rfl Try.sizeOf3 rfl rfl) ?_
  refine seqQ rfl rfl (yLoad rfl Try.underlying3 rfl rfl (hB1.cell rfl)) ?_
  -- e slot 6: call F34<farandole/farandoleref46.in> t5 [i:i64:1] [i:i64:32]
  refine seqE rfl rfl (stepCall rfl Try.call34 rfl ?_)
  refine (in_c p.session 1 32 _).mono ?_
  rintro v _ ⟨rfl, e⟩; obtain rfl := e.symm; clear e
  refine seqQ rfl rfl (yNot rfl rfl) ?_
  refine seqNil ?_
  refine hF3 _ _ ?_; clear hF3
  -- if t7
  refine wpCond rfl (fun h7 => ?_) (fun h7 => ?_)
  · skip
    refine wpSeq fun F4 hF4 => ?_
    refine wpRegion ?_
    refine seqQ rfl rfl (yAssign (v := .bool _) rfl rfl) ?_
    refine seqNil ?_
    refine hF4 _ _ ?_; clear hF4
    -- ret
    refine wpRet (fin1 (v := .bool _) rfl rfl ?_)
    exact ⟨by congr 1; grind [ValidP], hx1⟩
  · skip
    have h7 : 1 ≤ p.session ∧ p.session ≤ 32 := by simpa using h7
    refine wpSkip ?_
    refine hF2 _ _ ?_; clear hF2
    refine wpSeq fun F5 hF5 => ?_
    -- region 3
    refine cutF [3, 8, 9, 10, 11, 12, 13, 14, 15, 16, 17, 18, 19, 20, 21, 22] (fun _ : Unit => [(3, .bool (decide (BareP p)))]) (fun _ H' => H' = H1) hF5 ?_ (fun hC => ?_)
    · skip
      rintro ⟨⟩ J1 H2 rfl
      refine wpSeq fun F6 hF6 => ?_
      refine wpSeq fun F7 hF7 => ?_
      refine wpRegion ?_
      refine seqQ rfl rfl (yFieldAddr rfl Try.underlying25 rfl Try.sizeOf3 rfl rfl) ?_
      refine seqQ rfl rfl (yLoad rfl Try.underlying3 rfl rfl (hB1.cell rfl)) ?_
      refine seqNil ?_
      refine hF7 _ _ ?_; clear hF7
      refine wpBlock ?_
      refine wpSeq fun F8 hF8 => ?_
      refine wpRegion ?_
      refine seqQ rfl rfl (yEql rfl rfl rfl) ?_
      refine seqQ rfl rfl (yAssign (v := .bool _) rfl rfl) ?_
      refine seqNil ?_
      refine hF8 _ _ ?_; clear hF8
      -- if t25
      refine wpIf rfl (fun k1 => ?_) (fun k1 => ?_)
      · skip
        refine wpSeq fun F9 hF9 => ?_
        refine wpRegion ?_
        refine seqQ rfl rfl (yFieldAddr rfl Try.underlying25 rfl Try.sizeOf3 rfl rfl) ?_
        refine seqQ rfl rfl (yLoad rfl Try.underlying3 rfl rfl (hB1.cell rfl)) ?_
        -- e slot 29: call F34<farandole/farandoleref46.in> t28 [i:i64:0] [i:i64:1]
        refine seqE rfl rfl (stepCall rfl Try.call34 rfl ?_)
        refine (in_c p.epoch 0 1 _).mono ?_
        rintro v _ ⟨rfl, e⟩; obtain rfl := e.symm; clear e
        first | refine seqG rfl rfl rfl rfl (fun h30 => ?_) (fun h30 => ?_) | refine seqGB rfl rfl rfl rfl (fun h30 => ?_) (fun h30 => ?_)
        rotate_left
        · skip
          refine seqU rfl rfl ?_
          refine seqU rfl rfl ?_
          refine seqQ rfl rfl (yPickF (v := .bool _) rfl rfl rfl) ?_
          refine seqQ rfl rfl (yMove (v := .bool false) rfl rfl) ?_
          refine seqU rfl rfl ?_
          refine seqU rfl rfl ?_
          refine seqU rfl rfl ?_
          refine seqQ rfl rfl (yPickF (v := .bool _) rfl rfl rfl) ?_
          refine seqQ rfl rfl (yMove (v := .bool false) rfl rfl) ?_
          refine seqU rfl rfl ?_
          refine seqU rfl rfl ?_
          refine seqU rfl rfl ?_
          refine seqQ rfl rfl (yPickF (v := .bool _) rfl rfl rfl) ?_
          refine seqQ rfl rfl (yMove (v := .bool false) rfl rfl) ?_
          refine seqU rfl rfl ?_
          refine seqU rfl rfl ?_
          refine seqQ rfl rfl (yPickF (v := .bool _) rfl rfl rfl) ?_
          refine seqQ rfl rfl (yAssign (v := .bool _) rfl rfl) ?_
          refine seqNil ?_
          refine hF9 _ _ ?_; clear hF9
          refine wpRet (fin1 (v := .bool _) rfl rfl ?_)
          exact ⟨by congr 1; grind [ValidP, DataP], hx1⟩
        refine seqQ rfl rfl (yLoadB hB1 rfl Try.underlying25 rfl Try.sizeOf25 rfl) ?_
        -- e slot 32: call F35<farandole/farandoleref46.pair> t31
        refine seqE rfl rfl (stepCall rfl Try.call35 rfl ?_)
        refine (pair_c p A B ca cb _).mono ?_
        rintro v H3 ⟨rfl, hx3⟩
        refine seqQ rfl rfl (yPickT (v := .bool _) rfl rfl rfl) ?_
        first | refine seqG rfl rfl rfl rfl (fun h34 => ?_) (fun h34 => ?_) | refine seqGB rfl rfl rfl rfl (fun h34 => ?_) (fun h34 => ?_)
        rotate_left
        · skip
          refine seqU rfl rfl ?_
          refine seqU rfl rfl ?_
          refine seqU rfl rfl ?_
          refine seqQ rfl rfl (yPickF (v := .bool _) rfl rfl rfl) ?_
          refine seqQ rfl rfl (yMove (v := .bool false) rfl rfl) ?_
          refine seqU rfl rfl ?_
          refine seqU rfl rfl ?_
          refine seqU rfl rfl ?_
          refine seqQ rfl rfl (yPickF (v := .bool _) rfl rfl rfl) ?_
          refine seqQ rfl rfl (yMove (v := .bool false) rfl rfl) ?_
          refine seqU rfl rfl ?_
          refine seqU rfl rfl ?_
          refine seqQ rfl rfl (yPickF (v := .bool _) rfl rfl rfl) ?_
          refine seqQ rfl rfl (yAssign (v := .bool _) rfl rfl) ?_
          refine seqNil ?_
          refine hF9 _ _ ?_; clear hF9
          refine wpRet (fin1 (v := .bool _) rfl rfl ?_)
          exact ⟨by congr 1; grind [ValidP, DataP, NumP], hx1.trans hx3⟩
        refine seqQ rfl rfl (yFieldAddr rfl Try.underlying25 rfl Try.sizeOf3 rfl rfl) ?_
        refine seqQ rfl rfl (yLoad rfl Try.underlying3 rfl rfl ((hB1.ext hx3).cell rfl)) ?_
        -- e slot 37: call F34<farandole/farandoleref46.in> t36 [i:i64:1] [i:i64:1099511627776]
        refine seqE rfl rfl (stepCall rfl Try.call34 rfl ?_)
        refine (in_c p.seq 1 1099511627776 _).mono ?_
        rintro v _ ⟨rfl, e⟩; obtain rfl := e.symm; clear e
        refine seqQ rfl rfl (yPickT (v := .bool _) rfl rfl rfl) ?_
        first | refine seqG rfl rfl rfl rfl (fun h39 => ?_) (fun h39 => ?_) | refine seqGB rfl rfl rfl rfl (fun h39 => ?_) (fun h39 => ?_)
        rotate_left
        · skip
          refine seqU rfl rfl ?_
          refine seqU rfl rfl ?_
          refine seqU rfl rfl ?_
          refine seqQ rfl rfl (yPickF (v := .bool _) rfl rfl rfl) ?_
          refine seqQ rfl rfl (yMove (v := .bool false) rfl rfl) ?_
          refine seqU rfl rfl ?_
          refine seqU rfl rfl ?_
          refine seqQ rfl rfl (yPickF (v := .bool _) rfl rfl rfl) ?_
          refine seqQ rfl rfl (yAssign (v := .bool _) rfl rfl) ?_
          refine seqNil ?_
          refine hF9 _ _ ?_; clear hF9
          refine wpRet (fin1 (v := .bool _) rfl rfl ?_)
          exact ⟨by congr 1; grind [ValidP, DataP, NumP], hx1.trans hx3⟩
        refine seqQ rfl rfl (yFieldAddr rfl Try.underlying25 rfl Try.sizeOf3 rfl rfl) ?_
        refine seqQ rfl rfl (yLoad rfl Try.underlying3 rfl rfl ((hB1.ext hx3).cell rfl)) ?_
        -- e slot 42: call F34<farandole/farandoleref46.in> t41 [i:i64:0] [i:i64:39]
        refine seqE rfl rfl (stepCall rfl Try.call34 rfl ?_)
        refine (in_c p.label 0 39 _).mono ?_
        rintro v _ ⟨rfl, e⟩; obtain rfl := e.symm; clear e
        refine seqQ rfl rfl (yPickT (v := .bool _) rfl rfl rfl) ?_
        first | refine seqG rfl rfl rfl rfl (fun h44 => ?_) (fun h44 => ?_) | refine seqGB rfl rfl rfl rfl (fun h44 => ?_) (fun h44 => ?_)
        rotate_left
        · skip
          refine seqU rfl rfl ?_
          refine seqU rfl rfl ?_
          refine seqQ rfl rfl (yPickF (v := .bool _) rfl rfl rfl) ?_
          refine seqQ rfl rfl (yAssign (v := .bool _) rfl rfl) ?_
          refine seqNil ?_
          refine hF9 _ _ ?_; clear hF9
          refine wpRet (fin1 (v := .bool _) rfl rfl ?_)
          exact ⟨by congr 1; grind [ValidP, DataP, NumP], hx1.trans hx3⟩
        refine seqQ rfl rfl (yLoadB (hB1.ext hx3) rfl Try.underlying25 rfl Try.sizeOf25 rfl) ?_
        -- e slot 46: call F36<farandole/farandoleref46.content> t45
        refine seqE rfl rfl (stepCall rfl Try.call36 rfl ?_)
        refine (content_c p A B ca cb _ ((hA.ext hx1).ext hx3) ((hB.ext hx1).ext hx3)).mono ?_
        rintro v H4 ⟨rfl, hx4⟩
        refine seqQ rfl rfl (yPickT (v := .bool _) rfl rfl rfl) ?_
        refine seqQ rfl rfl (yAssign (v := .bool _) rfl rfl) ?_
        refine seqNil ?_
        refine hF9 _ _ ?_; clear hF9
        -- ret
        refine wpRet (fin1 (v := .bool _) rfl rfl ?_)
        exact ⟨by congr 1; grind [ValidP, DataP, NumP], (hx1.trans hx3).trans hx4⟩
      · skip
        refine wpSeq fun F10 hF10 => ?_
        refine wpRegion ?_
        refine seqQ rfl rfl (yEql rfl rfl rfl) ?_
        refine seqQ rfl rfl (yAssign (v := .bool _) rfl rfl) ?_
        refine seqNil ?_
        refine hF10 _ _ ?_; clear hF10
        -- if t48
        refine wpIf rfl (fun k2 => ?_) (fun k2 => ?_)
        · skip
          refine wpSeq fun F11 hF11 => ?_
          refine wpRegion ?_
          refine seqQ rfl rfl (yLoadB hB1 rfl Try.underlying25 rfl Try.sizeOf25 rfl) ?_
          -- e slot 51: call F35<farandole/farandoleref46.pair> t50
          refine seqE rfl rfl (stepCall rfl Try.call35 rfl ?_)
          refine (pair_c p A B ca cb _).mono ?_
          rintro v H3 ⟨rfl, hx3⟩
          first | refine seqG rfl rfl rfl rfl (fun h52 => ?_) (fun h52 => ?_) | refine seqGB rfl rfl rfl rfl (fun h52 => ?_) (fun h52 => ?_)
          rotate_left
          · skip
            refine seqU rfl rfl ?_
            refine seqU rfl rfl ?_
            refine seqU rfl rfl ?_
            refine seqQ rfl rfl (yPickF (v := .bool _) rfl rfl rfl) ?_
            refine seqQ rfl rfl (yMove (v := .bool false) rfl rfl) ?_
            refine seqU rfl rfl ?_
            refine seqU rfl rfl ?_
            refine seqU rfl rfl ?_
            refine seqQ rfl rfl (yPickF (v := .bool _) rfl rfl rfl) ?_
            refine seqQ rfl rfl (yMove (v := .bool false) rfl rfl) ?_
            refine seqU rfl rfl ?_
            refine seqQ rfl rfl (yPickF (v := .bool _) rfl rfl rfl) ?_
            refine seqQ rfl rfl (yAssign (v := .bool _) rfl rfl) ?_
            refine seqNil ?_
            refine hF11 _ _ ?_; clear hF11
            refine wpRet (fin1 (v := .bool _) rfl rfl ?_)
            exact ⟨by congr 1; grind [ValidP, AckP, NumP], hx1.trans hx3⟩
          refine seqQ rfl rfl (yFieldAddr rfl Try.underlying25 rfl Try.sizeOf3 rfl rfl) ?_
          refine seqQ rfl rfl (yLoad rfl Try.underlying3 rfl rfl ((hB1.ext hx3).cell rfl)) ?_
          -- e slot 55: call F34<farandole/farandoleref46.in> t54 [i:i64:1] [i:i64:1099511627776]
          refine seqE rfl rfl (stepCall rfl Try.call34 rfl ?_)
          refine (in_c p.seq 1 1099511627776 _).mono ?_
          rintro v _ ⟨rfl, e⟩; obtain rfl := e.symm; clear e
          refine seqQ rfl rfl (yPickT (v := .bool _) rfl rfl rfl) ?_
          first | refine seqG rfl rfl rfl rfl (fun h57 => ?_) (fun h57 => ?_) | refine seqGB rfl rfl rfl rfl (fun h57 => ?_) (fun h57 => ?_)
          rotate_left
          · skip
            refine seqU rfl rfl ?_
            refine seqU rfl rfl ?_
            refine seqU rfl rfl ?_
            refine seqQ rfl rfl (yPickF (v := .bool _) rfl rfl rfl) ?_
            refine seqQ rfl rfl (yMove (v := .bool false) rfl rfl) ?_
            refine seqU rfl rfl ?_
            refine seqQ rfl rfl (yPickF (v := .bool _) rfl rfl rfl) ?_
            refine seqQ rfl rfl (yAssign (v := .bool _) rfl rfl) ?_
            refine seqNil ?_
            refine hF11 _ _ ?_; clear hF11
            refine wpRet (fin1 (v := .bool _) rfl rfl ?_)
            exact ⟨by congr 1; grind [ValidP, AckP, NumP], hx1.trans hx3⟩
          refine seqQ rfl rfl (yFieldAddr rfl Try.underlying25 rfl Try.sizeOf3 rfl rfl) ?_
          refine seqQ rfl rfl (yLoad rfl Try.underlying3 rfl rfl ((hB1.ext hx3).cell rfl)) ?_
          refine seqQ rfl rfl (yEql rfl rfl rfl) ?_
          refine seqQ rfl rfl (yPickT (v := .bool _) rfl rfl rfl) ?_
          first | refine seqG rfl rfl rfl rfl (fun h62 => ?_) (fun h62 => ?_) | refine seqGB rfl rfl rfl rfl (fun h62 => ?_) (fun h62 => ?_)
          rotate_left
          · skip
            refine seqU rfl rfl ?_
            refine seqQ rfl rfl (yPickF (v := .bool _) rfl rfl rfl) ?_
            refine seqQ rfl rfl (yAssign (v := .bool _) rfl rfl) ?_
            refine seqNil ?_
            refine hF11 _ _ ?_; clear hF11
            refine wpRet (fin1 (v := .bool _) rfl rfl ?_)
            exact ⟨by congr 1; grind [ValidP, AckP, NumP], hx1.trans hx3⟩
          refine seqQ rfl rfl (yMove (v := .bool _) rfl rfl) ?_
          refine seqQ rfl rfl (yPickT (v := .bool _) rfl rfl rfl) ?_
          refine seqQ rfl rfl (yAssign (v := .bool _) rfl rfl) ?_
          refine seqNil ?_
          refine hF11 _ _ ?_; clear hF11
          -- ret
          refine wpRet (fin1 (v := .bool _) rfl rfl ?_)
          exact ⟨by congr 1; grind [ValidP, AckP, NumP], hx1.trans hx3⟩
        · skip
          refine wpSeq fun F12 hF12 => ?_
          refine wpSeq fun F13 hF13 => ?_
          refine wpRegion ?_
          refine seqQ rfl rfl (yEql rfl rfl rfl) ?_
          refine seqQ rfl rfl (yAssign (v := .bool _) rfl rfl) ?_
          refine seqNil ?_
          refine hF13 _ _ ?_; clear hF13
          -- if t65
          by_cases k3 : p.kind = 3
          · skip
            rw [decide_eq_true k3]
            refine wpT rfl ?_
            refine wpSkip ?_
            refine hF12 _ _ ?_; clear hF12
            -- if t65
            refine wpT rfl ?_
            refine wpSeq fun F14 hF14 => ?_
            refine wpRegion ?_
            refine seqQ rfl rfl (yFieldAddr rfl Try.underlying25 rfl Try.sizeOf3 rfl rfl) ?_
            refine seqQ rfl rfl (yLoad rfl Try.underlying3 rfl rfl (hB1.cell rfl)) ?_
            -- e slot 70: call F34<farandole/farandoleref46.in> t69 [i:i64:0] [i:i64:5]
            refine seqE rfl rfl (stepCall rfl Try.call34 rfl ?_)
            refine (in_c p.src 0 5 _).mono ?_
            rintro v _ ⟨rfl, e⟩; obtain rfl := e.symm; clear e
            first | refine seqG rfl rfl rfl rfl (fun h71 => ?_) (fun h71 => ?_) | refine seqGB rfl rfl rfl rfl (fun h71 => ?_) (fun h71 => ?_)
            rotate_left
            · skip
              refine seqU rfl rfl ?_
              refine seqU rfl rfl ?_
              refine seqU rfl rfl ?_
              refine seqQ rfl rfl (yPickF (v := .bool _) rfl rfl rfl) ?_
              refine seqQ rfl rfl (yMove (v := .bool false) rfl rfl) ?_
              refine seqU rfl rfl ?_
              refine seqU rfl rfl ?_
              refine seqU rfl rfl ?_
              refine seqQ rfl rfl (yPickF (v := .bool _) rfl rfl rfl) ?_
              refine seqQ rfl rfl (yMove (v := .bool false) rfl rfl) ?_
              refine seqU rfl rfl ?_
              refine seqU rfl rfl ?_
              refine seqU rfl rfl ?_
              refine seqQ rfl rfl (yPickF (v := .bool _) rfl rfl rfl) ?_
              refine seqQ rfl rfl (yMove (v := .bool false) rfl rfl) ?_
              refine seqU rfl rfl ?_
              refine seqQ rfl rfl (yPickF (v := .bool _) rfl rfl rfl) ?_
              refine seqQ rfl rfl (yAssign (v := .bool _) rfl rfl) ?_
              refine seqNil ?_
              refine hF14 _ _ ?_; clear hF14
              refine wpRet (fin1 (v := .bool _) rfl rfl ?_)
              exact ⟨by congr 1; grind [ValidP, OrderP], hx1⟩
            refine seqQ rfl rfl (yFieldAddr rfl Try.underlying25 rfl Try.sizeOf3 rfl rfl) ?_
            refine seqQ rfl rfl (yLoad rfl Try.underlying3 rfl rfl (hB1.cell rfl)) ?_
            refine seqQ rfl rfl (yEql rfl rfl rfl) ?_
            refine seqQ rfl rfl (yPickT (v := .bool _) rfl rfl rfl) ?_
            first | refine seqG rfl rfl rfl rfl (fun h76 => ?_) (fun h76 => ?_) | refine seqGB rfl rfl rfl rfl (fun h76 => ?_) (fun h76 => ?_)
            rotate_left
            · skip
              refine seqU rfl rfl ?_
              refine seqU rfl rfl ?_
              refine seqU rfl rfl ?_
              refine seqQ rfl rfl (yPickF (v := .bool _) rfl rfl rfl) ?_
              refine seqQ rfl rfl (yMove (v := .bool false) rfl rfl) ?_
              refine seqU rfl rfl ?_
              refine seqU rfl rfl ?_
              refine seqU rfl rfl ?_
              refine seqQ rfl rfl (yPickF (v := .bool _) rfl rfl rfl) ?_
              refine seqQ rfl rfl (yMove (v := .bool false) rfl rfl) ?_
              refine seqU rfl rfl ?_
              refine seqQ rfl rfl (yPickF (v := .bool _) rfl rfl rfl) ?_
              refine seqQ rfl rfl (yAssign (v := .bool _) rfl rfl) ?_
              refine seqNil ?_
              refine hF14 _ _ ?_; clear hF14
              refine wpRet (fin1 (v := .bool _) rfl rfl ?_)
              exact ⟨by congr 1; grind [ValidP, OrderP], hx1⟩
            refine seqQ rfl rfl (yFieldAddr rfl Try.underlying25 rfl Try.sizeOf3 rfl rfl) ?_
            refine seqQ rfl rfl (yLoad rfl Try.underlying3 rfl rfl (hB1.cell rfl)) ?_
            refine seqQ rfl rfl (yEql rfl rfl rfl) ?_
            refine seqQ rfl rfl (yPickT (v := .bool _) rfl rfl rfl) ?_
            first | refine seqG rfl rfl rfl rfl (fun h81 => ?_) (fun h81 => ?_) | refine seqGB rfl rfl rfl rfl (fun h81 => ?_) (fun h81 => ?_)
            rotate_left
            · skip
              refine seqU rfl rfl ?_
              refine seqU rfl rfl ?_
              refine seqU rfl rfl ?_
              refine seqQ rfl rfl (yPickF (v := .bool _) rfl rfl rfl) ?_
              refine seqQ rfl rfl (yMove (v := .bool false) rfl rfl) ?_
              refine seqU rfl rfl ?_
              refine seqQ rfl rfl (yPickF (v := .bool _) rfl rfl rfl) ?_
              refine seqQ rfl rfl (yAssign (v := .bool _) rfl rfl) ?_
              refine seqNil ?_
              refine hF14 _ _ ?_; clear hF14
              refine wpRet (fin1 (v := .bool _) rfl rfl ?_)
              exact ⟨by congr 1; grind [ValidP, OrderP], hx1⟩
            refine seqQ rfl rfl (yFieldAddr rfl Try.underlying25 rfl Try.sizeOf3 rfl rfl) ?_
            refine seqQ rfl rfl (yLoad rfl Try.underlying3 rfl rfl (hB1.cell rfl)) ?_
            -- e slot 84: call F34<farandole/farandoleref46.in> t83 [i:i64:1] [i:i64:2]
            refine seqE rfl rfl (stepCall rfl Try.call34 rfl ?_)
            refine (in_c p.label 1 2 _).mono ?_
            rintro v _ ⟨rfl, e⟩; obtain rfl := e.symm; clear e
            refine seqQ rfl rfl (yPickT (v := .bool _) rfl rfl rfl) ?_
            first | refine seqG rfl rfl rfl rfl (fun h86 => ?_) (fun h86 => ?_) | refine seqGB rfl rfl rfl rfl (fun h86 => ?_) (fun h86 => ?_)
            rotate_left
            · skip
              refine seqU rfl rfl ?_
              refine seqQ rfl rfl (yPickF (v := .bool _) rfl rfl rfl) ?_
              refine seqQ rfl rfl (yAssign (v := .bool _) rfl rfl) ?_
              refine seqNil ?_
              refine hF14 _ _ ?_; clear hF14
              refine wpRet (fin1 (v := .bool _) rfl rfl ?_)
              exact ⟨by congr 1; grind [ValidP, OrderP], hx1⟩
            refine seqQ rfl rfl (yMove (v := .bool _) rfl rfl) ?_
            refine seqQ rfl rfl (yPickT (v := .bool _) rfl rfl rfl) ?_
            refine seqQ rfl rfl (yAssign (v := .bool _) rfl rfl) ?_
            refine seqNil ?_
            refine hF14 _ _ ?_; clear hF14
            -- ret
            refine wpRet (fin1 (v := .bool _) rfl rfl ?_)
            exact ⟨by congr 1; grind [ValidP, OrderP], hx1⟩
          · skip
            rw [decide_eq_false k3]
            refine wpF rfl ?_
            refine wpRegion ?_
            refine seqQ rfl rfl (yEql rfl rfl rfl) ?_
            refine seqQ rfl rfl (yAssign (v := .bool _) rfl rfl) ?_
            refine seqNil ?_
            refine hF12 _ _ ?_; clear hF12
            -- if t65
            refine wpIf rfl (fun k4 => ?_) (fun k4 => ?_)
            · skip
              refine wpSeq fun F15 hF15 => ?_
              refine wpRegion ?_
              refine seqQ rfl rfl (yFieldAddr rfl Try.underlying25 rfl Try.sizeOf3 rfl rfl) ?_
              refine seqQ rfl rfl (yLoad rfl Try.underlying3 rfl rfl (hB1.cell rfl)) ?_
              -- e slot 70: call F34<farandole/farandoleref46.in> t69 [i:i64:0] [i:i64:5]
              refine seqE rfl rfl (stepCall rfl Try.call34 rfl ?_)
              refine (in_c p.src 0 5 _).mono ?_
              rintro v _ ⟨rfl, e⟩; obtain rfl := e.symm; clear e
              first | refine seqG rfl rfl rfl rfl (fun h71 => ?_) (fun h71 => ?_) | refine seqGB rfl rfl rfl rfl (fun h71 => ?_) (fun h71 => ?_)
              rotate_left
              · skip
                refine seqU rfl rfl ?_
                refine seqU rfl rfl ?_
                refine seqU rfl rfl ?_
                refine seqQ rfl rfl (yPickF (v := .bool _) rfl rfl rfl) ?_
                refine seqQ rfl rfl (yMove (v := .bool false) rfl rfl) ?_
                refine seqU rfl rfl ?_
                refine seqU rfl rfl ?_
                refine seqU rfl rfl ?_
                refine seqQ rfl rfl (yPickF (v := .bool _) rfl rfl rfl) ?_
                refine seqQ rfl rfl (yMove (v := .bool false) rfl rfl) ?_
                refine seqU rfl rfl ?_
                refine seqU rfl rfl ?_
                refine seqU rfl rfl ?_
                refine seqQ rfl rfl (yPickF (v := .bool _) rfl rfl rfl) ?_
                refine seqQ rfl rfl (yMove (v := .bool false) rfl rfl) ?_
                refine seqU rfl rfl ?_
                refine seqQ rfl rfl (yPickF (v := .bool _) rfl rfl rfl) ?_
                refine seqQ rfl rfl (yAssign (v := .bool _) rfl rfl) ?_
                refine seqNil ?_
                refine hF15 _ _ ?_; clear hF15
                refine wpRet (fin1 (v := .bool _) rfl rfl ?_)
                exact ⟨by congr 1; grind [ValidP, OrderP], hx1⟩
              refine seqQ rfl rfl (yFieldAddr rfl Try.underlying25 rfl Try.sizeOf3 rfl rfl) ?_
              refine seqQ rfl rfl (yLoad rfl Try.underlying3 rfl rfl (hB1.cell rfl)) ?_
              refine seqQ rfl rfl (yEql rfl rfl rfl) ?_
              refine seqQ rfl rfl (yPickT (v := .bool _) rfl rfl rfl) ?_
              first | refine seqG rfl rfl rfl rfl (fun h76 => ?_) (fun h76 => ?_) | refine seqGB rfl rfl rfl rfl (fun h76 => ?_) (fun h76 => ?_)
              rotate_left
              · skip
                refine seqU rfl rfl ?_
                refine seqU rfl rfl ?_
                refine seqU rfl rfl ?_
                refine seqQ rfl rfl (yPickF (v := .bool _) rfl rfl rfl) ?_
                refine seqQ rfl rfl (yMove (v := .bool false) rfl rfl) ?_
                refine seqU rfl rfl ?_
                refine seqU rfl rfl ?_
                refine seqU rfl rfl ?_
                refine seqQ rfl rfl (yPickF (v := .bool _) rfl rfl rfl) ?_
                refine seqQ rfl rfl (yMove (v := .bool false) rfl rfl) ?_
                refine seqU rfl rfl ?_
                refine seqQ rfl rfl (yPickF (v := .bool _) rfl rfl rfl) ?_
                refine seqQ rfl rfl (yAssign (v := .bool _) rfl rfl) ?_
                refine seqNil ?_
                refine hF15 _ _ ?_; clear hF15
                refine wpRet (fin1 (v := .bool _) rfl rfl ?_)
                exact ⟨by congr 1; grind [ValidP, OrderP], hx1⟩
              refine seqQ rfl rfl (yFieldAddr rfl Try.underlying25 rfl Try.sizeOf3 rfl rfl) ?_
              refine seqQ rfl rfl (yLoad rfl Try.underlying3 rfl rfl (hB1.cell rfl)) ?_
              refine seqQ rfl rfl (yEql rfl rfl rfl) ?_
              refine seqQ rfl rfl (yPickT (v := .bool _) rfl rfl rfl) ?_
              first | refine seqG rfl rfl rfl rfl (fun h81 => ?_) (fun h81 => ?_) | refine seqGB rfl rfl rfl rfl (fun h81 => ?_) (fun h81 => ?_)
              rotate_left
              · skip
                refine seqU rfl rfl ?_
                refine seqU rfl rfl ?_
                refine seqU rfl rfl ?_
                refine seqQ rfl rfl (yPickF (v := .bool _) rfl rfl rfl) ?_
                refine seqQ rfl rfl (yMove (v := .bool false) rfl rfl) ?_
                refine seqU rfl rfl ?_
                refine seqQ rfl rfl (yPickF (v := .bool _) rfl rfl rfl) ?_
                refine seqQ rfl rfl (yAssign (v := .bool _) rfl rfl) ?_
                refine seqNil ?_
                refine hF15 _ _ ?_; clear hF15
                refine wpRet (fin1 (v := .bool _) rfl rfl ?_)
                exact ⟨by congr 1; grind [ValidP, OrderP], hx1⟩
              refine seqQ rfl rfl (yFieldAddr rfl Try.underlying25 rfl Try.sizeOf3 rfl rfl) ?_
              refine seqQ rfl rfl (yLoad rfl Try.underlying3 rfl rfl (hB1.cell rfl)) ?_
              -- e slot 84: call F34<farandole/farandoleref46.in> t83 [i:i64:1] [i:i64:2]
              refine seqE rfl rfl (stepCall rfl Try.call34 rfl ?_)
              refine (in_c p.label 1 2 _).mono ?_
              rintro v _ ⟨rfl, e⟩; obtain rfl := e.symm; clear e
              refine seqQ rfl rfl (yPickT (v := .bool _) rfl rfl rfl) ?_
              first | refine seqG rfl rfl rfl rfl (fun h86 => ?_) (fun h86 => ?_) | refine seqGB rfl rfl rfl rfl (fun h86 => ?_) (fun h86 => ?_)
              rotate_left
              · skip
                refine seqU rfl rfl ?_
                refine seqQ rfl rfl (yPickF (v := .bool _) rfl rfl rfl) ?_
                refine seqQ rfl rfl (yAssign (v := .bool _) rfl rfl) ?_
                refine seqNil ?_
                refine hF15 _ _ ?_; clear hF15
                refine wpRet (fin1 (v := .bool _) rfl rfl ?_)
                exact ⟨by congr 1; grind [ValidP, OrderP], hx1⟩
              refine seqQ rfl rfl (yMove (v := .bool _) rfl rfl) ?_
              refine seqQ rfl rfl (yPickT (v := .bool _) rfl rfl rfl) ?_
              refine seqQ rfl rfl (yAssign (v := .bool _) rfl rfl) ?_
              refine seqNil ?_
              refine hF15 _ _ ?_; clear hF15
              -- ret
              refine wpRet (fin1 (v := .bool _) rfl rfl ?_)
              exact ⟨by congr 1; grind [ValidP, OrderP], hx1⟩
            · skip
              refine wpSkip ?_
              refine hF6 _ _ ?_; clear hF6
              refine wpSeq fun F16 hF16 => ?_
              refine wpRegion ?_
              refine seqQ rfl rfl (yAssign (v := .bool _) rfl rfl) ?_
              refine seqNil ?_
              refine hF16 _ _ ?_; clear hF16
              -- ret
              refine wpRet (fin1 (v := .bool _) rfl rfl ?_)
              exact ⟨by congr 1; grind [ValidP], hx1⟩
    · skip
      refine wpRegion ?_
      refine seqQ rfl rfl (yFieldAddr rfl Try.underlying25 rfl Try.sizeOf3 rfl rfl) ?_
      refine seqQ rfl rfl (yLoad rfl Try.underlying3 rfl rfl (hB1.cell rfl)) ?_
      refine seqQ rfl rfl (yEql rfl rfl rfl) ?_
      first | refine seqG rfl rfl rfl rfl (fun h11 => ?_) (fun h11 => ?_) | refine seqGB rfl rfl rfl rfl (fun h11 => ?_) (fun h11 => ?_)
      rotate_left
      · skip
        refine seqU rfl rfl ?_
        refine seqU rfl rfl ?_
        refine seqU rfl rfl ?_
        refine seqU rfl rfl ?_
        refine seqQ rfl rfl (yPickF (v := .bool _) rfl rfl rfl) ?_
        refine seqQ rfl rfl (yMove (v := .bool false) rfl rfl) ?_
        refine seqU rfl rfl ?_
        refine seqU rfl rfl ?_
        refine seqU rfl rfl ?_
        refine seqU rfl rfl ?_
        refine seqQ rfl rfl (yPickF (v := .bool _) rfl rfl rfl) ?_
        refine seqQ rfl rfl (yAssign (v := .bool _) rfl rfl) ?_
        refine seqNil ?_
        exact hC () _ _ (by repeat (first | (with_reducible exact Agree.refl _ _) | refine Agree.upd ?_ rfl | refine Agree.over ?_ rfl)) ⟨by show Value.bool _ = Value.bool _; congr 1; grind [BareP], trivial⟩ rfl
      refine seqQ rfl rfl (yFieldAddr rfl Try.underlying25 rfl Try.sizeOf22 rfl rfl) ?_
      refine seqQ rfl rfl (yLoad rfl Try.underlying22 rfl rfl (hB1.cell rfl)) ?_
      refine seqQ rfl rfl (yLen rfl Try.underlying22 rfl) ?_
      refine seqQ rfl rfl (yEql rfl rfl rfl) ?_
      refine seqQ rfl rfl (yPickT (v := .bool _) rfl rfl rfl) ?_
      first | refine seqG rfl rfl rfl rfl (fun h17 => ?_) (fun h17 => ?_) | refine seqGB rfl rfl rfl rfl (fun h17 => ?_) (fun h17 => ?_)
      rotate_left
      · skip
        refine seqU rfl rfl ?_
        refine seqU rfl rfl ?_
        refine seqU rfl rfl ?_
        refine seqU rfl rfl ?_
        refine seqQ rfl rfl (yPickF (v := .bool _) rfl rfl rfl) ?_
        refine seqQ rfl rfl (yAssign (v := .bool _) rfl rfl) ?_
        refine seqNil ?_
        exact hC () _ _ (by repeat (first | (with_reducible exact Agree.refl _ _) | refine Agree.upd ?_ rfl | refine Agree.over ?_ rfl)) ⟨by show Value.bool _ = Value.bool _; congr 1; grind [BareP], trivial⟩ rfl
      refine seqQ rfl rfl (yFieldAddr rfl Try.underlying25 rfl Try.sizeOf23 rfl rfl) ?_
      refine seqQ rfl rfl (yLoad rfl Try.underlying23 rfl rfl (hB1.cell rfl)) ?_
      refine seqQ rfl rfl (yLen rfl Try.underlying23 rfl) ?_
      refine seqQ rfl rfl (yEql rfl rfl rfl) ?_
      refine seqQ rfl rfl (yPickT (v := .bool _) rfl rfl rfl) ?_
      refine seqQ rfl rfl (yAssign (v := .bool _) rfl rfl) ?_
      refine seqNil ?_
      -- end cut
      exact hC () _ _ (by repeat (first | (with_reducible exact Agree.refl _ _) | refine Agree.upd ?_ rfl | refine Agree.over ?_ rfl)) ⟨by show Value.bool _ = Value.bool _; congr 1; grind [BareP], trivial⟩ rfl

end Go.Proofs.Ytohjmobnnjjekaa
