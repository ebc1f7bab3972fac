/- LogChanged: if an entry of a clock of a conversation of up to 16 steps is changed, the clocks are not right any more. Conditions: none beyond the statement's. -/
import Derived.Test.YtbanngdijmglbaaN8
namespace Go.Proofs.Ytbanngdijmglbaa
open Go.ChangeShapes Go.WideShapes Go.ChangeAt Go.RowKit Go.Deep

set_option maxRecDepth 100000 in
theorem CM.sms2 {X : List Nat} {gL g6 g7 b : Nat} {ws : List Value} {lhs : List LH} {hs : List Hdr} {c : Conv} {H : Heap} (cm : CM X gL g6 g7 b ws lhs hs c H) (ci : ConvI c) : LogsSm lhs := ⟨by rw [cm.l4]; decide, fun L hL => by
  obtain ⟨r, hr, rfl⟩ := List.getElem_of_mem hL
  have h1 := entsL_get hr
  rw [cm.lmap] at h1
  exact ci.sm (r := r) (by rw [← cm.l4]; exact hr) h1.symm⟩
set_option maxRecDepth 100000 in
theorem changed_walk (l : List Act) (A : Option Addr) (ca : Nat) (at_ : Nat) (by_ : Int) (H : Heap) (h : Rd eAct H A l) (ha : at_ ≤ 65535) (hb : -128 ≤ by_ ∧ by_ ≤ 127) :
    CallsH Try.prog 8 [.slice A l.length ca, .int .u16 at_, .int .i8 by_] H fun v H' => v = .bool true ∧ Ext H H' := by
  refine callsH_of Try.func8 rfl Try.ntmps8 (Nat.le_of_ble_eq_true rfl) ?_
  refine wpSeq fun F1 hF1 => ?_
  refine wpRegion ?_
  refine seqQ rfl rfl (yAssign (v := .bool _) rfl rfl) ?_
  refine seqNil ?_
  refine hF1 _ _ ?_; clear hF1
  refine wpSeq fun F2 hF2 => ?_
  refine wpSeq fun F3 hF3 => ?_
  refine wpRegion ?_
  -- e slot 13: call F10<farandole/farandolelaw57.awake> 
  refine seqE rfl rfl (stepCall rfl Try.call10 rfl ?_)
  refine (logAwake_c _).mono ?_
  rintro v Ha ⟨rfl, xa⟩
  refine seqQ rfl rfl (yNot rfl rfl) ?_
  refine seqQ rfl rfl (yMove (v := .bool false) rfl rfl) ?_
  refine seqQ rfl rfl (yMove (v := .slice _ _ _) rfl rfl) ?_
  refine seqQ rfl rfl (yLen rfl Try.underlying65 rfl) ?_
  refine seqQ rfl rfl (yGtr rfl rfl rfl) ?_
  refine seqQ rfl rfl (yPickF (v := .bool _) rfl rfl rfl) ?_
  -- guard t20
  refine seqG rfl rfl rfl rfl (fun hgt => ?_) (fun hgt => ?_)
  · skip
    refine seqU rfl rfl ?_
    refine seqU rfl rfl ?_
    refine seqQ rfl rfl (yPickT (v := .bool _) rfl rfl rfl) ?_
    refine seqNil ?_
    refine hF3 _ _ ?_; clear hF3
    -- if t23
    refine wpT rfl ?_
    refine wpSeq fun F4 hF4 => ?_
    refine wpRegion ?_
    -- e slot 24: call F10<farandole/farandolelaw57.awake> 
    refine seqE rfl rfl (stepCall rfl Try.call10 rfl ?_)
    refine (logAwake_c _).mono ?_
    rintro v Hz ⟨rfl, xz⟩
    refine seqQ rfl rfl (yAssign (v := .bool _) rfl rfl) ?_
    refine seqNil ?_
    refine hF4 _ _ ?_; clear hF4
    -- ret
    refine wpRet (fin1 (v := .bool _) rfl rfl ?_)
    exact ⟨rfl, xa.trans xz⟩
  · skip
    refine seqQ rfl rfl (yMove (v := .int _ _) rfl rfl) ?_
    refine seqQ rfl rfl (yEql rfl rfl rfl) ?_
    refine seqQ rfl rfl (yPickF (v := .bool _) rfl rfl rfl) ?_
    refine seqNil ?_
    refine hF3 _ _ ?_; clear hF3
    -- if t23
    refine wpIf rfl (fun hb0 => ?_) (fun hb0 => ?_)
    · skip
      refine wpSeq fun F5 hF5 => ?_
      refine wpRegion ?_
      -- e slot 24: call F10<farandole/farandolelaw57.awake> 
      refine seqE rfl rfl (stepCall rfl Try.call10 rfl ?_)
      refine (logAwake_c _).mono ?_
      rintro v Hz ⟨rfl, xz⟩
      refine seqQ rfl rfl (yAssign (v := .bool _) rfl rfl) ?_
      refine seqNil ?_
      refine hF5 _ _ ?_; clear hF5
      -- ret
      refine wpRet (fin1 (v := .bool _) rfl rfl ?_)
      exact ⟨rfl, xa.trans xz⟩
    · skip
      refine wpSkip ?_
      refine hF2 _ _ ?_; clear hF2
      refine wpSeq fun F6 hF6 => ?_
      refine wpRegion ?_
      refine seqQ rfl rfl (yMove (v := .slice _ _ _) rfl rfl) ?_
      -- e slot 27: call F28<farandole/farandolelaw57.record> t26
      refine seqE rfl rfl (stepCall rfl Try.call28 rfl ?_)
      refine (record_c l A ca Ha (h.ext xa) (by omega)).mono ?_
      rintro v Hb ⟨gL, g6, g7, b, ⟨i0, vo, vb, ws, lhs, hs, c⟩, rfl, hgL, hi, hn, ci, cm, hvo, hvb, hE, -⟩
      dsimp only at hi hn ci cm hvo hvb
      replace hE := xa.trans hE
      obtain ⟨OA, oc, rfl, -⟩ := (cm.ord vo hvo).form
      obtain ⟨BA, bc, rfl, -⟩ := (cm.bef vb hvb).form
      have hn16 : c.n ≤ 16 := by omega
      have hcn : c.n = c.order.length := rfl
      refine seqQ rfl rfl (yMove (v := .tuple _) rfl rfl) ?_
      refine seqQ rfl rfl (yExtract (v := .slice _ _ _) rfl rfl rfl) ?_
      refine seqQ rfl rfl (yExtract (v := .slice _ _ _) rfl rfl rfl) ?_
      refine seqQ rfl rfl (yExtract (v := .slice _ _ _) rfl rfl rfl) ?_
      refine seqQ rfl rfl (yExtract (v := .bool _) rfl rfl rfl) ?_
      refine seqQ rfl rfl (yAssign (v := .slice _ _ _) rfl rfl) ?_
      refine seqQ rfl rfl (yAssign (v := .slice _ _ _) rfl rfl) ?_
      refine seqQ rfl rfl (yAssign (v := .slice _ _ _) rfl rfl) ?_
      refine seqQ rfl rfl (yAssign (v := .bool _) rfl rfl) ?_
      refine seqNil ?_
      refine hF6 _ _ ?_; clear hF6
      refine wpSeq fun F7 hF7 => ?_
      refine wpSeq fun F8 hF8 => ?_
      refine wpRegion ?_
      refine seqQ rfl rfl (yMove (v := .bool _) rfl rfl) ?_
      refine seqQ rfl rfl (yNot rfl rfl) ?_
      refine seqQ rfl rfl (yMove (v := .bool false) rfl rfl) ?_
      refine seqQ rfl rfl (yMove (v := .slice _ _ _) rfl rfl) ?_
      refine seqQ rfl rfl (yLen rfl Try.underlying55 rfl) ?_
      refine seqQ rfl rfl (yEql rfl rfl rfl) ?_
      refine seqQ rfl rfl (yPickF (v := .bool _) rfl rfl rfl) ?_
      refine seqNil ?_
      refine hF8 _ _ ?_; clear hF8
      -- if t38
      refine wpIf rfl (fun hno => ?_) (fun hno => ?_)
      · skip
        refine wpSeq fun F9 hF9 => ?_
        refine wpRegion ?_
        refine seqQ rfl rfl (yMove (v := .bool _) rfl rfl) ?_
        refine seqQ rfl rfl (yAssign (v := .bool _) rfl rfl) ?_
        refine seqNil ?_
        refine hF9 _ _ ?_; clear hF9
        -- ret
        refine wpRet (fin1 (v := .bool _) rfl rfl ?_)
        exact ⟨rfl, hE⟩
      · skip
        have hnp : 0 < c.n := by omega
        obtain ⟨k, hk⟩ : ∃ k, k = at_ / 4 % c.order.length := ⟨_, rfl⟩
        have hkn : k < c.n := by rw [hk]; exact Nat.mod_lt _ hnp
        obtain ⟨qo, L, q, y, eqo, hr, hx, r4, hL1, hL2, hlg, hyl, hy1, eq, hq, hye, hyc, hL3⟩ := cm.entry ci hvo hkn
        have hko : k < c.order.length := hkn
        have e1 : (c.order[k]).1 = c.rl k := congrArg Prod.fst (getD_lt (z := (0, 0)) hko).symm
        have e2 : (c.order[k]).2 = c.ix k := congrArg Prod.snd (getD_lt (z := (0, 0)) hko).symm
        obtain ⟨qp, eqp, hqp⟩ := (Own.rd (cm.ord _ hvo)).2.at hko
        rw [show c.order[k] = (c.rl k, c.ix k) from Prod.ext e1 e2] at hqp
        have hmod : ((at_ / 4 : Nat) : Int) % (c.order.length : Int) = ((at_ / 4 % c.order.length : Nat) : Int) := (Int.natCast_emod _ _).symm
        have y4 : y.clk.length = 4 := by rw [hyc]; exact ci.inv.cklen k hkn
        refine wpSkip ?_
        refine hF7 _ _ ?_; clear hF7
        refine wpSeq fun F10 hF10 => ?_
        refine wpRegion ?_
        refine seqQ rfl rfl (yMove (v := .slice _ _ _) rfl rfl) ?_
        refine seqQ rfl rfl (yMove (v := .int _ _) rfl rfl) ?_
        refine seqQ rfl rfl (yQuoK (c := ((at_ / 4 : Nat) : Int)) rfl rfl rfl (by omega) (by rw [IntKind.wrap_u16]; omega)) ?_
        refine seqQ rfl rfl (yConv rfl Try.underlying76 Try.underlying3 rfl (show IntKind.i64.wrap ((at_ / 4 : Nat) : Int) = ((at_ / 4 : Nat) : Int) by rw [IntKind.wrap_i64]; omega)) ?_
        refine seqQ rfl rfl (yMove (v := .slice _ _ _) rfl rfl) ?_
        refine seqQ rfl rfl (yLen rfl Try.underlying55 rfl) ?_
        refine seqQ rfl rfl (yRemK (c := (k : Int)) rfl rfl rfl (by omega) (by rw [hmod, hk])) ?_
        refine seqQ rfl rfl (yIdxP rfl Try.underlying55 Try.sizeOf64 rfl rfl eqp rfl hko) ?_
        refine seqQ rfl rfl (yLoadC (cs := ePl.F (c.rl k, c.ix k)) rfl Try.underlying64 rfl Try.sizeOf64 rfl hqp) ?_
        refine seqN rfl rfl (nAlloc rfl Try.zeroValue64 rfl) (fun g11 H11 hx11 hB11 hg11 hl11 => ?_)
        -- e slot None: store T64 t11 t48
        refine seqE0 rfl rfl (stepStoreB rfl (by kernel_rfl) rfl rfl rfl hB11 rfl ?_)
        intro Hc h11 hK11
        have hxc : Ext Hb Hc := hx11.mine hK11 (by simp; omega)
        clear hB11 hK11 hx11 hqp
        replace hE := hE.trans hxc
        replace cm := cm.ext hxc
        replace hlg := hxc.cell hlg
        replace hye := hye.ext hxc
        have hzb := hxc.size
        refine seqNil ?_
        refine hF10 _ _ ?_; clear hF10
        refine wpSeq fun F11 hF11 => ?_
        refine wpRegionD Try_mixed [.n, .q, .q, .q, .q, .q, .q, .q, .q, .q, .q, .e, .q] 11 [0, 0, 0, 4, 14, 30, 0, 64, 254, 510, 1022, 2047, 4095] [] (by kernel_rfl) _ rfl [0, 1, 2, 3, 4, 5, 6, 7, 8, 9, 10] rfl (by simp) ?_
        refine lexNB rfl rfl rfl rfl (nBuildSlice (vs := []) rfl Try.underlying44 Try.sizeOf3 Try.zeroValue3 rfl rfl rfl rfl) (fun g49 hg49 hne49 => ?_)
        refine lexQ rfl rfl rfl rfl (fun H hM => (yMove (v := .slice _ _ _) rfl rfl)) ?_
        refine lexQ rfl rfl rfl rfl (fun H hM => (yFieldAddr rfl Try.underlying64 rfl Try.sizeOf3 rfl rfl)) ?_
        refine lexQ rfl rfl rfl rfl (fun H hM => (yLoad rfl Try.underlying3 rfl rfl (hM.ext.cell (show cellH Hc ((⟨g11, 0, none⟩ : Addr).add 0) = some (.int .i64 (c.rl k : Nat)) from h11.cell (j := 0) rfl)))) ?_
        refine lexQ rfl rfl rfl rfl (fun H hM => (yIdx1 rfl Try.underlying36 Try.sizeOf35 rfl rfl rfl r4)) ?_
        refine lexQ rfl rfl rfl rfl (fun H hM => (yLoad rfl Try.underlying35 rfl rfl (hM.ext.cell (show cellH Hc _ = some (.slice L.A L.l.length L.c) from hlg)))) ?_
        refine lexQ rfl rfl rfl rfl (fun H hM => (yFieldAddr rfl Try.underlying64 rfl Try.sizeOf3 rfl rfl)) ?_
        refine lexQ rfl rfl rfl rfl (fun H hM => (yLoad rfl Try.underlying3 rfl rfl (hM.ext.cell (show cellH Hc ((⟨g11, 0, none⟩ : Addr).add 1) = some (.int .i64 (c.ix k : Nat)) from h11.cell (j := 1) rfl)))) ?_
        refine lexQ rfl rfl rfl rfl (fun H hM => (yIdxP rfl Try.underlying35 Try.sizeOf72 rfl rfl eq rfl hyl)) ?_
        refine lexQ rfl rfl rfl rfl (fun H hM => (yFieldAddr rfl Try.underlying72 rfl Try.sizeOf44 rfl rfl)) ?_
        refine lexQ rfl rfl rfl rfl (fun H hM => (yLoad rfl Try.underlying44 rfl rfl (hM.ext.cell (hxc.cell (hq 5 _ rfl))))) ?_
        -- tail
        refine lexNil (fun Hf hXf hMf hNf => ?_)
        have b49 := NF.blk 0 hNf (.head _)
        -- e slot 60: builtin append t49 t59 : [44, 44]
        refine seqE rfl rfl (stepApp (c := eInt) (Own.lit (c := eInt) (l := []) (base := Hc.size) b49 hg49 (by simp)) rfl Try.underlying44 elem_eInt rfl (by omega) rfl rfl rfl (hye.ext hXf) (by simp; omega) hXf.size ?_)
        intro v1 Hd od gd
        rw [List.nil_append] at od
        obtain ⟨CA, cc, rfl, -⟩ := od.form
        have hxd : Ext Hc Hd := gd.ext hXf (by rintro g e; obtain rfl := Option.some.inj e; exact hg49)
        clear gd b49
        obtain ⟨aN, haN⟩ : ∃ a, a = at_ % 4 := ⟨_, rfl⟩
        have ha4 : aN < y.clk.length := by omega
        obtain ⟨pc, epc, hpc⟩ := (Own.rd od).2.at1 ha4
        subst epc
        have hpcl := od.lt pc.block rfl
        have hrng := ci.inv.ckpos k aN hkn (by omega)
        rw [← hyc, getD_lt ha4] at hrng
        have hlena := ci.len_le (r := aN) (by omega)
        refine seqQ rfl rfl (yAssign (v := .slice _ _ _) rfl rfl) ?_
        refine seqNil ?_
        refine hF11 _ _ ?_; clear hF11
        refine wpSeq fun F12 hF12 => ?_
        refine wpRegion ?_
        refine seqQ rfl rfl (yMove (v := .slice _ _ _) rfl rfl) ?_
        refine seqQ rfl rfl (yMove (v := .int _ _) rfl rfl) ?_
        refine seqQ rfl rfl (yRemK (c := (aN : Int)) rfl rfl rfl (by omega) (by omega)) ?_
        refine seqQ rfl rfl (yIdx1 rfl Try.underlying44 Try.sizeOf3 rfl rfl rfl ha4) ?_
        refine seqQ rfl rfl (yLoad rfl Try.underlying3 rfl rfl hpc) ?_
        refine seqQ rfl rfl (yMove (v := .int _ _) rfl rfl) ?_
        refine seqQ rfl rfl (yConv rfl Try.underlying77 Try.underlying3 rfl (show IntKind.i64.wrap by_ = by_ by rw [IntKind.wrap_i64]; omega)) ?_
        refine seqQ rfl rfl (yAdd rfl rfl rfl (by unfold In64; omega)) ?_
        refine seqQ rfl rfl (yIdx1 rfl Try.underlying44 Try.sizeOf3 rfl rfl rfl ha4) ?_
        -- e slot None: store T3 t69 t68
        refine seqE0 rfl rfl (stepStoreOwn (z := (y.clk[aN] + by_)) od rfl Try.sizeOf3 rfl rfl rfl rfl ha4 ?_)
        intro He oe hKe
        have hxe : Ext Hc He := hxd.mine hKe (by simp; omega)
        obtain ⟨clk', hclk⟩ : ∃ v, v = y.clk.set aN (y.clk[aN] + by_) := ⟨_, rfl⟩
        rw [← hclk] at oe
        have hcl : clk'.length = y.clk.length := by rw [hclk, List.length_set]
        have hcne : clk' ≠ y.clk := fun e => by
          have : clk'.getD aN 0 = y.clk.getD aN 0 := by rw [e]
          rw [hclk, getD_setG ha4, if_pos rfl, getD_lt ha4] at this
          omega
        have cme := cm.ext hxe
        have lgL := cme.lg L hL2
        have ownL : Own eEH 72 He b (.slice (some q) L.l.length L.c) L.l := by have := lgL.own; unfold slL at this; rw [eq] at this; exact this
        have hqlt := (cm.lg L hL2).own.lt q.block (by unfold slL; rw [eq]; rfl)
        have hqT := lgL.out q.block (by unfold slL; rw [eq]; rfl)
        refine seqNil ?_
        refine hF12 _ _ ?_; clear hF12
        refine wpSeq fun F13 hF13 => ?_
        refine wpRegionD Try_mixed [.q, .q, .q, .q, .q, .q, .q, .q, .q, .q, .e] 8 [0, 0, 2, 7, 15, 0, 32, 0, 255, 511, 1023] [] (by kernel_rfl) _ rfl [0, 1, 2, 3, 4, 5, 6, 7] rfl (by simp) ?_
        refine lexQ rfl rfl rfl rfl (fun H hM => (yMove (v := .slice _ _ _) rfl rfl)) ?_
        refine lexQ rfl rfl rfl rfl (fun H hM => (yFieldAddr rfl Try.underlying64 rfl Try.sizeOf3 rfl rfl)) ?_
        refine lexQ rfl rfl rfl rfl (fun H hM => (yLoad rfl Try.underlying3 rfl rfl (hM.ext.cell (show cellH He ((⟨g11, 0, none⟩ : Addr).add 0) = some (.int .i64 (c.rl k : Nat)) from hxe.cell (h11.cell (j := 0) rfl))))) ?_
        refine lexQ rfl rfl rfl rfl (fun H hM => (yIdx1 rfl Try.underlying36 Try.sizeOf35 rfl rfl rfl r4)) ?_
        refine lexQ rfl rfl rfl rfl (fun H hM => (yLoad rfl Try.underlying35 rfl rfl (hM.ext.cell (show cellH He _ = some (.slice L.A L.l.length L.c) from hxe.cell hlg)))) ?_
        refine lexQ rfl rfl rfl rfl (fun H hM => (yFieldAddr rfl Try.underlying64 rfl Try.sizeOf3 rfl rfl)) ?_
        refine lexQ rfl rfl rfl rfl (fun H hM => (yLoad rfl Try.underlying3 rfl rfl (hM.ext.cell (show cellH He ((⟨g11, 0, none⟩ : Addr).add 1) = some (.int .i64 (c.ix k : Nat)) from hxe.cell (h11.cell (j := 1) rfl))))) ?_
        refine lexQ rfl rfl rfl rfl (fun H hM => (yMove (v := .slice _ _ _) rfl rfl)) ?_
        -- tail
        refine lexNil0 rfl (fun hM => ?_)
        refine seqQ rfl rfl (yIdxP rfl Try.underlying35 Try.sizeOf72 rfl rfl eq rfl hyl) ?_
        refine seqQ rfl rfl (yFieldAddr rfl Try.underlying72 rfl Try.sizeOf44 rfl rfl) ?_
        -- e slot None: store T44 t79 t77
        refine seqE0 rfl rfl (stepStoreElt (c := eEH) (j := 5) (⟨y.ev, y.VA, y.vc, clk', some pc, cc⟩ : EH) ownL rfl Try.sizeOf44 rfl rfl rfl rfl hyl (by decide) (by rw [show L.l[c.ix k] = y from (List.getElem?_eq_some_iff.1 hy1).2]; show ehF _ = (ehF y).set 5 _; simp only [ehF, hcl]; rfl) ?_)
        intro Hg og hKg
        have hEg : Ext H Hg := (hE.trans hxe).mine hKg (by have := cm.o1; have := cm.o2; have := cm.o3; have := xa.size; simp; omega)
        have oL := cme.logs.keep hKg (fun g e hm => by rw [show g = gL from (Option.some.inj e).symm, List.mem_singleton] at hm; exact hqT (by simp [← hm]))
        have hNL : (⟨L.A, L.c, L.l.set (c.ix k) ⟨y.ev, y.VA, y.vc, clk', some pc, cc⟩⟩ : LH).l.length = L.l.length := List.length_set
        obtain ⟨N, hN⟩ : ∃ N : LH, N = ⟨L.A, L.c, L.l.set (c.ix k) ⟨y.ev, y.VA, y.vc, clk', some pc, cc⟩⟩ := ⟨_, rfl⟩
        have hNf : eLH.F N = eLH.F L := by rw [hN]; show [Value.slice _ _ _] = [Value.slice _ _ _]; rw [hNL]
        have yv : y.ev.values = [] := by
          have hm : y.ent ∈ c.L (c.rl k) := by rw [← hL3]; exact List.mem_map_of_mem (List.mem_of_getElem? hy1)
          exact (ci.lab _ r4 _ hm).2
        have hq9 : ∀ {K : LH}, K ∈ lhs → ∀ x ∈ K.l, x.ev.values = [] := fun {K} hK x hx => by
          obtain ⟨q2, hq2, rfl⟩ := List.getElem_of_mem hK
          have h1 := entsL_get hq2
          rw [cm.lmap] at h1
          refine (ci.lab q2 (by rw [← cm.l4]; exact hq2) x.ent ?_).2
          show x.ent ∈ c.logs.getD q2 []
          rw [h1]
          exact List.mem_map_of_mem hx
        have slq : (slL L).ownBlock = some q.block := by unfold slL; rw [eq]; rfl
        have clk_rd : ∀ {q2 : Nat} {K : LH}, lhs[q2]? = some K → ∀ x ∈ K.l, Rd eInt Hg x.CA x.clk := fun {q2 K} hK x hx hne => by
          obtain ⟨p, e, hc⟩ := ((cme.lg K (List.mem_of_getElem? hK)).clk x hx).rd hne
          have hp2 := (cm.pr (c.rl k) q2 L K hL1 hK).2 x hx hne p e
          exact ⟨p, e, fun j u hu => hKg.cell (hc j u hu) (by rw [block_of_add, List.mem_singleton]; intro e3; exact hp2 (by rw [slq, e3]))⟩
        have rdS : LogsRd Hg (some ⟨gL, 0, none⟩) (lhs.set (c.rl k) N) := by
          refine ⟨fun _ => ?_, fun K hK => ?_⟩
          · obtain ⟨p, e, hc⟩ := (Own.rd oL).2 (by rintro rfl; cases hL1)
            refine ⟨p, e, fun j u hu => hc j u ?_⟩
            rw [← hu]
            congr 1
            have hset : ∀ (ls : List LH) (r : Nat), ls[r]? = some L → (ls.set r N).flatMap eLH.F = ls.flatMap eLH.F := by
              intro ls
              induction ls with
              | nil => intro r hr; cases hr
              | cons K ls ih =>
                intro r hr
                cases r with
                | zero =>
                  obtain rfl := Option.some.inj hr
                  rw [List.set_cons_zero, List.flatMap_cons, List.flatMap_cons, hNf]
                | succ r => rw [List.set_cons_succ, List.flatMap_cons, List.flatMap_cons, ih r hr]
            exact (hset lhs _ hL1).symm
          · obtain ⟨q2, hq2⟩ := List.mem_iff_getElem?.1 hK
            rw [List.getElem?_set] at hq2
            by_cases e3 : c.rl k = q2
            · rw [if_pos e3, if_pos (List.getElem?_eq_some_iff.1 hL1).1] at hq2
              obtain rfl := Option.some.inj hq2
              have hog : LogRd Hg (some q) (L.l.set (c.ix k) ⟨y.ev, y.VA, y.vc, clk', some pc, cc⟩) := ⟨(Own.rd og).2, fun x hx => by
                rcases List.mem_or_eq_of_mem_set hx with hx | rfl
                · exact ⟨by rw [hq9 hL2 x hx]; exact Rd.nil _ _, clk_rd hL1 x hx⟩
                · exact ⟨by dsimp only; rw [yv]; exact Rd.nil _ _, (Own.rd (oe.keep hKg (fun g e hm => by rw [List.mem_singleton] at hm; have := (od.lt g e).1; omega))).2⟩⟩
              rw [hN]
              dsimp only
              rw [eq]
              exact hog
            · rw [if_neg e3] at hq2
              have lgK := cme.lg K (List.mem_of_getElem? hq2)
              have hap := (cm.pr (c.rl k) q2 L K hL1 hq2).1 e3
              have oK := lgK.own.keep hKg (fun g e hm => by rw [List.mem_singleton] at hm; exact hap q.block slq (by rw [← hm]; exact e))
              exact ⟨(Own.rd oK).2, fun x hx => ⟨by rw [hq9 (List.mem_of_getElem? hq2) x hx]; exact Rd.nil _ _, clk_rd hq2 x hx⟩⟩
        have smS : LogsSm (lhs.set (c.rl k) N) := ⟨by rw [List.length_set, cm.l4]; decide, fun K hK => by
          have sm := (cm.sms2 ci).2
          rcases List.mem_or_eq_of_mem_set hK with hK | rfl
          · exact sm K hK
          · rw [hN]
            refine ⟨by rw [hNL]; exact (sm L hL2).1, fun x hx => ?_⟩
            rcases List.mem_or_eq_of_mem_set hx with hx | rfl
            · exact (sm L hL2).2 x hx
            · dsimp only
              rw [yv, hcl, y4]
              decide⟩
        have hents : entsL (lhs.set (c.rl k) N) = c.logs.set (c.rl k) ((c.L (c.rl k)).set (c.ix k) ⟨y.ev, clk'⟩) := by
          unfold entsL
          rw [List.map_set, ← cm.lmap, ← hL3]
          congr 1
          rw [hN]
          show (L.l.set _ _).map EH.ent = _
          rw [List.map_set]
          rfl
        have hye2 : (c.L (c.rl k)).getD (c.ix k) ent0 = y.ent := by rw [← hL3, getD_ent _ hyl, (List.getElem?_eq_some_iff.1 hy1).2]
        have hnot := ci.changed r4 (ci.inv.role k hkn).2 (e := ⟨y.ev, clk'⟩) (by rw [hye2]; rfl) (by rw [hye2]; exact hcne)
        have hR := right_c (lhs.set (c.rl k) N) (some ⟨gL, 0, none⟩) 4 Hg rdS smS
        rw [List.length_set, cm.l4, hents, decide_eq_false hnot] at hR
        refine seqNil ?_
        refine hF13 _ _ ?_; clear hF13
        refine wpSeq fun F14 hF14 => ?_
        refine wpRegion ?_
        refine seqQ rfl rfl (yMove (v := .slice _ _ _) rfl rfl) ?_
        -- e slot 81: call F26<farandole/log.Right> t80
        refine seqE rfl rfl (stepCall rfl Try.call26 rfl ?_)
        refine hR.mono ?_
        rintro v Hz ⟨rfl, xz⟩
        refine seqQ rfl rfl (yNot rfl rfl) ?_
        refine seqQ rfl rfl (yAssign (v := .bool _) rfl rfl) ?_
        refine seqNil ?_
        refine hF14 _ _ ?_; clear hF14
        -- ret
        refine wpRet (fin1 (v := .bool _) rfl rfl ?_)
        exact ⟨rfl, hEg.trans xz⟩
set_option maxRecDepth 100000 in
set_option maxRecDepth 100000 in
theorem logChanged_lifted (os : Os) (started : os.Started) (H : Type) (enc : TypeId × Value → H) :
    ReturnsInHanded {} Try.checked os 8 .any (Rows.logChangedSpec.pre6 enc Try.prog Try.f8 Rows.logChangedRow.domain false) (Rows.logChangedSpec.post enc Try.prog Try.f8 false true false false) := by
  refine law_lifted started Rows.logChangedSpec rfl (by kernel_rfl) Try.func8 rfl
    (fun ds h => by match ds, h with | [_, _, _], _ => rfl) (of_decide_eq_true (by kernel_rfl))
    (ChangeSpec.witness6 (enc := enc) (C := Try.checked) false ⟨#[], #[.slice none 0 0, .int .u16 0, .int .i8 0], []⟩ 8 (by kernel_rfl) (by kernel_rfl) (by kernel_rfl) (by kernel_rfl)) ?_
  intro W base args ds p hval hA
  rw [Try.params8] at hA hval
  obtain ⟨v0, v1, v2, d0, d1, d2, p0, p1, p2, rfl, rfl, rfl, h0, h1, h2⟩ := trodAll_three hA
  have g0 := hval 0 _ v0 rfl rfl
  have g1 := hval 1 _ v1 rfl rfl
  have g2 := hval 2 _ v2 rfl rfl
  obtain ⟨⟨A, ca, l⟩, rfl, kA, -⟩ := (opn_acts W).one (one_slice Try.underlying65 g0) h0
  obtain ⟨a, rfl, ka⟩ := (opn_u16 Try.underlying76 (by kernel_rfl)).one (one_int Try.underlying76 g1) h1
  obtain ⟨b, rfl, kb⟩ := (opn_i8 Try.underlying77 (by kernel_rfl)).one (one_int Try.underlying77 g2) h2
  obtain ⟨a, rfl⟩ := Int.eq_ofNat_of_zero_le ka.1
  exact changed_walk l A ca a b W.heap kA (by omega) kb
set_option maxRecDepth 100000 in
theorem logChanged_holds : Rows.LogChangedSaid :=
  OpenClaim.holds_of_wide 8 Try.f8 rfl rfl rfl rfl rfl rfl rfl ⟨rfl, rfl, rfl, rfl, rfl⟩ rfl rfl rfl rfl rfl (by kernel_rfl) Try.func8 (by kernel_rfl)
    (of_decide_eq_true (by kernel_rfl)) (by unfold Func.isWrapper; first | (rw [if_pos (by decide +kernel)]; kernel_rfl) | (rw [if_neg (by decide +kernel)]; exact ⟨rfl, rfl⟩))
    (fun os started H enc _ => logChanged_lifted os started H enc)
end Go.Proofs.Ytbanngdijmglbaa
