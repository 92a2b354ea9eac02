/-
  Texts joined: Ev, Gb, Ew, Ent, Gf, Gg, Dur, Fw, Upa, Upb, Rnd, Near, Nea, Due, Mir, Nrr, Dui, Duj, Duk, Duka, Inn. Each says at its head what it shows.
-/
import Derived.OrdersHeld
import Derived.Below
import Derived.KernelRfl
import Derived.Laws.CopyRow
import Derived.Laws.Cells
import Derived.Laws.Entries
import Derived.Deep.MidRow
import Derived.Laws.StructEq
import Derived.Deep.RegionHeld3
import Derived.Deep.RegionWith
import Derived.IntWalk
import Derived.Test.YtcndfpfjckkinaaProg
import Derived.Deep.DeepCutAuto
import Derived.RangeFuncNested
import Derived.RangeFuncBound
import Derived.RangeFuncCalls
import Derived.RangeFuncLeaves
import Derived.Shelf.Abstract
import Derived.Shelf.RegionOpen
import Derived.OwnWalkIn
import Derived.TacticsInMore
import Derived.LoopNIn
import Derived.LoopIn
import Derived.RangeFuncFrom
import Derived.WideShapes
import Derived.Test.YtcndfpfjckkinaaDe
section
/-
  A reckoner of walks: what a frame and the blocks of the call's own hold is kept as data, and what stands next is reckoned by the kernel. This text: the data, and what one operation does.
-/
set_option linter.unusedSimpArgs false
set_option linter.unusedVariables false
namespace Go.Ev
open Go Go.RowKit

/-! ### The reckoner -/
section
variable {C : Cx} {G : World → Prop}
/-! calls -/
end
section
variable {C : Cx} {G : World → Prop}
/-- An element's place, in a slice that is known by the facts. -/
def idxAt (c : Cf) : Option (TypeId × Value × Value) := match c.rg with
  | some (.plain ops (i :: _)) => match ops[i]? with
    | some o => match gd ops c.fr o with
      | some true => match o.op with
        | .indexAddr T x j => match opS c.fr x, opS c.fr j with
          | .val v, .val u => some (T, v, u)
          | _, _ => none
        | _ => none
      | _ => none
    | none => none
  | _ => none
theorem run_idx {c : Cf} {T : TypeId} {xv jv v : Value} (hc : idxAt c = some (T, xv, jv)) (h : ∀ w, G w → (Instr.indexAt T xv jv).run C.P w = .ok v w) (hk : Run C G (resume c (.val v))) : Run C G c := by
  intro hs
  have h1 := hk hs
  unfold idxAt at hc
  split at hc
  · rename_i ops i l hrg
    rw [hrg]
    intro r a w hst
    rw [wpOps_cons]
    split at hc
    · rename_i o ho
      split at hc
      · rename_i hg
        split at hc
        · rename_i T' x j hop
          split at hc
          · rename_i v' u' hx hj
            simp only [Option.some.injEq, Prod.mk.injEq] at hc; obtain ⟨rfl, rfl, rfl⟩ := hc
            have h2 := (opS_ok (x := x) hst.fr fun _ _ k => k).1
            rw [hx] at h2
            have h3 : a.eval x = _ := h2
            have h4 := (opS_ok (x := j) hst.fr fun _ _ k => k).1
            rw [hj] at h4
            have h5 : a.eval j = _ := h4
            have e1 : dstOf ops i = o.dst := by simp [dstOf, ho]
            simp only [resume, hrg, resRg, resDst, e1] at h1
            refine wpOp_val ho (gd_ok hg hst.fr fun _ _ k => k) (u := v) (w' := w) ?_ (h1 r _ w ⟨hst.fr.put _ ⟨rfl, trivial⟩, hst.bl, hst.w0, hst.fact⟩)
            unfold execOp; rw [hop]
            simp only [h3, h5, Sem.run_bind, Result.andThen_ok, h w hst.fact]
            rfl
          · cases hc
        · cases hc
      · cases hc
    · cases hc
  · cases hc
/-! the end -/
/-! the beginning -/
/-! forgetting -/
/-! loops -/
end
end Go.Ev
end
section
/-
  Walks of the reference's numbers: Neg, Abs, Add, Sub.
-/
namespace Go.Proofs.Ytcndfpfjckkinaa
open Go Go.RowKit

end Go.Proofs.Ytcndfpfjckkinaa

/-
  Walks of the reference's numbers: Cmp, Sign, Power, Of.
-/
namespace Go.Proofs.Ytcndfpfjckkinaa
open Go Go.RowKit

set_option maxRecDepth 100000 in
set_option maxHeartbeats 1600000 in
theorem sign_z (na : Bool) (aa : Option Addr) (la ca : Nat) (m : Int) (w : World) (hza : IsZ w na (.slice aa la ca) m) (hm : Fit m) :
    Calls Try.prog 146 #[.agg #[.bool na, .slice aa la ca]] w (RetN w (cmpI m 0)) := by
  have hW := below1 w (.cells #[.bool na, .slice aa la ca] 47)
  go_enter Try.func146, Try.ntmps146
  go_wp2_with fail
  refine (cmp_z _ _ _ _ _ _ _ _ m 0 _ (hza.below hW) (isZ_zero _) hm fit_zero).mono ?_
  rintro e w1 ⟨rfl, hb⟩
  go_wp2_with fail
  go_ret
  exact ⟨rfl, hW.trans (hb.mono (by simp))⟩

end Go.Proofs.Ytcndfpfjckkinaa

/-
  Walk of the reference's product: Mul.
-/
namespace Go.Proofs.Ytcndfpfjckkinaa
open Go Go.RowKit

end Go.Proofs.Ytcndfpfjckkinaa

/-
  Walk of the reference's division bit by bit: long.
-/
namespace Go.Proofs.Ytcndfpfjckkinaa
open Go Go.RowKit

end Go.Proofs.Ytcndfpfjckkinaa

/-
  Memory that only grows: what was there stays as it is (Ext), and what reads in it.
-/
namespace Go.Proofs.Ytcndfpfjckkinaa
open Go Go.RowKit

end Go.Proofs.Ytcndfpfjckkinaa

/-
  A region that draws its order, whose calls stand in one order, and which makes one or two blocks at any time between them: one walk along the calls, with whatever the makings do in between.
-/
namespace Go.Proofs.Ytcndfpfjckkinaa
open Go Go.RowKit

end Go.Proofs.Ytcndfpfjckkinaa

/-
  A region that draws its order, whose last operation stores into a cell that the region loads: what loads and what only reckons is taken first, although the last operation ends what the loads need.
-/
namespace Go.Proofs.Ytcndfpfjckkinaa
open Go Go.RowKit

end Go.Proofs.Ytcndfpfjckkinaa
end
section
/-
  The reckoner of walks, for this program: contracts, and the steps of a walk over facts on the reference's numbers.
-/
set_option linter.unusedVariables false
namespace Go.Proofs.Ytcndfpfjckkinaa
open Go Go.RowKit Go.Ev

section
variable {f0 : FuncId} {E : List TypeId} {w0 : World} {R : Ending → World → Prop} {L : ZL} {G : World → Prop} {c : Cf}
theorem st_ldv {T : TypeId} {ad : Addr} {v : Value} (h : ∀ w, G w → (loadVar T ad).run Try.prog w = .ok v w) (hc : loadAt (adv Try.prog E 9999 400 c) = some (T, ad)) (hk : Ru ⟨Try.prog, f0, E, w0, R⟩ G (resume (adv Try.prog E 9999 400 c) (.val v))) : Ru ⟨Try.prog, f0, E, w0, R⟩ G c :=
  ⟨run_adv mixed (run_ldv hc h hk.h)⟩
theorem st_idx {T : TypeId} {xv jv v : Value} (h : ∀ w, G w → (Instr.indexAt T xv jv).run Try.prog w = .ok v w) (hc : idxAt (adv Try.prog E 9999 400 c) = some (T, xv, jv)) (hk : Ru ⟨Try.prog, f0, E, w0, R⟩ G (resume (adv Try.prog E 9999 400 c) (.val v))) : Ru ⟨Try.prog, f0, E, w0, R⟩ G c :=
  ⟨run_adv mixed (run_idx hc h hk.h)⟩
/-! loops -/
/-! rows of the call's own -/
end
end Go.Proofs.Ytcndfpfjckkinaa
end
section
/-
  Every function of the program is entered when it is called.
-/
namespace Go.Proofs.Ytcndfpfjckkinaa
open Go Go.Ev
theorem ent58 : Enters Try.prog 58 := enters_of Try.func58 (by kernel_rfl) rfl
theorem ent74 : Enters Try.prog 74 := enters_of Try.func74 (by kernel_rfl) rfl
theorem ent75 : Enters Try.prog 75 := enters_of Try.func75 (by kernel_rfl) rfl
theorem ent104 : Enters Try.prog 104 := enters_of Try.func104 (by kernel_rfl) rfl
theorem ent108 : Enters Try.prog 108 := enters_of Try.func108 (by kernel_rfl) rfl
theorem ent127 : Enters Try.prog 127 := enters_of Try.func127 (by kernel_rfl) rfl
theorem ent130 : Enters Try.prog 130 := enters_of Try.func130 (by kernel_rfl) rfl
theorem ent146 : Enters Try.prog 146 := enters_of Try.func146 (by kernel_rfl) rfl
theorem ent178 : Enters Try.prog 178 := enters_of Try.func178 (by kernel_rfl) rfl
theorem ent179 : Enters Try.prog 179 := enters_of Try.func179 (by kernel_rfl) rfl
theorem ent180 : Enters Try.prog 180 := enters_of Try.func180 (by kernel_rfl) rfl
theorem ent214 : Enters Try.prog 214 := enters_of Try.func214 (by kernel_rfl) rfl
theorem ent215 : Enters Try.prog 215 := enters_of Try.func215 (by kernel_rfl) rfl
theorem ent216 : Enters Try.prog 216 := enters_of Try.func216 (by kernel_rfl) rfl
theorem ent217 : Enters Try.prog 217 := enters_of Try.func217 (by kernel_rfl) rfl
theorem ent218 : Enters Try.prog 218 := enters_of Try.func218 (by kernel_rfl) rfl
theorem ent219 : Enters Try.prog 219 := enters_of Try.func219 (by kernel_rfl) rfl
theorem ent220 : Enters Try.prog 220 := enters_of Try.func220 (by kernel_rfl) rfl
theorem ent221 : Enters Try.prog 221 := enters_of Try.func221 (by kernel_rfl) rfl
theorem ent222 : Enters Try.prog 222 := enters_of Try.func222 (by kernel_rfl) rfl
end Go.Proofs.Ytcndfpfjckkinaa
end
section
/-
  divide.Floor.
-/
namespace Go.Proofs.Ytcndfpfjckkinaa
open Go Go.RowKit

theorem tdm {a b : Int} (hb : b ≠ 0) : a = b * a.tdiv b + a.tmod b ∧ (a.tmod b).natAbs < b.natAbs ∧ (a.tmod b).natAbs ≤ a.natAbs := by
  have h1 := Int.mul_tdiv_add_tmod a b
  have h2 := Int.natAbs_tmod a b
  have h3 := Nat.mod_lt a.natAbs (show 0 < b.natAbs by omega)
  have h4 := Nat.mod_le a.natAbs b.natAbs
  refine ⟨h1.symm, by omega, by omega⟩
theorem floor_same {a b : Int} (hb : b ≠ 0) (h : a.tmod b = 0 ∨ (a.tmod b < 0 ↔ b < 0)) : a.fdiv b = a.tdiv b ∧ a.fmod b = a.tmod b := by
  obtain ⟨h1, h2, h3⟩ := tdm (a := a) hb
  generalize a.tdiv b = q at *
  generalize a.tmod b = r at *
  by_cases h0 : 0 < b
  · exact fdiv_fmod_pos h0 h1 (by omega) (by omega)
  · exact fdiv_fmod_neg (by omega) h1 (by omega) (by omega)
theorem floor_less {a b : Int} (hb : b ≠ 0) (h0 : a.tmod b ≠ 0) (h : ¬ (a.tmod b < 0 ↔ b < 0)) : a.fdiv b = a.tdiv b - 1 ∧ a.fmod b = a.tmod b + b := by
  obtain ⟨h1, h2, h3⟩ := tdm (a := a) hb
  generalize a.tdiv b = q at *
  generalize a.tmod b = r at *
  have e : a = b * (q - 1) + (r + b) := by rw [Int.mul_sub, h1]; omega
  by_cases h0 : 0 < b
  · exact fdiv_fmod_pos h0 e (by omega) (by omega)
  · exact fdiv_fmod_neg (by omega) e (by omega) (by omega)
theorem tdiv_nat {a b : Int} : (a.tdiv b).natAbs = a.natAbs / b.natAbs := Int.natAbs_tdiv a b
theorem trunc_room {a b : Int} (ha : W128 a) (hb : b ≠ 0) (h : ¬ W128 (a.tdiv b)) : a.tmod b = 0 := by
  obtain ⟨h1, h2, h3⟩ := tdm (a := a) hb
  have e := tdiv_nat (a := a) (b := b)
  by_cases hb1 : b.natAbs = 1
  · omega
  · exfalso
    have : a.natAbs / b.natAbs ≤ a.natAbs / 2 := Nat.div_le_div_left (by omega) (by omega)
    unfold W128 at *
    omega
theorem floor_room {a b : Int} (ha : W128 a) (hb : b ≠ 0) (h0 : a.tmod b ≠ 0) : W128 (a.tdiv b - 1) := by
  obtain ⟨h1, h2, h3⟩ := tdm (a := a) hb
  have e := tdiv_nat (a := a) (b := b)
  have : a.natAbs / b.natAbs ≤ a.natAbs / 2 := Nat.div_le_div_left (by omega) (by omega)
  unfold W128 at *
  omega

set_option maxRecDepth 100000 in
set_option maxHeartbeats 3200000 in
theorem dfloor (a b : Int) (w : World) (ha : W128 a) (hb : W128 b) (h0 : b ≠ 0) (ho : Trunc3 a b) :
    Calls Try.prog 178 #[.agg #[.int .i64 (hi a), .int .u64 (lo a)], .agg #[.int .i64 (hi b), .int .u64 (lo b)]] w (RetQ w (a.fdiv b) (a.fmod b)) := by
  have H1 := Lib.hid ho
  have H2 := Lib.hid of_pure
  have H3 := Lib.hid wsub
  have H4 := Lib.hid wadd
  clear ho
  by_cases hq : W128 (a.tdiv b)
  · by_cases hr : a.tmod b = 0
    · obtain ⟨e1, e2⟩ := floor_same (a := a) h0 (Or.inl hr)
      rw [e1, e2]
      have HR := Lib.hid (show hi (a.tmod b) = 0 ∧ lo (a.tmod b) = 0 by rw [hr]; exact ⟨rfl, rfl⟩)
      have g1 : (hi (a.tmod b) == 0) = true := by rw [HR.out.1]; rfl
      have g2 : (lo (a.tmod b) == 0) = true := by rw [HR.out.2]; rfl
      clear e1 e2 hr
      go_enter Try.func178, Try.ntmps178
      go_wp2_with fail
      obtain ⟨W, hW⟩ : ∃ W, W = (((w.alloc (.cells #[.int .i64 (hi a), .int .u64 (lo a)] 38)).alloc (.cells #[.int .i64 (hi b), .int .u64 (lo b)] 38)).alloc (.cells #[.int .i64 0, .int .u64 0] 38)).alloc (.cells #[.int .i64 0, .int .u64 0] 38) := ⟨_, rfl⟩
      rw [← hW]
      have hB : Box2 W (w.heap.size + 1) (.int .i64 (hi b)) (.int .u64 (lo b)) 38 := by rw [hW]; exact ((Box2.new (by simp)).alloc _).alloc _
      have hR : Box2 W (w.heap.size + 1 + 1) (.int .i64 0) (.int .u64 0) 38 := by rw [hW]; exact (Box2.new (by simp)).alloc _
      have hS : Box2 W (w.heap.size + 1 + 1 + 1) (.int .i64 0) (.int .u64 0) 38 := by rw [hW]; exact Box2.new (by simp)
      have xw : Ext w W := by rw [hW]; exact (Ext.refl w).alloc.alloc.alloc.alloc
      clear hW
      refine (H1.out _).mono ?_
      rintro e w1 ⟨rfl, x1⟩
      (first | replace xw := Ext.trans xw x1 | replace xw := Ext.trans (Ext.alloc xw) x1 | replace xw := Ext.trans (Ext.drew xw) x1 | replace xw := Ext.trans (Ext.alloc (Ext.drew xw)) x1); (first | replace hB := hB.ext x1 | replace hB := (hB.alloc _).ext x1 | replace hB := hB.drew.ext x1 | replace hB := (hB.drew.alloc _).ext x1); (first | replace hR := hR.ext x1 | replace hR := (hR.alloc _).ext x1 | replace hR := hR.drew.ext x1 | replace hR := (hR.drew.alloc _).ext x1); (first | replace hS := hS.ext x1 | replace hS := (hS.alloc _).ext x1 | replace hS := hS.drew.ext x1 | replace hS := (hS.drew.alloc _).ext x1)
      have y1 := hS.kind.lt
      rw [thi_yes hq, tlo_yes hq, ter_yes hq, show qh (a.tdiv b) (a.tmod b) = hi (a.tmod b) from if_pos hq, show ql (a.tdiv b) (a.tmod b) = lo (a.tmod b) from if_pos hq]
      obtain ⟨V, hV⟩ : ∃ V, V = (w1.alloc (.cells #[.int .i64 (hi (a.tdiv b)), .int .u64 (lo (a.tdiv b))] 38)).alloc (.cells #[.int .i64 (hi (a.tmod b)), .int .u64 (lo (a.tmod b))] 38) := ⟨_, rfl⟩
      have hP : Box2 V w1.heap.size (.int .i64 (hi (a.tdiv b))) (.int .u64 (lo (a.tdiv b))) 38 := by rw [hV]; exact (Box2.new rfl).alloc _
      have hQ : Box2 V (w1.heap.size + 1) (.int .i64 (hi (a.tmod b))) (.int .u64 (lo (a.tmod b))) 38 := by rw [hV]; exact Box2.new (by simp)
      replace hB := hB.named2 hV
      replace hR := hR.named2 hV
      replace hS := hS.named2 hV
      replace xw : Ext w V := by rw [hV]; exact Ext.alloc (Ext.alloc xw)
      have kB := hB
      rw [hV] at kB
      have kQ := hQ
      rw [hV] at kQ
      have kB_0 := kB.c0; have kB_1 := kB.c1; have kQ_0 := kQ.c0; have kQ_1 := kQ.c1
      go_wp2_with fail
      rw [← hV]
      clear kB_0 kB_1 kQ_0 kQ_1
      clear kB kQ hV
      have n1 : ¬ w1.heap.size = w.heap.size + 1 + 1 := by omega
      have n2 : ¬ w1.heap.size = w.heap.size + 1 + 1 + 1 := by omega
      have n3 : ¬ w1.heap.size + 1 = w.heap.size + 1 + 1 := by omega
      have n4 : ¬ w1.heap.size + 1 = w.heap.size + 1 + 1 + 1 := by omega
      have n5 : ¬ w.heap.size + 1 + 1 = w1.heap.size := by omega
      have n6 : ¬ w.heap.size + 1 + 1 + 1 = w1.heap.size := by omega
      have n7 : ¬ w.heap.size + 1 = w1.heap.size := by omega
      have n8 : ¬ w.heap.size + 1 + 1 = w1.heap.size + 1 := by omega
      have n9 : ¬ w1.heap.size = w.heap.size + 1 := by omega
      have hP_0 := hP.c0; have hP_1 := hP.c1; have hQ_0 := hQ.c0; have hQ_1 := hQ.c1; have hR_0 := hR.c0; have hR_1 := hR.c1; have hS_0 := hS.c0; have hS_1 := hS.c1
      have hR_2 := hR.f0; have hR_3 := hR.f1; have hS_2 := hS.f0; have hS_3 := hS.f1
      go_region
      go_wp2_with fail
      refine bodyPost_ret (v := .tuple #[.agg #[.int .i64 (hi (a.tdiv b)), .int .u64 (lo (a.tdiv b))], .agg #[.int .i64 (hi (a.tmod b)), .int .u64 (lo (a.tmod b))], .int .i64 0]) (by simp [results, Try.results178, go_sem, hR_0, hR_1, hS_0, hS_1]) rfl (retQ_yes hq ?_)
      exact Ext.drew (Ext.set (Ext.set (Ext.set (Ext.set xw (by omega)) (by omega)) (by omega)) (by omega))
    · by_cases hs : a.tmod b < 0 ↔ b < 0
      · obtain ⟨e1, e2⟩ := floor_same (a := a) h0 (Or.inr hs)
        rw [e1, e2]
        have hsg : (decide (hi (a.tmod b) < 0) == decide (hi b < 0)) = true := by
          simp only [beq_iff_eq, decide_eq_decide, hi_neg]; exact hs
        clear e1 e2
        by_cases hz : hi (a.tmod b) = 0
        · have g1 : (hi (a.tmod b) == 0) = true := by simpa using hz
          have g2 : (lo (a.tmod b) == 0) = false := by
            simp only [beq_eq_false_iff_ne, ne_eq]; intro h; apply hr; rw [hi_lo (a.tmod b), hz, h]; rfl
          clear hz hr hs
          go_enter Try.func178, Try.ntmps178
          go_wp2_with fail
          obtain ⟨W, hW⟩ : ∃ W, W = (((w.alloc (.cells #[.int .i64 (hi a), .int .u64 (lo a)] 38)).alloc (.cells #[.int .i64 (hi b), .int .u64 (lo b)] 38)).alloc (.cells #[.int .i64 0, .int .u64 0] 38)).alloc (.cells #[.int .i64 0, .int .u64 0] 38) := ⟨_, rfl⟩
          rw [← hW]
          have hB : Box2 W (w.heap.size + 1) (.int .i64 (hi b)) (.int .u64 (lo b)) 38 := by rw [hW]; exact ((Box2.new (by simp)).alloc _).alloc _
          have hR : Box2 W (w.heap.size + 1 + 1) (.int .i64 0) (.int .u64 0) 38 := by rw [hW]; exact (Box2.new (by simp)).alloc _
          have hS : Box2 W (w.heap.size + 1 + 1 + 1) (.int .i64 0) (.int .u64 0) 38 := by rw [hW]; exact Box2.new (by simp)
          have xw : Ext w W := by rw [hW]; exact (Ext.refl w).alloc.alloc.alloc.alloc
          clear hW
          refine (H1.out _).mono ?_
          rintro e w1 ⟨rfl, x1⟩
          (first | replace xw := Ext.trans xw x1 | replace xw := Ext.trans (Ext.alloc xw) x1 | replace xw := Ext.trans (Ext.drew xw) x1 | replace xw := Ext.trans (Ext.alloc (Ext.drew xw)) x1); (first | replace hB := hB.ext x1 | replace hB := (hB.alloc _).ext x1 | replace hB := hB.drew.ext x1 | replace hB := (hB.drew.alloc _).ext x1); (first | replace hR := hR.ext x1 | replace hR := (hR.alloc _).ext x1 | replace hR := hR.drew.ext x1 | replace hR := (hR.drew.alloc _).ext x1); (first | replace hS := hS.ext x1 | replace hS := (hS.alloc _).ext x1 | replace hS := hS.drew.ext x1 | replace hS := (hS.drew.alloc _).ext x1)
          have y1 := hS.kind.lt
          rw [thi_yes hq, tlo_yes hq, ter_yes hq, show qh (a.tdiv b) (a.tmod b) = hi (a.tmod b) from if_pos hq, show ql (a.tdiv b) (a.tmod b) = lo (a.tmod b) from if_pos hq]
          obtain ⟨V, hV⟩ : ∃ V, V = (w1.alloc (.cells #[.int .i64 (hi (a.tdiv b)), .int .u64 (lo (a.tdiv b))] 38)).alloc (.cells #[.int .i64 (hi (a.tmod b)), .int .u64 (lo (a.tmod b))] 38) := ⟨_, rfl⟩
          have hP : Box2 V w1.heap.size (.int .i64 (hi (a.tdiv b))) (.int .u64 (lo (a.tdiv b))) 38 := by rw [hV]; exact (Box2.new rfl).alloc _
          have hQ : Box2 V (w1.heap.size + 1) (.int .i64 (hi (a.tmod b))) (.int .u64 (lo (a.tmod b))) 38 := by rw [hV]; exact Box2.new (by simp)
          replace hB := hB.named2 hV
          replace hR := hR.named2 hV
          replace hS := hS.named2 hV
          replace xw : Ext w V := by rw [hV]; exact Ext.alloc (Ext.alloc xw)
          have kB := hB
          rw [hV] at kB
          have kQ := hQ
          rw [hV] at kQ
          have kB_0 := kB.c0; have kB_1 := kB.c1; have kQ_0 := kQ.c0; have kQ_1 := kQ.c1
          go_wp2_with fail
          rw [← hV]
          clear kB_0 kB_1 kQ_0 kQ_1
          clear kB kQ hV
          have n1 : ¬ w1.heap.size = w.heap.size + 1 + 1 := by omega
          have n2 : ¬ w1.heap.size = w.heap.size + 1 + 1 + 1 := by omega
          have n3 : ¬ w1.heap.size + 1 = w.heap.size + 1 + 1 := by omega
          have n4 : ¬ w1.heap.size + 1 = w.heap.size + 1 + 1 + 1 := by omega
          have n5 : ¬ w.heap.size + 1 + 1 = w1.heap.size := by omega
          have n6 : ¬ w.heap.size + 1 + 1 + 1 = w1.heap.size := by omega
          have n7 : ¬ w.heap.size + 1 = w1.heap.size := by omega
          have n8 : ¬ w.heap.size + 1 + 1 = w1.heap.size + 1 := by omega
          have n9 : ¬ w1.heap.size = w.heap.size + 1 := by omega
          have hP_0 := hP.c0; have hP_1 := hP.c1; have hQ_0 := hQ.c0; have hQ_1 := hQ.c1; have hR_0 := hR.c0; have hR_1 := hR.c1; have hS_0 := hS.c0; have hS_1 := hS.c1
          have hR_2 := hR.f0; have hR_3 := hR.f1; have hS_2 := hS.f0; have hS_3 := hS.f1
          go_region
          go_wp2_with fail
          refine bodyPost_ret (v := .tuple #[.agg #[.int .i64 (hi (a.tdiv b)), .int .u64 (lo (a.tdiv b))], .agg #[.int .i64 (hi (a.tmod b)), .int .u64 (lo (a.tmod b))], .int .i64 0]) (by simp [results, Try.results178, go_sem, hR_0, hR_1, hS_0, hS_1]) rfl (retQ_yes hq ?_)
          exact Ext.drew (Ext.set (Ext.set (Ext.set (Ext.set xw (by omega)) (by omega)) (by omega)) (by omega))
        · have g1 : (hi (a.tmod b) == 0) = false := by simpa using hz
          clear hz hr hs
          go_enter Try.func178, Try.ntmps178
          go_wp2_with fail
          obtain ⟨W, hW⟩ : ∃ W, W = (((w.alloc (.cells #[.int .i64 (hi a), .int .u64 (lo a)] 38)).alloc (.cells #[.int .i64 (hi b), .int .u64 (lo b)] 38)).alloc (.cells #[.int .i64 0, .int .u64 0] 38)).alloc (.cells #[.int .i64 0, .int .u64 0] 38) := ⟨_, rfl⟩
          rw [← hW]
          have hB : Box2 W (w.heap.size + 1) (.int .i64 (hi b)) (.int .u64 (lo b)) 38 := by rw [hW]; exact ((Box2.new (by simp)).alloc _).alloc _
          have hR : Box2 W (w.heap.size + 1 + 1) (.int .i64 0) (.int .u64 0) 38 := by rw [hW]; exact (Box2.new (by simp)).alloc _
          have hS : Box2 W (w.heap.size + 1 + 1 + 1) (.int .i64 0) (.int .u64 0) 38 := by rw [hW]; exact Box2.new (by simp)
          have xw : Ext w W := by rw [hW]; exact (Ext.refl w).alloc.alloc.alloc.alloc
          clear hW
          refine (H1.out _).mono ?_
          rintro e w1 ⟨rfl, x1⟩
          (first | replace xw := Ext.trans xw x1 | replace xw := Ext.trans (Ext.alloc xw) x1 | replace xw := Ext.trans (Ext.drew xw) x1 | replace xw := Ext.trans (Ext.alloc (Ext.drew xw)) x1); (first | replace hB := hB.ext x1 | replace hB := (hB.alloc _).ext x1 | replace hB := hB.drew.ext x1 | replace hB := (hB.drew.alloc _).ext x1); (first | replace hR := hR.ext x1 | replace hR := (hR.alloc _).ext x1 | replace hR := hR.drew.ext x1 | replace hR := (hR.drew.alloc _).ext x1); (first | replace hS := hS.ext x1 | replace hS := (hS.alloc _).ext x1 | replace hS := hS.drew.ext x1 | replace hS := (hS.drew.alloc _).ext x1)
          have y1 := hS.kind.lt
          rw [thi_yes hq, tlo_yes hq, ter_yes hq, show qh (a.tdiv b) (a.tmod b) = hi (a.tmod b) from if_pos hq, show ql (a.tdiv b) (a.tmod b) = lo (a.tmod b) from if_pos hq]
          obtain ⟨V, hV⟩ : ∃ V, V = (w1.alloc (.cells #[.int .i64 (hi (a.tdiv b)), .int .u64 (lo (a.tdiv b))] 38)).alloc (.cells #[.int .i64 (hi (a.tmod b)), .int .u64 (lo (a.tmod b))] 38) := ⟨_, rfl⟩
          have hP : Box2 V w1.heap.size (.int .i64 (hi (a.tdiv b))) (.int .u64 (lo (a.tdiv b))) 38 := by rw [hV]; exact (Box2.new rfl).alloc _
          have hQ : Box2 V (w1.heap.size + 1) (.int .i64 (hi (a.tmod b))) (.int .u64 (lo (a.tmod b))) 38 := by rw [hV]; exact Box2.new (by simp)
          replace hB := hB.named2 hV
          replace hR := hR.named2 hV
          replace hS := hS.named2 hV
          replace xw : Ext w V := by rw [hV]; exact Ext.alloc (Ext.alloc xw)
          have kB := hB
          rw [hV] at kB
          have kQ := hQ
          rw [hV] at kQ
          have kB_0 := kB.c0; have kB_1 := kB.c1; have kQ_0 := kQ.c0; have kQ_1 := kQ.c1
          go_wp2_with fail
          rw [← hV]
          clear kB_0 kB_1 kQ_0 kQ_1
          clear kB kQ hV
          have n1 : ¬ w1.heap.size = w.heap.size + 1 + 1 := by omega
          have n2 : ¬ w1.heap.size = w.heap.size + 1 + 1 + 1 := by omega
          have n3 : ¬ w1.heap.size + 1 = w.heap.size + 1 + 1 := by omega
          have n4 : ¬ w1.heap.size + 1 = w.heap.size + 1 + 1 + 1 := by omega
          have n5 : ¬ w.heap.size + 1 + 1 = w1.heap.size := by omega
          have n6 : ¬ w.heap.size + 1 + 1 + 1 = w1.heap.size := by omega
          have n7 : ¬ w.heap.size + 1 = w1.heap.size := by omega
          have n8 : ¬ w.heap.size + 1 + 1 = w1.heap.size + 1 := by omega
          have n9 : ¬ w1.heap.size = w.heap.size + 1 := by omega
          have hP_0 := hP.c0; have hP_1 := hP.c1; have hQ_0 := hQ.c0; have hQ_1 := hQ.c1; have hR_0 := hR.c0; have hR_1 := hR.c1; have hS_0 := hS.c0; have hS_1 := hS.c1
          have hR_2 := hR.f0; have hR_3 := hR.f1; have hS_2 := hS.f0; have hS_3 := hS.f1
          go_region
          go_wp2_with fail
          refine bodyPost_ret (v := .tuple #[.agg #[.int .i64 (hi (a.tdiv b)), .int .u64 (lo (a.tdiv b))], .agg #[.int .i64 (hi (a.tmod b)), .int .u64 (lo (a.tmod b))], .int .i64 0]) (by simp [results, Try.results178, go_sem, hR_0, hR_1, hS_0, hS_1]) rfl (retQ_yes hq ?_)
          exact Ext.drew (Ext.set (Ext.set (Ext.set (Ext.set xw (by omega)) (by omega)) (by omega)) (by omega))
      · obtain ⟨e1, e2⟩ := floor_less (a := a) h0 hr hs
        have hq1 := floor_room ha h0 hr
        have hr1 : W128 (a.tmod b + b) := by
          obtain ⟨k1, k2, k3⟩ := tdm (a := a) h0
          unfold W128 at *
          omega
        have hrW := tmod_W (a := a) hb h0
        rw [e1, e2]
        have hsg : (decide (hi (a.tmod b) < 0) == decide (hi b < 0)) = false := by
          simp only [beq_eq_false_iff_ne, ne_eq, decide_eq_decide, hi_neg]; exact hs
        have hW1 : W128 1 := by unfold W128; omega
        clear e1 e2
        by_cases hz : hi (a.tmod b) = 0
        · have g1 : (hi (a.tmod b) == 0) = true := by simpa using hz
          have g2 : (lo (a.tmod b) == 0) = false := by
            simp only [beq_eq_false_iff_ne, ne_eq]; intro h; apply hr; rw [hi_lo (a.tmod b), hz, h]; rfl
          clear hz hr hs
          go_enter Try.func178, Try.ntmps178
          go_wp2_with fail
          obtain ⟨W, hW⟩ : ∃ W, W = (((w.alloc (.cells #[.int .i64 (hi a), .int .u64 (lo a)] 38)).alloc (.cells #[.int .i64 (hi b), .int .u64 (lo b)] 38)).alloc (.cells #[.int .i64 0, .int .u64 0] 38)).alloc (.cells #[.int .i64 0, .int .u64 0] 38) := ⟨_, rfl⟩
          rw [← hW]
          have hB : Box2 W (w.heap.size + 1) (.int .i64 (hi b)) (.int .u64 (lo b)) 38 := by rw [hW]; exact ((Box2.new (by simp)).alloc _).alloc _
          have hR : Box2 W (w.heap.size + 1 + 1) (.int .i64 0) (.int .u64 0) 38 := by rw [hW]; exact (Box2.new (by simp)).alloc _
          have hS : Box2 W (w.heap.size + 1 + 1 + 1) (.int .i64 0) (.int .u64 0) 38 := by rw [hW]; exact Box2.new (by simp)
          have xw : Ext w W := by rw [hW]; exact (Ext.refl w).alloc.alloc.alloc.alloc
          clear hW
          refine (H1.out _).mono ?_
          rintro e w1 ⟨rfl, x1⟩
          (first | replace xw := Ext.trans xw x1 | replace xw := Ext.trans (Ext.alloc xw) x1 | replace xw := Ext.trans (Ext.drew xw) x1 | replace xw := Ext.trans (Ext.alloc (Ext.drew xw)) x1); (first | replace hB := hB.ext x1 | replace hB := (hB.alloc _).ext x1 | replace hB := hB.drew.ext x1 | replace hB := (hB.drew.alloc _).ext x1); (first | replace hR := hR.ext x1 | replace hR := (hR.alloc _).ext x1 | replace hR := hR.drew.ext x1 | replace hR := (hR.drew.alloc _).ext x1); (first | replace hS := hS.ext x1 | replace hS := (hS.alloc _).ext x1 | replace hS := hS.drew.ext x1 | replace hS := (hS.drew.alloc _).ext x1)
          have y1 := hS.kind.lt
          rw [thi_yes hq, tlo_yes hq, ter_yes hq, show qh (a.tdiv b) (a.tmod b) = hi (a.tmod b) from if_pos hq, show ql (a.tdiv b) (a.tmod b) = lo (a.tmod b) from if_pos hq]
          obtain ⟨V, hV⟩ : ∃ V, V = (w1.alloc (.cells #[.int .i64 (hi (a.tdiv b)), .int .u64 (lo (a.tdiv b))] 38)).alloc (.cells #[.int .i64 (hi (a.tmod b)), .int .u64 (lo (a.tmod b))] 38) := ⟨_, rfl⟩
          have hP : Box2 V w1.heap.size (.int .i64 (hi (a.tdiv b))) (.int .u64 (lo (a.tdiv b))) 38 := by rw [hV]; exact (Box2.new rfl).alloc _
          have hQ : Box2 V (w1.heap.size + 1) (.int .i64 (hi (a.tmod b))) (.int .u64 (lo (a.tmod b))) 38 := by rw [hV]; exact Box2.new (by simp)
          replace hB := hB.named2 hV
          replace hR := hR.named2 hV
          replace hS := hS.named2 hV
          replace xw : Ext w V := by rw [hV]; exact Ext.alloc (Ext.alloc xw)
          have kB := hB
          rw [hV] at kB
          have kQ := hQ
          rw [hV] at kQ
          have kB_0 := kB.c0; have kB_1 := kB.c1; have kQ_0 := kQ.c0; have kQ_1 := kQ.c1
          go_wp2_with fail
          rw [← hV]
          clear kB_0 kB_1 kQ_0 kQ_1
          clear kB kQ hV
          go_cut [9] (fun s9 wx => s9 = .int .i64 0 ∧ Box2 wx w1.heap.size (.int .i64 (hi (a.tdiv b - 1))) (.int .u64 (lo (a.tdiv b - 1))) 38 ∧ Box2 wx (w1.heap.size + 1) (.int .i64 (hi (a.tmod b))) (.int .u64 (lo (a.tmod b))) 38 ∧
            Box2 wx (w.heap.size + 1) (.int .i64 (hi b)) (.int .u64 (lo b)) 38 ∧ Box2 wx (w.heap.size + 1 + 1) (.int .i64 0) (.int .u64 0) 38 ∧ Box2 wx (w.heap.size + 1 + 1 + 1) (.int .i64 0) (.int .u64 0) 38 ∧ Ext w wx)
          case first =>
            have hP_0 := hP.c0; have hP_1 := hP.c1
            have d0 := hP.drew.c0
            have d1 := hP.drew.c1
            go_region_with (first
              | (go_at_call 51; refine (H2.out 1 _ (by omega) (by omega)).mono ?_; rintro e w2 ⟨rfl, x2⟩; have p := hP.drew.ext x2; have p0 := p.c0; have p1 := p.c1)
              | (go_at_call 130; refine (H3.out (a.tdiv b) 1 _ hq hW1).mono ?_; rw [show RetT _ (a.tdiv b - 1) = fun e w' => e = .returned (.tuple #[.agg #[.int .i64 (hi (a.tdiv b - 1)), .int .u64 (lo (a.tdiv b - 1))], .int .i64 0]) ∧ Ext _ w' from by unfold RetT; rw [thi_yes hq1, tlo_yes hq1, ter_yes hq1]]; rintro e w3 ⟨rfl, x3⟩; have q := (hP.drew.ext x2).ext x3; have q0 := q.c0; have q1 := q.c1; have q2 := q.f0; have q3 := q.f1))
            all_goals
              go_wp2_with fail
              go_meet
              exact ⟨rfl, q.set _ _, ((hQ.drew.ext x2).ext x3).other2 (by omega) _ _, ((hB.drew.ext x2).ext x3).other2 (by omega) _ _, ((hR.drew.ext x2).ext x3).other2 (by omega) _ _, ((hS.drew.ext x2).ext x3).other2 (by omega) _ _, Ext.set (Ext.set (Ext.trans (Ext.trans (Ext.drew xw) x2) x3) (by omega)) (by omega)⟩
          case rest =>
            obtain ⟨rfl, hP, hQ, hB, hR, hS, xw⟩ := hcut
            have hQ_0 := hQ.c0; have hQ_1 := hQ.c1; have hB_0 := hB.c0; have hB_1 := hB.c1
            go_wp2_with fail
            clear hQ_0 hQ_1 hB_0 hB_1
            refine (H4.out _ _ _ hrW hb).mono ?_
            rintro e w4 ⟨rfl, x4⟩
            rw [thi_yes hr1, tlo_yes hr1, ter_yes hr1]
            (first | replace xw := Ext.trans xw x4 | replace xw := Ext.trans (Ext.alloc xw) x4 | replace xw := Ext.trans (Ext.drew xw) x4 | replace xw := Ext.trans (Ext.alloc (Ext.drew xw)) x4); (first | replace hP := hP.ext x4 | replace hP := (hP.alloc _).ext x4 | replace hP := hP.drew.ext x4 | replace hP := (hP.drew.alloc _).ext x4); (first | replace hQ := hQ.ext x4 | replace hQ := (hQ.alloc _).ext x4 | replace hQ := hQ.drew.ext x4 | replace hQ := (hQ.drew.alloc _).ext x4); (first | replace hB := hB.ext x4 | replace hB := (hB.alloc _).ext x4 | replace hB := hB.drew.ext x4 | replace hB := (hB.drew.alloc _).ext x4); (first | replace hR := hR.ext x4 | replace hR := (hR.alloc _).ext x4 | replace hR := hR.drew.ext x4 | replace hR := (hR.drew.alloc _).ext x4); (first | replace hS := hS.ext x4 | replace hS := (hS.alloc _).ext x4 | replace hS := hS.drew.ext x4 | replace hS := (hS.drew.alloc _).ext x4)
            have hQ_0 := hQ.c0; have hQ_1 := hQ.c1
            have hQ_2 := hQ.f0; have hQ_3 := hQ.f1
            go_wp2_with fail
            clear hQ_0 hQ_1 hQ_2 hQ_3
            obtain ⟨U, hU⟩ : ∃ U, U = (w4.setCell ⟨w1.heap.size + 1, 0, none⟩ (.int .i64 (hi (a.tmod b + b)))).setCell ⟨w1.heap.size + 1, 1, none⟩ (.int .u64 (lo (a.tmod b + b))) := ⟨_, rfl⟩
            replace hP : Box2 U w1.heap.size (.int .i64 (hi (a.tdiv b - 1))) (.int .u64 (lo (a.tdiv b - 1))) 38 := by rw [hU]; exact hP.other2 (by omega) _ _
            replace hR : Box2 U (w.heap.size + 1 + 1) (.int .i64 0) (.int .u64 0) 38 := by rw [hU]; exact hR.other2 (by omega) _ _
            replace hS : Box2 U (w.heap.size + 1 + 1 + 1) (.int .i64 0) (.int .u64 0) 38 := by rw [hU]; exact hS.other2 (by omega) _ _
            replace hQ : Box2 U (w1.heap.size + 1) (.int .i64 (hi (a.tmod b + b))) (.int .u64 (lo (a.tmod b + b))) 38 := by rw [hU]; exact hQ.set _ _
            replace xw : Ext w U := by rw [hU]; exact Ext.set (Ext.set xw (by omega)) (by omega)
            rw [← hU]
            clear hU
            have n1 : ¬ w1.heap.size = w.heap.size + 1 + 1 := by omega
            have n2 : ¬ w1.heap.size = w.heap.size + 1 + 1 + 1 := by omega
            have n3 : ¬ w1.heap.size + 1 = w.heap.size + 1 + 1 := by omega
            have n4 : ¬ w1.heap.size + 1 = w.heap.size + 1 + 1 + 1 := by omega
            have n5 : ¬ w.heap.size + 1 + 1 = w1.heap.size := by omega
            have n6 : ¬ w.heap.size + 1 + 1 + 1 = w1.heap.size := by omega
            have n7 : ¬ w.heap.size + 1 = w1.heap.size := by omega
            have n8 : ¬ w.heap.size + 1 + 1 = w1.heap.size + 1 := by omega
            have n9 : ¬ w1.heap.size = w.heap.size + 1 := by omega
            have hP_0 := hP.c0; have hP_1 := hP.c1; have hQ_0 := hQ.c0; have hQ_1 := hQ.c1; have hR_0 := hR.c0; have hR_1 := hR.c1; have hS_0 := hS.c0; have hS_1 := hS.c1
            have hR_2 := hR.f0; have hR_3 := hR.f1; have hS_2 := hS.f0; have hS_3 := hS.f1
            go_region
            go_wp2_with fail
            refine bodyPost_ret (v := .tuple #[.agg #[.int .i64 (hi (a.tdiv b - 1)), .int .u64 (lo (a.tdiv b - 1))], .agg #[.int .i64 (hi (a.tmod b + b)), .int .u64 (lo (a.tmod b + b))], .int .i64 0]) (by simp [results, Try.results178, go_sem, hR_0, hR_1, hS_0, hS_1]) rfl (retQ_yes hq1 ?_)
            exact Ext.drew (Ext.set (Ext.set (Ext.set (Ext.set xw (by omega)) (by omega)) (by omega)) (by omega))
        · have g1 : (hi (a.tmod b) == 0) = false := by simpa using hz
          clear hz hr hs
          go_enter Try.func178, Try.ntmps178
          go_wp2_with fail
          obtain ⟨W, hW⟩ : ∃ W, W = (((w.alloc (.cells #[.int .i64 (hi a), .int .u64 (lo a)] 38)).alloc (.cells #[.int .i64 (hi b), .int .u64 (lo b)] 38)).alloc (.cells #[.int .i64 0, .int .u64 0] 38)).alloc (.cells #[.int .i64 0, .int .u64 0] 38) := ⟨_, rfl⟩
          rw [← hW]
          have hB : Box2 W (w.heap.size + 1) (.int .i64 (hi b)) (.int .u64 (lo b)) 38 := by rw [hW]; exact ((Box2.new (by simp)).alloc _).alloc _
          have hR : Box2 W (w.heap.size + 1 + 1) (.int .i64 0) (.int .u64 0) 38 := by rw [hW]; exact (Box2.new (by simp)).alloc _
          have hS : Box2 W (w.heap.size + 1 + 1 + 1) (.int .i64 0) (.int .u64 0) 38 := by rw [hW]; exact Box2.new (by simp)
          have xw : Ext w W := by rw [hW]; exact (Ext.refl w).alloc.alloc.alloc.alloc
          clear hW
          refine (H1.out _).mono ?_
          rintro e w1 ⟨rfl, x1⟩
          (first | replace xw := Ext.trans xw x1 | replace xw := Ext.trans (Ext.alloc xw) x1 | replace xw := Ext.trans (Ext.drew xw) x1 | replace xw := Ext.trans (Ext.alloc (Ext.drew xw)) x1); (first | replace hB := hB.ext x1 | replace hB := (hB.alloc _).ext x1 | replace hB := hB.drew.ext x1 | replace hB := (hB.drew.alloc _).ext x1); (first | replace hR := hR.ext x1 | replace hR := (hR.alloc _).ext x1 | replace hR := hR.drew.ext x1 | replace hR := (hR.drew.alloc _).ext x1); (first | replace hS := hS.ext x1 | replace hS := (hS.alloc _).ext x1 | replace hS := hS.drew.ext x1 | replace hS := (hS.drew.alloc _).ext x1)
          have y1 := hS.kind.lt
          rw [thi_yes hq, tlo_yes hq, ter_yes hq, show qh (a.tdiv b) (a.tmod b) = hi (a.tmod b) from if_pos hq, show ql (a.tdiv b) (a.tmod b) = lo (a.tmod b) from if_pos hq]
          obtain ⟨V, hV⟩ : ∃ V, V = (w1.alloc (.cells #[.int .i64 (hi (a.tdiv b)), .int .u64 (lo (a.tdiv b))] 38)).alloc (.cells #[.int .i64 (hi (a.tmod b)), .int .u64 (lo (a.tmod b))] 38) := ⟨_, rfl⟩
          have hP : Box2 V w1.heap.size (.int .i64 (hi (a.tdiv b))) (.int .u64 (lo (a.tdiv b))) 38 := by rw [hV]; exact (Box2.new rfl).alloc _
          have hQ : Box2 V (w1.heap.size + 1) (.int .i64 (hi (a.tmod b))) (.int .u64 (lo (a.tmod b))) 38 := by rw [hV]; exact Box2.new (by simp)
          replace hB := hB.named2 hV
          replace hR := hR.named2 hV
          replace hS := hS.named2 hV
          replace xw : Ext w V := by rw [hV]; exact Ext.alloc (Ext.alloc xw)
          have kB := hB
          rw [hV] at kB
          have kQ := hQ
          rw [hV] at kQ
          have kB_0 := kB.c0; have kB_1 := kB.c1; have kQ_0 := kQ.c0; have kQ_1 := kQ.c1
          go_wp2_with fail
          rw [← hV]
          clear kB_0 kB_1 kQ_0 kQ_1
          clear kB kQ hV
          go_cut [9] (fun s9 wx => s9 = .int .i64 0 ∧ Box2 wx w1.heap.size (.int .i64 (hi (a.tdiv b - 1))) (.int .u64 (lo (a.tdiv b - 1))) 38 ∧ Box2 wx (w1.heap.size + 1) (.int .i64 (hi (a.tmod b))) (.int .u64 (lo (a.tmod b))) 38 ∧
            Box2 wx (w.heap.size + 1) (.int .i64 (hi b)) (.int .u64 (lo b)) 38 ∧ Box2 wx (w.heap.size + 1 + 1) (.int .i64 0) (.int .u64 0) 38 ∧ Box2 wx (w.heap.size + 1 + 1 + 1) (.int .i64 0) (.int .u64 0) 38 ∧ Ext w wx)
          case first =>
            have hP_0 := hP.c0; have hP_1 := hP.c1
            have d0 := hP.drew.c0
            have d1 := hP.drew.c1
            go_region_with (first
              | (go_at_call 51; refine (H2.out 1 _ (by omega) (by omega)).mono ?_; rintro e w2 ⟨rfl, x2⟩; have p := hP.drew.ext x2; have p0 := p.c0; have p1 := p.c1)
              | (go_at_call 130; refine (H3.out (a.tdiv b) 1 _ hq hW1).mono ?_; rw [show RetT _ (a.tdiv b - 1) = fun e w' => e = .returned (.tuple #[.agg #[.int .i64 (hi (a.tdiv b - 1)), .int .u64 (lo (a.tdiv b - 1))], .int .i64 0]) ∧ Ext _ w' from by unfold RetT; rw [thi_yes hq1, tlo_yes hq1, ter_yes hq1]]; rintro e w3 ⟨rfl, x3⟩; have q := (hP.drew.ext x2).ext x3; have q0 := q.c0; have q1 := q.c1; have q2 := q.f0; have q3 := q.f1))
            all_goals
              go_wp2_with fail
              go_meet
              exact ⟨rfl, q.set _ _, ((hQ.drew.ext x2).ext x3).other2 (by omega) _ _, ((hB.drew.ext x2).ext x3).other2 (by omega) _ _, ((hR.drew.ext x2).ext x3).other2 (by omega) _ _, ((hS.drew.ext x2).ext x3).other2 (by omega) _ _, Ext.set (Ext.set (Ext.trans (Ext.trans (Ext.drew xw) x2) x3) (by omega)) (by omega)⟩
          case rest =>
            obtain ⟨rfl, hP, hQ, hB, hR, hS, xw⟩ := hcut
            have hQ_0 := hQ.c0; have hQ_1 := hQ.c1; have hB_0 := hB.c0; have hB_1 := hB.c1
            go_wp2_with fail
            clear hQ_0 hQ_1 hB_0 hB_1
            refine (H4.out _ _ _ hrW hb).mono ?_
            rintro e w4 ⟨rfl, x4⟩
            rw [thi_yes hr1, tlo_yes hr1, ter_yes hr1]
            (first | replace xw := Ext.trans xw x4 | replace xw := Ext.trans (Ext.alloc xw) x4 | replace xw := Ext.trans (Ext.drew xw) x4 | replace xw := Ext.trans (Ext.alloc (Ext.drew xw)) x4); (first | replace hP := hP.ext x4 | replace hP := (hP.alloc _).ext x4 | replace hP := hP.drew.ext x4 | replace hP := (hP.drew.alloc _).ext x4); (first | replace hQ := hQ.ext x4 | replace hQ := (hQ.alloc _).ext x4 | replace hQ := hQ.drew.ext x4 | replace hQ := (hQ.drew.alloc _).ext x4); (first | replace hB := hB.ext x4 | replace hB := (hB.alloc _).ext x4 | replace hB := hB.drew.ext x4 | replace hB := (hB.drew.alloc _).ext x4); (first | replace hR := hR.ext x4 | replace hR := (hR.alloc _).ext x4 | replace hR := hR.drew.ext x4 | replace hR := (hR.drew.alloc _).ext x4); (first | replace hS := hS.ext x4 | replace hS := (hS.alloc _).ext x4 | replace hS := hS.drew.ext x4 | replace hS := (hS.drew.alloc _).ext x4)
            have hQ_0 := hQ.c0; have hQ_1 := hQ.c1
            have hQ_2 := hQ.f0; have hQ_3 := hQ.f1
            go_wp2_with fail
            clear hQ_0 hQ_1 hQ_2 hQ_3
            obtain ⟨U, hU⟩ : ∃ U, U = (w4.setCell ⟨w1.heap.size + 1, 0, none⟩ (.int .i64 (hi (a.tmod b + b)))).setCell ⟨w1.heap.size + 1, 1, none⟩ (.int .u64 (lo (a.tmod b + b))) := ⟨_, rfl⟩
            replace hP : Box2 U w1.heap.size (.int .i64 (hi (a.tdiv b - 1))) (.int .u64 (lo (a.tdiv b - 1))) 38 := by rw [hU]; exact hP.other2 (by omega) _ _
            replace hR : Box2 U (w.heap.size + 1 + 1) (.int .i64 0) (.int .u64 0) 38 := by rw [hU]; exact hR.other2 (by omega) _ _
            replace hS : Box2 U (w.heap.size + 1 + 1 + 1) (.int .i64 0) (.int .u64 0) 38 := by rw [hU]; exact hS.other2 (by omega) _ _
            replace hQ : Box2 U (w1.heap.size + 1) (.int .i64 (hi (a.tmod b + b))) (.int .u64 (lo (a.tmod b + b))) 38 := by rw [hU]; exact hQ.set _ _
            replace xw : Ext w U := by rw [hU]; exact Ext.set (Ext.set xw (by omega)) (by omega)
            rw [← hU]
            clear hU
            have n1 : ¬ w1.heap.size = w.heap.size + 1 + 1 := by omega
            have n2 : ¬ w1.heap.size = w.heap.size + 1 + 1 + 1 := by omega
            have n3 : ¬ w1.heap.size + 1 = w.heap.size + 1 + 1 := by omega
            have n4 : ¬ w1.heap.size + 1 = w.heap.size + 1 + 1 + 1 := by omega
            have n5 : ¬ w.heap.size + 1 + 1 = w1.heap.size := by omega
            have n6 : ¬ w.heap.size + 1 + 1 + 1 = w1.heap.size := by omega
            have n7 : ¬ w.heap.size + 1 = w1.heap.size := by omega
            have n8 : ¬ w.heap.size + 1 + 1 = w1.heap.size + 1 := by omega
            have n9 : ¬ w1.heap.size = w.heap.size + 1 := by omega
            have hP_0 := hP.c0; have hP_1 := hP.c1; have hQ_0 := hQ.c0; have hQ_1 := hQ.c1; have hR_0 := hR.c0; have hR_1 := hR.c1; have hS_0 := hS.c0; have hS_1 := hS.c1
            have hR_2 := hR.f0; have hR_3 := hR.f1; have hS_2 := hS.f0; have hS_3 := hS.f1
            go_region
            go_wp2_with fail
            refine bodyPost_ret (v := .tuple #[.agg #[.int .i64 (hi (a.tdiv b - 1)), .int .u64 (lo (a.tdiv b - 1))], .agg #[.int .i64 (hi (a.tmod b + b)), .int .u64 (lo (a.tmod b + b))], .int .i64 0]) (by simp [results, Try.results178, go_sem, hR_0, hR_1, hS_0, hS_1]) rfl (retQ_yes hq1 ?_)
            exact Ext.drew (Ext.set (Ext.set (Ext.set (Ext.set xw (by omega)) (by omega)) (by omega)) (by omega))
  · have hr := trunc_room ha h0 hq
    obtain ⟨e1, e2⟩ := floor_same h0 (Or.inl hr)
    have hno : ¬ W128 (a.fdiv b) := by rw [e1]; exact hq
    clear e1 e2 hr
    go_enter Try.func178, Try.ntmps178
    go_wp2_with fail
    obtain ⟨W, hW⟩ : ∃ W, W = (((w.alloc (.cells #[.int .i64 (hi a), .int .u64 (lo a)] 38)).alloc (.cells #[.int .i64 (hi b), .int .u64 (lo b)] 38)).alloc (.cells #[.int .i64 0, .int .u64 0] 38)).alloc (.cells #[.int .i64 0, .int .u64 0] 38) := ⟨_, rfl⟩
    rw [← hW]
    have hB : Box2 W (w.heap.size + 1) (.int .i64 (hi b)) (.int .u64 (lo b)) 38 := by rw [hW]; exact ((Box2.new (by simp)).alloc _).alloc _
    have hR : Box2 W (w.heap.size + 1 + 1) (.int .i64 0) (.int .u64 0) 38 := by rw [hW]; exact (Box2.new (by simp)).alloc _
    have hS : Box2 W (w.heap.size + 1 + 1 + 1) (.int .i64 0) (.int .u64 0) 38 := by rw [hW]; exact Box2.new (by simp)
    have xw : Ext w W := by rw [hW]; exact (Ext.refl w).alloc.alloc.alloc.alloc
    clear hW
    refine (H1.out _).mono ?_
    rintro e w1 ⟨rfl, x1⟩
    (first | replace xw := Ext.trans xw x1 | replace xw := Ext.trans (Ext.alloc xw) x1 | replace xw := Ext.trans (Ext.drew xw) x1 | replace xw := Ext.trans (Ext.alloc (Ext.drew xw)) x1); (first | replace hB := hB.ext x1 | replace hB := (hB.alloc _).ext x1 | replace hB := hB.drew.ext x1 | replace hB := (hB.drew.alloc _).ext x1); (first | replace hR := hR.ext x1 | replace hR := (hR.alloc _).ext x1 | replace hR := hR.drew.ext x1 | replace hR := (hR.drew.alloc _).ext x1); (first | replace hS := hS.ext x1 | replace hS := (hS.alloc _).ext x1 | replace hS := hS.drew.ext x1 | replace hS := (hS.drew.alloc _).ext x1)
    have y1 := hS.kind.lt
    rw [thi_no hq, tlo_no hq, ter_no hq, show qh (a.tdiv b) (a.tmod b) = 0 from if_neg hq, show ql (a.tdiv b) (a.tmod b) = 0 from if_neg hq]
    replace hR := (hR.alloc (.cells #[.int .i64 0, .int .u64 0] 38)).alloc (.cells #[.int .i64 0, .int .u64 0] 38)
    replace hS := (hS.alloc (.cells #[.int .i64 0, .int .u64 0] 38)).alloc (.cells #[.int .i64 0, .int .u64 0] 38)
    have hR_0 := hR.c0; have hR_1 := hR.c1; have hS_0 := hS.c0; have hS_1 := hS.c1
    have hR_2 := hR.f0; have hR_3 := hR.f1; have hS_2 := hS.f0; have hS_3 := hS.f1
    go_wp2_with fail
    refine bodyPost_ret (v := .tuple #[.agg #[.int .i64 0, .int .u64 0], .agg #[.int .i64 0, .int .u64 0], .int .i64 2]) (by simp [results, Try.results178, go_sem, hR_0, hR_1, hS_0, hS_1]) rfl (retQ_no hno ?_)
    exact Ext.set (Ext.set (Ext.set (Ext.set (Ext.alloc (Ext.alloc xw)) (by omega)) (by omega)) (by omega)) (by omega)
end Go.Proofs.Ytcndfpfjckkinaa

/-
  divide.By.
-/
namespace Go.Proofs.Ytcndfpfjckkinaa
open Go Go.RowKit

end Go.Proofs.Ytcndfpfjckkinaa

/-
  divide.Gcd.
-/
namespace Go.Proofs.Ytcndfpfjckkinaa
open Go Go.RowKit

end Go.Proofs.Ytcndfpfjckkinaa

/-
  The reference's Told and Floor of layer 3.
-/
namespace Go.Proofs.Ytcndfpfjckkinaa
open Go Go.RowKit

end Go.Proofs.Ytcndfpfjckkinaa

/-
  What every right program answers: alive of layer 3.
-/
namespace Go.Proofs.Ytcndfpfjckkinaa
open Go Go.RowKit

end Go.Proofs.Ytcndfpfjckkinaa

/-
  The law DivideBys, walked.
-/
namespace Go.Proofs.Ytcndfpfjckkinaa
open Go Go.RowKit

end Go.Proofs.Ytcndfpfjckkinaa
end
section
/-
  divide.bare.down: the iterator over a number's bits, the highest one first: its contract for a range over a function.
-/
namespace Go.Proofs.Ytcndfpfjckkinaa
open Go Go.RowKit Go.Shelf
attribute [local go_sem] Oper.semAt_some

end Go.Proofs.Ytcndfpfjckkinaa

/-
  divide.bare: less, down.
-/
namespace Go.Proofs.Ytcndfpfjckkinaa
open Go Go.RowKit

end Go.Proofs.Ytcndfpfjckkinaa

/-
  divide.bare.over by a number of more than 64 bits: the range over a number's bits.
-/
namespace Go.Proofs.Ytcndfpfjckkinaa
open Go Go.RowKit Go.Shelf
attribute [local go_sem] Oper.semAt_some

end Go.Proofs.Ytcndfpfjckkinaa

/-
  divide.over for every divisor; Trunc and Floor for every two numbers.
-/
namespace Go.Proofs.Ytcndfpfjckkinaa
open Go Go.RowKit

set_option maxRecDepth 100000 in
set_option maxHeartbeats 1600000 in
theorem dfloor0 (a : Int) (w : World) (q r : Int) :
    Calls Try.prog 178 #[.agg #[.int .i64 (hi a), .int .u64 (lo a)], .agg #[.int .i64 0, .int .u64 0]] w (RetF w 0 q r) := by
  have H1 := Lib.hid dtrunc0
  go_enter Try.func178, Try.ntmps178
  go_wp2_with fail
  obtain ⟨W, hW⟩ : ∃ W, W = (((w.alloc (.cells #[.int .i64 (hi a), .int .u64 (lo a)] 38)).alloc (.cells #[.int .i64 0, .int .u64 0] 38)).alloc (.cells #[.int .i64 0, .int .u64 0] 38)).alloc (.cells #[.int .i64 0, .int .u64 0] 38) := ⟨_, rfl⟩
  rw [← hW]
  have hR : Box2 W (w.heap.size + 1 + 1) (.int .i64 0) (.int .u64 0) 38 := by rw [hW]; exact (Box2.new (by simp)).alloc _
  have hS : Box2 W (w.heap.size + 1 + 1 + 1) (.int .i64 0) (.int .u64 0) 38 := by rw [hW]; exact Box2.new (by simp)
  have xw : Ext w W := by rw [hW]; exact (Ext.refl w).alloc.alloc.alloc.alloc
  clear hW
  refine (H1.out a _ q r).mono ?_
  rintro e w1 ⟨rfl, x1⟩
  (first | replace xw := Ext.trans xw x1 | replace xw := Ext.trans (Ext.alloc xw) x1 | replace xw := Ext.trans (Ext.drew xw) x1 | replace xw := Ext.trans (Ext.alloc (Ext.drew xw)) x1); (first | replace hR := hR.ext x1 | replace hR := (hR.alloc _).ext x1 | replace hR := hR.drew.ext x1 | replace hR := (hR.drew.alloc _).ext x1); (first | replace hS := hS.ext x1 | replace hS := (hS.alloc _).ext x1 | replace hS := hS.drew.ext x1 | replace hS := (hS.drew.alloc _).ext x1)
  replace hR := (hR.alloc (.cells #[.int .i64 0, .int .u64 0] 38)).alloc (.cells #[.int .i64 0, .int .u64 0] 38)
  replace hS := (hS.alloc (.cells #[.int .i64 0, .int .u64 0] 38)).alloc (.cells #[.int .i64 0, .int .u64 0] 38)
  have g1 : z0 0 (thi q) = 0 := rfl
  have g2 : z0 0 (tlo q) = 0 := rfl
  have g3 : z0 0 (qh q r) = 0 := rfl
  have g4 : z0 0 (ql q r) = 0 := rfl
  have g5 : er 0 q = 3 := rfl
  rw [g1, g2, g3, g4, g5]
  have hR_0 := hR.c0; have hR_1 := hR.c1; have hS_0 := hS.c0; have hS_1 := hS.c1
  have hR_2 := hR.f0; have hR_3 := hR.f1; have hS_2 := hS.f0; have hS_3 := hS.f1
  go_wp2_with fail
  refine bodyPost_ret (v := .tuple #[.agg #[.int .i64 0, .int .u64 0], .agg #[.int .i64 0, .int .u64 0], .int .i64 3]) (by simp [results, Try.results178, go_sem, hR_0, hR_1, hS_0, hS_1]) rfl (retF_0 ?_)
  exact Ext.set (Ext.set (Ext.set (Ext.set (Ext.alloc (Ext.alloc xw)) (by omega)) (by omega)) (by omega)) (by omega)
theorem dfloor_any (a b : Int) (w : World) (ha : W128 a) (hb : W128 b) :
    Calls Try.prog 178 #[.agg #[.int .i64 (hi a), .int .u64 (lo a)], .agg #[.int .i64 (hi b), .int .u64 (lo b)]] w (RetF w b (a.fdiv b) (a.fmod b)) := by
  by_cases h0 : b = 0
  · subst h0; exact dfloor0 a w _ _
  · exact (dfloor a b w ha hb h0 (trunc_any ha hb h0)).mono fun e w' h => retF_q h0 h
end Go.Proofs.Ytcndfpfjckkinaa

/-
  The reference's Trunc of layer 3 at a divisor of 0.
-/
namespace Go.Proofs.Ytcndfpfjckkinaa
open Go Go.RowKit

end Go.Proofs.Ytcndfpfjckkinaa

/-
  Small laws for the walks: a world gets a name; how great quotients and rests are.
-/
namespace Go.Proofs.Ytcndfpfjckkinaa
open Go Go.RowKit

theorem fmod_lt {a b : Int} (h0 : b ≠ 0) : (a.fmod b).natAbs < b.natAbs := by
  by_cases h : 0 < b
  · have h1 := Int.fmod_eq_emod_of_nonneg a (show 0 ≤ b by omega)
    have := Int.emod_nonneg a h0
    have := Int.emod_lt_of_pos a h
    omega
  · obtain ⟨k1, k2, k3⟩ := tdm (a := a) h0
    by_cases hs : a.tmod b = 0 ∨ (a.tmod b < 0 ↔ b < 0)
    · rw [(floor_same h0 hs).2]; omega
    · rw [(floor_less h0 (fun e => hs (Or.inl e)) (fun e => hs (Or.inr e))).2]; omega
theorem fmod_b {K : Nat} {a b : Int} (h : Bits K b) (h0 : b ≠ 0) : Bits K (a.fmod b) := by
  have := fmod_lt (a := a) h0
  exact h.le (by omega)
theorem fdiv_le {a b : Int} (h0 : b ≠ 0) : (a.fdiv b).natAbs ≤ a.natAbs + 1 := by
  have e := tdiv_nat (a := a) (b := b)
  have h1 : a.natAbs / b.natAbs ≤ a.natAbs := Nat.div_le_self _ _
  by_cases hs : a.tmod b = 0 ∨ (a.tmod b < 0 ↔ b < 0)
  · rw [(floor_same h0 hs).1]; omega
  · rw [(floor_less h0 (fun e => hs (Or.inl e)) (fun e => hs (Or.inr e))).1]; omega
theorem fdiv_b {K : Nat} {a b : Int} (h : Bits K a) (h0 : b ≠ 0) : Bits (K + 1) (a.fdiv b) := by
  have h1 := fdiv_le (a := a) h0
  have h2 : 0 < 2 ^ K := Nat.two_pow_pos K
  unfold Bits at *
  rw [Nat.pow_succ]; omega
end Go.Proofs.Ytcndfpfjckkinaa
end
section
/-
  Durations: totals, signs, what may be, and how a total is laid out; no program in sight.
-/
set_option linter.unusedVariables false
namespace Go.Proofs.Ytcndfpfjckkinaa

theorem ulen_pos {u : Int} (h : 4 ≤ u) (k : u ≤ 8) : 1 ≤ ulen u ∧ ulen u ≤ 86400000000000 := by unfold ulen; split <;> (try split) <;> (try split) <;> (try split) <;> (try split) <;> omega
end Go.Proofs.Ytcndfpfjckkinaa
end
section
/-
  The contracts of the first layers, as the reckoner wants them.
-/
set_option linter.unusedVariables false
namespace Go.Proofs.Ytcndfpfjckkinaa
open Go Go.RowKit Go.Ev

theorem wsub_yes (m n : Int) (hm : W128 m) (hn : W128 n) (h : W128 (m - n)) : Fn 130 [] [wv m, wv n] (.tuple #[wv (m - n), .int .i64 0]) := fun w _ => (wsub m n w hm hn).mono fun e w' ⟨h1, h2⟩ => ⟨by rw [h1, thi_yes h, tlo_yes h, ter_yes h], h2⟩
theorem wsub_any (m n : Int) (hm : W128 m) (hn : W128 n) : Fn 130 [] [wv m, wv n] (.tuple #[.agg #[.int .i64 (thi (m - n)), .int .u64 (tlo (m - n))], .int .i64 (ter (m - n))]) := fun w _ => wsub m n w hm hn
theorem wadd_any (m n : Int) (hm : W128 m) (hn : W128 n) : Fn 129 [] [wv m, wv n] (.tuple #[.agg #[.int .i64 (thi (m + n)), .int .u64 (tlo (m + n))], .int .i64 (ter (m + n))]) := fun w _ => wadd m n w hm hn
theorem dfloor_yes (a b : Int) (ha : W128 a) (hb : W128 b) (h0 : b ≠ 0) (h : W128 (a.fdiv b)) : Fn 178 [] [wv a, wv b] (.tuple #[wv (a.fdiv b), wv (a.fmod b), .int .i64 0]) := fun w _ => (dfloor_any a b w ha hb).mono fun e w' k => retF_yes h0 h k
/-! the reference's numbers -/
theorem fzsign (p : ZQ) (x : Int) (hx : Fit x) : Fn 146 [(p, x)] [zv p] (.int .i64 (cmpI x 0)) := fun w h => sign_z _ _ _ _ x w (one_z h) hx
theorem fzofu (n : Int) (h0 : 0 ≤ n) (h1 : n < 18446744073709551616) : FnZ 127 [] [.int .u64 n] zv n := fun w h => (ofu_any n w h0 h1).mono fun _ _ => zret
end Go.Proofs.Ytcndfpfjckkinaa
end
section
/-
  round.up: the closures.
-/
set_option linter.unusedVariables false
set_option maxRecDepth 100000
namespace Go.Proofs.Ytcndfpfjckkinaa
open Go Go.RowKit Go.Ev

abbrev pv (b : Bool) (x : Int) (e : Bool) : Value := .agg #[.bool b, .int .i64 x, .bool e]
section
variable (k h : Nat) (b : Bool) (x : Int) (e : Bool) (w : World)
theorem c10 (hp : Both k h b x e w) : Calls Try.prog 222 #[.pointer (some ⟨h, 0, none⟩), .pointer (some ⟨k, 0, none⟩)] w (RB w (.bool (halfB x (!e)))) := by
  refine u_of (args := [.pointer (some ⟨h, 0, none⟩), .pointer (some ⟨k, 0, none⟩)]) Try.func222 rfl (Both.stable k h b x e) hp ?_
  refine u_load (fun w q => load_fn q.1.c0) (by kernel_rfl) ?_
  refine u_load (fun w q => load_bool q.2.c2) (by kernel_rfl) ?_
  refine u_call (vs := [.bool (!e), .pointer (some ⟨k, 0, none⟩)]) ent213 (fun w q => half_c k b x e (!e) w q.2) (by kernel_rfl) ?_
  exact u_ret Try.func222 (by kernel_rfl)
end
end Go.Proofs.Ytcndfpfjckkinaa
end
section
/-
  round.up.
-/
set_option linter.unusedVariables false
set_option maxRecDepth 100000
namespace Go.Proofs.Ytcndfpfjckkinaa
open Go Go.RowKit Go.Ev

theorem cells_vals {r : Nat → Nat} {N : Nat → Prop} {vs : List Value} {cs : Array Value} (h : CellsOk r N (vs.map .val) cs) : cs = vs.toArray := by
  obtain ⟨h1, h2⟩ := h
  apply Array.ext'
  apply List.ext_getElem?
  intro i
  by_cases hi : i < vs.length
  · obtain ⟨u, hu, ho, -⟩ := h2 i (.val vs[i]) (by simp [hi])
    obtain rfl : u = vs[i] := ho
    simp [hi, hu]
  · have e1 : vs[i]? = none := List.getElem?_eq_none (by omega)
    have e2 : cs[i]? = none := Array.getElem?_eq_none (by simp at h1; omega)
    simp [e1, e2]
theorem at_place {r : Nat → Nat} {N : Nat → Prop} {bl : List Bk} {base : Nat} {w : World} {b : Bool} {x : Int} {e : Bool} (hb : BlOk r N bl base w) (h0 : bl[0]? = some ⟨[.val (.bool b), .val (.int .i64 x), .val (.bool e)], 201⟩) (hn : ¬ N 0) : PlaceAt (r 0) b x e w := by
  obtain ⟨-, cs, hk, hc⟩ := hb.is 0 _ h0 hn
  have := cells_vals (vs := [.bool b, .int .i64 x, .bool e]) hc
  rw [this] at hk
  exact hk
theorem at_half {r : Nat → Nat} {N : Nat → Prop} {bl : List Bk} {base : Nat} {w : World} (hb : BlOk r N bl base w) (h1 : bl[1]? = some ⟨[.clo 213 [.ptr 0 0]], 232⟩) (hn : ¬ N 1) : HalfAt (r 1) (r 0) w ∧ ¬ N 0 := by
  obtain ⟨-, cs, hk, hsz, hc⟩ := hb.is 1 _ h1 hn
  obtain ⟨u, hu, ho, hf⟩ := hc 0 _ rfl
  have hfr : ¬ N 0 := hf (.ptr 0 0) (by simp)
  refine ⟨?_, hfr⟩
  have e : cs = #[u] := by
    apply Array.ext
    · simpa using hsz
    · intro i h2 h3
      have : i = 0 := by simp at h3; omega
      subst this
      have := Array.getElem?_eq_some_iff.1 hu
      obtain ⟨_, h4⟩ := this
      simpa using h4
  obtain rfl : u = _ := ho
  rw [e] at hk
  exact hk
/-- Does a mode go up? -/
def upB (mode : Int) (b : Bool) (x : Int) (e : Bool) : Bool :=
  if mode = 1 then true else if mode = 2 then false else if mode = 3 then !b else if mode = 4 then b else if mode = 5 then halfB x true else if mode = 6 then halfB x false
  else if mode = 7 then halfB x (!b) else if mode = 8 then halfB x b else halfB x (!e)
section
variable {f0 : FuncId} {E : List TypeId} {w0 : World} {R : Ending → World → Prop} {L : ZL} {c : Cf}
theorem st_c {f : FuncId} {ss : List SV} {v : Value} (he : Enters Try.prog f) (hc : callAt (adv Try.prog E 9999 400 c) = some (f, ss))
    (h : ∀ (r : Nat → Nat) (N : Nat → Prop) (w : World) (us : List Value), Args r N ss us → BlOk r N (adv Try.prog E 9999 400 c).bl w0.heap.size w → Calls Try.prog f us.toArray w (RB w v))
    (hk : Ru ⟨Try.prog, f0, E, w0, R⟩ (ZAll L) (resume (adv Try.prog E 9999 400 c) (.val v))) : Ru ⟨Try.prog, f0, E, w0, R⟩ (ZAll L) c :=
  ⟨run_adv mixed fun hs => run_call hc he (X := Unit) (fun _ => .val v) (fun _ _ => True) (fun _ _ _ _ _ => trivial) (fun _ _ => trivial)
    (fun r N w us ha hb hG => (h r N w us ha hb).mono fun e w' ⟨h1, h2⟩ => ⟨(), v, h1, rfl, h2, trivial⟩) (fun _ => hk.h.mono hs fun w h => h.1) hs⟩
end
theorem up_1 (b : Bool) (x : Int) (e : Bool) : Fn 179 [] [.int .i64 1, pv b x e] (.tuple #[.bool (true), .bool true]) := by
  refine fn_of Try.func179 rfl fun w => ?_
  refine st_c (v := .bool (true)) ent214 (ss := []) (by kernel_rfl) (fun r N w us ha hb => ?_) ?_
  · have h0 : (adv Try.prog [3] 9999 400 (startS Try.f179 [.int .i64 1, pv b x e])).bl[0]? = some ⟨[.val (.bool b), .val (.int .i64 x), .val (.bool e)], 201⟩ := by kernel_rfl
    obtain rfl : us = [] := by cases us with
      | nil => rfl
      | cons _ _ => exact ha.elim
    exact c2 w
  · exact st_ret Try.func179 (by kernel_rfl)
theorem up_2 (b : Bool) (x : Int) (e : Bool) : Fn 179 [] [.int .i64 2, pv b x e] (.tuple #[.bool (false), .bool true]) := by
  refine fn_of Try.func179 rfl fun w => ?_
  refine st_c (v := .bool (false)) ent215 (ss := []) (by kernel_rfl) (fun r N w us ha hb => ?_) ?_
  · have h0 : (adv Try.prog [3] 9999 400 (startS Try.f179 [.int .i64 2, pv b x e])).bl[0]? = some ⟨[.val (.bool b), .val (.int .i64 x), .val (.bool e)], 201⟩ := by kernel_rfl
    obtain rfl : us = [] := by cases us with
      | nil => rfl
      | cons _ _ => exact ha.elim
    exact c3 w
  · exact st_ret Try.func179 (by kernel_rfl)
theorem up_3 (b : Bool) (x : Int) (e : Bool) : Fn 179 [] [.int .i64 3, pv b x e] (.tuple #[.bool (!b), .bool true]) := by
  refine fn_of Try.func179 rfl fun w => ?_
  refine st_c (v := .bool (!b)) ent216 (ss := [.ptr 0 0]) (by kernel_rfl) (fun r N w us ha hb => ?_) ?_
  · have h0 : (adv Try.prog [3] 9999 400 (startS Try.f179 [.int .i64 3, pv b x e])).bl[0]? = some ⟨[.val (.bool b), .val (.int .i64 x), .val (.bool e)], 201⟩ := by kernel_rfl
    obtain ⟨u, rfl, hu⟩ : ∃ u, us = [u] ∧ SV.Ok r N (.ptr 0 0) u := by
      match us, ha with
      | [u], ha => exact ⟨u, rfl, ha.1⟩
    obtain rfl : u = _ := hu.1
    exact c4 (r 0) b x e w (at_place hb h0 hu.2)
  · exact st_ret Try.func179 (by kernel_rfl)
theorem up_4 (b : Bool) (x : Int) (e : Bool) : Fn 179 [] [.int .i64 4, pv b x e] (.tuple #[.bool (b), .bool true]) := by
  refine fn_of Try.func179 rfl fun w => ?_
  refine st_c (v := .bool (b)) ent217 (ss := [.ptr 0 0]) (by kernel_rfl) (fun r N w us ha hb => ?_) ?_
  · have h0 : (adv Try.prog [3] 9999 400 (startS Try.f179 [.int .i64 4, pv b x e])).bl[0]? = some ⟨[.val (.bool b), .val (.int .i64 x), .val (.bool e)], 201⟩ := by kernel_rfl
    obtain ⟨u, rfl, hu⟩ : ∃ u, us = [u] ∧ SV.Ok r N (.ptr 0 0) u := by
      match us, ha with
      | [u], ha => exact ⟨u, rfl, ha.1⟩
    obtain rfl : u = _ := hu.1
    exact c5 (r 0) b x e w (at_place hb h0 hu.2)
  · exact st_ret Try.func179 (by kernel_rfl)
theorem up_5 (b : Bool) (x : Int) (e : Bool) : Fn 179 [] [.int .i64 5, pv b x e] (.tuple #[.bool (halfB x true), .bool true]) := by
  refine fn_of Try.func179 rfl fun w => ?_
  refine st_c (v := .bool (halfB x true)) ent218 (ss := [.ptr 1 0]) (by kernel_rfl) (fun r N w us ha hb => ?_) ?_
  · have h0 : (adv Try.prog [3] 9999 400 (startS Try.f179 [.int .i64 5, pv b x e])).bl[0]? = some ⟨[.val (.bool b), .val (.int .i64 x), .val (.bool e)], 201⟩ := by kernel_rfl
    have h1 : (adv Try.prog [3] 9999 400 (startS Try.f179 [.int .i64 5, pv b x e])).bl[1]? = some ⟨[.clo 213 [.ptr 0 0]], 232⟩ := by kernel_rfl
    obtain ⟨u, rfl, hu⟩ : ∃ u, us = [u] ∧ SV.Ok r N (.ptr 1 0) u := by
      match us, ha with
      | [u], ha => exact ⟨u, rfl, ha.1⟩
    obtain rfl : u = _ := hu.1
    obtain ⟨q1, q2⟩ := at_half hb h1 hu.2
    exact c6 (r 0) (r 1) b x e w ⟨q1, at_place hb h0 q2⟩
  · exact st_ret Try.func179 (by kernel_rfl)
theorem up_6 (b : Bool) (x : Int) (e : Bool) : Fn 179 [] [.int .i64 6, pv b x e] (.tuple #[.bool (halfB x false), .bool true]) := by
  refine fn_of Try.func179 rfl fun w => ?_
  refine st_c (v := .bool (halfB x false)) ent219 (ss := [.ptr 1 0]) (by kernel_rfl) (fun r N w us ha hb => ?_) ?_
  · have h0 : (adv Try.prog [3] 9999 400 (startS Try.f179 [.int .i64 6, pv b x e])).bl[0]? = some ⟨[.val (.bool b), .val (.int .i64 x), .val (.bool e)], 201⟩ := by kernel_rfl
    have h1 : (adv Try.prog [3] 9999 400 (startS Try.f179 [.int .i64 6, pv b x e])).bl[1]? = some ⟨[.clo 213 [.ptr 0 0]], 232⟩ := by kernel_rfl
    obtain ⟨u, rfl, hu⟩ : ∃ u, us = [u] ∧ SV.Ok r N (.ptr 1 0) u := by
      match us, ha with
      | [u], ha => exact ⟨u, rfl, ha.1⟩
    obtain rfl : u = _ := hu.1
    obtain ⟨q1, q2⟩ := at_half hb h1 hu.2
    exact c7 (r 0) (r 1) b x e w ⟨q1, at_place hb h0 q2⟩
  · exact st_ret Try.func179 (by kernel_rfl)
theorem up_7 (b : Bool) (x : Int) (e : Bool) : Fn 179 [] [.int .i64 7, pv b x e] (.tuple #[.bool (halfB x (!b)), .bool true]) := by
  refine fn_of Try.func179 rfl fun w => ?_
  refine st_c (v := .bool (halfB x (!b))) ent220 (ss := [.ptr 1 0, .ptr 0 0]) (by kernel_rfl) (fun r N w us ha hb => ?_) ?_
  · have h0 : (adv Try.prog [3] 9999 400 (startS Try.f179 [.int .i64 7, pv b x e])).bl[0]? = some ⟨[.val (.bool b), .val (.int .i64 x), .val (.bool e)], 201⟩ := by kernel_rfl
    have h1 : (adv Try.prog [3] 9999 400 (startS Try.f179 [.int .i64 7, pv b x e])).bl[1]? = some ⟨[.clo 213 [.ptr 0 0]], 232⟩ := by kernel_rfl
    obtain ⟨u, u', rfl, hu, hu'⟩ : ∃ u u', us = [u, u'] ∧ SV.Ok r N (.ptr 1 0) u ∧ SV.Ok r N (.ptr 0 0) u' := by
      match us, ha with
      | [u, u'], ha => exact ⟨u, u', rfl, ha.1, ha.2.1⟩
    obtain rfl : u = _ := hu.1
    obtain rfl : u' = _ := hu'.1
    obtain ⟨q1, q2⟩ := at_half hb h1 hu.2
    exact c8 (r 0) (r 1) b x e w ⟨q1, at_place hb h0 q2⟩
  · exact st_ret Try.func179 (by kernel_rfl)
theorem up_8 (b : Bool) (x : Int) (e : Bool) : Fn 179 [] [.int .i64 8, pv b x e] (.tuple #[.bool (halfB x b), .bool true]) := by
  refine fn_of Try.func179 rfl fun w => ?_
  refine st_c (v := .bool (halfB x b)) ent221 (ss := [.ptr 1 0, .ptr 0 0]) (by kernel_rfl) (fun r N w us ha hb => ?_) ?_
  · have h0 : (adv Try.prog [3] 9999 400 (startS Try.f179 [.int .i64 8, pv b x e])).bl[0]? = some ⟨[.val (.bool b), .val (.int .i64 x), .val (.bool e)], 201⟩ := by kernel_rfl
    have h1 : (adv Try.prog [3] 9999 400 (startS Try.f179 [.int .i64 8, pv b x e])).bl[1]? = some ⟨[.clo 213 [.ptr 0 0]], 232⟩ := by kernel_rfl
    obtain ⟨u, u', rfl, hu, hu'⟩ : ∃ u u', us = [u, u'] ∧ SV.Ok r N (.ptr 1 0) u ∧ SV.Ok r N (.ptr 0 0) u' := by
      match us, ha with
      | [u, u'], ha => exact ⟨u, u', rfl, ha.1, ha.2.1⟩
    obtain rfl : u = _ := hu.1
    obtain rfl : u' = _ := hu'.1
    obtain ⟨q1, q2⟩ := at_half hb h1 hu.2
    exact c9 (r 0) (r 1) b x e w ⟨q1, at_place hb h0 q2⟩
  · exact st_ret Try.func179 (by kernel_rfl)
theorem up_9 (b : Bool) (x : Int) (e : Bool) : Fn 179 [] [.int .i64 9, pv b x e] (.tuple #[.bool (halfB x (!e)), .bool true]) := by
  refine fn_of Try.func179 rfl fun w => ?_
  refine st_c (v := .bool (halfB x (!e))) ent222 (ss := [.ptr 1 0, .ptr 0 0]) (by kernel_rfl) (fun r N w us ha hb => ?_) ?_
  · have h0 : (adv Try.prog [3] 9999 400 (startS Try.f179 [.int .i64 9, pv b x e])).bl[0]? = some ⟨[.val (.bool b), .val (.int .i64 x), .val (.bool e)], 201⟩ := by kernel_rfl
    have h1 : (adv Try.prog [3] 9999 400 (startS Try.f179 [.int .i64 9, pv b x e])).bl[1]? = some ⟨[.clo 213 [.ptr 0 0]], 232⟩ := by kernel_rfl
    obtain ⟨u, u', rfl, hu, hu'⟩ : ∃ u u', us = [u, u'] ∧ SV.Ok r N (.ptr 1 0) u ∧ SV.Ok r N (.ptr 0 0) u' := by
      match us, ha with
      | [u, u'], ha => exact ⟨u, u', rfl, ha.1, ha.2.1⟩
    obtain rfl : u = _ := hu.1
    obtain rfl : u' = _ := hu'.1
    obtain ⟨q1, q2⟩ := at_half hb h1 hu.2
    exact c10 (r 0) (r 1) b x e w ⟨q1, at_place hb h0 q2⟩
  · exact st_ret Try.func179 (by kernel_rfl)
theorem up_yes (mode : Int) (b : Bool) (x : Int) (e : Bool) (h1 : 1 ≤ mode) (h2 : mode ≤ 9) : Fn 179 [] [.int .i64 mode, pv b x e] (.tuple #[.bool (upB mode b x e), .bool true]) := by
  have hm : mode = 1 ∨ mode = 2 ∨ mode = 3 ∨ mode = 4 ∨ mode = 5 ∨ mode = 6 ∨ mode = 7 ∨ mode = 8 ∨ mode = 9 := by omega
  clear h1 h2
  rcases hm with rfl | rfl | rfl | rfl | rfl | rfl | rfl | rfl | rfl
  · exact up_1 b x e
  · exact up_2 b x e
  · exact up_3 b x e
  · exact up_4 b x e
  · exact up_5 b x e
  · exact up_6 b x e
  · exact up_7 b x e
  · exact up_8 b x e
  · exact up_9 b x e
theorem up_no (mode : Int) (b : Bool) (x : Int) (e : Bool) (h : mode < 1 ∨ 9 < mode) : Fn 179 [] [.int .i64 mode, pv b x e] (.tuple #[.bool false, .bool false]) := by
  by_cases k : mode < 1
  · refine fn_of Try.func179 rfl fun w => ?_
    refine st_b 18 (decide_eq_true k) (by kernel_rfl) ?_
    exact st_ret Try.func179 (by kernel_rfl)
  · refine fn_of Try.func179 rfl fun w => ?_
    refine st_b 18 (decide_eq_false k) (by kernel_rfl) ?_
    refine st_b 21 (b := decide (10 ≤ mode)) (decide_eq_true (by omega)) (by kernel_rfl) ?_
    exact st_ret Try.func179 (by kernel_rfl)
end Go.Proofs.Ytcndfpfjckkinaa
end
section
/-
  round.To and round.Mirror.
-/
set_option linter.unusedVariables false
set_option maxRecDepth 100000
namespace Go.Proofs.Ytcndfpfjckkinaa
open Go Go.RowKit Go.Ev

abbrev rtv (y : Int) : Value := .tuple #[.agg #[.int .i64 (thi y), .int .u64 (tlo y)], .int .i64 (ter y)]
theorem rtv_yes {y : Int} (h : W128 y) : rtv y = .tuple #[wv y, .int .i64 0] := by unfold rtv; rw [thi_yes h, tlo_yes h, ter_yes h]
theorem wz_no {r : Int} (h : r ≠ 0) : (hi r == 0 && (lo r == 0 && true)) = false := by
  have e := hi_lo r
  cases k : (hi r == 0 && (lo r == 0 && true)) with
  | false => rfl
  | true =>
    simp only [Bool.and_true, Bool.and_eq_true, beq_iff_eq] at k
    omega
theorem wz_yes {r : Int} (h : r = 0) : (hi r == 0 && (lo r == 0 && true)) = true := by subst h; decide
theorem dec_hi (n : Int) : decide (hi n < 0) = decide (n < 0) := by
  have e := hi_lo n
  have := lo_bd n
  rw [Bool.eq_iff_iff]
  simp only [decide_eq_true_eq]
  omega
theorem rem2 (q : Int) : ((lo q).tmod 2 == 0) = decide (q % 2 = 0) := by
  have := lo_bd q
  rw [Int.tmod_eq_emod_of_nonneg (by omega)]
  unfold lo
  rw [Bool.eq_iff_iff]
  simp
theorem between_fn (q r d : Int) (b : Bool) (hr : W128 r) (hd : W128 d) (h : W128 (d - r)) :
    Fn 180 [] [wv q, wv r, wv d, .bool b] (pv b (cmpI r (d - r)) (decide (q % 2 = 0))) := by
  refine fn_of Try.func180 rfl fun ww => ?_
  refine st_fn ent130 (wsub_yes (d) (r) (by assumption) (by assumption) (by assumption)) sub0 (by kernel_rfl) ?_
  refine st_b 24 (rem2 q) (by kernel_rfl) ?_
  refine st_fn ent47 (wcmp_fn (r) (d - r)) sub0 (by kernel_rfl) ?_
  exact st_ret Try.func180 (by kernel_rfl)
/-- Does the quotient of n and d go up? -/
def upQ (n d mode : Int) : Bool := upB mode (decide (n < 0)) (cmpI (n.fmod d) (d - n.fmod d)) (decide (n.fdiv d % 2 = 0))
/-- A fraction, d above 0, rounded. -/
def nearQ (n d mode : Int) : Int := if n.fmod d = 0 then n.fdiv d else if upQ n d mode = true then n.fdiv d + 1 else n.fdiv d
theorem up_t (mode : Int) (b : Bool) (x : Int) (e : Bool) (h1 : 1 ≤ mode) (h2 : mode ≤ 9) (h : upB mode b x e = true) : Fn 179 [] [.int .i64 mode, pv b x e] (.tuple #[.bool true, .bool true]) := h ▸ up_yes mode b x e h1 h2
theorem up_f (mode : Int) (b : Bool) (x : Int) (e : Bool) (h1 : 1 ≤ mode) (h2 : mode ≤ 9) (h : upB mode b x e = false) : Fn 179 [] [.int .i64 mode, pv b x e] (.tuple #[.bool false, .bool true]) := h ▸ up_yes mode b x e h1 h2
theorem fl_bd {w d : Int} (hw : W128 w) (h0 : 0 < d) : W128 (w.fdiv d) ∧ 0 ≤ w.fmod d ∧ w.fmod d < d ∧ d * w.fdiv d + w.fmod d = w := by
  have e := Int.mul_fdiv_add_fmod w d
  have h1 := Int.fmod_eq_emod_of_nonneg w (show 0 ≤ d by omega)
  have h2 := Int.emod_nonneg w (show d ≠ 0 by omega)
  have h3 := Int.emod_lt_of_pos w h0
  have h4 := Int.fdiv_eq_ediv_of_nonneg w (show 0 ≤ d by omega)
  refine ⟨?_, by omega, by omega, e⟩
  rw [h4]
  unfold W128 at *
  have k1 := Int.le_ediv_of_mul_le h0 (show -170141183460469231731687303715884105728 * d ≤ w by
    have : (170141183460469231731687303715884105728 : Int) * 1 ≤ 170141183460469231731687303715884105728 * d := Int.mul_le_mul_of_nonneg_left (by omega) (by omega)
    omega)
  have k2 : w / d < 170141183460469231731687303715884105728 := Int.ediv_lt_of_lt_mul h0 (by
    have : (170141183460469231731687303715884105728 : Int) * 1 ≤ 170141183460469231731687303715884105728 * d := Int.mul_le_mul_of_nonneg_left (by omega) (by omega)
    omega)
  omega
theorem to_arg2 (w d mode : Int) (hw : W128 w) (hd : W128 d) (h0 : 0 < d) (hc : cmpI d 0 = 1) (hm : mode < 1 ∨ 9 < mode) : Fn 104 [] [wv w, wv d, .int .i64 mode] (.tuple #[.agg #[.int .i64 0, .int .u64 0], .int .i64 1]) := by
  obtain ⟨hq, r0, r1, e⟩ := fl_bd hw h0
  have hne : d ≠ 0 := by omega
  have hr : W128 (w.fmod d) := by unfold W128 at *; omega
  have hl : W128 (d - w.fmod d) := by unfold W128 at *; omega
  refine fn_of Try.func104 rfl fun ww => ?_
  refine st_fn ent48 (wsign_fn (d)) sub0 (by kernel_rfl) ?_
  refine st_b 17 (show (decide (cmpI d 0 ≤ 0)) = false by exact decide_eq_false (by omega)) (by kernel_rfl) ?_
  refine st_fn ent178 (dfloor_yes (w) (d) (by assumption) (by assumption) (by assumption) (by assumption)) sub0 (by kernel_rfl) ?_
  refine st_fn ent180 (between_fn (w.fdiv d) (w.fmod d) (d) (decide (hi w < 0)) (by assumption) (by assumption) (by assumption)) sub0 (by kernel_rfl) ?_
  refine st_fn ent179 (up_no (mode) (decide (hi w < 0)) (cmpI (w.fmod d) (d - w.fmod d)) (decide (w.fdiv d % 2 = 0)) (by assumption)) sub0 (by kernel_rfl) ?_
  exact st_ret Try.func104 (by kernel_rfl)
theorem to_ok (w d mode : Int) (hw : W128 w) (hd : W128 d) (h0 : 0 < d) (h1 : 1 ≤ mode) (h2 : mode ≤ 9) : Fn 104 [] [wv w, wv d, .int .i64 mode] (rtv (d * nearQ w d mode)) := by
  obtain ⟨hq, r0, r1, e⟩ := fl_bd hw h0
  have hc : cmpI d 0 = 1 := cmpI_gt h0
  have hne : d ≠ 0 := by omega
  have hr : W128 (w.fmod d) := by unfold W128 at *; omega
  have hl : W128 (d - w.fmod d) := by unfold W128 at *; omega
  by_cases hz : w.fmod d = 0
  · have hy : d * nearQ w d mode = w := by unfold nearQ; rw [if_pos hz]; omega
    have hb := wz_yes hz
    rw [hy, rtv_yes hw]
    by_cases hu : upQ w d mode = true
    · have hu' : upB mode (decide (w < 0)) (cmpI (w.fmod d) (d - w.fmod d)) (decide (w.fdiv d % 2 = 0)) = true := hu
      refine fn_of Try.func104 rfl fun ww => ?_
      refine st_fn ent48 (wsign_fn (d)) sub0 (by kernel_rfl) ?_
      refine st_b 17 (show (decide (cmpI d 0 ≤ 0)) = false by exact decide_eq_false (by omega)) (by kernel_rfl) ?_
      refine st_fn ent178 (dfloor_yes (w) (d) (by assumption) (by assumption) (by assumption) (by assumption)) sub0 (by kernel_rfl) ?_
      refine st_b 33 (dec_hi w) (by kernel_rfl) ?_
      refine st_fn ent180 (between_fn (w.fdiv d) (w.fmod d) (d) (decide (w < 0)) (by assumption) (by assumption) (by assumption)) sub0 (by kernel_rfl) ?_
      refine st_fn ent179 (up_t (mode) (decide (w < 0)) (cmpI (w.fmod d) (d - w.fmod d)) (decide (w.fdiv d % 2 = 0)) (by assumption) (by assumption) (by assumption)) sub0 (by kernel_rfl) ?_
      refine st_b 45 (show (hi (w.fmod d) == 0 && (lo (w.fmod d) == 0 && true)) = true by assumption) (by kernel_rfl) ?_
      exact st_ret Try.func104 (by kernel_rfl)
    · have hu' : upB mode (decide (w < 0)) (cmpI (w.fmod d) (d - w.fmod d)) (decide (w.fdiv d % 2 = 0)) = false := (Bool.not_eq_true _).mp hu
      refine fn_of Try.func104 rfl fun ww => ?_
      refine st_fn ent48 (wsign_fn (d)) sub0 (by kernel_rfl) ?_
      refine st_b 17 (show (decide (cmpI d 0 ≤ 0)) = false by exact decide_eq_false (by omega)) (by kernel_rfl) ?_
      refine st_fn ent178 (dfloor_yes (w) (d) (by assumption) (by assumption) (by assumption) (by assumption)) sub0 (by kernel_rfl) ?_
      refine st_b 33 (dec_hi w) (by kernel_rfl) ?_
      refine st_fn ent180 (between_fn (w.fdiv d) (w.fmod d) (d) (decide (w < 0)) (by assumption) (by assumption) (by assumption)) sub0 (by kernel_rfl) ?_
      refine st_fn ent179 (up_f (mode) (decide (w < 0)) (cmpI (w.fmod d) (d - w.fmod d)) (decide (w.fdiv d % 2 = 0)) (by assumption) (by assumption) (by assumption)) sub0 (by kernel_rfl) ?_
      refine st_b 45 (show (hi (w.fmod d) == 0 && (lo (w.fmod d) == 0 && true)) = true by assumption) (by kernel_rfl) ?_
      exact st_ret Try.func104 (by kernel_rfl)
  · have hb := wz_no hz
    by_cases hu : upQ w d mode = true
    · have hu' : upB mode (decide (w < 0)) (cmpI (w.fmod d) (d - w.fmod d)) (decide (w.fdiv d % 2 = 0)) = true := hu
      have hy : d * nearQ w d mode = w + (d - w.fmod d) := by unfold nearQ; rw [if_neg hz, if_pos hu, Int.mul_add]; omega
      rw [hy]
      refine fn_of Try.func104 rfl fun ww => ?_
      refine st_fn ent48 (wsign_fn (d)) sub0 (by kernel_rfl) ?_
      refine st_b 17 (show (decide (cmpI d 0 ≤ 0)) = false by exact decide_eq_false (by omega)) (by kernel_rfl) ?_
      refine st_fn ent178 (dfloor_yes (w) (d) (by assumption) (by assumption) (by assumption) (by assumption)) sub0 (by kernel_rfl) ?_
      refine st_b 33 (dec_hi w) (by kernel_rfl) ?_
      refine st_fn ent180 (between_fn (w.fdiv d) (w.fmod d) (d) (decide (w < 0)) (by assumption) (by assumption) (by assumption)) sub0 (by kernel_rfl) ?_
      refine st_fn ent179 (up_t (mode) (decide (w < 0)) (cmpI (w.fmod d) (d - w.fmod d)) (decide (w.fdiv d % 2 = 0)) (by assumption) (by assumption) (by assumption)) sub0 (by kernel_rfl) ?_
      refine st_b 45 (show (hi (w.fmod d) == 0 && (lo (w.fmod d) == 0 && true)) = false by assumption) (by kernel_rfl) ?_
      refine st_fn ent130 (wsub_yes (d) (w.fmod d) (by assumption) (by assumption) (by assumption)) sub0 (by kernel_rfl) ?_
      refine st_fn ent129 (wadd_any (w) (d - w.fmod d) (by assumption) (by assumption)) sub0 (by kernel_rfl) ?_
      exact st_ret Try.func104 (by kernel_rfl)
    · have hu' : upB mode (decide (w < 0)) (cmpI (w.fmod d) (d - w.fmod d)) (decide (w.fdiv d % 2 = 0)) = false := (Bool.not_eq_true _).mp hu
      have hy : d * nearQ w d mode = w - w.fmod d := by unfold nearQ; rw [if_neg hz, if_neg hu]; omega
      rw [hy]
      refine fn_of Try.func104 rfl fun ww => ?_
      refine st_fn ent48 (wsign_fn (d)) sub0 (by kernel_rfl) ?_
      refine st_b 17 (show (decide (cmpI d 0 ≤ 0)) = false by exact decide_eq_false (by omega)) (by kernel_rfl) ?_
      refine st_fn ent178 (dfloor_yes (w) (d) (by assumption) (by assumption) (by assumption) (by assumption)) sub0 (by kernel_rfl) ?_
      refine st_b 33 (dec_hi w) (by kernel_rfl) ?_
      refine st_fn ent180 (between_fn (w.fdiv d) (w.fmod d) (d) (decide (w < 0)) (by assumption) (by assumption) (by assumption)) sub0 (by kernel_rfl) ?_
      refine st_fn ent179 (up_f (mode) (decide (w < 0)) (cmpI (w.fmod d) (d - w.fmod d)) (decide (w.fdiv d % 2 = 0)) (by assumption) (by assumption) (by assumption)) sub0 (by kernel_rfl) ?_
      refine st_b 45 (show (hi (w.fmod d) == 0 && (lo (w.fmod d) == 0 && true)) = false by assumption) (by kernel_rfl) ?_
      refine st_fn ent130 (wsub_any (w) (w.fmod d) (by assumption) (by assumption)) sub0 (by kernel_rfl) ?_
      exact st_ret Try.func104 (by kernel_rfl)
end Go.Proofs.Ytcndfpfjckkinaa
end
section
/-
  The reference's Near: a fraction rounded, by definition.
-/
set_option linter.unusedVariables false
set_option maxRecDepth 100000
namespace Go.Proofs.Ytcndfpfjckkinaa
open Go Go.RowKit Go.Ev

theorem z_zero {w : World} {q : ZQ} {x : Int} (h : ZOf q x w) : q.l = 0 ↔ x = 0 := (isZ_sign h).1
theorem z_dig {w : World} {q : ZQ} {x : Int} (h : ZOf q x w) (hx : x ≠ 0) : ∃ b off, q.a = some ⟨b, off, none⟩ ∧ w.cell? ⟨b, off, none⟩ = some (.int .i64 ((x.natAbs : Int) % 65536)) ∧ 0 < q.l := by
  have hz := z_zero h
  obtain ⟨ds, ⟨a, cap, b, off, e, h1, h2, h3⟩, hd, ht, hn, hneg⟩ := h
  simp only [Value.slice.injEq] at e
  obtain ⟨ea, el, ec⟩ := e
  have hl : 0 < ds.length := by
    rcases Nat.eq_zero_or_pos ds.length with h0 | h0
    · exact absurd (hz.1 (by rw [el]; exact h0)) hx
    · exact h0
  obtain ⟨e1, -⟩ := h2 hl
  refine ⟨b, off, by rw [ea, e1], ?_, by omega⟩
  have h4 := h3 0 hl
  rw [Nat.add_zero] at h4
  rw [h4]
  congr 2
  have hv := val_nonneg hd
  have hab : (x.natAbs : Int) = val ds := by
    rw [hn]; unfold sgn; split <;> omega
  rw [hab]
  cases ds with
  | nil => simp at hl
  | cons d ds =>
    have h0 := hd 0
    simp only [dg_eq, List.getD_cons_zero] at h0 ⊢
    simp only [val]
    omega
theorem idx0 {a : Option Addr} {l c b off : Nat} (ha : a = some ⟨b, off, none⟩) (hl : 0 < l) (w : World) : (Instr.indexAt 45 (.slice a l c) (.int .i64 0)).run Try.prog w = .ok (.pointer (some ⟨b, off, none⟩)) w := by
  have hu : Try.prog.underlying 45 = some (.slice 3) := by kernel_rfl
  have hs : (sizeOf 3).run Try.prog w = .ok 1 w := pureOf_run (P := Try.prog) (by kernel_rfl) w
  have h1 : (0 : Int) ≤ 0 ∧ (0 : Int) < (l : Int) := ⟨Int.le_refl 0, by omega⟩
  subst ha
  simp only [Instr.indexAt, asIntOf, Sem.run_bind, Sem.run_pure, Result.andThen_ok, run_underlying hu w, h1, and_self, if_true, hs]
  rfl
theorem cell_of {w : World} {q : ZQ} {x : Int} {b off : Nat} (h : ZOf q x w) (hx : x ≠ 0) (ha : q.a = some ⟨b, off, none⟩) : w.cell? ⟨b, off, none⟩ = some (.int .i64 ((x.natAbs : Int) % 65536)) := by
  obtain ⟨b', off', e, hc, -⟩ := z_dig h hx
  rw [ha] at e
  simp only [Option.some.injEq, Addr.mk.injEq] at e
  obtain ⟨rfl, rfl, -⟩ := e
  exact hc
theorem z_pure {w : World} {q : ZQ} {x : Int} (h : ZOf q x w) : (x = 0 → (q.l : Int) = 0) ∧ (x ≠ 0 → (q.l : Int) ≠ 0 ∧ ∃ b off, q.a = some ⟨b, off, none⟩ ∧ 0 < q.l) := by
  refine ⟨fun k => by have := (z_zero h).2 k; omega, fun k => ?_⟩
  obtain ⟨b, off, e, _, hl⟩ := z_dig h k
  exact ⟨by omega, b, off, e, hl⟩
theorem dig_even {x : Int} (h : x % 2 = 0) : (((x.natAbs : Int) % 65536).tmod 2 == 0) = true := by
  rw [Int.tmod_eq_emod_of_nonneg (by omega), beq_iff_eq]; omega
theorem dig_odd {x : Int} (h : ¬ x % 2 = 0) : (((x.natAbs : Int) % 65536).tmod 2 == 0) = false := by
  rw [Int.tmod_eq_emod_of_nonneg (by omega), beq_eq_false_iff_ne]; omega
theorem half_cmp (r d : Int) : cmpI (r + r) d = cmpI r (d - r) := by unfold cmpI; split <;> split <;> (try split) <;> (try split) <;> omega
theorem near_zero (p q : ZQ) (x y mode : Int) (hx : Bits 200 x) (hy : Bits 200 y) (h0 : 0 < y) (h1 : 1 ≤ mode) (h2 : mode ≤ 9) (hr : x.fmod y = 0) (e : x.fdiv y = nearQ x y mode) :
    FnZ 108 [(p, x), (q, y)] [zv p, zv q, .int .i64 mode] (fun z => .tuple #[zv z, .bool true]) (nearQ x y mode) := by
  have hc : cmpI (x.fmod y) 0 = 0 := by rw [hr]; rfl
  have hne : y ≠ 0 := by omega
  refine fnG_of Try.func108 rfl fun ww => ?_
  refine st_b 15 (show (decide (mode < 1)) = false by exact decide_eq_false (by omega)) (by kernel_rfl) ?_
  refine st_b 18 (show (decide (mode > 9)) = false by exact decide_eq_false (by omega)) (by kernel_rfl) ?_
  refine st_g ent122 (fzdiv (p) (q) (x) (y) (by exact Bits.mono hx (by decide)) (by exact Bits.mono hy (by decide)) (by assumption)) (subC 0 rfl (subC 1 rfl sub0)) (by kernel_rfl) (fun zq0 => ?_)
  refine st_fn ent146 (fzsign (zq0.snd) (x.fmod y) (by exact Bits.fit (fmod_b hy (by first | assumption | omega)) (by decide))) (subC 1 rfl sub0) (by kernel_rfl) ?_
  refine st_b 29 (show (cmpI (x.fmod y) 0 == 0) = true by exact decide_eq_true (by omega)) (by kernel_rfl) ?_
  exact st_retG (zq0.fst) Try.func108 (subE 0 rfl (by omega) sub0) (by kernel_rfl)
theorem near_no (p q : ZQ) (x y mode : Int) (h : mode < 1 ∨ 9 < mode) : Fn 108 [] [zv p, zv q, .int .i64 mode] (.tuple #[.agg #[.bool false, .slice none 0 0], .bool false]) := by
  by_cases k : mode < 1
  · refine fn_of Try.func108 rfl fun ww => ?_
    refine st_b 15 (show (decide (mode < 1)) = true by exact decide_eq_true (by omega)) (by kernel_rfl) ?_
    exact st_ret Try.func108 (by kernel_rfl)
  · refine fn_of Try.func108 rfl fun ww => ?_
    refine st_b 15 (show (decide (mode < 1)) = false by exact decide_eq_false (by omega)) (by kernel_rfl) ?_
    refine st_b 18 (show (decide (mode > 9)) = true by exact decide_eq_true (by omega)) (by kernel_rfl) ?_
    exact st_ret Try.func108 (by kernel_rfl)
theorem near_1n (p q : ZQ) (x y : Int) (hx : Bits 200 x) (hy : Bits 200 y) (h0 : 0 < y) (hne : y ≠ 0) (hc : cmpI (x.fmod y) 0 = 1) (hs : cmpI x 0 = -1)  (e : x.fdiv y + 1 = nearQ x y 1) :
    FnZ 108 [(p, x), (q, y)] [zv p, zv q, .int .i64 1] (fun z => .tuple #[zv z, .bool true]) (nearQ x y 1) := by
  refine fnG_of Try.func108 rfl fun ww => ?_
  refine st_g ent122 (fzdiv (p) (q) (x) (y) (by exact Bits.mono hx (by decide)) (by exact Bits.mono hy (by decide)) (by assumption)) (subC 0 rfl (subC 1 rfl sub0)) (by kernel_rfl) (fun zq0 => ?_)
  refine st_fn ent146 (fzsign (zq0.snd) (x.fmod y) (by exact Bits.fit (fmod_b hy (by first | assumption | omega)) (by decide))) (subC 1 rfl sub0) (by kernel_rfl) ?_
  refine st_b 29 (show (cmpI (x.fmod y) 0 == 0) = false by exact decide_eq_false (by omega)) (by kernel_rfl) ?_
  refine st_g ent127 (fzofu (1) (by omega) (by omega)) sub0 (by kernel_rfl) (fun zq2 => ?_)
  refine st_g ent125 (fzadd (zq0.fst) (zq2) (x.fdiv y) (1) (by exact Bits.fit (fdiv_b hx (by first | assumption | omega)) (by decide)) (by exact Bits.fit (show Bits 64 (1) from (by unfold Bits; decide)) (by decide))) (subC 1 rfl (subC 0 rfl sub0)) (by kernel_rfl) (fun zq3 => ?_)
  refine st_fn ent146 (fzsign (p) (x) (by exact Bits.fit hx (by decide))) (subC 4 rfl sub0) (by kernel_rfl) ?_
  refine st_b 38 (show (decide (cmpI x 0 < 0)) = true by exact decide_eq_true (by omega)) (by kernel_rfl) ?_
  refine st_g ent125 (fzadd (zq0.snd) (zq0.snd) (x.fmod y) (x.fmod y) (by exact Bits.fit (fmod_b hy (by first | assumption | omega)) (by decide)) (by exact Bits.fit (fmod_b hy (by first | assumption | omega)) (by decide))) (subC 3 rfl (subC 3 rfl sub0)) (by kernel_rfl) (fun zq5 => ?_)
  refine st_fn ent45 (fzcmp (zq5) (q) (x.fmod y + x.fmod y) (y) (by exact Bits.fit (Bits.add (Bits.mono (l := 200) (fmod_b hy (by first | assumption | omega)) (by decide)) (Bits.mono (l := 200) (fmod_b hy (by first | assumption | omega)) (by decide))) (by decide)) (by exact Bits.fit hy (by decide))) (subC 0 rfl (subC 6 rfl sub0)) (by kernel_rfl) ?_
  exact st_retG (zq3) Try.func108 (subE 1 rfl (by omega) sub0) (by kernel_rfl)
theorem near_1p (p q : ZQ) (x y : Int) (hx : Bits 200 x) (hy : Bits 200 y) (h0 : 0 < y) (hne : y ≠ 0) (hc : cmpI (x.fmod y) 0 = 1) (hs : 0 ≤ cmpI x 0)  (e : x.fdiv y + 1 = nearQ x y 1) :
    FnZ 108 [(p, x), (q, y)] [zv p, zv q, .int .i64 1] (fun z => .tuple #[zv z, .bool true]) (nearQ x y 1) := by
  refine fnG_of Try.func108 rfl fun ww => ?_
  refine st_g ent122 (fzdiv (p) (q) (x) (y) (by exact Bits.mono hx (by decide)) (by exact Bits.mono hy (by decide)) (by assumption)) (subC 0 rfl (subC 1 rfl sub0)) (by kernel_rfl) (fun zq0 => ?_)
  refine st_fn ent146 (fzsign (zq0.snd) (x.fmod y) (by exact Bits.fit (fmod_b hy (by first | assumption | omega)) (by decide))) (subC 1 rfl sub0) (by kernel_rfl) ?_
  refine st_b 29 (show (cmpI (x.fmod y) 0 == 0) = false by exact decide_eq_false (by omega)) (by kernel_rfl) ?_
  refine st_g ent127 (fzofu (1) (by omega) (by omega)) sub0 (by kernel_rfl) (fun zq2 => ?_)
  refine st_g ent125 (fzadd (zq0.fst) (zq2) (x.fdiv y) (1) (by exact Bits.fit (fdiv_b hx (by first | assumption | omega)) (by decide)) (by exact Bits.fit (show Bits 64 (1) from (by unfold Bits; decide)) (by decide))) (subC 1 rfl (subC 0 rfl sub0)) (by kernel_rfl) (fun zq3 => ?_)
  refine st_fn ent146 (fzsign (p) (x) (by exact Bits.fit hx (by decide))) (subC 4 rfl sub0) (by kernel_rfl) ?_
  refine st_b 38 (show (decide (cmpI x 0 < 0)) = false by exact decide_eq_false (by omega)) (by kernel_rfl) ?_
  refine st_g ent125 (fzadd (zq0.snd) (zq0.snd) (x.fmod y) (x.fmod y) (by exact Bits.fit (fmod_b hy (by first | assumption | omega)) (by decide)) (by exact Bits.fit (fmod_b hy (by first | assumption | omega)) (by decide))) (subC 3 rfl (subC 3 rfl sub0)) (by kernel_rfl) (fun zq5 => ?_)
  refine st_fn ent45 (fzcmp (zq5) (q) (x.fmod y + x.fmod y) (y) (by exact Bits.fit (Bits.add (Bits.mono (l := 200) (fmod_b hy (by first | assumption | omega)) (by decide)) (Bits.mono (l := 200) (fmod_b hy (by first | assumption | omega)) (by decide))) (by decide)) (by exact Bits.fit hy (by decide))) (subC 0 rfl (subC 6 rfl sub0)) (by kernel_rfl) ?_
  exact st_retG (zq3) Try.func108 (subE 1 rfl (by omega) sub0) (by kernel_rfl)
theorem near_2n (p q : ZQ) (x y : Int) (hx : Bits 200 x) (hy : Bits 200 y) (h0 : 0 < y) (hne : y ≠ 0) (hc : cmpI (x.fmod y) 0 = 1) (hs : cmpI x 0 = -1)  (e : x.fdiv y = nearQ x y 2) :
    FnZ 108 [(p, x), (q, y)] [zv p, zv q, .int .i64 2] (fun z => .tuple #[zv z, .bool true]) (nearQ x y 2) := by
  refine fnG_of Try.func108 rfl fun ww => ?_
  refine st_g ent122 (fzdiv (p) (q) (x) (y) (by exact Bits.mono hx (by decide)) (by exact Bits.mono hy (by decide)) (by assumption)) (subC 0 rfl (subC 1 rfl sub0)) (by kernel_rfl) (fun zq0 => ?_)
  refine st_fn ent146 (fzsign (zq0.snd) (x.fmod y) (by exact Bits.fit (fmod_b hy (by first | assumption | omega)) (by decide))) (subC 1 rfl sub0) (by kernel_rfl) ?_
  refine st_b 29 (show (cmpI (x.fmod y) 0 == 0) = false by exact decide_eq_false (by omega)) (by kernel_rfl) ?_
  refine st_g ent127 (fzofu (1) (by omega) (by omega)) sub0 (by kernel_rfl) (fun zq2 => ?_)
  refine st_g ent125 (fzadd (zq0.fst) (zq2) (x.fdiv y) (1) (by exact Bits.fit (fdiv_b hx (by first | assumption | omega)) (by decide)) (by exact Bits.fit (show Bits 64 (1) from (by unfold Bits; decide)) (by decide))) (subC 1 rfl (subC 0 rfl sub0)) (by kernel_rfl) (fun zq3 => ?_)
  refine st_fn ent146 (fzsign (p) (x) (by exact Bits.fit hx (by decide))) (subC 4 rfl sub0) (by kernel_rfl) ?_
  refine st_b 38 (show (decide (cmpI x 0 < 0)) = true by exact decide_eq_true (by omega)) (by kernel_rfl) ?_
  refine st_g ent125 (fzadd (zq0.snd) (zq0.snd) (x.fmod y) (x.fmod y) (by exact Bits.fit (fmod_b hy (by first | assumption | omega)) (by decide)) (by exact Bits.fit (fmod_b hy (by first | assumption | omega)) (by decide))) (subC 3 rfl (subC 3 rfl sub0)) (by kernel_rfl) (fun zq5 => ?_)
  refine st_fn ent45 (fzcmp (zq5) (q) (x.fmod y + x.fmod y) (y) (by exact Bits.fit (Bits.add (Bits.mono (l := 200) (fmod_b hy (by first | assumption | omega)) (by decide)) (Bits.mono (l := 200) (fmod_b hy (by first | assumption | omega)) (by decide))) (by decide)) (by exact Bits.fit hy (by decide))) (subC 0 rfl (subC 6 rfl sub0)) (by kernel_rfl) ?_
  exact st_retG (zq0.fst) Try.func108 (subE 3 rfl (by omega) sub0) (by kernel_rfl)
theorem near_2p (p q : ZQ) (x y : Int) (hx : Bits 200 x) (hy : Bits 200 y) (h0 : 0 < y) (hne : y ≠ 0) (hc : cmpI (x.fmod y) 0 = 1) (hs : 0 ≤ cmpI x 0)  (e : x.fdiv y = nearQ x y 2) :
    FnZ 108 [(p, x), (q, y)] [zv p, zv q, .int .i64 2] (fun z => .tuple #[zv z, .bool true]) (nearQ x y 2) := by
  refine fnG_of Try.func108 rfl fun ww => ?_
  refine st_g ent122 (fzdiv (p) (q) (x) (y) (by exact Bits.mono hx (by decide)) (by exact Bits.mono hy (by decide)) (by assumption)) (subC 0 rfl (subC 1 rfl sub0)) (by kernel_rfl) (fun zq0 => ?_)
  refine st_fn ent146 (fzsign (zq0.snd) (x.fmod y) (by exact Bits.fit (fmod_b hy (by first | assumption | omega)) (by decide))) (subC 1 rfl sub0) (by kernel_rfl) ?_
  refine st_b 29 (show (cmpI (x.fmod y) 0 == 0) = false by exact decide_eq_false (by omega)) (by kernel_rfl) ?_
  refine st_g ent127 (fzofu (1) (by omega) (by omega)) sub0 (by kernel_rfl) (fun zq2 => ?_)
  refine st_g ent125 (fzadd (zq0.fst) (zq2) (x.fdiv y) (1) (by exact Bits.fit (fdiv_b hx (by first | assumption | omega)) (by decide)) (by exact Bits.fit (show Bits 64 (1) from (by unfold Bits; decide)) (by decide))) (subC 1 rfl (subC 0 rfl sub0)) (by kernel_rfl) (fun zq3 => ?_)
  refine st_fn ent146 (fzsign (p) (x) (by exact Bits.fit hx (by decide))) (subC 4 rfl sub0) (by kernel_rfl) ?_
  refine st_b 38 (show (decide (cmpI x 0 < 0)) = false by exact decide_eq_false (by omega)) (by kernel_rfl) ?_
  refine st_g ent125 (fzadd (zq0.snd) (zq0.snd) (x.fmod y) (x.fmod y) (by exact Bits.fit (fmod_b hy (by first | assumption | omega)) (by decide)) (by exact Bits.fit (fmod_b hy (by first | assumption | omega)) (by decide))) (subC 3 rfl (subC 3 rfl sub0)) (by kernel_rfl) (fun zq5 => ?_)
  refine st_fn ent45 (fzcmp (zq5) (q) (x.fmod y + x.fmod y) (y) (by exact Bits.fit (Bits.add (Bits.mono (l := 200) (fmod_b hy (by first | assumption | omega)) (by decide)) (Bits.mono (l := 200) (fmod_b hy (by first | assumption | omega)) (by decide))) (by decide)) (by exact Bits.fit hy (by decide))) (subC 0 rfl (subC 6 rfl sub0)) (by kernel_rfl) ?_
  exact st_retG (zq0.fst) Try.func108 (subE 3 rfl (by omega) sub0) (by kernel_rfl)
theorem near_3n (p q : ZQ) (x y : Int) (hx : Bits 200 x) (hy : Bits 200 y) (h0 : 0 < y) (hne : y ≠ 0) (hc : cmpI (x.fmod y) 0 = 1) (hs : cmpI x 0 = -1)  (e : x.fdiv y = nearQ x y 3) :
    FnZ 108 [(p, x), (q, y)] [zv p, zv q, .int .i64 3] (fun z => .tuple #[zv z, .bool true]) (nearQ x y 3) := by
  refine fnG_of Try.func108 rfl fun ww => ?_
  refine st_g ent122 (fzdiv (p) (q) (x) (y) (by exact Bits.mono hx (by decide)) (by exact Bits.mono hy (by decide)) (by assumption)) (subC 0 rfl (subC 1 rfl sub0)) (by kernel_rfl) (fun zq0 => ?_)
  refine st_fn ent146 (fzsign (zq0.snd) (x.fmod y) (by exact Bits.fit (fmod_b hy (by first | assumption | omega)) (by decide))) (subC 1 rfl sub0) (by kernel_rfl) ?_
  refine st_b 29 (show (cmpI (x.fmod y) 0 == 0) = false by exact decide_eq_false (by omega)) (by kernel_rfl) ?_
  refine st_g ent127 (fzofu (1) (by omega) (by omega)) sub0 (by kernel_rfl) (fun zq2 => ?_)
  refine st_g ent125 (fzadd (zq0.fst) (zq2) (x.fdiv y) (1) (by exact Bits.fit (fdiv_b hx (by first | assumption | omega)) (by decide)) (by exact Bits.fit (show Bits 64 (1) from (by unfold Bits; decide)) (by decide))) (subC 1 rfl (subC 0 rfl sub0)) (by kernel_rfl) (fun zq3 => ?_)
  refine st_fn ent146 (fzsign (p) (x) (by exact Bits.fit hx (by decide))) (subC 4 rfl sub0) (by kernel_rfl) ?_
  refine st_b 38 (show (decide (cmpI x 0 < 0)) = true by exact decide_eq_true (by omega)) (by kernel_rfl) ?_
  refine st_g ent125 (fzadd (zq0.snd) (zq0.snd) (x.fmod y) (x.fmod y) (by exact Bits.fit (fmod_b hy (by first | assumption | omega)) (by decide)) (by exact Bits.fit (fmod_b hy (by first | assumption | omega)) (by decide))) (subC 3 rfl (subC 3 rfl sub0)) (by kernel_rfl) (fun zq5 => ?_)
  refine st_fn ent45 (fzcmp (zq5) (q) (x.fmod y + x.fmod y) (y) (by exact Bits.fit (Bits.add (Bits.mono (l := 200) (fmod_b hy (by first | assumption | omega)) (by decide)) (Bits.mono (l := 200) (fmod_b hy (by first | assumption | omega)) (by decide))) (by decide)) (by exact Bits.fit hy (by decide))) (subC 0 rfl (subC 6 rfl sub0)) (by kernel_rfl) ?_
  exact st_retG (zq0.fst) Try.func108 (subE 3 rfl (by omega) sub0) (by kernel_rfl)
theorem near_3p (p q : ZQ) (x y : Int) (hx : Bits 200 x) (hy : Bits 200 y) (h0 : 0 < y) (hne : y ≠ 0) (hc : cmpI (x.fmod y) 0 = 1) (hs : 0 ≤ cmpI x 0)  (e : x.fdiv y + 1 = nearQ x y 3) :
    FnZ 108 [(p, x), (q, y)] [zv p, zv q, .int .i64 3] (fun z => .tuple #[zv z, .bool true]) (nearQ x y 3) := by
  refine fnG_of Try.func108 rfl fun ww => ?_
  refine st_g ent122 (fzdiv (p) (q) (x) (y) (by exact Bits.mono hx (by decide)) (by exact Bits.mono hy (by decide)) (by assumption)) (subC 0 rfl (subC 1 rfl sub0)) (by kernel_rfl) (fun zq0 => ?_)
  refine st_fn ent146 (fzsign (zq0.snd) (x.fmod y) (by exact Bits.fit (fmod_b hy (by first | assumption | omega)) (by decide))) (subC 1 rfl sub0) (by kernel_rfl) ?_
  refine st_b 29 (show (cmpI (x.fmod y) 0 == 0) = false by exact decide_eq_false (by omega)) (by kernel_rfl) ?_
  refine st_g ent127 (fzofu (1) (by omega) (by omega)) sub0 (by kernel_rfl) (fun zq2 => ?_)
  refine st_g ent125 (fzadd (zq0.fst) (zq2) (x.fdiv y) (1) (by exact Bits.fit (fdiv_b hx (by first | assumption | omega)) (by decide)) (by exact Bits.fit (show Bits 64 (1) from (by unfold Bits; decide)) (by decide))) (subC 1 rfl (subC 0 rfl sub0)) (by kernel_rfl) (fun zq3 => ?_)
  refine st_fn ent146 (fzsign (p) (x) (by exact Bits.fit hx (by decide))) (subC 4 rfl sub0) (by kernel_rfl) ?_
  refine st_b 38 (show (decide (cmpI x 0 < 0)) = false by exact decide_eq_false (by omega)) (by kernel_rfl) ?_
  refine st_g ent125 (fzadd (zq0.snd) (zq0.snd) (x.fmod y) (x.fmod y) (by exact Bits.fit (fmod_b hy (by first | assumption | omega)) (by decide)) (by exact Bits.fit (fmod_b hy (by first | assumption | omega)) (by decide))) (subC 3 rfl (subC 3 rfl sub0)) (by kernel_rfl) (fun zq5 => ?_)
  refine st_fn ent45 (fzcmp (zq5) (q) (x.fmod y + x.fmod y) (y) (by exact Bits.fit (Bits.add (Bits.mono (l := 200) (fmod_b hy (by first | assumption | omega)) (by decide)) (Bits.mono (l := 200) (fmod_b hy (by first | assumption | omega)) (by decide))) (by decide)) (by exact Bits.fit hy (by decide))) (subC 0 rfl (subC 6 rfl sub0)) (by kernel_rfl) ?_
  exact st_retG (zq3) Try.func108 (subE 1 rfl (by omega) sub0) (by kernel_rfl)
theorem near_4n (p q : ZQ) (x y : Int) (hx : Bits 200 x) (hy : Bits 200 y) (h0 : 0 < y) (hne : y ≠ 0) (hc : cmpI (x.fmod y) 0 = 1) (hs : cmpI x 0 = -1)  (e : x.fdiv y + 1 = nearQ x y 4) :
    FnZ 108 [(p, x), (q, y)] [zv p, zv q, .int .i64 4] (fun z => .tuple #[zv z, .bool true]) (nearQ x y 4) := by
  refine fnG_of Try.func108 rfl fun ww => ?_
  refine st_g ent122 (fzdiv (p) (q) (x) (y) (by exact Bits.mono hx (by decide)) (by exact Bits.mono hy (by decide)) (by assumption)) (subC 0 rfl (subC 1 rfl sub0)) (by kernel_rfl) (fun zq0 => ?_)
  refine st_fn ent146 (fzsign (zq0.snd) (x.fmod y) (by exact Bits.fit (fmod_b hy (by first | assumption | omega)) (by decide))) (subC 1 rfl sub0) (by kernel_rfl) ?_
  refine st_b 29 (show (cmpI (x.fmod y) 0 == 0) = false by exact decide_eq_false (by omega)) (by kernel_rfl) ?_
  refine st_g ent127 (fzofu (1) (by omega) (by omega)) sub0 (by kernel_rfl) (fun zq2 => ?_)
  refine st_g ent125 (fzadd (zq0.fst) (zq2) (x.fdiv y) (1) (by exact Bits.fit (fdiv_b hx (by first | assumption | omega)) (by decide)) (by exact Bits.fit (show Bits 64 (1) from (by unfold Bits; decide)) (by decide))) (subC 1 rfl (subC 0 rfl sub0)) (by kernel_rfl) (fun zq3 => ?_)
  refine st_fn ent146 (fzsign (p) (x) (by exact Bits.fit hx (by decide))) (subC 4 rfl sub0) (by kernel_rfl) ?_
  refine st_b 38 (show (decide (cmpI x 0 < 0)) = true by exact decide_eq_true (by omega)) (by kernel_rfl) ?_
  refine st_g ent125 (fzadd (zq0.snd) (zq0.snd) (x.fmod y) (x.fmod y) (by exact Bits.fit (fmod_b hy (by first | assumption | omega)) (by decide)) (by exact Bits.fit (fmod_b hy (by first | assumption | omega)) (by decide))) (subC 3 rfl (subC 3 rfl sub0)) (by kernel_rfl) (fun zq5 => ?_)
  refine st_fn ent45 (fzcmp (zq5) (q) (x.fmod y + x.fmod y) (y) (by exact Bits.fit (Bits.add (Bits.mono (l := 200) (fmod_b hy (by first | assumption | omega)) (by decide)) (Bits.mono (l := 200) (fmod_b hy (by first | assumption | omega)) (by decide))) (by decide)) (by exact Bits.fit hy (by decide))) (subC 0 rfl (subC 6 rfl sub0)) (by kernel_rfl) ?_
  exact st_retG (zq3) Try.func108 (subE 1 rfl (by omega) sub0) (by kernel_rfl)
theorem near_4p (p q : ZQ) (x y : Int) (hx : Bits 200 x) (hy : Bits 200 y) (h0 : 0 < y) (hne : y ≠ 0) (hc : cmpI (x.fmod y) 0 = 1) (hs : 0 ≤ cmpI x 0)  (e : x.fdiv y = nearQ x y 4) :
    FnZ 108 [(p, x), (q, y)] [zv p, zv q, .int .i64 4] (fun z => .tuple #[zv z, .bool true]) (nearQ x y 4) := by
  refine fnG_of Try.func108 rfl fun ww => ?_
  refine st_g ent122 (fzdiv (p) (q) (x) (y) (by exact Bits.mono hx (by decide)) (by exact Bits.mono hy (by decide)) (by assumption)) (subC 0 rfl (subC 1 rfl sub0)) (by kernel_rfl) (fun zq0 => ?_)
  refine st_fn ent146 (fzsign (zq0.snd) (x.fmod y) (by exact Bits.fit (fmod_b hy (by first | assumption | omega)) (by decide))) (subC 1 rfl sub0) (by kernel_rfl) ?_
  refine st_b 29 (show (cmpI (x.fmod y) 0 == 0) = false by exact decide_eq_false (by omega)) (by kernel_rfl) ?_
  refine st_g ent127 (fzofu (1) (by omega) (by omega)) sub0 (by kernel_rfl) (fun zq2 => ?_)
  refine st_g ent125 (fzadd (zq0.fst) (zq2) (x.fdiv y) (1) (by exact Bits.fit (fdiv_b hx (by first | assumption | omega)) (by decide)) (by exact Bits.fit (show Bits 64 (1) from (by unfold Bits; decide)) (by decide))) (subC 1 rfl (subC 0 rfl sub0)) (by kernel_rfl) (fun zq3 => ?_)
  refine st_fn ent146 (fzsign (p) (x) (by exact Bits.fit hx (by decide))) (subC 4 rfl sub0) (by kernel_rfl) ?_
  refine st_b 38 (show (decide (cmpI x 0 < 0)) = false by exact decide_eq_false (by omega)) (by kernel_rfl) ?_
  refine st_g ent125 (fzadd (zq0.snd) (zq0.snd) (x.fmod y) (x.fmod y) (by exact Bits.fit (fmod_b hy (by first | assumption | omega)) (by decide)) (by exact Bits.fit (fmod_b hy (by first | assumption | omega)) (by decide))) (subC 3 rfl (subC 3 rfl sub0)) (by kernel_rfl) (fun zq5 => ?_)
  refine st_fn ent45 (fzcmp (zq5) (q) (x.fmod y + x.fmod y) (y) (by exact Bits.fit (Bits.add (Bits.mono (l := 200) (fmod_b hy (by first | assumption | omega)) (by decide)) (Bits.mono (l := 200) (fmod_b hy (by first | assumption | omega)) (by decide))) (by decide)) (by exact Bits.fit hy (by decide))) (subC 0 rfl (subC 6 rfl sub0)) (by kernel_rfl) ?_
  exact st_retG (zq0.fst) Try.func108 (subE 3 rfl (by omega) sub0) (by kernel_rfl)
theorem near_5nl (p q : ZQ) (x y : Int) (hx : Bits 200 x) (hy : Bits 200 y) (h0 : 0 < y) (hne : y ≠ 0) (hc : cmpI (x.fmod y) 0 = 1) (hs : cmpI x 0 = -1) (hh : cmpI (x.fmod y + x.fmod y) y = -1) (e : x.fdiv y = nearQ x y 5) :
    FnZ 108 [(p, x), (q, y)] [zv p, zv q, .int .i64 5] (fun z => .tuple #[zv z, .bool true]) (nearQ x y 5) := by
  refine fnG_of Try.func108 rfl fun ww => ?_
  refine st_g ent122 (fzdiv (p) (q) (x) (y) (by exact Bits.mono hx (by decide)) (by exact Bits.mono hy (by decide)) (by assumption)) (subC 0 rfl (subC 1 rfl sub0)) (by kernel_rfl) (fun zq0 => ?_)
  refine st_fn ent146 (fzsign (zq0.snd) (x.fmod y) (by exact Bits.fit (fmod_b hy (by first | assumption | omega)) (by decide))) (subC 1 rfl sub0) (by kernel_rfl) ?_
  refine st_b 29 (show (cmpI (x.fmod y) 0 == 0) = false by exact decide_eq_false (by omega)) (by kernel_rfl) ?_
  refine st_g ent127 (fzofu (1) (by omega) (by omega)) sub0 (by kernel_rfl) (fun zq2 => ?_)
  refine st_g ent125 (fzadd (zq0.fst) (zq2) (x.fdiv y) (1) (by exact Bits.fit (fdiv_b hx (by first | assumption | omega)) (by decide)) (by exact Bits.fit (show Bits 64 (1) from (by unfold Bits; decide)) (by decide))) (subC 1 rfl (subC 0 rfl sub0)) (by kernel_rfl) (fun zq3 => ?_)
  refine st_fn ent146 (fzsign (p) (x) (by exact Bits.fit hx (by decide))) (subC 4 rfl sub0) (by kernel_rfl) ?_
  refine st_b 38 (show (decide (cmpI x 0 < 0)) = true by exact decide_eq_true (by omega)) (by kernel_rfl) ?_
  refine st_g ent125 (fzadd (zq0.snd) (zq0.snd) (x.fmod y) (x.fmod y) (by exact Bits.fit (fmod_b hy (by first | assumption | omega)) (by decide)) (by exact Bits.fit (fmod_b hy (by first | assumption | omega)) (by decide))) (subC 3 rfl (subC 3 rfl sub0)) (by kernel_rfl) (fun zq5 => ?_)
  refine st_fn ent45 (fzcmp (zq5) (q) (x.fmod y + x.fmod y) (y) (by exact Bits.fit (Bits.add (Bits.mono (l := 200) (fmod_b hy (by first | assumption | omega)) (by decide)) (Bits.mono (l := 200) (fmod_b hy (by first | assumption | omega)) (by decide))) (by decide)) (by exact Bits.fit hy (by decide))) (subC 0 rfl (subC 6 rfl sub0)) (by kernel_rfl) ?_
  refine st_b 50 (show (decide (cmpI (x.fmod y + x.fmod y) y < 0)) = true by exact decide_eq_true (by omega)) (by kernel_rfl) ?_
  exact st_retG (zq0.fst) Try.func108 (subE 3 rfl (by omega) sub0) (by kernel_rfl)
theorem near_5ng (p q : ZQ) (x y : Int) (hx : Bits 200 x) (hy : Bits 200 y) (h0 : 0 < y) (hne : y ≠ 0) (hc : cmpI (x.fmod y) 0 = 1) (hs : cmpI x 0 = -1) (hh : cmpI (x.fmod y + x.fmod y) y = 1) (e : x.fdiv y + 1 = nearQ x y 5) :
    FnZ 108 [(p, x), (q, y)] [zv p, zv q, .int .i64 5] (fun z => .tuple #[zv z, .bool true]) (nearQ x y 5) := by
  refine fnG_of Try.func108 rfl fun ww => ?_
  refine st_g ent122 (fzdiv (p) (q) (x) (y) (by exact Bits.mono hx (by decide)) (by exact Bits.mono hy (by decide)) (by assumption)) (subC 0 rfl (subC 1 rfl sub0)) (by kernel_rfl) (fun zq0 => ?_)
  refine st_fn ent146 (fzsign (zq0.snd) (x.fmod y) (by exact Bits.fit (fmod_b hy (by first | assumption | omega)) (by decide))) (subC 1 rfl sub0) (by kernel_rfl) ?_
  refine st_b 29 (show (cmpI (x.fmod y) 0 == 0) = false by exact decide_eq_false (by omega)) (by kernel_rfl) ?_
  refine st_g ent127 (fzofu (1) (by omega) (by omega)) sub0 (by kernel_rfl) (fun zq2 => ?_)
  refine st_g ent125 (fzadd (zq0.fst) (zq2) (x.fdiv y) (1) (by exact Bits.fit (fdiv_b hx (by first | assumption | omega)) (by decide)) (by exact Bits.fit (show Bits 64 (1) from (by unfold Bits; decide)) (by decide))) (subC 1 rfl (subC 0 rfl sub0)) (by kernel_rfl) (fun zq3 => ?_)
  refine st_fn ent146 (fzsign (p) (x) (by exact Bits.fit hx (by decide))) (subC 4 rfl sub0) (by kernel_rfl) ?_
  refine st_b 38 (show (decide (cmpI x 0 < 0)) = true by exact decide_eq_true (by omega)) (by kernel_rfl) ?_
  refine st_g ent125 (fzadd (zq0.snd) (zq0.snd) (x.fmod y) (x.fmod y) (by exact Bits.fit (fmod_b hy (by first | assumption | omega)) (by decide)) (by exact Bits.fit (fmod_b hy (by first | assumption | omega)) (by decide))) (subC 3 rfl (subC 3 rfl sub0)) (by kernel_rfl) (fun zq5 => ?_)
  refine st_fn ent45 (fzcmp (zq5) (q) (x.fmod y + x.fmod y) (y) (by exact Bits.fit (Bits.add (Bits.mono (l := 200) (fmod_b hy (by first | assumption | omega)) (by decide)) (Bits.mono (l := 200) (fmod_b hy (by first | assumption | omega)) (by decide))) (by decide)) (by exact Bits.fit hy (by decide))) (subC 0 rfl (subC 6 rfl sub0)) (by kernel_rfl) ?_
  refine st_b 50 (show (decide (cmpI (x.fmod y + x.fmod y) y < 0)) = false by exact decide_eq_false (by omega)) (by kernel_rfl) ?_
  refine st_b 57 (show (decide (cmpI (x.fmod y + x.fmod y) y > 0)) = true by exact decide_eq_true (by omega)) (by kernel_rfl) ?_
  exact st_retG (zq3) Try.func108 (subE 1 rfl (by omega) sub0) (by kernel_rfl)
theorem near_5ne (p q : ZQ) (x y : Int) (hx : Bits 200 x) (hy : Bits 200 y) (h0 : 0 < y) (hne : y ≠ 0) (hc : cmpI (x.fmod y) 0 = 1) (hs : cmpI x 0 = -1) (hh : cmpI (x.fmod y + x.fmod y) y = 0) (e : x.fdiv y + 1 = nearQ x y 5) :
    FnZ 108 [(p, x), (q, y)] [zv p, zv q, .int .i64 5] (fun z => .tuple #[zv z, .bool true]) (nearQ x y 5) := by
  refine fnG_of Try.func108 rfl fun ww => ?_
  refine st_g ent122 (fzdiv (p) (q) (x) (y) (by exact Bits.mono hx (by decide)) (by exact Bits.mono hy (by decide)) (by assumption)) (subC 0 rfl (subC 1 rfl sub0)) (by kernel_rfl) (fun zq0 => ?_)
  refine st_fn ent146 (fzsign (zq0.snd) (x.fmod y) (by exact Bits.fit (fmod_b hy (by first | assumption | omega)) (by decide))) (subC 1 rfl sub0) (by kernel_rfl) ?_
  refine st_b 29 (show (cmpI (x.fmod y) 0 == 0) = false by exact decide_eq_false (by omega)) (by kernel_rfl) ?_
  refine st_g ent127 (fzofu (1) (by omega) (by omega)) sub0 (by kernel_rfl) (fun zq2 => ?_)
  refine st_g ent125 (fzadd (zq0.fst) (zq2) (x.fdiv y) (1) (by exact Bits.fit (fdiv_b hx (by first | assumption | omega)) (by decide)) (by exact Bits.fit (show Bits 64 (1) from (by unfold Bits; decide)) (by decide))) (subC 1 rfl (subC 0 rfl sub0)) (by kernel_rfl) (fun zq3 => ?_)
  refine st_fn ent146 (fzsign (p) (x) (by exact Bits.fit hx (by decide))) (subC 4 rfl sub0) (by kernel_rfl) ?_
  refine st_b 38 (show (decide (cmpI x 0 < 0)) = true by exact decide_eq_true (by omega)) (by kernel_rfl) ?_
  refine st_g ent125 (fzadd (zq0.snd) (zq0.snd) (x.fmod y) (x.fmod y) (by exact Bits.fit (fmod_b hy (by first | assumption | omega)) (by decide)) (by exact Bits.fit (fmod_b hy (by first | assumption | omega)) (by decide))) (subC 3 rfl (subC 3 rfl sub0)) (by kernel_rfl) (fun zq5 => ?_)
  refine st_fn ent45 (fzcmp (zq5) (q) (x.fmod y + x.fmod y) (y) (by exact Bits.fit (Bits.add (Bits.mono (l := 200) (fmod_b hy (by first | assumption | omega)) (by decide)) (Bits.mono (l := 200) (fmod_b hy (by first | assumption | omega)) (by decide))) (by decide)) (by exact Bits.fit hy (by decide))) (subC 0 rfl (subC 6 rfl sub0)) (by kernel_rfl) ?_
  refine st_b 50 (show (decide (cmpI (x.fmod y + x.fmod y) y < 0)) = false by exact decide_eq_false (by omega)) (by kernel_rfl) ?_
  refine st_b 57 (show (decide (cmpI (x.fmod y + x.fmod y) y > 0)) = false by exact decide_eq_false (by omega)) (by kernel_rfl) ?_
  exact st_retG (zq3) Try.func108 (subE 1 rfl (by omega) sub0) (by kernel_rfl)
theorem near_5pl (p q : ZQ) (x y : Int) (hx : Bits 200 x) (hy : Bits 200 y) (h0 : 0 < y) (hne : y ≠ 0) (hc : cmpI (x.fmod y) 0 = 1) (hs : 0 ≤ cmpI x 0) (hh : cmpI (x.fmod y + x.fmod y) y = -1) (e : x.fdiv y = nearQ x y 5) :
    FnZ 108 [(p, x), (q, y)] [zv p, zv q, .int .i64 5] (fun z => .tuple #[zv z, .bool true]) (nearQ x y 5) := by
  refine fnG_of Try.func108 rfl fun ww => ?_
  refine st_g ent122 (fzdiv (p) (q) (x) (y) (by exact Bits.mono hx (by decide)) (by exact Bits.mono hy (by decide)) (by assumption)) (subC 0 rfl (subC 1 rfl sub0)) (by kernel_rfl) (fun zq0 => ?_)
  refine st_fn ent146 (fzsign (zq0.snd) (x.fmod y) (by exact Bits.fit (fmod_b hy (by first | assumption | omega)) (by decide))) (subC 1 rfl sub0) (by kernel_rfl) ?_
  refine st_b 29 (show (cmpI (x.fmod y) 0 == 0) = false by exact decide_eq_false (by omega)) (by kernel_rfl) ?_
  refine st_g ent127 (fzofu (1) (by omega) (by omega)) sub0 (by kernel_rfl) (fun zq2 => ?_)
  refine st_g ent125 (fzadd (zq0.fst) (zq2) (x.fdiv y) (1) (by exact Bits.fit (fdiv_b hx (by first | assumption | omega)) (by decide)) (by exact Bits.fit (show Bits 64 (1) from (by unfold Bits; decide)) (by decide))) (subC 1 rfl (subC 0 rfl sub0)) (by kernel_rfl) (fun zq3 => ?_)
  refine st_fn ent146 (fzsign (p) (x) (by exact Bits.fit hx (by decide))) (subC 4 rfl sub0) (by kernel_rfl) ?_
  refine st_b 38 (show (decide (cmpI x 0 < 0)) = false by exact decide_eq_false (by omega)) (by kernel_rfl) ?_
  refine st_g ent125 (fzadd (zq0.snd) (zq0.snd) (x.fmod y) (x.fmod y) (by exact Bits.fit (fmod_b hy (by first | assumption | omega)) (by decide)) (by exact Bits.fit (fmod_b hy (by first | assumption | omega)) (by decide))) (subC 3 rfl (subC 3 rfl sub0)) (by kernel_rfl) (fun zq5 => ?_)
  refine st_fn ent45 (fzcmp (zq5) (q) (x.fmod y + x.fmod y) (y) (by exact Bits.fit (Bits.add (Bits.mono (l := 200) (fmod_b hy (by first | assumption | omega)) (by decide)) (Bits.mono (l := 200) (fmod_b hy (by first | assumption | omega)) (by decide))) (by decide)) (by exact Bits.fit hy (by decide))) (subC 0 rfl (subC 6 rfl sub0)) (by kernel_rfl) ?_
  refine st_b 50 (show (decide (cmpI (x.fmod y + x.fmod y) y < 0)) = true by exact decide_eq_true (by omega)) (by kernel_rfl) ?_
  exact st_retG (zq0.fst) Try.func108 (subE 3 rfl (by omega) sub0) (by kernel_rfl)
theorem near_5pg (p q : ZQ) (x y : Int) (hx : Bits 200 x) (hy : Bits 200 y) (h0 : 0 < y) (hne : y ≠ 0) (hc : cmpI (x.fmod y) 0 = 1) (hs : 0 ≤ cmpI x 0) (hh : cmpI (x.fmod y + x.fmod y) y = 1) (e : x.fdiv y + 1 = nearQ x y 5) :
    FnZ 108 [(p, x), (q, y)] [zv p, zv q, .int .i64 5] (fun z => .tuple #[zv z, .bool true]) (nearQ x y 5) := by
  refine fnG_of Try.func108 rfl fun ww => ?_
  refine st_g ent122 (fzdiv (p) (q) (x) (y) (by exact Bits.mono hx (by decide)) (by exact Bits.mono hy (by decide)) (by assumption)) (subC 0 rfl (subC 1 rfl sub0)) (by kernel_rfl) (fun zq0 => ?_)
  refine st_fn ent146 (fzsign (zq0.snd) (x.fmod y) (by exact Bits.fit (fmod_b hy (by first | assumption | omega)) (by decide))) (subC 1 rfl sub0) (by kernel_rfl) ?_
  refine st_b 29 (show (cmpI (x.fmod y) 0 == 0) = false by exact decide_eq_false (by omega)) (by kernel_rfl) ?_
  refine st_g ent127 (fzofu (1) (by omega) (by omega)) sub0 (by kernel_rfl) (fun zq2 => ?_)
  refine st_g ent125 (fzadd (zq0.fst) (zq2) (x.fdiv y) (1) (by exact Bits.fit (fdiv_b hx (by first | assumption | omega)) (by decide)) (by exact Bits.fit (show Bits 64 (1) from (by unfold Bits; decide)) (by decide))) (subC 1 rfl (subC 0 rfl sub0)) (by kernel_rfl) (fun zq3 => ?_)
  refine st_fn ent146 (fzsign (p) (x) (by exact Bits.fit hx (by decide))) (subC 4 rfl sub0) (by kernel_rfl) ?_
  refine st_b 38 (show (decide (cmpI x 0 < 0)) = false by exact decide_eq_false (by omega)) (by kernel_rfl) ?_
  refine st_g ent125 (fzadd (zq0.snd) (zq0.snd) (x.fmod y) (x.fmod y) (by exact Bits.fit (fmod_b hy (by first | assumption | omega)) (by decide)) (by exact Bits.fit (fmod_b hy (by first | assumption | omega)) (by decide))) (subC 3 rfl (subC 3 rfl sub0)) (by kernel_rfl) (fun zq5 => ?_)
  refine st_fn ent45 (fzcmp (zq5) (q) (x.fmod y + x.fmod y) (y) (by exact Bits.fit (Bits.add (Bits.mono (l := 200) (fmod_b hy (by first | assumption | omega)) (by decide)) (Bits.mono (l := 200) (fmod_b hy (by first | assumption | omega)) (by decide))) (by decide)) (by exact Bits.fit hy (by decide))) (subC 0 rfl (subC 6 rfl sub0)) (by kernel_rfl) ?_
  refine st_b 50 (show (decide (cmpI (x.fmod y + x.fmod y) y < 0)) = false by exact decide_eq_false (by omega)) (by kernel_rfl) ?_
  refine st_b 57 (show (decide (cmpI (x.fmod y + x.fmod y) y > 0)) = true by exact decide_eq_true (by omega)) (by kernel_rfl) ?_
  exact st_retG (zq3) Try.func108 (subE 1 rfl (by omega) sub0) (by kernel_rfl)
theorem near_5pe (p q : ZQ) (x y : Int) (hx : Bits 200 x) (hy : Bits 200 y) (h0 : 0 < y) (hne : y ≠ 0) (hc : cmpI (x.fmod y) 0 = 1) (hs : 0 ≤ cmpI x 0) (hh : cmpI (x.fmod y + x.fmod y) y = 0) (e : x.fdiv y + 1 = nearQ x y 5) :
    FnZ 108 [(p, x), (q, y)] [zv p, zv q, .int .i64 5] (fun z => .tuple #[zv z, .bool true]) (nearQ x y 5) := by
  refine fnG_of Try.func108 rfl fun ww => ?_
  refine st_g ent122 (fzdiv (p) (q) (x) (y) (by exact Bits.mono hx (by decide)) (by exact Bits.mono hy (by decide)) (by assumption)) (subC 0 rfl (subC 1 rfl sub0)) (by kernel_rfl) (fun zq0 => ?_)
  refine st_fn ent146 (fzsign (zq0.snd) (x.fmod y) (by exact Bits.fit (fmod_b hy (by first | assumption | omega)) (by decide))) (subC 1 rfl sub0) (by kernel_rfl) ?_
  refine st_b 29 (show (cmpI (x.fmod y) 0 == 0) = false by exact decide_eq_false (by omega)) (by kernel_rfl) ?_
  refine st_g ent127 (fzofu (1) (by omega) (by omega)) sub0 (by kernel_rfl) (fun zq2 => ?_)
  refine st_g ent125 (fzadd (zq0.fst) (zq2) (x.fdiv y) (1) (by exact Bits.fit (fdiv_b hx (by first | assumption | omega)) (by decide)) (by exact Bits.fit (show Bits 64 (1) from (by unfold Bits; decide)) (by decide))) (subC 1 rfl (subC 0 rfl sub0)) (by kernel_rfl) (fun zq3 => ?_)
  refine st_fn ent146 (fzsign (p) (x) (by exact Bits.fit hx (by decide))) (subC 4 rfl sub0) (by kernel_rfl) ?_
  refine st_b 38 (show (decide (cmpI x 0 < 0)) = false by exact decide_eq_false (by omega)) (by kernel_rfl) ?_
  refine st_g ent125 (fzadd (zq0.snd) (zq0.snd) (x.fmod y) (x.fmod y) (by exact Bits.fit (fmod_b hy (by first | assumption | omega)) (by decide)) (by exact Bits.fit (fmod_b hy (by first | assumption | omega)) (by decide))) (subC 3 rfl (subC 3 rfl sub0)) (by kernel_rfl) (fun zq5 => ?_)
  refine st_fn ent45 (fzcmp (zq5) (q) (x.fmod y + x.fmod y) (y) (by exact Bits.fit (Bits.add (Bits.mono (l := 200) (fmod_b hy (by first | assumption | omega)) (by decide)) (Bits.mono (l := 200) (fmod_b hy (by first | assumption | omega)) (by decide))) (by decide)) (by exact Bits.fit hy (by decide))) (subC 0 rfl (subC 6 rfl sub0)) (by kernel_rfl) ?_
  refine st_b 50 (show (decide (cmpI (x.fmod y + x.fmod y) y < 0)) = false by exact decide_eq_false (by omega)) (by kernel_rfl) ?_
  refine st_b 57 (show (decide (cmpI (x.fmod y + x.fmod y) y > 0)) = false by exact decide_eq_false (by omega)) (by kernel_rfl) ?_
  exact st_retG (zq3) Try.func108 (subE 1 rfl (by omega) sub0) (by kernel_rfl)
theorem near_6nl (p q : ZQ) (x y : Int) (hx : Bits 200 x) (hy : Bits 200 y) (h0 : 0 < y) (hne : y ≠ 0) (hc : cmpI (x.fmod y) 0 = 1) (hs : cmpI x 0 = -1) (hh : cmpI (x.fmod y + x.fmod y) y = -1) (e : x.fdiv y = nearQ x y 6) :
    FnZ 108 [(p, x), (q, y)] [zv p, zv q, .int .i64 6] (fun z => .tuple #[zv z, .bool true]) (nearQ x y 6) := by
  refine fnG_of Try.func108 rfl fun ww => ?_
  refine st_g ent122 (fzdiv (p) (q) (x) (y) (by exact Bits.mono hx (by decide)) (by exact Bits.mono hy (by decide)) (by assumption)) (subC 0 rfl (subC 1 rfl sub0)) (by kernel_rfl) (fun zq0 => ?_)
  refine st_fn ent146 (fzsign (zq0.snd) (x.fmod y) (by exact Bits.fit (fmod_b hy (by first | assumption | omega)) (by decide))) (subC 1 rfl sub0) (by kernel_rfl) ?_
  refine st_b 29 (show (cmpI (x.fmod y) 0 == 0) = false by exact decide_eq_false (by omega)) (by kernel_rfl) ?_
  refine st_g ent127 (fzofu (1) (by omega) (by omega)) sub0 (by kernel_rfl) (fun zq2 => ?_)
  refine st_g ent125 (fzadd (zq0.fst) (zq2) (x.fdiv y) (1) (by exact Bits.fit (fdiv_b hx (by first | assumption | omega)) (by decide)) (by exact Bits.fit (show Bits 64 (1) from (by unfold Bits; decide)) (by decide))) (subC 1 rfl (subC 0 rfl sub0)) (by kernel_rfl) (fun zq3 => ?_)
  refine st_fn ent146 (fzsign (p) (x) (by exact Bits.fit hx (by decide))) (subC 4 rfl sub0) (by kernel_rfl) ?_
  refine st_b 38 (show (decide (cmpI x 0 < 0)) = true by exact decide_eq_true (by omega)) (by kernel_rfl) ?_
  refine st_g ent125 (fzadd (zq0.snd) (zq0.snd) (x.fmod y) (x.fmod y) (by exact Bits.fit (fmod_b hy (by first | assumption | omega)) (by decide)) (by exact Bits.fit (fmod_b hy (by first | assumption | omega)) (by decide))) (subC 3 rfl (subC 3 rfl sub0)) (by kernel_rfl) (fun zq5 => ?_)
  refine st_fn ent45 (fzcmp (zq5) (q) (x.fmod y + x.fmod y) (y) (by exact Bits.fit (Bits.add (Bits.mono (l := 200) (fmod_b hy (by first | assumption | omega)) (by decide)) (Bits.mono (l := 200) (fmod_b hy (by first | assumption | omega)) (by decide))) (by decide)) (by exact Bits.fit hy (by decide))) (subC 0 rfl (subC 6 rfl sub0)) (by kernel_rfl) ?_
  refine st_b 50 (show (decide (cmpI (x.fmod y + x.fmod y) y < 0)) = true by exact decide_eq_true (by omega)) (by kernel_rfl) ?_
  exact st_retG (zq0.fst) Try.func108 (subE 3 rfl (by omega) sub0) (by kernel_rfl)
theorem near_6ng (p q : ZQ) (x y : Int) (hx : Bits 200 x) (hy : Bits 200 y) (h0 : 0 < y) (hne : y ≠ 0) (hc : cmpI (x.fmod y) 0 = 1) (hs : cmpI x 0 = -1) (hh : cmpI (x.fmod y + x.fmod y) y = 1) (e : x.fdiv y + 1 = nearQ x y 6) :
    FnZ 108 [(p, x), (q, y)] [zv p, zv q, .int .i64 6] (fun z => .tuple #[zv z, .bool true]) (nearQ x y 6) := by
  refine fnG_of Try.func108 rfl fun ww => ?_
  refine st_g ent122 (fzdiv (p) (q) (x) (y) (by exact Bits.mono hx (by decide)) (by exact Bits.mono hy (by decide)) (by assumption)) (subC 0 rfl (subC 1 rfl sub0)) (by kernel_rfl) (fun zq0 => ?_)
  refine st_fn ent146 (fzsign (zq0.snd) (x.fmod y) (by exact Bits.fit (fmod_b hy (by first | assumption | omega)) (by decide))) (subC 1 rfl sub0) (by kernel_rfl) ?_
  refine st_b 29 (show (cmpI (x.fmod y) 0 == 0) = false by exact decide_eq_false (by omega)) (by kernel_rfl) ?_
  refine st_g ent127 (fzofu (1) (by omega) (by omega)) sub0 (by kernel_rfl) (fun zq2 => ?_)
  refine st_g ent125 (fzadd (zq0.fst) (zq2) (x.fdiv y) (1) (by exact Bits.fit (fdiv_b hx (by first | assumption | omega)) (by decide)) (by exact Bits.fit (show Bits 64 (1) from (by unfold Bits; decide)) (by decide))) (subC 1 rfl (subC 0 rfl sub0)) (by kernel_rfl) (fun zq3 => ?_)
  refine st_fn ent146 (fzsign (p) (x) (by exact Bits.fit hx (by decide))) (subC 4 rfl sub0) (by kernel_rfl) ?_
  refine st_b 38 (show (decide (cmpI x 0 < 0)) = true by exact decide_eq_true (by omega)) (by kernel_rfl) ?_
  refine st_g ent125 (fzadd (zq0.snd) (zq0.snd) (x.fmod y) (x.fmod y) (by exact Bits.fit (fmod_b hy (by first | assumption | omega)) (by decide)) (by exact Bits.fit (fmod_b hy (by first | assumption | omega)) (by decide))) (subC 3 rfl (subC 3 rfl sub0)) (by kernel_rfl) (fun zq5 => ?_)
  refine st_fn ent45 (fzcmp (zq5) (q) (x.fmod y + x.fmod y) (y) (by exact Bits.fit (Bits.add (Bits.mono (l := 200) (fmod_b hy (by first | assumption | omega)) (by decide)) (Bits.mono (l := 200) (fmod_b hy (by first | assumption | omega)) (by decide))) (by decide)) (by exact Bits.fit hy (by decide))) (subC 0 rfl (subC 6 rfl sub0)) (by kernel_rfl) ?_
  refine st_b 50 (show (decide (cmpI (x.fmod y + x.fmod y) y < 0)) = false by exact decide_eq_false (by omega)) (by kernel_rfl) ?_
  refine st_b 57 (show (decide (cmpI (x.fmod y + x.fmod y) y > 0)) = true by exact decide_eq_true (by omega)) (by kernel_rfl) ?_
  exact st_retG (zq3) Try.func108 (subE 1 rfl (by omega) sub0) (by kernel_rfl)
theorem near_6ne (p q : ZQ) (x y : Int) (hx : Bits 200 x) (hy : Bits 200 y) (h0 : 0 < y) (hne : y ≠ 0) (hc : cmpI (x.fmod y) 0 = 1) (hs : cmpI x 0 = -1) (hh : cmpI (x.fmod y + x.fmod y) y = 0) (e : x.fdiv y = nearQ x y 6) :
    FnZ 108 [(p, x), (q, y)] [zv p, zv q, .int .i64 6] (fun z => .tuple #[zv z, .bool true]) (nearQ x y 6) := by
  refine fnG_of Try.func108 rfl fun ww => ?_
  refine st_g ent122 (fzdiv (p) (q) (x) (y) (by exact Bits.mono hx (by decide)) (by exact Bits.mono hy (by decide)) (by assumption)) (subC 0 rfl (subC 1 rfl sub0)) (by kernel_rfl) (fun zq0 => ?_)
  refine st_fn ent146 (fzsign (zq0.snd) (x.fmod y) (by exact Bits.fit (fmod_b hy (by first | assumption | omega)) (by decide))) (subC 1 rfl sub0) (by kernel_rfl) ?_
  refine st_b 29 (show (cmpI (x.fmod y) 0 == 0) = false by exact decide_eq_false (by omega)) (by kernel_rfl) ?_
  refine st_g ent127 (fzofu (1) (by omega) (by omega)) sub0 (by kernel_rfl) (fun zq2 => ?_)
  refine st_g ent125 (fzadd (zq0.fst) (zq2) (x.fdiv y) (1) (by exact Bits.fit (fdiv_b hx (by first | assumption | omega)) (by decide)) (by exact Bits.fit (show Bits 64 (1) from (by unfold Bits; decide)) (by decide))) (subC 1 rfl (subC 0 rfl sub0)) (by kernel_rfl) (fun zq3 => ?_)
  refine st_fn ent146 (fzsign (p) (x) (by exact Bits.fit hx (by decide))) (subC 4 rfl sub0) (by kernel_rfl) ?_
  refine st_b 38 (show (decide (cmpI x 0 < 0)) = true by exact decide_eq_true (by omega)) (by kernel_rfl) ?_
  refine st_g ent125 (fzadd (zq0.snd) (zq0.snd) (x.fmod y) (x.fmod y) (by exact Bits.fit (fmod_b hy (by first | assumption | omega)) (by decide)) (by exact Bits.fit (fmod_b hy (by first | assumption | omega)) (by decide))) (subC 3 rfl (subC 3 rfl sub0)) (by kernel_rfl) (fun zq5 => ?_)
  refine st_fn ent45 (fzcmp (zq5) (q) (x.fmod y + x.fmod y) (y) (by exact Bits.fit (Bits.add (Bits.mono (l := 200) (fmod_b hy (by first | assumption | omega)) (by decide)) (Bits.mono (l := 200) (fmod_b hy (by first | assumption | omega)) (by decide))) (by decide)) (by exact Bits.fit hy (by decide))) (subC 0 rfl (subC 6 rfl sub0)) (by kernel_rfl) ?_
  refine st_b 50 (show (decide (cmpI (x.fmod y + x.fmod y) y < 0)) = false by exact decide_eq_false (by omega)) (by kernel_rfl) ?_
  refine st_b 57 (show (decide (cmpI (x.fmod y + x.fmod y) y > 0)) = false by exact decide_eq_false (by omega)) (by kernel_rfl) ?_
  exact st_retG (zq0.fst) Try.func108 (subE 3 rfl (by omega) sub0) (by kernel_rfl)
theorem near_6pl (p q : ZQ) (x y : Int) (hx : Bits 200 x) (hy : Bits 200 y) (h0 : 0 < y) (hne : y ≠ 0) (hc : cmpI (x.fmod y) 0 = 1) (hs : 0 ≤ cmpI x 0) (hh : cmpI (x.fmod y + x.fmod y) y = -1) (e : x.fdiv y = nearQ x y 6) :
    FnZ 108 [(p, x), (q, y)] [zv p, zv q, .int .i64 6] (fun z => .tuple #[zv z, .bool true]) (nearQ x y 6) := by
  refine fnG_of Try.func108 rfl fun ww => ?_
  refine st_g ent122 (fzdiv (p) (q) (x) (y) (by exact Bits.mono hx (by decide)) (by exact Bits.mono hy (by decide)) (by assumption)) (subC 0 rfl (subC 1 rfl sub0)) (by kernel_rfl) (fun zq0 => ?_)
  refine st_fn ent146 (fzsign (zq0.snd) (x.fmod y) (by exact Bits.fit (fmod_b hy (by first | assumption | omega)) (by decide))) (subC 1 rfl sub0) (by kernel_rfl) ?_
  refine st_b 29 (show (cmpI (x.fmod y) 0 == 0) = false by exact decide_eq_false (by omega)) (by kernel_rfl) ?_
  refine st_g ent127 (fzofu (1) (by omega) (by omega)) sub0 (by kernel_rfl) (fun zq2 => ?_)
  refine st_g ent125 (fzadd (zq0.fst) (zq2) (x.fdiv y) (1) (by exact Bits.fit (fdiv_b hx (by first | assumption | omega)) (by decide)) (by exact Bits.fit (show Bits 64 (1) from (by unfold Bits; decide)) (by decide))) (subC 1 rfl (subC 0 rfl sub0)) (by kernel_rfl) (fun zq3 => ?_)
  refine st_fn ent146 (fzsign (p) (x) (by exact Bits.fit hx (by decide))) (subC 4 rfl sub0) (by kernel_rfl) ?_
  refine st_b 38 (show (decide (cmpI x 0 < 0)) = false by exact decide_eq_false (by omega)) (by kernel_rfl) ?_
  refine st_g ent125 (fzadd (zq0.snd) (zq0.snd) (x.fmod y) (x.fmod y) (by exact Bits.fit (fmod_b hy (by first | assumption | omega)) (by decide)) (by exact Bits.fit (fmod_b hy (by first | assumption | omega)) (by decide))) (subC 3 rfl (subC 3 rfl sub0)) (by kernel_rfl) (fun zq5 => ?_)
  refine st_fn ent45 (fzcmp (zq5) (q) (x.fmod y + x.fmod y) (y) (by exact Bits.fit (Bits.add (Bits.mono (l := 200) (fmod_b hy (by first | assumption | omega)) (by decide)) (Bits.mono (l := 200) (fmod_b hy (by first | assumption | omega)) (by decide))) (by decide)) (by exact Bits.fit hy (by decide))) (subC 0 rfl (subC 6 rfl sub0)) (by kernel_rfl) ?_
  refine st_b 50 (show (decide (cmpI (x.fmod y + x.fmod y) y < 0)) = true by exact decide_eq_true (by omega)) (by kernel_rfl) ?_
  exact st_retG (zq0.fst) Try.func108 (subE 3 rfl (by omega) sub0) (by kernel_rfl)
theorem near_6pg (p q : ZQ) (x y : Int) (hx : Bits 200 x) (hy : Bits 200 y) (h0 : 0 < y) (hne : y ≠ 0) (hc : cmpI (x.fmod y) 0 = 1) (hs : 0 ≤ cmpI x 0) (hh : cmpI (x.fmod y + x.fmod y) y = 1) (e : x.fdiv y + 1 = nearQ x y 6) :
    FnZ 108 [(p, x), (q, y)] [zv p, zv q, .int .i64 6] (fun z => .tuple #[zv z, .bool true]) (nearQ x y 6) := by
  refine fnG_of Try.func108 rfl fun ww => ?_
  refine st_g ent122 (fzdiv (p) (q) (x) (y) (by exact Bits.mono hx (by decide)) (by exact Bits.mono hy (by decide)) (by assumption)) (subC 0 rfl (subC 1 rfl sub0)) (by kernel_rfl) (fun zq0 => ?_)
  refine st_fn ent146 (fzsign (zq0.snd) (x.fmod y) (by exact Bits.fit (fmod_b hy (by first | assumption | omega)) (by decide))) (subC 1 rfl sub0) (by kernel_rfl) ?_
  refine st_b 29 (show (cmpI (x.fmod y) 0 == 0) = false by exact decide_eq_false (by omega)) (by kernel_rfl) ?_
  refine st_g ent127 (fzofu (1) (by omega) (by omega)) sub0 (by kernel_rfl) (fun zq2 => ?_)
  refine st_g ent125 (fzadd (zq0.fst) (zq2) (x.fdiv y) (1) (by exact Bits.fit (fdiv_b hx (by first | assumption | omega)) (by decide)) (by exact Bits.fit (show Bits 64 (1) from (by unfold Bits; decide)) (by decide))) (subC 1 rfl (subC 0 rfl sub0)) (by kernel_rfl) (fun zq3 => ?_)
  refine st_fn ent146 (fzsign (p) (x) (by exact Bits.fit hx (by decide))) (subC 4 rfl sub0) (by kernel_rfl) ?_
  refine st_b 38 (show (decide (cmpI x 0 < 0)) = false by exact decide_eq_false (by omega)) (by kernel_rfl) ?_
  refine st_g ent125 (fzadd (zq0.snd) (zq0.snd) (x.fmod y) (x.fmod y) (by exact Bits.fit (fmod_b hy (by first | assumption | omega)) (by decide)) (by exact Bits.fit (fmod_b hy (by first | assumption | omega)) (by decide))) (subC 3 rfl (subC 3 rfl sub0)) (by kernel_rfl) (fun zq5 => ?_)
  refine st_fn ent45 (fzcmp (zq5) (q) (x.fmod y + x.fmod y) (y) (by exact Bits.fit (Bits.add (Bits.mono (l := 200) (fmod_b hy (by first | assumption | omega)) (by decide)) (Bits.mono (l := 200) (fmod_b hy (by first | assumption | omega)) (by decide))) (by decide)) (by exact Bits.fit hy (by decide))) (subC 0 rfl (subC 6 rfl sub0)) (by kernel_rfl) ?_
  refine st_b 50 (show (decide (cmpI (x.fmod y + x.fmod y) y < 0)) = false by exact decide_eq_false (by omega)) (by kernel_rfl) ?_
  refine st_b 57 (show (decide (cmpI (x.fmod y + x.fmod y) y > 0)) = true by exact decide_eq_true (by omega)) (by kernel_rfl) ?_
  exact st_retG (zq3) Try.func108 (subE 1 rfl (by omega) sub0) (by kernel_rfl)
theorem near_6pe (p q : ZQ) (x y : Int) (hx : Bits 200 x) (hy : Bits 200 y) (h0 : 0 < y) (hne : y ≠ 0) (hc : cmpI (x.fmod y) 0 = 1) (hs : 0 ≤ cmpI x 0) (hh : cmpI (x.fmod y + x.fmod y) y = 0) (e : x.fdiv y = nearQ x y 6) :
    FnZ 108 [(p, x), (q, y)] [zv p, zv q, .int .i64 6] (fun z => .tuple #[zv z, .bool true]) (nearQ x y 6) := by
  refine fnG_of Try.func108 rfl fun ww => ?_
  refine st_g ent122 (fzdiv (p) (q) (x) (y) (by exact Bits.mono hx (by decide)) (by exact Bits.mono hy (by decide)) (by assumption)) (subC 0 rfl (subC 1 rfl sub0)) (by kernel_rfl) (fun zq0 => ?_)
  refine st_fn ent146 (fzsign (zq0.snd) (x.fmod y) (by exact Bits.fit (fmod_b hy (by first | assumption | omega)) (by decide))) (subC 1 rfl sub0) (by kernel_rfl) ?_
  refine st_b 29 (show (cmpI (x.fmod y) 0 == 0) = false by exact decide_eq_false (by omega)) (by kernel_rfl) ?_
  refine st_g ent127 (fzofu (1) (by omega) (by omega)) sub0 (by kernel_rfl) (fun zq2 => ?_)
  refine st_g ent125 (fzadd (zq0.fst) (zq2) (x.fdiv y) (1) (by exact Bits.fit (fdiv_b hx (by first | assumption | omega)) (by decide)) (by exact Bits.fit (show Bits 64 (1) from (by unfold Bits; decide)) (by decide))) (subC 1 rfl (subC 0 rfl sub0)) (by kernel_rfl) (fun zq3 => ?_)
  refine st_fn ent146 (fzsign (p) (x) (by exact Bits.fit hx (by decide))) (subC 4 rfl sub0) (by kernel_rfl) ?_
  refine st_b 38 (show (decide (cmpI x 0 < 0)) = false by exact decide_eq_false (by omega)) (by kernel_rfl) ?_
  refine st_g ent125 (fzadd (zq0.snd) (zq0.snd) (x.fmod y) (x.fmod y) (by exact Bits.fit (fmod_b hy (by first | assumption | omega)) (by decide)) (by exact Bits.fit (fmod_b hy (by first | assumption | omega)) (by decide))) (subC 3 rfl (subC 3 rfl sub0)) (by kernel_rfl) (fun zq5 => ?_)
  refine st_fn ent45 (fzcmp (zq5) (q) (x.fmod y + x.fmod y) (y) (by exact Bits.fit (Bits.add (Bits.mono (l := 200) (fmod_b hy (by first | assumption | omega)) (by decide)) (Bits.mono (l := 200) (fmod_b hy (by first | assumption | omega)) (by decide))) (by decide)) (by exact Bits.fit hy (by decide))) (subC 0 rfl (subC 6 rfl sub0)) (by kernel_rfl) ?_
  refine st_b 50 (show (decide (cmpI (x.fmod y + x.fmod y) y < 0)) = false by exact decide_eq_false (by omega)) (by kernel_rfl) ?_
  refine st_b 57 (show (decide (cmpI (x.fmod y + x.fmod y) y > 0)) = false by exact decide_eq_false (by omega)) (by kernel_rfl) ?_
  exact st_retG (zq0.fst) Try.func108 (subE 3 rfl (by omega) sub0) (by kernel_rfl)
theorem near_7nl (p q : ZQ) (x y : Int) (hx : Bits 200 x) (hy : Bits 200 y) (h0 : 0 < y) (hne : y ≠ 0) (hc : cmpI (x.fmod y) 0 = 1) (hs : cmpI x 0 = -1) (hh : cmpI (x.fmod y + x.fmod y) y = -1) (e : x.fdiv y = nearQ x y 7) :
    FnZ 108 [(p, x), (q, y)] [zv p, zv q, .int .i64 7] (fun z => .tuple #[zv z, .bool true]) (nearQ x y 7) := by
  refine fnG_of Try.func108 rfl fun ww => ?_
  refine st_g ent122 (fzdiv (p) (q) (x) (y) (by exact Bits.mono hx (by decide)) (by exact Bits.mono hy (by decide)) (by assumption)) (subC 0 rfl (subC 1 rfl sub0)) (by kernel_rfl) (fun zq0 => ?_)
  refine st_fn ent146 (fzsign (zq0.snd) (x.fmod y) (by exact Bits.fit (fmod_b hy (by first | assumption | omega)) (by decide))) (subC 1 rfl sub0) (by kernel_rfl) ?_
  refine st_b 29 (show (cmpI (x.fmod y) 0 == 0) = false by exact decide_eq_false (by omega)) (by kernel_rfl) ?_
  refine st_g ent127 (fzofu (1) (by omega) (by omega)) sub0 (by kernel_rfl) (fun zq2 => ?_)
  refine st_g ent125 (fzadd (zq0.fst) (zq2) (x.fdiv y) (1) (by exact Bits.fit (fdiv_b hx (by first | assumption | omega)) (by decide)) (by exact Bits.fit (show Bits 64 (1) from (by unfold Bits; decide)) (by decide))) (subC 1 rfl (subC 0 rfl sub0)) (by kernel_rfl) (fun zq3 => ?_)
  refine st_fn ent146 (fzsign (p) (x) (by exact Bits.fit hx (by decide))) (subC 4 rfl sub0) (by kernel_rfl) ?_
  refine st_b 38 (show (decide (cmpI x 0 < 0)) = true by exact decide_eq_true (by omega)) (by kernel_rfl) ?_
  refine st_g ent125 (fzadd (zq0.snd) (zq0.snd) (x.fmod y) (x.fmod y) (by exact Bits.fit (fmod_b hy (by first | assumption | omega)) (by decide)) (by exact Bits.fit (fmod_b hy (by first | assumption | omega)) (by decide))) (subC 3 rfl (subC 3 rfl sub0)) (by kernel_rfl) (fun zq5 => ?_)
  refine st_fn ent45 (fzcmp (zq5) (q) (x.fmod y + x.fmod y) (y) (by exact Bits.fit (Bits.add (Bits.mono (l := 200) (fmod_b hy (by first | assumption | omega)) (by decide)) (Bits.mono (l := 200) (fmod_b hy (by first | assumption | omega)) (by decide))) (by decide)) (by exact Bits.fit hy (by decide))) (subC 0 rfl (subC 6 rfl sub0)) (by kernel_rfl) ?_
  refine st_b 50 (show (decide (cmpI (x.fmod y + x.fmod y) y < 0)) = true by exact decide_eq_true (by omega)) (by kernel_rfl) ?_
  exact st_retG (zq0.fst) Try.func108 (subE 3 rfl (by omega) sub0) (by kernel_rfl)
theorem near_7ng (p q : ZQ) (x y : Int) (hx : Bits 200 x) (hy : Bits 200 y) (h0 : 0 < y) (hne : y ≠ 0) (hc : cmpI (x.fmod y) 0 = 1) (hs : cmpI x 0 = -1) (hh : cmpI (x.fmod y + x.fmod y) y = 1) (e : x.fdiv y + 1 = nearQ x y 7) :
    FnZ 108 [(p, x), (q, y)] [zv p, zv q, .int .i64 7] (fun z => .tuple #[zv z, .bool true]) (nearQ x y 7) := by
  refine fnG_of Try.func108 rfl fun ww => ?_
  refine st_g ent122 (fzdiv (p) (q) (x) (y) (by exact Bits.mono hx (by decide)) (by exact Bits.mono hy (by decide)) (by assumption)) (subC 0 rfl (subC 1 rfl sub0)) (by kernel_rfl) (fun zq0 => ?_)
  refine st_fn ent146 (fzsign (zq0.snd) (x.fmod y) (by exact Bits.fit (fmod_b hy (by first | assumption | omega)) (by decide))) (subC 1 rfl sub0) (by kernel_rfl) ?_
  refine st_b 29 (show (cmpI (x.fmod y) 0 == 0) = false by exact decide_eq_false (by omega)) (by kernel_rfl) ?_
  refine st_g ent127 (fzofu (1) (by omega) (by omega)) sub0 (by kernel_rfl) (fun zq2 => ?_)
  refine st_g ent125 (fzadd (zq0.fst) (zq2) (x.fdiv y) (1) (by exact Bits.fit (fdiv_b hx (by first | assumption | omega)) (by decide)) (by exact Bits.fit (show Bits 64 (1) from (by unfold Bits; decide)) (by decide))) (subC 1 rfl (subC 0 rfl sub0)) (by kernel_rfl) (fun zq3 => ?_)
  refine st_fn ent146 (fzsign (p) (x) (by exact Bits.fit hx (by decide))) (subC 4 rfl sub0) (by kernel_rfl) ?_
  refine st_b 38 (show (decide (cmpI x 0 < 0)) = true by exact decide_eq_true (by omega)) (by kernel_rfl) ?_
  refine st_g ent125 (fzadd (zq0.snd) (zq0.snd) (x.fmod y) (x.fmod y) (by exact Bits.fit (fmod_b hy (by first | assumption | omega)) (by decide)) (by exact Bits.fit (fmod_b hy (by first | assumption | omega)) (by decide))) (subC 3 rfl (subC 3 rfl sub0)) (by kernel_rfl) (fun zq5 => ?_)
  refine st_fn ent45 (fzcmp (zq5) (q) (x.fmod y + x.fmod y) (y) (by exact Bits.fit (Bits.add (Bits.mono (l := 200) (fmod_b hy (by first | assumption | omega)) (by decide)) (Bits.mono (l := 200) (fmod_b hy (by first | assumption | omega)) (by decide))) (by decide)) (by exact Bits.fit hy (by decide))) (subC 0 rfl (subC 6 rfl sub0)) (by kernel_rfl) ?_
  refine st_b 50 (show (decide (cmpI (x.fmod y + x.fmod y) y < 0)) = false by exact decide_eq_false (by omega)) (by kernel_rfl) ?_
  refine st_b 57 (show (decide (cmpI (x.fmod y + x.fmod y) y > 0)) = true by exact decide_eq_true (by omega)) (by kernel_rfl) ?_
  exact st_retG (zq3) Try.func108 (subE 1 rfl (by omega) sub0) (by kernel_rfl)
theorem near_7ne (p q : ZQ) (x y : Int) (hx : Bits 200 x) (hy : Bits 200 y) (h0 : 0 < y) (hne : y ≠ 0) (hc : cmpI (x.fmod y) 0 = 1) (hs : cmpI x 0 = -1) (hh : cmpI (x.fmod y + x.fmod y) y = 0) (e : x.fdiv y = nearQ x y 7) :
    FnZ 108 [(p, x), (q, y)] [zv p, zv q, .int .i64 7] (fun z => .tuple #[zv z, .bool true]) (nearQ x y 7) := by
  refine fnG_of Try.func108 rfl fun ww => ?_
  refine st_g ent122 (fzdiv (p) (q) (x) (y) (by exact Bits.mono hx (by decide)) (by exact Bits.mono hy (by decide)) (by assumption)) (subC 0 rfl (subC 1 rfl sub0)) (by kernel_rfl) (fun zq0 => ?_)
  refine st_fn ent146 (fzsign (zq0.snd) (x.fmod y) (by exact Bits.fit (fmod_b hy (by first | assumption | omega)) (by decide))) (subC 1 rfl sub0) (by kernel_rfl) ?_
  refine st_b 29 (show (cmpI (x.fmod y) 0 == 0) = false by exact decide_eq_false (by omega)) (by kernel_rfl) ?_
  refine st_g ent127 (fzofu (1) (by omega) (by omega)) sub0 (by kernel_rfl) (fun zq2 => ?_)
  refine st_g ent125 (fzadd (zq0.fst) (zq2) (x.fdiv y) (1) (by exact Bits.fit (fdiv_b hx (by first | assumption | omega)) (by decide)) (by exact Bits.fit (show Bits 64 (1) from (by unfold Bits; decide)) (by decide))) (subC 1 rfl (subC 0 rfl sub0)) (by kernel_rfl) (fun zq3 => ?_)
  refine st_fn ent146 (fzsign (p) (x) (by exact Bits.fit hx (by decide))) (subC 4 rfl sub0) (by kernel_rfl) ?_
  refine st_b 38 (show (decide (cmpI x 0 < 0)) = true by exact decide_eq_true (by omega)) (by kernel_rfl) ?_
  refine st_g ent125 (fzadd (zq0.snd) (zq0.snd) (x.fmod y) (x.fmod y) (by exact Bits.fit (fmod_b hy (by first | assumption | omega)) (by decide)) (by exact Bits.fit (fmod_b hy (by first | assumption | omega)) (by decide))) (subC 3 rfl (subC 3 rfl sub0)) (by kernel_rfl) (fun zq5 => ?_)
  refine st_fn ent45 (fzcmp (zq5) (q) (x.fmod y + x.fmod y) (y) (by exact Bits.fit (Bits.add (Bits.mono (l := 200) (fmod_b hy (by first | assumption | omega)) (by decide)) (Bits.mono (l := 200) (fmod_b hy (by first | assumption | omega)) (by decide))) (by decide)) (by exact Bits.fit hy (by decide))) (subC 0 rfl (subC 6 rfl sub0)) (by kernel_rfl) ?_
  refine st_b 50 (show (decide (cmpI (x.fmod y + x.fmod y) y < 0)) = false by exact decide_eq_false (by omega)) (by kernel_rfl) ?_
  refine st_b 57 (show (decide (cmpI (x.fmod y + x.fmod y) y > 0)) = false by exact decide_eq_false (by omega)) (by kernel_rfl) ?_
  exact st_retG (zq0.fst) Try.func108 (subE 3 rfl (by omega) sub0) (by kernel_rfl)
theorem near_7pl (p q : ZQ) (x y : Int) (hx : Bits 200 x) (hy : Bits 200 y) (h0 : 0 < y) (hne : y ≠ 0) (hc : cmpI (x.fmod y) 0 = 1) (hs : 0 ≤ cmpI x 0) (hh : cmpI (x.fmod y + x.fmod y) y = -1) (e : x.fdiv y = nearQ x y 7) :
    FnZ 108 [(p, x), (q, y)] [zv p, zv q, .int .i64 7] (fun z => .tuple #[zv z, .bool true]) (nearQ x y 7) := by
  refine fnG_of Try.func108 rfl fun ww => ?_
  refine st_g ent122 (fzdiv (p) (q) (x) (y) (by exact Bits.mono hx (by decide)) (by exact Bits.mono hy (by decide)) (by assumption)) (subC 0 rfl (subC 1 rfl sub0)) (by kernel_rfl) (fun zq0 => ?_)
  refine st_fn ent146 (fzsign (zq0.snd) (x.fmod y) (by exact Bits.fit (fmod_b hy (by first | assumption | omega)) (by decide))) (subC 1 rfl sub0) (by kernel_rfl) ?_
  refine st_b 29 (show (cmpI (x.fmod y) 0 == 0) = false by exact decide_eq_false (by omega)) (by kernel_rfl) ?_
  refine st_g ent127 (fzofu (1) (by omega) (by omega)) sub0 (by kernel_rfl) (fun zq2 => ?_)
  refine st_g ent125 (fzadd (zq0.fst) (zq2) (x.fdiv y) (1) (by exact Bits.fit (fdiv_b hx (by first | assumption | omega)) (by decide)) (by exact Bits.fit (show Bits 64 (1) from (by unfold Bits; decide)) (by decide))) (subC 1 rfl (subC 0 rfl sub0)) (by kernel_rfl) (fun zq3 => ?_)
  refine st_fn ent146 (fzsign (p) (x) (by exact Bits.fit hx (by decide))) (subC 4 rfl sub0) (by kernel_rfl) ?_
  refine st_b 38 (show (decide (cmpI x 0 < 0)) = false by exact decide_eq_false (by omega)) (by kernel_rfl) ?_
  refine st_g ent125 (fzadd (zq0.snd) (zq0.snd) (x.fmod y) (x.fmod y) (by exact Bits.fit (fmod_b hy (by first | assumption | omega)) (by decide)) (by exact Bits.fit (fmod_b hy (by first | assumption | omega)) (by decide))) (subC 3 rfl (subC 3 rfl sub0)) (by kernel_rfl) (fun zq5 => ?_)
  refine st_fn ent45 (fzcmp (zq5) (q) (x.fmod y + x.fmod y) (y) (by exact Bits.fit (Bits.add (Bits.mono (l := 200) (fmod_b hy (by first | assumption | omega)) (by decide)) (Bits.mono (l := 200) (fmod_b hy (by first | assumption | omega)) (by decide))) (by decide)) (by exact Bits.fit hy (by decide))) (subC 0 rfl (subC 6 rfl sub0)) (by kernel_rfl) ?_
  refine st_b 50 (show (decide (cmpI (x.fmod y + x.fmod y) y < 0)) = true by exact decide_eq_true (by omega)) (by kernel_rfl) ?_
  exact st_retG (zq0.fst) Try.func108 (subE 3 rfl (by omega) sub0) (by kernel_rfl)
theorem near_7pg (p q : ZQ) (x y : Int) (hx : Bits 200 x) (hy : Bits 200 y) (h0 : 0 < y) (hne : y ≠ 0) (hc : cmpI (x.fmod y) 0 = 1) (hs : 0 ≤ cmpI x 0) (hh : cmpI (x.fmod y + x.fmod y) y = 1) (e : x.fdiv y + 1 = nearQ x y 7) :
    FnZ 108 [(p, x), (q, y)] [zv p, zv q, .int .i64 7] (fun z => .tuple #[zv z, .bool true]) (nearQ x y 7) := by
  refine fnG_of Try.func108 rfl fun ww => ?_
  refine st_g ent122 (fzdiv (p) (q) (x) (y) (by exact Bits.mono hx (by decide)) (by exact Bits.mono hy (by decide)) (by assumption)) (subC 0 rfl (subC 1 rfl sub0)) (by kernel_rfl) (fun zq0 => ?_)
  refine st_fn ent146 (fzsign (zq0.snd) (x.fmod y) (by exact Bits.fit (fmod_b hy (by first | assumption | omega)) (by decide))) (subC 1 rfl sub0) (by kernel_rfl) ?_
  refine st_b 29 (show (cmpI (x.fmod y) 0 == 0) = false by exact decide_eq_false (by omega)) (by kernel_rfl) ?_
  refine st_g ent127 (fzofu (1) (by omega) (by omega)) sub0 (by kernel_rfl) (fun zq2 => ?_)
  refine st_g ent125 (fzadd (zq0.fst) (zq2) (x.fdiv y) (1) (by exact Bits.fit (fdiv_b hx (by first | assumption | omega)) (by decide)) (by exact Bits.fit (show Bits 64 (1) from (by unfold Bits; decide)) (by decide))) (subC 1 rfl (subC 0 rfl sub0)) (by kernel_rfl) (fun zq3 => ?_)
  refine st_fn ent146 (fzsign (p) (x) (by exact Bits.fit hx (by decide))) (subC 4 rfl sub0) (by kernel_rfl) ?_
  refine st_b 38 (show (decide (cmpI x 0 < 0)) = false by exact decide_eq_false (by omega)) (by kernel_rfl) ?_
  refine st_g ent125 (fzadd (zq0.snd) (zq0.snd) (x.fmod y) (x.fmod y) (by exact Bits.fit (fmod_b hy (by first | assumption | omega)) (by decide)) (by exact Bits.fit (fmod_b hy (by first | assumption | omega)) (by decide))) (subC 3 rfl (subC 3 rfl sub0)) (by kernel_rfl) (fun zq5 => ?_)
  refine st_fn ent45 (fzcmp (zq5) (q) (x.fmod y + x.fmod y) (y) (by exact Bits.fit (Bits.add (Bits.mono (l := 200) (fmod_b hy (by first | assumption | omega)) (by decide)) (Bits.mono (l := 200) (fmod_b hy (by first | assumption | omega)) (by decide))) (by decide)) (by exact Bits.fit hy (by decide))) (subC 0 rfl (subC 6 rfl sub0)) (by kernel_rfl) ?_
  refine st_b 50 (show (decide (cmpI (x.fmod y + x.fmod y) y < 0)) = false by exact decide_eq_false (by omega)) (by kernel_rfl) ?_
  refine st_b 57 (show (decide (cmpI (x.fmod y + x.fmod y) y > 0)) = true by exact decide_eq_true (by omega)) (by kernel_rfl) ?_
  exact st_retG (zq3) Try.func108 (subE 1 rfl (by omega) sub0) (by kernel_rfl)
theorem near_7pe (p q : ZQ) (x y : Int) (hx : Bits 200 x) (hy : Bits 200 y) (h0 : 0 < y) (hne : y ≠ 0) (hc : cmpI (x.fmod y) 0 = 1) (hs : 0 ≤ cmpI x 0) (hh : cmpI (x.fmod y + x.fmod y) y = 0) (e : x.fdiv y + 1 = nearQ x y 7) :
    FnZ 108 [(p, x), (q, y)] [zv p, zv q, .int .i64 7] (fun z => .tuple #[zv z, .bool true]) (nearQ x y 7) := by
  refine fnG_of Try.func108 rfl fun ww => ?_
  refine st_g ent122 (fzdiv (p) (q) (x) (y) (by exact Bits.mono hx (by decide)) (by exact Bits.mono hy (by decide)) (by assumption)) (subC 0 rfl (subC 1 rfl sub0)) (by kernel_rfl) (fun zq0 => ?_)
  refine st_fn ent146 (fzsign (zq0.snd) (x.fmod y) (by exact Bits.fit (fmod_b hy (by first | assumption | omega)) (by decide))) (subC 1 rfl sub0) (by kernel_rfl) ?_
  refine st_b 29 (show (cmpI (x.fmod y) 0 == 0) = false by exact decide_eq_false (by omega)) (by kernel_rfl) ?_
  refine st_g ent127 (fzofu (1) (by omega) (by omega)) sub0 (by kernel_rfl) (fun zq2 => ?_)
  refine st_g ent125 (fzadd (zq0.fst) (zq2) (x.fdiv y) (1) (by exact Bits.fit (fdiv_b hx (by first | assumption | omega)) (by decide)) (by exact Bits.fit (show Bits 64 (1) from (by unfold Bits; decide)) (by decide))) (subC 1 rfl (subC 0 rfl sub0)) (by kernel_rfl) (fun zq3 => ?_)
  refine st_fn ent146 (fzsign (p) (x) (by exact Bits.fit hx (by decide))) (subC 4 rfl sub0) (by kernel_rfl) ?_
  refine st_b 38 (show (decide (cmpI x 0 < 0)) = false by exact decide_eq_false (by omega)) (by kernel_rfl) ?_
  refine st_g ent125 (fzadd (zq0.snd) (zq0.snd) (x.fmod y) (x.fmod y) (by exact Bits.fit (fmod_b hy (by first | assumption | omega)) (by decide)) (by exact Bits.fit (fmod_b hy (by first | assumption | omega)) (by decide))) (subC 3 rfl (subC 3 rfl sub0)) (by kernel_rfl) (fun zq5 => ?_)
  refine st_fn ent45 (fzcmp (zq5) (q) (x.fmod y + x.fmod y) (y) (by exact Bits.fit (Bits.add (Bits.mono (l := 200) (fmod_b hy (by first | assumption | omega)) (by decide)) (Bits.mono (l := 200) (fmod_b hy (by first | assumption | omega)) (by decide))) (by decide)) (by exact Bits.fit hy (by decide))) (subC 0 rfl (subC 6 rfl sub0)) (by kernel_rfl) ?_
  refine st_b 50 (show (decide (cmpI (x.fmod y + x.fmod y) y < 0)) = false by exact decide_eq_false (by omega)) (by kernel_rfl) ?_
  refine st_b 57 (show (decide (cmpI (x.fmod y + x.fmod y) y > 0)) = false by exact decide_eq_false (by omega)) (by kernel_rfl) ?_
  exact st_retG (zq3) Try.func108 (subE 1 rfl (by omega) sub0) (by kernel_rfl)
theorem near_8nl (p q : ZQ) (x y : Int) (hx : Bits 200 x) (hy : Bits 200 y) (h0 : 0 < y) (hne : y ≠ 0) (hc : cmpI (x.fmod y) 0 = 1) (hs : cmpI x 0 = -1) (hh : cmpI (x.fmod y + x.fmod y) y = -1) (e : x.fdiv y = nearQ x y 8) :
    FnZ 108 [(p, x), (q, y)] [zv p, zv q, .int .i64 8] (fun z => .tuple #[zv z, .bool true]) (nearQ x y 8) := by
  refine fnG_of Try.func108 rfl fun ww => ?_
  refine st_g ent122 (fzdiv (p) (q) (x) (y) (by exact Bits.mono hx (by decide)) (by exact Bits.mono hy (by decide)) (by assumption)) (subC 0 rfl (subC 1 rfl sub0)) (by kernel_rfl) (fun zq0 => ?_)
  refine st_fn ent146 (fzsign (zq0.snd) (x.fmod y) (by exact Bits.fit (fmod_b hy (by first | assumption | omega)) (by decide))) (subC 1 rfl sub0) (by kernel_rfl) ?_
  refine st_b 29 (show (cmpI (x.fmod y) 0 == 0) = false by exact decide_eq_false (by omega)) (by kernel_rfl) ?_
  refine st_g ent127 (fzofu (1) (by omega) (by omega)) sub0 (by kernel_rfl) (fun zq2 => ?_)
  refine st_g ent125 (fzadd (zq0.fst) (zq2) (x.fdiv y) (1) (by exact Bits.fit (fdiv_b hx (by first | assumption | omega)) (by decide)) (by exact Bits.fit (show Bits 64 (1) from (by unfold Bits; decide)) (by decide))) (subC 1 rfl (subC 0 rfl sub0)) (by kernel_rfl) (fun zq3 => ?_)
  refine st_fn ent146 (fzsign (p) (x) (by exact Bits.fit hx (by decide))) (subC 4 rfl sub0) (by kernel_rfl) ?_
  refine st_b 38 (show (decide (cmpI x 0 < 0)) = true by exact decide_eq_true (by omega)) (by kernel_rfl) ?_
  refine st_g ent125 (fzadd (zq0.snd) (zq0.snd) (x.fmod y) (x.fmod y) (by exact Bits.fit (fmod_b hy (by first | assumption | omega)) (by decide)) (by exact Bits.fit (fmod_b hy (by first | assumption | omega)) (by decide))) (subC 3 rfl (subC 3 rfl sub0)) (by kernel_rfl) (fun zq5 => ?_)
  refine st_fn ent45 (fzcmp (zq5) (q) (x.fmod y + x.fmod y) (y) (by exact Bits.fit (Bits.add (Bits.mono (l := 200) (fmod_b hy (by first | assumption | omega)) (by decide)) (Bits.mono (l := 200) (fmod_b hy (by first | assumption | omega)) (by decide))) (by decide)) (by exact Bits.fit hy (by decide))) (subC 0 rfl (subC 6 rfl sub0)) (by kernel_rfl) ?_
  refine st_b 50 (show (decide (cmpI (x.fmod y + x.fmod y) y < 0)) = true by exact decide_eq_true (by omega)) (by kernel_rfl) ?_
  exact st_retG (zq0.fst) Try.func108 (subE 3 rfl (by omega) sub0) (by kernel_rfl)
theorem near_8ng (p q : ZQ) (x y : Int) (hx : Bits 200 x) (hy : Bits 200 y) (h0 : 0 < y) (hne : y ≠ 0) (hc : cmpI (x.fmod y) 0 = 1) (hs : cmpI x 0 = -1) (hh : cmpI (x.fmod y + x.fmod y) y = 1) (e : x.fdiv y + 1 = nearQ x y 8) :
    FnZ 108 [(p, x), (q, y)] [zv p, zv q, .int .i64 8] (fun z => .tuple #[zv z, .bool true]) (nearQ x y 8) := by
  refine fnG_of Try.func108 rfl fun ww => ?_
  refine st_g ent122 (fzdiv (p) (q) (x) (y) (by exact Bits.mono hx (by decide)) (by exact Bits.mono hy (by decide)) (by assumption)) (subC 0 rfl (subC 1 rfl sub0)) (by kernel_rfl) (fun zq0 => ?_)
  refine st_fn ent146 (fzsign (zq0.snd) (x.fmod y) (by exact Bits.fit (fmod_b hy (by first | assumption | omega)) (by decide))) (subC 1 rfl sub0) (by kernel_rfl) ?_
  refine st_b 29 (show (cmpI (x.fmod y) 0 == 0) = false by exact decide_eq_false (by omega)) (by kernel_rfl) ?_
  refine st_g ent127 (fzofu (1) (by omega) (by omega)) sub0 (by kernel_rfl) (fun zq2 => ?_)
  refine st_g ent125 (fzadd (zq0.fst) (zq2) (x.fdiv y) (1) (by exact Bits.fit (fdiv_b hx (by first | assumption | omega)) (by decide)) (by exact Bits.fit (show Bits 64 (1) from (by unfold Bits; decide)) (by decide))) (subC 1 rfl (subC 0 rfl sub0)) (by kernel_rfl) (fun zq3 => ?_)
  refine st_fn ent146 (fzsign (p) (x) (by exact Bits.fit hx (by decide))) (subC 4 rfl sub0) (by kernel_rfl) ?_
  refine st_b 38 (show (decide (cmpI x 0 < 0)) = true by exact decide_eq_true (by omega)) (by kernel_rfl) ?_
  refine st_g ent125 (fzadd (zq0.snd) (zq0.snd) (x.fmod y) (x.fmod y) (by exact Bits.fit (fmod_b hy (by first | assumption | omega)) (by decide)) (by exact Bits.fit (fmod_b hy (by first | assumption | omega)) (by decide))) (subC 3 rfl (subC 3 rfl sub0)) (by kernel_rfl) (fun zq5 => ?_)
  refine st_fn ent45 (fzcmp (zq5) (q) (x.fmod y + x.fmod y) (y) (by exact Bits.fit (Bits.add (Bits.mono (l := 200) (fmod_b hy (by first | assumption | omega)) (by decide)) (Bits.mono (l := 200) (fmod_b hy (by first | assumption | omega)) (by decide))) (by decide)) (by exact Bits.fit hy (by decide))) (subC 0 rfl (subC 6 rfl sub0)) (by kernel_rfl) ?_
  refine st_b 50 (show (decide (cmpI (x.fmod y + x.fmod y) y < 0)) = false by exact decide_eq_false (by omega)) (by kernel_rfl) ?_
  refine st_b 57 (show (decide (cmpI (x.fmod y + x.fmod y) y > 0)) = true by exact decide_eq_true (by omega)) (by kernel_rfl) ?_
  exact st_retG (zq3) Try.func108 (subE 1 rfl (by omega) sub0) (by kernel_rfl)
theorem near_8ne (p q : ZQ) (x y : Int) (hx : Bits 200 x) (hy : Bits 200 y) (h0 : 0 < y) (hne : y ≠ 0) (hc : cmpI (x.fmod y) 0 = 1) (hs : cmpI x 0 = -1) (hh : cmpI (x.fmod y + x.fmod y) y = 0) (e : x.fdiv y + 1 = nearQ x y 8) :
    FnZ 108 [(p, x), (q, y)] [zv p, zv q, .int .i64 8] (fun z => .tuple #[zv z, .bool true]) (nearQ x y 8) := by
  refine fnG_of Try.func108 rfl fun ww => ?_
  refine st_g ent122 (fzdiv (p) (q) (x) (y) (by exact Bits.mono hx (by decide)) (by exact Bits.mono hy (by decide)) (by assumption)) (subC 0 rfl (subC 1 rfl sub0)) (by kernel_rfl) (fun zq0 => ?_)
  refine st_fn ent146 (fzsign (zq0.snd) (x.fmod y) (by exact Bits.fit (fmod_b hy (by first | assumption | omega)) (by decide))) (subC 1 rfl sub0) (by kernel_rfl) ?_
  refine st_b 29 (show (cmpI (x.fmod y) 0 == 0) = false by exact decide_eq_false (by omega)) (by kernel_rfl) ?_
  refine st_g ent127 (fzofu (1) (by omega) (by omega)) sub0 (by kernel_rfl) (fun zq2 => ?_)
  refine st_g ent125 (fzadd (zq0.fst) (zq2) (x.fdiv y) (1) (by exact Bits.fit (fdiv_b hx (by first | assumption | omega)) (by decide)) (by exact Bits.fit (show Bits 64 (1) from (by unfold Bits; decide)) (by decide))) (subC 1 rfl (subC 0 rfl sub0)) (by kernel_rfl) (fun zq3 => ?_)
  refine st_fn ent146 (fzsign (p) (x) (by exact Bits.fit hx (by decide))) (subC 4 rfl sub0) (by kernel_rfl) ?_
  refine st_b 38 (show (decide (cmpI x 0 < 0)) = true by exact decide_eq_true (by omega)) (by kernel_rfl) ?_
  refine st_g ent125 (fzadd (zq0.snd) (zq0.snd) (x.fmod y) (x.fmod y) (by exact Bits.fit (fmod_b hy (by first | assumption | omega)) (by decide)) (by exact Bits.fit (fmod_b hy (by first | assumption | omega)) (by decide))) (subC 3 rfl (subC 3 rfl sub0)) (by kernel_rfl) (fun zq5 => ?_)
  refine st_fn ent45 (fzcmp (zq5) (q) (x.fmod y + x.fmod y) (y) (by exact Bits.fit (Bits.add (Bits.mono (l := 200) (fmod_b hy (by first | assumption | omega)) (by decide)) (Bits.mono (l := 200) (fmod_b hy (by first | assumption | omega)) (by decide))) (by decide)) (by exact Bits.fit hy (by decide))) (subC 0 rfl (subC 6 rfl sub0)) (by kernel_rfl) ?_
  refine st_b 50 (show (decide (cmpI (x.fmod y + x.fmod y) y < 0)) = false by exact decide_eq_false (by omega)) (by kernel_rfl) ?_
  refine st_b 57 (show (decide (cmpI (x.fmod y + x.fmod y) y > 0)) = false by exact decide_eq_false (by omega)) (by kernel_rfl) ?_
  exact st_retG (zq3) Try.func108 (subE 1 rfl (by omega) sub0) (by kernel_rfl)
theorem near_8pl (p q : ZQ) (x y : Int) (hx : Bits 200 x) (hy : Bits 200 y) (h0 : 0 < y) (hne : y ≠ 0) (hc : cmpI (x.fmod y) 0 = 1) (hs : 0 ≤ cmpI x 0) (hh : cmpI (x.fmod y + x.fmod y) y = -1) (e : x.fdiv y = nearQ x y 8) :
    FnZ 108 [(p, x), (q, y)] [zv p, zv q, .int .i64 8] (fun z => .tuple #[zv z, .bool true]) (nearQ x y 8) := by
  refine fnG_of Try.func108 rfl fun ww => ?_
  refine st_g ent122 (fzdiv (p) (q) (x) (y) (by exact Bits.mono hx (by decide)) (by exact Bits.mono hy (by decide)) (by assumption)) (subC 0 rfl (subC 1 rfl sub0)) (by kernel_rfl) (fun zq0 => ?_)
  refine st_fn ent146 (fzsign (zq0.snd) (x.fmod y) (by exact Bits.fit (fmod_b hy (by first | assumption | omega)) (by decide))) (subC 1 rfl sub0) (by kernel_rfl) ?_
  refine st_b 29 (show (cmpI (x.fmod y) 0 == 0) = false by exact decide_eq_false (by omega)) (by kernel_rfl) ?_
  refine st_g ent127 (fzofu (1) (by omega) (by omega)) sub0 (by kernel_rfl) (fun zq2 => ?_)
  refine st_g ent125 (fzadd (zq0.fst) (zq2) (x.fdiv y) (1) (by exact Bits.fit (fdiv_b hx (by first | assumption | omega)) (by decide)) (by exact Bits.fit (show Bits 64 (1) from (by unfold Bits; decide)) (by decide))) (subC 1 rfl (subC 0 rfl sub0)) (by kernel_rfl) (fun zq3 => ?_)
  refine st_fn ent146 (fzsign (p) (x) (by exact Bits.fit hx (by decide))) (subC 4 rfl sub0) (by kernel_rfl) ?_
  refine st_b 38 (show (decide (cmpI x 0 < 0)) = false by exact decide_eq_false (by omega)) (by kernel_rfl) ?_
  refine st_g ent125 (fzadd (zq0.snd) (zq0.snd) (x.fmod y) (x.fmod y) (by exact Bits.fit (fmod_b hy (by first | assumption | omega)) (by decide)) (by exact Bits.fit (fmod_b hy (by first | assumption | omega)) (by decide))) (subC 3 rfl (subC 3 rfl sub0)) (by kernel_rfl) (fun zq5 => ?_)
  refine st_fn ent45 (fzcmp (zq5) (q) (x.fmod y + x.fmod y) (y) (by exact Bits.fit (Bits.add (Bits.mono (l := 200) (fmod_b hy (by first | assumption | omega)) (by decide)) (Bits.mono (l := 200) (fmod_b hy (by first | assumption | omega)) (by decide))) (by decide)) (by exact Bits.fit hy (by decide))) (subC 0 rfl (subC 6 rfl sub0)) (by kernel_rfl) ?_
  refine st_b 50 (show (decide (cmpI (x.fmod y + x.fmod y) y < 0)) = true by exact decide_eq_true (by omega)) (by kernel_rfl) ?_
  exact st_retG (zq0.fst) Try.func108 (subE 3 rfl (by omega) sub0) (by kernel_rfl)
theorem near_8pg (p q : ZQ) (x y : Int) (hx : Bits 200 x) (hy : Bits 200 y) (h0 : 0 < y) (hne : y ≠ 0) (hc : cmpI (x.fmod y) 0 = 1) (hs : 0 ≤ cmpI x 0) (hh : cmpI (x.fmod y + x.fmod y) y = 1) (e : x.fdiv y + 1 = nearQ x y 8) :
    FnZ 108 [(p, x), (q, y)] [zv p, zv q, .int .i64 8] (fun z => .tuple #[zv z, .bool true]) (nearQ x y 8) := by
  refine fnG_of Try.func108 rfl fun ww => ?_
  refine st_g ent122 (fzdiv (p) (q) (x) (y) (by exact Bits.mono hx (by decide)) (by exact Bits.mono hy (by decide)) (by assumption)) (subC 0 rfl (subC 1 rfl sub0)) (by kernel_rfl) (fun zq0 => ?_)
  refine st_fn ent146 (fzsign (zq0.snd) (x.fmod y) (by exact Bits.fit (fmod_b hy (by first | assumption | omega)) (by decide))) (subC 1 rfl sub0) (by kernel_rfl) ?_
  refine st_b 29 (show (cmpI (x.fmod y) 0 == 0) = false by exact decide_eq_false (by omega)) (by kernel_rfl) ?_
  refine st_g ent127 (fzofu (1) (by omega) (by omega)) sub0 (by kernel_rfl) (fun zq2 => ?_)
  refine st_g ent125 (fzadd (zq0.fst) (zq2) (x.fdiv y) (1) (by exact Bits.fit (fdiv_b hx (by first | assumption | omega)) (by decide)) (by exact Bits.fit (show Bits 64 (1) from (by unfold Bits; decide)) (by decide))) (subC 1 rfl (subC 0 rfl sub0)) (by kernel_rfl) (fun zq3 => ?_)
  refine st_fn ent146 (fzsign (p) (x) (by exact Bits.fit hx (by decide))) (subC 4 rfl sub0) (by kernel_rfl) ?_
  refine st_b 38 (show (decide (cmpI x 0 < 0)) = false by exact decide_eq_false (by omega)) (by kernel_rfl) ?_
  refine st_g ent125 (fzadd (zq0.snd) (zq0.snd) (x.fmod y) (x.fmod y) (by exact Bits.fit (fmod_b hy (by first | assumption | omega)) (by decide)) (by exact Bits.fit (fmod_b hy (by first | assumption | omega)) (by decide))) (subC 3 rfl (subC 3 rfl sub0)) (by kernel_rfl) (fun zq5 => ?_)
  refine st_fn ent45 (fzcmp (zq5) (q) (x.fmod y + x.fmod y) (y) (by exact Bits.fit (Bits.add (Bits.mono (l := 200) (fmod_b hy (by first | assumption | omega)) (by decide)) (Bits.mono (l := 200) (fmod_b hy (by first | assumption | omega)) (by decide))) (by decide)) (by exact Bits.fit hy (by decide))) (subC 0 rfl (subC 6 rfl sub0)) (by kernel_rfl) ?_
  refine st_b 50 (show (decide (cmpI (x.fmod y + x.fmod y) y < 0)) = false by exact decide_eq_false (by omega)) (by kernel_rfl) ?_
  refine st_b 57 (show (decide (cmpI (x.fmod y + x.fmod y) y > 0)) = true by exact decide_eq_true (by omega)) (by kernel_rfl) ?_
  exact st_retG (zq3) Try.func108 (subE 1 rfl (by omega) sub0) (by kernel_rfl)
theorem near_8pe (p q : ZQ) (x y : Int) (hx : Bits 200 x) (hy : Bits 200 y) (h0 : 0 < y) (hne : y ≠ 0) (hc : cmpI (x.fmod y) 0 = 1) (hs : 0 ≤ cmpI x 0) (hh : cmpI (x.fmod y + x.fmod y) y = 0) (e : x.fdiv y = nearQ x y 8) :
    FnZ 108 [(p, x), (q, y)] [zv p, zv q, .int .i64 8] (fun z => .tuple #[zv z, .bool true]) (nearQ x y 8) := by
  refine fnG_of Try.func108 rfl fun ww => ?_
  refine st_g ent122 (fzdiv (p) (q) (x) (y) (by exact Bits.mono hx (by decide)) (by exact Bits.mono hy (by decide)) (by assumption)) (subC 0 rfl (subC 1 rfl sub0)) (by kernel_rfl) (fun zq0 => ?_)
  refine st_fn ent146 (fzsign (zq0.snd) (x.fmod y) (by exact Bits.fit (fmod_b hy (by first | assumption | omega)) (by decide))) (subC 1 rfl sub0) (by kernel_rfl) ?_
  refine st_b 29 (show (cmpI (x.fmod y) 0 == 0) = false by exact decide_eq_false (by omega)) (by kernel_rfl) ?_
  refine st_g ent127 (fzofu (1) (by omega) (by omega)) sub0 (by kernel_rfl) (fun zq2 => ?_)
  refine st_g ent125 (fzadd (zq0.fst) (zq2) (x.fdiv y) (1) (by exact Bits.fit (fdiv_b hx (by first | assumption | omega)) (by decide)) (by exact Bits.fit (show Bits 64 (1) from (by unfold Bits; decide)) (by decide))) (subC 1 rfl (subC 0 rfl sub0)) (by kernel_rfl) (fun zq3 => ?_)
  refine st_fn ent146 (fzsign (p) (x) (by exact Bits.fit hx (by decide))) (subC 4 rfl sub0) (by kernel_rfl) ?_
  refine st_b 38 (show (decide (cmpI x 0 < 0)) = false by exact decide_eq_false (by omega)) (by kernel_rfl) ?_
  refine st_g ent125 (fzadd (zq0.snd) (zq0.snd) (x.fmod y) (x.fmod y) (by exact Bits.fit (fmod_b hy (by first | assumption | omega)) (by decide)) (by exact Bits.fit (fmod_b hy (by first | assumption | omega)) (by decide))) (subC 3 rfl (subC 3 rfl sub0)) (by kernel_rfl) (fun zq5 => ?_)
  refine st_fn ent45 (fzcmp (zq5) (q) (x.fmod y + x.fmod y) (y) (by exact Bits.fit (Bits.add (Bits.mono (l := 200) (fmod_b hy (by first | assumption | omega)) (by decide)) (Bits.mono (l := 200) (fmod_b hy (by first | assumption | omega)) (by decide))) (by decide)) (by exact Bits.fit hy (by decide))) (subC 0 rfl (subC 6 rfl sub0)) (by kernel_rfl) ?_
  refine st_b 50 (show (decide (cmpI (x.fmod y + x.fmod y) y < 0)) = false by exact decide_eq_false (by omega)) (by kernel_rfl) ?_
  refine st_b 57 (show (decide (cmpI (x.fmod y + x.fmod y) y > 0)) = false by exact decide_eq_false (by omega)) (by kernel_rfl) ?_
  exact st_retG (zq0.fst) Try.func108 (subE 3 rfl (by omega) sub0) (by kernel_rfl)
theorem near_9nl (p q : ZQ) (x y : Int) (hx : Bits 200 x) (hy : Bits 200 y) (h0 : 0 < y) (hne : y ≠ 0) (hc : cmpI (x.fmod y) 0 = 1) (hs : cmpI x 0 = -1) (hh : cmpI (x.fmod y + x.fmod y) y = -1) (e : x.fdiv y = nearQ x y 9) :
    FnZ 108 [(p, x), (q, y)] [zv p, zv q, .int .i64 9] (fun z => .tuple #[zv z, .bool true]) (nearQ x y 9) := by
  refine fnG_of Try.func108 rfl fun ww => ?_
  refine st_g ent122 (fzdiv (p) (q) (x) (y) (by exact Bits.mono hx (by decide)) (by exact Bits.mono hy (by decide)) (by assumption)) (subC 0 rfl (subC 1 rfl sub0)) (by kernel_rfl) (fun zq0 => ?_)
  refine st_fn ent146 (fzsign (zq0.snd) (x.fmod y) (by exact Bits.fit (fmod_b hy (by first | assumption | omega)) (by decide))) (subC 1 rfl sub0) (by kernel_rfl) ?_
  refine st_b 29 (show (cmpI (x.fmod y) 0 == 0) = false by exact decide_eq_false (by omega)) (by kernel_rfl) ?_
  refine st_g ent127 (fzofu (1) (by omega) (by omega)) sub0 (by kernel_rfl) (fun zq2 => ?_)
  refine st_g ent125 (fzadd (zq0.fst) (zq2) (x.fdiv y) (1) (by exact Bits.fit (fdiv_b hx (by first | assumption | omega)) (by decide)) (by exact Bits.fit (show Bits 64 (1) from (by unfold Bits; decide)) (by decide))) (subC 1 rfl (subC 0 rfl sub0)) (by kernel_rfl) (fun zq3 => ?_)
  refine st_fn ent146 (fzsign (p) (x) (by exact Bits.fit hx (by decide))) (subC 4 rfl sub0) (by kernel_rfl) ?_
  refine st_b 38 (show (decide (cmpI x 0 < 0)) = true by exact decide_eq_true (by omega)) (by kernel_rfl) ?_
  refine st_g ent125 (fzadd (zq0.snd) (zq0.snd) (x.fmod y) (x.fmod y) (by exact Bits.fit (fmod_b hy (by first | assumption | omega)) (by decide)) (by exact Bits.fit (fmod_b hy (by first | assumption | omega)) (by decide))) (subC 3 rfl (subC 3 rfl sub0)) (by kernel_rfl) (fun zq5 => ?_)
  refine st_fn ent45 (fzcmp (zq5) (q) (x.fmod y + x.fmod y) (y) (by exact Bits.fit (Bits.add (Bits.mono (l := 200) (fmod_b hy (by first | assumption | omega)) (by decide)) (Bits.mono (l := 200) (fmod_b hy (by first | assumption | omega)) (by decide))) (by decide)) (by exact Bits.fit hy (by decide))) (subC 0 rfl (subC 6 rfl sub0)) (by kernel_rfl) ?_
  refine st_b 50 (show (decide (cmpI (x.fmod y + x.fmod y) y < 0)) = true by exact decide_eq_true (by omega)) (by kernel_rfl) ?_
  exact st_retG (zq0.fst) Try.func108 (subE 3 rfl (by omega) sub0) (by kernel_rfl)
theorem near_9ng (p q : ZQ) (x y : Int) (hx : Bits 200 x) (hy : Bits 200 y) (h0 : 0 < y) (hne : y ≠ 0) (hc : cmpI (x.fmod y) 0 = 1) (hs : cmpI x 0 = -1) (hh : cmpI (x.fmod y + x.fmod y) y = 1) (e : x.fdiv y + 1 = nearQ x y 9) :
    FnZ 108 [(p, x), (q, y)] [zv p, zv q, .int .i64 9] (fun z => .tuple #[zv z, .bool true]) (nearQ x y 9) := by
  refine fnG_of Try.func108 rfl fun ww => ?_
  refine st_g ent122 (fzdiv (p) (q) (x) (y) (by exact Bits.mono hx (by decide)) (by exact Bits.mono hy (by decide)) (by assumption)) (subC 0 rfl (subC 1 rfl sub0)) (by kernel_rfl) (fun zq0 => ?_)
  refine st_fn ent146 (fzsign (zq0.snd) (x.fmod y) (by exact Bits.fit (fmod_b hy (by first | assumption | omega)) (by decide))) (subC 1 rfl sub0) (by kernel_rfl) ?_
  refine st_b 29 (show (cmpI (x.fmod y) 0 == 0) = false by exact decide_eq_false (by omega)) (by kernel_rfl) ?_
  refine st_g ent127 (fzofu (1) (by omega) (by omega)) sub0 (by kernel_rfl) (fun zq2 => ?_)
  refine st_g ent125 (fzadd (zq0.fst) (zq2) (x.fdiv y) (1) (by exact Bits.fit (fdiv_b hx (by first | assumption | omega)) (by decide)) (by exact Bits.fit (show Bits 64 (1) from (by unfold Bits; decide)) (by decide))) (subC 1 rfl (subC 0 rfl sub0)) (by kernel_rfl) (fun zq3 => ?_)
  refine st_fn ent146 (fzsign (p) (x) (by exact Bits.fit hx (by decide))) (subC 4 rfl sub0) (by kernel_rfl) ?_
  refine st_b 38 (show (decide (cmpI x 0 < 0)) = true by exact decide_eq_true (by omega)) (by kernel_rfl) ?_
  refine st_g ent125 (fzadd (zq0.snd) (zq0.snd) (x.fmod y) (x.fmod y) (by exact Bits.fit (fmod_b hy (by first | assumption | omega)) (by decide)) (by exact Bits.fit (fmod_b hy (by first | assumption | omega)) (by decide))) (subC 3 rfl (subC 3 rfl sub0)) (by kernel_rfl) (fun zq5 => ?_)
  refine st_fn ent45 (fzcmp (zq5) (q) (x.fmod y + x.fmod y) (y) (by exact Bits.fit (Bits.add (Bits.mono (l := 200) (fmod_b hy (by first | assumption | omega)) (by decide)) (Bits.mono (l := 200) (fmod_b hy (by first | assumption | omega)) (by decide))) (by decide)) (by exact Bits.fit hy (by decide))) (subC 0 rfl (subC 6 rfl sub0)) (by kernel_rfl) ?_
  refine st_b 50 (show (decide (cmpI (x.fmod y + x.fmod y) y < 0)) = false by exact decide_eq_false (by omega)) (by kernel_rfl) ?_
  refine st_b 57 (show (decide (cmpI (x.fmod y + x.fmod y) y > 0)) = true by exact decide_eq_true (by omega)) (by kernel_rfl) ?_
  exact st_retG (zq3) Try.func108 (subE 1 rfl (by omega) sub0) (by kernel_rfl)
theorem near_9pl (p q : ZQ) (x y : Int) (hx : Bits 200 x) (hy : Bits 200 y) (h0 : 0 < y) (hne : y ≠ 0) (hc : cmpI (x.fmod y) 0 = 1) (hs : 0 ≤ cmpI x 0) (hh : cmpI (x.fmod y + x.fmod y) y = -1) (e : x.fdiv y = nearQ x y 9) :
    FnZ 108 [(p, x), (q, y)] [zv p, zv q, .int .i64 9] (fun z => .tuple #[zv z, .bool true]) (nearQ x y 9) := by
  refine fnG_of Try.func108 rfl fun ww => ?_
  refine st_g ent122 (fzdiv (p) (q) (x) (y) (by exact Bits.mono hx (by decide)) (by exact Bits.mono hy (by decide)) (by assumption)) (subC 0 rfl (subC 1 rfl sub0)) (by kernel_rfl) (fun zq0 => ?_)
  refine st_fn ent146 (fzsign (zq0.snd) (x.fmod y) (by exact Bits.fit (fmod_b hy (by first | assumption | omega)) (by decide))) (subC 1 rfl sub0) (by kernel_rfl) ?_
  refine st_b 29 (show (cmpI (x.fmod y) 0 == 0) = false by exact decide_eq_false (by omega)) (by kernel_rfl) ?_
  refine st_g ent127 (fzofu (1) (by omega) (by omega)) sub0 (by kernel_rfl) (fun zq2 => ?_)
  refine st_g ent125 (fzadd (zq0.fst) (zq2) (x.fdiv y) (1) (by exact Bits.fit (fdiv_b hx (by first | assumption | omega)) (by decide)) (by exact Bits.fit (show Bits 64 (1) from (by unfold Bits; decide)) (by decide))) (subC 1 rfl (subC 0 rfl sub0)) (by kernel_rfl) (fun zq3 => ?_)
  refine st_fn ent146 (fzsign (p) (x) (by exact Bits.fit hx (by decide))) (subC 4 rfl sub0) (by kernel_rfl) ?_
  refine st_b 38 (show (decide (cmpI x 0 < 0)) = false by exact decide_eq_false (by omega)) (by kernel_rfl) ?_
  refine st_g ent125 (fzadd (zq0.snd) (zq0.snd) (x.fmod y) (x.fmod y) (by exact Bits.fit (fmod_b hy (by first | assumption | omega)) (by decide)) (by exact Bits.fit (fmod_b hy (by first | assumption | omega)) (by decide))) (subC 3 rfl (subC 3 rfl sub0)) (by kernel_rfl) (fun zq5 => ?_)
  refine st_fn ent45 (fzcmp (zq5) (q) (x.fmod y + x.fmod y) (y) (by exact Bits.fit (Bits.add (Bits.mono (l := 200) (fmod_b hy (by first | assumption | omega)) (by decide)) (Bits.mono (l := 200) (fmod_b hy (by first | assumption | omega)) (by decide))) (by decide)) (by exact Bits.fit hy (by decide))) (subC 0 rfl (subC 6 rfl sub0)) (by kernel_rfl) ?_
  refine st_b 50 (show (decide (cmpI (x.fmod y + x.fmod y) y < 0)) = true by exact decide_eq_true (by omega)) (by kernel_rfl) ?_
  exact st_retG (zq0.fst) Try.func108 (subE 3 rfl (by omega) sub0) (by kernel_rfl)
theorem near_9pg (p q : ZQ) (x y : Int) (hx : Bits 200 x) (hy : Bits 200 y) (h0 : 0 < y) (hne : y ≠ 0) (hc : cmpI (x.fmod y) 0 = 1) (hs : 0 ≤ cmpI x 0) (hh : cmpI (x.fmod y + x.fmod y) y = 1) (e : x.fdiv y + 1 = nearQ x y 9) :
    FnZ 108 [(p, x), (q, y)] [zv p, zv q, .int .i64 9] (fun z => .tuple #[zv z, .bool true]) (nearQ x y 9) := by
  refine fnG_of Try.func108 rfl fun ww => ?_
  refine st_g ent122 (fzdiv (p) (q) (x) (y) (by exact Bits.mono hx (by decide)) (by exact Bits.mono hy (by decide)) (by assumption)) (subC 0 rfl (subC 1 rfl sub0)) (by kernel_rfl) (fun zq0 => ?_)
  refine st_fn ent146 (fzsign (zq0.snd) (x.fmod y) (by exact Bits.fit (fmod_b hy (by first | assumption | omega)) (by decide))) (subC 1 rfl sub0) (by kernel_rfl) ?_
  refine st_b 29 (show (cmpI (x.fmod y) 0 == 0) = false by exact decide_eq_false (by omega)) (by kernel_rfl) ?_
  refine st_g ent127 (fzofu (1) (by omega) (by omega)) sub0 (by kernel_rfl) (fun zq2 => ?_)
  refine st_g ent125 (fzadd (zq0.fst) (zq2) (x.fdiv y) (1) (by exact Bits.fit (fdiv_b hx (by first | assumption | omega)) (by decide)) (by exact Bits.fit (show Bits 64 (1) from (by unfold Bits; decide)) (by decide))) (subC 1 rfl (subC 0 rfl sub0)) (by kernel_rfl) (fun zq3 => ?_)
  refine st_fn ent146 (fzsign (p) (x) (by exact Bits.fit hx (by decide))) (subC 4 rfl sub0) (by kernel_rfl) ?_
  refine st_b 38 (show (decide (cmpI x 0 < 0)) = false by exact decide_eq_false (by omega)) (by kernel_rfl) ?_
  refine st_g ent125 (fzadd (zq0.snd) (zq0.snd) (x.fmod y) (x.fmod y) (by exact Bits.fit (fmod_b hy (by first | assumption | omega)) (by decide)) (by exact Bits.fit (fmod_b hy (by first | assumption | omega)) (by decide))) (subC 3 rfl (subC 3 rfl sub0)) (by kernel_rfl) (fun zq5 => ?_)
  refine st_fn ent45 (fzcmp (zq5) (q) (x.fmod y + x.fmod y) (y) (by exact Bits.fit (Bits.add (Bits.mono (l := 200) (fmod_b hy (by first | assumption | omega)) (by decide)) (Bits.mono (l := 200) (fmod_b hy (by first | assumption | omega)) (by decide))) (by decide)) (by exact Bits.fit hy (by decide))) (subC 0 rfl (subC 6 rfl sub0)) (by kernel_rfl) ?_
  refine st_b 50 (show (decide (cmpI (x.fmod y + x.fmod y) y < 0)) = false by exact decide_eq_false (by omega)) (by kernel_rfl) ?_
  refine st_b 57 (show (decide (cmpI (x.fmod y + x.fmod y) y > 0)) = true by exact decide_eq_true (by omega)) (by kernel_rfl) ?_
  exact st_retG (zq3) Try.func108 (subE 1 rfl (by omega) sub0) (by kernel_rfl)
theorem near_9nez (p q : ZQ) (x y : Int) (hx : Bits 200 x) (hy : Bits 200 y) (h0 : 0 < y) (hne : y ≠ 0) (hc : cmpI (x.fmod y) 0 = 1) (hs : cmpI x 0 = -1) (hh : cmpI (x.fmod y + x.fmod y) y = 0) (hl : x.fdiv y = 0) (e : x.fdiv y = nearQ x y 9) :
    FnZ 108 [(p, x), (q, y)] [zv p, zv q, .int .i64 9] (fun z => .tuple #[zv z, .bool true]) (nearQ x y 9) := by
  refine fnG_of Try.func108 rfl fun ww => ?_
  refine st_g ent122 (fzdiv p q x y (by exact Bits.mono hx (by decide)) (by exact Bits.mono hy (by decide)) hne) (subC 0 rfl (subC 1 rfl sub0)) (by kernel_rfl) (fun zd => ?_)
  refine st_know (fun w h => z_pure (q := zd.1) (x := x.fdiv y) (h (zd.1, x.fdiv y) (List.mem_append_left _ (by simp)))) fun hk => ?_
  have hl0 := hk.1 hl
  clear hk
  refine st_fn ent146 (fzsign (zd.snd) (x.fmod y) (by exact Bits.fit (fmod_b hy (by first | assumption | omega)) (by decide))) (subC 1 rfl sub0) (by kernel_rfl) ?_
  refine st_b 29 (show (cmpI (x.fmod y) 0 == 0) = false by exact decide_eq_false (by omega)) (by kernel_rfl) ?_
  refine st_g ent127 (fzofu (1) (by omega) (by omega)) sub0 (by kernel_rfl) (fun zq1 => ?_)
  refine st_g ent125 (fzadd (zd.fst) (zq1) (x.fdiv y) (1) (by exact Bits.fit (fdiv_b hx (by first | assumption | omega)) (by decide)) (by exact Bits.fit (show Bits 64 (1) from (by unfold Bits; decide)) (by decide))) (subC 1 rfl (subC 0 rfl sub0)) (by kernel_rfl) (fun zq2 => ?_)
  refine st_fn ent146 (fzsign (p) (x) (by exact Bits.fit hx (by decide))) (subC 4 rfl sub0) (by kernel_rfl) ?_
  refine st_b 38 (show (decide (cmpI x 0 < 0)) = true by exact decide_eq_true (by omega)) (by kernel_rfl) ?_
  refine st_g ent125 (fzadd (zd.snd) (zd.snd) (x.fmod y) (x.fmod y) (by exact Bits.fit (fmod_b hy (by first | assumption | omega)) (by decide)) (by exact Bits.fit (fmod_b hy (by first | assumption | omega)) (by decide))) (subC 3 rfl (subC 3 rfl sub0)) (by kernel_rfl) (fun zq4 => ?_)
  refine st_fn ent45 (fzcmp (zq4) (q) (x.fmod y + x.fmod y) (y) (by exact Bits.fit (Bits.add (Bits.mono (l := 200) (fmod_b hy (by first | assumption | omega)) (by decide)) (Bits.mono (l := 200) (fmod_b hy (by first | assumption | omega)) (by decide))) (by decide)) (by exact Bits.fit hy (by decide))) (subC 0 rfl (subC 6 rfl sub0)) (by kernel_rfl) ?_
  refine st_b 50 (show (decide (cmpI (x.fmod y + x.fmod y) y < 0)) = false by exact decide_eq_false (by omega)) (by kernel_rfl) ?_
  refine st_b 57 (show (decide (cmpI (x.fmod y + x.fmod y) y > 0)) = false by exact decide_eq_false (by omega)) (by kernel_rfl) ?_
  refine st_b 80 (show ((↑zd.fst.l : Int) == 0) = true by exact decide_eq_true (by omega)) (by kernel_rfl) ?_
  exact st_retG (zd.fst) Try.func108 (subE 3 rfl (by omega) sub0) (by kernel_rfl)
theorem near_9nee (p q : ZQ) (x y : Int) (hx : Bits 200 x) (hy : Bits 200 y) (h0 : 0 < y) (hne : y ≠ 0) (hc : cmpI (x.fmod y) 0 = 1) (hs : cmpI x 0 = -1) (hh : cmpI (x.fmod y + x.fmod y) y = 0) (hl : x.fdiv y ≠ 0) (hp : x.fdiv y % 2 = 0) (e : x.fdiv y = nearQ x y 9) :
    FnZ 108 [(p, x), (q, y)] [zv p, zv q, .int .i64 9] (fun z => .tuple #[zv z, .bool true]) (nearQ x y 9) := by
  refine fnG_of Try.func108 rfl fun ww => ?_
  refine st_g ent122 (fzdiv p q x y (by exact Bits.mono hx (by decide)) (by exact Bits.mono hy (by decide)) hne) (subC 0 rfl (subC 1 rfl sub0)) (by kernel_rfl) (fun zd => ?_)
  refine st_know (fun w h => z_pure (q := zd.1) (x := x.fdiv y) (h (zd.1, x.fdiv y) (List.mem_append_left _ (by simp)))) fun hk => ?_
  obtain ⟨hl0, b, off, ha, hl1⟩ := hk.2 hl
  clear hk
  refine st_fn ent146 (fzsign (zd.snd) (x.fmod y) (by exact Bits.fit (fmod_b hy (by first | assumption | omega)) (by decide))) (subC 1 rfl sub0) (by kernel_rfl) ?_
  refine st_b 29 (show (cmpI (x.fmod y) 0 == 0) = false by exact decide_eq_false (by omega)) (by kernel_rfl) ?_
  refine st_g ent127 (fzofu (1) (by omega) (by omega)) sub0 (by kernel_rfl) (fun zq1 => ?_)
  refine st_g ent125 (fzadd (zd.fst) (zq1) (x.fdiv y) (1) (by exact Bits.fit (fdiv_b hx (by first | assumption | omega)) (by decide)) (by exact Bits.fit (show Bits 64 (1) from (by unfold Bits; decide)) (by decide))) (subC 1 rfl (subC 0 rfl sub0)) (by kernel_rfl) (fun zq2 => ?_)
  refine st_fn ent146 (fzsign (p) (x) (by exact Bits.fit hx (by decide))) (subC 4 rfl sub0) (by kernel_rfl) ?_
  refine st_b 38 (show (decide (cmpI x 0 < 0)) = true by exact decide_eq_true (by omega)) (by kernel_rfl) ?_
  refine st_g ent125 (fzadd (zd.snd) (zd.snd) (x.fmod y) (x.fmod y) (by exact Bits.fit (fmod_b hy (by first | assumption | omega)) (by decide)) (by exact Bits.fit (fmod_b hy (by first | assumption | omega)) (by decide))) (subC 3 rfl (subC 3 rfl sub0)) (by kernel_rfl) (fun zq4 => ?_)
  refine st_fn ent45 (fzcmp (zq4) (q) (x.fmod y + x.fmod y) (y) (by exact Bits.fit (Bits.add (Bits.mono (l := 200) (fmod_b hy (by first | assumption | omega)) (by decide)) (Bits.mono (l := 200) (fmod_b hy (by first | assumption | omega)) (by decide))) (by decide)) (by exact Bits.fit hy (by decide))) (subC 0 rfl (subC 6 rfl sub0)) (by kernel_rfl) ?_
  refine st_b 50 (show (decide (cmpI (x.fmod y + x.fmod y) y < 0)) = false by exact decide_eq_false (by omega)) (by kernel_rfl) ?_
  refine st_b 57 (show (decide (cmpI (x.fmod y + x.fmod y) y > 0)) = false by exact decide_eq_false (by omega)) (by kernel_rfl) ?_
  refine st_b 80 (show ((↑zd.fst.l : Int) == 0) = false by exact decide_eq_false (by omega)) (by kernel_rfl) ?_
  refine st_idx (fun w _ => idx0 (c := zd.1.c) ha hl1 w) (by kernel_rfl) ?_
  refine st_ldv (fun w h => load_int (cell_of (q := zd.1) (x := x.fdiv y) (h (zd.1, x.fdiv y) (by simp)) hl ha)) (by kernel_rfl) ?_
  refine st_b 87 (dig_even hp) (by kernel_rfl) ?_
  exact st_retG (zd.fst) Try.func108 (subE 3 rfl (by omega) sub0) (by kernel_rfl)
theorem near_9neo (p q : ZQ) (x y : Int) (hx : Bits 200 x) (hy : Bits 200 y) (h0 : 0 < y) (hne : y ≠ 0) (hc : cmpI (x.fmod y) 0 = 1) (hs : cmpI x 0 = -1) (hh : cmpI (x.fmod y + x.fmod y) y = 0) (hl : x.fdiv y ≠ 0) (hp : ¬ x.fdiv y % 2 = 0) (e : x.fdiv y + 1 = nearQ x y 9) :
    FnZ 108 [(p, x), (q, y)] [zv p, zv q, .int .i64 9] (fun z => .tuple #[zv z, .bool true]) (nearQ x y 9) := by
  refine fnG_of Try.func108 rfl fun ww => ?_
  refine st_g ent122 (fzdiv p q x y (by exact Bits.mono hx (by decide)) (by exact Bits.mono hy (by decide)) hne) (subC 0 rfl (subC 1 rfl sub0)) (by kernel_rfl) (fun zd => ?_)
  refine st_know (fun w h => z_pure (q := zd.1) (x := x.fdiv y) (h (zd.1, x.fdiv y) (List.mem_append_left _ (by simp)))) fun hk => ?_
  obtain ⟨hl0, b, off, ha, hl1⟩ := hk.2 hl
  clear hk
  refine st_fn ent146 (fzsign (zd.snd) (x.fmod y) (by exact Bits.fit (fmod_b hy (by first | assumption | omega)) (by decide))) (subC 1 rfl sub0) (by kernel_rfl) ?_
  refine st_b 29 (show (cmpI (x.fmod y) 0 == 0) = false by exact decide_eq_false (by omega)) (by kernel_rfl) ?_
  refine st_g ent127 (fzofu (1) (by omega) (by omega)) sub0 (by kernel_rfl) (fun zq1 => ?_)
  refine st_g ent125 (fzadd (zd.fst) (zq1) (x.fdiv y) (1) (by exact Bits.fit (fdiv_b hx (by first | assumption | omega)) (by decide)) (by exact Bits.fit (show Bits 64 (1) from (by unfold Bits; decide)) (by decide))) (subC 1 rfl (subC 0 rfl sub0)) (by kernel_rfl) (fun zq2 => ?_)
  refine st_fn ent146 (fzsign (p) (x) (by exact Bits.fit hx (by decide))) (subC 4 rfl sub0) (by kernel_rfl) ?_
  refine st_b 38 (show (decide (cmpI x 0 < 0)) = true by exact decide_eq_true (by omega)) (by kernel_rfl) ?_
  refine st_g ent125 (fzadd (zd.snd) (zd.snd) (x.fmod y) (x.fmod y) (by exact Bits.fit (fmod_b hy (by first | assumption | omega)) (by decide)) (by exact Bits.fit (fmod_b hy (by first | assumption | omega)) (by decide))) (subC 3 rfl (subC 3 rfl sub0)) (by kernel_rfl) (fun zq4 => ?_)
  refine st_fn ent45 (fzcmp (zq4) (q) (x.fmod y + x.fmod y) (y) (by exact Bits.fit (Bits.add (Bits.mono (l := 200) (fmod_b hy (by first | assumption | omega)) (by decide)) (Bits.mono (l := 200) (fmod_b hy (by first | assumption | omega)) (by decide))) (by decide)) (by exact Bits.fit hy (by decide))) (subC 0 rfl (subC 6 rfl sub0)) (by kernel_rfl) ?_
  refine st_b 50 (show (decide (cmpI (x.fmod y + x.fmod y) y < 0)) = false by exact decide_eq_false (by omega)) (by kernel_rfl) ?_
  refine st_b 57 (show (decide (cmpI (x.fmod y + x.fmod y) y > 0)) = false by exact decide_eq_false (by omega)) (by kernel_rfl) ?_
  refine st_b 80 (show ((↑zd.fst.l : Int) == 0) = false by exact decide_eq_false (by omega)) (by kernel_rfl) ?_
  refine st_idx (fun w _ => idx0 (c := zd.1.c) ha hl1 w) (by kernel_rfl) ?_
  refine st_ldv (fun w h => load_int (cell_of (q := zd.1) (x := x.fdiv y) (h (zd.1, x.fdiv y) (by simp)) hl ha)) (by kernel_rfl) ?_
  refine st_b 87 (dig_odd hp) (by kernel_rfl) ?_
  exact st_retG (zq2) Try.func108 (subE 1 rfl (by omega) sub0) (by kernel_rfl)
theorem near_9pez (p q : ZQ) (x y : Int) (hx : Bits 200 x) (hy : Bits 200 y) (h0 : 0 < y) (hne : y ≠ 0) (hc : cmpI (x.fmod y) 0 = 1) (hs : 0 ≤ cmpI x 0) (hh : cmpI (x.fmod y + x.fmod y) y = 0) (hl : x.fdiv y = 0) (e : x.fdiv y = nearQ x y 9) :
    FnZ 108 [(p, x), (q, y)] [zv p, zv q, .int .i64 9] (fun z => .tuple #[zv z, .bool true]) (nearQ x y 9) := by
  refine fnG_of Try.func108 rfl fun ww => ?_
  refine st_g ent122 (fzdiv p q x y (by exact Bits.mono hx (by decide)) (by exact Bits.mono hy (by decide)) hne) (subC 0 rfl (subC 1 rfl sub0)) (by kernel_rfl) (fun zd => ?_)
  refine st_know (fun w h => z_pure (q := zd.1) (x := x.fdiv y) (h (zd.1, x.fdiv y) (List.mem_append_left _ (by simp)))) fun hk => ?_
  have hl0 := hk.1 hl
  clear hk
  refine st_fn ent146 (fzsign (zd.snd) (x.fmod y) (by exact Bits.fit (fmod_b hy (by first | assumption | omega)) (by decide))) (subC 1 rfl sub0) (by kernel_rfl) ?_
  refine st_b 29 (show (cmpI (x.fmod y) 0 == 0) = false by exact decide_eq_false (by omega)) (by kernel_rfl) ?_
  refine st_g ent127 (fzofu (1) (by omega) (by omega)) sub0 (by kernel_rfl) (fun zq1 => ?_)
  refine st_g ent125 (fzadd (zd.fst) (zq1) (x.fdiv y) (1) (by exact Bits.fit (fdiv_b hx (by first | assumption | omega)) (by decide)) (by exact Bits.fit (show Bits 64 (1) from (by unfold Bits; decide)) (by decide))) (subC 1 rfl (subC 0 rfl sub0)) (by kernel_rfl) (fun zq2 => ?_)
  refine st_fn ent146 (fzsign (p) (x) (by exact Bits.fit hx (by decide))) (subC 4 rfl sub0) (by kernel_rfl) ?_
  refine st_b 38 (show (decide (cmpI x 0 < 0)) = false by exact decide_eq_false (by omega)) (by kernel_rfl) ?_
  refine st_g ent125 (fzadd (zd.snd) (zd.snd) (x.fmod y) (x.fmod y) (by exact Bits.fit (fmod_b hy (by first | assumption | omega)) (by decide)) (by exact Bits.fit (fmod_b hy (by first | assumption | omega)) (by decide))) (subC 3 rfl (subC 3 rfl sub0)) (by kernel_rfl) (fun zq4 => ?_)
  refine st_fn ent45 (fzcmp (zq4) (q) (x.fmod y + x.fmod y) (y) (by exact Bits.fit (Bits.add (Bits.mono (l := 200) (fmod_b hy (by first | assumption | omega)) (by decide)) (Bits.mono (l := 200) (fmod_b hy (by first | assumption | omega)) (by decide))) (by decide)) (by exact Bits.fit hy (by decide))) (subC 0 rfl (subC 6 rfl sub0)) (by kernel_rfl) ?_
  refine st_b 50 (show (decide (cmpI (x.fmod y + x.fmod y) y < 0)) = false by exact decide_eq_false (by omega)) (by kernel_rfl) ?_
  refine st_b 57 (show (decide (cmpI (x.fmod y + x.fmod y) y > 0)) = false by exact decide_eq_false (by omega)) (by kernel_rfl) ?_
  refine st_b 80 (show ((↑zd.fst.l : Int) == 0) = true by exact decide_eq_true (by omega)) (by kernel_rfl) ?_
  exact st_retG (zd.fst) Try.func108 (subE 3 rfl (by omega) sub0) (by kernel_rfl)
theorem near_9pee (p q : ZQ) (x y : Int) (hx : Bits 200 x) (hy : Bits 200 y) (h0 : 0 < y) (hne : y ≠ 0) (hc : cmpI (x.fmod y) 0 = 1) (hs : 0 ≤ cmpI x 0) (hh : cmpI (x.fmod y + x.fmod y) y = 0) (hl : x.fdiv y ≠ 0) (hp : x.fdiv y % 2 = 0) (e : x.fdiv y = nearQ x y 9) :
    FnZ 108 [(p, x), (q, y)] [zv p, zv q, .int .i64 9] (fun z => .tuple #[zv z, .bool true]) (nearQ x y 9) := by
  refine fnG_of Try.func108 rfl fun ww => ?_
  refine st_g ent122 (fzdiv p q x y (by exact Bits.mono hx (by decide)) (by exact Bits.mono hy (by decide)) hne) (subC 0 rfl (subC 1 rfl sub0)) (by kernel_rfl) (fun zd => ?_)
  refine st_know (fun w h => z_pure (q := zd.1) (x := x.fdiv y) (h (zd.1, x.fdiv y) (List.mem_append_left _ (by simp)))) fun hk => ?_
  obtain ⟨hl0, b, off, ha, hl1⟩ := hk.2 hl
  clear hk
  refine st_fn ent146 (fzsign (zd.snd) (x.fmod y) (by exact Bits.fit (fmod_b hy (by first | assumption | omega)) (by decide))) (subC 1 rfl sub0) (by kernel_rfl) ?_
  refine st_b 29 (show (cmpI (x.fmod y) 0 == 0) = false by exact decide_eq_false (by omega)) (by kernel_rfl) ?_
  refine st_g ent127 (fzofu (1) (by omega) (by omega)) sub0 (by kernel_rfl) (fun zq1 => ?_)
  refine st_g ent125 (fzadd (zd.fst) (zq1) (x.fdiv y) (1) (by exact Bits.fit (fdiv_b hx (by first | assumption | omega)) (by decide)) (by exact Bits.fit (show Bits 64 (1) from (by unfold Bits; decide)) (by decide))) (subC 1 rfl (subC 0 rfl sub0)) (by kernel_rfl) (fun zq2 => ?_)
  refine st_fn ent146 (fzsign (p) (x) (by exact Bits.fit hx (by decide))) (subC 4 rfl sub0) (by kernel_rfl) ?_
  refine st_b 38 (show (decide (cmpI x 0 < 0)) = false by exact decide_eq_false (by omega)) (by kernel_rfl) ?_
  refine st_g ent125 (fzadd (zd.snd) (zd.snd) (x.fmod y) (x.fmod y) (by exact Bits.fit (fmod_b hy (by first | assumption | omega)) (by decide)) (by exact Bits.fit (fmod_b hy (by first | assumption | omega)) (by decide))) (subC 3 rfl (subC 3 rfl sub0)) (by kernel_rfl) (fun zq4 => ?_)
  refine st_fn ent45 (fzcmp (zq4) (q) (x.fmod y + x.fmod y) (y) (by exact Bits.fit (Bits.add (Bits.mono (l := 200) (fmod_b hy (by first | assumption | omega)) (by decide)) (Bits.mono (l := 200) (fmod_b hy (by first | assumption | omega)) (by decide))) (by decide)) (by exact Bits.fit hy (by decide))) (subC 0 rfl (subC 6 rfl sub0)) (by kernel_rfl) ?_
  refine st_b 50 (show (decide (cmpI (x.fmod y + x.fmod y) y < 0)) = false by exact decide_eq_false (by omega)) (by kernel_rfl) ?_
  refine st_b 57 (show (decide (cmpI (x.fmod y + x.fmod y) y > 0)) = false by exact decide_eq_false (by omega)) (by kernel_rfl) ?_
  refine st_b 80 (show ((↑zd.fst.l : Int) == 0) = false by exact decide_eq_false (by omega)) (by kernel_rfl) ?_
  refine st_idx (fun w _ => idx0 (c := zd.1.c) ha hl1 w) (by kernel_rfl) ?_
  refine st_ldv (fun w h => load_int (cell_of (q := zd.1) (x := x.fdiv y) (h (zd.1, x.fdiv y) (by simp)) hl ha)) (by kernel_rfl) ?_
  refine st_b 87 (dig_even hp) (by kernel_rfl) ?_
  exact st_retG (zd.fst) Try.func108 (subE 3 rfl (by omega) sub0) (by kernel_rfl)
theorem near_9peo (p q : ZQ) (x y : Int) (hx : Bits 200 x) (hy : Bits 200 y) (h0 : 0 < y) (hne : y ≠ 0) (hc : cmpI (x.fmod y) 0 = 1) (hs : 0 ≤ cmpI x 0) (hh : cmpI (x.fmod y + x.fmod y) y = 0) (hl : x.fdiv y ≠ 0) (hp : ¬ x.fdiv y % 2 = 0) (e : x.fdiv y + 1 = nearQ x y 9) :
    FnZ 108 [(p, x), (q, y)] [zv p, zv q, .int .i64 9] (fun z => .tuple #[zv z, .bool true]) (nearQ x y 9) := by
  refine fnG_of Try.func108 rfl fun ww => ?_
  refine st_g ent122 (fzdiv p q x y (by exact Bits.mono hx (by decide)) (by exact Bits.mono hy (by decide)) hne) (subC 0 rfl (subC 1 rfl sub0)) (by kernel_rfl) (fun zd => ?_)
  refine st_know (fun w h => z_pure (q := zd.1) (x := x.fdiv y) (h (zd.1, x.fdiv y) (List.mem_append_left _ (by simp)))) fun hk => ?_
  obtain ⟨hl0, b, off, ha, hl1⟩ := hk.2 hl
  clear hk
  refine st_fn ent146 (fzsign (zd.snd) (x.fmod y) (by exact Bits.fit (fmod_b hy (by first | assumption | omega)) (by decide))) (subC 1 rfl sub0) (by kernel_rfl) ?_
  refine st_b 29 (show (cmpI (x.fmod y) 0 == 0) = false by exact decide_eq_false (by omega)) (by kernel_rfl) ?_
  refine st_g ent127 (fzofu (1) (by omega) (by omega)) sub0 (by kernel_rfl) (fun zq1 => ?_)
  refine st_g ent125 (fzadd (zd.fst) (zq1) (x.fdiv y) (1) (by exact Bits.fit (fdiv_b hx (by first | assumption | omega)) (by decide)) (by exact Bits.fit (show Bits 64 (1) from (by unfold Bits; decide)) (by decide))) (subC 1 rfl (subC 0 rfl sub0)) (by kernel_rfl) (fun zq2 => ?_)
  refine st_fn ent146 (fzsign (p) (x) (by exact Bits.fit hx (by decide))) (subC 4 rfl sub0) (by kernel_rfl) ?_
  refine st_b 38 (show (decide (cmpI x 0 < 0)) = false by exact decide_eq_false (by omega)) (by kernel_rfl) ?_
  refine st_g ent125 (fzadd (zd.snd) (zd.snd) (x.fmod y) (x.fmod y) (by exact Bits.fit (fmod_b hy (by first | assumption | omega)) (by decide)) (by exact Bits.fit (fmod_b hy (by first | assumption | omega)) (by decide))) (subC 3 rfl (subC 3 rfl sub0)) (by kernel_rfl) (fun zq4 => ?_)
  refine st_fn ent45 (fzcmp (zq4) (q) (x.fmod y + x.fmod y) (y) (by exact Bits.fit (Bits.add (Bits.mono (l := 200) (fmod_b hy (by first | assumption | omega)) (by decide)) (Bits.mono (l := 200) (fmod_b hy (by first | assumption | omega)) (by decide))) (by decide)) (by exact Bits.fit hy (by decide))) (subC 0 rfl (subC 6 rfl sub0)) (by kernel_rfl) ?_
  refine st_b 50 (show (decide (cmpI (x.fmod y + x.fmod y) y < 0)) = false by exact decide_eq_false (by omega)) (by kernel_rfl) ?_
  refine st_b 57 (show (decide (cmpI (x.fmod y + x.fmod y) y > 0)) = false by exact decide_eq_false (by omega)) (by kernel_rfl) ?_
  refine st_b 80 (show ((↑zd.fst.l : Int) == 0) = false by exact decide_eq_false (by omega)) (by kernel_rfl) ?_
  refine st_idx (fun w _ => idx0 (c := zd.1.c) ha hl1 w) (by kernel_rfl) ?_
  refine st_ldv (fun w h => load_int (cell_of (q := zd.1) (x := x.fdiv y) (h (zd.1, x.fdiv y) (by simp)) hl ha)) (by kernel_rfl) ?_
  refine st_b 87 (dig_odd hp) (by kernel_rfl) ?_
  exact st_retG (zq2) Try.func108 (subE 1 rfl (by omega) sub0) (by kernel_rfl)
end Go.Proofs.Ytcndfpfjckkinaa
end
section
/-
  The reference's Near for every mode; To of the reference; Mirror.
-/
set_option linter.unusedVariables false
set_option linter.unusedSimpArgs false
set_option maxRecDepth 100000
namespace Go.Proofs.Ytcndfpfjckkinaa
open Go Go.RowKit Go.Ev

theorem near_ok (p q : ZQ) (x y mode : Int) (hx : Bits 200 x) (hy : Bits 200 y) (h0 : 0 < y) (h1 : 1 ≤ mode) (h2 : mode ≤ 9) :
    FnZ 108 [(p, x), (q, y)] [zv p, zv q, .int .i64 mode] (fun z => .tuple #[zv z, .bool true]) (nearQ x y mode) := by
  have hne : y ≠ 0 := by omega
  by_cases hr : x.fmod y = 0
  · exact near_zero p q x y mode hx hy h0 h1 h2 hr (by unfold nearQ; rw [if_pos hr])
  · have hp : 0 < x.fmod y := by
      have h3 := Int.fmod_eq_emod_of_nonneg x (show 0 ≤ y by omega)
      have h4 := Int.emod_nonneg x hne
      omega
    have hc : cmpI (x.fmod y) 0 = 1 := cmpI_gt hp
    have hm : mode = 1 ∨ mode = 2 ∨ mode = 3 ∨ mode = 4 ∨ mode = 5 ∨ mode = 6 ∨ mode = 7 ∨ mode = 8 ∨ mode = 9 := by omega
    have hH : cmpI (x.fmod y + x.fmod y) y = -1 ∨ cmpI (x.fmod y + x.fmod y) y = 1 ∨ cmpI (x.fmod y + x.fmod y) y = 0 := by unfold cmpI; split <;> (try split) <;> simp
    have hE := half_cmp (x.fmod y) y
    clear h1 h2
    by_cases hs : x < 0
    · have hs1 : cmpI x 0 = -1 := cmpI_lt hs
      rcases hm with rfl | rfl | rfl | rfl | rfl | rfl | rfl | rfl | rfl
      · exact near_1n p q x y hx hy h0 hne hc hs1 (by simp [nearQ, hr, upQ, upB, halfB, ← hE, hs])
      · exact near_2n p q x y hx hy h0 hne hc hs1 (by simp [nearQ, hr, upQ, upB, halfB, ← hE, hs])
      · exact near_3n p q x y hx hy h0 hne hc hs1 (by simp [nearQ, hr, upQ, upB, halfB, ← hE, hs])
      · exact near_4n p q x y hx hy h0 hne hc hs1 (by simp [nearQ, hr, upQ, upB, halfB, ← hE, hs])
      · rcases hH with hh | hh | hh
        · exact near_5nl p q x y hx hy h0 hne hc hs1 hh (by simp [nearQ, hr, upQ, upB, halfB, ← hE, hs, hh])
        · exact near_5ng p q x y hx hy h0 hne hc hs1 hh (by simp [nearQ, hr, upQ, upB, halfB, ← hE, hs, hh])
        · exact near_5ne p q x y hx hy h0 hne hc hs1 hh (by simp [nearQ, hr, upQ, upB, halfB, ← hE, hs, hh])
      · rcases hH with hh | hh | hh
        · exact near_6nl p q x y hx hy h0 hne hc hs1 hh (by simp [nearQ, hr, upQ, upB, halfB, ← hE, hs, hh])
        · exact near_6ng p q x y hx hy h0 hne hc hs1 hh (by simp [nearQ, hr, upQ, upB, halfB, ← hE, hs, hh])
        · exact near_6ne p q x y hx hy h0 hne hc hs1 hh (by simp [nearQ, hr, upQ, upB, halfB, ← hE, hs, hh])
      · rcases hH with hh | hh | hh
        · exact near_7nl p q x y hx hy h0 hne hc hs1 hh (by simp [nearQ, hr, upQ, upB, halfB, ← hE, hs, hh])
        · exact near_7ng p q x y hx hy h0 hne hc hs1 hh (by simp [nearQ, hr, upQ, upB, halfB, ← hE, hs, hh])
        · exact near_7ne p q x y hx hy h0 hne hc hs1 hh (by simp [nearQ, hr, upQ, upB, halfB, ← hE, hs, hh])
      · rcases hH with hh | hh | hh
        · exact near_8nl p q x y hx hy h0 hne hc hs1 hh (by simp [nearQ, hr, upQ, upB, halfB, ← hE, hs, hh])
        · exact near_8ng p q x y hx hy h0 hne hc hs1 hh (by simp [nearQ, hr, upQ, upB, halfB, ← hE, hs, hh])
        · exact near_8ne p q x y hx hy h0 hne hc hs1 hh (by simp [nearQ, hr, upQ, upB, halfB, ← hE, hs, hh])
      · rcases hH with hh | hh | hh
        · exact near_9nl p q x y hx hy h0 hne hc hs1 hh (by simp [nearQ, hr, upQ, upB, halfB, ← hE, hs, hh])
        · exact near_9ng p q x y hx hy h0 hne hc hs1 hh (by simp [nearQ, hr, upQ, upB, halfB, ← hE, hs, hh])
        · by_cases hl : x.fdiv y = 0
          · exact near_9nez p q x y hx hy h0 hne hc hs1 hh hl (by simp [nearQ, hr, upQ, upB, halfB, ← hE, hs, hh, hl])
          · by_cases hpar : x.fdiv y % 2 = 0
            · exact near_9nee p q x y hx hy h0 hne hc hs1 hh hl hpar (by simp [nearQ, hr, upQ, upB, halfB, ← hE, hs, hh, hpar])
            · exact near_9neo p q x y hx hy h0 hne hc hs1 hh hl hpar (by simp [nearQ, hr, upQ, upB, halfB, ← hE, hs, hh, hpar])
    · have hs1 : 0 ≤ cmpI x 0 := by unfold cmpI; rw [if_neg hs]; split <;> omega
      rcases hm with rfl | rfl | rfl | rfl | rfl | rfl | rfl | rfl | rfl
      · exact near_1p p q x y hx hy h0 hne hc hs1 (by simp [nearQ, hr, upQ, upB, halfB, ← hE, hs])
      · exact near_2p p q x y hx hy h0 hne hc hs1 (by simp [nearQ, hr, upQ, upB, halfB, ← hE, hs])
      · exact near_3p p q x y hx hy h0 hne hc hs1 (by simp [nearQ, hr, upQ, upB, halfB, ← hE, hs])
      · exact near_4p p q x y hx hy h0 hne hc hs1 (by simp [nearQ, hr, upQ, upB, halfB, ← hE, hs])
      · rcases hH with hh | hh | hh
        · exact near_5pl p q x y hx hy h0 hne hc hs1 hh (by simp [nearQ, hr, upQ, upB, halfB, ← hE, hs, hh])
        · exact near_5pg p q x y hx hy h0 hne hc hs1 hh (by simp [nearQ, hr, upQ, upB, halfB, ← hE, hs, hh])
        · exact near_5pe p q x y hx hy h0 hne hc hs1 hh (by simp [nearQ, hr, upQ, upB, halfB, ← hE, hs, hh])
      · rcases hH with hh | hh | hh
        · exact near_6pl p q x y hx hy h0 hne hc hs1 hh (by simp [nearQ, hr, upQ, upB, halfB, ← hE, hs, hh])
        · exact near_6pg p q x y hx hy h0 hne hc hs1 hh (by simp [nearQ, hr, upQ, upB, halfB, ← hE, hs, hh])
        · exact near_6pe p q x y hx hy h0 hne hc hs1 hh (by simp [nearQ, hr, upQ, upB, halfB, ← hE, hs, hh])
      · rcases hH with hh | hh | hh
        · exact near_7pl p q x y hx hy h0 hne hc hs1 hh (by simp [nearQ, hr, upQ, upB, halfB, ← hE, hs, hh])
        · exact near_7pg p q x y hx hy h0 hne hc hs1 hh (by simp [nearQ, hr, upQ, upB, halfB, ← hE, hs, hh])
        · exact near_7pe p q x y hx hy h0 hne hc hs1 hh (by simp [nearQ, hr, upQ, upB, halfB, ← hE, hs, hh])
      · rcases hH with hh | hh | hh
        · exact near_8pl p q x y hx hy h0 hne hc hs1 hh (by simp [nearQ, hr, upQ, upB, halfB, ← hE, hs, hh])
        · exact near_8pg p q x y hx hy h0 hne hc hs1 hh (by simp [nearQ, hr, upQ, upB, halfB, ← hE, hs, hh])
        · exact near_8pe p q x y hx hy h0 hne hc hs1 hh (by simp [nearQ, hr, upQ, upB, halfB, ← hE, hs, hh])
      · rcases hH with hh | hh | hh
        · exact near_9pl p q x y hx hy h0 hne hc hs1 hh (by simp [nearQ, hr, upQ, upB, halfB, ← hE, hs, hh])
        · exact near_9pg p q x y hx hy h0 hne hc hs1 hh (by simp [nearQ, hr, upQ, upB, halfB, ← hE, hs, hh])
        · by_cases hl : x.fdiv y = 0
          · exact near_9pez p q x y hx hy h0 hne hc hs1 hh hl (by simp [nearQ, hr, upQ, upB, halfB, ← hE, hs, hh, hl])
          · by_cases hpar : x.fdiv y % 2 = 0
            · exact near_9pee p q x y hx hy h0 hne hc hs1 hh hl hpar (by simp [nearQ, hr, upQ, upB, halfB, ← hE, hs, hh, hpar])
            · exact near_9peo p q x y hx hy h0 hne hc hs1 hh hl hpar (by simp [nearQ, hr, upQ, upB, halfB, ← hE, hs, hh, hpar])
theorem nearQ_bits {x y mode : Int} (hx : Bits 200 x) (h0 : 0 < y) : Bits 202 (nearQ x y mode) := by
  have h1 : Bits 201 (x.fdiv y) := fdiv_b hx (by omega)
  have h2 : Bits 202 (x.fdiv y + 1) := h1.add (Bits.mono (l := 201) (show Bits 64 1 from (by unfold Bits; decide)) (by decide))
  unfold nearQ
  split
  · exact h1.mono (by decide)
  · split
    · exact h2
    · exact h1.mono (by decide)
theorem near_bad (p q : ZQ) (mode : Int) (h : mode < 1 ∨ 9 < mode) : Fn 108 [] [zv p, zv q, .int .i64 mode] (.tuple #[.agg #[.bool false, .slice none 0 0], .bool false]) := near_no p q 0 0 mode h
end Go.Proofs.Ytcndfpfjckkinaa
end
section
/-
  A total laid out, as the program and the reference do it; sums, rounding.
-/
set_option linter.unusedVariables false
set_option maxRecDepth 100000
namespace Go.Proofs.Ytcndfpfjckkinaa
open Go Go.RowKit Go.Ev

section
variable (a b c d h mi s n : Int)
theorem uexact_f (i : all64 a b c d h mi s n) (k : ¬ uEx a b c d h mi s n) : Fn 138 [] [duv a b c d h mi s n] (.bool false) := by
  by_cases ka : a = 0
  · by_cases kb : b = 0
    · by_cases kc : c = 0
      · subst ka kb kc
        have r := uright_f 0 0 0 d h mi s n i (fun q => k ⟨q, rfl, rfl, rfl⟩)
        clear k
        refine fn_of Try.func138 rfl fun ww => ?_
        refine st_fn ent62 (r) sub0 (by kernel_rfl) ?_
        exact st_ret Try.func138 (by kernel_rfl)
      · clear k
        refine fn_of Try.func138 rfl fun ww => ?_
        refine st_b 5 (show (a == 0) = true by exact decide_eq_true (by omega)) (by kernel_rfl) ?_
        refine st_b 9 (show (b == 0) = true by exact decide_eq_true (by omega)) (by kernel_rfl) ?_
        refine st_b 14 (show (c == 0) = false by exact decide_eq_false (by omega)) (by kernel_rfl) ?_
        exact st_ret Try.func138 (by kernel_rfl)
    · clear k
      refine fn_of Try.func138 rfl fun ww => ?_
      refine st_b 5 (show (a == 0) = true by exact decide_eq_true (by omega)) (by kernel_rfl) ?_
      refine st_b 9 (show (b == 0) = false by exact decide_eq_false (by omega)) (by kernel_rfl) ?_
      exact st_ret Try.func138 (by kernel_rfl)
  · clear k
    refine fn_of Try.func138 rfl fun ww => ?_
    refine st_b 5 (show (a == 0) = false by exact decide_eq_false (by omega)) (by kernel_rfl) ?_
    exact st_ret Try.func138 (by kernel_rfl)
theorem zuexact_y (i : all64 a b c d h mi s n) (k : uEx a b c d h mi s n) : Fn 58 [] [duv a b c d h mi s n] (.bool true) := by
  obtain ⟨k0, rfl, rfl, rfl⟩ := k
  have r := zuright_y 0 0 0 d h mi s n i k0
  refine fn_of Try.func58 rfl fun ww => ?_
  refine st_fn ent67 (r) sub0 (by kernel_rfl) ?_
  exact st_ret Try.func58 (by kernel_rfl)
theorem zuexact_f (i : all64 a b c d h mi s n) (k : ¬ uEx a b c d h mi s n) : Fn 58 [] [duv a b c d h mi s n] (.bool false) := by
  by_cases kr : uOk a b c d h mi s n
  · have r := zuright_y a b c d h mi s n i kr
    by_cases ka : a = 0
    · by_cases kb : b = 0
      · have kc : c ≠ 0 := fun q => k ⟨kr, ka, kb, q⟩
        clear k kr
        refine fn_of Try.func58 rfl fun ww => ?_
        refine st_fn ent67 (r) sub0 (by kernel_rfl) ?_
        refine st_b 8 (show (a == 0) = true by exact decide_eq_true (by omega)) (by kernel_rfl) ?_
        refine st_b 13 (show (b == 0) = true by exact decide_eq_true (by omega)) (by kernel_rfl) ?_
        exact st_retv Try.func58 (show Value.bool (c == 0) = _ by simp_all) (by kernel_rfl)
      · clear k kr
        refine fn_of Try.func58 rfl fun ww => ?_
        refine st_fn ent67 (r) sub0 (by kernel_rfl) ?_
        refine st_b 8 (show (a == 0) = true by exact decide_eq_true (by omega)) (by kernel_rfl) ?_
        refine st_b 13 (show (b == 0) = false by exact decide_eq_false (by omega)) (by kernel_rfl) ?_
        exact st_ret Try.func58 (by kernel_rfl)
    · clear k kr
      refine fn_of Try.func58 rfl fun ww => ?_
      refine st_fn ent67 (r) sub0 (by kernel_rfl) ?_
      refine st_b 8 (show (a == 0) = false by exact decide_eq_false (by omega)) (by kernel_rfl) ?_
      exact st_ret Try.func58 (by kernel_rfl)
  · have r := zuright_f a b c d h mi s n i kr
    clear k kr
    refine fn_of Try.func58 rfl fun ww => ?_
    refine st_fn ent67 (r) sub0 (by kernel_rfl) ?_
    exact st_ret Try.func58 (by kernel_rfl)
end
/-! laid out -/
end Go.Proofs.Ytcndfpfjckkinaa
end
section
/-
  The law RoundMirrors, walked.
-/
set_option linter.unusedVariables false
set_option maxRecDepth 100000
namespace Go.Proofs.Ytcndfpfjckkinaa
open Go Go.RowKit Go.Ev

theorem to_yes (w d mode : Int) (hw : W128 w) (hd : W128 d) (h0 : 0 < d) (h1 : 1 ≤ mode) (h2 : mode ≤ 9) (y : Int) (hy : d * nearQ w d mode = y) (h : W128 y) : Fn 104 [] [wv w, wv d, .int .i64 mode] (.tuple #[wv y, .int .i64 0]) := by
  have := to_ok w d mode hw hd h0 h1 h2
  rw [hy, rtv_yes h] at this
  exact this
end Go.Proofs.Ytcndfpfjckkinaa
end
section
/-
  The law RoundNear, walked.
-/
set_option linter.unusedVariables false
set_option maxRecDepth 100000
namespace Go.Proofs.Ytcndfpfjckkinaa
open Go Go.RowKit Go.Ev

/-- What is rounded lies near; it is a multiple; rounded again it stays. -/
theorem nearQ_near {w d mode : Int} (h0 : 0 < d) (h1 : 1 ≤ mode) (h2 : mode ≤ 9) : (d * nearQ w d mode - w).natAbs < d.natAbs ∧ (5 ≤ mode → (d * nearQ w d mode - w).natAbs + (d * nearQ w d mode - w).natAbs ≤ d.natAbs) := by
  have ew := Int.mul_fdiv_add_fmod w d
  have w1 := Int.fmod_eq_emod_of_nonneg w (show 0 ≤ d by omega)
  have w2 := Int.emod_nonneg w (show d ≠ 0 by omega)
  have w3 := Int.emod_lt_of_pos w h0
  by_cases hz : w.fmod d = 0
  · have e : d * nearQ w d mode = w := by unfold nearQ; rw [if_pos hz]; omega
    rw [e]
    omega
  · by_cases hu : upQ w d mode = true
    · have e : d * nearQ w d mode = w + (d - w.fmod d) := by unfold nearQ; rw [if_neg hz, if_pos hu, Int.mul_add]; omega
      rw [e]
      refine ⟨by omega, fun h5 => ?_⟩
      have hx : 0 ≤ cmpI (w.fmod d) (d - w.fmod d) := by
        have hm : mode = 5 ∨ mode = 6 ∨ mode = 7 ∨ mode = 8 ∨ mode = 9 := by omega
        unfold upQ at hu
        generalize cmpI (w.fmod d) (d - w.fmod d) = x at *
        apply Classical.byContradiction
        intro hneg
        have a1 : ¬ 0 < x := by omega
        have a2 : ¬ x = 0 := by omega
        rcases hm with rfl | rfl | rfl | rfl | rfl <;> simp [upB, halfB, a1, a2] at hu
      have : ¬ w.fmod d < d - w.fmod d := fun h => by rw [cmpI_lt h] at hx; omega
      omega
    · have e : d * nearQ w d mode = w - w.fmod d := by unfold nearQ; rw [if_neg hz, if_neg hu]; omega
      rw [e]
      refine ⟨by omega, fun h5 => ?_⟩
      have hx : cmpI (w.fmod d) (d - w.fmod d) ≤ 0 := by
        have hm : mode = 5 ∨ mode = 6 ∨ mode = 7 ∨ mode = 8 ∨ mode = 9 := by omega
        unfold upQ at hu
        generalize cmpI (w.fmod d) (d - w.fmod d) = x at *
        apply Classical.byContradiction
        intro hneg
        have a1 : 0 < x := by omega
        rcases hm with rfl | rfl | rfl | rfl | rfl <;> simp [upB, halfB, a1] at hu
      have : ¬ d - w.fmod d < w.fmod d := fun h => by rw [cmpI_gt h] at hx; omega
      omega
end Go.Proofs.Ytcndfpfjckkinaa
end
section
/-
  The laws DurationRights, DurationAdds, DurationBack, DurationRounds, walked.
-/
set_option linter.unusedVariables false
set_option linter.unusedSimpArgs false
set_option maxRecDepth 100000
namespace Go.Proofs.Ytcndfpfjckkinaa
open Go Go.RowKit Go.Ev

theorem ex_tot {a b c d h mi s n : Int} (k : uEx a b c d h mi s n) : -9007199254740992000000000 < dtot d h mi s n ∧ dtot d h mi s n < 9007199254740992000000000 := k.1.2.2
section
variable (a b c d h mi s n a' b' c' d' h' mi' s' n' : Int)
variable (A B C D H M S T e u : Int)
/-! what was added is taken away again -/
end
end Go.Proofs.Ytcndfpfjckkinaa
end
section
/-
  Eight numbers that come in have room in 64 bits.
-/
namespace Go.Proofs.Ytcndfpfjckkinaa

theorem all64_of {a b c d h mi s n : Int} (k : ∀ x ∈ [a, b, c, d, h, mi, s, n], I64 x) : all64 a b c d h mi s n :=
  ⟨k a (by simp), k b (by simp), k c (by simp), k d (by simp), k h (by simp), k mi (by simp), k s (by simp), k n (by simp)⟩
end Go.Proofs.Ytcndfpfjckkinaa
end
section
/-
  The law DurationRounds, walked.
-/
set_option linter.unusedVariables false
set_option linter.unusedSimpArgs false
set_option maxRecDepth 100000
namespace Go.Proofs.Ytcndfpfjckkinaa
open Go Go.RowKit Go.Ev

theorem ulen_64 (u : Int) : I64 (ulen u) := by
  by_cases h : 4 ≤ u ∧ u ≤ 8
  · have := ulen_pos h.1 h.2; unfold I64; omega
  · rw [ulen_no (by omega)]; exact i64_0
theorem incOk_in {u i : Int} (k : incOk u i) : (4 ≤ u ∧ u ≤ 8) ∧ 1 ≤ i ∧ i ≤ 1000000000 ∧ 1 ≤ i * ulen u ∧ i * ulen u ≤ 86400000000000000000000 := by
  unfold incOk at k
  have h : u = 4 ∨ u = 5 ∨ u = 6 ∨ u = 7 ∨ u = 8 := by omega
  have hi : 1 ≤ i ∧ i ≤ 1000000000 := by omega
  rcases h with rfl | rfl | rfl | rfl | rfl <;> simp only [ulen, Int.reduceEq, if_true, if_false] <;> omega
section
variable (a b c d h mi s n L S i m : Int)
theorem urnd_x (j : all64 a b c d h mi s n) (k : ¬ uEx a b c d h mi s n) : Fn 74 [] [duv a b c d h mi s n, .int .i64 L, .int .i64 S, .int .i64 i, .int .i64 m] (.tuple #[du0, .int .i64 1]) := by
  have e1 := uexact_f a b c d h mi s n j k
  clear j k
  refine fn_of Try.func74 rfl fun ww => ?_
  refine st_fn ent138 (e1) sub0 (by kernel_rfl) ?_
  exact st_ret Try.func74 (by kernel_rfl)
theorem urnd_l (j : all64 a b c d h mi s n) (k : uEx a b c d h mi s n) (l : L < 4 ∨ 8 < L) : Fn 74 [] [duv a b c d h mi s n, .int .i64 L, .int .i64 S, .int .i64 i, .int .i64 m] (.tuple #[du0, .int .i64 1]) := by
  have e1 := uexact_y a b c d h mi s n j k
  have g := ulen_o L l
  clear j k l
  refine fn_of Try.func74 rfl fun ww => ?_
  refine st_fn ent138 (e1) sub0 (by kernel_rfl) ?_
  refine st_fn ent63 (g) sub0 (by kernel_rfl) ?_
  exact st_ret Try.func74 (by kernel_rfl)
theorem urnd_s (j : all64 a b c d h mi s n) (k : uEx a b c d h mi s n) (l : 4 ≤ L) (l2 : L ≤ 8) (q : S < L) : Fn 74 [] [duv a b c d h mi s n, .int .i64 L, .int .i64 S, .int .i64 i, .int .i64 m] (.tuple #[du0, .int .i64 1]) := by
  have e1 := uexact_y a b c d h mi s n j k
  have g := (ulen_pos l l2).1
  clear j k
  refine fn_of Try.func74 rfl fun ww => ?_
  refine st_fn ent138 (e1) sub0 (by kernel_rfl) ?_
  refine st_fn ent63 (ulen_fn (L)) sub0 (by kernel_rfl) ?_
  refine st_b 20 (show (ulen L == 0) = false by exact decide_eq_false (by omega)) (by kernel_rfl) ?_
  refine st_b 25 (show (decide (L > S)) = true by exact decide_eq_true (by omega)) (by kernel_rfl) ?_
  exact st_ret Try.func74 (by kernel_rfl)
theorem urnd_i (j : all64 a b c d h mi s n) (k : uEx a b c d h mi s n) (l : 4 ≤ L) (l2 : L ≤ 8) (q : L ≤ S) (r : ¬ incOk S i) : Fn 74 [] [duv a b c d h mi s n, .int .i64 L, .int .i64 S, .int .i64 i, .int .i64 m] (.tuple #[du0, .int .i64 1]) := by
  have e1 := uexact_y a b c d h mi s n j k
  have g := (ulen_pos l l2).1
  have t := uinc S i
  rw [decide_eq_false r] at t
  clear j k r
  refine fn_of Try.func74 rfl fun ww => ?_
  refine st_fn ent138 (e1) sub0 (by kernel_rfl) ?_
  refine st_fn ent63 (ulen_fn (L)) sub0 (by kernel_rfl) ?_
  refine st_b 20 (show (ulen L == 0) = false by exact decide_eq_false (by omega)) (by kernel_rfl) ?_
  refine st_b 25 (show (decide (L > S)) = false by exact decide_eq_false (by omega)) (by kernel_rfl) ?_
  refine st_fn ent65 (t) sub0 (by kernel_rfl) ?_
  exact st_ret Try.func74 (by kernel_rfl)
theorem urnd_m (j : all64 a b c d h mi s n) (k : uEx a b c d h mi s n) (l : 4 ≤ L) (l2 : L ≤ 8) (q : L ≤ S) (r : incOk S i) (hm : m < 1 ∨ 9 < m) : Fn 74 [] [duv a b c d h mi s n, .int .i64 L, .int .i64 S, .int .i64 i, .int .i64 m] (.tuple #[du0, .int .i64 1]) := by
  have e1 := uexact_y a b c d h mi s n j k
  have g := (ulen_pos l l2).1
  have t := uinc S i
  rw [decide_eq_true r] at t
  obtain ⟨r1, r2, r3, r4, r5⟩ := incOk_in r
  have bb := ex_tot k
  have tt := utot a b c d h mi s n j.2.2.2.1 j.2.2.2.2.1 j.2.2.2.2.2.1 j.2.2.2.2.2.2.1 j.2.2.2.2.2.2.2
  have w := wmul_f i (ulen S) (by unfold I64; omega) (ulen_64 S)
  have ra := to_arg2 (dtot d h mi s n) (i * ulen S) m (by unfold W128; omega) (by unfold W128; omega) (by omega) (cmpI_gt (by omega)) hm
  clear j k r bb hm r4 r5
  refine fn_of Try.func74 rfl fun ww => ?_
  refine st_fn ent138 (e1) sub0 (by kernel_rfl) ?_
  refine st_fn ent63 (ulen_fn (L)) sub0 (by kernel_rfl) ?_
  refine st_b 20 (show (ulen L == 0) = false by exact decide_eq_false (by omega)) (by kernel_rfl) ?_
  refine st_b 25 (show (decide (L > S)) = false by exact decide_eq_false (by omega)) (by kernel_rfl) ?_
  refine st_fn ent65 (t) sub0 (by kernel_rfl) ?_
  refine st_fn ent139 (tt) sub0 (by kernel_rfl) ?_
  refine st_fn ent63 (ulen_fn (S)) sub0 (by kernel_rfl) ?_
  refine st_fn ent144 (w) sub0 (by kernel_rfl) ?_
  refine st_fn ent104 (ra) sub0 (by kernel_rfl) ?_
  exact st_ret Try.func74 (by kernel_rfl)
theorem urnd_v (A B C D H M T U e y : Int) (j : all64 a b c d h mi s n) (k : uEx a b c d h mi s n) (l : 4 ≤ L) (l2 : L ≤ 8) (q : L ≤ S) (r : incOk S i) (hy : Fn 104 [] [wv (dtot d h mi s n), wv (i * ulen S), .int .i64 m] (.tuple #[wv y, .int .i64 0])) (hl : Fn 52 [] [wv y, .int .i64 L] (.tuple #[duv A B C D H M T U, .int .i64 e])) : Fn 74 [] [duv a b c d h mi s n, .int .i64 L, .int .i64 S, .int .i64 i, .int .i64 m] (.tuple #[duv A B C D H M T U, .int .i64 e]) := by
  have e1 := uexact_y a b c d h mi s n j k
  have g := (ulen_pos l l2).1
  have t := uinc S i
  rw [decide_eq_true r] at t
  obtain ⟨r1, r2, r3, r4, r5⟩ := incOk_in r
  have tt := utot a b c d h mi s n j.2.2.2.1 j.2.2.2.2.1 j.2.2.2.2.2.1 j.2.2.2.2.2.2.1 j.2.2.2.2.2.2.2
  have w := wmul_f i (ulen S) (by unfold I64; omega) (ulen_64 S)
  clear j k r r4 r5
  refine fn_of Try.func74 rfl fun ww => ?_
  refine st_fn ent138 (e1) sub0 (by kernel_rfl) ?_
  refine st_fn ent63 (ulen_fn (L)) sub0 (by kernel_rfl) ?_
  refine st_b 20 (show (ulen L == 0) = false by exact decide_eq_false (by omega)) (by kernel_rfl) ?_
  refine st_b 25 (show (decide (L > S)) = false by exact decide_eq_false (by omega)) (by kernel_rfl) ?_
  refine st_fn ent65 (t) sub0 (by kernel_rfl) ?_
  refine st_fn ent139 (tt) sub0 (by kernel_rfl) ?_
  refine st_fn ent63 (ulen_fn (S)) sub0 (by kernel_rfl) ?_
  refine st_fn ent144 (w) sub0 (by kernel_rfl) ?_
  refine st_fn ent104 (hy) sub0 (by kernel_rfl) ?_
  refine st_fn ent52 (hl) sub0 (by kernel_rfl) ?_
  exact st_ret Try.func74 (by kernel_rfl)
theorem zrnd_x (j : all64 a b c d h mi s n) (k : ¬ uEx a b c d h mi s n) : Fn 75 [] [duv a b c d h mi s n, .int .i64 L, .int .i64 S, .int .i64 i, .int .i64 m] (.tuple #[du0, .int .i64 1]) := by
  have e1 := zuexact_f a b c d h mi s n j k
  clear j k
  refine fn_of Try.func75 rfl fun ww => ?_
  refine st_fn ent58 (e1) sub0 (by kernel_rfl) ?_
  exact st_ret Try.func75 (by kernel_rfl)
theorem zrnd_a (j : all64 a b c d h mi s n) (k : uEx a b c d h mi s n) (l : L < 4 ∨ 8 < S ∨ S < L) : Fn 75 [] [duv a b c d h mi s n, .int .i64 L, .int .i64 S, .int .i64 i, .int .i64 m] (.tuple #[du0, .int .i64 1]) := by
  have e1 := zuexact_y a b c d h mi s n j k
  clear j k
  by_cases q1 : L < 4
  · clear l
    refine fn_of Try.func75 rfl fun ww => ?_
    refine st_fn ent58 (e1) sub0 (by kernel_rfl) ?_
    refine st_b 20 (show (decide (L < 4)) = true by exact decide_eq_true (by omega)) (by kernel_rfl) ?_
    exact st_ret Try.func75 (by kernel_rfl)
  · by_cases q2 : 8 < S
    · clear l
      refine fn_of Try.func75 rfl fun ww => ?_
      refine st_fn ent58 (e1) sub0 (by kernel_rfl) ?_
      refine st_b 20 (show (decide (L < 4)) = false by exact decide_eq_false (by omega)) (by kernel_rfl) ?_
      refine st_b 24 (show (decide (S > 8)) = true by exact decide_eq_true (by omega)) (by kernel_rfl) ?_
      exact st_ret Try.func75 (by kernel_rfl)
    · have q3 : S < L := by omega
      clear l
      refine fn_of Try.func75 rfl fun ww => ?_
      refine st_fn ent58 (e1) sub0 (by kernel_rfl) ?_
      refine st_b 20 (show (decide (L < 4)) = false by exact decide_eq_false (by omega)) (by kernel_rfl) ?_
      refine st_b 24 (show (decide (S > 8)) = false by exact decide_eq_false (by omega)) (by kernel_rfl) ?_
      refine st_b 29 (show (decide (L > S)) = true by exact decide_eq_true (by omega)) (by kernel_rfl) ?_
      exact st_ret Try.func75 (by kernel_rfl)
theorem zrnd_i (j : all64 a b c d h mi s n) (k : uEx a b c d h mi s n) (l : 4 ≤ L) (l2 : S ≤ 8) (q : L ≤ S) (r : ¬ incOk S i) : Fn 75 [] [duv a b c d h mi s n, .int .i64 L, .int .i64 S, .int .i64 i, .int .i64 m] (.tuple #[du0, .int .i64 1]) := by
  have e1 := zuexact_y a b c d h mi s n j k
  have t := zuinc S i
  rw [decide_eq_false r] at t
  clear j k r
  refine fn_of Try.func75 rfl fun ww => ?_
  refine st_fn ent58 (e1) sub0 (by kernel_rfl) ?_
  refine st_b 20 (show (decide (L < 4)) = false by exact decide_eq_false (by omega)) (by kernel_rfl) ?_
  refine st_b 24 (show (decide (S > 8)) = false by exact decide_eq_false (by omega)) (by kernel_rfl) ?_
  refine st_b 29 (show (decide (L > S)) = false by exact decide_eq_false (by omega)) (by kernel_rfl) ?_
  refine st_fn ent66 (t) sub0 (by kernel_rfl) ?_
  exact st_ret Try.func75 (by kernel_rfl)
theorem zrnd_m (j : all64 a b c d h mi s n) (k : uEx a b c d h mi s n) (l : 4 ≤ L) (l2 : S ≤ 8) (q : L ≤ S) (r : incOk S i) (hm : m < 1 ∨ 9 < m) : Fn 75 [] [duv a b c d h mi s n, .int .i64 L, .int .i64 S, .int .i64 i, .int .i64 m] (.tuple #[du0, .int .i64 1]) := by
  have e1 := zuexact_y a b c d h mi s n j k
  have t := zuinc S i
  rw [decide_eq_true r] at t
  obtain ⟨r1, r2, r3, r4, r5⟩ := incOk_in r
  have tt := zutot a b c d h mi s n j.2.2.2.1 j.2.2.2.2.1 j.2.2.2.2.2.1 j.2.2.2.2.2.2.1 j.2.2.2.2.2.2.2
  have i1 : I64 i := by unfold I64; omega
  have i2 := ulen_64 S
  clear j k r r4 r5
  refine fn_of Try.func75 rfl fun ww => ?_
  refine st_fn ent58 (e1) sub0 (by kernel_rfl) ?_
  refine st_b 20 (show (decide (L < 4)) = false by exact decide_eq_false (by omega)) (by kernel_rfl) ?_
  refine st_b 24 (show (decide (S > 8)) = false by exact decide_eq_false (by omega)) (by kernel_rfl) ?_
  refine st_b 29 (show (decide (L > S)) = false by exact decide_eq_false (by omega)) (by kernel_rfl) ?_
  refine st_fn ent66 (t) sub0 (by kernel_rfl) ?_
  refine st_g ent109 (fzint (i) (by assumption)) sub0 (by kernel_rfl) (fun zq2 => ?_)
  refine st_fn ent64 (zulen_fn (S)) sub0 (by kernel_rfl) ?_
  refine st_g ent109 (fzint (ulen S) (by assumption)) sub0 (by kernel_rfl) (fun zq4 => ?_)
  refine st_g ent112 (fzmul (zq2) (zq4) (i) (ulen S) (by exact Bits.fit i1.w.bits (by decide)) (by exact Bits.fit i2.w.bits (by decide))) (subC 1 rfl (subC 0 rfl sub0)) (by kernel_rfl) (fun zq5 => ?_)
  refine st_g ent59 (tt) sub0 (by kernel_rfl) (fun zq6 => ?_)
  refine st_fn ent108 (near_bad (zq6) (zq5) (m) (by assumption)) sub0 (by kernel_rfl) ?_
  exact st_ret Try.func75 (by kernel_rfl)
theorem zrnd_v (A B C D H M T U e y : Int) (j : all64 a b c d h mi s n) (k : uEx a b c d h mi s n) (l : 4 ≤ L) (l2 : S ≤ 8) (q : L ≤ S) (r : incOk S i) (h1 : 1 ≤ m) (h2 : m ≤ 9) (ey : y = nearQ (dtot d h mi s n) (i * ulen S) m * (i * ulen S)) (hl : ∀ p : ZQ, Fn 53 [(p, y)] [zv p, .int .i64 L] (.tuple #[duv A B C D H M T U, .int .i64 e])) : Fn 75 [] [duv a b c d h mi s n, .int .i64 L, .int .i64 S, .int .i64 i, .int .i64 m] (.tuple #[duv A B C D H M T U, .int .i64 e]) := by
  have e1 := zuexact_y a b c d h mi s n j k
  have t := zuinc S i
  rw [decide_eq_true r] at t
  obtain ⟨r1, r2, r3, r4, r5⟩ := incOk_in r
  have bb := ex_tot k
  have tt := zutot a b c d h mi s n j.2.2.2.1 j.2.2.2.2.1 j.2.2.2.2.2.1 j.2.2.2.2.2.2.1 j.2.2.2.2.2.2.2
  have i1 : I64 i := by unfold I64; omega
  have i2 := ulen_64 S
  have w1 : W128 (dtot d h mi s n) := by unfold W128; omega
  have w2 : W128 (i * ulen S) := by unfold W128; omega
  have b1 : Bits 200 (dtot d h mi s n) := w1.bits.mono (by decide)
  have b2 : Bits 200 (i * ulen S) := w2.bits.mono (by decide)
  have bn := nearQ_bits (mode := m) b1 (show 0 < i * ulen S by omega)
  have hp : 0 < i * ulen S := by omega
  subst ey
  clear j k r bb r4 r5
  refine fn_of Try.func75 rfl fun ww => ?_
  refine st_fn ent58 (e1) sub0 (by kernel_rfl) ?_
  refine st_b 20 (show (decide (L < 4)) = false by exact decide_eq_false (by omega)) (by kernel_rfl) ?_
  refine st_b 24 (show (decide (S > 8)) = false by exact decide_eq_false (by omega)) (by kernel_rfl) ?_
  refine st_b 29 (show (decide (L > S)) = false by exact decide_eq_false (by omega)) (by kernel_rfl) ?_
  refine st_fn ent66 (t) sub0 (by kernel_rfl) ?_
  refine st_g ent109 (fzint (i) (by assumption)) sub0 (by kernel_rfl) (fun zq2 => ?_)
  refine st_fn ent64 (zulen_fn (S)) sub0 (by kernel_rfl) ?_
  refine st_g ent109 (fzint (ulen S) (by assumption)) sub0 (by kernel_rfl) (fun zq4 => ?_)
  refine st_g ent112 (fzmul (zq2) (zq4) (i) (ulen S) (by exact Bits.fit i1.w.bits (by decide)) (by exact Bits.fit i2.w.bits (by decide))) (subC 1 rfl (subC 0 rfl sub0)) (by kernel_rfl) (fun zq5 => ?_)
  refine st_g ent59 (tt) sub0 (by kernel_rfl) (fun zq6 => ?_)
  refine st_g ent108 (near_ok (zq6) (zq5) (dtot d h mi s n) (i * ulen S) (m) (by exact Bits.mono w1.bits (by decide)) (by exact Bits.mono w2.bits (by decide)) (by assumption) (by assumption) (by assumption)) (subC 0 rfl (subC 1 rfl sub0)) (by kernel_rfl) (fun zq7 => ?_)
  refine st_g ent112 (fzmul (zq7) (zq5) (nearQ (dtot d h mi s n) (i * ulen S) m) (i * ulen S) (by exact Bits.fit bn (by decide)) (by exact Bits.fit w2.bits (by decide))) (subC 0 rfl (subC 2 rfl sub0)) (by kernel_rfl) (fun zq8 => ?_)
  refine st_fn ent53 (hl (zq8)) (subC 0 rfl sub0) (by kernel_rfl) ?_
  exact st_ret Try.func75 (by kernel_rfl)
abbrev hov (L S i m : Int) : Value := .agg #[.int .i64 L, .int .i64 S, .int .i64 i, .int .i64 m]
theorem drnd_v (A B C D H M T U e : Int) (h1 : Fn 74 [] [duv a b c d h mi s n, .int .i64 L, .int .i64 S, .int .i64 i, .int .i64 m] (.tuple #[duv A B C D H M T U, .int .i64 e])) (h2 : Fn 75 [] [duv a b c d h mi s n, .int .i64 L, .int .i64 S, .int .i64 i, .int .i64 m] (.tuple #[duv A B C D H M T U, .int .i64 e])) : Fn 16 [] [duv a b c d h mi s n, hov L S i m] (.bool true) := by
  refine fn_of Try.func16 rfl fun ww => ?_
  refine st_fn ent74 (h1) sub0 (by kernel_rfl) ?_
  refine st_fn ent75 (h2) sub0 (by kernel_rfl) ?_
  refine st_fn ent54 (alive18) sub0 (by kernel_rfl) ?_
  refine st_b 39 (show (A == A && (B == B && (C == C && (D == D && (H == H && (M == M && (T == T && (U == U && true)))))))) = true by simp_all) (by kernel_rfl) ?_
  exact st_retv Try.func16 (show Value.bool (e == e) = _ by simp) (by kernel_rfl)
end
end Go.Proofs.Ytcndfpfjckkinaa
end
section
/-
  The law DurationRounds.
-/
set_option linter.unusedVariables false
set_option maxRecDepth 100000
namespace Go.Proofs.Ytcndfpfjckkinaa
open Go Go.RowKit Go.Ev

section
variable (a b c d h mi s n L S i m : Int)
theorem drnd_ok (W : World) (j : all64 a b c d h mi s n) (k : uEx a b c d h mi s n) (l1 : 4 ≤ L) (l2 : L ≤ S) (l3 : S ≤ 8) (r : incOk S i) (h1 : 1 ≤ m) (h2 : m ≤ 9) : Calls Try.prog 16 #[duv a b c d h mi s n, hov L S i m] W (fun e w' => e = .returned (.bool true) ∧ Ext W w') := by
  obtain ⟨r1, r2, r3, r4, r5⟩ := incOk_in r
  have bb := ex_tot k
  have nr := (nearQ_near (w := dtot d h mi s n) (d := i * ulen S) (mode := m) (by omega) h1 h2).1
  have w1 : W128 (dtot d h mi s n) := by unfold W128; omega
  have w2 : W128 (i * ulen S) := by unfold W128; omega
  obtain ⟨y, ey⟩ : ∃ y, y = i * ulen S * nearQ (dtot d h mi s n) (i * ulen S) m := ⟨_, rfl⟩
  rw [← ey] at nr
  have wy : W128 y := by clear w1 w2 ey; unfold W128; omega
  have ty := to_yes (dtot d h mi s n) (i * ulen S) m w1 w2 (by omega) h1 h2 y ey.symm wy
  have ey2 : y = nearQ (dtot d h mi s n) (i * ulen S) m * (i * ulen S) := by rw [ey, Int.mul_comm]
  have L8 : L ≤ 8 := by omega
  clear nr bb w1 w2 r4 r5 ey
  by_cases q : layOk L y
  · have u1 := urnd_v a b c d h mi s n L S i m 0 0 0 (l4 L y) (l5 L y) (l6 L y) (l7 L y) (l8 L y) 0 y j k l1 L8 l2 r ty (ulay_y L y wy q)
    have u2 := zrnd_v a b c d h mi s n L S i m 0 0 0 (l4 L y) (l5 L y) (l6 L y) (l7 L y) (l8 L y) 0 y j k l1 l3 l2 r h1 h2 ey2 (fun p => zulay_y L y p wy q)
    exact drnd_v a b c d h mi s n L S i m 0 0 0 (l4 L y) (l5 L y) (l6 L y) (l7 L y) (l8 L y) 0 u1 u2 W (zall_nil W)
  · have u1 := urnd_v a b c d h mi s n L S i m 0 0 0 0 0 0 0 0 4 y j k l1 L8 l2 r ty (ulay_n L y wy l1 L8 q)
    have u2 := zrnd_v a b c d h mi s n L S i m 0 0 0 0 0 0 0 0 4 y j k l1 l3 l2 r h1 h2 ey2 (fun p => zulay_n L y p wy l1 L8 q)
    exact drnd_v a b c d h mi s n L S i m 0 0 0 0 0 0 0 0 4 u1 u2 W (zall_nil W)
theorem drnd_no (W : World) (u1 : Fn 74 [] [duv a b c d h mi s n, .int .i64 L, .int .i64 S, .int .i64 i, .int .i64 m] (.tuple #[du0, .int .i64 1])) (u2 : Fn 75 [] [duv a b c d h mi s n, .int .i64 L, .int .i64 S, .int .i64 i, .int .i64 m] (.tuple #[du0, .int .i64 1])) : Calls Try.prog 16 #[duv a b c d h mi s n, hov L S i m] W (fun e w' => e = .returned (.bool true) ∧ Ext W w') :=
  drnd_v a b c d h mi s n L S i m 0 0 0 0 0 0 0 0 1 u1 u2 W (zall_nil W)
theorem law_drounds (W : World) (j : all64 a b c d h mi s n) : Calls Try.prog 16 #[duv a b c d h mi s n, hov L S i m] W (fun e w' => e = .returned (.bool true) ∧ Ext W w') := by
  by_cases k : uEx a b c d h mi s n
  · by_cases l : 4 ≤ L ∧ L ≤ S ∧ S ≤ 8
    · obtain ⟨l1, l2, l3⟩ := l
      by_cases r : incOk S i
      · by_cases hm : 1 ≤ m ∧ m ≤ 9
        · exact drnd_ok a b c d h mi s n L S i m W j k l1 l2 l3 r hm.1 hm.2
        · exact drnd_no a b c d h mi s n L S i m W (urnd_m a b c d h mi s n L S i m j k l1 (by omega) l2 r (by omega)) (zrnd_m a b c d h mi s n L S i m j k l1 l3 l2 r (by omega))
      · exact drnd_no a b c d h mi s n L S i m W (urnd_i a b c d h mi s n L S i m j k l1 (by omega) l2 r) (zrnd_i a b c d h mi s n L S i m j k l1 l3 l2 r)
    · have z : L < 4 ∨ 8 < S ∨ S < L := by omega
      by_cases l1 : 4 ≤ L ∧ L ≤ 8
      · by_cases l2 : S < L
        · exact drnd_no a b c d h mi s n L S i m W (urnd_s a b c d h mi s n L S i m j k l1.1 l1.2 l2) (zrnd_a a b c d h mi s n L S i m j k z)
        · exact drnd_no a b c d h mi s n L S i m W (urnd_i a b c d h mi s n L S i m j k l1.1 l1.2 (by omega) (fun q => by have := (incOk_in q).1; omega)) (zrnd_a a b c d h mi s n L S i m j k z)
      · exact drnd_no a b c d h mi s n L S i m W (urnd_l a b c d h mi s n L S i m j k (by omega)) (zrnd_a a b c d h mi s n L S i m j k z)
  · exact drnd_no a b c d h mi s n L S i m W (urnd_x a b c d h mi s n L S i m j k) (zrnd_x a b c d h mi s n L S i m j k)
end
end Go.Proofs.Ytcndfpfjckkinaa
end
section
/-
  A struct of so many 64-bit numbers that comes in.
-/
namespace Go.Proofs.Ytcndfpfjckkinaa
open Go Go.RowKit

def intRow (P : Program) (t : TypeId) (n : Nat) : Bool := (match P.underlying t with
  | some (.struct _) => true
  | some (.array _ _) => true
  | _ => false) && decide (P.cellsOf t = n) && match P.cellTypes P.depth t with
  | some ts => decide (ts.length = n) && ts.all fun u => match P.underlying u with
    | some (.int .i64) => true
    | _ => false
  | none => false
theorem cells_in {P : Program} {w : World} {r : Reach} {b : Nat} {ts : List TypeId} (ha : ∀ u, u ∈ ts → P.underlying u = some (.int .i64)) (hne : 0 < ts.length) : ∀ (l : List Value),
    (∀ (i : Nat) (v : Value), l[i]? = some v → ∃ (j : Nat) (u : TypeId), ts[j]? = some u ∧ Cell.okWide P w r b u v) → ∃ xs : List Int, l = xs.map (Value.int .i64) ∧ ∀ x ∈ xs, I64 x
  | [], _ => ⟨[], rfl, fun x h => by cases h⟩
  | v :: l, h => by
    obtain ⟨xs, h1, h2⟩ := cells_in ha hne l fun i v hv => h (i + 1) v (by simpa using hv)
    obtain ⟨j, u, hu, hc⟩ := h 0 v rfl
    have hU := ha u (List.mem_of_getElem? hu)
    obtain ⟨x, rfl, hx⟩ : ∃ x, v = .int .i64 x ∧ I64 x := by
      simp only [Cell.okWide, hU] at hc
      cases v <;> simp [Cell.ok, hU] at hc
      rename_i k x
      obtain ⟨rfl, hk⟩ := hc
      refine ⟨x, rfl, ?_⟩
      have m0 : IntKind.i64.min = -9223372036854775808 := by decide
      have m1 : IntKind.i64.max = 9223372036854775807 := by decide
      unfold IntKind.has at hk
      rw [m0, m1] at hk
      exact hk
    exact ⟨x :: xs, by rw [h1]; rfl, fun y hy => by
      rcases List.mem_cons.1 hy with rfl | hy
      · exact hx
      · exact h2 y hy⟩
theorem ints_in {P : Program} {w : World} {r : Reach} {b : Nat} {t : TypeId} {n : Nat} {v : Value} (hn : 0 < n) (ht : intRow P t n = true) (hv : Value.okWide P w r b t v) : ∃ xs : List Int, v = .agg (xs.map (Value.int .i64)).toArray ∧ xs.length = n ∧ ∀ x ∈ xs, I64 x := by
  unfold intRow at ht
  rw [Bool.and_eq_true, Bool.and_eq_true] at ht
  obtain ⟨⟨hs, hc⟩, hl⟩ := ht
  obtain ⟨cs, rfl, hsz, ts, hts, -, hcell⟩ : ∃ cs, v = .agg cs ∧ cs.size = P.cellsOf t ∧ Row.okWide P w r b t cs := by
    unfold Value.okWide at hv
    split at hv
    · exact hv
    · exact hv
    · rename_i h1 h2
      split at hs
      · rename_i fs h; exact absurd h (h1 fs)
      · rename_i m e h; exact absurd h (h2 m e)
      · cases hs
  rw [hts] at hl
  simp only [Bool.and_eq_true, decide_eq_true_eq, List.all_eq_true] at hl hc
  have ha : ∀ u ∈ ts, P.underlying u = some (.int .i64) := fun u hu => by
    have := hl.2 u hu
    split at this
    · assumption
    · cases this
  obtain ⟨xs, h1, h2⟩ := cells_in (P := P) (w := w) (r := r) (b := b) ha (by omega) cs.toList fun i v hv => by
    obtain ⟨u, h3, h4⟩ := hcell i v (by simpa using hv)
    exact ⟨_, u, h3, h4⟩
  have e : cs = (xs.map (Value.int .i64)).toArray := by rw [← h1]
  refine ⟨xs, by rw [e], ?_, h2⟩
  have := congrArg Array.size e
  simp at this; omega
theorem list4 {α : Type} {l : List α} (h : l.length = 4) : ∃ a b c d, l = [a, b, c, d] := by
  match l, h with
  | [a, b, c, d], _ => exact ⟨a, b, c, d, rfl⟩
theorem list8 {α : Type} {l : List α} (h : l.length = 8) : ∃ a b c d e f g i, l = [a, b, c, d, e, f, g, i] := by
  match l, h with
  | [a, b, c, d, e, f, g, i], _ => exact ⟨a, b, c, d, e, f, g, i, rfl⟩
end Go.Proofs.Ytcndfpfjckkinaa
end
