/-
  The laws PlainCounts, PlainAdds, PlainBetween, PlainOrders, walked.
-/
import Derived.Test.YtcndfpfjckkinaaPlz
set_option linter.unusedVariables false
set_option maxRecDepth 100000
namespace Go.Proofs.Ytcndfpfjckkinaa
open Go Go.RowKit Go.Ev

theorem alive7 : Fn 38 [] [] (.bool true) := by
  have p1 := pnanos_yes 1970 1 2 0 0 0 1 (by decide)
  have p2 := pof_yes (-1) (by decide)
  have i1 : I64 (-1) := by unfold I64; omega
  have i2 : I64 86400000000001 := by unfold I64; omega
  refine fn_of Try.func38 rfl fun ww => ?_
  refine st_fn ent31 (p1) sub0 (by kernel_rfl) ?_
  refine st_fn ent51 (wof_fn (-1) (by assumption)) sub0 (by kernel_rfl) ?_
  refine st_fn ent33 (p2) sub0 (by kernel_rfl) ?_
  refine st_fn ent51 (wof_fn (86400000000001) (by assumption)) sub0 (by kernel_rfl) ?_
  exact st_ret Try.func38 (by kernel_rfl)
section
variable (y mo d h m s n w : Int)
theorem pcounts_1 (k : pOk y mo d h m s n) (hw : W128 w) (l : pIn w) : Fn 4 [] [ptv y mo d h m s n, wv w] (.bool true) := by
  have i := pOk_in k
  have hx : W128 (pnum y mo d h m s n) := by unfold pIn at i; unfold W128; omega
  refine fn_of Try.func4 rfl fun ww => ?_
  refine st_fn ent31 (pnanos_yes (y) (mo) (d) (h) (m) (s) (n) (by assumption)) sub0 (by kernel_rfl) ?_
  refine st_fn ent32 (zright7_yes (y) (mo) (d) (h) (m) (s) (n) (by assumption)) sub0 (by kernel_rfl) ?_
  refine st_fn ent33 (pof_yes (w) (by assumption)) sub0 (by kernel_rfl) ?_
  refine st_g ent35 (frof (w) (by assumption)) sub0 (by kernel_rfl) (fun zq3 => ?_)
  refine st_fn ent34 (zof7_yes (zq3) (w) (by assumption)) (subC 0 rfl sub0) (by kernel_rfl) ?_
  refine st_g ent37 (znanos7 (y) (mo) (d) (h) (m) (s) (n) (by assumption)) sub0 (by kernel_rfl) (fun zq5 => ?_)
  refine st_fn ent36 (fitw_f (zq5) (pnum y mo d h m s n) (by exact Bits.mono hx.bits (by decide)) (by assumption)) (subC 0 rfl sub0) (by kernel_rfl) ?_
  refine st_fn ent38 (alive7) sub0 (by kernel_rfl) ?_
  refine st_b 43 (show (hi (pnum y mo d h m s n) == hi (pnum y mo d h m s n) && (lo (pnum y mo d h m s n) == lo (pnum y mo d h m s n) && true)) = true by simp_all) (by kernel_rfl) ?_
  refine st_b 53 (show (dY (xd w) == dY (xd w) && (dM (xd w) == dM (xd w) && (dD (xd w) == dD (xd w) && true)) && (tH (xt w) == tH (xt w) && (tM (xt w) == tM (xt w) && (tS (xt w) == tS (xt w) && (tN (xt w) == tN (xt w) && true))) && true)) = true by simp_all) (by kernel_rfl) ?_
  refine st_fn ent39 (pright_yes (y) (mo) (d) (h) (m) (s) (n) (by assumption)) sub0 (by kernel_rfl) ?_
  exact st_ret Try.func4 (by kernel_rfl)
theorem pcounts_2 (k : pOk y mo d h m s n) (hw : W128 w) (l : ¬ pIn w) : Fn 4 [] [ptv y mo d h m s n, wv w] (.bool true) := by
  have i := pOk_in k
  have hx : W128 (pnum y mo d h m s n) := by unfold pIn at i; unfold W128; omega
  refine fn_of Try.func4 rfl fun ww => ?_
  refine st_fn ent31 (pnanos_yes (y) (mo) (d) (h) (m) (s) (n) (by assumption)) sub0 (by kernel_rfl) ?_
  refine st_fn ent32 (zright7_yes (y) (mo) (d) (h) (m) (s) (n) (by assumption)) sub0 (by kernel_rfl) ?_
  refine st_fn ent33 (pof_no (w) (by assumption) (by assumption)) sub0 (by kernel_rfl) ?_
  refine st_g ent35 (frof (w) (by assumption)) sub0 (by kernel_rfl) (fun zq3 => ?_)
  refine st_fn ent34 (zof7_no (zq3) (w) (by exact Bits.mono hw.bits (by decide)) (by assumption)) (subC 0 rfl sub0) (by kernel_rfl) ?_
  refine st_g ent37 (znanos7 (y) (mo) (d) (h) (m) (s) (n) (by assumption)) sub0 (by kernel_rfl) (fun zq5 => ?_)
  refine st_fn ent36 (fitw_f (zq5) (pnum y mo d h m s n) (by exact Bits.mono hx.bits (by decide)) (by assumption)) (subC 0 rfl sub0) (by kernel_rfl) ?_
  refine st_fn ent38 (alive7) sub0 (by kernel_rfl) ?_
  refine st_b 43 (show (hi (pnum y mo d h m s n) == hi (pnum y mo d h m s n) && (lo (pnum y mo d h m s n) == lo (pnum y mo d h m s n) && true)) = true by simp_all) (by kernel_rfl) ?_
  refine st_fn ent39 (pright_yes (y) (mo) (d) (h) (m) (s) (n) (by assumption)) sub0 (by kernel_rfl) ?_
  exact st_ret Try.func4 (by kernel_rfl)
theorem pcounts_3 (k : ¬ pOk y mo d h m s n) (hw : W128 w) (l : pIn w) : Fn 4 [] [ptv y mo d h m s n, wv w] (.bool true) := by
  refine fn_of Try.func4 rfl fun ww => ?_
  refine st_fn ent31 (pnanos_no (y) (mo) (d) (h) (m) (s) (n) (by assumption)) sub0 (by kernel_rfl) ?_
  refine st_fn ent32 (zright7_no (y) (mo) (d) (h) (m) (s) (n) (by assumption)) sub0 (by kernel_rfl) ?_
  refine st_fn ent33 (pof_yes (w) (by assumption)) sub0 (by kernel_rfl) ?_
  refine st_g ent35 (frof (w) (by assumption)) sub0 (by kernel_rfl) (fun zq3 => ?_)
  refine st_fn ent34 (zof7_yes (zq3) (w) (by assumption)) (subC 0 rfl sub0) (by kernel_rfl) ?_
  refine st_fn ent38 (alive7) sub0 (by kernel_rfl) ?_
  refine st_b 53 (show (dY (xd w) == dY (xd w) && (dM (xd w) == dM (xd w) && (dD (xd w) == dD (xd w) && true)) && (tH (xt w) == tH (xt w) && (tM (xt w) == tM (xt w) && (tS (xt w) == tS (xt w) && (tN (xt w) == tN (xt w) && true))) && true)) = true by simp_all) (by kernel_rfl) ?_
  refine st_fn ent39 (pright_no (y) (mo) (d) (h) (m) (s) (n) (by assumption)) sub0 (by kernel_rfl) ?_
  exact st_ret Try.func4 (by kernel_rfl)
theorem pcounts_4 (k : ¬ pOk y mo d h m s n) (hw : W128 w) (l : ¬ pIn w) : Fn 4 [] [ptv y mo d h m s n, wv w] (.bool true) := by
  refine fn_of Try.func4 rfl fun ww => ?_
  refine st_fn ent31 (pnanos_no (y) (mo) (d) (h) (m) (s) (n) (by assumption)) sub0 (by kernel_rfl) ?_
  refine st_fn ent32 (zright7_no (y) (mo) (d) (h) (m) (s) (n) (by assumption)) sub0 (by kernel_rfl) ?_
  refine st_fn ent33 (pof_no (w) (by assumption) (by assumption)) sub0 (by kernel_rfl) ?_
  refine st_g ent35 (frof (w) (by assumption)) sub0 (by kernel_rfl) (fun zq3 => ?_)
  refine st_fn ent34 (zof7_no (zq3) (w) (by exact Bits.mono hw.bits (by decide)) (by assumption)) (subC 0 rfl sub0) (by kernel_rfl) ?_
  refine st_fn ent38 (alive7) sub0 (by kernel_rfl) ?_
  refine st_fn ent39 (pright_no (y) (mo) (d) (h) (m) (s) (n) (by assumption)) sub0 (by kernel_rfl) ?_
  exact st_ret Try.func4 (by kernel_rfl)
theorem law_pcounts (W : World) (hw : W128 w) : Calls Try.prog 4 #[ptv y mo d h m s n, wv w] W (fun e w' => e = .returned (.bool true) ∧ Ext W w') := by
  by_cases k : pOk y mo d h m s n
  · by_cases l : pIn w
    · exact pcounts_1 y mo d h m s n w k hw l W (zall_nil W)
    · exact pcounts_2 y mo d h m s n w k hw l W (zall_nil W)
  · by_cases l : pIn w
    · exact pcounts_3 y mo d h m s n w k hw l W (zall_nil W)
    · exact pcounts_4 y mo d h m s n w k hw l W (zall_nil W)
theorem padds_v (v : Value) (e : Int) (h1 : Fn 40 [] [ptv y mo d h m s n, wv w] v) (h2 : Fn 41 [] [ptv y mo d h m s n, wv w] v) (a b c a' b' c' n' : Int) (hv : v = .tuple #[ptv a b c a' b' c' n', .int .i64 e]) : Fn 5 [] [ptv y mo d h m s n, wv w] (.bool true) := by
  subst hv
  refine fn_of Try.func5 rfl fun ww => ?_
  refine st_fn ent40 (h1) sub0 (by kernel_rfl) ?_
  refine st_fn ent41 (h2) sub0 (by kernel_rfl) ?_
  refine st_fn ent38 (alive7) sub0 (by kernel_rfl) ?_
  refine st_b 25 (show (a == a && (b == b && (c == c && true)) && (a' == a' && (b' == b' && (c' == c' && (n' == n' && true))) && true)) = true by simp_all) (by kernel_rfl) ?_
  exact st_retv Try.func5 (show Value.bool (e == e) = _ by simp) (by kernel_rfl)
theorem law_padds (W : World) (hw : W128 w) : Calls Try.prog 5 #[ptv y mo d h m s n, wv w] W (fun e w' => e = .returned (.bool true) ∧ Ext W w') := by
  by_cases k : pOk y mo d h m s n
  · by_cases l : pIn (pnum y mo d h m s n + w)
    · exact padds_v y mo d h m s n w _ _ (padd_yes y mo d h m s n w k hw l) (zadd7_yes y mo d h m s n w k hw l) _ _ _ _ _ _ _ rfl W (zall_nil W)
    · exact padds_v y mo d h m s n w _ _ (padd_no y mo d h m s n w k hw l) (zadd7_no y mo d h m s n w k hw l) _ _ _ _ _ _ _ rfl W (zall_nil W)
  · exact padds_v y mo d h m s n w _ _ (padd_arg y mo d h m s n w k) (zadd7_arg y mo d h m s n w k) _ _ _ _ _ _ _ rfl W (zall_nil W)
end
section
variable (y mo d h m s n y' mo' d' h' m' s' n' w : Int)
theorem pbetw_1 (k : pOk y mo d h m s n) (k' : pOk y' mo' d' h' m' s' n') : Fn 6 [] [ptv y mo d h m s n, ptv y' mo' d' h' m' s' n'] (.bool true) := by
  have i := pOk_in k
  have i' := pOk_in k'
  have hx : W128 (pnum y mo d h m s n) := by unfold pIn at i; unfold W128; omega
  have hx' : W128 (pnum y' mo' d' h' m' s' n') := by unfold pIn at i'; unfold W128; omega
  have hy : W128 (pnum y' mo' d' h' m' s' n' - pnum y mo d h m s n) := by unfold pIn at i i'; unfold W128; omega
  have e : cmpI (pnum y' mo' d' h' m' s' n' - pnum y mo d h m s n) (pnum y' mo' d' h' m' s' n' - pnum y mo d h m s n) = 0 := cmpI_eq rfl
  refine fn_of Try.func6 rfl fun ww => ?_
  refine st_fn ent42 (psince_yes (y) (mo) (d) (h) (m) (s) (n) (y') (mo') (d') (h') (m') (s') (n') (by assumption) (by assumption)) sub0 (by kernel_rfl) ?_
  refine st_fn ent43 (pcmp (y) (mo) (d) (h) (m) (s) (n) (y') (mo') (d') (h') (m') (s') (n')) sub0 (by kernel_rfl) ?_
  refine st_fn ent38 (alive7) sub0 (by kernel_rfl) ?_
  refine st_fn ent44 (zcmp7 (y) (mo) (d) (h) (m) (s) (n) (y') (mo') (d') (h') (m') (s') (n')) sub0 (by kernel_rfl) ?_
  refine st_b 24 (show (cmp7 y mo d h m s n y' mo' d' h' m' s' n' != cmp7 y mo d h m s n y' mo' d' h' m' s' n') = false by exact bne_eq_false_iff_eq.2 (by omega)) (by kernel_rfl) ?_
  refine st_fn ent32 (zright7_yes (y) (mo) (d) (h) (m) (s) (n) (by assumption)) sub0 (by kernel_rfl) ?_
  refine st_fn ent32 (zright7_yes (y') (mo') (d') (h') (m') (s') (n') (by assumption)) sub0 (by kernel_rfl) ?_
  refine st_g ent35 (frof (pnum y' mo' d' h' m' s' n' - pnum y mo d h m s n) (by assumption)) sub0 (by kernel_rfl) (fun zq6 => ?_)
  refine st_g ent37 (znanos7 (y') (mo') (d') (h') (m') (s') (n') (by assumption)) sub0 (by kernel_rfl) (fun zq7 => ?_)
  refine st_g ent37 (znanos7 (y) (mo) (d) (h) (m) (s) (n) (by assumption)) sub0 (by kernel_rfl) (fun zq8 => ?_)
  refine st_g ent46 (fzsub (zq7) (zq8) (pnum y' mo' d' h' m' s' n') (pnum y mo d h m s n) (by exact Bits.fit hx'.bits (by decide)) (by exact Bits.fit hx.bits (by decide))) (subC 1 rfl (subC 0 rfl sub0)) (by kernel_rfl) (fun zq9 => ?_)
  refine st_fn ent45 (fzcmp (zq6) (zq9) (pnum y' mo' d' h' m' s' n' - pnum y mo d h m s n) (pnum y' mo' d' h' m' s' n' - pnum y mo d h m s n) (by exact Bits.fit hy.bits (by decide)) (by exact Bits.fit hy.bits (by decide))) (subC 3 rfl (subC 0 rfl sub0)) (by kernel_rfl) ?_
  exact st_retv Try.func6 (show Value.bool (cmpI (pnum y' mo' d' h' m' s' n' - pnum y mo d h m s n) (pnum y' mo' d' h' m' s' n' - pnum y mo d h m s n) == 0) = _ by simp_all) (by kernel_rfl)
theorem pbetw_2 (k : ¬ pOk y mo d h m s n) : Fn 6 [] [ptv y mo d h m s n, ptv y' mo' d' h' m' s' n'] (.bool true) := by
  have k1 : ¬ (pOk y mo d h m s n ∧ pOk y' mo' d' h' m' s' n') := fun q => k q.1
  refine fn_of Try.func6 rfl fun ww => ?_
  refine st_fn ent42 (psince_no (y) (mo) (d) (h) (m) (s) (n) (y') (mo') (d') (h') (m') (s') (n') (by assumption)) sub0 (by kernel_rfl) ?_
  refine st_fn ent43 (pcmp (y) (mo) (d) (h) (m) (s) (n) (y') (mo') (d') (h') (m') (s') (n')) sub0 (by kernel_rfl) ?_
  refine st_fn ent38 (alive7) sub0 (by kernel_rfl) ?_
  refine st_fn ent44 (zcmp7 (y) (mo) (d) (h) (m) (s) (n) (y') (mo') (d') (h') (m') (s') (n')) sub0 (by kernel_rfl) ?_
  refine st_b 24 (show (cmp7 y mo d h m s n y' mo' d' h' m' s' n' != cmp7 y mo d h m s n y' mo' d' h' m' s' n') = false by exact bne_eq_false_iff_eq.2 (by omega)) (by kernel_rfl) ?_
  refine st_fn ent32 (zright7_no (y) (mo) (d) (h) (m) (s) (n) (by assumption)) sub0 (by kernel_rfl) ?_
  exact st_ret Try.func6 (by kernel_rfl)
theorem pbetw_3 (k : pOk y mo d h m s n) (k' : ¬ pOk y' mo' d' h' m' s' n') : Fn 6 [] [ptv y mo d h m s n, ptv y' mo' d' h' m' s' n'] (.bool true) := by
  have k1 : ¬ (pOk y mo d h m s n ∧ pOk y' mo' d' h' m' s' n') := fun q => k' q.2
  refine fn_of Try.func6 rfl fun ww => ?_
  refine st_fn ent42 (psince_no (y) (mo) (d) (h) (m) (s) (n) (y') (mo') (d') (h') (m') (s') (n') (by assumption)) sub0 (by kernel_rfl) ?_
  refine st_fn ent43 (pcmp (y) (mo) (d) (h) (m) (s) (n) (y') (mo') (d') (h') (m') (s') (n')) sub0 (by kernel_rfl) ?_
  refine st_fn ent38 (alive7) sub0 (by kernel_rfl) ?_
  refine st_fn ent44 (zcmp7 (y) (mo) (d) (h) (m) (s) (n) (y') (mo') (d') (h') (m') (s') (n')) sub0 (by kernel_rfl) ?_
  refine st_b 24 (show (cmp7 y mo d h m s n y' mo' d' h' m' s' n' != cmp7 y mo d h m s n y' mo' d' h' m' s' n') = false by exact bne_eq_false_iff_eq.2 (by omega)) (by kernel_rfl) ?_
  refine st_fn ent32 (zright7_yes (y) (mo) (d) (h) (m) (s) (n) (by assumption)) sub0 (by kernel_rfl) ?_
  refine st_fn ent32 (zright7_no (y') (mo') (d') (h') (m') (s') (n') (by assumption)) sub0 (by kernel_rfl) ?_
  exact st_ret Try.func6 (by kernel_rfl)
theorem law_pbetw (W : World) : Calls Try.prog 6 #[ptv y mo d h m s n, ptv y' mo' d' h' m' s' n'] W (fun e w' => e = .returned (.bool true) ∧ Ext W w') := by
  by_cases k : pOk y mo d h m s n
  · by_cases k' : pOk y' mo' d' h' m' s' n'
    · exact pbetw_1 y mo d h m s n y' mo' d' h' m' s' n' k k' W (zall_nil W)
    · exact pbetw_3 y mo d h m s n y' mo' d' h' m' s' n' k k' W (zall_nil W)
  · exact pbetw_2 y mo d h m s n y' mo' d' h' m' s' n' k W (zall_nil W)
theorem pord_1 (k : pOk y mo d h m s n) (k' : pOk y' mo' d' h' m' s' n') (hw : W128 w) (l : ¬ pIn (pnum y mo d h m s n + w)) : Fn 7 [] [ptv y mo d h m s n, ptv y' mo' d' h' m' s' n', wv w] (.bool true) := by
  have e := cmp7_num k k'
  refine fn_of Try.func7 rfl fun ww => ?_
  refine st_fn ent31 (pnanos_yes (y) (mo) (d) (h) (m) (s) (n) (by assumption)) sub0 (by kernel_rfl) ?_
  refine st_fn ent31 (pnanos_yes (y') (mo') (d') (h') (m') (s') (n') (by assumption)) sub0 (by kernel_rfl) ?_
  refine st_fn ent47 (wcmp_fn (pnum y mo d h m s n) (pnum y' mo' d' h' m' s' n')) sub0 (by kernel_rfl) ?_
  refine st_fn ent43 (pcmp (y) (mo) (d) (h) (m) (s) (n) (y') (mo') (d') (h') (m') (s') (n')) sub0 (by kernel_rfl) ?_
  refine st_b 36 (show (cmpI (pnum y mo d h m s n) (pnum y' mo' d' h' m' s' n') != cmp7 y mo d h m s n y' mo' d' h' m' s' n') = false by exact bne_eq_false_iff_eq.2 (by omega)) (by kernel_rfl) ?_
  refine st_fn ent38 (alive7) sub0 (by kernel_rfl) ?_
  refine st_fn ent40 (padd_no (y) (mo) (d) (h) (m) (s) (n) (w) (by assumption) (by assumption) (by assumption)) sub0 (by kernel_rfl) ?_
  exact st_ret Try.func7 (by kernel_rfl)
theorem pord_2 (k : pOk y mo d h m s n) (k' : ¬ pOk y' mo' d' h' m' s' n') (hw : W128 w) (l : ¬ pIn (pnum y mo d h m s n + w)) : Fn 7 [] [ptv y mo d h m s n, ptv y' mo' d' h' m' s' n', wv w] (.bool true) := by
  refine fn_of Try.func7 rfl fun ww => ?_
  refine st_fn ent31 (pnanos_yes (y) (mo) (d) (h) (m) (s) (n) (by assumption)) sub0 (by kernel_rfl) ?_
  refine st_fn ent31 (pnanos_no (y') (mo') (d') (h') (m') (s') (n') (by assumption)) sub0 (by kernel_rfl) ?_
  refine st_fn ent38 (alive7) sub0 (by kernel_rfl) ?_
  refine st_fn ent40 (padd_no (y) (mo) (d) (h) (m) (s) (n) (w) (by assumption) (by assumption) (by assumption)) sub0 (by kernel_rfl) ?_
  exact st_ret Try.func7 (by kernel_rfl)
theorem pord_3 (k : ¬ pOk y mo d h m s n) (hw : W128 w) : Fn 7 [] [ptv y mo d h m s n, ptv y' mo' d' h' m' s' n', wv w] (.bool true) := by
  by_cases k' : pOk y' mo' d' h' m' s' n'
  · refine fn_of Try.func7 rfl fun ww => ?_
    refine st_fn ent31 (pnanos_no (y) (mo) (d) (h) (m) (s) (n) (by assumption)) sub0 (by kernel_rfl) ?_
    refine st_fn ent31 (pnanos_yes (y') (mo') (d') (h') (m') (s') (n') (by assumption)) sub0 (by kernel_rfl) ?_
    refine st_fn ent38 (alive7) sub0 (by kernel_rfl) ?_
    refine st_fn ent40 (padd_arg (y) (mo) (d) (h) (m) (s) (n) (w) (by assumption)) sub0 (by kernel_rfl) ?_
    exact st_ret Try.func7 (by kernel_rfl)
  · refine fn_of Try.func7 rfl fun ww => ?_
    refine st_fn ent31 (pnanos_no (y) (mo) (d) (h) (m) (s) (n) (by assumption)) sub0 (by kernel_rfl) ?_
    refine st_fn ent31 (pnanos_no (y') (mo') (d') (h') (m') (s') (n') (by assumption)) sub0 (by kernel_rfl) ?_
    refine st_fn ent38 (alive7) sub0 (by kernel_rfl) ?_
    refine st_fn ent40 (padd_arg (y) (mo) (d) (h) (m) (s) (n) (w) (by assumption)) sub0 (by kernel_rfl) ?_
    exact st_ret Try.func7 (by kernel_rfl)
variable (a b c a' b' c' q : Int)
theorem pord_4 (k : pOk y mo d h m s n) (k' : pOk y' mo' d' h' m' s' n') (hw : W128 w) (h1 : Fn 40 [] [ptv y mo d h m s n, wv w] (.tuple #[ptv a b c a' b' c' q, .int .i64 0])) (h2 : Fn 42 [] [ptv y mo d h m s n, ptv a b c a' b' c' q] (.tuple #[wv w, .int .i64 0]))
    (e : cmp7 a b c a' b' c' q y mo d h m s n = cmpI w 0) : Fn 7 [] [ptv y mo d h m s n, ptv y' mo' d' h' m' s' n', wv w] (.bool true) := by
  have e := cmp7_num k k'
  refine fn_of Try.func7 rfl fun ww => ?_
  refine st_fn ent31 (pnanos_yes (y) (mo) (d) (h) (m) (s) (n) (by assumption)) sub0 (by kernel_rfl) ?_
  refine st_fn ent31 (pnanos_yes (y') (mo') (d') (h') (m') (s') (n') (by assumption)) sub0 (by kernel_rfl) ?_
  refine st_fn ent47 (wcmp_fn (pnum y mo d h m s n) (pnum y' mo' d' h' m' s' n')) sub0 (by kernel_rfl) ?_
  refine st_fn ent43 (pcmp (y) (mo) (d) (h) (m) (s) (n) (y') (mo') (d') (h') (m') (s') (n')) sub0 (by kernel_rfl) ?_
  refine st_b 36 (show (cmpI (pnum y mo d h m s n) (pnum y' mo' d' h' m' s' n') != cmp7 y mo d h m s n y' mo' d' h' m' s' n') = false by exact bne_eq_false_iff_eq.2 (by omega)) (by kernel_rfl) ?_
  refine st_fn ent38 (alive7) sub0 (by kernel_rfl) ?_
  refine st_fn ent40 (h1) sub0 (by kernel_rfl) ?_
  refine st_fn ent42 (h2) sub0 (by kernel_rfl) ?_
  refine st_b 71 (show (hi w == hi w && (lo w == lo w && true)) = true by simp_all) (by kernel_rfl) ?_
  refine st_fn ent43 (pcmp (a) (b) (c) (a') (b') (c') (q) (y) (mo) (d) (h) (m) (s) (n)) sub0 (by kernel_rfl) ?_
  refine st_fn ent48 (wsign_fn (w)) sub0 (by kernel_rfl) ?_
  exact st_retv Try.func7 (show Value.bool (cmp7 a b c a' b' c' q y mo d h m s n == cmpI w 0) = _ by simp_all) (by kernel_rfl)
theorem pord_5 (k : pOk y mo d h m s n) (k' : ¬ pOk y' mo' d' h' m' s' n') (hw : W128 w) (h1 : Fn 40 [] [ptv y mo d h m s n, wv w] (.tuple #[ptv a b c a' b' c' q, .int .i64 0])) (h2 : Fn 42 [] [ptv y mo d h m s n, ptv a b c a' b' c' q] (.tuple #[wv w, .int .i64 0]))
    (e : cmp7 a b c a' b' c' q y mo d h m s n = cmpI w 0) : Fn 7 [] [ptv y mo d h m s n, ptv y' mo' d' h' m' s' n', wv w] (.bool true) := by
  refine fn_of Try.func7 rfl fun ww => ?_
  refine st_fn ent31 (pnanos_yes (y) (mo) (d) (h) (m) (s) (n) (by assumption)) sub0 (by kernel_rfl) ?_
  refine st_fn ent31 (pnanos_no (y') (mo') (d') (h') (m') (s') (n') (by assumption)) sub0 (by kernel_rfl) ?_
  refine st_fn ent38 (alive7) sub0 (by kernel_rfl) ?_
  refine st_fn ent40 (h1) sub0 (by kernel_rfl) ?_
  refine st_fn ent42 (h2) sub0 (by kernel_rfl) ?_
  refine st_b 71 (show (hi w == hi w && (lo w == lo w && true)) = true by simp_all) (by kernel_rfl) ?_
  refine st_fn ent43 (pcmp (a) (b) (c) (a') (b') (c') (q) (y) (mo) (d) (h) (m) (s) (n)) sub0 (by kernel_rfl) ?_
  refine st_fn ent48 (wsign_fn (w)) sub0 (by kernel_rfl) ?_
  exact st_retv Try.func7 (show Value.bool (cmp7 a b c a' b' c' q y mo d h m s n == cmpI w 0) = _ by simp_all) (by kernel_rfl)
theorem law_pord (W : World) (hw : W128 w) : Calls Try.prog 7 #[ptv y mo d h m s n, ptv y' mo' d' h' m' s' n', wv w] W (fun e w' => e = .returned (.bool true) ∧ Ext W w') := by
  by_cases k : pOk y mo d h m s n
  · by_cases l : pIn (pnum y mo d h m s n + w)
    · have h1 := padd_yes y mo d h m s n w k hw l
      obtain ⟨g1, g2⟩ := of_pOk l
      have h2 := psince_yes _ _ _ _ _ _ _ _ _ _ _ _ _ _ k g1
      rw [g2, show pnum y mo d h m s n + w - pnum y mo d h m s n = w by omega] at h2
      have e := cmp7_num g1 k
      rw [g2, show cmpI (pnum y mo d h m s n + w) (pnum y mo d h m s n) = cmpI w 0 from cmpI_congr (by omega) (by omega)] at e
      by_cases k' : pOk y' mo' d' h' m' s' n'
      · exact pord_4 y mo d h m s n y' mo' d' h' m' s' n' w _ _ _ _ _ _ _ k k' hw h1 h2 e W (zall_nil W)
      · exact pord_5 y mo d h m s n y' mo' d' h' m' s' n' w _ _ _ _ _ _ _ k k' hw h1 h2 e W (zall_nil W)
    · by_cases k' : pOk y' mo' d' h' m' s' n'
      · exact pord_1 y mo d h m s n y' mo' d' h' m' s' n' w k k' hw l W (zall_nil W)
      · exact pord_2 y mo d h m s n y' mo' d' h' m' s' n' w k k' hw l W (zall_nil W)
  · exact pord_3 y mo d h m s n y' mo' d' h' m' s' n' w k hw W (zall_nil W)
end
end Go.Proofs.Ytcndfpfjckkinaa
