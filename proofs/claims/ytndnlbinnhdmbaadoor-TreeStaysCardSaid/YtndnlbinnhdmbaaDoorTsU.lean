/- TreeRoots. Conditions: keys and values have 256 bits; the tables hold their numbers. -/
import Derived.Test.YtndnlbinnhdmbaaDoorTsS
set_option linter.unusedSimpArgs false
set_option linter.unusedVariables false
namespace Go.Proofs.YtndnlbinnhdmbaaDoor
set_option maxHeartbeats 3000000
set_option maxRecDepth 100000
open Go.RowKit
attribute [local irreducible] wpList wpTr wpX
set_option linter.unusedSimpArgs false
theorem ok_L256 {ls : List Lf} (h : ok256 ls) : okL256 ls := fun i x hx => h x (List.mem_of_getElem? hx)
theorem rl_le {ls : List Lf} (h : ls.length ≤ 1000) : (rlist ls).length ≤ 274877906944 := by have := rlist_len ls; omega
theorem rl_le2 {ls : List Lf} (h : ls.length ≤ 1000) : (rlist ls).length ≤ 1099511627776 := by have := rlist_len ls; omega
theorem lvs_ofT {ls : List Lf} (h : ok256 ls) : lvs (ofT ls) = rlist ls := by rw [ofT_can h]; exact lvs_can 256 0 _ rfl (rlist_spec h).2 (pre_0 _)
theorem of_tsz {ls : List Lf} (h : ls.length ≤ 1000) : tsz (ofT ls) < 4611686018427387904 := by have := (ofT_le ls.length ls).1; rw [List.take_length] at this; omega
theorem of_cnt {ls : List Lf} (h : ls.length ≤ 1000) : cnt (ofT ls) < 2305843009213693952 := by have := (ofT_le ls.length ls).2; rw [List.take_length] at this; omega
theorem ok_take {ls : List Lf} (n : Nat) (h : ok256 ls) : ok256 (ls.take n) := fun y hy => h y (List.mem_of_mem_take hy)
theorem of_r {q : Prop} {ls : List Lf} {u : Value} (h : ok256 ls) (hn : ls.length ≤ 1000) (w : World) (hG : GT q w) (hR : RR 64 w u (ls.map lfl)) : Calls Tryd.prog 23 #[u] w fun e w' => TRet (ofT ls) w w' e := by
 obtain ⟨A, c, rfl, _, _, h3⟩ := hR
 rw [List.length_map]
 exact of_c (ok_L256 h) (by omega) w hG h3
attribute [local irreducible] hs4 sE sL sN

end Go.Proofs.YtndnlbinnhdmbaaDoor
