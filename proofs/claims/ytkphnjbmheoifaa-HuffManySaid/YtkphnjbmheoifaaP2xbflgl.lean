/- Printed by a program of mine: each Go function answers what its model answers; conditions: what each theorem asks of memory. -/
import Derived.Test.YtkphnjbmheoifaaP1xnmckp
set_option linter.unusedVariables false
set_option linter.unusedSimpArgs false
set_option maxRecDepth 100000
namespace Go.TryS
open Go Go.Sl Go.Mo Go.Proofs
attribute [local irreducible] Res.wp
theorem huff_pairs_c {H : Imm} {F : List Frag} {w : World} {R : Ending → World → Prop} {kr : (List T_huff_packet) → Prop} {kp : Value → Prop} (hG : Gl H) (K : Nat) (l_2242 : List T_huff_packet) (p2243 : Frag) (A2244 : Option Addr) (c2245 : Nat) (rw2246 : List (Row 2)) (hr2247 : RelL (R_huff_packet p2243) l_2242 rw2246) (hp2248 : Pl p2243 (Row.v (sz := 2)) A2244 rw2246) (hc2249 : rw2246.length ≤ c2245)
    (hS : St w H [p2243] F) (hm : (huff_pairs.m K l_2242).wp kr kp)
    (hret : ∀ (p2505 : Frag) (A2507 : Option Addr) (c2508 : Nat) (rw2509 : List (Row 2)) (x2510 : (List T_huff_packet)) (f2511 : Frag) (w : World), kr x2510 → (∀ q ∈ p2243, q ∈ p2505) → (Vec 70 (Row.v (sz := 2)) 2 A2507 rw2509 c2508 f2511) → (RelL (R_huff_packet p2505) x2510 rw2509) → St w H [p2505, f2511] F → R (.returned (.slice A2507 rw2509.length c2508)) w)
    (hpan : ∀ v w, kp v → St w H [] F → R (.panicked [⟨v, false, false⟩]) w) :
    Calls Try.prog 36 ⟨[.slice A2244 rw2246.length c2245]⟩ w R := by
 refine enter Try.func36 rfl Try.ntmps36 rfl hS fun a w hS => ?_
 have hM := hm; clear hm
 rw [huff_pairs.m] at hM
 have hs2250 : ∀ q ∈ p2243, q ∈ p2243 := fun _ h => h
 refine wp_seq <| wp_region_list <| st1 hS (asg rfl) rfl fun a w hS => ?_
 obtain ⟨f2251, hV2252, hS⟩ := hS.nilV 70 (Row.v (sz := 2)) 2
 have hr2253 : RelL (R_huff_packet p2243) ([] : List T_huff_packet) ([] : List (Row 2)) := RelL.nil
 refine wpList_nil <| then_n <| wp_seq <| wp_region_list <| st1 hS (asg rfl) rfl fun a w hS => ?_
 obtain ⟨f2254, hV2255, hS⟩ := hS.nilV 70 (Row.v (sz := 2)) 2
 have hr2256 : RelL (R_huff_packet p2243) ([] : List T_huff_packet) ([] : List (Row 2)) := RelL.nil
 refine wpList_nil <| then_n <| wp_seq <| wp_seq <| wp_region_list <| st1 hS (asg rfl) rfl fun a w hS => wpList_nil <| then_n <| wp_block <| s_loopJ (fun k2442 a w => ∃ (p2429 : Frag) (A2434 : Option Addr) (c2435 : Nat) (rw2436 : List (Row 2)) (out2437 : (List T_huff_packet)) (f2438 : Frag) (i2441 : Int), Ss 42 [] [(0, .slice A2244 rw2246.length c2245), (3, .slice A2434 rw2436.length c2435), (4, .int .i64 i2441)] H [p2429, f2438] F a w ∧ (∀ q ∈ p2243, q ∈ p2429) ∧ (RelL (R_huff_packet p2429) l_2242 rw2246) ∧ (Pl p2429 (Row.v (sz := 2)) A2244 rw2246) ∧ (rw2246.length ≤ c2245) ∧ (Vec 70 (Row.v (sz := 2)) 2 A2434 rw2436 c2435 f2438) ∧ (RelL (R_huff_packet p2429) out2437 rw2436) ∧ (huff_pairs.l1 K l_2242 k2442 out2437 i2441).wp kr kp) K ?_ ?_ ?_
 ·exact ⟨p2243, none, 0, ([] : List (Row 2)), ([] : List T_huff_packet), f2254, (0 : Int), hS.to [2, 0] (by kernel_rfl) ⟨rfl, rfl, rfl, trivial⟩, hs2250, hr2247, hp2248, hc2249, hV2255, hr2256, hM⟩
 ·intro a w hI; obtain ⟨_, _, _, _, _, _, _, _, _, _, _, _, _, _, hM⟩ := hI; exact wp_fail hM
 ·intro k2442 a w hI J2504 hJ2504
  obtain ⟨p2429, A2434, c2435, rw2436, out2437, f2438, i2441, hS, hs2430, hr2431, hp2432, hc2433, hV2439, hr2440, hM⟩ := hI
  rw [huff_pairs.l1] at hM
  refine wp_seq <| wp_seq <| wp_region_list <| st1 hS (mv rfl) rfl fun a w hS => st1 hS (bin rfl rfl rfl) rfl fun a w hS => st1 hS (mv rfl) rfl fun a w hS => st1 hS (ovE (v' := .int .i64 (l_2242.length : Int)) (lenV rfl Try.runUnderlying68) (by rw [hr2431.len])) rfl fun a w hS => st1 hS (bin rfl rfl rfl) rfl fun a w hS => wpList_nil <| then_n <| s_cond hS rfl hM (fun hb2443 hM => ?_) (fun hb2443 hM => ?_)
  ·refine wp_skip ?_
   refine then_n <| wp_seq <| wp_block ?_
   obtain ⟨hk2445, hM⟩ := wp_chk hM
   obtain ⟨A2446, c2447, hw2450, hp2448, hc2449⟩ := hr2431.get hk2445
   obtain ⟨hk2452, hM⟩ := wp_chk hM
   obtain ⟨A2453, c2454, hw2457, hp2455, hc2456⟩ := hr2431.get hk2452
   obtain ⟨A2458, c2459, hw2462, hp2460, hc2461⟩ := hr2431.get hk2445
   obtain ⟨A2463, c2464, hw2467, hp2465, hc2466⟩ := hr2431.get hk2452
   refine draw_begin (vals := [some (.slice A2434 rw2436.length c2435), some (.slice A2244 rw2246.length c2245), some (.int .i64 i2441), some (slp A2244 (Int.toNat i2441 * 2)), some (slp A2244 (Int.toNat i2441 * 2 + 0)), some (.int .i64 ((rd l_2242 i2441).often_)), some (.slice A2244 rw2246.length c2245), some (.int .i64 i2441), some (.int .i64 (w64 (i2441 + (1 : Int)))), some (slp A2244 (Int.toNat (w64 (i2441 + (1 : Int))) * 2)), some (slp A2244 (Int.toNat (w64 (i2441 + (1 : Int))) * 2 + 0)), some (.int .i64 ((rd l_2242 (w64 (i2441 + (1 : Int)))).often_)), some (.int .i64 (w64 ((rd l_2242 i2441).often_ + (rd l_2242 (w64 (i2441 + (1 : Int)))).often_))), some (.slice A2244 rw2246.length c2245), some (.int .i64 i2441), some (slp A2244 (Int.toNat i2441 * 2)), some (slp A2244 (Int.toNat i2441 * 2 + 1)), some (.slice A2458 ((rd l_2242 i2441).symbols_).length c2459), some (.slice A2244 rw2246.length c2245), some (.int .i64 i2441), some (.int .i64 (w64 (i2441 + (1 : Int)))), some (slp A2244 (Int.toNat (w64 (i2441 + (1 : Int))) * 2)), some (slp A2244 (Int.toNat (w64 (i2441 + (1 : Int))) * 2 + 1)), some (.slice A2463 ((rd l_2242 (w64 (i2441 + (1 : Int)))).symbols_).length c2464), none, none, none, none, none, none]) hS mixed rfl ?_
   intro l w ho hcl hA hst
   refine phq hA hst ho hcl navail nmust 24 [0, 1, 2, 3, 4, 5, 6, 7, 8, 9, 10, 11, 12, 13, 14, 15, 16, 17, 18, 19, 20, 21, 22, 23] rfl rfl rfl rfl rfl (by exact ⟨nR rfl rfl rfl rfl rfl (by exact ovE (mv rfl) rfl), nR rfl rfl rfl rfl rfl (by exact ovE (mv rfl) rfl), nR rfl rfl rfl rfl rfl (by exact ovE (mv rfl) rfl), nR rfl rfl rfl rfl rfl (by exact ovE (ixV rfl rfl Try.runUnderlying68 Try.sizeOf70 (hp2432.rd (i := 0) rfl) Row.len rfl (hr2431.inb hk2445)) rfl), nR rfl rfl rfl rfl rfl (by exact ovE (fadV rfl (hp2432.rd (i := 0) rfl) Row.len rfl (hr2431.inb hk2445) Try.runUnderlying70 rfl Try.sizeOf3 rfl) rfl), nR rfl rfl rfl rfl rfl (by exact ovE (ldV 0 rfl (hp2432.rd (i := 0) rfl) Row.len (hr2431.inb hk2445) (by rw [show Row.v (rd rw2246 i2441) = _ from hw2450]; rfl) Try.isAgg3) rfl), nR rfl rfl rfl rfl rfl (by exact ovE (mv rfl) rfl), nR rfl rfl rfl rfl rfl (by exact ovE (mv rfl) rfl), nR rfl rfl rfl rfl rfl (by exact ovE (bin rfl rfl rfl) rfl), nR rfl rfl rfl rfl rfl (by exact ovE (ixV rfl rfl Try.runUnderlying68 Try.sizeOf70 (hp2432.rd (i := 0) rfl) Row.len rfl (hr2431.inb hk2452)) rfl), nR rfl rfl rfl rfl rfl (by exact ovE (fadV rfl (hp2432.rd (i := 0) rfl) Row.len rfl (hr2431.inb hk2452) Try.runUnderlying70 rfl Try.sizeOf3 rfl) rfl), nR rfl rfl rfl rfl rfl (by exact ovE (ldV 0 rfl (hp2432.rd (i := 0) rfl) Row.len (hr2431.inb hk2452) (by rw [show Row.v (rd rw2246 (w64 (i2441 + (1 : Int)))) = _ from hw2457]; rfl) Try.isAgg3) rfl), nR rfl rfl rfl rfl rfl (by exact ovE (bin rfl rfl rfl) rfl), nR rfl rfl rfl rfl rfl (by exact ovE (mv rfl) rfl), nR rfl rfl rfl rfl rfl (by exact ovE (mv rfl) rfl), nR rfl rfl rfl rfl rfl (by exact ovE (ixV rfl rfl Try.runUnderlying68 Try.sizeOf70 (hp2432.rd (i := 0) rfl) Row.len rfl (hr2431.inb hk2445)) rfl), nR rfl rfl rfl rfl rfl (by exact ovE (fadV rfl (hp2432.rd (i := 0) rfl) Row.len rfl (hr2431.inb hk2445) Try.runUnderlying70 rfl Try.sizeOf22 rfl) rfl), nR rfl rfl rfl rfl rfl (by exact ovE (ldV 1 rfl (hp2432.rd (i := 0) rfl) Row.len (hr2431.inb hk2445) (by rw [show Row.v (rd rw2246 i2441) = _ from hw2462]; rfl) Try.isAgg22) rfl), nR rfl rfl rfl rfl rfl (by exact ovE (mv rfl) rfl), nR rfl rfl rfl rfl rfl (by exact ovE (mv rfl) rfl), nR rfl rfl rfl rfl rfl (by exact ovE (bin rfl rfl rfl) rfl), nR rfl rfl rfl rfl rfl (by exact ovE (ixV rfl rfl Try.runUnderlying68 Try.sizeOf70 (hp2432.rd (i := 0) rfl) Row.len rfl (hr2431.inb hk2452)) rfl), nR rfl rfl rfl rfl rfl (by exact ovE (fadV rfl (hp2432.rd (i := 0) rfl) Row.len rfl (hr2431.inb hk2452) Try.runUnderlying70 rfl Try.sizeOf22 rfl) rfl), nR rfl rfl rfl rfl rfl (by exact ovE (ldV 1 rfl (hp2432.rd (i := 0) rfl) Row.len (hr2431.inb hk2452) (by rw [show Row.v (rd rw2246 (w64 (i2441 + (1 : Int)))) = _ from hw2467]; rfl) Try.isAgg22) rfl), trivial⟩) fun D l a w ho hcl hav hpre hm hE hk hA hst => ?_
   have hS := (Ss.mk hE hst).env2 (e' := [(29, .slice A2458 ((rd l_2242 i2441).symbols_).length c2459), (35, .slice A2463 ((rd l_2242 (w64 (i2441 + (1 : Int)))).symbols_).length c2464)]) ⟨rfl, rfl, trivial⟩
   refine op_of_nth rfl ?_
   obtain ⟨rw2473, hrw⟩ : ∃ r, r = ([(⟨[.slice A2458 ((rd l_2242 i2441).symbols_).length c2459], by simp, by simp [Value.oneCell']⟩ : Row 1), (⟨[.slice A2463 ((rd l_2242 (w64 (i2441 + (1 : Int)))).symbols_).length c2464], by simp, by simp [Value.oneCell']⟩ : Row 1)] : List (Row 1)) := ⟨_, rfl⟩
   have hr2472 : RelL (R_s_int p2429) ([(rd l_2242 i2441).symbols_, (rd l_2242 (w64 (i2441 + (1 : Int)))).symbols_] : List (List Int)) rw2473 := by rw [hrw]; exact (RelL.cons (show R_s_int p2429 _ _ from ⟨A2458, c2459, rfl, hp2460, hc2461⟩) (RelL.cons (show R_s_int p2429 _ _ from ⟨A2463, c2464, rfl, hp2465, hc2466⟩) RelL.nil))
   refine bsl (g := (Row.v (sz := 1))) rw2473 [.slice A2458 ((rd l_2242 i2441).symbols_).length c2459, .slice A2463 ((rd l_2242 (w64 (i2441 + (1 : Int)))).symbols_).length c2464] hS Try.runUnderlying86 Try.sizeOf22 X.el22 rfl rfl rfl (by simp [Value.cells]) (by rw [hrw]; rfl) (by rw [hrw]; rfl) rfl rfl rfl fun w A2468 c2469 f2470 hV2471 hS => ?_
   clear hrw
   refine wpList_nil (then_n ?_)
   replace hst := hS.st
   obtain ⟨hcl, hmust, hav2, hA⟩ := dn (vals' := [some (.slice A2434 rw2436.length c2435), some (.slice A2244 rw2246.length c2245), some (.int .i64 i2441), some (slp A2244 (Int.toNat i2441 * 2)), some (slp A2244 (Int.toNat i2441 * 2 + 0)), some (.int .i64 ((rd l_2242 i2441).often_)), some (.slice A2244 rw2246.length c2245), some (.int .i64 i2441), some (.int .i64 (w64 (i2441 + (1 : Int)))), some (slp A2244 (Int.toNat (w64 (i2441 + (1 : Int))) * 2)), some (slp A2244 (Int.toNat (w64 (i2441 + (1 : Int))) * 2 + 0)), some (.int .i64 ((rd l_2242 (w64 (i2441 + (1 : Int)))).often_)), some (.int .i64 (w64 ((rd l_2242 i2441).often_ + (rd l_2242 (w64 (i2441 + (1 : Int)))).often_))), some (.slice A2244 rw2246.length c2245), some (.int .i64 i2441), some (slp A2244 (Int.toNat i2441 * 2)), some (slp A2244 (Int.toNat i2441 * 2 + 1)), some (.slice A2458 ((rd l_2242 i2441).symbols_).length c2459), some (.slice A2244 rw2246.length c2245), some (.int .i64 i2441), some (.int .i64 (w64 (i2441 + (1 : Int)))), some (slp A2244 (Int.toNat (w64 (i2441 + (1 : Int))) * 2)), some (slp A2244 (Int.toNat (w64 (i2441 + (1 : Int))) * 2 + 1)), some (.slice A2463 ((rd l_2242 (w64 (i2441 + (1 : Int)))).symbols_).length c2464), some (.slice A2468 rw2473.length c2469), none, none, none, none, none]) 24 [(17, 24), (23, 24), (16, 17), (22, 23), (15, 16), (21, 22), (13, 15), (14, 15), (18, 21), (20, 21), (19, 20)] hA hcl hav hm hpre hk rfl rfl rfl rfl rfl rfl rfl
   clear hm hav
   refine phq hA hst ho hcl hav2 hmust 25 [0, 1, 2, 3, 4, 5, 6, 7, 8, 9, 10, 11, 12] rfl rfl rfl rfl rfl (by exact ⟨nR rfl rfl rfl rfl rfl (by exact ovE (mv rfl) rfl), nR rfl rfl rfl rfl rfl (by exact ovE (mv rfl) rfl), nR rfl rfl rfl rfl rfl (by exact ovE (mv rfl) rfl), nR rfl rfl rfl rfl rfl (by exact ovE (ixV rfl rfl Try.runUnderlying68 Try.sizeOf70 (hp2432.rd (i := 1) rfl) Row.len rfl (hr2431.inb hk2445)) rfl), nR rfl rfl rfl rfl rfl (by exact ovE (fadV rfl (hp2432.rd (i := 1) rfl) Row.len rfl (hr2431.inb hk2445) Try.runUnderlying70 rfl Try.sizeOf3 rfl) rfl), nR rfl rfl rfl rfl rfl (by exact ovE (ldV 0 rfl (hp2432.rd (i := 1) rfl) Row.len (hr2431.inb hk2445) (by rw [show Row.v (rd rw2246 i2441) = _ from hw2450]; rfl) Try.isAgg3) rfl), nR rfl rfl rfl rfl rfl (by exact ovE (mv rfl) rfl), nR rfl rfl rfl rfl rfl (by exact ovE (mv rfl) rfl), nR rfl rfl rfl rfl rfl (by exact ovE (bin rfl rfl rfl) rfl), nR rfl rfl rfl rfl rfl (by exact ovE (ixV rfl rfl Try.runUnderlying68 Try.sizeOf70 (hp2432.rd (i := 1) rfl) Row.len rfl (hr2431.inb hk2452)) rfl), nR rfl rfl rfl rfl rfl (by exact ovE (fadV rfl (hp2432.rd (i := 1) rfl) Row.len rfl (hr2431.inb hk2452) Try.runUnderlying70 rfl Try.sizeOf3 rfl) rfl), nR rfl rfl rfl rfl rfl (by exact ovE (ldV 0 rfl (hp2432.rd (i := 1) rfl) Row.len (hr2431.inb hk2452) (by rw [show Row.v (rd rw2246 (w64 (i2441 + (1 : Int)))) = _ from hw2457]; rfl) Try.isAgg3) rfl), nR rfl rfl rfl rfl rfl (by exact ovE (bin rfl rfl rfl) rfl), trivial⟩) fun D l a w ho hcl hav hpre hm hE hk hA hst => ?_
   have hS := (Ss.mk hE hst).env2 (e' := [(36, .slice A2468 rw2473.length c2469)]) ⟨rfl, trivial⟩
   refine op_of_nth rfl ?_
   replace hS := hS.front [0, 1, 2] (by kernel_rfl)
   obtain ⟨p2474, hs2475, hs2476, hS⟩ := hS.poolF
   have hc2478 := hV2471.cap Row.len rfl
   have hp2477 := hV2471.pl.mono hs2475
   replace hp2432 := hp2432.mono hs2476
   replace hp2460 := hp2460.mono hs2476
   replace hp2465 := hp2465.mono hs2476
   replace hr2431 := RelL.mono (fun _ _ h => R_huff_packet.mono hs2476 h) hr2431
   replace hr2440 := RelL.mono (fun _ _ h => R_huff_packet.mono hs2476 h) hr2440
   replace hr2472 := RelL.mono (fun _ _ h => R_s_int.mono hs2476 h) hr2472
   replace hs2430 := fun q h => hs2476 q (hs2430 q h)
   refine s_call hS rfl Try.call42 (slices_Concat___int_int__c hG K ([(rd l_2242 i2441).symbols_, (rd l_2242 (w64 (i2441 + (1 : Int)))).symbols_] : List (List Int)) p2474 A2468 c2469 rw2473 hr2472 hp2477 hc2478 (hS.st.part 1 [0, 1] (by kernel_rfl)) (wp_bind hM) (fun A2479 c2480 x2481 f2482 w hM h2483 hst => s_back hS.ev hst.appF rfl fun hS => ?_) (fun v w hk hst => s_pan (then_pan (blk_pan (then_pan (then_pan (blk_pan (then_pan (⟨hS.ev.defs, hpan _ _ hk hst.appF.frame⟩)))))))))
   replace hS : Ss _ _ _ H [p2474, f2482, f2438] F _ _ := hS
   refine wpList_nil (then_n ?_)
   replace hst := hS.st
   obtain ⟨hcl, hmust, hav2, hA⟩ := dn (vals' := [some (.slice A2434 rw2436.length c2435), some (.slice A2244 rw2246.length c2245), some (.int .i64 i2441), some (slp A2244 (Int.toNat i2441 * 2)), some (slp A2244 (Int.toNat i2441 * 2 + 0)), some (.int .i64 ((rd l_2242 i2441).often_)), some (.slice A2244 rw2246.length c2245), some (.int .i64 i2441), some (.int .i64 (w64 (i2441 + (1 : Int)))), some (slp A2244 (Int.toNat (w64 (i2441 + (1 : Int))) * 2)), some (slp A2244 (Int.toNat (w64 (i2441 + (1 : Int))) * 2 + 0)), some (.int .i64 ((rd l_2242 (w64 (i2441 + (1 : Int)))).often_)), some (.int .i64 (w64 ((rd l_2242 i2441).often_ + (rd l_2242 (w64 (i2441 + (1 : Int)))).often_))), some (.slice A2244 rw2246.length c2245), some (.int .i64 i2441), some (slp A2244 (Int.toNat i2441 * 2)), some (slp A2244 (Int.toNat i2441 * 2 + 1)), some (.slice A2458 ((rd l_2242 i2441).symbols_).length c2459), some (.slice A2244 rw2246.length c2245), some (.int .i64 i2441), some (.int .i64 (w64 (i2441 + (1 : Int)))), some (slp A2244 (Int.toNat (w64 (i2441 + (1 : Int))) * 2)), some (slp A2244 (Int.toNat (w64 (i2441 + (1 : Int))) * 2 + 1)), some (.slice A2463 ((rd l_2242 (w64 (i2441 + (1 : Int)))).symbols_).length c2464), some (.slice A2468 rw2473.length c2469), some (.slice A2479 x2481.length c2480), some (.agg ⟨[.int .i64 (w64 ((rd l_2242 i2441).often_ + (rd l_2242 (w64 (i2441 + (1 : Int)))).often_)), .slice A2479 x2481.length c2480]⟩), none, none, none]) 25 [(24, 25), (17, 24), (23, 24), (16, 17), (22, 23), (15, 16), (21, 22), (13, 15), (14, 15), (18, 21), (20, 21), (19, 20)] hA hcl hav hm hpre hk rfl rfl rfl rfl rfl rfl rfl
   clear hm hav
   refine phq hA hst ho hcl hav2 hmust 27 [0, 1, 2, 3, 4, 5, 6, 7, 8, 9, 10, 11, 12, 26] rfl rfl rfl rfl rfl (by exact ⟨nR rfl rfl rfl rfl rfl (by exact ovE (mv rfl) rfl), nR rfl rfl rfl rfl rfl (by exact ovE (mv rfl) rfl), nR rfl rfl rfl rfl rfl (by exact ovE (mv rfl) rfl), nR rfl rfl rfl rfl rfl (by exact ovE (ixV rfl rfl Try.runUnderlying68 Try.sizeOf70 (hp2432.rd (i := 0) rfl) Row.len rfl (hr2431.inb hk2445)) rfl), nR rfl rfl rfl rfl rfl (by exact ovE (fadV rfl (hp2432.rd (i := 0) rfl) Row.len rfl (hr2431.inb hk2445) Try.runUnderlying70 rfl Try.sizeOf3 rfl) rfl), nR rfl rfl rfl rfl rfl (by exact ovE (ldV 0 rfl (hp2432.rd (i := 0) rfl) Row.len (hr2431.inb hk2445) (by rw [show Row.v (rd rw2246 i2441) = _ from hw2450]; rfl) Try.isAgg3) rfl), nR rfl rfl rfl rfl rfl (by exact ovE (mv rfl) rfl), nR rfl rfl rfl rfl rfl (by exact ovE (mv rfl) rfl), nR rfl rfl rfl rfl rfl (by exact ovE (bin rfl rfl rfl) rfl), nR rfl rfl rfl rfl rfl (by exact ovE (ixV rfl rfl Try.runUnderlying68 Try.sizeOf70 (hp2432.rd (i := 0) rfl) Row.len rfl (hr2431.inb hk2452)) rfl), nR rfl rfl rfl rfl rfl (by exact ovE (fadV rfl (hp2432.rd (i := 0) rfl) Row.len rfl (hr2431.inb hk2452) Try.runUnderlying70 rfl Try.sizeOf3 rfl) rfl), nR rfl rfl rfl rfl rfl (by exact ovE (ldV 0 rfl (hp2432.rd (i := 0) rfl) Row.len (hr2431.inb hk2452) (by rw [show Row.v (rd rw2246 (w64 (i2441 + (1 : Int)))) = _ from hw2457]; rfl) Try.isAgg3) rfl), nR rfl rfl rfl rfl rfl (by exact ovE (bin rfl rfl rfl) rfl), nR rfl rfl rfl rfl rfl (by exact ovE (bld ([.int .i64 (w64 ((rd l_2242 i2441).often_ + (rd l_2242 (w64 (i2441 + (1 : Int)))).often_)), .slice A2479 x2481.length c2480]) [(0, 1), (1, 1)] Try.zeroValue70 Try.runUnderlying70 (by intro w; simp [Try.sizeOf22, Try.sizeOf3]) rfl rfl) rfl), trivial⟩) fun D l a w ho hcl hav hpre hm hE hk hA hst => ?_
   have hS := (Ss.mk hE hst).env2 (e' := [(38, .agg ⟨[.int .i64 (w64 ((rd l_2242 i2441).often_ + (rd l_2242 (w64 (i2441 + (1 : Int)))).often_)), .slice A2479 x2481.length c2480]⟩)]) ⟨rfl, trivial⟩
   refine op_of_nth rfl ?_
   replace hS := hS.front [1, 0, 2] (by kernel_rfl)
   obtain ⟨p2484, hs2485, hs2486, hS⟩ := hS.poolF
   have hc2488 := h2483.cap (fun _ => rfl) rfl
   have hp2487 := h2483.pl.mono hs2485
   replace hp2432 := hp2432.mono hs2486
   replace hp2460 := hp2460.mono hs2486
   replace hp2465 := hp2465.mono hs2486
   replace hp2477 := hp2477.mono hs2486
   replace hr2431 := RelL.mono (fun _ _ h => R_huff_packet.mono hs2486 h) hr2431
   replace hr2440 := RelL.mono (fun _ _ h => R_huff_packet.mono hs2486 h) hr2440
   replace hr2472 := RelL.mono (fun _ _ h => R_s_int.mono hs2486 h) hr2472
   replace hs2430 := fun q h => hs2486 q (hs2430 q h)
   obtain ⟨rw2494, hrw⟩ : ∃ r, r = ([(⟨[.int .i64 (w64 ((rd l_2242 i2441).often_ + (rd l_2242 (w64 (i2441 + (1 : Int)))).often_)), .slice A2479 x2481.length c2480], by simp, by simp [Value.oneCell']⟩ : Row 2)] : List (Row 2)) := ⟨_, rfl⟩
   have hr2493 : RelL (R_huff_packet p2484) ([(T_huff_packet.mk (w64 ((rd l_2242 i2441).often_ + (rd l_2242 (w64 (i2441 + (1 : Int)))).often_)) x2481)] : List T_huff_packet) rw2494 := by rw [hrw]; exact (RelL.cons (show R_huff_packet p2484 _ _ from ⟨A2479, c2480, rfl, hp2487, hc2488⟩) RelL.nil)
   refine bsl (g := (Row.v (sz := 2))) rw2494 [.agg ⟨[.int .i64 (w64 ((rd l_2242 i2441).often_ + (rd l_2242 (w64 (i2441 + (1 : Int)))).often_)), .slice A2479 x2481.length c2480]⟩] hS Try.runUnderlying68 Try.sizeOf70 X.el70 rfl rfl rfl (by simp [Value.cells]) (by rw [hrw]; rfl) (by rw [hrw]; rfl) rfl rfl rfl fun w A2489 c2490 f2491 hV2492 hS => ?_
   clear hrw
   refine wpList_nil (then_n ?_)
   replace hst := hS.st
   obtain ⟨hcl, hmust, hav2, hA⟩ := dn (vals' := [some (.slice A2434 rw2436.length c2435), some (.slice A2244 rw2246.length c2245), some (.int .i64 i2441), some (slp A2244 (Int.toNat i2441 * 2)), some (slp A2244 (Int.toNat i2441 * 2 + 0)), some (.int .i64 ((rd l_2242 i2441).often_)), some (.slice A2244 rw2246.length c2245), some (.int .i64 i2441), some (.int .i64 (w64 (i2441 + (1 : Int)))), some (slp A2244 (Int.toNat (w64 (i2441 + (1 : Int))) * 2)), some (slp A2244 (Int.toNat (w64 (i2441 + (1 : Int))) * 2 + 0)), some (.int .i64 ((rd l_2242 (w64 (i2441 + (1 : Int)))).often_)), some (.int .i64 (w64 ((rd l_2242 i2441).often_ + (rd l_2242 (w64 (i2441 + (1 : Int)))).often_))), some (.slice A2244 rw2246.length c2245), some (.int .i64 i2441), some (slp A2244 (Int.toNat i2441 * 2)), some (slp A2244 (Int.toNat i2441 * 2 + 1)), some (.slice A2458 ((rd l_2242 i2441).symbols_).length c2459), some (.slice A2244 rw2246.length c2245), some (.int .i64 i2441), some (.int .i64 (w64 (i2441 + (1 : Int)))), some (slp A2244 (Int.toNat (w64 (i2441 + (1 : Int))) * 2)), some (slp A2244 (Int.toNat (w64 (i2441 + (1 : Int))) * 2 + 1)), some (.slice A2463 ((rd l_2242 (w64 (i2441 + (1 : Int)))).symbols_).length c2464), some (.slice A2468 rw2473.length c2469), some (.slice A2479 x2481.length c2480), some (.agg ⟨[.int .i64 (w64 ((rd l_2242 i2441).often_ + (rd l_2242 (w64 (i2441 + (1 : Int)))).often_)), .slice A2479 x2481.length c2480]⟩), some (.slice A2489 rw2494.length c2490), none, none]) 27 [(26, 27), (12, 26), (25, 26), (5, 12), (11, 12), (24, 25), (4, 5), (10, 11), (17, 24), (23, 24), (3, 4), (9, 10), (16, 17), (22, 23), (1, 3), (2, 3), (6, 9), (8, 9), (15, 16), (21, 22), (7, 8), (13, 15), (14, 15), (18, 21), (20, 21), (19, 20)] hA hcl hav hm hpre hk rfl rfl rfl rfl rfl rfl rfl
   clear hm hav
   refine phq hA hst ho hcl hav2 hmust 28 [0] rfl rfl rfl rfl rfl (by exact ⟨nR rfl rfl rfl rfl rfl (by exact ovE (mv rfl) rfl), trivial⟩) fun D l a w ho hcl hav hpre hm hE hk hA hst => ?_
   have hS := (Ss.mk hE hst).env2 (e' := [(12, .slice A2434 rw2436.length c2435), (39, .slice A2489 rw2494.length c2490)]) ⟨rfl, rfl, trivial⟩
   refine op_of_nth rfl ?_
   obtain ⟨hk2495, hM⟩ := wp_chk hM
   refine apV (ys := rw2494) 2 hS rfl rfl hV2439 rfl (hV2492.rd (i := 0) rfl) Try.runUnderlying68 Try.runUnderlying68 X.el70 Row.len rfl one_row (hr2440.room hr2493 hk2495) rfl fun rw2500 w A2496 c2497 f2498 hz hV2499 hS => ?_
   obtain ⟨zs2501, hzm⟩ := nameE (out2437 ++ ([(T_huff_packet.mk (w64 ((rd l_2242 i2441).often_ + (rd l_2242 (w64 (i2441 + (1 : Int)))).often_)) x2481)] : List T_huff_packet))
   replace hM := lt_to hzm hM
   have hr2502 := RelL.append hr2440 hr2493
   rw [← hz, ← hzm] at hr2502; clear hz hzm
   refine wpList_nil (then_n ?_)
   replace hst := hS.st
   obtain ⟨hcl, hmust, hav2, hA⟩ := dn (vals' := [some (.slice A2434 rw2436.length c2435), some (.slice A2244 rw2246.length c2245), some (.int .i64 i2441), some (slp A2244 (Int.toNat i2441 * 2)), some (slp A2244 (Int.toNat i2441 * 2 + 0)), some (.int .i64 ((rd l_2242 i2441).often_)), some (.slice A2244 rw2246.length c2245), some (.int .i64 i2441), some (.int .i64 (w64 (i2441 + (1 : Int)))), some (slp A2244 (Int.toNat (w64 (i2441 + (1 : Int))) * 2)), some (slp A2244 (Int.toNat (w64 (i2441 + (1 : Int))) * 2 + 0)), some (.int .i64 ((rd l_2242 (w64 (i2441 + (1 : Int)))).often_)), some (.int .i64 (w64 ((rd l_2242 i2441).often_ + (rd l_2242 (w64 (i2441 + (1 : Int)))).often_))), some (.slice A2244 rw2246.length c2245), some (.int .i64 i2441), some (slp A2244 (Int.toNat i2441 * 2)), some (slp A2244 (Int.toNat i2441 * 2 + 1)), some (.slice A2458 ((rd l_2242 i2441).symbols_).length c2459), some (.slice A2244 rw2246.length c2245), some (.int .i64 i2441), some (.int .i64 (w64 (i2441 + (1 : Int)))), some (slp A2244 (Int.toNat (w64 (i2441 + (1 : Int))) * 2)), some (slp A2244 (Int.toNat (w64 (i2441 + (1 : Int))) * 2 + 1)), some (.slice A2463 ((rd l_2242 (w64 (i2441 + (1 : Int)))).symbols_).length c2464), some (.slice A2468 rw2473.length c2469), some (.slice A2479 x2481.length c2480), some (.agg ⟨[.int .i64 (w64 ((rd l_2242 i2441).often_ + (rd l_2242 (w64 (i2441 + (1 : Int)))).often_)), .slice A2479 x2481.length c2480]⟩), some (.slice A2489 rw2494.length c2490), some (.slice A2496 rw2500.length c2497), some (.slice A2496 rw2500.length c2497)]) 28 [(0, 28), (25, 28), (27, 28), (24, 25), (26, 27), (17, 24), (23, 24), (12, 26), (16, 17), (22, 23), (5, 12), (11, 12), (15, 16), (21, 22), (4, 5), (10, 11), (13, 15), (14, 15), (18, 21), (20, 21), (3, 4), (9, 10), (19, 20), (1, 3), (2, 3), (6, 9), (8, 9), (7, 8)] hA hcl hav hm hpre hk rfl rfl rfl rfl rfl rfl rfl
   clear hm hav
   refine phqE hA hst ho hcl hmust [29] rfl rfl rfl (by exact ⟨nR rfl rfl rfl rfl rfl (by exact ovE (asg rfl) rfl), trivial⟩) fun a w hS => ?_
   replace hS := hS.env2 (e' := [(0, .slice A2244 rw2246.length c2245), (3, .slice A2496 rw2500.length c2497), (4, .int .i64 i2441)]) ⟨rfl, rfl, rfl, trivial⟩
   refine blk_n (then_n ?_)
   refine wp_region_list <| st1 hS (mv rfl) rfl fun a w hS => st1 hS (bin rfl rfl rfl) rfl fun a w hS => st1x (v := Value.int .i64) (x0 := (w64 (i2441 + (2 : Int)))) hS (asg rfl) rfl fun i2503 a w hz hS => ?_
   have hM := lt_to hz hM; clear hz
   refine wpList_nil <| then_n ?_
   exact hJ2504 _ _ ⟨p2484, A2496, c2497, rw2500, zs2501, f2498, i2503, hS.to [1, 2] (by kernel_rfl) ⟨rfl, rfl, rfl, trivial⟩, hs2430, hr2431, hp2432, hc2433, hV2499, hr2502, hM⟩
  ·refine wp_exit ?_
   refine then_ex (then_ex (blk_same (then_n ?_)))
   refine wp_seq <| wp_region_list <| st1 hS (mv rfl) rfl fun a w hS => st1 hS (asg rfl) rfl fun a w hS => wpList_nil <| then_n <| wp_ret ?_
   exact s_ret (rs := [2]) hS rfl rfl (hret p2429 A2434 c2435 rw2436 out2437 f2438 w (wp_ok hM) hs2430 hV2439 hr2440 (hS.st.pick [0, 1] (by kernel_rfl)))

def R_s_huff_packet (p : Frag) (x : (List T_huff_packet)) (vs : List Value) : Prop :=
  ∃ (A0 : Option Addr) (c0 : Nat) (r0 : List (Row 2)), vs = [.slice A0 r0.length c0] ∧ RelL (R_huff_packet p) x r0 ∧ Pl p (Row.v (sz := 2)) A0 r0 ∧ r0.length ≤ c0
theorem R_s_huff_packet.mono {p p' : Frag} (hs : ∀ q ∈ p, q ∈ p') {x : (List T_huff_packet)} {vs : List Value} (h : R_s_huff_packet p x vs) : R_s_huff_packet p' x vs := by
  obtain ⟨A0, c0, r0, h0, h1, h2, h3⟩ := h
  exact ⟨A0, c0, r0, h0, RelL.mono (fun _ _ h => R_huff_packet.mono hs h) h1, h2.mono hs, h3⟩

theorem slices_Grow___huff_packet_huff_packet__8ef0_c {H : Imm} {F : List Frag} {w : World} {R : Ending → World → Prop} {kr : Unit → Prop} {kp : Value → Prop} (hG : Gl H) (K : Nat) (n_2587 : Int)
    (hS : St w H [] F) (hm : (slices_Grow___huff_packet_huff_packet__8ef0.m K n_2587).wp kr kp)
    (hret : ∀ (p2606 : Frag) (A2607 : Option Addr) (c2608 : Nat) (f2609 : Frag) (w : World), kr () → (Vec 70 (Row.v (sz := 2)) 2 A2607 ([] : List (Row 2)) c2608 f2609) → (RelL (R_huff_packet p2606) ([] : List T_huff_packet) ([] : List (Row 2))) → St w H [p2606, f2609] F → R (.returned (.slice A2607 ([] : List (Row 2)).length c2608)) w)
    (hpan : ∀ v w, kp v → St w H [] F → R (.panicked [⟨v, false, false⟩]) w) :
    Calls Try.prog 45 ⟨[.slice none 0 0, .int .i64 n_2587]⟩ w R := by
 refine enter Try.func45 rfl Try.ntmps45 rfl hS fun a w hS => ?_
 have hM := hm; clear hm
 rw [slices_Grow___huff_packet_huff_packet__8ef0.m] at hM
 refine wp_seq <| wp_region_list <| st1 hS (asg rfl) rfl fun a w hS => ?_
 obtain ⟨p2590, hS⟩ := hS.pool0
 obtain ⟨f2588, hV2589, hS⟩ := hS.nilV 70 (Row.v (sz := 2)) 2
 have hr2591 : RelL (R_huff_packet p2590) ([] : List T_huff_packet) ([] : List (Row 2)) := RelL.nil
 refine wpList_nil <| then_n <| wp_seq <| wp_seq <| wp_region_list <| st1 hS (mv rfl) rfl fun a w hS => st1 hS (bin rfl rfl rfl) rfl fun a w hS => wpList_nil <| then_n <| s_cond hS rfl hM (fun hb2592 hM => ?_) (fun hb2592 hM => ?_)
 ·refine wp_region_list ?_
  refine st1 hS (mkI rfl Try.runUnderlying9 rfl) rfl fun a w hS => s_panic hS rfl <| then_pan ?_
  exact ⟨hS.ev.defs, hpan _ _ (wp_pan hM) hS.st.frame⟩
 ·refine wp_skip ?_
  refine then_n <| wp_seq <| wp_seq <| wp_region_list <| st1 hS (mv rfl) rfl fun a w hS => st1 hS (mv rfl) rfl fun a w hS => st1 hS (capN rfl Try.runUnderlying68) rfl fun a w hS => st1 hS (mv rfl) rfl fun a w hS => st1 hS (lenV rfl Try.runUnderlying68) rfl fun a w hS => st1 hS (bin rfl rfl rfl) rfl fun a w hS => st1 hS (bin rfl rfl rfl) rfl fun a w hS => st1x (v := Value.int .i64) (x0 := (w64 (n_2587 - (w64 ((0 : Int) - (0 : Int)))))) hS (asg rfl) rfl fun n_2593 a w hz hS => ?_
  have hM := lt_to hz hM; clear hz
  refine wpList_nil <| then_n <| wp_seq <| wp_region_list <| st1 hS (mv rfl) rfl fun a w hS => st1 hS (bin rfl rfl rfl) rfl fun a w hS => wpList_nil <| then_n <| s_cond hS rfl hM (fun hb2594 hM => ?_) (fun hb2594 hM => ?_)
  ·refine wp_region_list ?_
   refine st1 hS (mv rfl) rfl fun a w hS => st1 hS (mv rfl) rfl fun a w hS => st1 hS (capN rfl Try.runUnderlying68) rfl fun a w hS => st1 hS (slN rfl Try.runUnderlying68 Try.sizeOf70 (hiS rfl)) rfl fun a w hS => st1 hS (mv rfl) rfl fun a w hS => ?_
   obtain ⟨hk2595, hM⟩ := wp_chk hM
   refine apG (g := (Row.v (sz := 2))) hS rfl rfl Try.runUnderlying68 Try.runUnderlying3 X.el70 rfl rfl hk2595 rfl fun w A2596 c2597 f2598 hV2599 hc2600 hA2601 hS => ?_
   have hr2602 : RelL (R_huff_packet p2590) ([] : List T_huff_packet) ([] : List (Row 2)) := RelL.nil
   refine st1 hS (mv rfl) rfl fun a w hS => st1 hS (lenV rfl Try.runUnderlying68) rfl fun a w hS => st1 hS (slG rfl Try.runUnderlying68 Try.sizeOf70 (fun _ => hiS rfl) hc2600 hA2601) rfl fun a w hS => st1 hS (asg rfl) rfl fun a w hS => wpList_nil <| then_n <| wp_seq <| wp_region_list <| st1 hS (mv rfl) rfl fun a w hS => st1 hS (asg rfl) rfl fun a w hS => wpList_nil <| then_n <| wp_ret ?_
   exact s_ret (rs := [4]) hS rfl rfl (hret p2590 A2596 c2597 f2598 w (wp_ok hM) hV2599 hr2602 (hS.st.pick [2, 0] (by kernel_rfl)))
  ·refine wp_skip ?_
   refine then_n <| wp_seq <| wp_region_list <| st1 hS (mv rfl) rfl fun a w hS => st1 hS (asg rfl) rfl fun a w hS => ?_
   obtain ⟨f2603, hV2604, hS⟩ := hS.nilV 70 (Row.v (sz := 2)) 2
   have hr2605 : RelL (R_huff_packet p2590) ([] : List T_huff_packet) ([] : List (Row 2)) := RelL.nil
   refine wpList_nil <| then_n <| wp_ret ?_
   exact s_ret (rs := [4]) hS rfl rfl (hret p2590 none (0) f2603 w (wp_ok hM) hV2604 hr2605 (hS.st.pick [2, 0] (by kernel_rfl)))

theorem slices_Concat___huff_packet_huff_packet__c {H : Imm} {F : List Frag} {w : World} {R : Ending → World → Prop} {kr : (List T_huff_packet) → Prop} {kp : Value → Prop} (hG : Gl H) (K : Nat) (slices2558 : List (List T_huff_packet)) (p2559 : Frag) (A2560 : Option Addr) (c2561 : Nat) (rw2562 : List (Row 1)) (hr2563 : RelL (R_s_huff_packet p2559) slices2558 rw2562) (hp2564 : Pl p2559 (Row.v (sz := 1)) A2560 rw2562) (hc2565 : rw2562.length ≤ c2561)
    (hS : St w H [p2559] F) (hm : (slices_Concat___huff_packet_huff_packet_.m K slices2558).wp kr kp)
    (hret : ∀ (p2675 : Frag) (A2677 : Option Addr) (c2678 : Nat) (rw2679 : List (Row 2)) (x2680 : (List T_huff_packet)) (f2681 : Frag) (w : World), kr x2680 → (∀ q ∈ p2559, q ∈ p2675) → (Vec 70 (Row.v (sz := 2)) 2 A2677 rw2679 c2678 f2681) → (RelL (R_huff_packet p2675) x2680 rw2679) → St w H [p2675, f2681] F → R (.returned (.slice A2677 rw2679.length c2678)) w)
    (hpan : ∀ v w, kp v → St w H [] F → R (.panicked [⟨v, false, false⟩]) w) :
    Calls Try.prog 40 ⟨[.slice A2560 rw2562.length c2561]⟩ w R := by
 refine enter Try.func40 rfl Try.ntmps40 rfl hS fun a w hS => ?_
 have hM := hm; clear hm
 rw [slices_Concat___huff_packet_huff_packet_.m] at hM
 have hs2566 : ∀ q ∈ p2559, q ∈ p2559 := fun _ h => h
 refine wp_seq <| wp_region_list <| st1 hS (asg rfl) rfl fun a w hS => ?_
 obtain ⟨f2567, hV2568, hS⟩ := hS.nilV 70 (Row.v (sz := 2)) 2
 have hr2569 : RelL (R_huff_packet p2559) ([] : List T_huff_packet) ([] : List (Row 2)) := RelL.nil
 refine wpList_nil <| then_n <| wp_seq <| wp_region_list <| st1 hS (asg rfl) rfl fun a w hS => wpList_nil <| then_n <| seq_joinJ (fun a w => ∃ (size2585 : Int), Ss 36 [] [(0, .slice A2560 rw2562.length c2561), (3, .int .i64 size2585)] H [p2559] F a w ∧ (slices_Concat___huff_packet_huff_packet_.j2 K slices2558 size2585).wp kr kp) (fun J2586 hJ2586 => ?_) ?_
 ·refine wp_seq ?_
  refine wp_region_list <| st1 hS (mv rfl) rfl fun a w hS => st1 hS (ovE (v' := .int .i64 (slices2558.length : Int)) (lenV rfl Try.runUnderlying84) (by rw [hr2563.len])) rfl fun a w hS => st1 hS (mv rfl) rfl fun a w hS => wpList_nil <| then_n <| wp_block <| s_loopJ (fun k2572 a w => ∃ (size2570 : Int) (v2571 : Int), Ss 36 [] [(0, .slice A2560 rw2562.length c2561), (3, .int .i64 size2570), (9, .slice A2560 rw2562.length c2561), (10, .int .i64 (slices2558.length : Int)), (11, .int .i64 v2571)] H [p2559] F a w ∧ (slices_Concat___huff_packet_huff_packet_.l1 K slices2558 k2572 size2570 v2571).wp kr kp) K ?_ ?_ ?_
  ·exact ⟨(0 : Int), (0 : Int), hS.to [1] (by kernel_rfl) ⟨rfl, rfl, rfl, rfl, rfl, trivial⟩, hM⟩
  ·intro a w hI; obtain ⟨_, _, _, hM⟩ := hI; exact wp_fail hM
  ·intro k2572 a w hI J2584 hJ2584
   obtain ⟨size2570, v2571, hS, hM⟩ := hI
   rw [slices_Concat___huff_packet_huff_packet_.l1] at hM
   refine wp_seq <| wp_region_list <| st1 hS (bin rfl rfl rfl) rfl fun a w hS => wpList_nil <| then_n <| wp_seq <| s_cond hS rfl hM (fun hb2573 hM => ?_) (fun hb2573 hM => ?_)
   ·refine wp_skip ?_
    refine then_n <| wp_seq <| wp_block <| wp_seq <| wp_region_list ?_
    obtain ⟨hk2574, hM⟩ := wp_chk hM
    refine st1 hS (ixV rfl rfl Try.runUnderlying84 Try.sizeOf68 (hp2564.rd (i := 0) rfl) Row.len rfl (hr2563.inb hk2574)) rfl fun a w hS => ?_
    obtain ⟨A2575, c2576, rw2579, hw2581, hr2580, hp2577, hc2578⟩ := hr2563.get hk2574
    refine st1 hS (ldV0 rfl (hp2564.rd (i := 0) rfl) Row.len (hr2563.inb hk2574) (by rw [show Row.v (rd rw2562 v2571) = _ from hw2581]; rfl) Try.isAgg68) rfl fun a w hS => st1 hS (asg rfl) rfl fun a w hS => wpList_nil <| then_n <| wp_seq <| wp_region_list <| st1 hS (mv rfl) rfl fun a w hS => st1 hS (mv rfl) rfl fun a w hS => st1 hS (ovE (v' := .int .i64 ((rd slices2558 v2571).length : Int)) (lenV rfl Try.runUnderlying68) (by rw [hr2580.len])) rfl fun a w hS => st1 hS (bin rfl rfl rfl) rfl fun a w hS => st1x (v := Value.int .i64) (x0 := (w64 (size2570 + ((rd slices2558 v2571).length : Int)))) hS (asg rfl) rfl fun size2582 a w hz hS => ?_
    have hM := lt_to hz hM; clear hz
    refine wpList_nil <| then_n <| wp_seq <| wp_region_list <| st1 hS (mv rfl) rfl fun a w hS => st1 hS (bin rfl rfl rfl) rfl fun a w hS => wpList_nil <| then_n <| s_cond hS rfl hM (fun hb2583 hM => ?_) (fun hb2583 hM => ?_)
    ·refine wp_region_list ?_
     refine st1 hS (mkI rfl Try.runUnderlying9 rfl) rfl fun a w hS => s_panic hS rfl <| blk_pan (then_pan (then_pan (blk_pan (then_pan ?_))))
     exact ⟨hS.ev.defs, hpan _ _ (wp_pan hM) hS.st.frame⟩
    ·refine wp_skip ?_
     refine blk_n (then_n ?_)
     refine wp_region_list <| st1 hS (bin rfl rfl rfl) rfl fun a w hS => st1 hS (mv rfl) rfl fun a w hS => wpList_nil <| then_n ?_
     exact hJ2584 _ _ ⟨size2582, (w64 (v2571 + (1 : Int))), hS.to [0] (by kernel_rfl) ⟨rfl, rfl, rfl, rfl, rfl, trivial⟩, hM⟩
   ·refine wp_exit ?_
    refine then_ex (then_ex (blk_same (then_n ?_)))
    exact hJ2586 _ _ ⟨size2570, hS.to [0] (by kernel_rfl) ⟨rfl, rfl, trivial⟩, hM⟩
 ·intro a w hI
  obtain ⟨size2585, hS, hM⟩ := hI
  rw [slices_Concat___huff_packet_huff_packet_.j2] at hM
  refine wp_seq <| wp_region_list <| st1 hS (mv rfl) rfl fun a w hS => s_call hS rfl Try.call45 (slices_Grow___huff_packet_huff_packet__8ef0_c hG K size2585 (hS.st.part 0 [0] (by kernel_rfl)) (wp_bind hM) (fun p2612 A2613 c2614 f2615 w hM h2616 h2617 hst => s_back hS.ev hst.appF rfl fun hS => ?_) (fun v w hk hst => s_pan (then_pan (⟨hS.ev.defs, hpan _ _ hk hst.appF.frame⟩))))
  replace hS : Ss _ _ _ H [p2612, f2615, p2559] F _ _ := hS
  replace hS := hS.front [0, 2, 1] (by kernel_rfl)
  obtain ⟨p2618, hs2619, hs2620, hS⟩ := hS.poolF
  replace h2617 := RelL.mono (fun _ _ h => R_huff_packet.mono hs2619 h) h2617
  replace hp2564 := hp2564.mono hs2620
  replace hr2563 := RelL.mono (fun _ _ h => R_s_huff_packet.mono hs2620 h) hr2563
  replace hs2566 := fun q h => hs2620 q (hs2566 q h)
  refine st1 hS (asg rfl) rfl fun a w hS => wpList_nil <| then_n <| wp_seq <| wp_seq <| wp_region_list <| st1 hS (mv rfl) rfl fun a w hS => st1 hS (ovE (v' := .int .i64 (slices2558.length : Int)) (lenV rfl Try.runUnderlying84) (by rw [hr2563.len])) rfl fun a w hS => st1 hS (mv rfl) rfl fun a w hS => wpList_nil <| then_n <| wp_block <| s_loopJ (fun k2656 a w => ∃ (A2648 : Option Addr) (c2649 : Nat) (rw2650 : List (Row 2)) (newslice2651 : (List T_huff_packet)) (f2652 : Frag) (v2655 : Int), Ss 36 [] [(6, .slice A2648 rw2650.length c2649), (25, .slice A2560 rw2562.length c2561), (26, .int .i64 (slices2558.length : Int)), (27, .int .i64 v2655)] H [p2618, f2652] F a w ∧ (Vec 70 (Row.v (sz := 2)) 2 A2648 rw2650 c2649 f2652) ∧ (RelL (R_huff_packet p2618) newslice2651 rw2650) ∧ (slices_Concat___huff_packet_huff_packet_.l3 K slices2558 k2656 newslice2651 v2655).wp kr kp) K ?_ ?_ ?_
  ·exact ⟨A2613, c2614, ([] : List (Row 2)), ([] : List T_huff_packet), f2615, (0 : Int), hS.to [0, 1] (by kernel_rfl) ⟨rfl, rfl, rfl, rfl, trivial⟩, h2616, h2617, hM⟩
  ·intro a w hI; obtain ⟨_, _, _, _, _, _, _, _, _, hM⟩ := hI; exact wp_fail hM
  ·intro k2656 a w hI J2674 hJ2674
   obtain ⟨A2648, c2649, rw2650, newslice2651, f2652, v2655, hS, hV2653, hr2654, hM⟩ := hI
   rw [slices_Concat___huff_packet_huff_packet_.l3] at hM
   refine wp_seq <| wp_region_list <| st1 hS (bin rfl rfl rfl) rfl fun a w hS => wpList_nil <| then_n <| wp_seq <| s_cond hS rfl hM (fun hb2657 hM => ?_) (fun hb2657 hM => ?_)
   ·refine wp_skip ?_
    refine then_n <| wp_seq <| wp_block <| wp_seq <| wp_region_list ?_
    obtain ⟨hk2658, hM⟩ := wp_chk hM
    refine st1 hS (ixV rfl rfl Try.runUnderlying84 Try.sizeOf68 (hp2564.rd (i := 0) rfl) Row.len rfl (hr2563.inb hk2658)) rfl fun a w hS => ?_
    obtain ⟨A2659, c2660, rw2663, hw2665, hr2664, hp2661, hc2662⟩ := hr2563.get hk2658
    refine st1 hS (ldV0 rfl (hp2564.rd (i := 0) rfl) Row.len (hr2563.inb hk2658) (by rw [show Row.v (rd rw2562 v2655) = _ from hw2665]; rfl) Try.isAgg68) rfl fun a w hS => st1 hS (asg rfl) rfl fun a w hS => wpList_nil <| then_n <| wp_region_list <| st1 hS (mv rfl) rfl fun a w hS => st1 hS (mv rfl) rfl fun a w hS => ?_
    obtain ⟨hk2666, hM⟩ := wp_chk hM
    refine apV (ys := rw2663) 1 hS rfl rfl hV2653 rfl (hp2661.rd (i := 0) rfl) Try.runUnderlying68 Try.runUnderlying68 X.el70 Row.len rfl one_row (hr2654.room hr2664 hk2666) rfl fun rw2671 w A2667 c2668 f2669 hz hV2670 hS => ?_
    obtain ⟨zs2672, hzm⟩ := nameE (newslice2651 ++ (rd slices2558 v2655))
    replace hM := lt_to hzm hM
    have hr2673 := RelL.append hr2654 hr2664
    rw [← hz, ← hzm] at hr2673; clear hz hzm
    refine st1 hS (asg rfl) rfl fun a w hS => wpList_nil <| blk_n (then_n ?_)
    refine wp_region_list <| st1 hS (bin rfl rfl rfl) rfl fun a w hS => st1 hS (mv rfl) rfl fun a w hS => wpList_nil <| then_n ?_
    exact hJ2674 _ _ ⟨A2667, c2668, rw2671, zs2672, f2669, (w64 (v2655 + (1 : Int))), hS.to [0, 1] (by kernel_rfl) ⟨rfl, rfl, rfl, rfl, trivial⟩, hV2670, hr2673, hM⟩
   ·refine wp_exit ?_
    refine then_ex (then_ex (blk_same (then_n ?_)))
    refine wp_seq <| wp_region_list <| st1 hS (mv rfl) rfl fun a w hS => st1 hS (asg rfl) rfl fun a w hS => wpList_nil <| then_n <| wp_ret ?_
    exact s_ret (rs := [2]) hS rfl rfl (hret p2618 A2648 c2649 rw2650 newslice2651 f2652 w (wp_ok hM) hs2566 hV2653 hr2654 (hS.st.pick [0, 1] (by kernel_rfl)))

theorem huff_merged_1_c {H : Imm} {F : List Frag} {w : World} {R : Ending → World → Prop} {kr : Int → Prop} {kp : Value → Prop} (hG : Gl H) (K : Nat) (x2751 : T_huff_packet) (y2756 : T_huff_packet) (A2752 : Option Addr) (c2753 : Nat) (A2757 : Option Addr) (c2758 : Nat) (hr2754 : Rdl H [] F (ci .i64) A2752 x2751.symbols_) (hc2755 : x2751.symbols_.length ≤ c2753) (hr2759 : Rdl H [] F (ci .i64) A2757 y2756.symbols_) (hc2760 : y2756.symbols_.length ≤ c2758)
    (hS : St w H [] F) (hm : (huff_merged_1.m K x2751 y2756).wp kr kp)
    (hret : ∀ (x2768 : Int) (w : World), kr x2768 → St w H [] F → R (.returned (.int .i64 x2768)) w) :
    Calls Try.prog 41 ⟨[.agg ⟨[.int .i64 x2751.often_, .slice A2752 x2751.symbols_.length c2753]⟩, .agg ⟨[.int .i64 y2756.often_, .slice A2757 y2756.symbols_.length c2758]⟩]⟩ w R := by
 refine enter Try.func41 rfl Try.ntmps41 rfl hS fun a w hS => ?_
 have hM := hm; clear hm
 rw [huff_merged_1.m] at hM
 refine wp_seq <| wp_region_list <| bx ([.int .i64 x2751.often_, .slice A2752 x2751.symbols_.length c2753]) hS rfl rfl rfl fun w b2761 f2762 hB2763 hS => bx ([.int .i64 y2756.often_, .slice A2757 y2756.symbols_.length c2758]) hS rfl rfl rfl fun w b2764 f2765 hB2766 hS => st1 hS (asg rfl) rfl fun a w hS => wpList_nil <| then_n <| wp_seq <| wp_region_list <| st1 hS (fad rfl Try.runUnderlying70 rfl Try.sizeOf3 rfl) rfl fun a w hS => st1 hS (ldb 1 rfl hB2763 rfl rfl Try.isAgg3) rfl fun a w hS => st1 hS (fad rfl Try.runUnderlying70 rfl Try.sizeOf3 rfl) rfl fun a w hS => st1 hS (ldb 0 rfl hB2766 rfl rfl Try.isAgg3) rfl fun a w hS => s_call hS rfl Try.call34 (cmp_Compare_int__c hG K x2751.often_ y2756.often_ (hS.st.part 0 [0, 1] (by kernel_rfl)) (wp_bind hM) (fun x2767 w hM  hst => s_back hS.ev hst.appF rfl fun hS => ?_))
 replace hS : Ss _ _ _ H [f2765, f2762] F _ _ := hS
 refine st1 hS (asg rfl) rfl fun a w hS => wpList_nil <| then_n <| wp_ret ?_
 exact s_ret (rs := [4]) hS rfl rfl (hret x2767 w (wp_ok hM) (hS.st.pick [] (by kernel_rfl)))

theorem slices_insertionSortCmpFunc_huff_packet__b6e1_dee5_c {H : Imm} {F : List Frag} {w : World} {R : Ending → World → Prop} {kr : (List T_huff_packet) → Prop} {kp : Value → Prop} (hG : Gl H) (K : Nat) (data2718 : List T_huff_packet) (a_2726 : Int) (b_2727 : Int) (p2719 : Frag) (A2720 : Option Addr) (c2721 : Nat) (rw2722 : List (Row 2)) (f2724 : Frag) (hr2723 : RelL (R_huff_packet p2719) data2718 rw2722) (hV2725 : Vec 70 (Row.v (sz := 2)) 2 A2720 rw2722 c2721 f2724)
    (hS : St w H [p2719, f2724] F) (hm : (slices_insertionSortCmpFunc_huff_packet__b6e1_dee5.m K data2718 a_2726 b_2727).wp kr kp)
    (hret : ∀ (rw3041 : List (Row 2)) (data3042 : (List T_huff_packet)) (f3043 : Frag) (w : World), kr data3042 → (Vec 70 (Row.v (sz := 2)) 2 A2720 rw3041 c2721 f3043) → (RelL (R_huff_packet p2719) data3042 rw3041) → (rw3041.length = rw2722.length) → St w H [p2719, f3043] F → R (.returned (.tuple ⟨[]⟩)) w) :
    Calls Try.prog 43 ⟨[.slice A2720 rw2722.length c2721, .int .i64 a_2726, .int .i64 b_2727, fnv 41 [] []]⟩ w R := by
 refine enter Try.func43 rfl Try.ntmps43 rfl hS fun a w hS => ?_
 have hM := hm; clear hm
 rw [slices_insertionSortCmpFunc_huff_packet__b6e1_dee5.m] at hM
 have hs2728 : ∀ q ∈ p2719, q ∈ p2719 := fun _ h => h
 have hz2729 : rw2722.length = rw2722.length := rfl
 refine wp_seq <| wp_region_list <| st1 hS (mv rfl) rfl fun a w hS => st1 hS (bin rfl rfl rfl) rfl fun a w hS => st1x (v := Value.int .i64) (x0 := (w64 (a_2726 + (1 : Int)))) hS (asg rfl) rfl fun i2730 a w hz hS => ?_
 have hM := lt_to hz hM; clear hz
 refine wpList_nil <| then_n <| wp_block <| s_loopJ (fun k2902 a w => ∃ (rw2895 : List (Row 2)) (data2896 : (List T_huff_packet)) (f2897 : Frag) (i2901 : Int), Ss 53 [] [(0, .slice A2720 rw2895.length c2721), (1, .int .i64 a_2726), (2, .int .i64 b_2727), (3, fnv 41 [] []), (8, .int .i64 i2901)] H [p2719, f2897] F a w ∧ (Vec 70 (Row.v (sz := 2)) 2 A2720 rw2895 c2721 f2897) ∧ (RelL (R_huff_packet p2719) data2896 rw2895) ∧ (rw2895.length = rw2722.length) ∧ (slices_insertionSortCmpFunc_huff_packet__b6e1_dee5.l1 K a_2726 b_2727 k2902 data2896 i2901).wp kr kp) K ?_ ?_ ?_
 ·exact ⟨rw2722, data2718, f2724, i2730, hS.to [0, 1] (by kernel_rfl) ⟨rfl, rfl, rfl, rfl, rfl, trivial⟩, hV2725, hr2723, hz2729, hM⟩
 ·intro a w hI; obtain ⟨_, _, _, _, _, _, _, _, hM⟩ := hI; exact wp_fail hM
 ·intro k2902 a w hI J3040 hJ3040
  obtain ⟨rw2895, data2896, f2897, i2901, hS, hV2898, hr2899, hz2900, hM⟩ := hI
  rw [slices_insertionSortCmpFunc_huff_packet__b6e1_dee5.l1] at hM
  refine wp_seq <| wp_seq <| wp_region_list <| st1 hS (mv rfl) rfl fun a w hS => st1 hS (mv rfl) rfl fun a w hS => st1 hS (bin rfl rfl rfl) rfl fun a w hS => wpList_nil <| then_n <| s_cond hS rfl hM (fun hb2903 hM => ?_) (fun hb2903 hM => ?_)
  ·refine wp_skip ?_
   refine then_n <| wp_seq <| wp_block <| wp_seq <| wp_region_list <| st1 hS (mv rfl) rfl fun a w hS => st1 hS (asg rfl) rfl fun a w hS => wpList_nil <| then_n <| wp_block <| s_loopJ (fun k2979 a w => ∃ (rw2972 : List (Row 2)) (data2973 : (List T_huff_packet)) (f2974 : Frag) (j2978 : Int), Ss 53 [] [(0, .slice A2720 rw2972.length c2721), (1, .int .i64 a_2726), (2, .int .i64 b_2727), (3, fnv 41 [] []), (8, .int .i64 i2901), (9, .int .i64 j2978)] H [p2719, f2974] F a w ∧ (Vec 70 (Row.v (sz := 2)) 2 A2720 rw2972 c2721 f2974) ∧ (RelL (R_huff_packet p2719) data2973 rw2972) ∧ (rw2972.length = rw2722.length) ∧ (slices_insertionSortCmpFunc_huff_packet__b6e1_dee5.l2 K (slices_insertionSortCmpFunc_huff_packet__b6e1_dee5.l1 K a_2726 b_2727 k2902) a_2726 i2901 k2979 data2973 j2978).wp kr kp) K ?_ ?_ ?_
   ·exact ⟨rw2895, data2896, f2897, i2901, hS.to [0, 1] (by kernel_rfl) ⟨rfl, rfl, rfl, rfl, rfl, rfl, trivial⟩, hV2898, hr2899, hz2900, hM⟩
   ·intro a w hI; obtain ⟨_, _, _, _, _, _, _, _, hM⟩ := hI; exact wp_fail hM
   ·intro k2979 a w hI J3039 hJ3039
    obtain ⟨rw2972, data2973, f2974, j2978, hS, hV2975, hr2976, hz2977, hM⟩ := hI
    rw [slices_insertionSortCmpFunc_huff_packet__b6e1_dee5.l2] at hM
    refine wp_seq <| seq_joinJ (fun a w => ∃ (v2996 : Bool), Ss 53 [] [(0, .slice A2720 rw2972.length c2721), (1, .int .i64 a_2726), (2, .int .i64 b_2727), (3, fnv 41 [] []), (8, .int .i64 i2901), (9, .int .i64 j2978), (34, .bool v2996)] H [p2719, f2974] F a w ∧ (slices_insertionSortCmpFunc_huff_packet__b6e1_dee5.j3 K (slices_insertionSortCmpFunc_huff_packet__b6e1_dee5.l1 K a_2726 b_2727 k2902) (slices_insertionSortCmpFunc_huff_packet__b6e1_dee5.l2 K (slices_insertionSortCmpFunc_huff_packet__b6e1_dee5.l1 K a_2726 b_2727 k2902) a_2726 i2901 k2979) i2901 data2973 j2978 v2996).wp kr kp) (fun J2997 hJ2997 => ?_) ?_
    ·refine ifB (b := (decide (j2978 > a_2726))) hM (fun hb2980 hM => ?_) (fun hb2980 hM => ?_)
     ·obtain ⟨hk2982, hM⟩ := wp_chk hM
      obtain ⟨A2983, c2984, hw2987, hp2985, hc2986⟩ := hr2976.get hk2982
      obtain ⟨hk2989, hM⟩ := wp_chk hM
      obtain ⟨A2990, c2991, hw2994, hp2992, hc2993⟩ := hr2976.get hk2989
      refine draw_begin (vals := [some (.int .i64 j2978), some (.int .i64 a_2726), some (.bool true), some (.bool true), some (fnv 41 [] []), some (.slice A2720 rw2972.length c2721), some (.int .i64 j2978), some (slp A2720 (Int.toNat j2978 * 2)), some (.agg ⟨[.int .i64 ((rd data2973 j2978).often_), .slice A2983 ((rd data2973 j2978).symbols_).length c2984]⟩), some (.slice A2720 rw2972.length c2721), some (.int .i64 j2978), some (.int .i64 (w64 (j2978 - (1 : Int)))), some (slp A2720 (Int.toNat (w64 (j2978 - (1 : Int))) * 2)), some (.agg ⟨[.int .i64 ((rd data2973 (w64 (j2978 - (1 : Int)))).often_), .slice A2990 ((rd data2973 (w64 (j2978 - (1 : Int)))).symbols_).length c2991]⟩), none, none, none]) hS mixed rfl ?_
      intro l w ho hcl hA hst
      refine phq hA hst ho hcl navail nmust 14 [0, 1, 2, 3, 4, 5, 6, 7, 8, 9, 10, 11, 12, 13] rfl rfl rfl rfl rfl (by exact ⟨nR rfl rfl rfl rfl rfl (by exact ovE (mv rfl) rfl), nR rfl rfl rfl rfl rfl (by exact ovE (mv rfl) rfl), nR rfl rfl rfl rfl rfl (by exact ovE (bin rfl rfl rfl) (congrArg Value.bool hb2980)), nR rfl rfl rfl rfl rfl (by exact ovE (mv rfl) rfl), nW rfl rfl rfl rfl rfl rfl rfl rfl (by exact ovE (mv rfl) rfl), nW rfl rfl rfl rfl rfl rfl rfl rfl (by exact ovE (mv rfl) rfl), nW rfl rfl rfl rfl rfl rfl rfl rfl (by exact ovE (mv rfl) rfl), nW rfl rfl rfl rfl rfl rfl rfl rfl (by exact ovE (ixV rfl rfl Try.runUnderlying68 Try.sizeOf70 (hV2975.rd (i := 1) rfl) Row.len rfl (hr2976.inb hk2982)) rfl), nW rfl rfl rfl rfl rfl rfl rfl rfl (by exact ovE (ovE (ldVA rfl (hV2975.rd (i := 1) rfl) Row.len (hr2976.inb hk2982) Try.isAgg70 Try.sizeOf70 rfl) (congrArg (fun l => Value.agg ⟨l⟩) hw2987)) rfl), nW rfl rfl rfl rfl rfl rfl rfl rfl (by exact ovE (mv rfl) rfl), nW rfl rfl rfl rfl rfl rfl rfl rfl (by exact ovE (mv rfl) rfl), nW rfl rfl rfl rfl rfl rfl rfl rfl (by exact ovE (bin rfl rfl rfl) rfl), nW rfl rfl rfl rfl rfl rfl rfl rfl (by exact ovE (ixV rfl rfl Try.runUnderlying68 Try.sizeOf70 (hV2975.rd (i := 1) rfl) Row.len rfl (hr2976.inb hk2989)) rfl), nW rfl rfl rfl rfl rfl rfl rfl rfl (by exact ovE (ovE (ldVA rfl (hV2975.rd (i := 1) rfl) Row.len (hr2976.inb hk2989) Try.isAgg70 Try.sizeOf70 rfl) (congrArg (fun l => Value.agg ⟨l⟩) hw2994)) rfl), trivial⟩) fun D l a w ho hcl hav hpre hm hE hk hA hst => ?_
      have hS := (Ss.mk hE hst).env2 (e' := [(21, .bool true), (22, fnv 41 [] []), (26, .agg ⟨[.int .i64 ((rd data2973 j2978).often_), .slice A2983 ((rd data2973 j2978).symbols_).length c2984]⟩), (31, .agg ⟨[.int .i64 ((rd data2973 (w64 (j2978 - (1 : Int)))).often_), .slice A2990 ((rd data2973 (w64 (j2978 - (1 : Int)))).symbols_).length c2991]⟩)]) ⟨rfl, rfl, rfl, rfl, trivial⟩
      refine op_of_nth rfl <| unguard hS rfl rfl rfl rfl <| s_callV hS rfl rfl Try.call41 (huff_merged_1_c hG K (T_huff_packet.mk ((rd data2973 j2978).often_) ((rd data2973 j2978).symbols_)) (T_huff_packet.mk ((rd data2973 (w64 (j2978 - (1 : Int)))).often_) ((rd data2973 (w64 (j2978 - (1 : Int)))).symbols_)) A2983 c2984 A2990 c2991 (hp2985.rdF (i := 0) rfl) hc2986 (hp2992.rdF (i := 0) rfl) hc2993 (hS.st.part 0 [0, 1] (by kernel_rfl)) (wp_bind hM) (fun x2995 w hM  hst => s_back hS.ev hst.appF rfl fun hS => ?_))
      replace hS : Ss _ _ _ H [p2719, f2974] F _ _ := hS
      refine wpList_nil (then_n ?_)
      replace hst := hS.st
      obtain ⟨hcl, hmust, hav2, hA⟩ := dn (vals' := [some (.int .i64 j2978), some (.int .i64 a_2726), some (.bool true), some (.bool true), some (fnv 41 [] []), some (.slice A2720 rw2972.length c2721), some (.int .i64 j2978), some (slp A2720 (Int.toNat j2978 * 2)), some (.agg ⟨[.int .i64 ((rd data2973 j2978).often_), .slice A2983 ((rd data2973 j2978).symbols_).length c2984]⟩), some (.slice A2720 rw2972.length c2721), some (.int .i64 j2978), some (.int .i64 (w64 (j2978 - (1 : Int)))), some (slp A2720 (Int.toNat (w64 (j2978 - (1 : Int))) * 2)), some (.agg ⟨[.int .i64 ((rd data2973 (w64 (j2978 - (1 : Int)))).often_), .slice A2990 ((rd data2973 (w64 (j2978 - (1 : Int)))).symbols_).length c2991]⟩), some (.int .i64 x2995), some (.bool (decide (x2995 < (0 : Int)))), some (.bool (decide (x2995 < (0 : Int))))]) 14 [(3, 14), (4, 14), (8, 14), (13, 14), (2, 3), (7, 8), (12, 13), (0, 2), (1, 2), (5, 7), (6, 7), (9, 12), (11, 12), (10, 11)] hA hcl hav hm hpre hk rfl rfl rfl rfl rfl rfl rfl
      clear hm hav
      refine phqE hA hst ho hcl hmust [15, 16] rfl rfl rfl (by exact ⟨nW rfl rfl rfl rfl rfl rfl rfl rfl (by exact ovE (bin rfl rfl rfl) rfl), nR rfl rfl rfl rfl rfl (by exact ovE (pk rfl rfl rfl) rfl), trivial⟩) fun a w hS => ?_
      replace hS := hS.env2 (e' := [(0, .slice A2720 rw2972.length c2721), (1, .int .i64 a_2726), (2, .int .i64 b_2727), (3, fnv 41 [] []), (8, .int .i64 i2901), (9, .int .i64 j2978), (34, .bool (decide (x2995 < (0 : Int))))]) ⟨rfl, rfl, rfl, rfl, rfl, rfl, rfl, trivial⟩
      refine then_n ?_
      exact hJ2997 _ _ ⟨(decide (x2995 < (0 : Int))), hS.to [0, 1] (by kernel_rfl) ⟨rfl, rfl, rfl, rfl, rfl, rfl, rfl, trivial⟩, hM⟩
     ·refine draw_begin (vals := [some (.int .i64 j2978), some (.int .i64 a_2726), some (.bool false), some (.bool false), some (undef), some (undef), some (undef), some (undef), some (undef), some (undef), some (undef), some (undef), some (undef), some (undef), some (undef), some (undef), some (.bool false)]) hS mixed rfl ?_
      intro l w ho hcl hA hst
      refine phqE hA hst ho hcl nmust [0, 1, 2, 3, 4, 5, 6, 7, 8, 9, 10, 11, 12, 13, 14, 15, 16] rfl rfl rfl (by exact ⟨nR rfl rfl rfl rfl rfl (by exact ovE (mv rfl) rfl), nR rfl rfl rfl rfl rfl (by exact ovE (mv rfl) rfl), nR rfl rfl rfl rfl rfl (by exact ovE (bin rfl rfl rfl) (congrArg Value.bool hb2980)), nR rfl rfl rfl rfl rfl (by exact ovE (mv rfl) rfl), nS rfl rfl rfl rfl rfl rfl rfl rfl rfl, nS rfl rfl rfl rfl rfl rfl rfl rfl rfl, nS rfl rfl rfl rfl rfl rfl rfl rfl rfl, nS rfl rfl rfl rfl rfl rfl rfl rfl rfl, nS rfl rfl rfl rfl rfl rfl rfl rfl rfl, nS rfl rfl rfl rfl rfl rfl rfl rfl rfl, nS rfl rfl rfl rfl rfl rfl rfl rfl rfl, nS rfl rfl rfl rfl rfl rfl rfl rfl rfl, nS rfl rfl rfl rfl rfl rfl rfl rfl rfl, nS rfl rfl rfl rfl rfl rfl rfl rfl rfl, nS rfl rfl rfl rfl rfl rfl rfl rfl rfl, nS rfl rfl rfl rfl rfl rfl rfl rfl rfl, nR rfl rfl rfl rfl rfl (by exact ovE (pk rfl rfl rfl) rfl), trivial⟩) fun a w hS => ?_
      replace hS := hS.env2 (e' := [(0, .slice A2720 rw2972.length c2721), (1, .int .i64 a_2726), (2, .int .i64 b_2727), (3, fnv 41 [] []), (8, .int .i64 i2901), (9, .int .i64 j2978), (34, .bool false)]) ⟨rfl, rfl, rfl, rfl, rfl, rfl, rfl, trivial⟩
      refine then_n ?_
      exact hJ2997 _ _ ⟨false, hS.to [0, 1] (by kernel_rfl) ⟨rfl, rfl, rfl, rfl, rfl, rfl, rfl, trivial⟩, hM⟩
    ·intro a w hI
     obtain ⟨v2996, hS, hM⟩ := hI
     rw [slices_insertionSortCmpFunc_huff_packet__b6e1_dee5.j3] at hM
     refine s_cond hS rfl hM (fun hb2998 hM => ?_) (fun hb2998 hM => ?_)
     ·refine wp_skip ?_
      refine then_n <| wp_seq <| wp_block ?_
      obtain ⟨hk3001, hM⟩ := wp_chk hM
      obtain ⟨A3002, c3003, hw3006, hp3004, hc3005⟩ := hr2976.get hk3001
      obtain ⟨hk3008, hM⟩ := wp_chk hM
      obtain ⟨A3009, c3010, hw3013, hp3011, hc3012⟩ := hr2976.get hk3008
      refine draw_begin (vals := [some (.slice A2720 rw2972.length c2721), some (.int .i64 j2978), some (.slice A2720 rw2972.length c2721), some (.int .i64 j2978), some (.int .i64 (w64 (j2978 - (1 : Int)))), some (.slice A2720 rw2972.length c2721), some (.int .i64 j2978), some (.int .i64 (w64 (j2978 - (1 : Int)))), some (slp A2720 (Int.toNat (w64 (j2978 - (1 : Int))) * 2)), some (.agg ⟨[.int .i64 ((rd data2973 (w64 (j2978 - (1 : Int)))).often_), .slice A3002 ((rd data2973 (w64 (j2978 - (1 : Int)))).symbols_).length c3003]⟩), some (.slice A2720 rw2972.length c2721), some (.int .i64 j2978), some (slp A2720 (Int.toNat j2978 * 2)), some (.agg ⟨[.int .i64 ((rd data2973 j2978).often_), .slice A3009 ((rd data2973 j2978).symbols_).length c3010]⟩), some (slp A2720 (Int.toNat j2978 * 2)), none, none, none]) hS mixed rfl ?_
      intro l w ho hcl hA hst
      refine phq hA hst ho hcl navail nmust 15 [0, 1, 2, 3, 4, 5, 6, 7, 8, 9, 10, 11, 12, 13, 14] rfl rfl rfl rfl rfl (by exact ⟨nR rfl rfl rfl rfl rfl (by exact ovE (mv rfl) rfl), nR rfl rfl rfl rfl rfl (by exact ovE (mv rfl) rfl), nR rfl rfl rfl rfl rfl (by exact ovE (mv rfl) rfl), nR rfl rfl rfl rfl rfl (by exact ovE (mv rfl) rfl), nR rfl rfl rfl rfl rfl (by exact ovE (bin rfl rfl rfl) rfl), nR rfl rfl rfl rfl rfl (by exact ovE (mv rfl) rfl), nR rfl rfl rfl rfl rfl (by exact ovE (mv rfl) rfl), nR rfl rfl rfl rfl rfl (by exact ovE (bin rfl rfl rfl) rfl), nR rfl rfl rfl rfl rfl (by exact ovE (ixV rfl rfl Try.runUnderlying68 Try.sizeOf70 (hV2975.rd (i := 1) rfl) Row.len rfl (hr2976.inb hk3001)) rfl), nR rfl rfl rfl rfl rfl (by exact ovE (ovE (ldVA rfl (hV2975.rd (i := 1) rfl) Row.len (hr2976.inb hk3001) Try.isAgg70 Try.sizeOf70 rfl) (congrArg (fun l => Value.agg ⟨l⟩) hw3006)) rfl), nR rfl rfl rfl rfl rfl (by exact ovE (mv rfl) rfl), nR rfl rfl rfl rfl rfl (by exact ovE (mv rfl) rfl), nR rfl rfl rfl rfl rfl (by exact ovE (ixV rfl rfl Try.runUnderlying68 Try.sizeOf70 (hV2975.rd (i := 1) rfl) Row.len rfl (hr2976.inb hk3008)) rfl), nR rfl rfl rfl rfl rfl (by exact ovE (ovE (ldVA rfl (hV2975.rd (i := 1) rfl) Row.len (hr2976.inb hk3008) Try.isAgg70 Try.sizeOf70 rfl) (congrArg (fun l => Value.agg ⟨l⟩) hw3013)) rfl), nR rfl rfl rfl rfl rfl (by exact ovE (ixV rfl rfl Try.runUnderlying68 Try.sizeOf70 (hV2975.rd (i := 1) rfl) Row.len rfl (hr2976.inb hk3008)) rfl), trivial⟩) fun D l a w ho hcl hav hpre hm hE hk hA hst => ?_
      have hS := (Ss.mk hE hst).env2 (e' := [(46, .agg ⟨[.int .i64 ((rd data2973 (w64 (j2978 - (1 : Int)))).often_), .slice A3002 ((rd data2973 (w64 (j2978 - (1 : Int)))).symbols_).length c3003]⟩), (51, slp A2720 (Int.toNat j2978 * 2))]) ⟨rfl, rfl, trivial⟩
      refine op_of_nth rfl <| stVR (i := j2978) (sz := 2) 1 (⟨[.int .i64 ((rd data2973 (w64 (j2978 - (1 : Int)))).often_), .slice A3002 ((rd data2973 (w64 (j2978 - (1 : Int)))).symbols_).length c3003], by simp, by simp [Value.oneCell']⟩ : Row 2) hS rfl rfl hV2975 rfl Try.sizeOf70 rfl (hr2976.inb hk3008) fun rw3020 w f3018 hz hV3019 hS => ?_
      obtain ⟨zs3021, hzm⟩ := nameE (data2973.set (Int.toNat j2978) (T_huff_packet.mk ((rd data2973 (w64 (j2978 - (1 : Int)))).often_) ((rd data2973 (w64 (j2978 - (1 : Int)))).symbols_)))
      replace hM := lt_to hzm hM
      have hr3022 := RelL.set (x := (T_huff_packet.mk ((rd data2973 (w64 (j2978 - (1 : Int)))).often_) ((rd data2973 (w64 (j2978 - (1 : Int)))).symbols_))) (r := (⟨[.int .i64 ((rd data2973 (w64 (j2978 - (1 : Int)))).often_), .slice A3002 ((rd data2973 (w64 (j2978 - (1 : Int)))).symbols_).length c3003], by simp, by simp [Value.oneCell']⟩ : Row 2)) (Int.toNat j2978) hr2976 (show R_huff_packet p2719 _ _ from ⟨A3002, c3003, rfl, hp3004, hc3005⟩)
      have hz3023 : rw3020.length = rw2972.length := by rw [hz]; exact List.length_set ..
      rw [← hz, ← hzm] at hr3022; clear hz hzm
      have hz3024 := Eq.trans hz3023 hz2977
      refine wpList_nil (then_n ?_)
      replace hst := hS.st
      obtain ⟨hk3026, hM⟩ := wp_chk hM
      obtain ⟨hcl, hmust, hav2, hA⟩ := dnN (vals' := [some (.slice A2720 rw2972.length c2721), some (.int .i64 j2978), some (.slice A2720 rw2972.length c2721), some (.int .i64 j2978), some (.int .i64 (w64 (j2978 - (1 : Int)))), some (.slice A2720 rw2972.length c2721), some (.int .i64 j2978), some (.int .i64 (w64 (j2978 - (1 : Int)))), some (slp A2720 (Int.toNat (w64 (j2978 - (1 : Int))) * 2)), some (.agg ⟨[.int .i64 ((rd data2973 (w64 (j2978 - (1 : Int)))).often_), .slice A3002 ((rd data2973 (w64 (j2978 - (1 : Int)))).symbols_).length c3003]⟩), some (.slice A2720 rw2972.length c2721), some (.int .i64 j2978), some (slp A2720 (Int.toNat j2978 * 2)), some (.agg ⟨[.int .i64 ((rd data2973 j2978).often_), .slice A3009 ((rd data2973 j2978).symbols_).length c3010]⟩), some (slp A2720 (Int.toNat j2978 * 2)), some undef, some (slp A2720 (Int.toNat (w64 (j2978 - (1 : Int))) * 2)), none]) 15 [(0, 15), (1, 15), (5, 15), (6, 15), (7, 15), (8, 15), (9, 15), (13, 15), (14, 15), (12, 13), (10, 12), (11, 12)] hA hcl hav hm hpre rfl rfl rfl rfl rfl
      clear hm hav
      refine phq hA hst ho hcl hav2 hmust 17 [2, 3, 4, 16] rfl rfl rfl rfl rfl (by exact ⟨nR rfl rfl rfl rfl rfl (by exact ovE (mv rfl) rfl), nR rfl rfl rfl rfl rfl (by exact ovE (mv rfl) rfl), nR rfl rfl rfl rfl rfl (by exact ovE (bin rfl rfl rfl) rfl), nR rfl rfl rfl rfl rfl (by exact ovE (ixV (lenx hz3023 rfl) rfl Try.runUnderlying68 Try.sizeOf70 (hV3019.rd (i := 1) rfl) Row.len rfl (hr3022.inb hk3026)) rfl), trivial⟩) fun D l a w ho hcl hav hpre hm hE hk hA hst => ?_
      have hS := (Ss.mk hE hst).env2 (e' := [(50, .agg ⟨[.int .i64 ((rd data2973 j2978).often_), .slice A3009 ((rd data2973 j2978).symbols_).length c3010]⟩), (52, slp A2720 (Int.toNat (w64 (j2978 - (1 : Int))) * 2))]) ⟨rfl, rfl, trivial⟩
      refine op_of_nth rfl <| stVR (i := (w64 (j2978 - (1 : Int)))) (sz := 2) 1 (⟨[.int .i64 ((rd data2973 j2978).often_), .slice A3009 ((rd data2973 j2978).symbols_).length c3010], by simp, by simp [Value.oneCell']⟩ : Row 2) hS rfl rfl hV3019 rfl Try.sizeOf70 rfl (hr3022.inb hk3026) fun rw3033 w f3031 hz hV3032 hS => ?_
      obtain ⟨zs3034, hzm⟩ := nameE (zs3021.set (Int.toNat (w64 (j2978 - (1 : Int)))) (T_huff_packet.mk ((rd data2973 j2978).often_) ((rd data2973 j2978).symbols_)))
      replace hM := lt_to hzm hM
      have hr3035 := RelL.set (x := (T_huff_packet.mk ((rd data2973 j2978).often_) ((rd data2973 j2978).symbols_))) (r := (⟨[.int .i64 ((rd data2973 j2978).often_), .slice A3009 ((rd data2973 j2978).symbols_).length c3010], by simp, by simp [Value.oneCell']⟩ : Row 2)) (Int.toNat (w64 (j2978 - (1 : Int)))) hr3022 (show R_huff_packet p2719 _ _ from ⟨A3009, c3010, rfl, hp3011, hc3012⟩)
      have hz3036 : rw3033.length = rw3020.length := by rw [hz]; exact List.length_set ..
      rw [← hz, ← hzm] at hr3035; clear hz hzm
      have hz3037 := Eq.trans hz3036 hz3024
      refine wpList_nil (then_n ?_)
      replace hst := hS.st
      obtain ⟨hcl, hmust, hav2, hA⟩ := dnN (vals' := [some (.slice A2720 rw2972.length c2721), some (.int .i64 j2978), some (.slice A2720 rw2972.length c2721), some (.int .i64 j2978), some (.int .i64 (w64 (j2978 - (1 : Int)))), some (.slice A2720 rw2972.length c2721), some (.int .i64 j2978), some (.int .i64 (w64 (j2978 - (1 : Int)))), some (slp A2720 (Int.toNat (w64 (j2978 - (1 : Int))) * 2)), some (.agg ⟨[.int .i64 ((rd data2973 (w64 (j2978 - (1 : Int)))).often_), .slice A3002 ((rd data2973 (w64 (j2978 - (1 : Int)))).symbols_).length c3003]⟩), some (.slice A2720 rw2972.length c2721), some (.int .i64 j2978), some (slp A2720 (Int.toNat j2978 * 2)), some (.agg ⟨[.int .i64 ((rd data2973 j2978).often_), .slice A3009 ((rd data2973 j2978).symbols_).length c3010]⟩), some (slp A2720 (Int.toNat j2978 * 2)), some undef, some (slp A2720 (Int.toNat (w64 (j2978 - (1 : Int))) * 2)), some undef]) 17 [(0, 17), (1, 17), (2, 17), (3, 17), (4, 17), (5, 17), (6, 17), (7, 17), (8, 17), (9, 17), (10, 17), (11, 17), (12, 17), (13, 17), (14, 17), (15, 17), (16, 17)] hA hcl hav hm hpre rfl rfl rfl rfl rfl
      clear hm hav
      refine phqE hA hst ho hcl hmust [] rfl rfl rfl trivial fun a w hS => ?_
      replace hS := hS.env2 (e' := [(0, .slice A2720 rw3033.length c2721), (1, .int .i64 a_2726), (2, .int .i64 b_2727), (3, fnv 41 [] []), (8, .int .i64 i2901), (9, .int .i64 j2978)]) ⟨(relk (u := .slice A2720 rw2972.length c2721) rfl (by rw [hz3036, hz3023])), rfl, rfl, rfl, rfl, rfl, trivial⟩
      refine blk_n (then_n ?_)
      refine wp_region_list <| st1 hS (mv rfl) rfl fun a w hS => st1 hS (bin rfl rfl rfl) rfl fun a w hS => st1x (v := Value.int .i64) (x0 := (w64 (j2978 - (1 : Int)))) hS (asg rfl) rfl fun j3038 a w hz hS => ?_
      have hM := lt_to hz hM; clear hz
      refine wpList_nil <| then_n ?_
      exact hJ3039 _ _ ⟨rw3033, zs3034, f3031, j3038, hS.to [0, 1] (by kernel_rfl) ⟨rfl, rfl, rfl, rfl, rfl, rfl, trivial⟩, hV3032, hr3035, hz3037, hM⟩
     ·refine wp_exit ?_
      refine then_ex (then_ex (blk_same (blk_n (then_n ?_))))
      refine wp_region_list <| st1 hS (mv rfl) rfl fun a w hS => st1 hS (bin rfl rfl rfl) rfl fun a w hS => st1x (v := Value.int .i64) (x0 := (w64 (i2901 + (1 : Int)))) hS (asg rfl) rfl fun i2999 a w hz hS => ?_
      have hM := lt_to hz hM; clear hz
      refine wpList_nil <| then_n ?_
      exact hJ3040 _ _ ⟨rw2972, data2973, f2974, i2999, hS.to [0, 1] (by kernel_rfl) ⟨rfl, rfl, rfl, rfl, rfl, trivial⟩, hV2975, hr2976, hz2977, hM⟩
  ·refine wp_exit ?_
   refine then_ex (then_ex (blk_same ?_))
   exact s_end (rs := []) hS rfl rfl (hret rw2895 data2896 f2897 w (wp_ok hM) hV2898 hr2899 hz2900 (hS.st.pick [0, 1] (by kernel_rfl)))

theorem slices_swapRangeCmpFunc_huff_packet__b6e1_b35e_c {H : Imm} {F : List Frag} {w : World} {R : Ending → World → Prop} {kr : (List T_huff_packet) → Prop} {kp : Value → Prop} (hG : Gl H) (K : Nat) (data3423 : List T_huff_packet) (a_3431 : Int) (b_3432 : Int) (n_3433 : Int) (p3424 : Frag) (A3425 : Option Addr) (c3426 : Nat) (rw3427 : List (Row 2)) (f3429 : Frag) (hr3428 : RelL (R_huff_packet p3424) data3423 rw3427) (hV3430 : Vec 70 (Row.v (sz := 2)) 2 A3425 rw3427 c3426 f3429)
    (hS : St w H [p3424, f3429] F) (hm : (slices_swapRangeCmpFunc_huff_packet__b6e1_b35e.m K data3423 a_3431 b_3432 n_3433).wp kr kp)
    (hret : ∀ (rw3534 : List (Row 2)) (data3535 : (List T_huff_packet)) (f3536 : Frag) (w : World), kr data3535 → (Vec 70 (Row.v (sz := 2)) 2 A3425 rw3534 c3426 f3536) → (RelL (R_huff_packet p3424) data3535 rw3534) → (rw3534.length = rw3427.length) → St w H [p3424, f3536] F → R (.returned (.tuple ⟨[]⟩)) w) :
    Calls Try.prog 48 ⟨[.slice A3425 rw3427.length c3426, .int .i64 a_3431, .int .i64 b_3432, .int .i64 n_3433, fnv 41 [] []]⟩ w R := by
 refine enter Try.func48 rfl Try.ntmps48 rfl hS fun a w hS => ?_
 have hM := hm; clear hm
 rw [slices_swapRangeCmpFunc_huff_packet__b6e1_b35e.m] at hM
 have hs3434 : ∀ q ∈ p3424, q ∈ p3424 := fun _ h => h
 have hz3435 : rw3427.length = rw3427.length := rfl
 refine wp_seq <| wp_region_list <| st1 hS (asg rfl) rfl fun a w hS => wpList_nil <| then_n <| wp_block <| s_loopJ (fun k3492 a w => ∃ (rw3485 : List (Row 2)) (data3486 : (List T_huff_packet)) (f3487 : Frag) (i3491 : Int), Ss 38 [] [(0, .slice A3425 rw3485.length c3426), (1, .int .i64 a_3431), (2, .int .i64 b_3432), (3, .int .i64 n_3433), (10, .int .i64 i3491)] H [p3424, f3487] F a w ∧ (Vec 70 (Row.v (sz := 2)) 2 A3425 rw3485 c3426 f3487) ∧ (RelL (R_huff_packet p3424) data3486 rw3485) ∧ (rw3485.length = rw3427.length) ∧ (slices_swapRangeCmpFunc_huff_packet__b6e1_b35e.l1 K a_3431 b_3432 n_3433 k3492 data3486 i3491).wp kr kp) K ?_ ?_ ?_
 ·exact ⟨rw3427, data3423, f3429, (0 : Int), hS.to [0, 1] (by kernel_rfl) ⟨rfl, rfl, rfl, rfl, rfl, trivial⟩, hV3430, hr3428, hz3435, hM⟩
 ·intro a w hI; obtain ⟨_, _, _, _, _, _, _, _, hM⟩ := hI; exact wp_fail hM
 ·intro k3492 a w hI J3533 hJ3533
  obtain ⟨rw3485, data3486, f3487, i3491, hS, hV3488, hr3489, hz3490, hM⟩ := hI
  rw [slices_swapRangeCmpFunc_huff_packet__b6e1_b35e.l1] at hM
  refine wp_seq <| wp_seq <| wp_region_list <| st1 hS (mv rfl) rfl fun a w hS => st1 hS (mv rfl) rfl fun a w hS => st1 hS (bin rfl rfl rfl) rfl fun a w hS => wpList_nil <| then_n <| s_cond hS rfl hM (fun hb3493 hM => ?_) (fun hb3493 hM => ?_)
  ·refine wp_skip ?_
   refine then_n <| wp_seq <| wp_block ?_
   obtain ⟨hk3495, hM⟩ := wp_chk hM
   obtain ⟨A3496, c3497, hw3500, hp3498, hc3499⟩ := hr3489.get hk3495
   obtain ⟨hk3502, hM⟩ := wp_chk hM
   obtain ⟨A3503, c3504, hw3507, hp3505, hc3506⟩ := hr3489.get hk3502
   refine draw_begin (vals := [some (.slice A3425 rw3485.length c3426), some (.int .i64 a_3431), some (.int .i64 i3491), some (.int .i64 (w64 (a_3431 + i3491))), some (.slice A3425 rw3485.length c3426), some (.int .i64 b_3432), some (.int .i64 i3491), some (.int .i64 (w64 (b_3432 + i3491))), some (.slice A3425 rw3485.length c3426), some (.int .i64 b_3432), some (.int .i64 i3491), some (.int .i64 (w64 (b_3432 + i3491))), some (slp A3425 (Int.toNat (w64 (b_3432 + i3491)) * 2)), some (.agg ⟨[.int .i64 ((rd data3486 (w64 (b_3432 + i3491))).often_), .slice A3496 ((rd data3486 (w64 (b_3432 + i3491))).symbols_).length c3497]⟩), some (.slice A3425 rw3485.length c3426), some (.int .i64 a_3431), some (.int .i64 i3491), some (.int .i64 (w64 (a_3431 + i3491))), some (slp A3425 (Int.toNat (w64 (a_3431 + i3491)) * 2)), some (.agg ⟨[.int .i64 ((rd data3486 (w64 (a_3431 + i3491))).often_), .slice A3503 ((rd data3486 (w64 (a_3431 + i3491))).symbols_).length c3504]⟩), some (slp A3425 (Int.toNat (w64 (a_3431 + i3491)) * 2)), none, none, none]) hS mixed rfl ?_
   intro l w ho hcl hA hst
   refine phq hA hst ho hcl navail nmust 21 [0, 1, 2, 3, 4, 5, 6, 7, 8, 9, 10, 11, 12, 13, 14, 15, 16, 17, 18, 19, 20] rfl rfl rfl rfl rfl (by exact ⟨nR rfl rfl rfl rfl rfl (by exact ovE (mv rfl) rfl), nR rfl rfl rfl rfl rfl (by exact ovE (mv rfl) rfl), nR rfl rfl rfl rfl rfl (by exact ovE (mv rfl) rfl), nR rfl rfl rfl rfl rfl (by exact ovE (bin rfl rfl rfl) rfl), nR rfl rfl rfl rfl rfl (by exact ovE (mv rfl) rfl), nR rfl rfl rfl rfl rfl (by exact ovE (mv rfl) rfl), nR rfl rfl rfl rfl rfl (by exact ovE (mv rfl) rfl), nR rfl rfl rfl rfl rfl (by exact ovE (bin rfl rfl rfl) rfl), nR rfl rfl rfl rfl rfl (by exact ovE (mv rfl) rfl), nR rfl rfl rfl rfl rfl (by exact ovE (mv rfl) rfl), nR rfl rfl rfl rfl rfl (by exact ovE (mv rfl) rfl), nR rfl rfl rfl rfl rfl (by exact ovE (bin rfl rfl rfl) rfl), nR rfl rfl rfl rfl rfl (by exact ovE (ixV rfl rfl Try.runUnderlying68 Try.sizeOf70 (hV3488.rd (i := 1) rfl) Row.len rfl (hr3489.inb hk3495)) rfl), nR rfl rfl rfl rfl rfl (by exact ovE (ovE (ldVA rfl (hV3488.rd (i := 1) rfl) Row.len (hr3489.inb hk3495) Try.isAgg70 Try.sizeOf70 rfl) (congrArg (fun l => Value.agg ⟨l⟩) hw3500)) rfl), nR rfl rfl rfl rfl rfl (by exact ovE (mv rfl) rfl), nR rfl rfl rfl rfl rfl (by exact ovE (mv rfl) rfl), nR rfl rfl rfl rfl rfl (by exact ovE (mv rfl) rfl), nR rfl rfl rfl rfl rfl (by exact ovE (bin rfl rfl rfl) rfl), nR rfl rfl rfl rfl rfl (by exact ovE (ixV rfl rfl Try.runUnderlying68 Try.sizeOf70 (hV3488.rd (i := 1) rfl) Row.len rfl (hr3489.inb hk3502)) rfl), nR rfl rfl rfl rfl rfl (by exact ovE (ovE (ldVA rfl (hV3488.rd (i := 1) rfl) Row.len (hr3489.inb hk3502) Try.isAgg70 Try.sizeOf70 rfl) (congrArg (fun l => Value.agg ⟨l⟩) hw3507)) rfl), nR rfl rfl rfl rfl rfl (by exact ovE (ixV rfl rfl Try.runUnderlying68 Try.sizeOf70 (hV3488.rd (i := 1) rfl) Row.len rfl (hr3489.inb hk3502)) rfl), trivial⟩) fun D l a w ho hcl hav hpre hm hE hk hA hst => ?_
   have hS := (Ss.mk hE hst).env2 (e' := [(29, .agg ⟨[.int .i64 ((rd data3486 (w64 (b_3432 + i3491))).often_), .slice A3496 ((rd data3486 (w64 (b_3432 + i3491))).symbols_).length c3497]⟩), (36, slp A3425 (Int.toNat (w64 (a_3431 + i3491)) * 2))]) ⟨rfl, rfl, trivial⟩
   refine op_of_nth rfl <| stVR (i := (w64 (a_3431 + i3491))) (sz := 2) 1 (⟨[.int .i64 ((rd data3486 (w64 (b_3432 + i3491))).often_), .slice A3496 ((rd data3486 (w64 (b_3432 + i3491))).symbols_).length c3497], by simp, by simp [Value.oneCell']⟩ : Row 2) hS rfl rfl hV3488 rfl Try.sizeOf70 rfl (hr3489.inb hk3502) fun rw3514 w f3512 hz hV3513 hS => ?_
   obtain ⟨zs3515, hzm⟩ := nameE (data3486.set (Int.toNat (w64 (a_3431 + i3491))) (T_huff_packet.mk ((rd data3486 (w64 (b_3432 + i3491))).often_) ((rd data3486 (w64 (b_3432 + i3491))).symbols_)))
   replace hM := lt_to hzm hM
   have hr3516 := RelL.set (x := (T_huff_packet.mk ((rd data3486 (w64 (b_3432 + i3491))).often_) ((rd data3486 (w64 (b_3432 + i3491))).symbols_))) (r := (⟨[.int .i64 ((rd data3486 (w64 (b_3432 + i3491))).often_), .slice A3496 ((rd data3486 (w64 (b_3432 + i3491))).symbols_).length c3497], by simp, by simp [Value.oneCell']⟩ : Row 2)) (Int.toNat (w64 (a_3431 + i3491))) hr3489 (show R_huff_packet p3424 _ _ from ⟨A3496, c3497, rfl, hp3498, hc3499⟩)
   have hz3517 : rw3514.length = rw3485.length := by rw [hz]; exact List.length_set ..
   rw [← hz, ← hzm] at hr3516; clear hz hzm
   have hz3518 := Eq.trans hz3517 hz3490
   refine wpList_nil (then_n ?_)
   replace hst := hS.st
   obtain ⟨hk3520, hM⟩ := wp_chk hM
   obtain ⟨hcl, hmust, hav2, hA⟩ := dnN (vals' := [some (.slice A3425 rw3485.length c3426), some (.int .i64 a_3431), some (.int .i64 i3491), some (.int .i64 (w64 (a_3431 + i3491))), some (.slice A3425 rw3485.length c3426), some (.int .i64 b_3432), some (.int .i64 i3491), some (.int .i64 (w64 (b_3432 + i3491))), some (.slice A3425 rw3485.length c3426), some (.int .i64 b_3432), some (.int .i64 i3491), some (.int .i64 (w64 (b_3432 + i3491))), some (slp A3425 (Int.toNat (w64 (b_3432 + i3491)) * 2)), some (.agg ⟨[.int .i64 ((rd data3486 (w64 (b_3432 + i3491))).often_), .slice A3496 ((rd data3486 (w64 (b_3432 + i3491))).symbols_).length c3497]⟩), some (.slice A3425 rw3485.length c3426), some (.int .i64 a_3431), some (.int .i64 i3491), some (.int .i64 (w64 (a_3431 + i3491))), some (slp A3425 (Int.toNat (w64 (a_3431 + i3491)) * 2)), some (.agg ⟨[.int .i64 ((rd data3486 (w64 (a_3431 + i3491))).often_), .slice A3503 ((rd data3486 (w64 (a_3431 + i3491))).symbols_).length c3504]⟩), some (slp A3425 (Int.toNat (w64 (a_3431 + i3491)) * 2)), some undef, some (slp A3425 (Int.toNat (w64 (b_3432 + i3491)) * 2)), none]) 21 [(0, 21), (1, 21), (2, 21), (3, 21), (8, 21), (9, 21), (10, 21), (11, 21), (12, 21), (13, 21), (19, 21), (20, 21), (18, 19), (14, 18), (17, 18), (15, 17), (16, 17)] hA hcl hav hm hpre rfl rfl rfl rfl rfl
   clear hm hav
   refine phq hA hst ho hcl hav2 hmust 23 [4, 5, 6, 7, 22] rfl rfl rfl rfl rfl (by exact ⟨nR rfl rfl rfl rfl rfl (by exact ovE (mv rfl) rfl), nR rfl rfl rfl rfl rfl (by exact ovE (mv rfl) rfl), nR rfl rfl rfl rfl rfl (by exact ovE (mv rfl) rfl), nR rfl rfl rfl rfl rfl (by exact ovE (bin rfl rfl rfl) rfl), nR rfl rfl rfl rfl rfl (by exact ovE (ixV (lenx hz3517 rfl) rfl Try.runUnderlying68 Try.sizeOf70 (hV3513.rd (i := 1) rfl) Row.len rfl (hr3516.inb hk3520)) rfl), trivial⟩) fun D l a w ho hcl hav hpre hm hE hk hA hst => ?_
   have hS := (Ss.mk hE hst).env2 (e' := [(35, .agg ⟨[.int .i64 ((rd data3486 (w64 (a_3431 + i3491))).often_), .slice A3503 ((rd data3486 (w64 (a_3431 + i3491))).symbols_).length c3504]⟩), (37, slp A3425 (Int.toNat (w64 (b_3432 + i3491)) * 2))]) ⟨rfl, rfl, trivial⟩
   refine op_of_nth rfl <| stVR (i := (w64 (b_3432 + i3491))) (sz := 2) 1 (⟨[.int .i64 ((rd data3486 (w64 (a_3431 + i3491))).often_), .slice A3503 ((rd data3486 (w64 (a_3431 + i3491))).symbols_).length c3504], by simp, by simp [Value.oneCell']⟩ : Row 2) hS rfl rfl hV3513 rfl Try.sizeOf70 rfl (hr3516.inb hk3520) fun rw3527 w f3525 hz hV3526 hS => ?_
   obtain ⟨zs3528, hzm⟩ := nameE (zs3515.set (Int.toNat (w64 (b_3432 + i3491))) (T_huff_packet.mk ((rd data3486 (w64 (a_3431 + i3491))).often_) ((rd data3486 (w64 (a_3431 + i3491))).symbols_)))
   replace hM := lt_to hzm hM
   have hr3529 := RelL.set (x := (T_huff_packet.mk ((rd data3486 (w64 (a_3431 + i3491))).often_) ((rd data3486 (w64 (a_3431 + i3491))).symbols_))) (r := (⟨[.int .i64 ((rd data3486 (w64 (a_3431 + i3491))).often_), .slice A3503 ((rd data3486 (w64 (a_3431 + i3491))).symbols_).length c3504], by simp, by simp [Value.oneCell']⟩ : Row 2)) (Int.toNat (w64 (b_3432 + i3491))) hr3516 (show R_huff_packet p3424 _ _ from ⟨A3503, c3504, rfl, hp3505, hc3506⟩)
   have hz3530 : rw3527.length = rw3514.length := by rw [hz]; exact List.length_set ..
   rw [← hz, ← hzm] at hr3529; clear hz hzm
   have hz3531 := Eq.trans hz3530 hz3518
   refine wpList_nil (then_n ?_)
   replace hst := hS.st
   obtain ⟨hcl, hmust, hav2, hA⟩ := dnN (vals' := [some (.slice A3425 rw3485.length c3426), some (.int .i64 a_3431), some (.int .i64 i3491), some (.int .i64 (w64 (a_3431 + i3491))), some (.slice A3425 rw3485.length c3426), some (.int .i64 b_3432), some (.int .i64 i3491), some (.int .i64 (w64 (b_3432 + i3491))), some (.slice A3425 rw3485.length c3426), some (.int .i64 b_3432), some (.int .i64 i3491), some (.int .i64 (w64 (b_3432 + i3491))), some (slp A3425 (Int.toNat (w64 (b_3432 + i3491)) * 2)), some (.agg ⟨[.int .i64 ((rd data3486 (w64 (b_3432 + i3491))).often_), .slice A3496 ((rd data3486 (w64 (b_3432 + i3491))).symbols_).length c3497]⟩), some (.slice A3425 rw3485.length c3426), some (.int .i64 a_3431), some (.int .i64 i3491), some (.int .i64 (w64 (a_3431 + i3491))), some (slp A3425 (Int.toNat (w64 (a_3431 + i3491)) * 2)), some (.agg ⟨[.int .i64 ((rd data3486 (w64 (a_3431 + i3491))).often_), .slice A3503 ((rd data3486 (w64 (a_3431 + i3491))).symbols_).length c3504]⟩), some (slp A3425 (Int.toNat (w64 (a_3431 + i3491)) * 2)), some undef, some (slp A3425 (Int.toNat (w64 (b_3432 + i3491)) * 2)), some undef]) 23 [(0, 23), (1, 23), (2, 23), (3, 23), (4, 23), (5, 23), (6, 23), (7, 23), (8, 23), (9, 23), (10, 23), (11, 23), (12, 23), (13, 23), (14, 23), (15, 23), (16, 23), (17, 23), (18, 23), (19, 23), (20, 23), (21, 23), (22, 23)] hA hcl hav hm hpre rfl rfl rfl rfl rfl
   clear hm hav
   refine phqE hA hst ho hcl hmust [] rfl rfl rfl trivial fun a w hS => ?_
   replace hS := hS.env2 (e' := [(0, .slice A3425 rw3527.length c3426), (1, .int .i64 a_3431), (2, .int .i64 b_3432), (3, .int .i64 n_3433), (10, .int .i64 i3491)]) ⟨(relk (u := .slice A3425 rw3485.length c3426) rfl (by rw [hz3530, hz3517])), rfl, rfl, rfl, rfl, trivial⟩
   refine blk_n (then_n ?_)
   refine wp_region_list <| st1 hS (mv rfl) rfl fun a w hS => st1 hS (bin rfl rfl rfl) rfl fun a w hS => st1x (v := Value.int .i64) (x0 := (w64 (i3491 + (1 : Int)))) hS (asg rfl) rfl fun i3532 a w hz hS => ?_
   have hM := lt_to hz hM; clear hz
   refine wpList_nil <| then_n ?_
   exact hJ3533 _ _ ⟨rw3527, zs3528, f3525, i3532, hS.to [0, 1] (by kernel_rfl) ⟨rfl, rfl, rfl, rfl, rfl, trivial⟩, hV3526, hr3529, hz3531, hM⟩
  ·refine wp_exit ?_
   refine then_ex (then_ex (blk_same ?_))
   exact s_end (rs := []) hS rfl rfl (hret rw3485 data3486 f3487 w (wp_ok hM) hV3488 hr3489 hz3490 (hS.st.pick [0, 1] (by kernel_rfl)))

theorem slices_rotateCmpFunc_huff_packet__b6e1_b35e_c {H : Imm} {F : List Frag} {w : World} {R : Ending → World → Prop} {kr : (List T_huff_packet) → Prop} {kp : Value → Prop} (hG : Gl H) (K : Nat) (data3403 : List T_huff_packet) (a_3411 : Int) (m3412 : Int) (b_3413 : Int) (p3404 : Frag) (A3405 : Option Addr) (c3406 : Nat) (rw3407 : List (Row 2)) (f3409 : Frag) (hr3408 : RelL (R_huff_packet p3404) data3403 rw3407) (hV3410 : Vec 70 (Row.v (sz := 2)) 2 A3405 rw3407 c3406 f3409)
    (hS : St w H [p3404, f3409] F) (hm : (slices_rotateCmpFunc_huff_packet__b6e1_b35e.m K data3403 a_3411 m3412 b_3413).wp kr kp)
    (hret : ∀ (rw3607 : List (Row 2)) (data3608 : (List T_huff_packet)) (f3609 : Frag) (w : World), kr data3608 → (Vec 70 (Row.v (sz := 2)) 2 A3405 rw3607 c3406 f3609) → (RelL (R_huff_packet p3404) data3608 rw3607) → (rw3607.length = rw3407.length) → St w H [p3404, f3609] F → R (.returned (.tuple ⟨[]⟩)) w) :
    Calls Try.prog 47 ⟨[.slice A3405 rw3407.length c3406, .int .i64 a_3411, .int .i64 m3412, .int .i64 b_3413, fnv 41 [] []]⟩ w R := by
 refine enter Try.func47 rfl Try.ntmps47 rfl hS fun a w hS => ?_
 have hM := hm; clear hm
 rw [slices_rotateCmpFunc_huff_packet__b6e1_b35e.m] at hM
 have hs3414 : ∀ q ∈ p3404, q ∈ p3404 := fun _ h => h
 have hz3415 : rw3407.length = rw3407.length := rfl
 refine wp_seq <| wp_region_list <| st1 hS (mv rfl) rfl fun a w hS => st1 hS (mv rfl) rfl fun a w hS => st1 hS (bin rfl rfl rfl) rfl fun a w hS => st1x (v := Value.int .i64) (x0 := (w64 (m3412 - a_3411))) hS (asg rfl) rfl fun i3416 a w hz hS => ?_
 have hM := lt_to hz hM; clear hz
 refine wpList_nil <| then_n <| wp_seq <| wp_region_list <| st1 hS (mv rfl) rfl fun a w hS => st1 hS (mv rfl) rfl fun a w hS => st1 hS (bin rfl rfl rfl) rfl fun a w hS => st1x (v := Value.int .i64) (x0 := (w64 (b_3413 - m3412))) hS (asg rfl) rfl fun j3417 a w hz hS => ?_
 have hM := lt_to hz hM; clear hz
 refine wpList_nil <| then_n <| seq_joinJ (fun a w => ∃ (rw3592 : List (Row 2)) (data3593 : (List T_huff_packet)) (f3594 : Frag) (i3598 : Int), Ss 58 [] [(0, .slice A3405 rw3592.length c3406), (2, .int .i64 m3412), (4, fnv 41 [] []), (10, .int .i64 i3598)] H [p3404, f3594] F a w ∧ (Vec 70 (Row.v (sz := 2)) 2 A3405 rw3592 c3406 f3594) ∧ (RelL (R_huff_packet p3404) data3593 rw3592) ∧ (rw3592.length = rw3407.length) ∧ (slices_rotateCmpFunc_huff_packet__b6e1_b35e.j2 K m3412 data3593 i3598).wp kr kp) (fun J3599 hJ3599 => ?_) ?_
 ·refine wp_block ?_
  refine s_loopJ (fun k3572 a w => ∃ (rw3564 : List (Row 2)) (data3565 : (List T_huff_packet)) (f3566 : Frag) (i3570 : Int) (j3571 : Int), Ss 58 [] [(0, .slice A3405 rw3564.length c3406), (2, .int .i64 m3412), (4, fnv 41 [] []), (10, .int .i64 i3570), (11, .int .i64 j3571)] H [p3404, f3566] F a w ∧ (Vec 70 (Row.v (sz := 2)) 2 A3405 rw3564 c3406 f3566) ∧ (RelL (R_huff_packet p3404) data3565 rw3564) ∧ (rw3564.length = rw3407.length) ∧ (slices_rotateCmpFunc_huff_packet__b6e1_b35e.l1 K m3412 k3572 data3565 i3570 j3571).wp kr kp) K ?_ ?_ ?_
  ·exact ⟨rw3407, data3403, f3409, i3416, j3417, hS.to [0, 1] (by kernel_rfl) ⟨rfl, rfl, rfl, rfl, rfl, trivial⟩, hV3410, hr3408, hz3415, hM⟩
  ·intro a w hI; obtain ⟨_, _, _, _, _, _, _, _, _, hM⟩ := hI; exact wp_fail hM
  ·intro k3572 a w hI J3591 hJ3591
   obtain ⟨rw3564, data3565, f3566, i3570, j3571, hS, hV3567, hr3568, hz3569, hM⟩ := hI
   rw [slices_rotateCmpFunc_huff_packet__b6e1_b35e.l1] at hM
   refine wp_seq <| wp_seq <| wp_region_list <| st1 hS (mv rfl) rfl fun a w hS => st1 hS (mv rfl) rfl fun a w hS => st1 hS (bin rfl rfl rfl) rfl fun a w hS => wpList_nil <| then_n <| s_cond hS rfl hM (fun hb3573 hM => ?_) (fun hb3573 hM => ?_)
   ·refine wp_skip ?_
    refine then_n <| wp_block <| wp_seq <| wp_region_list <| st1 hS (mv rfl) rfl fun a w hS => st1 hS (mv rfl) rfl fun a w hS => st1 hS (bin rfl rfl rfl) rfl fun a w hS => wpList_nil <| then_n <| s_cond hS rfl hM (fun hb3574 hM => ?_) (fun hb3574 hM => ?_)
    ·refine wp_seq ?_
     refine wp_region_list <| st1 hS (mv rfl) rfl fun a w hS => st1 hS (mv rfl) rfl fun a w hS => st1 hS (mv rfl) rfl fun a w hS => st1 hS (bin rfl rfl rfl) rfl fun a w hS => st1 hS (mv rfl) rfl fun a w hS => st1 hS (mv rfl) rfl fun a w hS => st1 hS (mv rfl) rfl fun a w hS => s_call hS rfl Try.call48 (slices_swapRangeCmpFunc_huff_packet__b6e1_b35e_c hG K data3565 (w64 (m3412 - i3570)) m3412 j3571 p3404 A3405 c3406 rw3564 f3566 hr3568 hV3567 (hS.st.part 2 [0, 1] (by kernel_rfl)) (wp_bind hM) (fun rw3575 data3576 f3577 w hM h3578 h3579 h3580 hst => s_back hS.ev hst.appF rfl fun hS => ?_))
     replace hS : Ss _ _ _ H [p3404, f3577] F _ _ := hS
     have hz3581 := Eq.trans h3580 hz3569
     replace hS := hS.re 0 (u := .slice A3405 rw3564.length c3406) (v := .slice A3405 rw3575.length c3406) rfl (by rw [h3580])
     replace hS := hS.re 24 (u := .slice A3405 rw3564.length c3406) (v := .slice A3405 rw3575.length c3406) rfl (by rw [h3580])
     refine wpList_nil <| then_n <| wp_region_list <| st1 hS (mv rfl) rfl fun a w hS => st1 hS (mv rfl) rfl fun a w hS => st1 hS (bin rfl rfl rfl) rfl fun a w hS => st1x (v := Value.int .i64) (x0 := (w64 (i3570 - j3571))) hS (asg rfl) rfl fun i3582 a w hz hS => ?_
     have hM := lt_to hz hM; clear hz
     refine wpList_nil <| blk_n (then_n ?_)
     exact hJ3591 _ _ ⟨rw3575, data3576, f3577, i3582, j3571, hS.to [0, 1] (by kernel_rfl) ⟨rfl, rfl, rfl, rfl, rfl, trivial⟩, h3578, h3579, hz3581, hM⟩
    ·refine wp_seq ?_
     refine wp_region_list <| st1 hS (mv rfl) rfl fun a w hS => st1 hS (mv rfl) rfl fun a w hS => st1 hS (mv rfl) rfl fun a w hS => st1 hS (bin rfl rfl rfl) rfl fun a w hS => st1 hS (mv rfl) rfl fun a w hS => st1 hS (mv rfl) rfl fun a w hS => st1 hS (bin rfl rfl rfl) rfl fun a w hS => st1 hS (mv rfl) rfl fun a w hS => st1 hS (bin rfl rfl rfl) rfl fun a w hS => st1 hS (mv rfl) rfl fun a w hS => st1 hS (mv rfl) rfl fun a w hS => s_call hS rfl Try.call48 (slices_swapRangeCmpFunc_huff_packet__b6e1_b35e_c hG K data3565 (w64 (m3412 - i3570)) (w64 ((w64 (m3412 + j3571)) - i3570)) i3570 p3404 A3405 c3406 rw3564 f3566 hr3568 hV3567 (hS.st.part 2 [0, 1] (by kernel_rfl)) (wp_bind hM) (fun rw3583 data3584 f3585 w hM h3586 h3587 h3588 hst => s_back hS.ev hst.appF rfl fun hS => ?_))
     replace hS : Ss _ _ _ H [p3404, f3585] F _ _ := hS
     have hz3589 := Eq.trans h3588 hz3569
     replace hS := hS.re 0 (u := .slice A3405 rw3564.length c3406) (v := .slice A3405 rw3583.length c3406) rfl (by rw [h3588])
     replace hS := hS.re 35 (u := .slice A3405 rw3564.length c3406) (v := .slice A3405 rw3583.length c3406) rfl (by rw [h3588])
     refine wpList_nil <| then_n <| wp_region_list <| st1 hS (mv rfl) rfl fun a w hS => st1 hS (mv rfl) rfl fun a w hS => st1 hS (bin rfl rfl rfl) rfl fun a w hS => st1x (v := Value.int .i64) (x0 := (w64 (j3571 - i3570))) hS (asg rfl) rfl fun j3590 a w hz hS => ?_
     have hM := lt_to hz hM; clear hz
     refine wpList_nil <| blk_n (then_n ?_)
     exact hJ3591 _ _ ⟨rw3583, data3584, f3585, i3570, j3590, hS.to [0, 1] (by kernel_rfl) ⟨rfl, rfl, rfl, rfl, rfl, trivial⟩, h3586, h3587, hz3589, hM⟩
   ·refine wp_exit ?_
    refine then_ex (then_ex (blk_same (then_n ?_)))
    exact hJ3599 _ _ ⟨rw3564, data3565, f3566, i3570, hS.to [0, 1] (by kernel_rfl) ⟨rfl, rfl, rfl, rfl, trivial⟩, hV3567, hr3568, hz3569, hM⟩
 ·intro a w hI
  obtain ⟨rw3592, data3593, f3594, i3598, hS, hV3595, hr3596, hz3597, hM⟩ := hI
  rw [slices_rotateCmpFunc_huff_packet__b6e1_b35e.j2] at hM
  refine wp_region_list <| st1 hS (mv rfl) rfl fun a w hS => st1 hS (mv rfl) rfl fun a w hS => st1 hS (mv rfl) rfl fun a w hS => st1 hS (bin rfl rfl rfl) rfl fun a w hS => st1 hS (mv rfl) rfl fun a w hS => st1 hS (mv rfl) rfl fun a w hS => st1 hS (mv rfl) rfl fun a w hS => s_call hS rfl Try.call48 (slices_swapRangeCmpFunc_huff_packet__b6e1_b35e_c hG K data3593 (w64 (m3412 - i3598)) m3412 i3598 p3404 A3405 c3406 rw3592 f3594 hr3596 hV3595 (hS.st.part 2 [0, 1] (by kernel_rfl)) (wp_bind hM) (fun rw3600 data3601 f3602 w hM h3603 h3604 h3605 hst => s_back hS.ev hst.appF rfl fun hS => ?_))
  replace hS : Ss _ _ _ H [p3404, f3602] F _ _ := hS
  have hz3606 := Eq.trans h3605 hz3597
  replace hS := hS.re 0 (u := .slice A3405 rw3592.length c3406) (v := .slice A3405 rw3600.length c3406) rfl (by rw [h3605])
  replace hS := hS.re 50 (u := .slice A3405 rw3592.length c3406) (v := .slice A3405 rw3600.length c3406) rfl (by rw [h3605])
  refine wpList_nil ?_
  exact s_end (rs := []) hS rfl rfl (hret rw3600 data3601 f3602 w (wp_ok hM) h3603 h3604 hz3606 (hS.st.pick [0, 1] (by kernel_rfl)))

theorem slices_symMergeCmpFunc_huff_packet__b6e1_b35e_cr (K : Nat) : ∀ (d : Nat) {H : Imm} {F : List Frag} {w : World} {R : Ending → World → Prop} {kr : (List T_huff_packet) → Prop} {kp : Value → Prop} (hG : Gl H) (data3635 : List T_huff_packet) (a_3643 : Int) (m3644 : Int) (b_3645 : Int) (p3636 : Frag) (A3637 : Option Addr) (c3638 : Nat) (rw3639 : List (Row 2)) (f3641 : Frag) (hr3640 : RelL (R_huff_packet p3636) data3635 rw3639) (hV3642 : Vec 70 (Row.v (sz := 2)) 2 A3637 rw3639 c3638 f3641)
    (hS : St w H [p3636, f3641] F) (hm : (slices_symMergeCmpFunc_huff_packet__b6e1_b35e.r K d data3635 a_3643 m3644 b_3645).wp kr kp)
    (hret : ∀ (rw3970 : List (Row 2)) (data3971 : (List T_huff_packet)) (f3972 : Frag) (w : World), kr data3971 → (Vec 70 (Row.v (sz := 2)) 2 A3637 rw3970 c3638 f3972) → (RelL (R_huff_packet p3636) data3971 rw3970) → (rw3970.length = rw3639.length) → St w H [p3636, f3972] F → R (.returned (.tuple ⟨[]⟩)) w),
    Calls Try.prog 44 ⟨[.slice A3637 rw3639.length c3638, .int .i64 a_3643, .int .i64 m3644, .int .i64 b_3645, fnv 41 [] []]⟩ w R := by
  intro d
  induction d with
  | zero => intro H F w R kr kp hG data3635 a_3643 m3644 b_3645 p3636 A3637 c3638 rw3639 f3641 hr3640 hV3642 hS hm hret; exact (wp_fail hm).elim
  | succ d ih =>
  intro H F w R kr kp hG data3635 a_3643 m3644 b_3645 p3636 A3637 c3638 rw3639 f3641 hr3640 hV3642 hS hm hret
  have hM := hm; clear hm
  rw [slices_symMergeCmpFunc_huff_packet__b6e1_b35e.r] at hM; rw [slices_symMergeCmpFunc_huff_packet__b6e1_b35e.b] at hM
  refine enter Try.func44 rfl Try.ntmps44 rfl hS fun a w hS => ?_
  have hs3646 : ∀ q ∈ p3636, q ∈ p3636 := fun _ h => h
  have hz3647 : rw3639.length = rw3639.length := rfl
  refine seq_joinJ (fun a w => Ss 220 [] [(0, .slice A3637 rw3639.length c3638), (1, .int .i64 a_3643), (2, .int .i64 m3644), (3, .int .i64 b_3645), (4, fnv 41 [] [])] H [p3636, f3641] F a w ∧ (slices_symMergeCmpFunc_huff_packet__b6e1_b35e.j4 K (slices_symMergeCmpFunc_huff_packet__b6e1_b35e.r K d) data3635 a_3643 m3644 b_3645).wp kr kp) (fun J3772 hJ3772 => ?_) ?_
  ·refine wp_seq ?_
   refine wp_region_list <| st1 hS (mv rfl) rfl fun a w hS => st1 hS (mv rfl) rfl fun a w hS => st1 hS (bin rfl rfl rfl) rfl fun a w hS => st1 hS (bin rfl rfl rfl) rfl fun a w hS => wpList_nil <| then_n <| s_cond hS rfl hM (fun hb3648 hM => ?_) (fun hb3648 hM => ?_)
   ·refine wp_seq ?_
    refine wp_region_list <| st1 hS (mv rfl) rfl fun a w hS => st1 hS (asg rfl) rfl fun a w hS => wpList_nil <| then_n <| wp_seq <| wp_region_list <| st1 hS (mv rfl) rfl fun a w hS => st1 hS (asg rfl) rfl fun a w hS => wpList_nil <| then_n <| seq_joinJ (fun a w => ∃ (i3672 : Int), Ss 220 [] [(0, .slice A3637 rw3639.length c3638), (1, .int .i64 a_3643), (10, .int .i64 i3672)] H [p3636, f3641] F a w ∧ (slices_symMergeCmpFunc_huff_packet__b6e1_b35e.j2 K (slices_symMergeCmpFunc_huff_packet__b6e1_b35e.r K d) data3635 a_3643 i3672).wp kr kp) (fun J3673 hJ3673 => ?_) ?_
    ·refine wp_block ?_
     refine s_loopJ (fun k3651 a w => ∃ (i3649 : Int) (j3650 : Int), Ss 220 [] [(0, .slice A3637 rw3639.length c3638), (1, .int .i64 a_3643), (4, fnv 41 [] []), (10, .int .i64 i3649), (11, .int .i64 j3650)] H [p3636, f3641] F a w ∧ (slices_symMergeCmpFunc_huff_packet__b6e1_b35e.l1 K (slices_symMergeCmpFunc_huff_packet__b6e1_b35e.r K d) data3635 a_3643 k3651 i3649 j3650).wp kr kp) K ?_ ?_ ?_
     ·exact ⟨m3644, b_3645, hS.to [0, 1] (by kernel_rfl) ⟨rfl, rfl, rfl, rfl, rfl, trivial⟩, hM⟩
     ·intro a w hI; obtain ⟨_, _, _, hM⟩ := hI; exact wp_fail hM
     ·intro k3651 a w hI J3671 hJ3671
      obtain ⟨i3649, j3650, hS, hM⟩ := hI
      rw [slices_symMergeCmpFunc_huff_packet__b6e1_b35e.l1] at hM
      refine wp_seq <| wp_seq <| wp_region_list <| st1 hS (mv rfl) rfl fun a w hS => st1 hS (mv rfl) rfl fun a w hS => st1 hS (bin rfl rfl rfl) rfl fun a w hS => wpList_nil <| then_n <| s_cond hS rfl hM (fun hb3652 hM => ?_) (fun hb3652 hM => ?_)
      ·refine wp_skip ?_
       refine then_n <| wp_block <| wp_seq <| wp_region_list <| st1 hS (mv rfl) rfl fun a w hS => st1 hS (mv rfl) rfl fun a w hS => st1 hS (bin rfl rfl rfl) rfl fun a w hS => st1 hS (cvi rfl Try.runUnderlying3 Try.runUnderlying46) rfl fun a w hS => st1 hS (shr rfl rfl rfl) rfl fun a w hS => st1 hS (cvi rfl Try.runUnderlying46 Try.runUnderlying3) rfl fun a w hS => st1x (v := Value.int .i64) (x0 := (wr .i64 (ishr .u64 (wr .u64 (w64 (i3649 + j3650))) (1 : Int)))) hS (asg rfl) rfl fun h3653 a w hz hS => ?_
       have hM := lt_to hz hM; clear hz
       refine wpList_nil <| then_n <| wp_seq ?_
       obtain ⟨hk3655, hM⟩ := wp_chk hM
       obtain ⟨A3656, c3657, hw3660, hp3658, hc3659⟩ := hr3640.get hk3655
       obtain ⟨hk3662, hM⟩ := wp_chk hM
       obtain ⟨A3663, c3664, hw3667, hp3665, hc3666⟩ := hr3640.get hk3662
       refine draw_begin (vals := [some (fnv 41 [] []), some (.slice A3637 rw3639.length c3638), some (.int .i64 h3653), some (slp A3637 (Int.toNat h3653 * 2)), some (.agg ⟨[.int .i64 ((rd data3635 h3653).often_), .slice A3656 ((rd data3635 h3653).symbols_).length c3657]⟩), some (.slice A3637 rw3639.length c3638), some (.int .i64 a_3643), some (slp A3637 (Int.toNat a_3643 * 2)), some (.agg ⟨[.int .i64 ((rd data3635 a_3643).often_), .slice A3663 ((rd data3635 a_3643).symbols_).length c3664]⟩), none, none]) hS mixed rfl ?_
       intro l w ho hcl hA hst
       refine phq hA hst ho hcl navail nmust 9 [0, 1, 2, 3, 4, 5, 6, 7, 8] rfl rfl rfl rfl rfl (by exact ⟨nR rfl rfl rfl rfl rfl (by exact ovE (mv rfl) rfl), nR rfl rfl rfl rfl rfl (by exact ovE (mv rfl) rfl), nR rfl rfl rfl rfl rfl (by exact ovE (mv rfl) rfl), nR rfl rfl rfl rfl rfl (by exact ovE (ixV rfl rfl Try.runUnderlying68 Try.sizeOf70 (hV3642.rd (i := 1) rfl) Row.len rfl (hr3640.inb hk3655)) rfl), nR rfl rfl rfl rfl rfl (by exact ovE (ovE (ldVA rfl (hV3642.rd (i := 1) rfl) Row.len (hr3640.inb hk3655) Try.isAgg70 Try.sizeOf70 rfl) (congrArg (fun l => Value.agg ⟨l⟩) hw3660)) rfl), nR rfl rfl rfl rfl rfl (by exact ovE (mv rfl) rfl), nR rfl rfl rfl rfl rfl (by exact ovE (mv rfl) rfl), nR rfl rfl rfl rfl rfl (by exact ovE (ixV rfl rfl Try.runUnderlying68 Try.sizeOf70 (hV3642.rd (i := 1) rfl) Row.len rfl (hr3640.inb hk3662)) rfl), nR rfl rfl rfl rfl rfl (by exact ovE (ovE (ldVA rfl (hV3642.rd (i := 1) rfl) Row.len (hr3640.inb hk3662) Try.isAgg70 Try.sizeOf70 rfl) (congrArg (fun l => Value.agg ⟨l⟩) hw3667)) rfl), trivial⟩) fun D l a w ho hcl hav hpre hm hE hk hA hst => ?_
       have hS := (Ss.mk hE hst).env2 (e' := [(40, fnv 41 [] []), (44, .agg ⟨[.int .i64 ((rd data3635 h3653).often_), .slice A3656 ((rd data3635 h3653).symbols_).length c3657]⟩), (48, .agg ⟨[.int .i64 ((rd data3635 a_3643).often_), .slice A3663 ((rd data3635 a_3643).symbols_).length c3664]⟩)]) ⟨rfl, rfl, rfl, trivial⟩
       refine op_of_nth rfl <| s_callV hS rfl rfl Try.call41 (huff_merged_1_c hG K (T_huff_packet.mk ((rd data3635 h3653).often_) ((rd data3635 h3653).symbols_)) (T_huff_packet.mk ((rd data3635 a_3643).often_) ((rd data3635 a_3643).symbols_)) A3656 c3657 A3663 c3664 (hp3658.rdF (i := 0) rfl) hc3659 (hp3665.rdF (i := 0) rfl) hc3666 (hS.st.part 0 [0, 1] (by kernel_rfl)) (wp_bind hM) (fun x3668 w hM  hst => s_back hS.ev hst.appF rfl fun hS => ?_))
       replace hS : Ss _ _ _ H [p3636, f3641] F _ _ := hS
       refine wpList_nil (then_n ?_)
       replace hst := hS.st
       obtain ⟨hcl, hmust, hav2, hA⟩ := dn (vals' := [some (fnv 41 [] []), some (.slice A3637 rw3639.length c3638), some (.int .i64 h3653), some (slp A3637 (Int.toNat h3653 * 2)), some (.agg ⟨[.int .i64 ((rd data3635 h3653).often_), .slice A3656 ((rd data3635 h3653).symbols_).length c3657]⟩), some (.slice A3637 rw3639.length c3638), some (.int .i64 a_3643), some (slp A3637 (Int.toNat a_3643 * 2)), some (.agg ⟨[.int .i64 ((rd data3635 a_3643).often_), .slice A3663 ((rd data3635 a_3643).symbols_).length c3664]⟩), some (.int .i64 x3668), some (.bool (decide (x3668 < (0 : Int))))]) 9 [(0, 9), (4, 9), (8, 9), (3, 4), (7, 8), (1, 3), (2, 3), (5, 7), (6, 7)] hA hcl hav hm hpre hk rfl rfl rfl rfl rfl rfl rfl
       clear hm hav
       refine phqE hA hst ho hcl hmust [10] rfl rfl rfl (by exact ⟨nR rfl rfl rfl rfl rfl (by exact ovE (bin rfl rfl rfl) rfl), trivial⟩) fun a w hS => ?_
       replace hS := hS.env2 (e' := [(0, .slice A3637 rw3639.length c3638), (1, .int .i64 a_3643), (4, fnv 41 [] []), (10, .int .i64 i3649), (11, .int .i64 j3650), (12, .int .i64 h3653), (50, .bool (decide (x3668 < (0 : Int))))]) ⟨rfl, rfl, rfl, rfl, rfl, rfl, rfl, trivial⟩
       refine then_n <| s_cond hS rfl hM (fun hb3669 hM => ?_) (fun hb3669 hM => ?_)
       ·refine wp_region_list ?_
        refine st1 hS (mv rfl) rfl fun a w hS => st1 hS (bin rfl rfl rfl) rfl fun a w hS => st1x (v := Value.int .i64) (x0 := (w64 (h3653 + (1 : Int)))) hS (asg rfl) rfl fun i3670 a w hz hS => ?_
        have hM := lt_to hz hM; clear hz
        refine wpList_nil <| blk_n (then_n ?_)
        exact hJ3671 _ _ ⟨i3670, j3650, hS.to [0, 1] (by kernel_rfl) ⟨rfl, rfl, rfl, rfl, rfl, trivial⟩, hM⟩
       ·refine wp_region_list ?_
        refine st1 hS (mv rfl) rfl fun a w hS => st1 hS (asg rfl) rfl fun a w hS => wpList_nil <| blk_n (then_n ?_)
        exact hJ3671 _ _ ⟨i3649, h3653, hS.to [0, 1] (by kernel_rfl) ⟨rfl, rfl, rfl, rfl, rfl, trivial⟩, hM⟩
      ·refine wp_exit ?_
       refine then_ex (then_ex (blk_same (then_n ?_)))
       exact hJ3673 _ _ ⟨i3649, hS.to [0, 1] (by kernel_rfl) ⟨rfl, rfl, rfl, trivial⟩, hM⟩
    ·intro a w hI
     obtain ⟨i3672, hS, hM⟩ := hI
     rw [slices_symMergeCmpFunc_huff_packet__b6e1_b35e.j2] at hM
     refine wp_seq <| wp_seq <| wp_region_list <| st1 hS (mv rfl) rfl fun a w hS => st1 hS (asg rfl) rfl fun a w hS => wpList_nil <| then_n <| wp_block <| s_loopJ (fun k3730 a w => ∃ (rw3723 : List (Row 2)) (data3724 : (List T_huff_packet)) (f3725 : Frag) (k_3729 : Int), Ss 220 [] [(0, .slice A3637 rw3723.length c3638), (10, .int .i64 i3672), (13, .int .i64 k_3729)] H [p3636, f3725] F a w ∧ (Vec 70 (Row.v (sz := 2)) 2 A3637 rw3723 c3638 f3725) ∧ (RelL (R_huff_packet p3636) data3724 rw3723) ∧ (rw3723.length = rw3639.length) ∧ (slices_symMergeCmpFunc_huff_packet__b6e1_b35e.l3 K (slices_symMergeCmpFunc_huff_packet__b6e1_b35e.r K d) i3672 k3730 data3724 k_3729).wp kr kp) K ?_ ?_ ?_
     ·exact ⟨rw3639, data3635, f3641, a_3643, hS.to [0, 1] (by kernel_rfl) ⟨rfl, rfl, rfl, trivial⟩, hV3642, hr3640, hz3647, hM⟩
     ·intro a w hI; obtain ⟨_, _, _, _, _, _, _, _, hM⟩ := hI; exact wp_fail hM
     ·intro k3730 a w hI J3771 hJ3771
      obtain ⟨rw3723, data3724, f3725, k_3729, hS, hV3726, hr3727, hz3728, hM⟩ := hI
      rw [slices_symMergeCmpFunc_huff_packet__b6e1_b35e.l3] at hM
      refine wp_seq <| wp_seq <| wp_region_list <| st1 hS (mv rfl) rfl fun a w hS => st1 hS (mv rfl) rfl fun a w hS => st1 hS (bin rfl rfl rfl) rfl fun a w hS => st1 hS (bin rfl rfl rfl) rfl fun a w hS => wpList_nil <| then_n <| s_cond hS rfl hM (fun hb3731 hM => ?_) (fun hb3731 hM => ?_)
      ·refine wp_skip ?_
       refine then_n <| wp_seq <| wp_block ?_
       obtain ⟨hk3733, hM⟩ := wp_chk hM
       obtain ⟨A3734, c3735, hw3738, hp3736, hc3737⟩ := hr3727.get hk3733
       obtain ⟨hk3740, hM⟩ := wp_chk hM
       obtain ⟨A3741, c3742, hw3745, hp3743, hc3744⟩ := hr3727.get hk3740
       refine draw_begin (vals := [some (.slice A3637 rw3723.length c3638), some (.int .i64 k_3729), some (.slice A3637 rw3723.length c3638), some (.int .i64 k_3729), some (.int .i64 (w64 (k_3729 + (1 : Int)))), some (.slice A3637 rw3723.length c3638), some (.int .i64 k_3729), some (.int .i64 (w64 (k_3729 + (1 : Int)))), some (slp A3637 (Int.toNat (w64 (k_3729 + (1 : Int))) * 2)), some (.agg ⟨[.int .i64 ((rd data3724 (w64 (k_3729 + (1 : Int)))).often_), .slice A3734 ((rd data3724 (w64 (k_3729 + (1 : Int)))).symbols_).length c3735]⟩), some (.slice A3637 rw3723.length c3638), some (.int .i64 k_3729), some (slp A3637 (Int.toNat k_3729 * 2)), some (.agg ⟨[.int .i64 ((rd data3724 k_3729).often_), .slice A3741 ((rd data3724 k_3729).symbols_).length c3742]⟩), some (slp A3637 (Int.toNat k_3729 * 2)), none, none, none]) hS mixed rfl ?_
       intro l w ho hcl hA hst
       refine phq hA hst ho hcl navail nmust 15 [0, 1, 2, 3, 4, 5, 6, 7, 8, 9, 10, 11, 12, 13, 14] rfl rfl rfl rfl rfl (by exact ⟨nR rfl rfl rfl rfl rfl (by exact ovE (mv rfl) rfl), nR rfl rfl rfl rfl rfl (by exact ovE (mv rfl) rfl), nR rfl rfl rfl rfl rfl (by exact ovE (mv rfl) rfl), nR rfl rfl rfl rfl rfl (by exact ovE (mv rfl) rfl), nR rfl rfl rfl rfl rfl (by exact ovE (bin rfl rfl rfl) rfl), nR rfl rfl rfl rfl rfl (by exact ovE (mv rfl) rfl), nR rfl rfl rfl rfl rfl (by exact ovE (mv rfl) rfl), nR rfl rfl rfl rfl rfl (by exact ovE (bin rfl rfl rfl) rfl), nR rfl rfl rfl rfl rfl (by exact ovE (ixV rfl rfl Try.runUnderlying68 Try.sizeOf70 (hV3726.rd (i := 1) rfl) Row.len rfl (hr3727.inb hk3733)) rfl), nR rfl rfl rfl rfl rfl (by exact ovE (ovE (ldVA rfl (hV3726.rd (i := 1) rfl) Row.len (hr3727.inb hk3733) Try.isAgg70 Try.sizeOf70 rfl) (congrArg (fun l => Value.agg ⟨l⟩) hw3738)) rfl), nR rfl rfl rfl rfl rfl (by exact ovE (mv rfl) rfl), nR rfl rfl rfl rfl rfl (by exact ovE (mv rfl) rfl), nR rfl rfl rfl rfl rfl (by exact ovE (ixV rfl rfl Try.runUnderlying68 Try.sizeOf70 (hV3726.rd (i := 1) rfl) Row.len rfl (hr3727.inb hk3740)) rfl), nR rfl rfl rfl rfl rfl (by exact ovE (ovE (ldVA rfl (hV3726.rd (i := 1) rfl) Row.len (hr3727.inb hk3740) Try.isAgg70 Try.sizeOf70 rfl) (congrArg (fun l => Value.agg ⟨l⟩) hw3745)) rfl), nR rfl rfl rfl rfl rfl (by exact ovE (ixV rfl rfl Try.runUnderlying68 Try.sizeOf70 (hV3726.rd (i := 1) rfl) Row.len rfl (hr3727.inb hk3740)) rfl), trivial⟩) fun D l a w ho hcl hav hpre hm hE hk hA hst => ?_
       have hS := (Ss.mk hE hst).env2 (e' := [(70, .agg ⟨[.int .i64 ((rd data3724 (w64 (k_3729 + (1 : Int)))).often_), .slice A3734 ((rd data3724 (w64 (k_3729 + (1 : Int)))).symbols_).length c3735]⟩), (75, slp A3637 (Int.toNat k_3729 * 2))]) ⟨rfl, rfl, trivial⟩
       refine op_of_nth rfl <| stVR (i := k_3729) (sz := 2) 1 (⟨[.int .i64 ((rd data3724 (w64 (k_3729 + (1 : Int)))).often_), .slice A3734 ((rd data3724 (w64 (k_3729 + (1 : Int)))).symbols_).length c3735], by simp, by simp [Value.oneCell']⟩ : Row 2) hS rfl rfl hV3726 rfl Try.sizeOf70 rfl (hr3727.inb hk3740) fun rw3752 w f3750 hz hV3751 hS => ?_
       obtain ⟨zs3753, hzm⟩ := nameE (data3724.set (Int.toNat k_3729) (T_huff_packet.mk ((rd data3724 (w64 (k_3729 + (1 : Int)))).often_) ((rd data3724 (w64 (k_3729 + (1 : Int)))).symbols_)))
       replace hM := lt_to hzm hM
       have hr3754 := RelL.set (x := (T_huff_packet.mk ((rd data3724 (w64 (k_3729 + (1 : Int)))).often_) ((rd data3724 (w64 (k_3729 + (1 : Int)))).symbols_))) (r := (⟨[.int .i64 ((rd data3724 (w64 (k_3729 + (1 : Int)))).often_), .slice A3734 ((rd data3724 (w64 (k_3729 + (1 : Int)))).symbols_).length c3735], by simp, by simp [Value.oneCell']⟩ : Row 2)) (Int.toNat k_3729) hr3727 (show R_huff_packet p3636 _ _ from ⟨A3734, c3735, rfl, hp3736, hc3737⟩)
       have hz3755 : rw3752.length = rw3723.length := by rw [hz]; exact List.length_set ..
       rw [← hz, ← hzm] at hr3754; clear hz hzm
       have hz3756 := Eq.trans hz3755 hz3728
       refine wpList_nil (then_n ?_)
       replace hst := hS.st
       obtain ⟨hk3758, hM⟩ := wp_chk hM
       obtain ⟨hcl, hmust, hav2, hA⟩ := dnN (vals' := [some (.slice A3637 rw3723.length c3638), some (.int .i64 k_3729), some (.slice A3637 rw3723.length c3638), some (.int .i64 k_3729), some (.int .i64 (w64 (k_3729 + (1 : Int)))), some (.slice A3637 rw3723.length c3638), some (.int .i64 k_3729), some (.int .i64 (w64 (k_3729 + (1 : Int)))), some (slp A3637 (Int.toNat (w64 (k_3729 + (1 : Int))) * 2)), some (.agg ⟨[.int .i64 ((rd data3724 (w64 (k_3729 + (1 : Int)))).often_), .slice A3734 ((rd data3724 (w64 (k_3729 + (1 : Int)))).symbols_).length c3735]⟩), some (.slice A3637 rw3723.length c3638), some (.int .i64 k_3729), some (slp A3637 (Int.toNat k_3729 * 2)), some (.agg ⟨[.int .i64 ((rd data3724 k_3729).often_), .slice A3741 ((rd data3724 k_3729).symbols_).length c3742]⟩), some (slp A3637 (Int.toNat k_3729 * 2)), some undef, some (slp A3637 (Int.toNat (w64 (k_3729 + (1 : Int))) * 2)), none]) 15 [(0, 15), (1, 15), (5, 15), (6, 15), (7, 15), (8, 15), (9, 15), (13, 15), (14, 15), (12, 13), (10, 12), (11, 12)] hA hcl hav hm hpre rfl rfl rfl rfl rfl
       clear hm hav
       refine phq hA hst ho hcl hav2 hmust 17 [2, 3, 4, 16] rfl rfl rfl rfl rfl (by exact ⟨nR rfl rfl rfl rfl rfl (by exact ovE (mv rfl) rfl), nR rfl rfl rfl rfl rfl (by exact ovE (mv rfl) rfl), nR rfl rfl rfl rfl rfl (by exact ovE (bin rfl rfl rfl) rfl), nR rfl rfl rfl rfl rfl (by exact ovE (ixV (lenx hz3755 rfl) rfl Try.runUnderlying68 Try.sizeOf70 (hV3751.rd (i := 1) rfl) Row.len rfl (hr3754.inb hk3758)) rfl), trivial⟩) fun D l a w ho hcl hav hpre hm hE hk hA hst => ?_
       have hS := (Ss.mk hE hst).env2 (e' := [(74, .agg ⟨[.int .i64 ((rd data3724 k_3729).often_), .slice A3741 ((rd data3724 k_3729).symbols_).length c3742]⟩), (76, slp A3637 (Int.toNat (w64 (k_3729 + (1 : Int))) * 2))]) ⟨rfl, rfl, trivial⟩
       refine op_of_nth rfl <| stVR (i := (w64 (k_3729 + (1 : Int)))) (sz := 2) 1 (⟨[.int .i64 ((rd data3724 k_3729).often_), .slice A3741 ((rd data3724 k_3729).symbols_).length c3742], by simp, by simp [Value.oneCell']⟩ : Row 2) hS rfl rfl hV3751 rfl Try.sizeOf70 rfl (hr3754.inb hk3758) fun rw3765 w f3763 hz hV3764 hS => ?_
       obtain ⟨zs3766, hzm⟩ := nameE (zs3753.set (Int.toNat (w64 (k_3729 + (1 : Int)))) (T_huff_packet.mk ((rd data3724 k_3729).often_) ((rd data3724 k_3729).symbols_)))
       replace hM := lt_to hzm hM
       have hr3767 := RelL.set (x := (T_huff_packet.mk ((rd data3724 k_3729).often_) ((rd data3724 k_3729).symbols_))) (r := (⟨[.int .i64 ((rd data3724 k_3729).often_), .slice A3741 ((rd data3724 k_3729).symbols_).length c3742], by simp, by simp [Value.oneCell']⟩ : Row 2)) (Int.toNat (w64 (k_3729 + (1 : Int)))) hr3754 (show R_huff_packet p3636 _ _ from ⟨A3741, c3742, rfl, hp3743, hc3744⟩)
       have hz3768 : rw3765.length = rw3752.length := by rw [hz]; exact List.length_set ..
       rw [← hz, ← hzm] at hr3767; clear hz hzm
       have hz3769 := Eq.trans hz3768 hz3756
       refine wpList_nil (then_n ?_)
       replace hst := hS.st
       obtain ⟨hcl, hmust, hav2, hA⟩ := dnN (vals' := [some (.slice A3637 rw3723.length c3638), some (.int .i64 k_3729), some (.slice A3637 rw3723.length c3638), some (.int .i64 k_3729), some (.int .i64 (w64 (k_3729 + (1 : Int)))), some (.slice A3637 rw3723.length c3638), some (.int .i64 k_3729), some (.int .i64 (w64 (k_3729 + (1 : Int)))), some (slp A3637 (Int.toNat (w64 (k_3729 + (1 : Int))) * 2)), some (.agg ⟨[.int .i64 ((rd data3724 (w64 (k_3729 + (1 : Int)))).often_), .slice A3734 ((rd data3724 (w64 (k_3729 + (1 : Int)))).symbols_).length c3735]⟩), some (.slice A3637 rw3723.length c3638), some (.int .i64 k_3729), some (slp A3637 (Int.toNat k_3729 * 2)), some (.agg ⟨[.int .i64 ((rd data3724 k_3729).often_), .slice A3741 ((rd data3724 k_3729).symbols_).length c3742]⟩), some (slp A3637 (Int.toNat k_3729 * 2)), some undef, some (slp A3637 (Int.toNat (w64 (k_3729 + (1 : Int))) * 2)), some undef]) 17 [(0, 17), (1, 17), (2, 17), (3, 17), (4, 17), (5, 17), (6, 17), (7, 17), (8, 17), (9, 17), (10, 17), (11, 17), (12, 17), (13, 17), (14, 17), (15, 17), (16, 17)] hA hcl hav hm hpre rfl rfl rfl rfl rfl
       clear hm hav
       refine phqE hA hst ho hcl hmust [] rfl rfl rfl trivial fun a w hS => ?_
       replace hS := hS.env2 (e' := [(0, .slice A3637 rw3765.length c3638), (10, .int .i64 i3672), (13, .int .i64 k_3729)]) ⟨(relk (u := .slice A3637 rw3723.length c3638) rfl (by rw [hz3768, hz3755])), rfl, rfl, trivial⟩
       refine blk_n (then_n ?_)
       refine wp_region_list <| st1 hS (mv rfl) rfl fun a w hS => st1 hS (bin rfl rfl rfl) rfl fun a w hS => st1x (v := Value.int .i64) (x0 := (w64 (k_3729 + (1 : Int)))) hS (asg rfl) rfl fun k_3770 a w hz hS => ?_
       have hM := lt_to hz hM; clear hz
       refine wpList_nil <| then_n ?_
       exact hJ3771 _ _ ⟨rw3765, zs3766, f3763, k_3770, hS.to [0, 1] (by kernel_rfl) ⟨rfl, rfl, rfl, trivial⟩, hV3764, hr3767, hz3769, hM⟩
      ·refine wp_exit ?_
       refine then_ex (then_ex (blk_same (then_n ?_)))
       refine wp_ret <| then_ret ?_
       exact s_ret (rs := []) hS rfl rfl (hret rw3723 data3724 f3725 w (wp_ok hM) hV3726 hr3727 hz3728 (hS.st.pick [0, 1] (by kernel_rfl)))
   ·refine wp_skip ?_
    refine then_n ?_
    exact hJ3772 _ _ ⟨hS.to [0, 1] (by kernel_rfl) ⟨rfl, rfl, rfl, rfl, rfl, trivial⟩, hM⟩
  ·intro a w hI
   obtain ⟨hS, hM⟩ := hI
   rw [slices_symMergeCmpFunc_huff_packet__b6e1_b35e.j4] at hM
   refine seq_joinJ (fun a w => Ss 220 [] [(0, .slice A3637 rw3639.length c3638), (1, .int .i64 a_3643), (2, .int .i64 m3644), (3, .int .i64 b_3645), (4, fnv 41 [] [])] H [p3636, f3641] F a w ∧ (slices_symMergeCmpFunc_huff_packet__b6e1_b35e.j8 K (slices_symMergeCmpFunc_huff_packet__b6e1_b35e.r K d) data3635 a_3643 m3644 b_3645).wp kr kp) (fun J3897 hJ3897 => ?_) ?_
   ·refine wp_seq ?_
    refine wp_region_list <| st1 hS (mv rfl) rfl fun a w hS => st1 hS (mv rfl) rfl fun a w hS => st1 hS (bin rfl rfl rfl) rfl fun a w hS => st1 hS (bin rfl rfl rfl) rfl fun a w hS => wpList_nil <| then_n <| s_cond hS rfl hM (fun hb3773 hM => ?_) (fun hb3773 hM => ?_)
    ·refine wp_seq ?_
     refine wp_region_list <| st1 hS (mv rfl) rfl fun a w hS => st1 hS (asg rfl) rfl fun a w hS => wpList_nil <| then_n <| wp_seq <| wp_region_list <| st1 hS (mv rfl) rfl fun a w hS => st1 hS (asg rfl) rfl fun a w hS => wpList_nil <| then_n <| seq_joinJ (fun a w => ∃ (i3797 : Int), Ss 220 [] [(0, .slice A3637 rw3639.length c3638), (2, .int .i64 m3644), (14, .int .i64 i3797)] H [p3636, f3641] F a w ∧ (slices_symMergeCmpFunc_huff_packet__b6e1_b35e.j6 K (slices_symMergeCmpFunc_huff_packet__b6e1_b35e.r K d) data3635 m3644 i3797).wp kr kp) (fun J3798 hJ3798 => ?_) ?_
     ·refine wp_block ?_
      refine s_loopJ (fun k3776 a w => ∃ (i3774 : Int) (j3775 : Int), Ss 220 [] [(0, .slice A3637 rw3639.length c3638), (2, .int .i64 m3644), (4, fnv 41 [] []), (14, .int .i64 i3774), (15, .int .i64 j3775)] H [p3636, f3641] F a w ∧ (slices_symMergeCmpFunc_huff_packet__b6e1_b35e.l5 K (slices_symMergeCmpFunc_huff_packet__b6e1_b35e.r K d) data3635 m3644 k3776 i3774 j3775).wp kr kp) K ?_ ?_ ?_
      ·exact ⟨a_3643, m3644, hS.to [0, 1] (by kernel_rfl) ⟨rfl, rfl, rfl, rfl, rfl, trivial⟩, hM⟩
      ·intro a w hI; obtain ⟨_, _, _, hM⟩ := hI; exact wp_fail hM
      ·intro k3776 a w hI J3796 hJ3796
       obtain ⟨i3774, j3775, hS, hM⟩ := hI
       rw [slices_symMergeCmpFunc_huff_packet__b6e1_b35e.l5] at hM
       refine wp_seq <| wp_seq <| wp_region_list <| st1 hS (mv rfl) rfl fun a w hS => st1 hS (mv rfl) rfl fun a w hS => st1 hS (bin rfl rfl rfl) rfl fun a w hS => wpList_nil <| then_n <| s_cond hS rfl hM (fun hb3777 hM => ?_) (fun hb3777 hM => ?_)
       ·refine wp_skip ?_
        refine then_n <| wp_block <| wp_seq <| wp_region_list <| st1 hS (mv rfl) rfl fun a w hS => st1 hS (mv rfl) rfl fun a w hS => st1 hS (bin rfl rfl rfl) rfl fun a w hS => st1 hS (cvi rfl Try.runUnderlying3 Try.runUnderlying46) rfl fun a w hS => st1 hS (shr rfl rfl rfl) rfl fun a w hS => st1 hS (cvi rfl Try.runUnderlying46 Try.runUnderlying3) rfl fun a w hS => st1x (v := Value.int .i64) (x0 := (wr .i64 (ishr .u64 (wr .u64 (w64 (i3774 + j3775))) (1 : Int)))) hS (asg rfl) rfl fun h3778 a w hz hS => ?_
        have hM := lt_to hz hM; clear hz
        refine wpList_nil <| then_n <| wp_seq ?_
        obtain ⟨hk3780, hM⟩ := wp_chk hM
        obtain ⟨A3781, c3782, hw3785, hp3783, hc3784⟩ := hr3640.get hk3780
        obtain ⟨hk3787, hM⟩ := wp_chk hM
        obtain ⟨A3788, c3789, hw3792, hp3790, hc3791⟩ := hr3640.get hk3787
        refine draw_begin (vals := [some (fnv 41 [] []), some (.slice A3637 rw3639.length c3638), some (.int .i64 m3644), some (slp A3637 (Int.toNat m3644 * 2)), some (.agg ⟨[.int .i64 ((rd data3635 m3644).often_), .slice A3781 ((rd data3635 m3644).symbols_).length c3782]⟩), some (.slice A3637 rw3639.length c3638), some (.int .i64 h3778), some (slp A3637 (Int.toNat h3778 * 2)), some (.agg ⟨[.int .i64 ((rd data3635 h3778).often_), .slice A3788 ((rd data3635 h3778).symbols_).length c3789]⟩), none, none, none]) hS mixed rfl ?_
        intro l w ho hcl hA hst
        refine phq hA hst ho hcl navail nmust 9 [0, 1, 2, 3, 4, 5, 6, 7, 8] rfl rfl rfl rfl rfl (by exact ⟨nR rfl rfl rfl rfl rfl (by exact ovE (mv rfl) rfl), nR rfl rfl rfl rfl rfl (by exact ovE (mv rfl) rfl), nR rfl rfl rfl rfl rfl (by exact ovE (mv rfl) rfl), nR rfl rfl rfl rfl rfl (by exact ovE (ixV rfl rfl Try.runUnderlying68 Try.sizeOf70 (hV3642.rd (i := 1) rfl) Row.len rfl (hr3640.inb hk3780)) rfl), nR rfl rfl rfl rfl rfl (by exact ovE (ovE (ldVA rfl (hV3642.rd (i := 1) rfl) Row.len (hr3640.inb hk3780) Try.isAgg70 Try.sizeOf70 rfl) (congrArg (fun l => Value.agg ⟨l⟩) hw3785)) rfl), nR rfl rfl rfl rfl rfl (by exact ovE (mv rfl) rfl), nR rfl rfl rfl rfl rfl (by exact ovE (mv rfl) rfl), nR rfl rfl rfl rfl rfl (by exact ovE (ixV rfl rfl Try.runUnderlying68 Try.sizeOf70 (hV3642.rd (i := 1) rfl) Row.len rfl (hr3640.inb hk3787)) rfl), nR rfl rfl rfl rfl rfl (by exact ovE (ovE (ldVA rfl (hV3642.rd (i := 1) rfl) Row.len (hr3640.inb hk3787) Try.isAgg70 Try.sizeOf70 rfl) (congrArg (fun l => Value.agg ⟨l⟩) hw3792)) rfl), trivial⟩) fun D l a w ho hcl hav hpre hm hE hk hA hst => ?_
        have hS := (Ss.mk hE hst).env2 (e' := [(92, fnv 41 [] []), (96, .agg ⟨[.int .i64 ((rd data3635 m3644).often_), .slice A3781 ((rd data3635 m3644).symbols_).length c3782]⟩), (100, .agg ⟨[.int .i64 ((rd data3635 h3778).often_), .slice A3788 ((rd data3635 h3778).symbols_).length c3789]⟩)]) ⟨rfl, rfl, rfl, trivial⟩
        refine op_of_nth rfl <| s_callV hS rfl rfl Try.call41 (huff_merged_1_c hG K (T_huff_packet.mk ((rd data3635 m3644).often_) ((rd data3635 m3644).symbols_)) (T_huff_packet.mk ((rd data3635 h3778).often_) ((rd data3635 h3778).symbols_)) A3781 c3782 A3788 c3789 (hp3783.rdF (i := 0) rfl) hc3784 (hp3790.rdF (i := 0) rfl) hc3791 (hS.st.part 0 [0, 1] (by kernel_rfl)) (wp_bind hM) (fun x3793 w hM  hst => s_back hS.ev hst.appF rfl fun hS => ?_))
        replace hS : Ss _ _ _ H [p3636, f3641] F _ _ := hS
        refine wpList_nil (then_n ?_)
        replace hst := hS.st
        obtain ⟨hcl, hmust, hav2, hA⟩ := dn (vals' := [some (fnv 41 [] []), some (.slice A3637 rw3639.length c3638), some (.int .i64 m3644), some (slp A3637 (Int.toNat m3644 * 2)), some (.agg ⟨[.int .i64 ((rd data3635 m3644).often_), .slice A3781 ((rd data3635 m3644).symbols_).length c3782]⟩), some (.slice A3637 rw3639.length c3638), some (.int .i64 h3778), some (slp A3637 (Int.toNat h3778 * 2)), some (.agg ⟨[.int .i64 ((rd data3635 h3778).often_), .slice A3788 ((rd data3635 h3778).symbols_).length c3789]⟩), some (.int .i64 x3793), some (.bool (decide (x3793 < (0 : Int)))), some (.bool (!(decide (x3793 < (0 : Int)))))]) 9 [(0, 9), (4, 9), (8, 9), (3, 4), (7, 8), (1, 3), (2, 3), (5, 7), (6, 7)] hA hcl hav hm hpre hk rfl rfl rfl rfl rfl rfl rfl
        clear hm hav
        refine phqE hA hst ho hcl hmust [10, 11] rfl rfl rfl (by exact ⟨nR rfl rfl rfl rfl rfl (by exact ovE (bin rfl rfl rfl) rfl), nR rfl rfl rfl rfl rfl (by exact ovE (un rfl rfl) rfl), trivial⟩) fun a w hS => ?_
        replace hS := hS.env2 (e' := [(0, .slice A3637 rw3639.length c3638), (2, .int .i64 m3644), (4, fnv 41 [] []), (14, .int .i64 i3774), (15, .int .i64 j3775), (16, .int .i64 h3778), (103, .bool (!(decide (x3793 < (0 : Int)))))]) ⟨rfl, rfl, rfl, rfl, rfl, rfl, rfl, trivial⟩
        refine then_n <| s_cond hS rfl hM (fun hb3794 hM => ?_) (fun hb3794 hM => ?_)
        ·refine wp_region_list ?_
         refine st1 hS (mv rfl) rfl fun a w hS => st1 hS (bin rfl rfl rfl) rfl fun a w hS => st1x (v := Value.int .i64) (x0 := (w64 (h3778 + (1 : Int)))) hS (asg rfl) rfl fun i3795 a w hz hS => ?_
         have hM := lt_to hz hM; clear hz
         refine wpList_nil <| blk_n (then_n ?_)
         exact hJ3796 _ _ ⟨i3795, j3775, hS.to [0, 1] (by kernel_rfl) ⟨rfl, rfl, rfl, rfl, rfl, trivial⟩, hM⟩
        ·refine wp_region_list ?_
         refine st1 hS (mv rfl) rfl fun a w hS => st1 hS (asg rfl) rfl fun a w hS => wpList_nil <| blk_n (then_n ?_)
         exact hJ3796 _ _ ⟨i3774, h3778, hS.to [0, 1] (by kernel_rfl) ⟨rfl, rfl, rfl, rfl, rfl, trivial⟩, hM⟩
       ·refine wp_exit ?_
        refine then_ex (then_ex (blk_same (then_n ?_)))
        exact hJ3798 _ _ ⟨i3774, hS.to [0, 1] (by kernel_rfl) ⟨rfl, rfl, rfl, trivial⟩, hM⟩
     ·intro a w hI
      obtain ⟨i3797, hS, hM⟩ := hI
      rw [slices_symMergeCmpFunc_huff_packet__b6e1_b35e.j6] at hM
      refine wp_seq <| wp_seq <| wp_region_list <| st1 hS (mv rfl) rfl fun a w hS => st1 hS (asg rfl) rfl fun a w hS => wpList_nil <| then_n <| wp_block <| s_loopJ (fun k3855 a w => ∃ (rw3848 : List (Row 2)) (data3849 : (List T_huff_packet)) (f3850 : Frag) (k_3854 : Int), Ss 220 [] [(0, .slice A3637 rw3848.length c3638), (14, .int .i64 i3797), (17, .int .i64 k_3854)] H [p3636, f3850] F a w ∧ (Vec 70 (Row.v (sz := 2)) 2 A3637 rw3848 c3638 f3850) ∧ (RelL (R_huff_packet p3636) data3849 rw3848) ∧ (rw3848.length = rw3639.length) ∧ (slices_symMergeCmpFunc_huff_packet__b6e1_b35e.l7 K (slices_symMergeCmpFunc_huff_packet__b6e1_b35e.r K d) i3797 k3855 data3849 k_3854).wp kr kp) K ?_ ?_ ?_
      ·exact ⟨rw3639, data3635, f3641, m3644, hS.to [0, 1] (by kernel_rfl) ⟨rfl, rfl, rfl, trivial⟩, hV3642, hr3640, hz3647, hM⟩
      ·intro a w hI; obtain ⟨_, _, _, _, _, _, _, _, hM⟩ := hI; exact wp_fail hM
      ·intro k3855 a w hI J3896 hJ3896
       obtain ⟨rw3848, data3849, f3850, k_3854, hS, hV3851, hr3852, hz3853, hM⟩ := hI
       rw [slices_symMergeCmpFunc_huff_packet__b6e1_b35e.l7] at hM
       refine wp_seq <| wp_seq <| wp_region_list <| st1 hS (mv rfl) rfl fun a w hS => st1 hS (mv rfl) rfl fun a w hS => st1 hS (bin rfl rfl rfl) rfl fun a w hS => wpList_nil <| then_n <| s_cond hS rfl hM (fun hb3856 hM => ?_) (fun hb3856 hM => ?_)
       ·refine wp_skip ?_
        refine then_n <| wp_seq <| wp_block ?_
        obtain ⟨hk3858, hM⟩ := wp_chk hM
        obtain ⟨A3859, c3860, hw3863, hp3861, hc3862⟩ := hr3852.get hk3858
        obtain ⟨hk3865, hM⟩ := wp_chk hM
        obtain ⟨A3866, c3867, hw3870, hp3868, hc3869⟩ := hr3852.get hk3865
        refine draw_begin (vals := [some (.slice A3637 rw3848.length c3638), some (.int .i64 k_3854), some (.slice A3637 rw3848.length c3638), some (.int .i64 k_3854), some (.int .i64 (w64 (k_3854 - (1 : Int)))), some (.slice A3637 rw3848.length c3638), some (.int .i64 k_3854), some (.int .i64 (w64 (k_3854 - (1 : Int)))), some (slp A3637 (Int.toNat (w64 (k_3854 - (1 : Int))) * 2)), some (.agg ⟨[.int .i64 ((rd data3849 (w64 (k_3854 - (1 : Int)))).often_), .slice A3859 ((rd data3849 (w64 (k_3854 - (1 : Int)))).symbols_).length c3860]⟩), some (.slice A3637 rw3848.length c3638), some (.int .i64 k_3854), some (slp A3637 (Int.toNat k_3854 * 2)), some (.agg ⟨[.int .i64 ((rd data3849 k_3854).often_), .slice A3866 ((rd data3849 k_3854).symbols_).length c3867]⟩), some (slp A3637 (Int.toNat k_3854 * 2)), none, none, none]) hS mixed rfl ?_
        intro l w ho hcl hA hst
        refine phq hA hst ho hcl navail nmust 15 [0, 1, 2, 3, 4, 5, 6, 7, 8, 9, 10, 11, 12, 13, 14] rfl rfl rfl rfl rfl (by exact ⟨nR rfl rfl rfl rfl rfl (by exact ovE (mv rfl) rfl), nR rfl rfl rfl rfl rfl (by exact ovE (mv rfl) rfl), nR rfl rfl rfl rfl rfl (by exact ovE (mv rfl) rfl), nR rfl rfl rfl rfl rfl (by exact ovE (mv rfl) rfl), nR rfl rfl rfl rfl rfl (by exact ovE (bin rfl rfl rfl) rfl), nR rfl rfl rfl rfl rfl (by exact ovE (mv rfl) rfl), nR rfl rfl rfl rfl rfl (by exact ovE (mv rfl) rfl), nR rfl rfl rfl rfl rfl (by exact ovE (bin rfl rfl rfl) rfl), nR rfl rfl rfl rfl rfl (by exact ovE (ixV rfl rfl Try.runUnderlying68 Try.sizeOf70 (hV3851.rd (i := 1) rfl) Row.len rfl (hr3852.inb hk3858)) rfl), nR rfl rfl rfl rfl rfl (by exact ovE (ovE (ldVA rfl (hV3851.rd (i := 1) rfl) Row.len (hr3852.inb hk3858) Try.isAgg70 Try.sizeOf70 rfl) (congrArg (fun l => Value.agg ⟨l⟩) hw3863)) rfl), nR rfl rfl rfl rfl rfl (by exact ovE (mv rfl) rfl), nR rfl rfl rfl rfl rfl (by exact ovE (mv rfl) rfl), nR rfl rfl rfl rfl rfl (by exact ovE (ixV rfl rfl Try.runUnderlying68 Try.sizeOf70 (hV3851.rd (i := 1) rfl) Row.len rfl (hr3852.inb hk3865)) rfl), nR rfl rfl rfl rfl rfl (by exact ovE (ovE (ldVA rfl (hV3851.rd (i := 1) rfl) Row.len (hr3852.inb hk3865) Try.isAgg70 Try.sizeOf70 rfl) (congrArg (fun l => Value.agg ⟨l⟩) hw3870)) rfl), nR rfl rfl rfl rfl rfl (by exact ovE (ixV rfl rfl Try.runUnderlying68 Try.sizeOf70 (hV3851.rd (i := 1) rfl) Row.len rfl (hr3852.inb hk3865)) rfl), trivial⟩) fun D l a w ho hcl hav hpre hm hE hk hA hst => ?_
        have hS := (Ss.mk hE hst).env2 (e' := [(122, .agg ⟨[.int .i64 ((rd data3849 (w64 (k_3854 - (1 : Int)))).often_), .slice A3859 ((rd data3849 (w64 (k_3854 - (1 : Int)))).symbols_).length c3860]⟩), (127, slp A3637 (Int.toNat k_3854 * 2))]) ⟨rfl, rfl, trivial⟩
        refine op_of_nth rfl <| stVR (i := k_3854) (sz := 2) 1 (⟨[.int .i64 ((rd data3849 (w64 (k_3854 - (1 : Int)))).often_), .slice A3859 ((rd data3849 (w64 (k_3854 - (1 : Int)))).symbols_).length c3860], by simp, by simp [Value.oneCell']⟩ : Row 2) hS rfl rfl hV3851 rfl Try.sizeOf70 rfl (hr3852.inb hk3865) fun rw3877 w f3875 hz hV3876 hS => ?_
        obtain ⟨zs3878, hzm⟩ := nameE (data3849.set (Int.toNat k_3854) (T_huff_packet.mk ((rd data3849 (w64 (k_3854 - (1 : Int)))).often_) ((rd data3849 (w64 (k_3854 - (1 : Int)))).symbols_)))
        replace hM := lt_to hzm hM
        have hr3879 := RelL.set (x := (T_huff_packet.mk ((rd data3849 (w64 (k_3854 - (1 : Int)))).often_) ((rd data3849 (w64 (k_3854 - (1 : Int)))).symbols_))) (r := (⟨[.int .i64 ((rd data3849 (w64 (k_3854 - (1 : Int)))).often_), .slice A3859 ((rd data3849 (w64 (k_3854 - (1 : Int)))).symbols_).length c3860], by simp, by simp [Value.oneCell']⟩ : Row 2)) (Int.toNat k_3854) hr3852 (show R_huff_packet p3636 _ _ from ⟨A3859, c3860, rfl, hp3861, hc3862⟩)
        have hz3880 : rw3877.length = rw3848.length := by rw [hz]; exact List.length_set ..
        rw [← hz, ← hzm] at hr3879; clear hz hzm
        have hz3881 := Eq.trans hz3880 hz3853
        refine wpList_nil (then_n ?_)
        replace hst := hS.st
        obtain ⟨hk3883, hM⟩ := wp_chk hM
        obtain ⟨hcl, hmust, hav2, hA⟩ := dnN (vals' := [some (.slice A3637 rw3848.length c3638), some (.int .i64 k_3854), some (.slice A3637 rw3848.length c3638), some (.int .i64 k_3854), some (.int .i64 (w64 (k_3854 - (1 : Int)))), some (.slice A3637 rw3848.length c3638), some (.int .i64 k_3854), some (.int .i64 (w64 (k_3854 - (1 : Int)))), some (slp A3637 (Int.toNat (w64 (k_3854 - (1 : Int))) * 2)), some (.agg ⟨[.int .i64 ((rd data3849 (w64 (k_3854 - (1 : Int)))).often_), .slice A3859 ((rd data3849 (w64 (k_3854 - (1 : Int)))).symbols_).length c3860]⟩), some (.slice A3637 rw3848.length c3638), some (.int .i64 k_3854), some (slp A3637 (Int.toNat k_3854 * 2)), some (.agg ⟨[.int .i64 ((rd data3849 k_3854).often_), .slice A3866 ((rd data3849 k_3854).symbols_).length c3867]⟩), some (slp A3637 (Int.toNat k_3854 * 2)), some undef, some (slp A3637 (Int.toNat (w64 (k_3854 - (1 : Int))) * 2)), none]) 15 [(0, 15), (1, 15), (5, 15), (6, 15), (7, 15), (8, 15), (9, 15), (13, 15), (14, 15), (12, 13), (10, 12), (11, 12)] hA hcl hav hm hpre rfl rfl rfl rfl rfl
        clear hm hav
        refine phq hA hst ho hcl hav2 hmust 17 [2, 3, 4, 16] rfl rfl rfl rfl rfl (by exact ⟨nR rfl rfl rfl rfl rfl (by exact ovE (mv rfl) rfl), nR rfl rfl rfl rfl rfl (by exact ovE (mv rfl) rfl), nR rfl rfl rfl rfl rfl (by exact ovE (bin rfl rfl rfl) rfl), nR rfl rfl rfl rfl rfl (by exact ovE (ixV (lenx hz3880 rfl) rfl Try.runUnderlying68 Try.sizeOf70 (hV3876.rd (i := 1) rfl) Row.len rfl (hr3879.inb hk3883)) rfl), trivial⟩) fun D l a w ho hcl hav hpre hm hE hk hA hst => ?_
        have hS := (Ss.mk hE hst).env2 (e' := [(126, .agg ⟨[.int .i64 ((rd data3849 k_3854).often_), .slice A3866 ((rd data3849 k_3854).symbols_).length c3867]⟩), (128, slp A3637 (Int.toNat (w64 (k_3854 - (1 : Int))) * 2))]) ⟨rfl, rfl, trivial⟩
        refine op_of_nth rfl <| stVR (i := (w64 (k_3854 - (1 : Int)))) (sz := 2) 1 (⟨[.int .i64 ((rd data3849 k_3854).often_), .slice A3866 ((rd data3849 k_3854).symbols_).length c3867], by simp, by simp [Value.oneCell']⟩ : Row 2) hS rfl rfl hV3876 rfl Try.sizeOf70 rfl (hr3879.inb hk3883) fun rw3890 w f3888 hz hV3889 hS => ?_
        obtain ⟨zs3891, hzm⟩ := nameE (zs3878.set (Int.toNat (w64 (k_3854 - (1 : Int)))) (T_huff_packet.mk ((rd data3849 k_3854).often_) ((rd data3849 k_3854).symbols_)))
        replace hM := lt_to hzm hM
        have hr3892 := RelL.set (x := (T_huff_packet.mk ((rd data3849 k_3854).often_) ((rd data3849 k_3854).symbols_))) (r := (⟨[.int .i64 ((rd data3849 k_3854).often_), .slice A3866 ((rd data3849 k_3854).symbols_).length c3867], by simp, by simp [Value.oneCell']⟩ : Row 2)) (Int.toNat (w64 (k_3854 - (1 : Int)))) hr3879 (show R_huff_packet p3636 _ _ from ⟨A3866, c3867, rfl, hp3868, hc3869⟩)
        have hz3893 : rw3890.length = rw3877.length := by rw [hz]; exact List.length_set ..
        rw [← hz, ← hzm] at hr3892; clear hz hzm
        have hz3894 := Eq.trans hz3893 hz3881
        refine wpList_nil (then_n ?_)
        replace hst := hS.st
        obtain ⟨hcl, hmust, hav2, hA⟩ := dnN (vals' := [some (.slice A3637 rw3848.length c3638), some (.int .i64 k_3854), some (.slice A3637 rw3848.length c3638), some (.int .i64 k_3854), some (.int .i64 (w64 (k_3854 - (1 : Int)))), some (.slice A3637 rw3848.length c3638), some (.int .i64 k_3854), some (.int .i64 (w64 (k_3854 - (1 : Int)))), some (slp A3637 (Int.toNat (w64 (k_3854 - (1 : Int))) * 2)), some (.agg ⟨[.int .i64 ((rd data3849 (w64 (k_3854 - (1 : Int)))).often_), .slice A3859 ((rd data3849 (w64 (k_3854 - (1 : Int)))).symbols_).length c3860]⟩), some (.slice A3637 rw3848.length c3638), some (.int .i64 k_3854), some (slp A3637 (Int.toNat k_3854 * 2)), some (.agg ⟨[.int .i64 ((rd data3849 k_3854).often_), .slice A3866 ((rd data3849 k_3854).symbols_).length c3867]⟩), some (slp A3637 (Int.toNat k_3854 * 2)), some undef, some (slp A3637 (Int.toNat (w64 (k_3854 - (1 : Int))) * 2)), some undef]) 17 [(0, 17), (1, 17), (2, 17), (3, 17), (4, 17), (5, 17), (6, 17), (7, 17), (8, 17), (9, 17), (10, 17), (11, 17), (12, 17), (13, 17), (14, 17), (15, 17), (16, 17)] hA hcl hav hm hpre rfl rfl rfl rfl rfl
        clear hm hav
        refine phqE hA hst ho hcl hmust [] rfl rfl rfl trivial fun a w hS => ?_
        replace hS := hS.env2 (e' := [(0, .slice A3637 rw3890.length c3638), (14, .int .i64 i3797), (17, .int .i64 k_3854)]) ⟨(relk (u := .slice A3637 rw3848.length c3638) rfl (by rw [hz3893, hz3880])), rfl, rfl, trivial⟩
        refine blk_n (then_n ?_)
        refine wp_region_list <| st1 hS (mv rfl) rfl fun a w hS => st1 hS (bin rfl rfl rfl) rfl fun a w hS => st1x (v := Value.int .i64) (x0 := (w64 (k_3854 - (1 : Int)))) hS (asg rfl) rfl fun k_3895 a w hz hS => ?_
        have hM := lt_to hz hM; clear hz
        refine wpList_nil <| then_n ?_
        exact hJ3896 _ _ ⟨rw3890, zs3891, f3888, k_3895, hS.to [0, 1] (by kernel_rfl) ⟨rfl, rfl, rfl, trivial⟩, hV3889, hr3892, hz3894, hM⟩
       ·refine wp_exit ?_
        refine then_ex (then_ex (blk_same (then_n ?_)))
        refine wp_ret <| then_ret ?_
        exact s_ret (rs := []) hS rfl rfl (hret rw3848 data3849 f3850 w (wp_ok hM) hV3851 hr3852 hz3853 (hS.st.pick [0, 1] (by kernel_rfl)))
    ·refine wp_skip ?_
     refine then_n ?_
     exact hJ3897 _ _ ⟨hS.to [0, 1] (by kernel_rfl) ⟨rfl, rfl, rfl, rfl, rfl, trivial⟩, hM⟩
   ·intro a w hI
    obtain ⟨hS, hM⟩ := hI
    rw [slices_symMergeCmpFunc_huff_packet__b6e1_b35e.j8] at hM
    refine wp_seq <| wp_region_list <| st1 hS (mv rfl) rfl fun a w hS => st1 hS (mv rfl) rfl fun a w hS => st1 hS (bin rfl rfl rfl) rfl fun a w hS => st1 hS (cvi rfl Try.runUnderlying3 Try.runUnderlying46) rfl fun a w hS => st1 hS (shr rfl rfl rfl) rfl fun a w hS => st1 hS (cvi rfl Try.runUnderlying46 Try.runUnderlying3) rfl fun a w hS => st1x (v := Value.int .i64) (x0 := (wr .i64 (ishr .u64 (wr .u64 (w64 (a_3643 + b_3645))) (1 : Int)))) hS (asg rfl) rfl fun mid3898 a w hz hS => ?_
    have hM := lt_to hz hM; clear hz
    refine wpList_nil <| then_n <| wp_seq <| wp_region_list <| st1 hS (mv rfl) rfl fun a w hS => st1 hS (mv rfl) rfl fun a w hS => st1 hS (bin rfl rfl rfl) rfl fun a w hS => st1x (v := Value.int .i64) (x0 := (w64 (mid3898 + m3644))) hS (asg rfl) rfl fun n_3899 a w hz hS => ?_
    have hM := lt_to hz hM; clear hz
    refine wpList_nil <| then_n <| wp_seq <| wp_region_list <| st1 hS (asg rfl) rfl fun a w hS => st1 hS (asg rfl) rfl fun a w hS => wpList_nil <| then_n <| seq_joinJ (fun a w => ∃ (start3902 : Int) (r3903 : Int), Ss 220 [] [(0, .slice A3637 rw3639.length c3638), (1, .int .i64 a_3643), (2, .int .i64 m3644), (3, .int .i64 b_3645), (4, fnv 41 [] []), (18, .int .i64 mid3898), (19, .int .i64 n_3899), (20, .int .i64 start3902), (21, .int .i64 r3903)] H [p3636, f3641] F a w ∧ (slices_symMergeCmpFunc_huff_packet__b6e1_b35e.j9 K (slices_symMergeCmpFunc_huff_packet__b6e1_b35e.r K d) data3635 a_3643 m3644 b_3645 mid3898 n_3899 start3902 r3903).wp kr kp) (fun J3904 hJ3904 => ?_) ?_
    ·refine wp_seq ?_
     refine wp_region_list <| st1 hS (mv rfl) rfl fun a w hS => st1 hS (mv rfl) rfl fun a w hS => st1 hS (bin rfl rfl rfl) rfl fun a w hS => wpList_nil <| then_n <| s_cond hS rfl hM (fun hb3900 hM => ?_) (fun hb3900 hM => ?_)
     ·refine wp_seq ?_
      refine wp_region_list <| st1 hS (mv rfl) rfl fun a w hS => st1 hS (mv rfl) rfl fun a w hS => st1 hS (bin rfl rfl rfl) rfl fun a w hS => st1x (v := Value.int .i64) (x0 := (w64 (n_3899 - b_3645))) hS (asg rfl) rfl fun start3901 a w hz hS => ?_
      have hM := lt_to hz hM; clear hz
      refine wpList_nil <| then_n <| wp_region_list <| st1 hS (mv rfl) rfl fun a w hS => st1 hS (asg rfl) rfl fun a w hS => wpList_nil <| then_n ?_
      exact hJ3904 _ _ ⟨start3901, mid3898, hS.to [0, 1] (by kernel_rfl) ⟨rfl, rfl, rfl, rfl, rfl, rfl, rfl, rfl, rfl, trivial⟩, hM⟩
     ·refine wp_seq ?_
      refine wp_region_list <| st1 hS (mv rfl) rfl fun a w hS => st1 hS (asg rfl) rfl fun a w hS => wpList_nil <| then_n <| wp_region_list <| st1 hS (mv rfl) rfl fun a w hS => st1 hS (asg rfl) rfl fun a w hS => wpList_nil <| then_n ?_
      exact hJ3904 _ _ ⟨a_3643, m3644, hS.to [0, 1] (by kernel_rfl) ⟨rfl, rfl, rfl, rfl, rfl, rfl, rfl, rfl, rfl, trivial⟩, hM⟩
    ·intro a w hI
     obtain ⟨start3902, r3903, hS, hM⟩ := hI
     rw [slices_symMergeCmpFunc_huff_packet__b6e1_b35e.j9] at hM
     refine wp_seq <| wp_region_list <| st1 hS (mv rfl) rfl fun a w hS => st1 hS (bin rfl rfl rfl) rfl fun a w hS => st1x (v := Value.int .i64) (x0 := (w64 (n_3899 - (1 : Int)))) hS (asg rfl) rfl fun p3905 a w hz hS => ?_
     have hM := lt_to hz hM; clear hz
     refine wpList_nil <| then_n <| seq_joinJ (fun a w => ∃ (start3929 : Int), Ss 220 [] [(0, .slice A3637 rw3639.length c3638), (1, .int .i64 a_3643), (2, .int .i64 m3644), (3, .int .i64 b_3645), (4, fnv 41 [] []), (18, .int .i64 mid3898), (19, .int .i64 n_3899), (20, .int .i64 start3929)] H [p3636, f3641] F a w ∧ (slices_symMergeCmpFunc_huff_packet__b6e1_b35e.j11 K (slices_symMergeCmpFunc_huff_packet__b6e1_b35e.r K d) data3635 a_3643 m3644 b_3645 mid3898 n_3899 start3929).wp kr kp) (fun J3930 hJ3930 => ?_) ?_
     ·refine wp_block ?_
      refine s_loopJ (fun k3908 a w => ∃ (start3906 : Int) (r3907 : Int), Ss 220 [] [(0, .slice A3637 rw3639.length c3638), (1, .int .i64 a_3643), (2, .int .i64 m3644), (3, .int .i64 b_3645), (4, fnv 41 [] []), (18, .int .i64 mid3898), (19, .int .i64 n_3899), (20, .int .i64 start3906), (21, .int .i64 r3907), (22, .int .i64 p3905)] H [p3636, f3641] F a w ∧ (slices_symMergeCmpFunc_huff_packet__b6e1_b35e.l10 K (slices_symMergeCmpFunc_huff_packet__b6e1_b35e.r K d) data3635 a_3643 m3644 b_3645 mid3898 n_3899 p3905 k3908 start3906 r3907).wp kr kp) K ?_ ?_ ?_
      ·exact ⟨start3902, r3903, hS.to [0, 1] (by kernel_rfl) ⟨rfl, rfl, rfl, rfl, rfl, rfl, rfl, rfl, rfl, rfl, trivial⟩, hM⟩
      ·intro a w hI; obtain ⟨_, _, _, hM⟩ := hI; exact wp_fail hM
      ·intro k3908 a w hI J3928 hJ3928
       obtain ⟨start3906, r3907, hS, hM⟩ := hI
       rw [slices_symMergeCmpFunc_huff_packet__b6e1_b35e.l10] at hM
       refine wp_seq <| wp_seq <| wp_region_list <| st1 hS (mv rfl) rfl fun a w hS => st1 hS (mv rfl) rfl fun a w hS => st1 hS (bin rfl rfl rfl) rfl fun a w hS => wpList_nil <| then_n <| s_cond hS rfl hM (fun hb3909 hM => ?_) (fun hb3909 hM => ?_)
       ·refine wp_skip ?_
        refine then_n <| wp_block <| wp_seq <| wp_region_list <| st1 hS (mv rfl) rfl fun a w hS => st1 hS (mv rfl) rfl fun a w hS => st1 hS (bin rfl rfl rfl) rfl fun a w hS => st1 hS (cvi rfl Try.runUnderlying3 Try.runUnderlying46) rfl fun a w hS => st1 hS (shr rfl rfl rfl) rfl fun a w hS => st1 hS (cvi rfl Try.runUnderlying46 Try.runUnderlying3) rfl fun a w hS => st1x (v := Value.int .i64) (x0 := (wr .i64 (ishr .u64 (wr .u64 (w64 (start3906 + r3907))) (1 : Int)))) hS (asg rfl) rfl fun c_3910 a w hz hS => ?_
        have hM := lt_to hz hM; clear hz
        refine wpList_nil <| then_n <| wp_seq ?_
        obtain ⟨hk3912, hM⟩ := wp_chk hM
        obtain ⟨A3913, c3914, hw3917, hp3915, hc3916⟩ := hr3640.get hk3912
        obtain ⟨hk3919, hM⟩ := wp_chk hM
        obtain ⟨A3920, c3921, hw3924, hp3922, hc3923⟩ := hr3640.get hk3919
        refine draw_begin (vals := [some (fnv 41 [] []), some (.slice A3637 rw3639.length c3638), some (.int .i64 p3905), some (.int .i64 c_3910), some (.int .i64 (w64 (p3905 - c_3910))), some (slp A3637 (Int.toNat (w64 (p3905 - c_3910)) * 2)), some (.agg ⟨[.int .i64 ((rd data3635 (w64 (p3905 - c_3910))).often_), .slice A3913 ((rd data3635 (w64 (p3905 - c_3910))).symbols_).length c3914]⟩), some (.slice A3637 rw3639.length c3638), some (.int .i64 c_3910), some (slp A3637 (Int.toNat c_3910 * 2)), some (.agg ⟨[.int .i64 ((rd data3635 c_3910).often_), .slice A3920 ((rd data3635 c_3910).symbols_).length c3921]⟩), none, none, none]) hS mixed rfl ?_
        intro l w ho hcl hA hst
        refine phq hA hst ho hcl navail nmust 11 [0, 1, 2, 3, 4, 5, 6, 7, 8, 9, 10] rfl rfl rfl rfl rfl (by exact ⟨nR rfl rfl rfl rfl rfl (by exact ovE (mv rfl) rfl), nR rfl rfl rfl rfl rfl (by exact ovE (mv rfl) rfl), nR rfl rfl rfl rfl rfl (by exact ovE (mv rfl) rfl), nR rfl rfl rfl rfl rfl (by exact ovE (mv rfl) rfl), nR rfl rfl rfl rfl rfl (by exact ovE (bin rfl rfl rfl) rfl), nR rfl rfl rfl rfl rfl (by exact ovE (ixV rfl rfl Try.runUnderlying68 Try.sizeOf70 (hV3642.rd (i := 1) rfl) Row.len rfl (hr3640.inb hk3912)) rfl), nR rfl rfl rfl rfl rfl (by exact ovE (ovE (ldVA rfl (hV3642.rd (i := 1) rfl) Row.len (hr3640.inb hk3912) Try.isAgg70 Try.sizeOf70 rfl) (congrArg (fun l => Value.agg ⟨l⟩) hw3917)) rfl), nR rfl rfl rfl rfl rfl (by exact ovE (mv rfl) rfl), nR rfl rfl rfl rfl rfl (by exact ovE (mv rfl) rfl), nR rfl rfl rfl rfl rfl (by exact ovE (ixV rfl rfl Try.runUnderlying68 Try.sizeOf70 (hV3642.rd (i := 1) rfl) Row.len rfl (hr3640.inb hk3919)) rfl), nR rfl rfl rfl rfl rfl (by exact ovE (ovE (ldVA rfl (hV3642.rd (i := 1) rfl) Row.len (hr3640.inb hk3919) Try.isAgg70 Try.sizeOf70 rfl) (congrArg (fun l => Value.agg ⟨l⟩) hw3924)) rfl), trivial⟩) fun D l a w ho hcl hav hpre hm hE hk hA hst => ?_
        have hS := (Ss.mk hE hst).env2 (e' := [(158, fnv 41 [] []), (164, .agg ⟨[.int .i64 ((rd data3635 (w64 (p3905 - c_3910))).often_), .slice A3913 ((rd data3635 (w64 (p3905 - c_3910))).symbols_).length c3914]⟩), (168, .agg ⟨[.int .i64 ((rd data3635 c_3910).often_), .slice A3920 ((rd data3635 c_3910).symbols_).length c3921]⟩)]) ⟨rfl, rfl, rfl, trivial⟩
        refine op_of_nth rfl <| s_callV hS rfl rfl Try.call41 (huff_merged_1_c hG K (T_huff_packet.mk ((rd data3635 (w64 (p3905 - c_3910))).often_) ((rd data3635 (w64 (p3905 - c_3910))).symbols_)) (T_huff_packet.mk ((rd data3635 c_3910).often_) ((rd data3635 c_3910).symbols_)) A3913 c3914 A3920 c3921 (hp3915.rdF (i := 0) rfl) hc3916 (hp3922.rdF (i := 0) rfl) hc3923 (hS.st.part 0 [0, 1] (by kernel_rfl)) (wp_bind hM) (fun x3925 w hM  hst => s_back hS.ev hst.appF rfl fun hS => ?_))
        replace hS : Ss _ _ _ H [p3636, f3641] F _ _ := hS
        refine wpList_nil (then_n ?_)
        replace hst := hS.st
        obtain ⟨hcl, hmust, hav2, hA⟩ := dn (vals' := [some (fnv 41 [] []), some (.slice A3637 rw3639.length c3638), some (.int .i64 p3905), some (.int .i64 c_3910), some (.int .i64 (w64 (p3905 - c_3910))), some (slp A3637 (Int.toNat (w64 (p3905 - c_3910)) * 2)), some (.agg ⟨[.int .i64 ((rd data3635 (w64 (p3905 - c_3910))).often_), .slice A3913 ((rd data3635 (w64 (p3905 - c_3910))).symbols_).length c3914]⟩), some (.slice A3637 rw3639.length c3638), some (.int .i64 c_3910), some (slp A3637 (Int.toNat c_3910 * 2)), some (.agg ⟨[.int .i64 ((rd data3635 c_3910).often_), .slice A3920 ((rd data3635 c_3910).symbols_).length c3921]⟩), some (.int .i64 x3925), some (.bool (decide (x3925 < (0 : Int)))), some (.bool (!(decide (x3925 < (0 : Int)))))]) 11 [(0, 11), (6, 11), (10, 11), (5, 6), (9, 10), (1, 5), (4, 5), (7, 9), (8, 9), (2, 4), (3, 4)] hA hcl hav hm hpre hk rfl rfl rfl rfl rfl rfl rfl
        clear hm hav
        refine phqE hA hst ho hcl hmust [12, 13] rfl rfl rfl (by exact ⟨nR rfl rfl rfl rfl rfl (by exact ovE (bin rfl rfl rfl) rfl), nR rfl rfl rfl rfl rfl (by exact ovE (un rfl rfl) rfl), trivial⟩) fun a w hS => ?_
        replace hS := hS.env2 (e' := [(0, .slice A3637 rw3639.length c3638), (1, .int .i64 a_3643), (2, .int .i64 m3644), (3, .int .i64 b_3645), (4, fnv 41 [] []), (18, .int .i64 mid3898), (19, .int .i64 n_3899), (20, .int .i64 start3906), (21, .int .i64 r3907), (22, .int .i64 p3905), (23, .int .i64 c_3910), (171, .bool (!(decide (x3925 < (0 : Int)))))]) ⟨rfl, rfl, rfl, rfl, rfl, rfl, rfl, rfl, rfl, rfl, rfl, rfl, trivial⟩
        refine then_n <| s_cond hS rfl hM (fun hb3926 hM => ?_) (fun hb3926 hM => ?_)
        ·refine wp_region_list ?_
         refine st1 hS (mv rfl) rfl fun a w hS => st1 hS (bin rfl rfl rfl) rfl fun a w hS => st1x (v := Value.int .i64) (x0 := (w64 (c_3910 + (1 : Int)))) hS (asg rfl) rfl fun start3927 a w hz hS => ?_
         have hM := lt_to hz hM; clear hz
         refine wpList_nil <| blk_n (then_n ?_)
         exact hJ3928 _ _ ⟨start3927, r3907, hS.to [0, 1] (by kernel_rfl) ⟨rfl, rfl, rfl, rfl, rfl, rfl, rfl, rfl, rfl, rfl, trivial⟩, hM⟩
        ·refine wp_region_list ?_
         refine st1 hS (mv rfl) rfl fun a w hS => st1 hS (asg rfl) rfl fun a w hS => wpList_nil <| blk_n (then_n ?_)
         exact hJ3928 _ _ ⟨start3906, c_3910, hS.to [0, 1] (by kernel_rfl) ⟨rfl, rfl, rfl, rfl, rfl, rfl, rfl, rfl, rfl, rfl, trivial⟩, hM⟩
       ·refine wp_exit ?_
        refine then_ex (then_ex (blk_same (then_n ?_)))
        exact hJ3930 _ _ ⟨start3906, hS.to [0, 1] (by kernel_rfl) ⟨rfl, rfl, rfl, rfl, rfl, rfl, rfl, rfl, trivial⟩, hM⟩
     ·intro a w hI
      obtain ⟨start3929, hS, hM⟩ := hI
      rw [slices_symMergeCmpFunc_huff_packet__b6e1_b35e.j11] at hM
      refine wp_seq <| wp_region_list <| st1 hS (mv rfl) rfl fun a w hS => st1 hS (mv rfl) rfl fun a w hS => st1 hS (bin rfl rfl rfl) rfl fun a w hS => st1x (v := Value.int .i64) (x0 := (w64 (n_3899 - start3929))) hS (asg rfl) rfl fun end_3931 a w hz hS => ?_
      have hM := lt_to hz hM; clear hz
      refine wpList_nil <| then_n <| seq_joinJ (fun a w => ∃ (rw3940 : List (Row 2)) (data3941 : (List T_huff_packet)) (f3942 : Frag), Ss 220 [] [(0, .slice A3637 rw3940.length c3638), (1, .int .i64 a_3643), (3, .int .i64 b_3645), (4, fnv 41 [] []), (18, .int .i64 mid3898), (20, .int .i64 start3929), (24, .int .i64 end_3931)] H [p3636, f3942] F a w ∧ (Vec 70 (Row.v (sz := 2)) 2 A3637 rw3940 c3638 f3942) ∧ (RelL (R_huff_packet p3636) data3941 rw3940) ∧ (rw3940.length = rw3639.length) ∧ (slices_symMergeCmpFunc_huff_packet__b6e1_b35e.j12 K (slices_symMergeCmpFunc_huff_packet__b6e1_b35e.r K d) a_3643 b_3645 mid3898 start3929 end_3931 data3941).wp kr kp) (fun J3946 hJ3946 => ?_) ?_
      ·refine wp_seq ?_
       refine wp_region_list <| st1 hS (mv rfl) rfl fun a w hS => st1 hS (mv rfl) rfl fun a w hS => st1 hS (bin rfl rfl rfl) rfl fun a w hS => st1 hS (mv rfl) rfl fun a w hS => g_op 3 true 181 (b := (decide (start3929 < m3644))) (r := (decide (m3644 < end_3931))) hS rfl rfl rfl rfl rfl rfl rfl (fun hb a w hS K hK => ?_) rfl fun a w hS => ?_
       ·refine st1g hS rfl rfl rfl hb (mv rfl) rfl fun a w hS => ?_
        refine st1g hS rfl rfl rfl hb (mv rfl) rfl fun a w hS => st1g hS rfl rfl rfl hb (bin rfl rfl rfl) rfl fun a w hS => ?_
        exact wpList_nil (hK _ _ (hS.up 3 rfl rfl))
       refine wpList_nil <| then_n <| s_cond hS rfl hM (fun hb3932 hM => ?_) (fun hb3932 hM => ?_)
       ·refine wp_region_list ?_
        refine st1 hS (mv rfl) rfl fun a w hS => st1 hS (mv rfl) rfl fun a w hS => st1 hS (mv rfl) rfl fun a w hS => st1 hS (mv rfl) rfl fun a w hS => st1 hS (mv rfl) rfl fun a w hS => s_call hS rfl Try.call47 (slices_rotateCmpFunc_huff_packet__b6e1_b35e_c hG K data3635 start3929 m3644 end_3931 p3636 A3637 c3638 rw3639 f3641 hr3640 hV3642 (hS.st.part 2 [0, 1] (by kernel_rfl)) (wp_bind hM) (fun rw3933 data3934 f3935 w hM h3936 h3937 h3938 hst => s_back hS.ev hst.appF rfl fun hS => ?_))
        replace hS : Ss _ _ _ H [p3636, f3935] F _ _ := hS
        have hz3939 := Eq.trans h3938 hz3647
        replace hS := hS.re 0 (u := .slice A3637 rw3639.length c3638) (v := .slice A3637 rw3933.length c3638) rfl (by rw [h3938])
        replace hS := hS.re 186 (u := .slice A3637 rw3639.length c3638) (v := .slice A3637 rw3933.length c3638) rfl (by rw [h3938])
        refine wpList_nil <| then_n ?_
        exact hJ3946 _ _ ⟨rw3933, data3934, f3935, hS.to [0, 1] (by kernel_rfl) ⟨rfl, rfl, rfl, rfl, rfl, rfl, rfl, trivial⟩, h3936, h3937, hz3939, hM⟩
       ·refine wp_skip ?_
        refine then_n ?_
        exact hJ3946 _ _ ⟨rw3639, data3635, f3641, hS.to [0, 1] (by kernel_rfl) ⟨rfl, rfl, rfl, rfl, rfl, rfl, rfl, trivial⟩, hV3642, hr3640, hz3647, hM⟩
      ·intro a w hI
       obtain ⟨rw3940, data3941, f3942, hS, hV3943, hr3944, hz3945, hM⟩ := hI
       rw [slices_symMergeCmpFunc_huff_packet__b6e1_b35e.j12] at hM
       refine seq_joinJ (fun a w => ∃ (rw3955 : List (Row 2)) (data3956 : (List T_huff_packet)) (f3957 : Frag), Ss 220 [] [(0, .slice A3637 rw3955.length c3638), (3, .int .i64 b_3645), (4, fnv 41 [] []), (18, .int .i64 mid3898), (24, .int .i64 end_3931)] H [p3636, f3957] F a w ∧ (Vec 70 (Row.v (sz := 2)) 2 A3637 rw3955 c3638 f3957) ∧ (RelL (R_huff_packet p3636) data3956 rw3955) ∧ (rw3955.length = rw3639.length) ∧ (slices_symMergeCmpFunc_huff_packet__b6e1_b35e.j13 K (slices_symMergeCmpFunc_huff_packet__b6e1_b35e.r K d) b_3645 mid3898 end_3931 data3956).wp kr kp) (fun J3961 hJ3961 => ?_) ?_
       ·refine wp_seq ?_
        refine wp_region_list <| st1 hS (mv rfl) rfl fun a w hS => st1 hS (mv rfl) rfl fun a w hS => st1 hS (bin rfl rfl rfl) rfl fun a w hS => st1 hS (mv rfl) rfl fun a w hS => g_op 3 true 195 (b := (decide (a_3643 < start3929))) (r := (decide (start3929 < mid3898))) hS rfl rfl rfl rfl rfl rfl rfl (fun hb a w hS K hK => ?_) rfl fun a w hS => ?_
        ·refine st1g hS rfl rfl rfl hb (mv rfl) rfl fun a w hS => ?_
         refine st1g hS rfl rfl rfl hb (mv rfl) rfl fun a w hS => st1g hS rfl rfl rfl hb (bin rfl rfl rfl) rfl fun a w hS => ?_
         exact wpList_nil (hK _ _ (hS.up 3 rfl rfl))
        refine wpList_nil <| then_n <| s_cond hS rfl hM (fun hb3947 hM => ?_) (fun hb3947 hM => ?_)
        ·refine wp_region_list ?_
         refine st1 hS (mv rfl) rfl fun a w hS => st1 hS (mv rfl) rfl fun a w hS => st1 hS (mv rfl) rfl fun a w hS => st1 hS (mv rfl) rfl fun a w hS => st1 hS (mv rfl) rfl fun a w hS => s_call hS rfl Try.call44 (ih hG  data3941 a_3643 start3929 mid3898 p3636 A3637 c3638 rw3940 f3942 hr3944 hV3943 (hS.st.part 2 [0, 1] (by kernel_rfl)) (wp_bind hM) (fun rw3948 data3949 f3950 w hM h3951 h3952 h3953 hst => s_back hS.ev hst.appF rfl fun hS => ?_))
         replace hS : Ss _ _ _ H [p3636, f3950] F _ _ := hS
         have hz3954 := Eq.trans h3953 hz3945
         replace hS := hS.re 0 (u := .slice A3637 rw3940.length c3638) (v := .slice A3637 rw3948.length c3638) rfl (by rw [h3953])
         replace hS := hS.re 200 (u := .slice A3637 rw3940.length c3638) (v := .slice A3637 rw3948.length c3638) rfl (by rw [h3953])
         refine wpList_nil <| then_n ?_
         exact hJ3961 _ _ ⟨rw3948, data3949, f3950, hS.to [0, 1] (by kernel_rfl) ⟨rfl, rfl, rfl, rfl, rfl, trivial⟩, h3951, h3952, hz3954, hM⟩
        ·refine wp_skip ?_
         refine then_n ?_
         exact hJ3961 _ _ ⟨rw3940, data3941, f3942, hS.to [0, 1] (by kernel_rfl) ⟨rfl, rfl, rfl, rfl, rfl, trivial⟩, hV3943, hr3944, hz3945, hM⟩
       ·intro a w hI
        obtain ⟨rw3955, data3956, f3957, hS, hV3958, hr3959, hz3960, hM⟩ := hI
        rw [slices_symMergeCmpFunc_huff_packet__b6e1_b35e.j13] at hM
        refine wp_seq <| wp_region_list <| st1 hS (mv rfl) rfl fun a w hS => st1 hS (mv rfl) rfl fun a w hS => st1 hS (bin rfl rfl rfl) rfl fun a w hS => st1 hS (mv rfl) rfl fun a w hS => g_op 3 true 209 (b := (decide (mid3898 < end_3931))) (r := (decide (end_3931 < b_3645))) hS rfl rfl rfl rfl rfl rfl rfl (fun hb a w hS K hK => ?_) rfl fun a w hS => ?_
        ·refine st1g hS rfl rfl rfl hb (mv rfl) rfl fun a w hS => ?_
         refine st1g hS rfl rfl rfl hb (mv rfl) rfl fun a w hS => st1g hS rfl rfl rfl hb (bin rfl rfl rfl) rfl fun a w hS => ?_
         exact wpList_nil (hK _ _ (hS.up 3 rfl rfl))
        refine wpList_nil <| then_n <| s_cond hS rfl hM (fun hb3962 hM => ?_) (fun hb3962 hM => ?_)
        ·refine wp_region_list ?_
         refine st1 hS (mv rfl) rfl fun a w hS => st1 hS (mv rfl) rfl fun a w hS => st1 hS (mv rfl) rfl fun a w hS => st1 hS (mv rfl) rfl fun a w hS => st1 hS (mv rfl) rfl fun a w hS => s_call hS rfl Try.call44 (ih hG  data3956 mid3898 end_3931 b_3645 p3636 A3637 c3638 rw3955 f3957 hr3959 hV3958 (hS.st.part 2 [0, 1] (by kernel_rfl)) (wp_bind hM) (fun rw3963 data3964 f3965 w hM h3966 h3967 h3968 hst => s_back hS.ev hst.appF rfl fun hS => ?_))
         replace hS : Ss _ _ _ H [p3636, f3965] F _ _ := hS
         have hz3969 := Eq.trans h3968 hz3960
         replace hS := hS.re 0 (u := .slice A3637 rw3955.length c3638) (v := .slice A3637 rw3963.length c3638) rfl (by rw [h3968])
         replace hS := hS.re 214 (u := .slice A3637 rw3955.length c3638) (v := .slice A3637 rw3963.length c3638) rfl (by rw [h3968])
         refine wpList_nil ?_
         exact s_end (rs := []) hS rfl rfl (hret rw3963 data3964 f3965 w (wp_ok hM) h3966 h3967 hz3969 (hS.st.pick [0, 1] (by kernel_rfl)))
        ·refine wp_skip ?_
         exact s_end (rs := []) hS rfl rfl (hret rw3955 data3956 f3957 w (wp_ok hM) hV3958 hr3959 hz3960 (hS.st.pick [0, 1] (by kernel_rfl)))

theorem slices_symMergeCmpFunc_huff_packet__b6e1_b35e_c {H : Imm} {F : List Frag} {w : World} {R : Ending → World → Prop} {kr : (List T_huff_packet) → Prop} {kp : Value → Prop} (hG : Gl H) (K : Nat) (data3635 : List T_huff_packet) (a_3643 : Int) (m3644 : Int) (b_3645 : Int) (p3636 : Frag) (A3637 : Option Addr) (c3638 : Nat) (rw3639 : List (Row 2)) (f3641 : Frag) (hr3640 : RelL (R_huff_packet p3636) data3635 rw3639) (hV3642 : Vec 70 (Row.v (sz := 2)) 2 A3637 rw3639 c3638 f3641)
    (hS : St w H [p3636, f3641] F) (hm : (slices_symMergeCmpFunc_huff_packet__b6e1_b35e.m K data3635 a_3643 m3644 b_3645).wp kr kp)
    (hret : ∀ (rw3970 : List (Row 2)) (data3971 : (List T_huff_packet)) (f3972 : Frag) (w : World), kr data3971 → (Vec 70 (Row.v (sz := 2)) 2 A3637 rw3970 c3638 f3972) → (RelL (R_huff_packet p3636) data3971 rw3970) → (rw3970.length = rw3639.length) → St w H [p3636, f3972] F → R (.returned (.tuple ⟨[]⟩)) w) :
    Calls Try.prog 44 ⟨[.slice A3637 rw3639.length c3638, .int .i64 a_3643, .int .i64 m3644, .int .i64 b_3645, fnv 41 [] []]⟩ w R := slices_symMergeCmpFunc_huff_packet__b6e1_b35e_cr K K hG data3635 a_3643 m3644 b_3645 p3636 A3637 c3638 rw3639 f3641 hr3640 hV3642 hS hm hret

theorem slices_stableCmpFunc_huff_packet__b6e1_c92d_c {H : Imm} {F : List Frag} {w : World} {R : Ending → World → Prop} {kr : (List T_huff_packet) → Prop} {kp : Value → Prop} (hG : Gl H) (K : Nat) (data2703 : List T_huff_packet) (n_2711 : Int) (p2704 : Frag) (A2705 : Option Addr) (c2706 : Nat) (rw2707 : List (Row 2)) (f2709 : Frag) (hr2708 : RelL (R_huff_packet p2704) data2703 rw2707) (hV2710 : Vec 70 (Row.v (sz := 2)) 2 A2705 rw2707 c2706 f2709)
    (hS : St w H [p2704, f2709] F) (hm : (slices_stableCmpFunc_huff_packet__b6e1_c92d.m K data2703 n_2711).wp kr kp)
    (hret : ∀ (rw4106 : List (Row 2)) (data4107 : (List T_huff_packet)) (f4108 : Frag) (w : World), kr data4107 → (Vec 70 (Row.v (sz := 2)) 2 A2705 rw4106 c2706 f4108) → (RelL (R_huff_packet p2704) data4107 rw4106) → (rw4106.length = rw2707.length) → St w H [p2704, f4108] F → R (.returned (.tuple ⟨[]⟩)) w) :
    Calls Try.prog 38 ⟨[.slice A2705 rw2707.length c2706, .int .i64 n_2711, fnv 41 [] []]⟩ w R := by
 refine enter Try.func38 rfl Try.ntmps38 rfl hS fun a w hS => ?_
 have hM := hm; clear hm
 rw [slices_stableCmpFunc_huff_packet__b6e1_c92d.m] at hM
 have hs2712 : ∀ q ∈ p2704, q ∈ p2704 := fun _ h => h
 have hz2713 : rw2707.length = rw2707.length := rfl
 refine wp_seq <| wp_region_list <| st1 hS (asg rfl) rfl fun a w hS => wpList_nil <| then_n <| wp_seq <| wp_region_list <| st1 hS (mv rfl) rfl fun a w hS => st1 hS (asg rfl) rfl fun a w hS => st1 hS (asg rfl) rfl fun a w hS => wpList_nil <| then_n <| seq_joinJ (fun a w => ∃ (rw3082 : List (Row 2)) (data3083 : (List T_huff_packet)) (f3084 : Frag) (a_3088 : Int), Ss 63 [] [(0, .slice A2705 rw3082.length c2706), (1, .int .i64 n_2711), (2, fnv 41 [] []), (6, .int .i64 (20 : Int)), (7, .int .i64 a_3088)] H [p2704, f3084] F a w ∧ (Vec 70 (Row.v (sz := 2)) 2 A2705 rw3082 c2706 f3084) ∧ (RelL (R_huff_packet p2704) data3083 rw3082) ∧ (rw3082.length = rw2707.length) ∧ (slices_stableCmpFunc_huff_packet__b6e1_c92d.j2 K n_2711 data3083 a_3088).wp kr kp) (fun J3089 hJ3089 => ?_) ?_
 ·refine wp_block ?_
  refine s_loopJ (fun k3071 a w => ∃ (rw3063 : List (Row 2)) (data3064 : (List T_huff_packet)) (f3065 : Frag) (a_3069 : Int) (b_3070 : Int), Ss 63 [] [(0, .slice A2705 rw3063.length c2706), (1, .int .i64 n_2711), (2, fnv 41 [] []), (6, .int .i64 (20 : Int)), (7, .int .i64 a_3069), (8, .int .i64 b_3070)] H [p2704, f3065] F a w ∧ (Vec 70 (Row.v (sz := 2)) 2 A2705 rw3063 c2706 f3065) ∧ (RelL (R_huff_packet p2704) data3064 rw3063) ∧ (rw3063.length = rw2707.length) ∧ (slices_stableCmpFunc_huff_packet__b6e1_c92d.l1 K n_2711 k3071 data3064 a_3069 b_3070).wp kr kp) K ?_ ?_ ?_
  ·exact ⟨rw2707, data2703, f2709, (0 : Int), (20 : Int), hS.to [0, 1] (by kernel_rfl) ⟨rfl, rfl, rfl, rfl, rfl, rfl, trivial⟩, hV2710, hr2708, hz2713, hM⟩
  ·intro a w hI; obtain ⟨_, _, _, _, _, _, _, _, _, hM⟩ := hI; exact wp_fail hM
  ·intro k3071 a w hI J3081 hJ3081
   obtain ⟨rw3063, data3064, f3065, a_3069, b_3070, hS, hV3066, hr3067, hz3068, hM⟩ := hI
   rw [slices_stableCmpFunc_huff_packet__b6e1_c92d.l1] at hM
   refine wp_seq <| wp_seq <| wp_region_list <| st1 hS (mv rfl) rfl fun a w hS => st1 hS (mv rfl) rfl fun a w hS => st1 hS (bin rfl rfl rfl) rfl fun a w hS => wpList_nil <| then_n <| s_cond hS rfl hM (fun hb3072 hM => ?_) (fun hb3072 hM => ?_)
   ·refine wp_skip ?_
    refine then_n <| wp_block <| wp_seq <| wp_region_list <| st1 hS (mv rfl) rfl fun a w hS => st1 hS (mv rfl) rfl fun a w hS => st1 hS (mv rfl) rfl fun a w hS => st1 hS (mv rfl) rfl fun a w hS => s_call hS rfl Try.call43 (slices_insertionSortCmpFunc_huff_packet__b6e1_dee5_c hG K data3064 a_3069 b_3070 p2704 A2705 c2706 rw3063 f3065 hr3067 hV3066 (hS.st.part 2 [0, 1] (by kernel_rfl)) (wp_bind hM) (fun rw3073 data3074 f3075 w hM h3076 h3077 h3078 hst => s_back hS.ev hst.appF rfl fun hS => ?_))
    replace hS : Ss _ _ _ H [p2704, f3075] F _ _ := hS
    have hz3079 := Eq.trans h3078 hz3068
    replace hS := hS.re 0 (u := .slice A2705 rw3063.length c2706) (v := .slice A2705 rw3073.length c2706) rfl (by rw [h3078])
    replace hS := hS.re 14 (u := .slice A2705 rw3063.length c2706) (v := .slice A2705 rw3073.length c2706) rfl (by rw [h3078])
    refine wpList_nil <| then_n <| wp_seq <| wp_region_list <| st1 hS (mv rfl) rfl fun a w hS => st1 hS (asg rfl) rfl fun a w hS => wpList_nil <| then_n <| wp_region_list <| st1 hS (mv rfl) rfl fun a w hS => st1 hS (mv rfl) rfl fun a w hS => st1 hS (bin rfl rfl rfl) rfl fun a w hS => st1x (v := Value.int .i64) (x0 := (w64 (b_3070 + (20 : Int)))) hS (asg rfl) rfl fun b_3080 a w hz hS => ?_
    have hM := lt_to hz hM; clear hz
    refine wpList_nil <| blk_n (then_n ?_)
    exact hJ3081 _ _ ⟨rw3073, data3074, f3075, b_3070, b_3080, hS.to [0, 1] (by kernel_rfl) ⟨rfl, rfl, rfl, rfl, rfl, rfl, trivial⟩, h3076, h3077, hz3079, hM⟩
   ·refine wp_exit ?_
    refine then_ex (then_ex (blk_same (then_n ?_)))
    exact hJ3089 _ _ ⟨rw3063, data3064, f3065, a_3069, hS.to [0, 1] (by kernel_rfl) ⟨rfl, rfl, rfl, rfl, rfl, trivial⟩, hV3066, hr3067, hz3068, hM⟩
 ·intro a w hI
  obtain ⟨rw3082, data3083, f3084, a_3088, hS, hV3085, hr3086, hz3087, hM⟩ := hI
  rw [slices_stableCmpFunc_huff_packet__b6e1_c92d.j2] at hM
  refine wp_seq <| wp_region_list <| st1 hS (mv rfl) rfl fun a w hS => st1 hS (mv rfl) rfl fun a w hS => st1 hS (mv rfl) rfl fun a w hS => st1 hS (mv rfl) rfl fun a w hS => s_call hS rfl Try.call43 (slices_insertionSortCmpFunc_huff_packet__b6e1_dee5_c hG K data3083 a_3088 n_2711 p2704 A2705 c2706 rw3082 f3084 hr3086 hV3085 (hS.st.part 2 [0, 1] (by kernel_rfl)) (wp_bind hM) (fun rw3090 data3091 f3092 w hM h3093 h3094 h3095 hst => s_back hS.ev hst.appF rfl fun hS => ?_))
  replace hS : Ss _ _ _ H [p2704, f3092] F _ _ := hS
  have hz3096 := Eq.trans h3095 hz3087
  replace hS := hS.re 0 (u := .slice A2705 rw3082.length c2706) (v := .slice A2705 rw3090.length c2706) rfl (by rw [h3095])
  replace hS := hS.re 23 (u := .slice A2705 rw3082.length c2706) (v := .slice A2705 rw3090.length c2706) rfl (by rw [h3095])
  refine wpList_nil <| then_n <| wp_block <| s_loopJ (fun k4044 a w => ∃ (rw4037 : List (Row 2)) (data4038 : (List T_huff_packet)) (f4039 : Frag) (blockSize4043 : Int), Ss 63 [] [(0, .slice A2705 rw4037.length c2706), (1, .int .i64 n_2711), (2, fnv 41 [] []), (6, .int .i64 blockSize4043)] H [p2704, f4039] F a w ∧ (Vec 70 (Row.v (sz := 2)) 2 A2705 rw4037 c2706 f4039) ∧ (RelL (R_huff_packet p2704) data4038 rw4037) ∧ (rw4037.length = rw2707.length) ∧ (slices_stableCmpFunc_huff_packet__b6e1_c92d.l3 K n_2711 k4044 data4038 blockSize4043).wp kr kp) K ?_ ?_ ?_
  ·exact ⟨rw3090, data3091, f3092, (20 : Int), hS.to [0, 1] (by kernel_rfl) ⟨rfl, rfl, rfl, rfl, trivial⟩, h3093, h3094, hz3096, hM⟩
  ·intro a w hI; obtain ⟨_, _, _, _, _, _, _, _, hM⟩ := hI; exact wp_fail hM
  ·intro k4044 a w hI J4105 hJ4105
   obtain ⟨rw4037, data4038, f4039, blockSize4043, hS, hV4040, hr4041, hz4042, hM⟩ := hI
   rw [slices_stableCmpFunc_huff_packet__b6e1_c92d.l3] at hM
   refine wp_seq <| wp_seq <| wp_region_list <| st1 hS (mv rfl) rfl fun a w hS => st1 hS (mv rfl) rfl fun a w hS => st1 hS (bin rfl rfl rfl) rfl fun a w hS => wpList_nil <| then_n <| s_cond hS rfl hM (fun hb4045 hM => ?_) (fun hb4045 hM => ?_)
   ·refine wp_skip ?_
    refine then_n <| wp_block <| wp_seq <| wp_region_list <| st1 hS (mv rfl) rfl fun a w hS => st1 hS (bin rfl rfl rfl) rfl fun a w hS => st1 hS (asg rfl) rfl fun a w hS => st1x (v := Value.int .i64) (x0 := (w64 ((2 : Int) * blockSize4043))) hS (asg rfl) rfl fun b_4046 a w hz hS => ?_
    have hM := lt_to hz hM; clear hz
    refine wpList_nil <| then_n <| seq_joinJ (fun a w => ∃ (rw4086 : List (Row 2)) (data4087 : (List T_huff_packet)) (f4088 : Frag) (a_4092 : Int), Ss 63 [] [(0, .slice A2705 rw4086.length c2706), (1, .int .i64 n_2711), (2, fnv 41 [] []), (6, .int .i64 blockSize4043), (7, .int .i64 a_4092)] H [p2704, f4088] F a w ∧ (Vec 70 (Row.v (sz := 2)) 2 A2705 rw4086 c2706 f4088) ∧ (RelL (R_huff_packet p2704) data4087 rw4086) ∧ (rw4086.length = rw2707.length) ∧ (slices_stableCmpFunc_huff_packet__b6e1_c92d.j5 K (slices_stableCmpFunc_huff_packet__b6e1_c92d.l3 K n_2711 k4044) n_2711 blockSize4043 data4087 a_4092).wp kr kp) (fun J4093 hJ4093 => ?_) ?_
    ·refine wp_block ?_
     refine s_loopJ (fun k4075 a w => ∃ (rw4067 : List (Row 2)) (data4068 : (List T_huff_packet)) (f4069 : Frag) (a_4073 : Int) (b_4074 : Int), Ss 63 [] [(0, .slice A2705 rw4067.length c2706), (1, .int .i64 n_2711), (2, fnv 41 [] []), (6, .int .i64 blockSize4043), (7, .int .i64 a_4073), (8, .int .i64 b_4074)] H [p2704, f4069] F a w ∧ (Vec 70 (Row.v (sz := 2)) 2 A2705 rw4067 c2706 f4069) ∧ (RelL (R_huff_packet p2704) data4068 rw4067) ∧ (rw4067.length = rw2707.length) ∧ (slices_stableCmpFunc_huff_packet__b6e1_c92d.l4 K (slices_stableCmpFunc_huff_packet__b6e1_c92d.l3 K n_2711 k4044) n_2711 blockSize4043 k4075 data4068 a_4073 b_4074).wp kr kp) K ?_ ?_ ?_
     ·exact ⟨rw4037, data4038, f4039, (0 : Int), b_4046, hS.to [0, 1] (by kernel_rfl) ⟨rfl, rfl, rfl, rfl, rfl, rfl, trivial⟩, hV4040, hr4041, hz4042, hM⟩
     ·intro a w hI; obtain ⟨_, _, _, _, _, _, _, _, _, hM⟩ := hI; exact wp_fail hM
     ·intro k4075 a w hI J4085 hJ4085
      obtain ⟨rw4067, data4068, f4069, a_4073, b_4074, hS, hV4070, hr4071, hz4072, hM⟩ := hI
      rw [slices_stableCmpFunc_huff_packet__b6e1_c92d.l4] at hM
      refine wp_seq <| wp_seq <| wp_region_list <| st1 hS (mv rfl) rfl fun a w hS => st1 hS (mv rfl) rfl fun a w hS => st1 hS (bin rfl rfl rfl) rfl fun a w hS => wpList_nil <| then_n <| s_cond hS rfl hM (fun hb4076 hM => ?_) (fun hb4076 hM => ?_)
      ·refine wp_skip ?_
       refine then_n <| wp_block <| wp_seq <| wp_region_list <| st1 hS (mv rfl) rfl fun a w hS => st1 hS (mv rfl) rfl fun a w hS => st1 hS (mv rfl) rfl fun a w hS => st1 hS (mv rfl) rfl fun a w hS => st1 hS (bin rfl rfl rfl) rfl fun a w hS => st1 hS (mv rfl) rfl fun a w hS => st1 hS (mv rfl) rfl fun a w hS => s_call hS rfl Try.call44 (slices_symMergeCmpFunc_huff_packet__b6e1_b35e_c hG K data4068 a_4073 (w64 (a_4073 + blockSize4043)) b_4074 p2704 A2705 c2706 rw4067 f4069 hr4071 hV4070 (hS.st.part 2 [0, 1] (by kernel_rfl)) (wp_bind hM) (fun rw4077 data4078 f4079 w hM h4080 h4081 h4082 hst => s_back hS.ev hst.appF rfl fun hS => ?_))
       replace hS : Ss _ _ _ H [p2704, f4079] F _ _ := hS
       have hz4083 := Eq.trans h4082 hz4072
       replace hS := hS.re 0 (u := .slice A2705 rw4067.length c2706) (v := .slice A2705 rw4077.length c2706) rfl (by rw [h4082])
       replace hS := hS.re 36 (u := .slice A2705 rw4067.length c2706) (v := .slice A2705 rw4077.length c2706) rfl (by rw [h4082])
       refine wpList_nil <| then_n <| wp_seq <| wp_region_list <| st1 hS (mv rfl) rfl fun a w hS => st1 hS (asg rfl) rfl fun a w hS => wpList_nil <| then_n <| wp_region_list <| st1 hS (mv rfl) rfl fun a w hS => st1 hS (mv rfl) rfl fun a w hS => st1 hS (bin rfl rfl rfl) rfl fun a w hS => st1 hS (bin rfl rfl rfl) rfl fun a w hS => st1x (v := Value.int .i64) (x0 := (w64 (b_4074 + (w64 ((2 : Int) * blockSize4043))))) hS (asg rfl) rfl fun b_4084 a w hz hS => ?_
       have hM := lt_to hz hM; clear hz
       refine wpList_nil <| blk_n (then_n ?_)
       exact hJ4085 _ _ ⟨rw4077, data4078, f4079, b_4074, b_4084, hS.to [0, 1] (by kernel_rfl) ⟨rfl, rfl, rfl, rfl, rfl, rfl, trivial⟩, h4080, h4081, hz4083, hM⟩
      ·refine wp_exit ?_
       refine then_ex (then_ex (blk_same (then_n ?_)))
       exact hJ4093 _ _ ⟨rw4067, data4068, f4069, a_4073, hS.to [0, 1] (by kernel_rfl) ⟨rfl, rfl, rfl, rfl, rfl, trivial⟩, hV4070, hr4071, hz4072, hM⟩
    ·intro a w hI
     obtain ⟨rw4086, data4087, f4088, a_4092, hS, hV4089, hr4090, hz4091, hM⟩ := hI
     rw [slices_stableCmpFunc_huff_packet__b6e1_c92d.j5] at hM
     refine wp_seq <| wp_seq <| wp_region_list <| st1 hS (mv rfl) rfl fun a w hS => st1 hS (mv rfl) rfl fun a w hS => st1 hS (bin rfl rfl rfl) rfl fun a w hS => st1x (v := Value.int .i64) (x0 := (w64 (a_4092 + blockSize4043))) hS (asg rfl) rfl fun m4094 a w hz hS => ?_
     have hM := lt_to hz hM; clear hz
     refine wpList_nil <| then_n <| wp_seq <| wp_region_list <| st1 hS (mv rfl) rfl fun a w hS => st1 hS (mv rfl) rfl fun a w hS => st1 hS (bin rfl rfl rfl) rfl fun a w hS => wpList_nil <| then_n <| s_cond hS rfl hM (fun hb4095 hM => ?_) (fun hb4095 hM => ?_)
     ·refine wp_region_list ?_
      refine st1 hS (mv rfl) rfl fun a w hS => st1 hS (mv rfl) rfl fun a w hS => st1 hS (mv rfl) rfl fun a w hS => st1 hS (mv rfl) rfl fun a w hS => st1 hS (mv rfl) rfl fun a w hS => s_call hS rfl Try.call44 (slices_symMergeCmpFunc_huff_packet__b6e1_b35e_c hG K data4087 a_4092 m4094 n_2711 p2704 A2705 c2706 rw4086 f4088 hr4090 hV4089 (hS.st.part 2 [0, 1] (by kernel_rfl)) (wp_bind hM) (fun rw4096 data4097 f4098 w hM h4099 h4100 h4101 hst => s_back hS.ev hst.appF rfl fun hS => ?_))
      replace hS : Ss _ _ _ H [p2704, f4098] F _ _ := hS
      have hz4102 := Eq.trans h4101 hz4091
      replace hS := hS.re 0 (u := .slice A2705 rw4086.length c2706) (v := .slice A2705 rw4096.length c2706) rfl (by rw [h4101])
      replace hS := hS.re 55 (u := .slice A2705 rw4086.length c2706) (v := .slice A2705 rw4096.length c2706) rfl (by rw [h4101])
      refine wpList_nil <| then_n <| wp_region_list <| st1 hS (mv rfl) rfl fun a w hS => st1 hS (bin rfl rfl rfl) rfl fun a w hS => st1x (v := Value.int .i64) (x0 := (w64 (blockSize4043 * (2 : Int)))) hS (asg rfl) rfl fun blockSize4103 a w hz hS => ?_
      have hM := lt_to hz hM; clear hz
      refine wpList_nil <| blk_n (then_n ?_)
      exact hJ4105 _ _ ⟨rw4096, data4097, f4098, blockSize4103, hS.to [0, 1] (by kernel_rfl) ⟨rfl, rfl, rfl, rfl, trivial⟩, h4099, h4100, hz4102, hM⟩
     ·refine wp_skip ?_
      refine then_n <| wp_region_list <| st1 hS (mv rfl) rfl fun a w hS => st1 hS (bin rfl rfl rfl) rfl fun a w hS => st1x (v := Value.int .i64) (x0 := (w64 (blockSize4043 * (2 : Int)))) hS (asg rfl) rfl fun blockSize4104 a w hz hS => ?_
      have hM := lt_to hz hM; clear hz
      refine wpList_nil <| blk_n (then_n ?_)
      exact hJ4105 _ _ ⟨rw4086, data4087, f4088, blockSize4104, hS.to [0, 1] (by kernel_rfl) ⟨rfl, rfl, rfl, rfl, trivial⟩, hV4089, hr4090, hz4091, hM⟩
   ·refine wp_exit ?_
    refine then_ex (then_ex (blk_same ?_))
    exact s_end (rs := []) hS rfl rfl (hret rw4037 data4038 f4039 w (wp_ok hM) hV4040 hr4041 hz4042 (hS.st.pick [0, 1] (by kernel_rfl)))

theorem slices_SortStableFunc___huff_packet_huff_packet__b6e1_f734_c {H : Imm} {F : List Frag} {w : World} {R : Ending → World → Prop} {kr : (List T_huff_packet) → Prop} {kp : Value → Prop} (hG : Gl H) (K : Nat) (x2693 : List T_huff_packet) (p2694 : Frag) (A2695 : Option Addr) (c2696 : Nat) (rw2697 : List (Row 2)) (f2699 : Frag) (hr2698 : RelL (R_huff_packet p2694) x2693 rw2697) (hV2700 : Vec 70 (Row.v (sz := 2)) 2 A2695 rw2697 c2696 f2699)
    (hS : St w H [p2694, f2699] F) (hm : (slices_SortStableFunc___huff_packet_huff_packet__b6e1_f734.m K x2693).wp kr kp)
    (hret : ∀ (rw4119 : List (Row 2)) (x4120 : (List T_huff_packet)) (f4121 : Frag) (w : World), kr x4120 → (Vec 70 (Row.v (sz := 2)) 2 A2695 rw4119 c2696 f4121) → (RelL (R_huff_packet p2694) x4120 rw4119) → (rw4119.length = rw2697.length) → St w H [p2694, f4121] F → R (.returned (.tuple ⟨[]⟩)) w) :
    Calls Try.prog 32 ⟨[.slice A2695 rw2697.length c2696, fnv 41 [] []]⟩ w R := by
 refine enter Try.func32 rfl Try.ntmps32 rfl hS fun a w hS => ?_
 have hM := hm; clear hm
 rw [slices_SortStableFunc___huff_packet_huff_packet__b6e1_f734.m] at hM
 have hs2701 : ∀ q ∈ p2694, q ∈ p2694 := fun _ h => h
 have hz2702 : rw2697.length = rw2697.length := rfl
 refine wp_region_list <| st1 hS (mv rfl) rfl fun a w hS => st1 hS (mv rfl) rfl fun a w hS => st1 hS (ovE (v' := .int .i64 (x2693.length : Int)) (lenV rfl Try.runUnderlying68) (by rw [hr2698.len])) rfl fun a w hS => st1 hS (mv rfl) rfl fun a w hS => s_call hS rfl Try.call38 (slices_stableCmpFunc_huff_packet__b6e1_c92d_c hG K x2693 (x2693.length : Int) p2694 A2695 c2696 rw2697 f2699 hr2698 hV2700 (hS.st.part 2 [0, 1] (by kernel_rfl)) (wp_bind hM) (fun rw4112 data4113 f4114 w hM h4115 h4116 h4117 hst => s_back hS.ev hst.appF rfl fun hS => ?_))
 replace hS : Ss _ _ _ H [p2694, f4114] F _ _ := hS
 have hz4118 := Eq.trans h4117 hz2702
 replace hS := hS.re 0 (u := .slice A2695 rw2697.length c2696) (v := .slice A2695 rw4112.length c2696) rfl (by rw [h4117])
 replace hS := hS.re 4 (u := .slice A2695 rw2697.length c2696) (v := .slice A2695 rw4112.length c2696) rfl (by rw [h4117])
 replace hS := hS.re 5 (u := .slice A2695 rw2697.length c2696) (v := .slice A2695 rw4112.length c2696) rfl (by rw [h4117])
 refine wpList_nil ?_
 exact s_end (rs := []) hS rfl rfl (hret rw4112 data4113 f4114 w (wp_ok hM) h4115 h4116 hz4118 (hS.st.pick [0, 1] (by kernel_rfl)))

theorem huff_merged_c {H : Imm} {F : List Frag} {w : World} {R : Ending → World → Prop} {kr : (List T_huff_packet) → Prop} {kp : Value → Prop} (hG : Gl H) (K : Nat) (a_2528 : List T_huff_packet) (b_2536 : List T_huff_packet) (p2529 : Frag) (A2530 : Option Addr) (c2531 : Nat) (rw2532 : List (Row 2)) (A2537 : Option Addr) (c2538 : Nat) (rw2539 : List (Row 2)) (hr2533 : RelL (R_huff_packet p2529) a_2528 rw2532) (hp2534 : Pl p2529 (Row.v (sz := 2)) A2530 rw2532) (hc2535 : rw2532.length ≤ c2531) (hr2540 : RelL (R_huff_packet p2529) b_2536 rw2539) (hp2541 : Pl p2529 (Row.v (sz := 2)) A2537 rw2539) (hc2542 : rw2539.length ≤ c2538)
    (hS : St w H [p2529] F) (hm : (huff_merged.m K a_2528 b_2536).wp kr kp)
    (hret : ∀ (p4131 : Frag) (A4133 : Option Addr) (c4134 : Nat) (rw4135 : List (Row 2)) (x4136 : (List T_huff_packet)) (f4137 : Frag) (w : World), kr x4136 → (∀ q ∈ p2529, q ∈ p4131) → (Vec 70 (Row.v (sz := 2)) 2 A4133 rw4135 c4134 f4137) → (RelL (R_huff_packet p4131) x4136 rw4135) → St w H [p4131, f4137] F → R (.returned (.slice A4133 rw4135.length c4134)) w)
    (hpan : ∀ v w, kp v → St w H [] F → R (.panicked [⟨v, false, false⟩]) w) :
    Calls Try.prog 35 ⟨[.slice A2530 rw2532.length c2531, .slice A2537 rw2539.length c2538]⟩ w R := by
 refine enter Try.func35 rfl Try.ntmps35 rfl hS fun a w hS => ?_
 have hM := hm; clear hm
 rw [huff_merged.m] at hM
 have hs2543 : ∀ q ∈ p2529, q ∈ p2529 := fun _ h => h
 refine wp_seq <| wp_region_list <| st1 hS (asg rfl) rfl fun a w hS => ?_
 obtain ⟨f2544, hV2545, hS⟩ := hS.nilV 70 (Row.v (sz := 2)) 2
 have hr2546 : RelL (R_huff_packet p2529) ([] : List T_huff_packet) ([] : List (Row 2)) := RelL.nil
 refine wpList_nil <| then_n <| wp_seq <| wp_region_list <| st1 hS (mv rfl) rfl fun a w hS => st1 hS (mv rfl) rfl fun a w hS => ?_
 obtain ⟨rw2552, hrw⟩ : ∃ r, r = ([(⟨[.slice A2530 rw2532.length c2531], by simp, by simp [Value.oneCell']⟩ : Row 1), (⟨[.slice A2537 rw2539.length c2538], by simp, by simp [Value.oneCell']⟩ : Row 1)] : List (Row 1)) := ⟨_, rfl⟩
 have hr2551 : RelL (R_s_huff_packet p2529) ([a_2528, b_2536] : List (List T_huff_packet)) rw2552 := by rw [hrw]; exact (RelL.cons (show R_s_huff_packet p2529 _ _ from ⟨A2530, c2531, rw2532, rfl, hr2533, hp2534, hc2535⟩) (RelL.cons (show R_s_huff_packet p2529 _ _ from ⟨A2537, c2538, rw2539, rfl, hr2540, hp2541, hc2542⟩) RelL.nil))
 refine bsl (g := (Row.v (sz := 1))) rw2552 [.slice A2530 rw2532.length c2531, .slice A2537 rw2539.length c2538] hS Try.runUnderlying84 Try.sizeOf68 X.el68 rfl rfl rfl (by simp [Value.cells]) (by rw [hrw]; rfl) (by rw [hrw]; rfl) rfl rfl rfl fun w A2547 c2548 f2549 hV2550 hS => ?_
 clear hrw
 replace hS := hS.front [0, 2, 1] (by kernel_rfl)
 obtain ⟨p2553, hs2554, hs2555, hS⟩ := hS.poolF
 have hc2557 := hV2550.cap Row.len rfl
 have hp2556 := hV2550.pl.mono hs2554
 replace hp2534 := hp2534.mono hs2555
 replace hp2541 := hp2541.mono hs2555
 replace hr2533 := RelL.mono (fun _ _ h => R_huff_packet.mono hs2555 h) hr2533
 replace hr2540 := RelL.mono (fun _ _ h => R_huff_packet.mono hs2555 h) hr2540
 replace hr2546 := RelL.mono (fun _ _ h => R_huff_packet.mono hs2555 h) hr2546
 replace hr2551 := RelL.mono (fun _ _ h => R_s_huff_packet.mono hs2555 h) hr2551
 replace hs2543 := fun q h => hs2555 q (hs2543 q h)
 refine s_call hS rfl Try.call40 (slices_Concat___huff_packet_huff_packet__c hG K ([a_2528, b_2536] : List (List T_huff_packet)) p2553 A2547 c2548 rw2552 hr2551 hp2556 hc2557 (hS.st.part 1 [0, 1] (by kernel_rfl)) (wp_bind hM) (fun p2684 A2685 c2686 rw2687 x2688 f2689 w hM h2690 h2691 h2692 hst => s_back hS.ev hst.appF rfl fun hS => ?_) (fun v w hk hst => s_pan (then_pan (⟨hS.ev.defs, hpan _ _ hk hst.appF.frame⟩))))
 replace hS : Ss _ _ _ H [p2684, f2689, f2544] F _ _ := hS
 replace hp2534 := hp2534.mono h2690
 replace hp2541 := hp2541.mono h2690
 replace hp2556 := hp2556.mono h2690
 replace hr2533 := RelL.mono (fun _ _ h => R_huff_packet.mono h2690 h) hr2533
 replace hr2540 := RelL.mono (fun _ _ h => R_huff_packet.mono h2690 h) hr2540
 replace hr2546 := RelL.mono (fun _ _ h => R_huff_packet.mono h2690 h) hr2546
 replace hr2551 := RelL.mono (fun _ _ h => R_s_huff_packet.mono h2690 h) hr2551
 replace hs2543 := fun q h => h2690 q (hs2543 q h)
 refine st1 hS (asg rfl) rfl fun a w hS => wpList_nil <| then_n <| wp_seq <| wp_region_list <| st1 hS (mv rfl) rfl fun a w hS => s_call hS rfl Try.call32 (slices_SortStableFunc___huff_packet_huff_packet__b6e1_f734_c hG K x2688 p2684 A2685 c2686 rw2687 f2689 h2692 h2691 (hS.st.part 2 [0, 1, 2] (by kernel_rfl)) (wp_bind hM) (fun rw4125 x4126 f4127 w hM h4128 h4129 h4130 hst => s_back hS.ev hst.appF rfl fun hS => ?_))
 replace hS : Ss _ _ _ H [p2684, f4127, f2544] F _ _ := hS
 replace hS := hS.re 5 (u := .slice A2685 rw2687.length c2686) (v := .slice A2685 rw4125.length c2686) rfl (by rw [h4130])
 replace hS := hS.re 9 (u := .slice A2685 rw2687.length c2686) (v := .slice A2685 rw4125.length c2686) rfl (by rw [h4130])
 replace hS := hS.re 10 (u := .slice A2685 rw2687.length c2686) (v := .slice A2685 rw4125.length c2686) rfl (by rw [h4130])
 refine wpList_nil <| then_n <| wp_seq <| wp_region_list <| st1 hS (mv rfl) rfl fun a w hS => st1 hS (asg rfl) rfl fun a w hS => wpList_nil <| then_n <| wp_ret ?_
 exact s_ret (rs := [4]) hS rfl rfl (hret p2684 A2685 c2686 rw4125 x4126 f4127 w (wp_ok hM) hs2543 h4128 h4129 (hS.st.pick [0, 1] (by kernel_rfl)))

theorem huff_Lengths_c {H : Imm} {F : List Frag} {w : World} {R : Ending → World → Prop} {kr : ((List Int) × Int) → Prop} {kp : Value → Prop} (hG : Gl H) (K : Nat) (often627 : List Int) (most632 : Int) (A628 : Option Addr) (c629 : Nat) (hr630 : Rdl H [] F (ci .i64) A628 often627) (hc631 : often627.length ≤ c629)
    (hS : St w H [] F) (hm : (huff_Lengths.m K often627 most632).wp kr kp)
    (hret : ∀ (A4354 : Option Addr) (c4355 : Nat) (x4356 : (List Int)) (f4357 : Frag) (x4359 : Int) (w : World), kr (x4356, x4359) → (Vec 3 (ci .i64) 1 A4354 x4356 c4355 f4357) → St w H [f4357] F → R (.returned (.tuple ⟨[.slice A4354 x4356.length c4355, .int .i64 x4359]⟩)) w)
    (hpan : ∀ v w, kp v → St w H [] F → R (.panicked [⟨v, false, false⟩]) w) :
    Calls Try.prog 20 ⟨[.slice A628 often627.length c629, .int .i64 most632]⟩ w R := by
 refine enter Try.func20 rfl Try.ntmps20 rfl hS fun a w hS => ?_
 have hM := hm; clear hm
 rw [huff_Lengths.m] at hM
 refine wp_seq <| wp_region_list <| st1 hS (asg rfl) rfl fun a w hS => ?_
 obtain ⟨f633, hV634, hS⟩ := hS.nilV 3 (ci .i64) 1
 refine st1 hS (asg rfl) rfl fun a w hS => wpList_nil <| then_n <| wp_seq <| wp_seq <| wp_region_list <| st1 hS (mv rfl) rfl fun a w hS => st1 hS (bin rfl rfl rfl) rfl fun a w hS => st1 hS (mv rfl) rfl fun a w hS => g_op 2 false 17 (b := (decide (most632 < (1 : Int)))) (r := (decide (most632 > (15 : Int)))) hS rfl rfl rfl rfl rfl rfl rfl (fun hb a w hS K hK => ?_) rfl fun a w hS => ?_
 ·refine st1g hS rfl rfl rfl hb (mv rfl) rfl fun a w hS => ?_
  refine st1g hS rfl rfl rfl hb (bin rfl rfl rfl) rfl fun a w hS => ?_
  exact wpList_nil (hK _ _ (hS.up 2 rfl rfl))
 refine st1 hS (mv rfl) rfl fun a w hS => g_op 3 false 21 (b := ((decide (most632 < (1 : Int))) || (decide (most632 > (15 : Int))))) (r := (decide ((often627.length : Int) > (320 : Int)))) hS rfl rfl rfl rfl rfl rfl rfl (fun hb a w hS K hK => ?_) rfl fun a w hS => ?_
 ·refine st1g hS rfl rfl rfl hb (mv rfl) rfl fun a w hS => ?_
  refine st1g hS rfl rfl rfl hb (lenV rfl Try.runUnderlying22) rfl fun a w hS => st1g hS rfl rfl rfl hb (bin rfl rfl rfl) rfl fun a w hS => ?_
  exact wpList_nil (hK _ _ (hS.up 3 rfl rfl))
 refine st1 hS (mv rfl) rfl fun a w hS => seg_cutJ (fun a w => ∃ (v661 : Bool), Ss 109 [] [(0, .slice A628 often627.length c629), (1, .int .i64 most632), (29, .bool v661)] H [] F a w ∧ (huff_Lengths.j1 K often627 most632 v661).wp kr kp) 3 (fun J662 hJ662 => ?_) ?_
 ·refine ifB (b := (((decide (most632 < (1 : Int))) || (decide (most632 > (15 : Int)))) || (decide ((often627.length : Int) > (320 : Int))))) hM (fun hb635 hM => ?_) (fun hb635 hM => ?_)
  ·replace hS := hS.re 25 (v := .bool true) rfl (congrArg Value.bool hb635)
   replace hS := hS.re 26 (v := .bool true) rfl (congrArg Value.bool hb635)
   refine skips 2 hS rfl fun a w hS => st1 hS (pk rfl rfl rfl) rfl fun a w hS => wpList_nil <| then_n ?_
   exact hJ662 _ _ ⟨true, hS.to [] (by kernel_rfl) ⟨rfl, rfl, rfl, trivial⟩, hM⟩
  ·replace hS := hS.re 25 (v := .bool false) rfl (congrArg Value.bool hb635)
   replace hS := hS.re 26 (v := .bool false) rfl (congrArg Value.bool hb635)
   refine st1g hS rfl rfl rfl rfl (mv rfl) rfl fun a w hS => unguard hS rfl rfl rfl rfl <| s_call hS rfl Try.call30 (slices_ContainsFunc___int_int__5d67_c hG K often627 A628 c629 (hr630.app _) hc631 (hS.st.part 0 [0] (by kernel_rfl)) (wp_bind hM) (fun x660 w hM  hst => s_back hS.ev hst.appF rfl fun hS => ?_))
   replace hS : Ss _ _ _ H [f633] F _ _ := hS
   refine st1 hS (pk rfl rfl rfl) rfl fun a w hS => wpList_nil <| then_n ?_
   exact hJ662 _ _ ⟨x660, hS.to [] (by kernel_rfl) ⟨rfl, rfl, rfl, trivial⟩, hM⟩
 ·intro a w hI
  obtain ⟨v661, hS, hM⟩ := hI
  rw [huff_Lengths.j1] at hM
  refine wpList_nil <| then_n <| s_cond hS rfl hM (fun hb663 hM => ?_) (fun hb663 hM => ?_)
  ·refine wp_seq ?_
   refine wp_region_list <| st1 hS (asg rfl) rfl fun a w hS => ?_
   obtain ⟨f664, hV665, hS⟩ := hS.nilV 3 (ci .i64) 1
   refine st1 hS (asg rfl) rfl fun a w hS => wpList_nil <| then_n <| wp_ret <| then_ret ?_
   exact s_ret (rs := [4, 5]) hS rfl rfl (hret none (0) ([] : List Int) f664 (1 : Int) w (wp_ok hM) hV665 (hS.st.pick [0] (by kernel_rfl)))
  ·refine wp_skip ?_
   refine then_n <| wp_seq <| wp_region_list <| st1 hS (asg rfl) rfl fun a w hS => ?_
   obtain ⟨p668, hS⟩ := hS.pool0
   obtain ⟨f666, hV667, hS⟩ := hS.nilV 70 (Row.v (sz := 2)) 2
   have hr669 : RelL (R_huff_packet p668) ([] : List T_huff_packet) ([] : List (Row 2)) := RelL.nil
   refine wpList_nil <| then_n <| seq_joinJ (fun a w => ∃ (p746 : Frag) (A747 : Option Addr) (c748 : Nat) (rw749 : List (Row 2)) (single750 : (List T_huff_packet)) (f751 : Frag), Ss 109 [] [(0, .slice A628 often627.length c629), (1, .int .i64 most632), (6, .slice A747 rw749.length c748)] H [p746, f751] F a w ∧ (Vec 70 (Row.v (sz := 2)) 2 A747 rw749 c748 f751) ∧ (RelL (R_huff_packet p746) single750 rw749) ∧ (huff_Lengths.j3 K often627 most632 single750).wp kr kp) (fun J754 hJ754 => ?_) ?_
   ·refine wp_seq ?_
    refine wp_region_list <| st1 hS (mv rfl) rfl fun a w hS => st1 hS (lenV rfl Try.runUnderlying22) rfl fun a w hS => st1 hS (mv rfl) rfl fun a w hS => wpList_nil <| then_n <| wp_block <| s_loopJ (fun k717 a w => ∃ (p708 : Frag) (A709 : Option Addr) (c710 : Nat) (rw711 : List (Row 2)) (single712 : (List T_huff_packet)) (f713 : Frag) (v716 : Int), Ss 109 [] [(0, .slice A628 often627.length c629), (1, .int .i64 most632), (6, .slice A709 rw711.length c710), (30, .slice A628 often627.length c629), (31, .int .i64 (often627.length : Int)), (32, .int .i64 v716)] H [p708, f713] F a w ∧ (Vec 70 (Row.v (sz := 2)) 2 A709 rw711 c710 f713) ∧ (RelL (R_huff_packet p708) single712 rw711) ∧ (huff_Lengths.l2 K often627 most632 k717 single712 v716).wp kr kp) K ?_ ?_ ?_
    ·exact ⟨p668, none, 0, ([] : List (Row 2)), ([] : List T_huff_packet), f666, (0 : Int), hS.to [1, 0] (by kernel_rfl) ⟨rfl, rfl, rfl, rfl, rfl, rfl, trivial⟩, hV667, hr669, hM⟩
    ·intro a w hI; obtain ⟨_, _, _, _, _, _, _, _, _, _, hM⟩ := hI; exact wp_fail hM
    ·intro k717 a w hI J745 hJ745
     obtain ⟨p708, A709, c710, rw711, single712, f713, v716, hS, hV714, hr715, hM⟩ := hI
     rw [huff_Lengths.l2] at hM
     refine wp_seq <| wp_region_list <| st1 hS (bin rfl rfl rfl) rfl fun a w hS => wpList_nil <| then_n <| wp_seq <| s_cond hS rfl hM (fun hb718 hM => ?_) (fun hb718 hM => ?_)
     ·refine wp_skip ?_
      refine then_n <| wp_seq <| wp_block <| wp_seq <| wp_region_list <| st1 hS (mv rfl) rfl fun a w hS => ?_
      obtain ⟨hk719, hM⟩ := wp_chk hM
      refine st1 hS (ixV rfl rfl Try.runUnderlying22 Try.sizeOf3 hr630.wk (fun _ => rfl) rfl hk719) rfl fun a w hS => st1 hS (ldV0 rfl hr630.wk (fun _ => rfl) hk719 rfl Try.isAgg3) rfl fun a w hS => st1 hS (asg rfl) rfl fun a w hS => st1x (v := Value.int .i64) (x0 := (rd often627 v716)) hS (asg rfl) rfl fun n_720 a w hz hS => ?_
      have hM := lt_to hz hM; clear hz
      refine wpList_nil <| then_n <| wp_seq <| wp_region_list <| st1 hS (mv rfl) rfl fun a w hS => st1 hS (bin rfl rfl rfl) rfl fun a w hS => wpList_nil <| then_n <| s_cond hS rfl hM (fun hb721 hM => ?_) (fun hb721 hM => ?_)
      ·refine wp_region_list ?_
       refine st1 hS (mv rfl) rfl fun a w hS => st1 hS (mv rfl) rfl fun a w hS => st1 hS (mv rfl) rfl fun a w hS => bsl (g := (ci .i64)) ([v716] : List Int) [.int .i64 v716] hS Try.runUnderlying22 Try.sizeOf3 X.el3 rfl rfl rfl (by simp [Value.cells]) rfl rfl rfl rfl rfl fun w A722 c723 f724 hV725 hS => st1 hS (bld ([.int .i64 n_720, .slice A722 ([v716] : List Int).length c723]) [(0, 1), (1, 1)] Try.zeroValue70 Try.runUnderlying70 (by intro w; simp [Try.sizeOf22, Try.sizeOf3]) rfl rfl) rfl fun a w hS => ?_
       replace hS := hS.front [0, 1, 2] (by kernel_rfl)
       obtain ⟨p726, hs727, hs728, hS⟩ := hS.poolF
       have hc730 := hV725.cap (fun _ => rfl) rfl
       have hp729 := hV725.pl.mono hs727
       replace hr715 := RelL.mono (fun _ _ h => R_huff_packet.mono hs728 h) hr715
       obtain ⟨rw736, hrw⟩ : ∃ r, r = ([(⟨[.int .i64 n_720, .slice A722 ([v716] : List Int).length c723], by simp, by simp [Value.oneCell']⟩ : Row 2)] : List (Row 2)) := ⟨_, rfl⟩
       have hr735 : RelL (R_huff_packet p726) ([(T_huff_packet.mk n_720 ([v716] : List Int))] : List T_huff_packet) rw736 := by rw [hrw]; exact (RelL.cons (show R_huff_packet p726 _ _ from ⟨A722, c723, rfl, hp729, hc730⟩) RelL.nil)
       refine bsl (g := (Row.v (sz := 2))) rw736 [.agg ⟨[.int .i64 n_720, .slice A722 ([v716] : List Int).length c723]⟩] hS Try.runUnderlying68 Try.sizeOf70 X.el70 rfl rfl rfl (by simp [Value.cells]) (by rw [hrw]; rfl) (by rw [hrw]; rfl) rfl rfl rfl fun w A731 c732 f733 hV734 hS => ?_
       clear hrw
       obtain ⟨hk737, hM⟩ := wp_chk hM
       refine apV (ys := rw736) 2 hS rfl rfl hV714 rfl (hV734.rd (i := 0) rfl) Try.runUnderlying68 Try.runUnderlying68 X.el70 Row.len rfl one_row (hr715.room hr735 hk737) rfl fun rw742 w A738 c739 f740 hz hV741 hS => ?_
       obtain ⟨zs743, hzm⟩ := nameE (single712 ++ ([(T_huff_packet.mk n_720 ([v716] : List Int))] : List T_huff_packet))
       replace hM := lt_to hzm hM
       have hr744 := RelL.append hr715 hr735
       rw [← hz, ← hzm] at hr744; clear hz hzm
       refine st1 hS (asg rfl) rfl fun a w hS => wpList_nil <| blk_n (then_n ?_)
       refine wp_region_list <| st1 hS (bin rfl rfl rfl) rfl fun a w hS => st1 hS (mv rfl) rfl fun a w hS => wpList_nil <| then_n ?_
       exact hJ745 _ _ ⟨p726, A738, c739, rw742, zs743, f740, (w64 (v716 + (1 : Int))), hS.to [1, 2] (by kernel_rfl) ⟨rfl, rfl, rfl, rfl, rfl, rfl, trivial⟩, hV741, hr744, hM⟩
      ·refine wp_skip ?_
       refine blk_n (then_n ?_)
       refine wp_region_list <| st1 hS (bin rfl rfl rfl) rfl fun a w hS => st1 hS (mv rfl) rfl fun a w hS => wpList_nil <| then_n ?_
       exact hJ745 _ _ ⟨p708, A709, c710, rw711, single712, f713, (w64 (v716 + (1 : Int))), hS.to [0, 1] (by kernel_rfl) ⟨rfl, rfl, rfl, rfl, rfl, rfl, trivial⟩, hV714, hr715, hM⟩
     ·refine wp_exit ?_
      refine then_ex (then_ex (blk_same (then_n ?_)))
      exact hJ754 _ _ ⟨p708, A709, c710, rw711, single712, f713, hS.to [0, 1] (by kernel_rfl) ⟨rfl, rfl, rfl, trivial⟩, hV714, hr715, hM⟩
   ·intro a w hI
    obtain ⟨p746, A747, c748, rw749, single750, f751, hS, hV752, hr753, hM⟩ := hI
    rw [huff_Lengths.j3] at hM
    refine wp_seq <| wp_seq <| wp_region_list <| st1 hS (mv rfl) rfl fun a w hS => st1 hS (ovE (v' := .int .i64 (single750.length : Int)) (lenV rfl Try.runUnderlying68) (by rw [hr753.len])) rfl fun a w hS => st1 hS (mv rfl) rfl fun a w hS => ?_
    obtain ⟨hk755, hM⟩ := wp_chk hM
    refine st1 hS (shl rfl rfl hk755) rfl fun a w hS => st1 hS (bin rfl rfl rfl) rfl fun a w hS => wpList_nil <| then_n <| s_cond hS rfl hM (fun hb756 hM => ?_) (fun hb756 hM => ?_)
    ·refine wp_seq ?_
     refine wp_region_list <| st1 hS (asg rfl) rfl fun a w hS => ?_
     obtain ⟨f757, hV758, hS⟩ := hS.nilV 3 (ci .i64) 1
     refine st1 hS (asg rfl) rfl fun a w hS => wpList_nil <| then_n <| wp_ret <| then_ret ?_
     exact s_ret (rs := [4, 5]) hS rfl rfl (hret none (0) ([] : List Int) f757 (1 : Int) w (wp_ok hM) hV758 (hS.st.pick [0] (by kernel_rfl)))
    ·refine wp_skip ?_
     refine then_n <| wp_seq <| wp_region_list <| st1 hS (mv rfl) rfl fun a w hS => st1 hS (lenV rfl Try.runUnderlying22) rfl fun a w hS => ?_
     obtain ⟨hk759, hM⟩ := wp_chk hM
     refine mkS (g := (ci .i64)) (m := (often627.length : Int)) (0 : Int) hS rfl rfl (by simp) Try.runUnderlying22 X.el3 (fun w => ⟨_, Try.zeroValue3 w, rfl⟩) (fun _ => rfl) rfl rfl hk759 rfl fun zs764 w A760 c761 f762 hz hV763 hS => ?_
     have hM := lt_to hz hM; clear hz
     refine st1 hS (asg rfl) rfl fun a w hS => wpList_nil <| then_n <| seq_joinJ (fun a w => ∃ (out778 : (List Int)) (f779 : Frag), Ss 109 [] [(1, .int .i64 most632), (6, .slice A747 rw749.length c748), (9, .slice A760 out778.length c761)] H [p746, f751, f779] F a w ∧ (Vec 3 (ci .i64) 1 A760 out778 c761 f779) ∧ (huff_Lengths.j4 K most632 single750 out778).wp kr kp) (fun J781 hJ781 => ?_) ?_
     ·refine wp_seq ?_
      refine wp_region_list <| st1 hS (mv rfl) rfl fun a w hS => st1 hS (ovE (v' := .int .i64 (single750.length : Int)) (lenV rfl Try.runUnderlying68) (by rw [hr753.len])) rfl fun a w hS => st1 hS (bin rfl rfl rfl) rfl fun a w hS => wpList_nil <| then_n <| s_cond hS rfl hM (fun hb765 hM => ?_) (fun hb765 hM => ?_)
      ·refine wp_region_list ?_
       refine st1 hS (mv rfl) rfl fun a w hS => st1 hS (mv rfl) rfl fun a w hS => ?_
       obtain ⟨hk766, hM⟩ := wp_chk hM
       refine st1 hS (ixV rfl rfl Try.runUnderlying68 Try.sizeOf70 (hV752.rd (i := 2) rfl) Row.len rfl (hr753.inb hk766)) rfl fun a w hS => st1 hS (fadV rfl (hV752.rd (i := 2) rfl) Row.len rfl (hr753.inb hk766) Try.runUnderlying70 rfl Try.sizeOf22 rfl) rfl fun a w hS => ?_
       obtain ⟨A767, c768, hw771, hp769, hc770⟩ := hr753.get hk766
       refine st1 hS (ldV 1 rfl (hV752.rd (i := 2) rfl) Row.len (hr753.inb hk766) (by rw [show Row.v (rd rw749 (0 : Int)) = _ from hw771]; rfl) Try.isAgg22) rfl fun a w hS => ?_
       obtain ⟨hk772, hM⟩ := wp_chk hM
       refine st1 hS (ixV rfl rfl Try.runUnderlying22 Try.sizeOf3 (hp769.rd (i := 1) rfl) (fun _ => rfl) rfl hk772) rfl fun a w hS => st1 hS (ldV0 rfl (hp769.rd (i := 1) rfl) (fun _ => rfl) hk772 rfl Try.isAgg3) rfl fun a w hS => ?_
       obtain ⟨hk773, hM⟩ := wp_chk hM
       refine st1 hS (ixV rfl rfl Try.runUnderlying22 Try.sizeOf3 (hV763.rd (i := 0) rfl) (fun _ => rfl) rfl hk773) rfl fun a w hS => stV (i := (rd ((rd single750 (0 : Int)).symbols_) (0 : Int))) (sz := 1) 0 0 ((1 : Int)) hS rfl rfl hV763 rfl Try.sizeOf3 (one_t3 (1 : Int)) (fun _ => rfl) hk773 rfl rfl fun zs776 w f774 hz hz777 hV775 hS => ?_
       have hM := lt_to hz hM; clear hz
       replace hS := hS.re 9 (u := .slice A760 zs764.length c761) (v := .slice A760 zs776.length c761) rfl (by rw [hz777])
       replace hS := hS.re 54 (u := .slice A760 zs764.length c761) (v := .slice A760 zs776.length c761) rfl (by rw [hz777])
       replace hS := hS.re 58 (u := .slice A760 zs764.length c761) (v := .slice A760 zs776.length c761) rfl (by rw [hz777])
       refine wpList_nil <| then_n ?_
       exact hJ781 _ _ ⟨zs776, f774, hS.to [1, 2, 0] (by kernel_rfl) ⟨rfl, rfl, rfl, trivial⟩, hV775, hM⟩
      ·refine wp_skip ?_
       refine then_n ?_
       exact hJ781 _ _ ⟨zs764, f762, hS.to [1, 2, 0] (by kernel_rfl) ⟨rfl, rfl, rfl, trivial⟩, hV763, hM⟩
     ·intro a w hI
      obtain ⟨out778, f779, hS, hV780, hM⟩ := hI
      rw [huff_Lengths.j4] at hM
      refine wp_seq <| wp_seq <| wp_region_list <| st1 hS (mv rfl) rfl fun a w hS => st1 hS (ovE (v' := .int .i64 (single750.length : Int)) (lenV rfl Try.runUnderlying68) (by rw [hr753.len])) rfl fun a w hS => st1 hS (bin rfl rfl rfl) rfl fun a w hS => wpList_nil <| then_n <| s_cond hS rfl hM (fun hb782 hM => ?_) (fun hb782 hM => ?_)
      ·refine wp_seq ?_
       refine wp_region_list <| st1 hS (mv rfl) rfl fun a w hS => st1 hS (asg rfl) rfl fun a w hS => st1 hS (asg rfl) rfl fun a w hS => wpList_nil <| then_n <| wp_ret <| then_ret ?_
       exact s_ret (rs := [4, 5]) hS rfl rfl (hret A760 c761 out778 f779 (0 : Int) w (wp_ok hM) hV780 (hS.st.pick [2] (by kernel_rfl)))
      ·refine wp_skip ?_
       refine then_n <| wp_seq <| wp_region_list <| st1 hS (mv rfl) rfl fun a w hS => s_call hS rfl Try.call32 (slices_SortStableFunc___huff_packet_huff_packet__b6e1_f289_c hG K single750 p746 A747 c748 rw749 f751 hr753 hV752 (hS.st.part 2 [0, 1, 2] (by kernel_rfl)) (wp_bind hM) (fun rw2228 x2229 f2230 w hM h2231 h2232 h2233 hst => s_back hS.ev hst.appF rfl fun hS => ?_))
       replace hS : Ss _ _ _ H [p746, f2230, f779] F _ _ := hS
       replace hS := hS.re 6 (u := .slice A747 rw749.length c748) (v := .slice A747 rw2228.length c748) rfl (by rw [h2233])
       replace hS := hS.re 66 (u := .slice A747 rw749.length c748) (v := .slice A747 rw2228.length c748) rfl (by rw [h2233])
       replace hS := hS.re 70 (u := .slice A747 rw749.length c748) (v := .slice A747 rw2228.length c748) rfl (by rw [h2233])
       refine wpList_nil <| then_n <| wp_seq <| wp_region_list <| st1 hS (mv rfl) rfl fun a w hS => st1 hS (asg rfl) rfl fun a w hS => wpList_nil <| then_n <| seq_joinJ (fun a w => ∃ (p4238 : Frag) (A4242 : Option Addr) (c4243 : Nat) (rw4244 : List (Row 2)) (row4245 : (List T_huff_packet)), Ss 109 [] [(6, .slice A747 rw2228.length c748), (9, .slice A760 out778.length c761), (10, .slice A4242 rw4244.length c4243)] H [p4238, f779] F a w ∧ (RelL (R_huff_packet p4238) x2229 rw2228) ∧ (Pl p4238 (Row.v (sz := 2)) A747 rw2228) ∧ (rw2228.length ≤ c748) ∧ (RelL (R_huff_packet p4238) row4245 rw4244) ∧ (Pl p4238 (Row.v (sz := 2)) A4242 rw4244) ∧ (rw4244.length ≤ c4243) ∧ (huff_Lengths.j6 K out778 x2229 row4245).wp kr kp) (fun J4249 hJ4249 => ?_) ?_
       ·refine wp_seq ?_
        refine wp_region_list <| st1 hS (mv rfl) rfl fun a w hS => st1 hS (bin rfl rfl rfl) rfl fun a w hS => st1 hS (mv rfl) rfl fun a w hS => wpList_nil <| then_n <| wp_block <| s_loopJ (fun k4197 a w => ∃ (p4185 : Frag) (A4189 : Option Addr) (c4190 : Nat) (rw4191 : List (Row 2)) (row4192 : (List T_huff_packet)) (v4196 : Int), Ss 109 [] [(6, .slice A747 rw2228.length c748), (9, .slice A760 out778.length c761), (10, .slice A4189 rw4191.length c4190), (74, .int .i64 (w64 (most632 - (1 : Int)))), (75, .int .i64 v4196)] H [p4185, f779] F a w ∧ (RelL (R_huff_packet p4185) x2229 rw2228) ∧ (Pl p4185 (Row.v (sz := 2)) A747 rw2228) ∧ (rw2228.length ≤ c748) ∧ (RelL (R_huff_packet p4185) row4192 rw4191) ∧ (Pl p4185 (Row.v (sz := 2)) A4189 rw4191) ∧ (rw4191.length ≤ c4190) ∧ (huff_Lengths.l5 K most632 out778 x2229 k4197 row4192 v4196).wp kr kp) K ?_ ?_ ?_
        ·replace hS := hS.front [1, 0, 2] (by kernel_rfl)
         obtain ⟨p4228, hs4229, hs4230, hS⟩ := hS.poolF
         have hc4232 := h2231.cap Row.len rfl
         have hp4231 := h2231.pl.mono hs4229
         replace h2232 := RelL.mono (fun _ _ h => R_huff_packet.mono hs4230 h) h2232
         exact ⟨p4228, A747, c748, rw2228, x2229, (0 : Int), hS.to [0, 1] (by kernel_rfl) ⟨rfl, rfl, rfl, rfl, rfl, trivial⟩, h2232, hp4231, hc4232, h2232, hp4231, hc4232, hM⟩
        ·intro a w hI; obtain ⟨_, _, _, _, _, _, _, _, _, _, _, _, _, hM⟩ := hI; exact wp_fail hM
        ·intro k4197 a w hI J4227 hJ4227
         obtain ⟨p4185, A4189, c4190, rw4191, row4192, v4196, hS, hr4186, hp4187, hc4188, hr4193, hp4194, hc4195, hM⟩ := hI
         rw [huff_Lengths.l5] at hM
         refine wp_seq <| wp_region_list <| st1 hS (bin rfl rfl rfl) rfl fun a w hS => wpList_nil <| then_n <| wp_seq <| s_cond hS rfl hM (fun hb4198 hM => ?_) (fun hb4198 hM => ?_)
         ·refine wp_skip ?_
          refine then_n <| wp_seq <| wp_block <| wp_region_list <| st1 hS (mv rfl) rfl fun a w hS => st1 hS (mv rfl) rfl fun a w hS => s_call hS rfl Try.call36 (huff_pairs_c hG K row4192 p4185 A4189 c4190 rw4191 hr4193 hp4194 hc4195 (hS.st.part 1 [0, 1] (by kernel_rfl)) (wp_bind hM) (fun p4199 A4200 c4201 rw4202 x4203 f4204 w hM h4205 h4206 h4207 hst => s_back hS.ev hst.appF rfl fun hS => ?_) (fun v w hk hst => s_pan (blk_pan (then_pan (then_pan (blk_pan (then_pan (⟨hS.ev.defs, hpan _ _ hk hst.appF.frame⟩))))))))
          replace hS : Ss _ _ _ H [p4199, f4204, f779] F _ _ := hS
          replace hp4187 := hp4187.mono h4205
          replace hp4194 := hp4194.mono h4205
          replace hr4186 := RelL.mono (fun _ _ h => R_huff_packet.mono h4205 h) hr4186
          replace hr4193 := RelL.mono (fun _ _ h => R_huff_packet.mono h4205 h) hr4193
          replace hS := hS.front [1, 0, 2] (by kernel_rfl)
          obtain ⟨p4208, hs4209, hs4210, hS⟩ := hS.poolF
          have hc4212 := h4206.cap Row.len rfl
          have hp4211 := h4206.pl.mono hs4209
          replace h4207 := RelL.mono (fun _ _ h => R_huff_packet.mono hs4210 h) h4207
          replace hp4187 := hp4187.mono hs4210
          replace hp4194 := hp4194.mono hs4210
          replace hr4186 := RelL.mono (fun _ _ h => R_huff_packet.mono hs4210 h) hr4186
          replace hr4193 := RelL.mono (fun _ _ h => R_huff_packet.mono hs4210 h) hr4193
          refine s_call hS rfl Try.call35 (huff_merged_c hG K x2229 x4203 p4208 A747 c748 rw2228 A4200 c4201 rw4202 hr4186 hp4187 hc4188 h4207 hp4211 hc4212 (hS.st.part 1 [0, 1] (by kernel_rfl)) (wp_bind hM) (fun p4213 A4214 c4215 rw4216 x4217 f4218 w hM h4219 h4220 h4221 hst => s_back hS.ev hst.appF rfl fun hS => ?_) (fun v w hk hst => s_pan (blk_pan (then_pan (then_pan (blk_pan (then_pan (⟨hS.ev.defs, hpan _ _ hk hst.appF.frame⟩))))))))
          replace hS : Ss _ _ _ H [p4213, f4218, f779] F _ _ := hS
          replace h4207 := RelL.mono (fun _ _ h => R_huff_packet.mono h4219 h) h4207
          replace hp4187 := hp4187.mono h4219
          replace hp4194 := hp4194.mono h4219
          replace hp4211 := hp4211.mono h4219
          replace hr4186 := RelL.mono (fun _ _ h => R_huff_packet.mono h4219 h) hr4186
          replace hr4193 := RelL.mono (fun _ _ h => R_huff_packet.mono h4219 h) hr4193
          refine st1 hS (asg rfl) rfl fun a w hS => wpList_nil <| blk_n (then_n ?_)
          refine wp_region_list <| st1 hS (bin rfl rfl rfl) rfl fun a w hS => st1 hS (mv rfl) rfl fun a w hS => wpList_nil <| then_n ?_
          replace hS := hS.front [1, 0, 2] (by kernel_rfl)
          obtain ⟨p4233, hs4234, hs4235, hS⟩ := hS.poolF
          have hc4237 := h4220.cap Row.len rfl
          have hp4236 := h4220.pl.mono hs4234
          replace h4207 := RelL.mono (fun _ _ h => R_huff_packet.mono hs4235 h) h4207
          replace h4221 := RelL.mono (fun _ _ h => R_huff_packet.mono hs4235 h) h4221
          replace hp4187 := hp4187.mono hs4235
          replace hp4194 := hp4194.mono hs4235
          replace hp4211 := hp4211.mono hs4235
          replace hr4186 := RelL.mono (fun _ _ h => R_huff_packet.mono hs4235 h) hr4186
          replace hr4193 := RelL.mono (fun _ _ h => R_huff_packet.mono hs4235 h) hr4193
          exact hJ4227 _ _ ⟨p4233, A4214, c4215, rw4216, x4217, (w64 (v4196 + (1 : Int))), hS.to [0, 1] (by kernel_rfl) ⟨rfl, rfl, rfl, rfl, rfl, trivial⟩, hr4186, hp4187, hc4188, h4221, hp4236, hc4237, hM⟩
         ·refine wp_exit ?_
          refine then_ex (then_ex (blk_same (then_n ?_)))
          exact hJ4249 _ _ ⟨p4185, A4189, c4190, rw4191, row4192, hS.to [0, 1] (by kernel_rfl) ⟨rfl, rfl, rfl, trivial⟩, hr4186, hp4187, hc4188, hr4193, hp4194, hc4195, hM⟩
       ·intro a w hI
        obtain ⟨p4238, A4242, c4243, rw4244, row4245, hS, hr4239, hp4240, hc4241, hr4246, hp4247, hc4248, hM⟩ := hI
        rw [huff_Lengths.j6] at hM
        refine wp_seq <| wp_seq <| wp_region_list <| st1 hS (mv rfl) rfl fun a w hS => st1 hS (mv rfl) rfl fun a w hS => st1 hS (ovE (v' := .int .i64 (x2229.length : Int)) (lenV rfl Try.runUnderlying68) (by rw [hr4239.len])) rfl fun a w hS => st1 hS (bin rfl rfl rfl) rfl fun a w hS => st1 hS (bin rfl rfl rfl) rfl fun a w hS => ?_
        obtain ⟨hk4250, hM⟩ := wp_chk hM
        refine slVx (g := (Row.v (sz := 2))) hS rfl Try.runUnderlying68 Try.sizeOf70 lo0 (hiS rfl) Row.len hc4248 (hr4246.subok hk4250) rfl fun rw4251 A4253 c4254 a w hz hd4255 hc4256 hS => ?_
        obtain ⟨zs4252, hzm⟩ := nameE (sub row4245 (0 : Int) (w64 ((w64 ((2 : Int) * (x2229.length : Int))) - (2 : Int))))
        replace hM := lt_to hzm hM
        have hr4257 := hr4246.sub (0 : Int) (w64 ((w64 ((2 : Int) * (x2229.length : Int))) - (2 : Int))) (w64 ((w64 ((2 : Int) * (x2229.length : Int))) - (2 : Int))) rfl
        rw [← hz, ← hzm] at hr4257; clear hz hzm
        refine st1 hS (ovE (v' := .int .i64 (zs4252.length : Int)) (lenV rfl Try.runUnderlying68) (by rw [hr4257.len])) rfl fun a w hS => st1 hS (mv rfl) rfl fun a w hS => wpList_nil <| then_n <| wp_block <| s_loopJ (fun k4310 a w => ∃ (out4306 : (List Int)) (f4307 : Frag) (v4309 : Int), Ss 109 [] [(9, .slice A760 out4306.length c761), (87, .slice A4253 rw4251.length c4254), (88, .int .i64 (zs4252.length : Int)), (89, .int .i64 v4309)] H [f4307, p4238] F a w ∧ (Vec 3 (ci .i64) 1 A760 out4306 c761 f4307) ∧ (huff_Lengths.l7 K zs4252 k4310 out4306 v4309).wp kr kp) K ?_ ?_ ?_
        ·exact ⟨out778, f779, (0 : Int), hS.to [1, 0] (by kernel_rfl) ⟨rfl, rfl, rfl, rfl, trivial⟩, hV780, hM⟩
        ·intro a w hI; obtain ⟨_, _, _, _, _, hM⟩ := hI; exact wp_fail hM
        ·intro k4310 a w hI J4353 hJ4353
         obtain ⟨out4306, f4307, v4309, hS, hV4308, hM⟩ := hI
         rw [huff_Lengths.l7] at hM
         refine wp_seq <| wp_region_list <| st1 hS (bin rfl rfl rfl) rfl fun a w hS => wpList_nil <| then_n <| wp_seq <| s_cond hS rfl hM (fun hb4311 hM => ?_) (fun hb4311 hM => ?_)
         ·refine wp_skip ?_
          refine then_n <| wp_seq <| wp_block <| wp_seq <| wp_region_list ?_
          obtain ⟨hk4312, hM⟩ := wp_chk hM
          refine st1 hS (ixV rfl rfl Try.runUnderlying68 Try.sizeOf70 (hd4255 _ _ _ (hp4247.rd (i := 1) rfl)) Row.len rfl (hr4257.inb hk4312)) rfl fun a w hS => ?_
          obtain ⟨A4313, c4314, hw4317, hp4315, hc4316⟩ := hr4257.get hk4312
          refine st1 hS (ovE (ldVA rfl (hd4255 _ _ _ (hp4247.rd (i := 1) rfl)) Row.len (hr4257.inb hk4312) Try.isAgg70 Try.sizeOf70 rfl) (congrArg (fun l => Value.agg ⟨l⟩) hw4317)) rfl fun a w hS => alc ([.int .i64 (0 : Int), .slice none 0 0]) hS Try.zeroValue70 rfl rfl fun w b4318 f4319 hB4320 hS => ?_
          obtain ⟨f4321, hV4322, hS⟩ := hS.nilV 3 (ci .i64) 1
          refine stB 1 ([.int .i64 ((rd zs4252 v4309).often_), .slice A4313 ((rd zs4252 v4309).symbols_).length c4314]) ([.int .i64 ((rd zs4252 v4309).often_), .slice A4313 ((rd zs4252 v4309).symbols_).length c4314]) hS rfl rfl hB4320 rfl rfl Try.sizeOf70 (by simp [Value.oneCell']) (Nat.le_of_ble_eq_true rfl) rfl fun w f4323 hB4324 hS => wpList_nil <| then_n <| wp_seq <| wp_region_list <| st1 hS (fad rfl Try.runUnderlying70 rfl Try.sizeOf22 rfl) rfl fun a w hS => st1 hS (ldb 1 rfl hB4324 rfl rfl Try.isAgg22) rfl fun a w hS => st1 hS (lenV rfl Try.runUnderlying22) rfl fun a w hS => st1 hS (mv rfl) rfl fun a w hS => wpList_nil <| then_n <| wp_block <| s_loopJ (fun k4343 a w => ∃ (out4339 : (List Int)) (f4340 : Frag) (v4342 : Int), Ss 109 [] [(9, .slice A760 out4339.length c761), (87, .slice A4253 rw4251.length c4254), (88, .int .i64 (zs4252.length : Int)), (89, .int .i64 v4309), (94, .slice A4313 ((rd zs4252 v4309).symbols_).length c4314), (95, .int .i64 (((rd zs4252 v4309).symbols_).length : Int)), (96, .int .i64 v4342)] H [f4340, p4238] F a w ∧ (Vec 3 (ci .i64) 1 A760 out4339 c761 f4340) ∧ (huff_Lengths.l8 K (huff_Lengths.l7 K zs4252 k4310) zs4252 v4309 k4343 out4339 v4342).wp kr kp) K ?_ ?_ ?_
          ·exact ⟨out4306, f4307, (0 : Int), hS.to [2, 3] (by kernel_rfl) ⟨rfl, rfl, rfl, rfl, rfl, rfl, rfl, trivial⟩, hV4308, hM⟩
          ·intro a w hI; obtain ⟨_, _, _, _, _, hM⟩ := hI; exact wp_fail hM
          ·intro k4343 a w hI J4352 hJ4352
           obtain ⟨out4339, f4340, v4342, hS, hV4341, hM⟩ := hI
           rw [huff_Lengths.l8] at hM
           refine wp_seq <| wp_region_list <| st1 hS (bin rfl rfl rfl) rfl fun a w hS => wpList_nil <| then_n <| wp_seq <| s_cond hS rfl hM (fun hb4344 hM => ?_) (fun hb4344 hM => ?_)
           ·refine wp_skip ?_
            refine then_n <| wp_seq <| wp_block <| wp_seq <| wp_region_list ?_
            obtain ⟨hk4345, hM⟩ := wp_chk hM
            refine st1 hS (ixV rfl rfl Try.runUnderlying22 Try.sizeOf3 (hp4315.rd (i := 1) rfl) (fun _ => rfl) rfl hk4345) rfl fun a w hS => st1 hS (ldV0 rfl (hp4315.rd (i := 1) rfl) (fun _ => rfl) hk4345 rfl Try.isAgg3) rfl fun a w hS => st1x (v := Value.int .i64) (x0 := (rd ((rd zs4252 v4309).symbols_) v4342)) hS (asg rfl) rfl fun s4346 a w hz hS => ?_
            have hM := lt_to hz hM; clear hz
            refine wpList_nil <| then_n <| wp_region_list <| st1 hS (mv rfl) rfl fun a w hS => st1 hS (mv rfl) rfl fun a w hS => ?_
            obtain ⟨hk4347, hM⟩ := wp_chk hM
            refine st1 hS (ixV rfl rfl Try.runUnderlying22 Try.sizeOf3 (hV4341.rd (i := 0) rfl) (fun _ => rfl) rfl hk4347) rfl fun a w hS => st1 hS (ldV0 rfl (hV4341.rd (i := 0) rfl) (fun _ => rfl) hk4347 rfl Try.isAgg3) rfl fun a w hS => st1 hS (bin rfl rfl rfl) rfl fun a w hS => st1 hS (ixV rfl rfl Try.runUnderlying22 Try.sizeOf3 (hV4341.rd (i := 0) rfl) (fun _ => rfl) rfl hk4347) rfl fun a w hS => stV (i := s4346) (sz := 1) 0 0 ((w64 ((rd out4339 s4346) + (1 : Int)))) hS rfl rfl hV4341 rfl Try.sizeOf3 (one_t3 (w64 ((rd out4339 s4346) + (1 : Int)))) (fun _ => rfl) hk4347 rfl rfl fun zs4350 w f4348 hz hz4351 hV4349 hS => ?_
            have hM := lt_to hz hM; clear hz
            replace hS := hS.re 9 (u := .slice A760 out4339.length c761) (v := .slice A760 zs4350.length c761) rfl (by rw [hz4351])
            replace hS := hS.re 100 (u := .slice A760 out4339.length c761) (v := .slice A760 zs4350.length c761) rfl (by rw [hz4351])
            refine wpList_nil <| blk_n (then_n ?_)
            refine wp_region_list <| st1 hS (bin rfl rfl rfl) rfl fun a w hS => st1 hS (mv rfl) rfl fun a w hS => wpList_nil <| then_n ?_
            exact hJ4352 _ _ ⟨zs4350, f4348, (w64 (v4342 + (1 : Int))), hS.to [0, 1] (by kernel_rfl) ⟨rfl, rfl, rfl, rfl, rfl, rfl, rfl, trivial⟩, hV4349, hM⟩
           ·refine wp_exit ?_
            refine then_ex (then_ex (blk_same (blk_n (then_n ?_))))
            refine wp_region_list <| st1 hS (bin rfl rfl rfl) rfl fun a w hS => st1 hS (mv rfl) rfl fun a w hS => wpList_nil <| then_n ?_
            exact hJ4353 _ _ ⟨out4339, f4340, (w64 (v4309 + (1 : Int))), hS.to [0, 1] (by kernel_rfl) ⟨rfl, rfl, rfl, rfl, trivial⟩, hV4341, hM⟩
         ·refine wp_exit ?_
          refine then_ex (then_ex (blk_same (then_n ?_)))
          refine wp_seq <| wp_region_list <| st1 hS (mv rfl) rfl fun a w hS => st1 hS (asg rfl) rfl fun a w hS => st1 hS (asg rfl) rfl fun a w hS => wpList_nil <| then_n <| wp_ret ?_
          exact s_ret (rs := [4, 5]) hS rfl rfl (hret A760 c761 out4306 f4307 (0 : Int) w (wp_ok hM) hV4308 (hS.st.pick [0] (by kernel_rfl)))

theorem bits_New_c {H : Imm} {F : List Frag} {w : World} {R : Ending → World → Prop} {kr : Unit → Prop} {kp : Value → Prop} (hG : Gl H) (K : Nat) (s4366 : List UInt8)
    (hS : St w H [] F) (hm : (bits_New.m K s4366).wp kr kp)
    (hret : ∀ (b4370 : Nat) (f4371 : Frag) (w : World), kr () → (Blk f4371 b4370 ([.int .i64 (0 : Int), str s4366]) 63) → St w H [f4371] F → R (.returned (ptr b4370 0)) w) :
    Calls Try.prog 16 ⟨[str s4366]⟩ w R := by
 refine enter Try.func16 rfl Try.ntmps16 rfl hS fun a w hS => ?_
 have hM := hm; clear hm
 rw [bits_New.m] at hM
 refine wp_seq <| wp_region_list <| st1 hS (asg rfl) rfl fun a w hS => wpList_nil <| then_n <| wp_seq <| wp_region_list <| st1 hS (mv rfl) rfl fun a w hS => st1 hS (bld ([.int .i64 (0 : Int), str s4366]) [(0, 1), (1, 1)] Try.zeroValue63 Try.runUnderlying63 (by intro w; simp [Try.sizeOf48, Try.sizeOf9]) rfl rfl) rfl fun a w hS => bx ([.int .i64 (0 : Int), str s4366]) hS rfl rfl rfl fun w b4367 f4368 hB4369 hS => st1 hS (asg rfl) rfl fun a w hS => wpList_nil <| then_n <| wp_ret ?_
 exact s_ret (rs := [2]) hS rfl rfl (hret b4367 f4368 w (wp_ok hM) hB4369 (hS.st.pick [0] (by kernel_rfl)))

theorem bits_Reader_Bits_c {H : Imm} {F : List Frag} {w : World} {R : Ending → World → Prop} {kr : (Int × Int × Int) → Prop} {kp : Value → Prop} (hG : Gl H) (K : Nat) (r4412 : T_bits_Reader) (n_4416 : Int) (b4413 : Nat) (f4414 : Frag) (hB4415 : Blk f4414 b4413 ([.int .i64 r4412.place_.at_, str r4412.text_]) 63)
    (hS : St w H [f4414] F) (hm : (bits_Reader_Bits.m K r4412 n_4416).wp kr kp)
    (hret : ∀ (x4440 : Int) (x4441 : Int) (at_4442 : Int) (f4443 : Frag) (w : World), kr (x4440, x4441, at_4442) → (Blk f4443 b4413 ([.int .i64 at_4442, str r4412.text_]) 63) → St w H [f4443] F → R (.returned (.tuple ⟨[.int .u32 x4440, .int .i64 x4441]⟩)) w) :
    Calls Try.prog 28 ⟨[ptr b4413 0, .int .i64 n_4416]⟩ w R := by
 refine enter Try.func28 rfl Try.ntmps28 rfl hS fun a w hS => ?_
 have hM := hm; clear hm
 rw [bits_Reader_Bits.m] at hM
 refine wp_seq <| wp_region_list <| st1 hS (asg rfl) rfl fun a w hS => st1 hS (asg rfl) rfl fun a w hS => wpList_nil <| then_n <| wp_seq <| wp_block <| wp_seq <| wp_region_list <| st1 hS (mv rfl) rfl fun a w hS => st1 hS (eqNil rfl rfl Try.runUnderlying33) rfl fun a w hS => st1 hS (mv rfl) rfl fun a w hS => st1g hS rfl rfl rfl rfl (mv rfl) rfl fun a w hS => st1g hS rfl rfl rfl rfl (bin rfl rfl rfl) rfl fun a w hS => st1 hS (pk rfl rfl rfl) rfl fun a w hS => st1 hS (mv rfl) rfl fun a w hS => g_op 2 false 16 (b := (decide (n_4416 < (0 : Int)))) (r := (decide (n_4416 > (32 : Int)))) hS rfl rfl rfl rfl rfl rfl rfl (fun hb a w hS K hK => ?_) rfl fun a w hS => ?_
 ·refine st1g hS rfl rfl rfl hb (mv rfl) rfl fun a w hS => ?_
  refine st1g hS rfl rfl rfl hb (bin rfl rfl rfl) rfl fun a w hS => ?_
  exact wpList_nil (hK _ _ (hS.up 2 rfl rfl))
 refine st1x (v := Value.bool) (x0 := ((decide (n_4416 < (0 : Int))) || (decide (n_4416 > (32 : Int))))) hS (asg rfl) rfl fun v4417 a w hz hS => ?_
 have hM := lt_to hz hM; clear hz
 refine wpList_nil <| then_n <| s_cond hS rfl hM (fun hb4418 hM => ?_) (fun hb4418 hM => ?_)
 ·refine wp_seq ?_
  refine wp_region_list <| st1 hS (asg rfl) rfl fun a w hS => st1 hS (asg rfl) rfl fun a w hS => wpList_nil <| then_n <| wp_ret <| blk_ret (then_ret ?_)
  exact s_ret (rs := [4, 5]) hS rfl rfl (hret (0 : Int) (1 : Int) r4412.place_.at_ f4414 w (wp_ok hM) hB4415 (hS.st.pick [0] (by kernel_rfl)))
 ·refine wp_seq ?_
  obtain ⟨v4419, hz4420⟩ : ∃ x, x = (decide (n_4416 > (w64 ((w64 ((8 : Int) * (r4412.text_.length : Int))) - r4412.place_.at_)))) := ⟨_, rfl⟩
  replace hM := lt_to hz4420 hM
  refine draw_begin (vals := [some (.int .i64 n_4416), some (ptr b4413 0), some (ptr b4413 0), some (ptr b4413 1), some (str r4412.text_), some (.int .i64 (r4412.text_.length : Int)), some (.int .i64 (w64 ((8 : Int) * (r4412.text_.length : Int)))), some (ptr b4413 0), some (ptr b4413 0), some (ptr b4413 0), some (ptr b4413 0), some (.int .i64 r4412.place_.at_), some (.int .i64 (w64 ((w64 ((8 : Int) * (r4412.text_.length : Int))) - r4412.place_.at_))), some (.bool (decide (n_4416 > (w64 ((w64 ((8 : Int) * (r4412.text_.length : Int))) - r4412.place_.at_))))), some (.bool v4419)]) hS mixed rfl ?_
  intro l w ho hcl hA hst
  refine phqE hA hst ho hcl nmust [0, 1, 2, 3, 4, 5, 6, 7, 8, 9, 10, 11, 12, 13, 14] rfl rfl rfl (by exact ⟨nR rfl rfl rfl rfl rfl (by exact ovE (mv rfl) rfl), nR rfl rfl rfl rfl rfl (by exact ovE (mv rfl) rfl), nR rfl rfl rfl rfl rfl (by exact ovE (nck rfl) rfl), nR rfl rfl rfl rfl rfl (by exact ovE (fad rfl Try.runUnderlying63 rfl Try.sizeOf9 rfl) rfl), nR rfl rfl rfl rfl rfl (by exact ovE (ldb 0 rfl hB4415 rfl rfl Try.isAgg9) rfl), nR rfl rfl rfl rfl rfl (by exact ovE (lenS rfl Try.runUnderlying9) rfl), nR rfl rfl rfl rfl rfl (by exact ovE (bin rfl rfl rfl) rfl), nR rfl rfl rfl rfl rfl (by exact ovE (mv rfl) rfl), nR rfl rfl rfl rfl rfl (by exact ovE (nck rfl) rfl), nR rfl rfl rfl rfl rfl (by exact ovE (fad rfl Try.runUnderlying63 rfl Try.sizeOf48 rfl) rfl), nR rfl rfl rfl rfl rfl (by exact ovE (fad rfl Try.runUnderlying48 rfl Try.sizeOf3 rfl) rfl), nR rfl rfl rfl rfl rfl (by exact ovE (ldb 0 rfl hB4415 rfl rfl Try.isAgg3) rfl), nR rfl rfl rfl rfl rfl (by exact ovE (bin rfl rfl rfl) rfl), nR rfl rfl rfl rfl rfl (by exact ovE (bin rfl rfl rfl) rfl), nR rfl rfl rfl rfl rfl (by exact ovE (asg rfl) (congrArg (Value.bool) hz4420.symm)), trivial⟩) fun a w hS => ?_
  replace hS := hS.env2 (e' := [(0, ptr b4413 0), (1, .int .i64 n_4416), (20, .bool v4419)]) ⟨rfl, rfl, rfl, trivial⟩
  refine then_n <| s_cond hS rfl hM (fun hb4421 hM => ?_) (fun hb4421 hM => ?_)
  ·refine wp_seq ?_
   refine wp_region_list <| st1 hS (asg rfl) rfl fun a w hS => st1 hS (asg rfl) rfl fun a w hS => wpList_nil <| then_n <| wp_ret <| blk_ret (then_ret ?_)
   exact s_ret (rs := [4, 5]) hS rfl rfl (hret (0 : Int) (2 : Int) r4412.place_.at_ f4414 w (wp_ok hM) hB4415 (hS.st.pick [0] (by kernel_rfl)))
  ·refine wp_skip ?_
   refine blk_n (then_n ?_)
   refine wp_seq <| wp_region_list <| st1 hS (asg rfl) rfl fun a w hS => wpList_nil <| then_n <| wp_seq <| wp_region_list <| st1 hS (mv rfl) rfl fun a w hS => st1 hS (nck rfl) rfl fun a w hS => st1 hS (fad rfl Try.runUnderlying63 rfl Try.sizeOf48 rfl) rfl fun a w hS => st1 hS (fad rfl Try.runUnderlying48 rfl Try.sizeOf3 rfl) rfl fun a w hS => st1 hS (ldb 0 rfl hB4415 rfl rfl Try.isAgg3) rfl fun a w hS => st1 hS (quo rfl rfl rfl) rfl fun a w hS => st1x (v := Value.int .i64) (x0 := (iquo .i64 r4412.place_.at_ (8 : Int))) hS (asg rfl) rfl fun first4422 a w hz hS => ?_
   have hM := lt_to hz hM; clear hz
   refine wpList_nil <| then_n <| seq_joinJ (fun a w => ∃ (v4432 : Int), Ss 93 [] [(0, ptr b4413 0), (1, .int .i64 n_4416), (6, .int .u64 v4432)] H [f4414] F a w ∧ (bits_Reader_Bits.j2 K r4412 n_4416 v4432).wp kr kp) (fun J4433 hJ4433 => ?_) ?_
   ·refine wp_seq ?_
    refine wp_region_list <| st1 hS (asg rfl) rfl fun a w hS => wpList_nil <| then_n <| wp_block <| s_loopJ (fun k4425 a w => ∃ (v4423 : Int) (i4424 : Int), Ss 93 [] [(0, ptr b4413 0), (1, .int .i64 n_4416), (6, .int .u64 v4423), (7, .int .i64 first4422), (8, .int .i64 i4424)] H [f4414] F a w ∧ (bits_Reader_Bits.l1 K r4412 n_4416 first4422 k4425 v4423 i4424).wp kr kp) K ?_ ?_ ?_
    ·exact ⟨(0 : Int), (0 : Int), hS.to [0] (by kernel_rfl) ⟨rfl, rfl, rfl, rfl, rfl, trivial⟩, hM⟩
    ·intro a w hI; obtain ⟨_, _, _, hM⟩ := hI; exact wp_fail hM
    ·intro k4425 a w hI J4431 hJ4431
     obtain ⟨v4423, i4424, hS, hM⟩ := hI
     rw [bits_Reader_Bits.l1] at hM
     refine wp_seq <| wp_seq <| wp_region_list <| st1 hS (mv rfl) rfl fun a w hS => st1 hS (mv rfl) rfl fun a w hS => st1 hS (bin rfl rfl rfl) rfl fun a w hS => st1 hS (bin rfl rfl rfl) rfl fun a w hS => st1 hS (mv rfl) rfl fun a w hS => st1 hS (nck rfl) rfl fun a w hS => st1 hS (fad rfl Try.runUnderlying63 rfl Try.sizeOf48 rfl) rfl fun a w hS => st1 hS (fad rfl Try.runUnderlying48 rfl Try.sizeOf3 rfl) rfl fun a w hS => st1 hS (ldb 0 rfl hB4415 rfl rfl Try.isAgg3) rfl fun a w hS => st1 hS (mv rfl) rfl fun a w hS => st1 hS (bin rfl rfl rfl) rfl fun a w hS => st1 hS (bin rfl rfl rfl) rfl fun a w hS => wpList_nil <| then_n <| s_cond hS rfl hM (fun hb4426 hM => ?_) (fun hb4426 hM => ?_)
     ·refine wp_skip ?_
      refine then_n <| wp_seq <| wp_block <| wp_region_list <| st1 hS (mv rfl) rfl fun a w hS => st1 hS (mv rfl) rfl fun a w hS => st1 hS (nck rfl) rfl fun a w hS => st1 hS (fad rfl Try.runUnderlying63 rfl Try.sizeOf9 rfl) rfl fun a w hS => st1 hS (ldb 0 rfl hB4415 rfl rfl Try.isAgg9) rfl fun a w hS => st1 hS (mv rfl) rfl fun a w hS => st1 hS (mv rfl) rfl fun a w hS => st1 hS (bin rfl rfl rfl) rfl fun a w hS => ?_
      obtain ⟨hk4427, hM⟩ := wp_chk hM
      refine st1 hS (ixs rfl rfl Try.runUnderlying9 hk4427) rfl fun a w hS => st1 hS (cvi rfl Try.runUnderlying5 Try.runUnderlying77) rfl fun a w hS => st1 hS (mv rfl) rfl fun a w hS => st1 hS (bin rfl rfl rfl) rfl fun a w hS => ?_
      obtain ⟨hk4428, hM⟩ := wp_chk hM
      refine st1 hS (shl rfl rfl hk4428) rfl fun a w hS => st1 hS (bin rfl rfl rfl) rfl fun a w hS => st1x (v := Value.int .u64) (x0 := (ior .u64 v4423 (ishl .u64 (wr .u64 ((rd r4412.text_ (w64 (first4422 + i4424))).toNat : Int)) (w64 ((8 : Int) * i4424))))) hS (asg rfl) rfl fun v4429 a w hz hS => ?_
      have hM := lt_to hz hM; clear hz
      refine wpList_nil <| blk_n (then_n ?_)
      refine wp_region_list <| st1 hS (mv rfl) rfl fun a w hS => st1 hS (bin rfl rfl rfl) rfl fun a w hS => st1x (v := Value.int .i64) (x0 := (w64 (i4424 + (1 : Int)))) hS (asg rfl) rfl fun i4430 a w hz hS => ?_
      have hM := lt_to hz hM; clear hz
      refine wpList_nil <| then_n ?_
      exact hJ4431 _ _ ⟨v4429, i4430, hS.to [0] (by kernel_rfl) ⟨rfl, rfl, rfl, rfl, rfl, trivial⟩, hM⟩
     ·refine wp_exit ?_
      refine then_ex (then_ex (blk_same (then_n ?_)))
      exact hJ4433 _ _ ⟨v4423, hS.to [0] (by kernel_rfl) ⟨rfl, rfl, rfl, trivial⟩, hM⟩
   ·intro a w hI
    obtain ⟨v4432, hS, hM⟩ := hI
    rw [bits_Reader_Bits.j2] at hM
    refine wp_seq <| wp_region_list <| st1 hS (mv rfl) rfl fun a w hS => st1 hS (mv rfl) rfl fun a w hS => st1 hS (nck rfl) rfl fun a w hS => st1 hS (fad rfl Try.runUnderlying63 rfl Try.sizeOf48 rfl) rfl fun a w hS => st1 hS (fad rfl Try.runUnderlying48 rfl Try.sizeOf3 rfl) rfl fun a w hS => st1 hS (ldb 0 rfl hB4415 rfl rfl Try.isAgg3) rfl fun a w hS => st1 hS (bin rfl rfl rfl) rfl fun a w hS => ?_
    obtain ⟨hk4434, hM⟩ := wp_chk hM
    refine st1 hS (shr rfl rfl hk4434) rfl fun a w hS => st1x (v := Value.int .u64) (x0 := (ishr .u64 v4432 (iand .i64 r4412.place_.at_ (7 : Int)))) hS (asg rfl) rfl fun v4435 a w hz hS => ?_
    have hM := lt_to hz hM; clear hz
    refine wpList_nil <| then_n <| wp_seq <| wp_region_list <| st1 hS (mv rfl) rfl fun a w hS => st1 hS (nck rfl) rfl fun a w hS => st1 hS (fad rfl Try.runUnderlying63 rfl Try.sizeOf48 rfl) rfl fun a w hS => st1 hS (fad rfl Try.runUnderlying48 rfl Try.sizeOf3 rfl) rfl fun a w hS => st1 hS (ldb 0 rfl hB4415 rfl rfl Try.isAgg3) rfl fun a w hS => st1 hS (mv rfl) rfl fun a w hS => st1 hS (bin rfl rfl rfl) rfl fun a w hS => st1 hS (nck rfl) rfl fun a w hS => st1 hS (fad rfl Try.runUnderlying63 rfl Try.sizeOf48 rfl) rfl fun a w hS => st1 hS (fad rfl Try.runUnderlying48 rfl Try.sizeOf3 rfl) rfl fun a w hS => sto 0 ([.int .i64 (w64 (r4412.place_.at_ + n_4416)), str r4412.text_]) hS rfl rfl hB4415 rfl rfl rfl rfl Try.sizeOf3 fun w f4436 hB4437 hS => wpList_nil <| then_n <| wp_seq <| wp_region_list <| st1 hS (mv rfl) rfl fun a w hS => st1 hS (mv rfl) rfl fun a w hS => ?_
    obtain ⟨hk4438, hM⟩ := wp_chk hM
    refine st1 hS (shl rfl rfl hk4438) rfl fun a w hS => st1 hS (bin rfl rfl rfl) rfl fun a w hS => st1 hS (bin rfl rfl rfl) rfl fun a w hS => st1 hS (cvi rfl Try.runUnderlying77 Try.runUnderlying53) rfl fun a w hS => st1x (v := Value.int .u32) (x0 := (wr .u32 (iand .u64 v4435 (wr .u64 ((ishl .u64 (1 : Int) n_4416) - (1 : Int)))))) hS (asg rfl) rfl fun v4439 a w hz hS => ?_
    have hM := lt_to hz hM; clear hz
    refine st1 hS (asg rfl) rfl fun a w hS => wpList_nil <| then_n <| wp_ret ?_
    exact s_ret (rs := [4, 5]) hS rfl rfl (hret v4439 (0 : Int) (w64 (r4412.place_.at_ + n_4416)) f4436 w (wp_ok hM) hB4437 (hS.st.pick [0] (by kernel_rfl)))

theorem huff_Table_Next_c {H : Imm} {F : List Frag} {w : World} {R : Ending → World → Prop} {kr : (Int × Int × Int) → Prop} {kp : Value → Prop} (hG : Gl H) (K : Nat) (t4388 : T_huff_Table) (r4397 : T_bits_Reader) (b4389 : Nat) (f4390 : Frag) (A4393 : Option Addr) (c4394 : Nat) (f4395 : Frag) (b4398 : Nat) (f4399 : Frag) (hB4391 : Blk f4390 b4389 ((t4388.counts_.flatMap (ci .i64)) ++ [.slice A4393 t4388.symbols_.length c4394]) 61) (hl4392 : t4388.counts_.length = 16) (hV4396 : Vec 3 (ci .i64) 1 A4393 t4388.symbols_ c4394 f4395) (hB4400 : Blk f4399 b4398 ([.int .i64 r4397.place_.at_, str r4397.text_]) 63)
    (hS : St w H [f4390, f4395, f4399] F) (hm : (huff_Table_Next.m K t4388 r4397).wp kr kp)
    (hret : ∀ (x4504 : Int) (x4505 : Int) (at_4506 : Int) (f4507 : Frag) (w : World), kr (x4504, x4505, at_4506) → (Blk f4507 b4398 ([.int .i64 at_4506, str r4397.text_]) 63) → St w H [f4507, f4390, f4395] F → R (.returned (.tuple ⟨[.int .i64 x4504, .int .i64 x4505]⟩)) w) :
    Calls Try.prog 17 ⟨[ptr b4389 0, ptr b4398 0]⟩ w R := by
 refine enter Try.func17 rfl Try.ntmps17 rfl hS fun a w hS => ?_
 have hM := hm; clear hm
 rw [huff_Table_Next.m] at hM
 refine wp_seq <| wp_region_list <| st1 hS (asg rfl) rfl fun a w hS => st1 hS (asg rfl) rfl fun a w hS => wpList_nil <| then_n <| wp_seq <| wp_seq <| wp_region_list <| st1 hS (mv rfl) rfl fun a w hS => st1 hS (eqNil rfl rfl Try.runUnderlying30) rfl fun a w hS => st1 hS (mv rfl) rfl fun a w hS => st1g hS rfl rfl rfl rfl (mv rfl) rfl fun a w hS => st1g hS rfl rfl rfl rfl (eqNil rfl rfl Try.runUnderlying33) rfl fun a w hS => st1 hS (pk rfl rfl rfl) rfl fun a w hS => wpList_nil <| then_n <| s_condF hS rfl <| wp_skip <| then_n <| wp_seq <| wp_region_list <| st1 hS (mv rfl) rfl fun a w hS => st1 hS (nck rfl) rfl fun a w hS => st1 hS (ldbA 2 rfl hB4400 rfl ([.int .i64 r4397.place_.at_, str r4397.text_]) rfl rfl Try.isAgg63 Try.sizeOf63) rfl fun a w hS => alc ([.int .i64 (0 : Int), str ([] : List UInt8)]) hS Try.zeroValue63 rfl rfl fun w b4401 f4402 hB4403 hS => stB 0 ([.int .i64 r4397.place_.at_, str r4397.text_]) ([.int .i64 r4397.place_.at_, str r4397.text_]) hS rfl rfl hB4403 rfl rfl Try.sizeOf63 (by simp [Value.oneCell']) (Nat.le_of_ble_eq_true rfl) rfl fun w f4404 hB4405 hS => wpList_nil <| then_n <| wp_seq <| wp_region_list <| st1 hS (asg rfl) rfl fun a w hS => st1 hS (asg rfl) rfl fun a w hS => st1 hS (asg rfl) rfl fun a w hS => wpList_nil <| then_n <| seq_joinJ (fun a w => ∃ (at_4498 : Int) (f4499 : Frag), Ss 81 [] [(1, ptr b4398 0), (6, ptr b4401 0)] H [f4499, f4390, f4395, f4404] F a w ∧ (Blk f4499 b4398 ([.int .i64 at_4498, str r4397.text_]) 63) ∧ (huff_Table_Next.j2 K r4397 at_4498).wp kr kp) (fun J4501 hJ4501 => ?_) ?_
 ·refine wp_seq ?_
  refine wp_region_list <| st1 hS (asg rfl) rfl fun a w hS => wpList_nil <| then_n <| wp_block <| s_loopJ (fun k4477 a w => ∃ (at_4470 : Int) (f4471 : Frag) (code4473 : Int) (first4474 : Int) (passed4475 : Int) (n_4476 : Int), Ss 81 [] [(0, ptr b4389 0), (1, ptr b4398 0), (6, ptr b4401 0), (7, .int .i64 code4473), (8, .int .i64 first4474), (9, .int .i64 passed4475), (10, .int .i64 n_4476)] H [f4471, f4390, f4395, f4404] F a w ∧ (Blk f4471 b4398 ([.int .i64 at_4470, str r4397.text_]) 63) ∧ (huff_Table_Next.l1 K t4388 r4397 k4477 at_4470 code4473 first4474 passed4475 n_4476).wp kr kp) K ?_ ?_ ?_
  ·exact ⟨r4397.place_.at_, f4399, (0 : Int), (0 : Int), (0 : Int), (1 : Int), hS.to [3, 1, 2, 0] (by kernel_rfl) ⟨rfl, rfl, rfl, rfl, rfl, rfl, rfl, trivial⟩, hB4400, hM⟩
  ·intro a w hI; obtain ⟨_, _, _, _, _, _, _, _, hM⟩ := hI; exact wp_fail hM
  ·intro k4477 a w hI J4497 hJ4497
   obtain ⟨at_4470, f4471, code4473, first4474, passed4475, n_4476, hS, hB4472, hM⟩ := hI
   rw [huff_Table_Next.l1] at hM
   refine wp_seq <| wp_seq <| wp_region_list <| st1 hS (mv rfl) rfl fun a w hS => st1 hS (mv rfl) rfl fun a w hS => st1 hS (nck rfl) rfl fun a w hS => st1 hS (fad rfl Try.runUnderlying61 rfl Try.sizeOf22 rfl) rfl fun a w hS => st1 hS (ldP 1 rfl hB4391 rfl (by rfl) (flat_ln (g := (ci .i64)) (sz := 1) (fun _ => rfl) hl4392) Try.isAgg22) rfl fun a w hS => st1 hS (lenV rfl Try.runUnderlying22) rfl fun a w hS => st1 hS (bin rfl rfl rfl) rfl fun a w hS => wpList_nil <| then_n <| s_cond hS rfl hM (fun hb4478 hM => ?_) (fun hb4478 hM => ?_)
   ·refine wp_skip ?_
    refine then_n <| wp_seq <| wp_block <| wp_seq <| wp_region_list <| st1 hS (mv rfl) rfl fun a w hS => s_call hS rfl Try.call28 (bits_Reader_Bits_c hG K (T_bits_Reader.mk (T_bits_place.mk at_4470) r4397.text_) (1 : Int) b4398 f4471 hB4472 (hS.st.part 1 [0, 1, 2, 3] (by kernel_rfl)) (wp_bind hM) (fun x4479 x4480 at_4481 f4482 w hM h4483 hst => s_back hS.ev hst.appF rfl fun hS => ?_))
    replace hS : Ss _ _ _ H [f4482, f4390, f4395, f4404] F _ _ := hS
    refine st1 hS (mv rfl) rfl fun a w hS => st1 hS (ex rfl rfl) rfl fun a w hS => st1 hS (ex rfl rfl) rfl fun a w hS => st1 hS (asg rfl) rfl fun a w hS => st1 hS (asg rfl) rfl fun a w hS => wpList_nil <| then_n <| wp_seq <| wp_seq <| wp_region_list <| st1 hS (mv rfl) rfl fun a w hS => st1 hS (bin rfl rfl rfl) rfl fun a w hS => wpList_nil <| then_n <| s_cond hS rfl hM (fun hb4484 hM => ?_) (fun hb4484 hM => ?_)
    ·refine wp_seq ?_
     refine wp_region_list <| st1 hS (mv rfl) rfl fun a w hS => st1 hS (ldbA 3 rfl hB4405 rfl ([.int .i64 r4397.place_.at_, str r4397.text_]) rfl rfl Try.isAgg63 Try.sizeOf63) rfl fun a w hS => st1 hS (nck rfl) rfl fun a w hS => stB 0 ([.int .i64 r4397.place_.at_, str r4397.text_]) ([.int .i64 r4397.place_.at_, str r4397.text_]) hS rfl rfl h4483 rfl rfl Try.sizeOf63 (by simp [Value.oneCell']) (Nat.le_of_ble_eq_true rfl) rfl fun w f4485 hB4486 hS => wpList_nil <| then_n <| wp_seq <| wp_region_list <| st1 hS (mv rfl) rfl fun a w hS => st1 hS (asg rfl) rfl fun a w hS => st1 hS (asg rfl) rfl fun a w hS => wpList_nil <| then_n <| wp_ret <| then_ret (blk_ret (then_ret (then_ret (blk_ret (then_ret ?_)))))
     exact s_ret (rs := [4, 5]) hS rfl rfl (hret (0 : Int) x4480 r4397.place_.at_ f4485 w (wp_ok hM) hB4486 (hS.st.pick [0, 1, 2] (by kernel_rfl)))
    ·refine wp_skip ?_
     refine then_n <| wp_seq <| wp_region_list <| st1 hS (mv rfl) rfl fun a w hS => st1 hS (shl rfl rfl rfl) rfl fun a w hS => st1 hS (mv rfl) rfl fun a w hS => st1 hS (cvi rfl Try.runUnderlying53 Try.runUnderlying3) rfl fun a w hS => st1 hS (bin rfl rfl rfl) rfl fun a w hS => st1x (v := Value.int .i64) (x0 := (ior .i64 (ishl .i64 code4473 (1 : Int)) (wr .i64 x4479))) hS (asg rfl) rfl fun code4487 a w hz hS => ?_
     have hM := lt_to hz hM; clear hz
     refine wpList_nil <| then_n <| wp_seq <| wp_region_list <| st1 hS (mv rfl) rfl fun a w hS => st1 hS (shl rfl rfl rfl) rfl fun a w hS => st1x (v := Value.int .i64) (x0 := (ishl .i64 first4474 (1 : Int))) hS (asg rfl) rfl fun first4488 a w hz hS => ?_
     have hM := lt_to hz hM; clear hz
     refine wpList_nil <| then_n <| wp_seq <| wp_region_list <| st1 hS (mv rfl) rfl fun a w hS => st1 hS (mv rfl) rfl fun a w hS => st1 hS (nck rfl) rfl fun a w hS => st1 hS (fad rfl Try.runUnderlying61 rfl Try.sizeOf56 rfl) rfl fun a w hS => ?_
     obtain ⟨hk4489, hM⟩ := wp_chk hM
     refine st1 hS (ixB rfl rfl Try.runUnderlying56 Try.sizeOf3 hk4489) rfl fun a w hS => st1 hS (ldR (xs := t4388.counts_) (g := (ci .i64)) (pre := []) (post := [.slice A4393 t4388.symbols_.length c4394]) 1 rfl hB4391 rfl (by simp) rfl (fun _ => rfl) (inb_len hl4392 hk4489) rfl Try.isAgg3) rfl fun a w hS => st1x (v := Value.int .i64) (x0 := (rd t4388.counts_ n_4476)) hS (asg rfl) rfl fun k_4490 a w hz hS => ?_
     have hM := lt_to hz hM; clear hz
     refine wpList_nil <| then_n <| wp_seq <| wp_seq <| wp_region_list <| st1 hS (mv rfl) rfl fun a w hS => st1 hS (mv rfl) rfl fun a w hS => st1 hS (bin rfl rfl rfl) rfl fun a w hS => st1 hS (mv rfl) rfl fun a w hS => st1 hS (bin rfl rfl rfl) rfl fun a w hS => wpList_nil <| then_n <| s_cond hS rfl hM (fun hb4491 hM => ?_) (fun hb4491 hM => ?_)
     ·refine wp_seq ?_
      refine wp_region_list <| st1 hS (mv rfl) rfl fun a w hS => st1 hS (nck rfl) rfl fun a w hS => st1 hS (fad rfl Try.runUnderlying61 rfl Try.sizeOf22 rfl) rfl fun a w hS => st1 hS (ldP 1 rfl hB4391 rfl (by rfl) (flat_ln (g := (ci .i64)) (sz := 1) (fun _ => rfl) hl4392) Try.isAgg22) rfl fun a w hS => st1 hS (mv rfl) rfl fun a w hS => st1 hS (mv rfl) rfl fun a w hS => st1 hS (bin rfl rfl rfl) rfl fun a w hS => st1 hS (mv rfl) rfl fun a w hS => st1 hS (bin rfl rfl rfl) rfl fun a w hS => ?_
      obtain ⟨hk4492, hM⟩ := wp_chk hM
      refine st1 hS (ixV rfl rfl Try.runUnderlying22 Try.sizeOf3 (hV4396.rd (i := 2) rfl) (fun _ => rfl) rfl hk4492) rfl fun a w hS => st1 hS (ldV0 rfl (hV4396.rd (i := 2) rfl) (fun _ => rfl) hk4492 rfl Try.isAgg3) rfl fun a w hS => st1x (v := Value.int .i64) (x0 := (rd t4388.symbols_ (w64 ((w64 (passed4475 + code4487)) - first4488)))) hS (asg rfl) rfl fun v4493 a w hz hS => ?_
      have hM := lt_to hz hM; clear hz
      refine st1 hS (asg rfl) rfl fun a w hS => wpList_nil <| then_n <| wp_ret <| then_ret (blk_ret (then_ret (then_ret (blk_ret (then_ret ?_)))))
      exact s_ret (rs := [4, 5]) hS rfl rfl (hret v4493 (0 : Int) at_4481 f4482 w (wp_ok hM) h4483 (hS.st.pick [0, 1, 2] (by kernel_rfl)))
     ·refine wp_skip ?_
      refine then_n <| wp_seq <| wp_region_list <| st1 hS (mv rfl) rfl fun a w hS => st1 hS (mv rfl) rfl fun a w hS => st1 hS (bin rfl rfl rfl) rfl fun a w hS => st1x (v := Value.int .i64) (x0 := (w64 (first4488 + k_4490))) hS (asg rfl) rfl fun first4494 a w hz hS => ?_
      have hM := lt_to hz hM; clear hz
      refine wpList_nil <| then_n <| wp_region_list <| st1 hS (mv rfl) rfl fun a w hS => st1 hS (mv rfl) rfl fun a w hS => st1 hS (bin rfl rfl rfl) rfl fun a w hS => st1x (v := Value.int .i64) (x0 := (w64 (passed4475 + k_4490))) hS (asg rfl) rfl fun passed4495 a w hz hS => ?_
      have hM := lt_to hz hM; clear hz
      refine wpList_nil <| blk_n (then_n ?_)
      refine wp_region_list <| st1 hS (mv rfl) rfl fun a w hS => st1 hS (bin rfl rfl rfl) rfl fun a w hS => st1x (v := Value.int .i64) (x0 := (w64 (n_4476 + (1 : Int)))) hS (asg rfl) rfl fun n_4496 a w hz hS => ?_
      have hM := lt_to hz hM; clear hz
      refine wpList_nil <| then_n ?_
      exact hJ4497 _ _ ⟨at_4481, f4482, code4487, first4494, passed4495, n_4496, hS.to [0, 1, 2, 3] (by kernel_rfl) ⟨rfl, rfl, rfl, rfl, rfl, rfl, rfl, trivial⟩, h4483, hM⟩
   ·refine wp_exit ?_
    refine then_ex (then_ex (blk_same (then_n ?_)))
    exact hJ4501 _ _ ⟨at_4470, f4471, hS.to [0, 1, 2, 3] (by kernel_rfl) ⟨rfl, rfl, trivial⟩, hB4472, hM⟩
 ·intro a w hI
  obtain ⟨at_4498, f4499, hS, hB4500, hM⟩ := hI
  rw [huff_Table_Next.j2] at hM
  refine wp_seq <| wp_region_list <| st1 hS (mv rfl) rfl fun a w hS => st1 hS (ldbA 3 rfl hB4405 rfl ([.int .i64 r4397.place_.at_, str r4397.text_]) rfl rfl Try.isAgg63 Try.sizeOf63) rfl fun a w hS => st1 hS (nck rfl) rfl fun a w hS => stB 0 ([.int .i64 r4397.place_.at_, str r4397.text_]) ([.int .i64 r4397.place_.at_, str r4397.text_]) hS rfl rfl hB4500 rfl rfl Try.sizeOf63 (by simp [Value.oneCell']) (Nat.le_of_ble_eq_true rfl) rfl fun w f4502 hB4503 hS => wpList_nil <| then_n <| wp_seq <| wp_region_list <| st1 hS (asg rfl) rfl fun a w hS => st1 hS (asg rfl) rfl fun a w hS => wpList_nil <| then_n <| wp_ret ?_
  exact s_ret (rs := [4, 5]) hS rfl rfl (hret (0 : Int) (3 : Int) r4397.place_.at_ f4502 w (wp_ok hM) hB4503 (hS.st.pick [0, 1, 2] (by kernel_rfl)))

theorem bits_Reader_At_c {H : Imm} {F : List Frag} {w : World} {R : Ending → World → Prop} {kr : Unit → Prop} {kp : Value → Prop} (hG : Gl H) (K : Nat) (r4539 : T_bits_Reader) (b4540 : Nat) (f4541 : Frag) (hB4542 : Blk f4541 b4540 ([.int .i64 r4539.place_.at_, str r4539.text_]) 63)
    (hS : St w H [f4541] F) (hm : (bits_Reader_At.m K r4539).wp kr kp)
    (hret : ∀ (w : World), kr () → St w H [f4541] F → R (.returned (.int .i64 r4539.place_.at_)) w) :
    Calls Try.prog 19 ⟨[ptr b4540 0]⟩ w R := by
 refine enter Try.func19 rfl Try.ntmps19 rfl hS fun a w hS => ?_
 have hM := hm; clear hm
 rw [bits_Reader_At.m] at hM
 refine wp_seq <| wp_region_list <| st1 hS (asg rfl) rfl fun a w hS => wpList_nil <| then_n <| wp_seq <| wp_seq <| wp_region_list <| st1 hS (mv rfl) rfl fun a w hS => st1 hS (eqNil rfl rfl Try.runUnderlying33) rfl fun a w hS => wpList_nil <| then_n <| s_condF hS rfl <| wp_skip <| then_n <| wp_seq <| wp_region_list <| st1 hS (mv rfl) rfl fun a w hS => st1 hS (nck rfl) rfl fun a w hS => st1 hS (fad rfl Try.runUnderlying63 rfl Try.sizeOf48 rfl) rfl fun a w hS => st1 hS (fad rfl Try.runUnderlying48 rfl Try.sizeOf3 rfl) rfl fun a w hS => st1 hS (ldb 0 rfl hB4542 rfl rfl Try.isAgg3) rfl fun a w hS => st1 hS (asg rfl) rfl fun a w hS => wpList_nil <| then_n <| wp_ret ?_
 exact s_ret (rs := [2]) hS rfl rfl (hret w (wp_ok hM) (hS.st.pick [0] (by kernel_rfl)))
end Go.TryS
